/- Parts. -/
import Derived.Test.YtpfjdlicdljhaaaDoorM06
import Derived.KernelRfl
set_option maxHeartbeats 4000000
namespace Go.Proofs.YtpfjdlicdljhaaaDoor.Hx
def Call.Le(c c':Call):Prop:=∀f a h r,c f a h=some r->c' f a h=some r
section
variable{n:Nat}{c c':Call}(hc:c.Le c')
include hc
theorem Hz{o:Oper} {t:Tm} {h:Hp} {r:V×Hp} (a:(GC o).f c t h=some r):(GC o).f c' t h=some r:=by
 unfold GC at a⊢;split
 ·simp_all
 ·simp_all
 ·rename_i h0 e;split at a
  ·simp_all
  ·simp_all
  ·simp only[fh]at a⊢;obtain⟨x,d,b⟩:=a;refine⟨x,d,?_⟩
   cases x with
   |val v h'=>exact b
   |call f args=>exact hc _ _ _ _ b
theorem Rr{all:List Oper} {o:Oper} {a:SF} (j:∀t h r,a.f c t h=some r->a.f c' t h=some r) {t:Tm} {h:Hp} {r:Tm×Hp} (e:(G8 n all o a).f c t h=some r):(G8 n all o a).f c' t h=some r:=by
 unfold G8 at e⊢
 cases hd:w9 n o with
 |none=>rw[hd]at e;cases e
 | some d=>
   rw[hd]at e;simp only at e⊢
   cases hw:jW n all o with
   | none=>
     grind[yN,fh,Hz]
   | some g=>
     rw[hw]at e;simp only[fh]at e⊢;obtain⟨b,i,k⟩:=e;refine⟨b,i,?_⟩;cases b <;> grind[fh,Hz]
theorem BB{all:List Oper}:∀(os:List Oper) {t:Tm} {h:Hp} {r:Tm×Hp},(sh n all os).f c t h=some r->(sh n all os).f c' t h=some r
 |[],_,_,_,hv=>hv
 |o::os,_,_,_,hv=>Rr hc (λ_ _ _ h=>BB os h) hv
omit hc in
theorem RL {all:List Oper} {ws:List It} {a:It} {d:DF} {rest:LF} (hr:∀t h rs r,rest.f c t h rs=some r->rest.f c' t h rs=some r) {t:Tm} {h:Hp} {rs:List Rec} {r:Tm×Hp} (hv:(Fh n all ws a d rest).f c t h rs=some r) :
  (Fh n all ws a d rest).f c' t h rs=some r:=by
 unfold Fh at hv⊢;simp only[fh]at hv⊢;obtain⟨b,h1,h2⟩:=hv;refine⟨b,h1,?_⟩;cases b <;> grind[fh]
omit hc in
theorem PH {all:List Oper} {ws:List It} {a:It} {d:DF} {rest:LF} (hr:∀t h rs r,rest.f c t h rs=some r->rest.f c' t h rs=some r) {t:Tm} {h:Hp} {rs:List Rec} {r:Tm×Hp} (hv:(D2 n all ws a d rest).f c t h rs=some r) :
  (D2 n all ws a d rest).f c' t h rs=some r:=by
 unfold D2 at hv⊢;simp only[fh]at hv⊢;obtain⟨b,h1,h2⟩:=hv;refine⟨b,h1,?_⟩;cases b <;> grind[fh]
theorem OT{all:List Oper} {k:Nat} {a:It} {d:DF} {e:LF} (j:∀t h rs r,e.f c t h rs=some r->e.f c' t h rs=some r) {t:Tm} {h:Hp} {rs:List Rec} {r:Tm×Hp} (g:(AA n all k a d e).f c t h rs=some r) :
  (AA n all k a d e).f c' t h rs=some r:=by
 unfold AA at g⊢;simp only[gL,fh]at g⊢;obtain⟨h0,b,i,l⟩:=g;refine⟨h0,b,i,?_⟩;cases b <;> grind[fh,gL,Hz]
theorem yi{all:List Oper} {ws:List It}:∀(l:List It) (k:Nat) {t:Tm} {h:Hp} {rs:List Rec} {r:Tm×Hp},(vY n all ws l k).f c t h rs=some r->(vY n all ws l k).f c' t h rs=some r
 |[],_,_,_,_,_,hv=>hv
 | a ::l,k,t,h,rs,r,hv=>by
   unfold vY at hv⊢
   cases hd:w9 n a.o with
   |none=>simp_all
   | some d=>
     rw[hd]at hv;simp only at hv⊢;split
     ·rename_i hk;rw[hk]at hv;exact RL (λ_ _ _ _ h=>yi l _ h) hv
     ·rename_i hk;rw[hk]at hv;exact PH (λ_ _ _ _ h=>yi l _ h) hv
     ·rename_i h0 b
      split at hv
      ·simp_all
      ·simp_all
      ·exact OT hc (λ_ _ _ _ h=>yi l _ h) hv
theorem QZ{all:List Oper} {t:Tm} {h:Hp} {r:Tm×Hp} (a:(Kg n all).f c t h=some r):(Kg n all).f c' t h=some r:=by
 unfold Kg at a⊢
 cases hb:Nt (items all 0 []) (gK (items all 0 []))&&uc (items all 0 []) (gK (items all 0 [])) (order (items all 0 []) (gK (items all 0 [])) (gK (items all 0 [])) 0) 0 0 with
 |true=>grind[yi]
 | false=>
   rw[hb]at a;simp only at a⊢
   cases hf:Hl (items all 0 []) (gK (items all 0 []))with
   |none=>rw[hf]at a;cases a
   | some p=>
     rw[hf]at a
     cases hb2:N2 (items all 0 [])&&uc (items all 0 []) (gK (items all 0 [])) (order (items all 0 []) (gK (items all 0 [])) (gK (items all 0 [])) 0) 0 0 with
     |false=>rw[hb2]at a;cases a
     | true=>
       grind[fh,gL,yi]
theorem lW{m i:Nat} (d:m<=i):∀(k:Code) {t:Tm} {h:Hp} {r:X×Tm×Hp},(hZ n k).f c m t h=some r->(hZ n k).f c' i t h=some r
 | .skip,_,_,_,a=>a
 | .seq x y,t,h,r,a=>by
   simp only[hZ]at a⊢;rcases Hs a with⟨s,o,g,l⟩|⟨g,l⟩
   ·rw[lW d x g];exact lW d y l
   ·rw[lW d x g]
    obtain⟨p,t',h'⟩:=r
    cases p with
    |normal=>simp_all
    |exit id=>rfl
    |ret=>rfl
 | .cond e x y,t,h,r,a=>by
   simp only[hZ,fh]at a⊢;obtain⟨v,o,u⟩:=a;refine⟨v,o,?_⟩;split
   ·rename_i b
    cases b with
    |true=>exact lW d x u
    |false=>exact lW d y u
   simp_all
 | .block id x,t,h,r,a=>by
   simp only[hZ]at a⊢
   cases hr:(hZ n x).f c m t h with
   |none=>rw[hr]at a;cases a
   |some r'=>rw[hr]at a;rw[lW d x hr];exact a
 | .loop x,t,h,r,a=>by
   simp only [hZ]at a⊢;have w:∀(k k':Nat) (t:Tm) (h:Hp),k<=k'->Dp (λt h=>(hZ n x).f c m t h) k t h=some r->Dp (λt h=>(hZ n x).f c' i t h) k' t h=some r:=by
     intro k
     induction k with
     |zero=>intro k' t h _ a;cases a
     | succ k z=>
       intro k' t h hk a;obtain⟨k',rfl⟩:∃j,k' = j+1:=⟨k'-1,by omega⟩
       have q:CN ((hZ n x).f c m t h) (Dp (λt h=>(hZ n x).f c m t h) k)=some r:=a;show CN ((hZ n x).f c' i t h) (Dp (λt h=>(hZ n x).f c' i t h) k')=some r;rcases Hs q with⟨s,o,g,l⟩|⟨g,l⟩
       ·rw[lW d x g];exact z k' s o (by omega) l
       ·rw[lW d x g]
        obtain⟨p,t',h'⟩:=r
        cases p with
        |normal=>simp_all
        |exit id=>rfl
        |ret=>rfl
   grind
 | .exit id,_,_,_,a=>a
 | .ret,_,_,_,a=>a
 | .region id ops false,t,h,r,a=>by
   grind[hZ,fh,BB]
 | .region id ops true,t,h,r,a=>by
   grind[hZ,fh,QZ]
 | .rangeFunc ..,_,_,_,a=>by cases a
 | .scope _,_,_,_,a=>by cases a
 | .label _,_,_,_,a=>by cases a
 | .goto _,_,_,_,a=>by cases a
 | .refuse _,_,_,_,a=>by cases a
theorem OV{C:fk} {m a:Nat} (d:m<=a) {f:Nat} {args:List V} {h:Hp} {r:V×Hp} (b:(IE C f).f c m args h=some r):(IE C f).f c' a args h=some r:=by
 unfold IE at b⊢;cases hf:P0.funcs[f]? <;> grind[SQ,gL,fh,lW]
theorem Mh{C:fk} {m a:Nat} (b:m<=a):∀(l:List (Nat×List V)) {h h':Hp},L9 C c m l h=some h'->L9 C c' a l h=some h'
 |[],_,_,hv=>hv
 | x::l,_,_,hv=>by
   simp only[L9,fh]at hv⊢;obtain⟨r,d,e⟩:=hv;exact⟨r,OV hc b d,Mh b l e⟩
theorem Q7{C:fk} {m b:Nat} (d:m<=b) {f:Nat} {args:List V} {h:Hp} {r:V×Hp} (a:(Cv C f).f c m args h=some r):(Cv C f).f c' b args h=some r:=by
 unfold Cv at a⊢
 cases hf:P0.funcs[f]? with
 |none=>simp_all
 | some fn=>
   rw[hf]at a;simp only at a⊢
   cases hb:fn.body with
   |none=>simp_all
   | some k=>
     rw[hb]at a;simp only at a⊢
     cases hk:C.K f args h with
     |some u=>rw[hk]at a;exact a
     | none=>
       rw[hk]at a
       grind[Xi,gL,fh,lW,id,Mh]
end
theorem wi{C:fk} {m b:Nat} (e:m<=b):∀{d d':Nat},d<=d'->(jE C m d).Le (jE C b d')
 |0,_,_=>λ_ _ _ _ h=>(nomatch h)
 |d+1,0,h=>by omega
 | d+1,d' + 1,h=>λf a g r i=>by
   have c:(Cv C f).f (jE C m d) m a g=some r:=i;show(Cv C f).f (jE C b d') b a g=some r;exact Q7 (wi e (by omega)) e c
inductive KE where
 |names (f:Nat) (l:List (Nat×V))
 |yes (f:Nat)
noncomputable def RP:List (Nat×V)->Nat->Option V
 |[],_=>none
 |x::l,n=>Bool.rec (motive:=λ_=>Option V) (RP l n) (some x.2) (Nat.beq x.1 n)
noncomputable def KE.ask(e:KE) (f:Nat) (args:List V):Option V:=match e with
 | .names g l=>bB (Nat.beq f g) (match args with
   |[.int .i64 (.ofNat n)]=>RP l n
   |_=>none)
 | .yes g=>bB (Nat.beq f g) (match args with
   |[]=>some (.bool true)
   |_=>none)
noncomputable def HU:List KE->Nat->List V->Option V
 |[],_,_=>none
 |e::es,f,args=>Xi (e.ask f args) (λv=>some v) (HU es f args)
def isV(v:V):Option (V×Hp)->Bool
 |some (u,_)=>V.beq u v
 |_=>false
theorem Lp{C:fk} (i:vQ C) {m d n f:Nat} {args:List V} {v:V} (s:P0.globals.size<=n) (l:∃fn c,P0.funcs[f]? =some fn/\fn.body=some c) (a:isV v (jE C m d f args {next:=n,tr:= .leaf})=true)
  (W:World) (t:Bt (λ_=>none) W) (gz:Array Value) (o:gh (λ_=>none) args gz.toList) :
  Calls P0 f gz W λe W'=>∃x,e = .returned x/\(v.flat=true->fF (λ_=>none) v x)/\Still W W':=by
 cases hr:jE C m d f args {next:=n,tr:= .leaf} with
 |none=>rw[hr]at a;cases a
 | some r=>
   obtain⟨u,h'⟩:=r;rw[hr]at a;obtain rfl:u=v:=V.eq_of_beq _ _ a;rcases Hn i m d f args _ _ _ (λ_=>none) W gz hr (by grind[WR.start]) o with⟨x,w,_⟩|⟨_,p⟩
   ·exfalso
    obtain ⟨fn,c,j,b⟩:=l;have g:=i.named f fn j;have:(callFunc f gz).run P0 W = .ok (.enter f gz) W:=by
      simp only[callFunc,uZ,run_program,tN,j,g,b,wB0,Oh,if_false];rfl
    simp_all
   ·refine Calls.mono p λe w' q=>?_
    obtain⟨y,x,rfl,k⟩:=q;exact⟨x,rfl,λh=>OE k.val h,k.frame.still zcD⟩
noncomputable def G7(C:fk) (m d n f:Nat):List (Nat×V)->Bool
 |[]=>true
 |x::l=>Bool.rec (motive:=λ_=>Bool) false (G7 C m d n f l) (isV x.2 (jE C m d f [.int .i64 (.ofNat x.1)] {next:=n,tr:= .leaf}))
theorem IW{C:fk} {m d n f:Nat}:∀(l:List (Nat×V)),G7 C m d n f l=true->∀k s,RP l k=some s->isV s (jE C m d f [.int .i64 (.ofNat k)] {next:=n,tr:= .leaf})=true
 |[],_,k,s,hk=>by cases hk
 | x ::l,h,k,s',hk=>by
   simp only[G7]at h;simp only[RP]at hk
   cases hb:isV x.2 (jE C m d f [.int .i64 (.ofNat x.1)] {next:=n,tr:= .leaf})with
   |false=>simp_all
   | true=>
     rw[hb]at h
     cases hx:Nat.beq x.1 k with
     | true=>
       simp_all
     | false=>
       rw[hx]at hk;exact IW l h k s' hk
inductive KOk (C:fk):KE->Prop where
 |names {m d n f l} (a:P0.globals.size<=n) (b:∃fn c,P0.funcs[f]? =some fn/\fn.body=some c) (h:G7 C m d n f l=true):KOk C (.names f l)
 |yes {m d n f} (a:P0.globals.size<=n) (b:∃fn c,P0.funcs[f]? =some fn/\fn.body=some c) (h:isTrue (jE C m d f [] {next:=n,tr:= .leaf})=true):KOk C (.yes f)
theorem Q2{r:Option (V×Hp)} (h:isTrue r=true):isV (.bool true) r=true:=by
 unfold isTrue at h;split at h
 ·rfl
 ·cases h
theorem KOk.calls{C:fk} (j:vQ C) {e:KE} (o:KOk C e) {f:Nat} {args:List V} {v:V} (a:e.ask f args=some v) (p:v.flat=true) (W:World) (q:Bt (λ_=>none) W) (gz:Array Value) (r:gh (λ_=>none) args gz.toList) :
  Calls P0 f gz W λe W'=>∃x,e = .returned x/\fF (λ_=>none) v x/\Still W W':=by
 cases o with
 | @names m d n g l c i h=>
   simp only[KE.ask,gL]at a;obtain⟨b,a⟩:=a;obtain rfl:=zR b;split at a
   ·rename_i k
    have s:=IW l h k v a
    grind[Calls.mono,Lp]
   ·cases a
 | @yes m d n g c i h=>
   simp only[KE.ask,gL]at a;obtain⟨b,a⟩:=a;obtain rfl:=zR b;split at a
   ·cases a
    exact Calls.mono (Lp j c i (Q2 h) W q gz r) (by simp_all)
   ·cases a
noncomputable def fk.more(C:fk)(l:List KE):fk:=⟨C.start,C.ext,λf args h=>Xi (HU l f args) (λv=>some v) (C.K f args h)⟩
theorem J1:∀(l:List KE) {f:Nat} {args:List V} {v:V},HU l f args=some v->∃e∈l,e.ask f args=some v
 |[],_,_,_,h=>by cases h
 | e ::es,f,args,v,h=>by
   simp only[HU]at h
   cases hq:e.ask f args with
   |some u=>rw[hq]at h;grind[KE.ask,Xi,HU,KE.ask]
   | none=>
     rw[hq]at h;obtain⟨e',a,h'⟩:=J1 es h
     grind
theorem vQ.more{C:fk} (a:vQ C) {l:List KE} (i:∀e∈l,KOk C e):vQ (C.more l) where
 Kf:=a.Kf
 start:=a.start
 mixed:=a.mixed
 named:=a.named
 ext:=a.ext
 known:=λf args v h hk c b Δ W gz d g=>by
  simp only[fk.more]at hk
  cases hq:HU l f args with
  | some u=>
    rw[hq]at hk;have:u=v:=by simpa[Xi]using hk
    subst this;obtain⟨e,j,k⟩:=J1 l hq
    exact(i e j).calls a k b W d.SW.none gz g
  | none=>
    rw[hq]at hk;exact a.known f args v h (by grind[Xi]) c b Δ W gz d g
def E1:Nat->Ext
 |83=> .countByte
 |90=> .indexByte
 |_=> .none
theorem W6:(P0.funcs.toList.all λfn=>!(fn.name == "runtime.NumGoroutine"))=true:=by kernel_rfl
theorem mixed:P0.follows .mixedOrders=true:=by kernel_rfl
theorem WM:Nat.ble P0.globals.size 3=true:=by kernel_rfl
theorem zbB:P0.funcs[83]? =some Tryd.f83:=by unfold P0;exact Tryd.func83
theorem zba:P0.funcs[90]? =some Tryd.f90:=by unfold P0;exact Tryd.func90
theorem zbk(w:World):Bt (λ_=>none) w:=λg c h=>by simp[za6]at h
noncomputable def C1:fk:=⟨Ra,E1,λ_ _ _=>none⟩
theorem facts:vQ C1 where
 Kf:=λ_=>rfl
 start:=Ry
 known:=λ_ _ _ _ h=>nomatch h
 mixed:=mixed
 named:=λf fn a=>by
  have h:=Oj.1 W6 fn (by rw[Array.mem_toList_iff];exact Array.mem_of_getElem? a);simpa using h
 ext:=λf fn a i Δ args v gz w b c=>by
  by_cases d:f=83
  ·subst d;rw[zbB]at a;cases a;exact T6 zbB (by kernel_rfl) (by kernel_rfl) (by kernel_rfl) (by kernel_rfl) b c
  ·by_cases e:f=90
   ·subst e;rw[zba]at a;cases a;exact UH zba (by kernel_rfl) (by kernel_rfl) (by kernel_rfl) (by kernel_rfl) b c
   ·have g:C1.ext f = .none:=by
     show E1 f = .none;unfold E1;split
     ·exact absurd rfl d
     ·exact absurd rfl e
     ·rfl
    rw[g]at b;simp[Q8]at b
