/- Parts. -/
import Derived.Test.YtnehpeeglbgfpaaDoorM06
import Derived.KernelRfl
set_option maxHeartbeats 4000000
namespace Go.Proofs.YtnehpeeglbgfpaaDoor.Hx
def Call.Le(c c':Call):Prop:=∀f a h r,c f a h=some r->c' f a h=some r
section
variable{n:Nat}{c c':Call}(hc:c.Le c')
include hc
theorem Cj{o:Oper} {t:Tm} {h:Hp} {r:V×Hp} (a:(xW o).f c t h=some r):(xW o).f c' t h=some r:=by
 unfold xW at a⊢;split
 ·simp_all
 ·simp_all
 ·rename_i h0 e;split at a
  ·simp_all
  ·simp_all
  ·simp only[ez]at a⊢;obtain⟨x,d,b⟩:=a;refine⟨x,d,?_⟩
   cases x with
   |val v h'=>exact b
   |call f args=>exact hc _ _ _ _ b
theorem Lp{all:List Oper} {o:Oper} {a:SF} (j:∀t h r,a.f c t h=some r->a.f c' t h=some r) {t:Tm} {h:Hp} {r:Tm×Hp} (e:(zF n all o a).f c t h=some r):(zF n all o a).f c' t h=some r:=by
 unfold zF at e⊢
 cases hd:qt n o with
 |none=>rw[hd]at e;cases e
 | some d=>
   rw[hd]at e;simp only at e⊢
   cases hw:ji n all o with
   | none=>
     grind[tX,ez,Cj]
   | some g=>
     rw[hw]at e;simp only[ez]at e⊢;obtain⟨b,i,k⟩:=e;refine⟨b,i,?_⟩;cases b <;> grind[ez,Cj]
theorem yp{all:List Oper}:∀(os:List Oper) {t:Tm} {h:Hp} {r:Tm×Hp},(jS n all os).f c t h=some r->(jS n all os).f c' t h=some r
 |[],_,_,_,hv=>hv
 |o::os,_,_,_,hv=>Lp hc (λ_ _ _ h=>yp os h) hv
omit hc in
theorem Lw {all:List Oper} {ws:List It} {a:It} {d:DF} {rest:LF} (hr:∀t h rs r,rest.f c t h rs=some r->rest.f c' t h rs=some r) {t:Tm} {h:Hp} {rs:List Rec} {r:Tm×Hp} (hv:(Bz n all ws a d rest).f c t h rs=some r) :
  (Bz n all ws a d rest).f c' t h rs=some r:=by
 unfold Bz at hv⊢;simp only[ez]at hv⊢;obtain⟨b,h1,h2⟩:=hv;refine⟨b,h1,?_⟩;cases b <;> grind[ez]
omit hc in
theorem Kl {all:List Oper} {ws:List It} {a:It} {d:DF} {rest:LF} (hr:∀t h rs r,rest.f c t h rs=some r->rest.f c' t h rs=some r) {t:Tm} {h:Hp} {rs:List Rec} {r:Tm×Hp} (hv:(Aj n all ws a d rest).f c t h rs=some r) :
  (Aj n all ws a d rest).f c' t h rs=some r:=by
 unfold Aj at hv⊢;simp only[ez]at hv⊢;obtain⟨b,h1,h2⟩:=hv;refine⟨b,h1,?_⟩;cases b <;> grind[ez]
theorem KS{all:List Oper} {k:Nat} {a:It} {d:DF} {e:LF} (j:∀t h rs r,e.f c t h rs=some r->e.f c' t h rs=some r) {t:Tm} {h:Hp} {rs:List Rec} {r:Tm×Hp} (g:(wU n all k a d e).f c t h rs=some r) :
  (wU n all k a d e).f c' t h rs=some r:=by
 unfold wU at g⊢;simp only[fW,ez]at g⊢;obtain⟨h0,b,i,l⟩:=g;refine⟨h0,b,i,?_⟩;cases b <;> grind[ez,fW,Cj]
theorem uZ{all:List Oper} {ws:List It}:∀(l:List It) (k:Nat) {t:Tm} {h:Hp} {rs:List Rec} {r:Tm×Hp},(sy n all ws l k).f c t h rs=some r->(sy n all ws l k).f c' t h rs=some r
 |[],_,_,_,_,_,hv=>hv
 | a ::l,k,t,h,rs,r,hv=>by
   unfold sy at hv⊢
   cases hd:qt n a.o with
   |none=>simp_all
   | some d=>
     rw[hd]at hv;simp only at hv⊢;split
     ·rename_i b;rw[b]at hv;exact Lw (λ_ _ _ _ h=>uZ l _ h) hv
     ·rename_i b;rw[b]at hv;exact Kl (λ_ _ _ _ h=>uZ l _ h) hv
     ·rename_i h0 e
      split at hv
      ·simp_all
      ·simp_all
      ·exact KS hc (λ_ _ _ _ h=>uZ l _ h) hv
theorem L3{all:List Oper} {t:Tm} {h:Hp} {r:Tm×Hp} (a:(FP n all).f c t h=some r):(FP n all).f c' t h=some r:=by
 unfold FP at a⊢
 cases hb:IQ (items all 0 []) (gf (items all 0 []))&&rD (items all 0 []) (gf (items all 0 [])) (order (items all 0 []) (gf (items all 0 [])) (gf (items all 0 [])) 0) 0 0 with
 |true=>grind[uZ]
 | false=>
   rw[hb]at a;simp only at a⊢
   cases hf:CP (items all 0 []) (gf (items all 0 []))with
   |none=>rw[hf]at a;cases a
   | some p=>
     rw[hf]at a
     cases hb2:Jg (items all 0 [])&&rD (items all 0 []) (gf (items all 0 [])) (order (items all 0 []) (gf (items all 0 [])) (gf (items all 0 [])) 0) 0 0 with
     |false=>rw[hb2]at a;cases a
     | true=>
       grind[ez,fW,uZ]
theorem ku{m g:Nat} (d:m<=g):∀(k:Code) {t:Tm} {h:Hp} {r:X×Tm×Hp},(gL n k).f c m t h=some r->(gL n k).f c' g t h=some r
 | .skip,_,_,_,a=>a
 | .seq x y,t,h,r,a=>by
   simp only[gL]at a⊢;rcases CL a with⟨p,i,e1,e2⟩|⟨e1,e2⟩
   ·rw[ku d x e1];exact ku d y e2
   ·rw[ku d x e1]
    obtain⟨l,t',h'⟩:=r
    cases l with
    |normal=>simp_all
    |exit id=>rfl
    |ret=>rfl
 | .cond e x y,t,h,r,a=>by
   simp only[gL,ez]at a⊢;obtain⟨v,i,q⟩:=a;refine⟨v,i,?_⟩;split
   ·rename_i b
    cases b with
    |true=>exact ku d x q
    |false=>exact ku d y q
   simp_all
 | .block id x,t,h,r,a=>by
   simp only[gL]at a⊢
   cases hr:(gL n x).f c m t h with
   |none=>rw[hr]at a;cases a
   |some r'=>rw[hr]at a;rw[ku d x hr];exact a
 | .loop x,t,h,r,a=>by
   simp only[gL]at a⊢
   cases hf:tU n x with
   |some F=>simp only[hf]at a⊢;exact a
   |none=>
   simp only [hf]at a⊢;have s:∀(k k':Nat) (t:Tm) (h:Hp),k<=k'->zO (λt h=>(gL n x).f c m t h) k t h=some r->zO (λt h=>(gL n x).f c' g t h) k' t h=some r:=by
     intro k
     induction k with
     |zero=>intro k' t h _ a;cases a
     | succ k u=>
       intro k' t h w a;obtain⟨k',rfl⟩:∃j,k' = j+1:=⟨k'-1,by omega⟩
       have o:zw ((gL n x).f c m t h) (zO (λt h=>(gL n x).f c m t h) k)=some r:=a;show zw ((gL n x).f c' g t h) (zO (λt h=>(gL n x).f c' g t h) k')=some r;rcases CL o with⟨p,i,e1,e2⟩|⟨e1,e2⟩
       ·rw[ku d x e1];exact u k' p i (by omega) e2
       ·rw[ku d x e1]
        obtain⟨l,t',h'⟩:=r
        cases l with
        |normal=>simp_all
        |exit id=>rfl
        |ret=>rfl
   grind
 | .exit id,_,_,_,a=>a
 | .ret,_,_,_,a=>a
 | .region id ops false,t,h,r,a=>by
   grind[gL,ez,yp]
 | .region id ops true,t,h,r,a=>by
   grind[gL,ez,L3]
 | .rangeFunc ..,_,_,_,a=>by cases a
 | .scope _,_,_,_,a=>by cases a
 | .label _,_,_,_,a=>by cases a
 | .goto _,_,_,_,a=>by cases a
 | .refuse _,_,_,_,a=>by cases a
theorem KI{C:fe} {m a:Nat} (d:m<=a) {f:Nat} {args:List V} {h:Hp} {r:V×Hp} (b:(DV C f).f c m args h=some r):(DV C f).f c' a args h=some r:=by
 unfold DV at b⊢;cases hf:P0.funcs[f]? <;> grind[MT,fW,ez,ku]
theorem Iy{C:fe} {m a:Nat} (b:m<=a):∀(l:List (Nat×List V)) {h h':Hp},Hn C c m l h=some h'->Hn C c' a l h=some h'
 |[],_,_,hv=>hv
 | x::l,_,_,hv=>by
   simp only[Hn,ez]at hv⊢;obtain⟨r,d,e⟩:=hv;exact⟨r,KI hc b d,Iy b l e⟩
theorem LG{C:fe} {m b:Nat} (d:m<=b) {f:Nat} {args:List V} {h:Hp} {r:V×Hp} (a:(zk C f).f c m args h=some r):(zk C f).f c' b args h=some r:=by
 unfold zk at a⊢
 cases hf:P0.funcs[f]? with
 |none=>simp_all
 | some fn=>
   rw[hf]at a;simp only at a⊢
   cases hb:fn.body with
   |none=>simp_all
   | some k=>
     rw[hb]at a;simp only at a⊢
     cases hk:C.K f args h with
     |some u=>rw[hk]at a;exact a
     | none=>
       rw[hk]at a
       grind[QO,fW,ez,ku,id,Iy]
end
theorem sr{C:fe} {m b:Nat} (g:m<=b):∀{d c:Nat},d<=c->(jq C m d).Le (jq C b c)
 |0,_,_=>λ_ _ _ _ h=>(nomatch h)
 |d+1,0,h=>by omega
 | d+1,c+1,h=>λf a i r j=>by
   have e:(zk C f).f (jq C m d) m a i=some r:=j;show(zk C f).f (jq C b c) b a i=some r;exact LG (sr g (by omega)) g e
inductive KE where
 |names (f:Nat) (l:List (Nat×V))
 |yes (f:Nat)
noncomputable def MF:List (Nat×V)->Nat->Option V
 |[],_=>none
 |x::l,n=>Bool.rec (motive:=λ_=>Option V) (MF l n) (some x.2) (Nat.beq x.1 n)
noncomputable def KE.ask(e:KE) (f:Nat) (args:List V):Option V:=match e with
 | .names g l=>bB (Nat.beq f g) (match args with
   |[.int .i64 (.ofNat n)]=>MF l n
   |_=>none)
 | .yes g=>bB (Nat.beq f g) (match args with
   |[]=>some (.bool true)
   |_=>none)
noncomputable def Ew:List KE->Nat->List V->Option V
 |[],_,_=>none
 |e::es,f,args=>QO (e.ask f args) (λv=>some v) (Ew es f args)
def VN(v:V):Option (V×Hp)->Bool
 |some (u,_)=>V.beq u v
 |_=>false
theorem Gl{C:fe} (i:rU C) {m d n f:Nat} {args:List V} {v:V} (s:P0.globals.size<=n) (l:∃fn c,P0.funcs[f]? =some fn/\fn.body=some c) (a:VN v (jq C m d f args {next:=n,tr:= .leaf})=true)
  (W:World) (t:xS (λ_=>none) W) (fV:Array Value) (o:fT (λ_=>none) args fV.toList) :
  Calls P0 f fV W λe W'=>∃x,e = .returned x/\(v.flat=true->fq (λ_=>none) v x)/\Still W W':=by
 cases hr:jq C m d f args {next:=n,tr:= .leaf} with
 |none=>rw[hr]at a;cases a
 | some r=>
   obtain⟨u,h'⟩:=r;rw[hr]at a;obtain rfl:u=v:=V.eq_of_beq _ _ a;rcases CI i m d f args _ _ _ (λ_=>none) W fV hr (by grind[WR.start]) o with⟨x,w,_⟩|⟨_,p⟩
   ·exfalso
    obtain ⟨fn,c,j,b⟩:=l;have g:=i.named f fn j;have:(callFunc f fV).run P0 W = .ok (.enter f fV) W:=by
      simp only[callFunc,pR,run_program,oQ,j,g,b,Wi,J4,if_false];rfl
    simp_all
   ·refine Calls.mono p λe w' q=>?_
    obtain⟨y,x,rfl,k⟩:=q;exact⟨x,rfl,λh=>JZ k.val h,k.frame.still WS⟩
noncomputable def CU(C:fe) (m d n f:Nat):List (Nat×V)->Bool
 |[]=>true
 |x::l=>Bool.rec (motive:=λ_=>Bool) false (CU C m d n f l) (VN x.2 (jq C m d f [.int .i64 (.ofNat x.1)] {next:=n,tr:= .leaf}))
theorem EZ{C:fe} {m d n f:Nat}:∀(l:List (Nat×V)),CU C m d n f l=true->∀k s,MF l k=some s->VN s (jq C m d f [.int .i64 (.ofNat k)] {next:=n,tr:= .leaf})=true
 |[],_,k,s,hk=>by cases hk
 | x ::l,h,k,s',hk=>by
   simp only[CU]at h;simp only[MF]at hk
   cases hb:VN x.2 (jq C m d f [.int .i64 (.ofNat x.1)] {next:=n,tr:= .leaf})with
   |false=>simp_all
   | true=>
     rw[hb]at h
     cases hx:Nat.beq x.1 k with
     | true=>
       simp_all
     | false=>
       rw[hx]at hk;exact EZ l h k s' hk
inductive U3 (C:fe):KE->Prop where
 |names {m d n f l} (a:P0.globals.size<=n) (b:∃fn c,P0.funcs[f]? =some fn/\fn.body=some c) (h:CU C m d n f l=true):U3 C (.names f l)
 |yes {m d n f} (a:P0.globals.size<=n) (b:∃fn c,P0.funcs[f]? =some fn/\fn.body=some c) (h:isTrue (jq C m d f [] {next:=n,tr:= .leaf})=true):U3 C (.yes f)
theorem LC{r:Option (V×Hp)} (h:isTrue r=true):VN (.bool true) r=true:=by
 unfold isTrue at h;split at h
 ·rfl
 ·cases h
theorem U3.calls{C:fe} (j:rU C) {e:KE} (o:U3 C e) {f:Nat} {args:List V} {v:V} (a:e.ask f args=some v) (p:v.flat=true) (W:World) (q:xS (λ_=>none) W) (fV:Array Value) (r:fT (λ_=>none) args fV.toList) :
  Calls P0 f fV W λe W'=>∃x,e = .returned x/\fq (λ_=>none) v x/\Still W W':=by
 cases o with
 | @names m d n g l c i h=>
   simp only[KE.ask,fW]at a;obtain⟨b,a⟩:=a;obtain rfl:=tS b;split at a
   ·rename_i k
    have s:=EZ l h k v a
    grind[Calls.mono,Gl]
   ·cases a
 | @yes m d n g c i h=>
   simp only[KE.ask,fW]at a;obtain⟨b,a⟩:=a;obtain rfl:=tS b;split at a
   ·cases a
    exact Calls.mono (Gl j c i (LC h) W q fV r) (by simp_all)
   ·cases a
noncomputable def fe.more(C:fe)(l:List KE):fe:=⟨C.start,C.ext,λf args h=>QO (Ew l f args) (λv=>some v) (C.K f args h)⟩
theorem FL:∀(l:List KE) {f:Nat} {args:List V} {v:V},Ew l f args=some v->∃e∈l,e.ask f args=some v
 |[],_,_,_,h=>by cases h
 | e ::es,f,args,v,h=>by
   simp only[Ew]at h
   cases hq:e.ask f args with
   |some u=>rw[hq]at h;grind[KE.ask,QO,Ew,KE.ask]
   | none=>
     rw[hq]at h;obtain⟨e',a,h'⟩:=FL es h
     grind
theorem rU.more{C:fe} (a:rU C) {l:List KE} (j:∀e∈l,U3 C e):rU (C.more l) where
 GW:=a.GW
 start:=a.start
 mixed:=a.mixed
 named:=a.named
 ext:=a.ext
 known:=λf args v h c d b Δ W fV g i=>by
  simp only[fe.more]at c
  cases hq:Ew l f args with
  | some u=>
    rw[hq]at c;have:u=v:=by simpa[QO]using c
    subst this;obtain⟨e,k,m⟩:=FL l hq
    exact(j e k).calls a m b W g.Ly.none fV i
  | none=>
    rw[hq]at c;exact a.known f args v h (by grind[QO]) d b Δ W fV g i
def E1:Nat->Ext
 |71=> .countByte
 |78=> .indexByte
 |_=> .none
theorem Qv:(P0.funcs.toList.all λfn=>!(fn.name == "runtime.NumGoroutine"))=true:=by kernel_rfl
theorem mixed:P0.follows .mixedOrders=true:=by kernel_rfl
theorem QA:Nat.ble P0.globals.size 3=true:=by kernel_rfl
theorem Wf:P0.funcs[71]? =some Tryd.f71:=by unfold P0;exact Tryd.func71
theorem Wb:P0.funcs[78]? =some Tryd.f78:=by unfold P0;exact Tryd.func78
theorem V6(w:World):xS (λ_=>none) w:=λg c h=>by simp[V1]at h
noncomputable def C1:fe:=⟨Ls,E1,λ_ _ _=>none⟩
theorem facts:rU C1 where
 GW:=λ_=>rfl
 start:=LR
 known:=λ_ _ _ _ h=>nomatch h
 mixed:=mixed
 named:=λf fn a=>by
  have h:=JB.1 Qv fn (by rw[Array.mem_toList_iff];exact Array.mem_of_getElem? a);simpa using h
 ext:=λf fn a i Δ args v fV w b c=>by
  by_cases d:f=71
  ·subst d;rw[Wf]at a;cases a;exact NW Wf (by kernel_rfl) (by kernel_rfl) (by kernel_rfl) (by kernel_rfl) b c
  ·by_cases e:f=78
   ·subst e;rw[Wb]at a;cases a;exact N3 Wb (by kernel_rfl) (by kernel_rfl) (by kernel_rfl) (by kernel_rfl) b c
   ·have g:C1.ext f = .none:=by
     show E1 f = .none;unfold E1;split
     ·exact absurd rfl d
     ·exact absurd rfl e
     ·rfl
    rw[g]at b;simp[Mi]at b
