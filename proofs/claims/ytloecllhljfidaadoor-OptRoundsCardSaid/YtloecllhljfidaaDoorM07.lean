/- Parts. -/
import Derived.Test.YtloecllhljfidaaDoorM06
import Derived.KernelRfl
set_option maxHeartbeats 4000000
namespace Go.Proofs.YtloecllhljfidaaDoor.Hx
def Call.Le(c c':Call):Prop:=∀f a h r,c f a h=some r->c' f a h=some r
section
variable{n:Nat}{c c':Call}(hc:c.Le c')
include hc
theorem GP{o:Oper} {t:Tm} {h:Hp} {r:V×Hp} (hv:(Gq o).f c t h=some r):(Gq o).f c' t h=some r:=by
 unfold Gq at hv⊢;split
 ·simp_all
 ·simp_all
 ·rename_i h0 d;split at hv
  ·simp_all
  ·simp_all
  ·simp only[fj]at hv⊢;obtain⟨x,b,a⟩:=hv;refine⟨x,b,?_⟩
   cases x with
   |val v h'=>exact a
   |call f args=>exact hc _ _ _ _ a
theorem Si{all:List Oper} {o:Oper} {a:SF} (i:∀t h r,a.f c t h=some r->a.f c' t h=some r) {t:Tm} {h:Hp} {r:Tm×Hp} (hv:(Hk n all o a).f c t h=some r):(Hk n all o a).f c' t h=some r:=by
 unfold Hk at hv⊢
 cases hd:wT n o with
 |none=>rw[hd]at hv;cases hv
 | some d=>
   rw[hd]at hv;simp only at hv⊢
   cases hw:ki n all o with
   | none=>
     grind[yq,fj,GP]
   | some g=>
     rw[hw]at hv;simp only[fj]at hv⊢;obtain⟨b,e,j⟩:=hv;refine⟨b,e,?_⟩;cases b <;> grind[fj,GP]
theorem Bc{all:List Oper}:∀(os:List Oper) {t:Tm} {h:Hp} {r:Tm×Hp},(ry n all os).f c t h=some r->(ry n all os).f c' t h=some r
 |[],_,_,_,hv=>hv
 |o::os,_,_,_,hv=>Si hc (λ_ _ _ h=>Bc os h) hv
omit hc in
theorem Sh {all:List Oper} {ws:List It} {a:It} {d:DF} {rest:LF} (hr:∀t h rs r,rest.f c t h rs=some r->rest.f c' t h rs=some r) {t:Tm} {h:Hp} {rs:List Rec} {r:Tm×Hp} (hv:(Fs n all ws a d rest).f c t h rs=some r) :
  (Fs n all ws a d rest).f c' t h rs=some r:=by
 unfold Fs at hv⊢;simp only[fj]at hv⊢;obtain⟨b,h1,h2⟩:=hv;refine⟨b,h1,?_⟩;cases b <;> grind[fj]
omit hc in
theorem Qq {all:List Oper} {ws:List It} {a:It} {d:DF} {rest:LF} (hr:∀t h rs r,rest.f c t h rs=some r->rest.f c' t h rs=some r) {t:Tm} {h:Hp} {rs:List Rec} {r:Tm×Hp} (hv:(DL n all ws a d rest).f c t h rs=some r) :
  (DL n all ws a d rest).f c' t h rs=some r:=by
 unfold DL at hv⊢;simp only[fj]at hv⊢;obtain⟨b,h1,h2⟩:=hv;refine⟨b,h1,?_⟩;cases b <;> grind[fj]
theorem Pw{all:List Oper} {k:Nat} {a:It} {d:DF} {e:LF} (i:∀t h rs r,e.f c t h rs=some r->e.f c' t h rs=some r) {t:Tm} {h:Hp} {rs:List Rec} {r:Tm×Hp} (hv:(z7 n all k a d e).f c t h rs=some r) :
  (z7 n all k a d e).f c' t h rs=some r:=by
 unfold z7 at hv⊢;simp only[gP,fj]at hv⊢;obtain⟨h0,b,g,j⟩:=hv;refine⟨h0,b,g,?_⟩;cases b <;> grind[fj,gP,GP]
theorem ye{all:List Oper} {ws:List It}:∀(l:List It) (k:Nat) {t:Tm} {h:Hp} {rs:List Rec} {r:Tm×Hp},(vF n all ws l k).f c t h rs=some r->(vF n all ws l k).f c' t h rs=some r
 |[],_,_,_,_,_,hv=>hv
 | a ::l,k,t,h,rs,r,hv=>by
   unfold vF at hv⊢
   cases hd:wT n a.o with
   |none=>simp_all
   | some d=>
     rw[hd]at hv;simp only at hv⊢;split
     ·rename_i hk;rw[hk]at hv;exact Sh (λ_ _ _ _ h=>ye l _ h) hv
     ·rename_i hk;rw[hk]at hv;exact Qq (λ_ _ _ _ h=>ye l _ h) hv
     ·rename_i h0 b
      split at hv
      ·simp_all
      ·simp_all
      ·exact Pw hc (λ_ _ _ _ h=>ye l _ h) hv
theorem SC{all:List Oper} {t:Tm} {h:Hp} {r:Tm×Hp} (hv:(Ky n all).f c t h=some r):(Ky n all).f c' t h=some r:=by
 unfold Ky at hv⊢
 cases hb:OI (items all 0 []) (gK (items all 0 []))&&ua (items all 0 []) (gK (items all 0 [])) (order (items all 0 []) (gK (items all 0 [])) (gK (items all 0 [])) 0) 0 0 with
 |true=>grind[ye]
 | false=>
   rw[hb]at hv;simp only at hv⊢
   cases hf:G0 (items all 0 []) (gK (items all 0 []))with
   |none=>rw[hf]at hv;cases hv
   | some p=>
     rw[hf]at hv
     cases hb2:OD (items all 0 [])&&ua (items all 0 []) (gK (items all 0 [])) (order (items all 0 []) (gK (items all 0 [])) (gK (items all 0 [])) 0) 0 0 with
     |false=>rw[hb2]at hv;cases hv
     | true=>
       grind[fj,gP,ye]
theorem mi{m g:Nat} (a:m<=g):∀(k:Code) {t:Tm} {h:Hp} {r:X×Tm×Hp},(hY n k).f c m t h=some r->(hY n k).f c' g t h=some r
 | .skip,_,_,_,hv=>hv
 | .seq x y,t,h,r,hv=>by
   simp only[hY]at hv⊢;rcases GY hv with⟨q,l,d,i⟩|⟨d,i⟩
   ·rw[mi a x d];exact mi a y i
   ·rw[mi a x d]
    obtain⟨o,t',h'⟩:=r
    cases o with
    |normal=>simp_all
    |exit id=>rfl
    |ret=>rfl
 | .cond e x y,t,h,r,hv=>by
   simp only[hY,fj]at hv⊢;obtain⟨v,l,s⟩:=hv;refine⟨v,l,?_⟩;split
   ·rename_i b
    cases b with
    |true=>exact mi a x s
    |false=>exact mi a y s
   simp_all
 | .block id x,t,h,r,hv=>by
   simp only[hY]at hv⊢
   cases hr:(hY n x).f c m t h with
   |none=>rw[hr]at hv;cases hv
   |some r'=>rw[hr]at hv;rw[mi a x hr];exact hv
 | .loop x,t,h,r,hv=>by
   simp only [hY]at hv⊢;have u:∀(k k':Nat) (t:Tm) (h:Hp),k<=k'->DO (λt h=>(hY n x).f c m t h) k t h=some r->DO (λt h=>(hY n x).f c' g t h) k' t h=some r:=by
     intro k
     induction k with
     |zero=>intro k' t h _ hv;cases hv
     | succ k w=>
       intro k' t h hk hv;obtain⟨k',rfl⟩:∃j,k' = j+1:=⟨k'-1,by omega⟩
       have p:Cz ((hY n x).f c m t h) (DO (λt h=>(hY n x).f c m t h) k)=some r:=hv;show Cz ((hY n x).f c' g t h) (DO (λt h=>(hY n x).f c' g t h) k')=some r;rcases GY p with⟨q,l,d,i⟩|⟨d,i⟩
       ·rw[mi a x d];exact w k' q l (by omega) i
       ·rw[mi a x d]
        obtain⟨o,t',h'⟩:=r
        cases o with
        |normal=>simp_all
        |exit id=>rfl
        |ret=>rfl
   grind
 | .exit id,_,_,_,hv=>hv
 | .ret,_,_,_,hv=>hv
 | .region id ops false,t,h,r,hv=>by
   grind[hY,fj,Bc]
 | .region id ops true,t,h,r,hv=>by
   grind[hY,fj,SC]
 | .rangeFunc ..,_,_,_,hv=>by cases hv
 | .scope _,_,_,_,hv=>by cases hv
 | .label _,_,_,_,hv=>by cases hv
 | .goto _,_,_,_,hv=>by cases hv
 | .refuse _,_,_,_,hv=>by cases hv
theorem QY{C:fm} {m a:Nat} (b:m<=a) {f:Nat} {args:List V} {h:Hp} {r:V×Hp} (hv:(IV C f).f c m args h=some r):(IV C f).f c' a args h=some r:=by
 unfold IV at hv⊢;cases hf:P0.funcs[f]? <;> grind[TM,gP,fj,mi]
theorem MG{C:fm} {m a:Nat} (b:m<=a):∀(l:List (Nat×List V)) {h h':Hp},Mp C c m l h=some h'->Mp C c' a l h=some h'
 |[],_,_,hv=>hv
 | x::l,_,_,hv=>by
   simp only[Mp,fj]at hv⊢;obtain⟨r,d,e⟩:=hv;exact⟨r,QY hc b d,MG b l e⟩
theorem SQ{C:fm} {m a:Nat} (b:m<=a) {f:Nat} {args:List V} {h:Hp} {r:V×Hp} (hv:(BW C f).f c m args h=some r):(BW C f).f c' a args h=some r:=by
 unfold BW at hv⊢
 cases hf:P0.funcs[f]? with
 |none=>simp_all
 | some fn=>
   rw[hf]at hv;simp only at hv⊢
   cases hb:fn.body with
   |none=>simp_all
   | some k=>
     rw[hb]at hv;simp only at hv⊢
     cases hk:C.K f args h with
     |some u=>rw[hk]at hv;exact hv
     | none=>
       rw[hk]at hv
       grind[Yf,gP,fj,mi,id,MG]
end
theorem vI{C:fm} {m b:Nat} (e:m<=b):∀{d d':Nat},d<=d'->(jS C m d).Le (jS C b d')
 |0,_,_=>λ_ _ _ _ h=>(nomatch h)
 |d+1,0,h=>by omega
 | d+1,d' + 1,h=>λf a g r hv=>by
   have c:(BW C f).f (jS C m d) m a g=some r:=hv;show(BW C f).f (jS C b d') b a g=some r;exact SQ (vI e (by omega)) e c
inductive KE where
 |names (f:Nat) (l:List (Nat×V))
 |yes (f:Nat)
noncomputable def TE:List (Nat×V)->Nat->Option V
 |[],_=>none
 |x::l,n=>Bool.rec (motive:=λ_=>Option V) (TE l n) (some x.2) (Nat.beq x.1 n)
noncomputable def KE.ask(e:KE) (f:Nat) (args:List V):Option V:=match e with
 | .names g l=>bB (Nat.beq f g) (match args with
   |[.int .i64 (.ofNat n)]=>TE l n
   |_=>none)
 | .yes g=>bB (Nat.beq f g) (match args with
   |[]=>some (.bool true)
   |_=>none)
noncomputable def IT:List KE->Nat->List V->Option V
 |[],_,_=>none
 |e::es,f,args=>Yf (e.ask f args) (λv=>some v) (IT es f args)
def isV(v:V):Option (V×Hp)->Bool
 |some (u,_)=>V.beq u v
 |_=>false
theorem Ld{C:fm} (h:uY C) {m d n f:Nat} {args:List V} {v:V} (p:P0.globals.size<=n) (hb:∃fn c,P0.funcs[f]? =some fn/\fn.body=some c) (hv:isV v (jS C m d f args {next:=n,tr:= .leaf})=true)
  (W:World) (ht:An (λ_=>none) W) (gB:Array Value) (k:gj (λ_=>none) args gB.toList) :
  Calls P0 f gB W λe W'=>∃x,e = .returned x/\(v.flat=true->fG (λ_=>none) v x)/\Still W W':=by
 cases hr:jS C m d f args {next:=n,tr:= .leaf} with
 |none=>rw[hr]at hv;cases hv
 | some r=>
   obtain⟨u,h'⟩:=r;rw[hr]at hv;obtain rfl:u=v:=V.eq_of_beq _ _ hv;rcases HR h m d f args _ _ _ (λ_=>none) W gB hr (by grind[WR.start]) k with⟨x,q,_⟩|⟨_,l⟩
   ·exfalso
    obtain ⟨fn,c,i,a⟩:=hb;have b:=h.named f fn i;have:(callFunc f gB).run P0 W = .ok (.enter f gB) W:=by
      simp only[callFunc,uG,run_program,tn,i,b,a,wB6,O8,if_false];rfl
    simp_all
   ·refine Calls.mono l λe w' o=>?_
    obtain⟨s,x,rfl,j⟩:=o;exact⟨x,rfl,λg=>Qm j.val g,j.frame.still zde⟩
noncomputable def GO(C:fm) (m d n f:Nat):List (Nat×V)->Bool
 |[]=>true
 |x::l=>Bool.rec (motive:=λ_=>Bool) false (GO C m d n f l) (isV x.2 (jS C m d f [.int .i64 (.ofNat x.1)] {next:=n,tr:= .leaf}))
theorem Je{C:fm} {m d n f:Nat}:∀(l:List (Nat×V)),GO C m d n f l=true->∀k s,TE l k=some s->isV s (jS C m d f [.int .i64 (.ofNat k)] {next:=n,tr:= .leaf})=true
 |[],_,k,s,hk=>by cases hk
 | x ::l,h,k,s',hk=>by
   simp only[GO]at h;simp only[TE]at hk
   cases hb:isV x.2 (jS C m d f [.int .i64 (.ofNat x.1)] {next:=n,tr:= .leaf})with
   |false=>simp_all
   | true=>
     rw[hb]at h
     cases hx:Nat.beq x.1 k with
     | true=>
       simp_all
     | false=>
       rw[hx]at hk;exact Je l h k s' hk
inductive KOk (C:fm):KE->Prop where
 |names {m d n f l} (a:P0.globals.size<=n) (hb:∃fn c,P0.funcs[f]? =some fn/\fn.body=some c) (h:GO C m d n f l=true):KOk C (.names f l)
 |yes {m d n f} (a:P0.globals.size<=n) (hb:∃fn c,P0.funcs[f]? =some fn/\fn.body=some c) (h:isTrue (jS C m d f [] {next:=n,tr:= .leaf})=true):KOk C (.yes f)
theorem RL{r:Option (V×Hp)} (h:isTrue r=true):isV (.bool true) r=true:=by
 unfold isTrue at h;split at h
 ·rfl
 ·cases h
theorem KOk.calls{C:fm} (c:uY C) {e:KE} (i:KOk C e) {f:Nat} {args:List V} {v:V} (hv:e.ask f args=some v) (j:v.flat=true) (W:World) (ht:An (λ_=>none) W) (gB:Array Value) (o:gj (λ_=>none) args gB.toList) :
  Calls P0 f gB W λe W'=>∃x,e = .returned x/\fG (λ_=>none) v x/\Still W W':=by
 cases i with
 | @names m d n g l b hb h=>
   simp only[KE.ask,gP]at hv;obtain⟨a,hv⟩:=hv;obtain rfl:=zB a;split at hv
   ·rename_i k
    have p:=Je l h k v hv
    grind[Calls.mono,Ld]
   ·cases hv
 | @yes m d n g b hb h=>
   simp only[KE.ask,gP]at hv;obtain⟨a,hv⟩:=hv;obtain rfl:=zB a;split at hv
   ·cases hv
    exact Calls.mono (Ld c b hb (RL h) W ht gB o) (by simp_all)
   ·cases hv
noncomputable def fm.more(C:fm)(l:List KE):fm:=⟨C.start,C.ext,λf args h=>Yf (IT l f args) (λv=>some v) (C.K f args h)⟩
theorem Ks:∀(l:List KE) {f:Nat} {args:List V} {v:V},IT l f args=some v->∃e∈l,e.ask f args=some v
 |[],_,_,_,h=>by cases h
 | e ::es,f,args,v,h=>by
   simp only[IT]at h
   cases hq:e.ask f args with
   |some u=>rw[hq]at h;grind[KE.ask,Yf,IT,KE.ask]
   | none=>
     rw[hq]at h;obtain⟨e',a,h'⟩:=Ks es h
     grind
theorem uY.more{C:fm} (a:uY C) {l:List KE} (i:∀e∈l,KOk C e):uY (C.more l) where
 L5:=a.L5
 start:=a.start
 mixed:=a.mixed
 named:=a.named
 ext:=a.ext
 known:=λf args v h hk c b Δ W gB d g=>by
  simp only[fm.more]at hk
  cases hq:IT l f args with
  | some u=>
    rw[hq]at hk;have:u=v:=by simpa[Yf]using hk
    subst this;obtain⟨e,j,k⟩:=Ks l hq
    exact(i e j).calls a k b W d.Tz.none gB g
  | none=>
    rw[hq]at hk;exact a.known f args v h (by grind[Yf]) c b Δ W gB d g
def E1:Nat->Ext
 |89=> .countByte
 |96=> .indexByte
 |_=> .none
theorem XN:(P0.funcs.toList.all λfn=>!(fn.name == "runtime.NumGoroutine"))=true:=by kernel_rfl
theorem mixed:P0.follows .mixedOrders=true:=by kernel_rfl
theorem WY:Nat.ble P0.globals.size 3=true:=by kernel_rfl
theorem zcm:P0.funcs[89]? =some Tryd.f89:=by unfold P0;exact Tryd.func89
theorem zcD:P0.funcs[96]? =some Tryd.f96:=by unfold P0;exact Tryd.func96
theorem zch(w:World):An (λ_=>none) w:=λg c h=>by simp[zbJ]at h
noncomputable def C1:fm:=⟨SG,E1,λ_ _ _=>none⟩
theorem facts:uY C1 where
 L5:=λ_=>rfl
 start:=RJ
 known:=λ_ _ _ _ h=>nomatch h
 mixed:=mixed
 named:=λf fn a=>by
  have h:=O4.1 XN fn (by rw[Array.mem_toList_iff];exact Array.mem_of_getElem? a);simpa using h
 ext:=λf fn a hb Δ args v gB w hv b=>by
  by_cases c:f=89
  ·subst c;rw[zcm]at a;cases a;exact Vr zcm (by kernel_rfl) (by kernel_rfl) (by kernel_rfl) (by kernel_rfl) hv b
  ·by_cases d:f=96
   ·subst d;rw[zcD]at a;cases a;exact UE zcD (by kernel_rfl) (by kernel_rfl) (by kernel_rfl) (by kernel_rfl) hv b
   ·have e:C1.ext f = .none:=by
     show E1 f = .none;unfold E1;split
     ·exact absurd rfl c
     ·exact absurd rfl d
     ·rfl
    rw[e]at hv;simp[SE]at hv
