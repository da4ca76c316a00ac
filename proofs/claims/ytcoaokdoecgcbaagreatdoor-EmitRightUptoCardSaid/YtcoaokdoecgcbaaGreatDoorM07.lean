/- Parts. -/
import Derived.Test.YtcoaokdoecgcbaaGreatDoorM06
import Derived.KernelRfl
set_option maxHeartbeats 4000000
namespace Go.Proofs.YtcoaokdoecgcbaaGreatDoor.Hx
def Call.Le(c c':Call):Prop:=∀f a h r,c f a h=some r->c' f a h=some r
section
variable{n:Nat}{c c':Call}(hc:c.Le c')
include hc
theorem J5{o:Oper} {t:Tm} {h:Hp} {r:V×Hp} (hv:(B7 o).f c t h=some r):(B7 o).f c' t h=some r:=by
 unfold B7 at hv⊢;split
 ·simp_all
 ·simp_all
 ·rename_i h0 d;split at hv
  ·simp_all
  ·simp_all
  ·simp only[fk]at hv⊢;obtain⟨x,b,a⟩:=hv;refine⟨x,b,?_⟩
   cases x with
   |val v h'=>exact a
   |call f args=>exact hc _ _ _ _ a
theorem Uf{all:List Oper} {o:Oper} {a:SF} (i:∀t h r,a.f c t h=some r->a.f c' t h=some r) {t:Tm} {h:Hp} {r:Tm×Hp} (hv:(Gj n all o a).f c t h=some r):(Gj n all o a).f c' t h=some r:=by
 unfold Gj at hv⊢
 cases hd:tP n o with
 |none=>rw[hd]at hv;cases hv
 | some d=>
   rw[hd]at hv;simp only at hv⊢
   cases hw:jY n all o with
   | none=>
     grind[yv,fk,J5]
   | some g=>
     rw[hw]at hv;simp only[fk]at hv⊢;obtain⟨b,e,j⟩:=hv;refine⟨b,e,?_⟩;cases b <;> grind[fk,J5]
theorem DU{all:List Oper}:∀(os:List Oper) {t:Tm} {h:Hp} {r:Tm×Hp},(lL n all os).f c t h=some r->(lL n all os).f c' t h=some r
 |[],_,_,_,hv=>hv
 |o::os,_,_,_,hv=>Uf hc (λ_ _ _ h=>DU os h) hv
omit hc in
theorem Uw {all:List Oper} {ws:List It} {a:It} {d:DF} {rest:LF} (hr:∀t h rs r,rest.f c t h rs=some r->rest.f c' t h rs=some r) {t:Tm} {h:Hp} {rs:List Rec} {r:Tm×Hp} (hv:(Ii n all ws a d rest).f c t h rs=some r) :
  (Ii n all ws a d rest).f c' t h rs=some r:=by
 unfold Ii at hv⊢;simp only[fk]at hv⊢;obtain⟨b,h1,h2⟩:=hv;refine⟨b,h1,?_⟩;cases b <;> grind[fk]
omit hc in
theorem SG {all:List Oper} {ws:List It} {a:It} {d:DF} {rest:LF} (hr:∀t h rs r,rest.f c t h rs=some r->rest.f c' t h rs=some r) {t:Tm} {h:Hp} {rs:List Rec} {r:Tm×Hp} (hv:(GM n all ws a d rest).f c t h rs=some r) :
  (GM n all ws a d rest).f c' t h rs=some r:=by
 unfold GM at hv⊢;simp only[fk]at hv⊢;obtain⟨b,h1,h2⟩:=hv;refine⟨b,h1,?_⟩;cases b <;> grind[fk]
theorem SI{all:List Oper} {k:Nat} {a:It} {d:DF} {e:LF} (i:∀t h rs r,e.f c t h rs=some r->e.f c' t h rs=some r) {t:Tm} {h:Hp} {rs:List Rec} {r:Tm×Hp} (hv:(BM n all k a d e).f c t h rs=some r) :
  (BM n all k a d e).f c' t h rs=some r:=by
 unfold BM at hv⊢;simp only[gG,fk]at hv⊢;obtain⟨h0,b,g,j⟩:=hv;refine⟨h0,b,g,?_⟩;cases b <;> grind[fk,gG,J5]
theorem zG{all:List Oper} {ws:List It}:∀(l:List It) (k:Nat) {t:Tm} {h:Hp} {rs:List Rec} {r:Tm×Hp},(wq n all ws l k).f c t h rs=some r->(wq n all ws l k).f c' t h rs=some r
 |[],_,_,_,_,_,hv=>hv
 | a ::l,k,t,h,rs,r,hv=>by
   unfold wq at hv⊢
   cases hd:tP n a.o with
   |none=>simp_all
   | some d=>
     rw[hd]at hv;simp only at hv⊢;split
     ·rename_i b;rw[b]at hv;exact Uw (λ_ _ _ _ h=>zG l _ h) hv
     ·rename_i b;rw[b]at hv;exact SG (λ_ _ _ _ h=>zG l _ h) hv
     ·rename_i h0 e
      split at hv
      ·simp_all
      ·simp_all
      ·exact SI hc (λ_ _ _ _ h=>zG l _ h) hv
theorem UN{all:List Oper} {t:Tm} {h:Hp} {r:Tm×Hp} (hv:(M0 n all).f c t h=some r):(M0 n all).f c' t h=some r:=by
 unfold M0 at hv⊢
 cases hb:Rv (items all 0 []) (gY (items all 0 []))&&uk (items all 0 []) (gY (items all 0 [])) (order (items all 0 []) (gY (items all 0 [])) (gY (items all 0 [])) 0) 0 0 with
 |true=>grind[zG]
 | false=>
   rw[hb]at hv;simp only at hv⊢
   cases hf:KA (items all 0 []) (gY (items all 0 []))with
   |none=>rw[hf]at hv;cases hv
   | some p=>
     rw[hf]at hv
     cases hb2:Ri (items all 0 [])&&uk (items all 0 []) (gY (items all 0 [])) (order (items all 0 []) (gY (items all 0 [])) (gY (items all 0 [])) 0) 0 0 with
     |false=>rw[hb2]at hv;cases hv
     | true=>
       grind[fk,gG,zG]
theorem mr{m d:Nat} (a:m<=d):∀(k:Code) {t:Tm} {h:Hp} {r:X×Tm×Hp},(ig n k).f c m t h=some r->(ig n k).f c' d t h=some r
 | .skip,_,_,_,hv=>hv
 | .seq x y,t,h,r,hv=>by
   simp only[ig]at hv⊢;rcases J6 hv with⟨o,g,e1,e2⟩|⟨e1,e2⟩
   ·rw[mr a x e1];exact mr a y e2
   ·rw[mr a x e1]
    obtain⟨i,t',h'⟩:=r
    cases i with
    |normal=>simp_all
    |exit id=>rfl
    |ret=>rfl
 | .cond e x y,t,h,r,hv=>by
   simp only[ig,fk]at hv⊢;obtain⟨v,g,p⟩:=hv;refine⟨v,g,?_⟩;split
   ·rename_i b
    cases b with
    |true=>exact mr a x p
    |false=>exact mr a y p
   simp_all
 | .block id x,t,h,r,hv=>by
   simp only[ig]at hv⊢
   cases hr:(ig n x).f c m t h with
   |none=>rw[hr]at hv;cases hv
   |some r'=>rw[hr]at hv;rw[mr a x hr];exact hv
 | .loop x,t,h,r,hv=>by
   simp only[ig]at hv⊢
   cases hf:yo n x with
   |some F=>simp only[hf]at hv⊢;exact hv
   |none=>
   simp only [hf]at hv⊢;have q:∀(k k':Nat) (t:Tm) (h:Hp),k<=k'->Gu (λt h=>(ig n x).f c m t h) k t h=some r->Gu (λt h=>(ig n x).f c' d t h) k' t h=some r:=by
     intro k
     induction k with
     |zero=>intro k' t h _ hv;cases hv
     | succ k s=>
       intro k' t h u hv;obtain⟨k',rfl⟩:∃j,k' = j+1:=⟨k'-1,by omega⟩
       have l:EG ((ig n x).f c m t h) (Gu (λt h=>(ig n x).f c m t h) k)=some r:=hv;show EG ((ig n x).f c' d t h) (Gu (λt h=>(ig n x).f c' d t h) k')=some r;rcases J6 l with⟨o,g,e1,e2⟩|⟨e1,e2⟩
       ·rw[mr a x e1];exact s k' o g (by omega) e2
       ·rw[mr a x e1]
        obtain⟨i,t',h'⟩:=r
        cases i with
        |normal=>simp_all
        |exit id=>rfl
        |ret=>rfl
   grind
 | .exit id,_,_,_,hv=>hv
 | .ret,_,_,_,hv=>hv
 | .region id ops false,t,h,r,hv=>by
   grind[ig,fk,DU]
 | .region id ops true,t,h,r,hv=>by
   grind[ig,fk,UN]
 | .rangeFunc ..,_,_,_,hv=>by cases hv
 | .scope _,_,_,_,hv=>by cases hv
 | .label _,_,_,_,hv=>by cases hv
 | .goto _,_,_,_,hv=>by cases hv
 | .refuse _,_,_,_,hv=>by cases hv
theorem St{C:fj} {m a:Nat} (b:m<=a) {f:Nat} {args:List V} {h:Hp} {r:V×Hp} (hv:(LI C f).f c m args h=some r):(LI C f).f c' a args h=some r:=by
 unfold LI at hv⊢;cases hf:P0.funcs[f]? <;> grind[VC,gG,fk,mr]
theorem Ph{C:fj} {m a:Nat} (b:m<=a):∀(l:List (Nat×List V)) {h h':Hp},OO C c m l h=some h'->OO C c' a l h=some h'
 |[],_,_,hv=>hv
 | x::l,_,_,hv=>by
   simp only[OO,fk]at hv⊢;obtain⟨r,d,e⟩:=hv;exact⟨r,St hc b d,Ph b l e⟩
theorem UY{C:fj} {m a:Nat} (b:m<=a) {f:Nat} {args:List V} {h:Hp} {r:V×Hp} (hv:(Ez C f).f c m args h=some r):(Ez C f).f c' a args h=some r:=by
 unfold Ez at hv⊢
 cases hf:P0.funcs[f]? with
 |none=>simp_all
 | some fn=>
   rw[hf]at hv;simp only at hv⊢
   cases hb:fn.body with
   |none=>simp_all
   | some k=>
     rw[hb]at hv;simp only at hv⊢
     cases hk:C.K f args h with
     |some u=>rw[hk]at hv;exact hv
     | none=>
       rw[hk]at hv
       grind[orB,gG,fk,mr,id,Ph]
end
theorem wm{C:fj} {m b:Nat} (g:m<=b):∀{d c:Nat},d<=c->(j9 C m d).Le (j9 C b c)
 |0,_,_=>λ_ _ _ _ h=>(nomatch h)
 |d+1,0,h=>by omega
 | d+1,c+1,h=>λf a i r hv=>by
   have e:(Ez C f).f (j9 C m d) m a i=some r:=hv;show(Ez C f).f (j9 C b c) b a i=some r;exact UY (wm g (by omega)) g e
inductive KE where
 |names (f:Nat) (l:List (Nat×V))
 |yes (f:Nat)
noncomputable def We:List (Nat×V)->Nat->Option V
 |[],_=>none
 |x::l,n=>Bool.rec (motive:=λ_=>Option V) (We l n) (some x.2) (Nat.beq x.1 n)
noncomputable def KE.ask(e:KE) (f:Nat) (args:List V):Option V:=match e with
 | .names g l=>bB (Nat.beq f g) (match args with
   |[.int .i64 (.ofNat n)]=>We l n
   |_=>none)
 | .yes g=>bB (Nat.beq f g) (match args with
   |[]=>some (.bool true)
   |_=>none)
noncomputable def LL:List KE->Nat->List V->Option V
 |[],_,_=>none
 |e::es,f,args=>orB (e.ask f args) (λv=>some v) (LL es f args)
def isV(v:V):Option (V×Hp)->Bool
 |some (u,_)=>V.beq u v
 |_=>false
theorem Nu{C:fj} (h:vP C) {m d n f:Nat} {args:List V} {v:V} (q:P0.globals.size<=n) (k:∃fn c,P0.funcs[f]? =some fn/\fn.body=some c) (hv:isV v (j9 C m d f args {next:=n,tr:= .leaf})=true)
  (W:World) (s:Cp (λ_=>none) W) (gK:Array Value) (l:gB (λ_=>none) args gK.toList) :
  Calls P0 f gK W λe W'=>∃x,e = .returned x/\(v.flat=true->fF (λ_=>none) v x)/\Still W W':=by
 cases hr:j9 C m d f args {next:=n,tr:= .leaf} with
 |none=>rw[hr]at hv;cases hv
 | some r=>
   obtain⟨u,h'⟩:=r;rw[hr]at hv;obtain rfl:u=v:=V.eq_of_beq _ _ hv;rcases Kb h m d f args _ _ _ (λ_=>none) W gK hr (by grind[WR.start]) l with⟨x,t,_⟩|⟨_,o⟩
   ·exfalso
    obtain ⟨fn,c,i,a⟩:=k;have b:=h.named f fn i;have:(callFunc f gK).run P0 W = .ok (.enter f gK) W:=by
      simp only[callFunc,sG,run_program,sP,i,b,a,wBu,PM,if_false];rfl
    simp_all
   ·refine Calls.mono o λe w' p=>?_
    obtain⟨w,x,rfl,j⟩:=p;exact⟨x,rfl,λg=>Sr j.val g,j.frame.still zgM⟩
noncomputable def G2(C:fj) (m d n f:Nat):List (Nat×V)->Bool
 |[]=>true
 |x::l=>Bool.rec (motive:=λ_=>Bool) false (G2 C m d n f l) (isV x.2 (j9 C m d f [.int .i64 (.ofNat x.1)] {next:=n,tr:= .leaf}))
theorem L6{C:fj} {m d n f:Nat}:∀(l:List (Nat×V)),G2 C m d n f l=true->∀k s,We l k=some s->isV s (j9 C m d f [.int .i64 (.ofNat k)] {next:=n,tr:= .leaf})=true
 |[],_,k,s,hk=>by cases hk
 | x ::l,h,k,s',hk=>by
   simp only[G2]at h;simp only[We]at hk
   cases hb:isV x.2 (j9 C m d f [.int .i64 (.ofNat x.1)] {next:=n,tr:= .leaf})with
   |false=>simp_all
   | true=>
     rw[hb]at h
     cases hx:Nat.beq x.1 k with
     | true=>
       simp_all
     | false=>
       rw[hx]at hk;exact L6 l h k s' hk
inductive KOk (C:fj):KE->Prop where
 |names {m d n f l} (a:P0.globals.size<=n) (b:∃fn c,P0.funcs[f]? =some fn/\fn.body=some c) (h:G2 C m d n f l=true):KOk C (.names f l)
 |yes {m d n f} (a:P0.globals.size<=n) (b:∃fn c,P0.funcs[f]? =some fn/\fn.body=some c) (h:isTrue (j9 C m d f [] {next:=n,tr:= .leaf})=true):KOk C (.yes f)
theorem UI{r:Option (V×Hp)} (h:isTrue r=true):isV (.bool true) r=true:=by
 unfold isTrue at h;split at h
 ·rfl
 ·cases h
theorem KOk.calls{C:fj} (i:vP C) {e:KE} (j:KOk C e) {f:Nat} {args:List V} {v:V} (hv:e.ask f args=some v) (o:v.flat=true) (W:World) (p:Cp (λ_=>none) W) (gK:Array Value) (q:gB (λ_=>none) args gK.toList) :
  Calls P0 f gK W λe W'=>∃x,e = .returned x/\fF (λ_=>none) v x/\Still W W':=by
 cases j with
 | @names m d n g l b c h=>
   simp only[KE.ask,gG]at hv;obtain⟨a,hv⟩:=hv;obtain rfl:=yi a;split at hv
   ·rename_i k
    have r:=L6 l h k v hv
    grind[Calls.mono,Nu]
   ·cases hv
 | @yes m d n g b c h=>
   simp only[KE.ask,gG]at hv;obtain⟨a,hv⟩:=hv;obtain rfl:=yi a;split at hv
   ·cases hv
    exact Calls.mono (Nu i b c (UI h) W p gK q) (by simp_all)
   ·cases hv
noncomputable def fj.more(C:fj)(l:List KE):fj:=⟨C.start,C.ext,λf args h=>orB (LL l f args) (λv=>some v) (C.K f args h)⟩
theorem MY:∀(l:List KE) {f:Nat} {args:List V} {v:V},LL l f args=some v->∃e∈l,e.ask f args=some v
 |[],_,_,_,h=>by cases h
 | e ::es,f,args,v,h=>by
   simp only[LL]at h
   cases hq:e.ask f args with
   |some u=>rw[hq]at h;grind[KE.ask,orB,LL,KE.ask]
   | none=>
     rw[hq]at h;obtain⟨e',a,h'⟩:=MY es h
     grind
theorem vP.more{C:fj} (a:vP C) {l:List KE} (hl:∀e∈l,KOk C e):vP (C.more l) where
 N2:=a.N2
 start:=a.start
 mixed:=a.mixed
 named:=a.named
 ext:=a.ext
 known:=λf args v h c d b Δ W gK g i=>by
  simp only[fj.more]at c
  cases hq:LL l f args with
  | some u=>
    rw[hq]at c;have:u=v:=by simpa[orB]using c
    subst this;obtain⟨e,j,k⟩:=MY l hq
    exact(hl e j).calls a k b W g.Va.none gK i
  | none=>
    rw[hq]at c;exact a.known f args v h (by grind[orB]) d b Δ W gK g i
def E1:Nat->Ext
 |122=> .countByte
 |129=> .indexByte
 |_=> .none
theorem zag:(P0.funcs.toList.all λfn=>!(fn.name == "runtime.NumGoroutine"))=true:=by kernel_rfl
theorem mixed:P0.follows .mixedOrders=true:=by kernel_rfl
theorem Wn:Nat.ble P0.globals.size 3=true:=by kernel_rfl
theorem zcc:P0.funcs[122]? =some Tryz.f122:=by unfold P0;exact Tryz.func122
theorem zci:P0.funcs[129]? =some Tryz.f129:=by unfold P0;exact Tryz.func129
theorem zf4(w:World):Cp (λ_=>none) w:=λg c h=>by simp[zfO]at h
noncomputable def C1:fj:=⟨Vc,E1,λ_ _ _=>none⟩
theorem facts:vP C1 where
 N2:=λ_=>rfl
 start:=Us
 known:=λ_ _ _ _ h=>nomatch h
 mixed:=mixed
 named:=λf fn a=>by
  have h:=PX.1 zag fn (by rw[Array.mem_toList_iff];exact Array.mem_of_getElem? a);simpa using h
 ext:=λf fn a g Δ args v gK w hv b=>by
  by_cases c:f=122
  ·subst c;rw[zcc]at a;cases a;exact Xb zcc (by kernel_rfl) (by kernel_rfl) (by kernel_rfl) (by kernel_rfl) hv b
  ·by_cases d:f=129
   ·subst d;rw[zci]at a;cases a;exact W7 zci (by kernel_rfl) (by kernel_rfl) (by kernel_rfl) (by kernel_rfl) hv b
   ·have e:C1.ext f = .none:=by
     show E1 f = .none;unfold E1;split
     ·exact absurd rfl c
     ·exact absurd rfl d
     ·rfl
    rw[e]at hv;simp[Ui]at hv
