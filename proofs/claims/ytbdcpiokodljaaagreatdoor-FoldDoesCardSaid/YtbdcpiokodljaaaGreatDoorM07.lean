/- Parts. -/
import Derived.Test.YtbdcpiokodljaaaGreatDoorM06
import Derived.KernelRfl
set_option maxHeartbeats 4000000
namespace Go.Proofs.YtbdcpiokodljaaaGreatDoor.Hx
def Call.Le(c c':Call):Prop:=∀f a h r,c f a h=some r->c' f a h=some r
section
variable{n:Nat}{c c':Call}(hc:c.Le c')
include hc
theorem Kl{o:Oper} {t:Tm} {h:Hp} {r:V×Hp} (hv:(JE o).f c t h=some r):(JE o).f c' t h=some r:=by
 unfold JE at hv⊢;split
 ·simp_all
 ·simp_all
 ·rename_i h0 d;split at hv
  ·simp_all
  ·simp_all
  ·simp only[ft]at hv⊢;obtain⟨x,b,a⟩:=hv;refine⟨x,b,?_⟩
   cases x with
   |val v h'=>exact a
   |call f args=>exact hc _ _ _ _ a
theorem Vv{all:List Oper} {o:Oper} {a:SF} (i:∀t h r,a.f c t h=some r->a.f c' t h=some r) {t:Tm} {h:Hp} {r:Tm×Hp} (hv:(KK n all o a).f c t h=some r):(KK n all o a).f c' t h=some r:=by
 unfold KK at hv⊢
 cases hd:zL n o with
 |none=>rw[hd]at hv;cases hv
 | some d=>
   rw[hd]at hv;simp only at hv⊢
   cases hw:lL n all o with
   | none=>
     grind[A2,ft,Kl]
   | some g=>
     rw[hw]at hv;simp only[ft]at hv⊢;obtain⟨b,e,j⟩:=hv;refine⟨b,e,?_⟩;cases b <;> grind[ft,Kl]
theorem EO{all:List Oper}:∀(os:List Oper) {t:Tm} {h:Hp} {r:Tm×Hp},(uX n all os).f c t h=some r->(uX n all os).f c' t h=some r
 |[],_,_,_,hv=>hv
 |o::os,_,_,_,hv=>Vv hc (λ_ _ _ h=>EO os h) hv
omit hc in
theorem UU {all:List Oper} {ws:List It} {a:It} {d:DF} {rest:LF} (hr:∀t h rs r,rest.f c t h rs=some r->rest.f c' t h rs=some r) {t:Tm} {h:Hp} {rs:List Rec} {r:Tm×Hp} (hv:(Jo n all ws a d rest).f c t h rs=some r) :
  (Jo n all ws a d rest).f c' t h rs=some r:=by
 unfold Jo at hv⊢;simp only[ft]at hv⊢;obtain⟨b,h1,h2⟩:=hv;refine⟨b,h1,?_⟩;cases b <;> grind[ft]
omit hc in
theorem SU {all:List Oper} {ws:List It} {a:It} {d:DF} {rest:LF} (hr:∀t h rs r,rest.f c t h rs=some r->rest.f c' t h rs=some r) {t:Tm} {h:Hp} {rs:List Rec} {r:Tm×Hp} (hv:(Hf n all ws a d rest).f c t h rs=some r) :
  (Hf n all ws a d rest).f c' t h rs=some r:=by
 unfold Hf at hv⊢;simp only[ft]at hv⊢;obtain⟨b,h1,h2⟩:=hv;refine⟨b,h1,?_⟩;cases b <;> grind[ft]
theorem Ub{all:List Oper} {k:Nat} {a:It} {d:DF} {e:LF} (i:∀t h rs r,e.f c t h rs=some r->e.f c' t h rs=some r) {t:Tm} {h:Hp} {rs:List Rec} {r:Tm×Hp} (hv:(C0 n all k a d e).f c t h rs=some r) :
  (C0 n all k a d e).f c' t h rs=some r:=by
 unfold C0 at hv⊢;simp only[hK,ft]at hv⊢;obtain⟨h0,b,g,j⟩:=hv;refine⟨h0,b,g,?_⟩;cases b <;> grind[ft,hK,Kl]
theorem AQ{all:List Oper} {ws:List It}:∀(l:List It) (k:Nat) {t:Tm} {h:Hp} {rs:List Rec} {r:Tm×Hp},(yX n all ws l k).f c t h rs=some r->(yX n all ws l k).f c' t h rs=some r
 |[],_,_,_,_,_,hv=>hv
 | a ::l,k,t,h,rs,r,hv=>by
   unfold yX at hv⊢
   cases hd:zL n a.o with
   |none=>simp_all
   | some d=>
     rw[hd]at hv;simp only at hv⊢;split
     ·rename_i hk;rw[hk]at hv;exact UU (λ_ _ _ _ h=>AQ l _ h) hv
     ·rename_i hk;rw[hk]at hv;exact SU (λ_ _ _ _ h=>AQ l _ h) hv
     ·rename_i h0 b
      split at hv
      ·simp_all
      ·simp_all
      ·exact Ub hc (λ_ _ _ _ h=>AQ l _ h) hv
theorem UZ{all:List Oper} {t:Tm} {h:Hp} {r:Tm×Hp} (hv:(OJ n all).f c t h=some r):(OJ n all).f c' t h=some r:=by
 unfold OJ at hv⊢
 cases hb:QH (items all 0 []) (gY (items all 0 []))&&xK (items all 0 []) (gY (items all 0 [])) (order (items all 0 []) (gY (items all 0 [])) (gY (items all 0 [])) 0) 0 0 with
 |true=>grind[AQ]
 | false=>
   rw[hb]at hv;simp only at hv⊢
   cases hf:K3 (items all 0 []) (gY (items all 0 []))with
   |none=>rw[hf]at hv;cases hv
   | some p=>
     rw[hf]at hv
     cases hb2:QM (items all 0 [])&&xK (items all 0 []) (gY (items all 0 [])) (order (items all 0 []) (gY (items all 0 [])) (gY (items all 0 [])) 0) 0 0 with
     |false=>rw[hb2]at hv;cases hv
     | true=>
       grind[ft,hK,AQ]
theorem nJ{m g:Nat} (a:m<=g):∀(k:Code) {t:Tm} {h:Hp} {r:X×Tm×Hp},(iK n k).f c m t h=some r->(iK n k).f c' g t h=some r
 | .skip,_,_,_,hv=>hv
 | .seq x y,t,h,r,hv=>by
   simp only[iK]at hv⊢;rcases Kx hv with⟨q,l,d,i⟩|⟨d,i⟩
   ·rw[nJ a x d];exact nJ a y i
   ·rw[nJ a x d]
    obtain⟨o,t',h'⟩:=r
    cases o with
    |normal=>simp_all
    |exit id=>rfl
    |ret=>rfl
 | .cond e x y,t,h,r,hv=>by
   simp only[iK,ft]at hv⊢;obtain⟨v,l,s⟩:=hv;refine⟨v,l,?_⟩;split
   ·rename_i b
    cases b with
    |true=>exact nJ a x s
    |false=>exact nJ a y s
   simp_all
 | .block id x,t,h,r,hv=>by
   simp only[iK]at hv⊢
   cases hr:(iK n x).f c m t h with
   |none=>rw[hr]at hv;cases hv
   |some r'=>rw[hr]at hv;rw[nJ a x hr];exact hv
 | .loop x,t,h,r,hv=>by
   simp only [iK]at hv⊢;have u:∀(k k':Nat) (t:Tm) (h:Hp),k<=k'->GM (λt h=>(iK n x).f c m t h) k t h=some r->GM (λt h=>(iK n x).f c' g t h) k' t h=some r:=by
     intro k
     induction k with
     |zero=>intro k' t h _ hv;cases hv
     | succ k w=>
       intro k' t h hk hv;obtain⟨k',rfl⟩:∃j,k' = j+1:=⟨k'-1,by omega⟩
       have p:GC ((iK n x).f c m t h) (GM (λt h=>(iK n x).f c m t h) k)=some r:=hv;show GC ((iK n x).f c' g t h) (GM (λt h=>(iK n x).f c' g t h) k')=some r;rcases Kx p with⟨q,l,d,i⟩|⟨d,i⟩
       ·rw[nJ a x d];exact w k' q l (by omega) i
       ·rw[nJ a x d]
        obtain⟨o,t',h'⟩:=r
        cases o with
        |normal=>simp_all
        |exit id=>rfl
        |ret=>rfl
   grind
 | .exit id,_,_,_,hv=>hv
 | .ret,_,_,_,hv=>hv
 | .region id ops false,t,h,r,hv=>by
   grind[iK,ft,EO]
 | .region id ops true,t,h,r,hv=>by
   grind[iK,ft,UZ]
 | .rangeFunc ..,_,_,_,hv=>by cases hv
 | .scope _,_,_,_,hv=>by cases hv
 | .label _,_,_,_,hv=>by cases hv
 | .goto _,_,_,_,hv=>by cases hv
 | .refuse _,_,_,_,hv=>by cases hv
theorem Sk{C:fk} {m a:Nat} (b:m<=a) {f:Nat} {args:List V} {h:Hp} {r:V×Hp} (hv:(L5 C f).f c m args h=some r):(L5 C f).f c' a args h=some r:=by
 unfold L5 at hv⊢;cases hf:P0.funcs[f]? <;> grind[Wv,hK,ft,nJ]
theorem Qo{C:fk} {m a:Nat} (b:m<=a):∀(l:List (Nat×List V)) {h h':Hp},Pe C c m l h=some h'->Pe C c' a l h=some h'
 |[],_,_,hv=>hv
 | x::l,_,_,hv=>by
   simp only[Pe,ft]at hv⊢;obtain⟨r,d,e⟩:=hv;exact⟨r,Sk hc b d,Qo b l e⟩
theorem Vh{C:fk} {m a:Nat} (b:m<=a) {f:Nat} {args:List V} {h:Hp} {r:V×Hp} (hv:(FY C f).f c m args h=some r):(FY C f).f c' a args h=some r:=by
 unfold FY at hv⊢
 cases hf:P0.funcs[f]? with
 |none=>simp_all
 | some fn=>
   rw[hf]at hv;simp only at hv⊢
   cases hb:fn.body with
   |none=>simp_all
   | some k=>
     rw[hb]at hv;simp only at hv⊢
     cases hk:C.K f args h with
     |some u=>rw[hk]at hv;exact hv
     | none=>
       rw[hk]at hv
       grind[orB,hK,ft,nJ,id,Qo]
end
theorem yZ{C:fk} {m b:Nat} (e:m<=b):∀{d d':Nat},d<=d'->(kU C m d).Le (kU C b d')
 |0,_,_=>λ_ _ _ _ h=>(nomatch h)
 |d+1,0,h=>by omega
 | d+1,d' + 1,h=>λf a hp r hv=>by
   have c:(FY C f).f (kU C m d) m a hp=some r:=hv;show(FY C f).f (kU C b d') b a hp=some r;exact Vh (yZ e (by omega)) e c
inductive KE where
 |names (f:Nat) (l:List (Nat×V))
 |yes (f:Nat)
noncomputable def Wl:List (Nat×V)->Nat->Option V
 |[],_=>none
 |x::l,n=>Bool.rec (motive:=λ_=>Option V) (Wl l n) (some x.2) (Nat.beq x.1 n)
noncomputable def KE.ask(e:KE) (f:Nat) (args:List V):Option V:=match e with
 | .names g l=>bB (Nat.beq f g) (match args with
   |[.int .i64 (.ofNat n)]=>Wl l n
   |_=>none)
 | .yes g=>bB (Nat.beq f g) (match args with
   |[]=>some (.bool true)
   |_=>none)
noncomputable def Lt:List KE->Nat->List V->Option V
 |[],_,_=>none
 |e::es,f,args=>orB (e.ask f args) (λv=>some v) (Lt es f args)
def isV(v:V):Option (V×Hp)->Bool
 |some (u,_)=>V.beq u v
 |_=>false
theorem Nm{C:fk} (h:yC C) {m d n f:Nat} {args:List V} {v:V} (q:P0.globals.size<=n) (k:∃fn c,P0.funcs[f]? =some fn/\fn.body=some c) (hv:isV v (kU C m d f args {next:=n,tr:= .leaf})=true)
  (W:World) (s:DG (λ_=>none) W) (gS:Array Value) (l:gN (λ_=>none) args gS.toList) :
  Calls P0 f gS W λe W'=>∃x,e = .returned x/\(v.flat=true->fO (λ_=>none) v x)/\Still W W':=by
 cases hr:kU C m d f args {next:=n,tr:= .leaf} with
 |none=>rw[hr]at hv;cases hv
 | some r=>
   obtain⟨u,h'⟩:=r;rw[hr]at hv;obtain rfl:u=v:=V.eq_of_beq _ _ hv;rcases KJ h m d f args _ _ _ (λ_=>none) W gS hr (by grind[WR.start]) l with⟨x,t,_⟩|⟨_,o⟩
   ·exfalso
    obtain ⟨fn,c,i,a⟩:=k;have b:=h.named f fn i;have:(callFunc f gS).run P0 W = .ok (.enter f gS) W:=by
      simp only[callFunc,yo,run_program,wT,i,b,a,wB2,RY,if_false];rfl
    simp_all
   ·refine Calls.mono o λe w' p=>?_
    obtain⟨w,x,rfl,j⟩:=p;exact⟨x,rfl,λg=>Te j.val g,j.frame.still zf5⟩
noncomputable def K4(C:fk) (m d n f:Nat):List (Nat×V)->Bool
 |[]=>true
 |x::l=>Bool.rec (motive:=λ_=>Bool) false (K4 C m d n f l) (isV x.2 (kU C m d f [.int .i64 (.ofNat x.1)] {next:=n,tr:= .leaf}))
theorem Mi{C:fk} {m d n f:Nat}:∀(l:List (Nat×V)),K4 C m d n f l=true->∀k s,Wl l k=some s->isV s (kU C m d f [.int .i64 (.ofNat k)] {next:=n,tr:= .leaf})=true
 |[],_,k,s,hk=>by cases hk
 | x ::l,h,k,s',hk=>by
   simp only[K4]at h;simp only[Wl]at hk
   cases hb:isV x.2 (kU C m d f [.int .i64 (.ofNat x.1)] {next:=n,tr:= .leaf})with
   |false=>simp_all
   | true=>
     rw[hb]at h
     cases hx:Nat.beq x.1 k with
     | true=>
       simp_all
     | false=>
       rw[hx]at hk;exact Mi l h k s' hk
inductive KOk (C:fk):KE->Prop where
 |names {m d n f l} (a:P0.globals.size<=n) (b:∃fn c,P0.funcs[f]? =some fn/\fn.body=some c) (h:K4 C m d n f l=true):KOk C (.names f l)
 |yes {m d n f} (a:P0.globals.size<=n) (b:∃fn c,P0.funcs[f]? =some fn/\fn.body=some c) (h:isTrue (kU C m d f [] {next:=n,tr:= .leaf})=true):KOk C (.yes f)
theorem UP{r:Option (V×Hp)} (h:isTrue r=true):isV (.bool true) r=true:=by
 unfold isTrue at h;split at h
 ·rfl
 ·cases h
theorem KOk.calls{C:fk} (i:yC C) {e:KE} (j:KOk C e) {f:Nat} {args:List V} {v:V} (hv:e.ask f args=some v) (o:v.flat=true) (W:World) (p:DG (λ_=>none) W) (gS:Array Value) (q:gN (λ_=>none) args gS.toList) :
  Calls P0 f gS W λe W'=>∃x,e = .returned x/\fO (λ_=>none) v x/\Still W W':=by
 cases j with
 | @names m d n g l b c h=>
   simp only[KE.ask,hK]at hv;obtain⟨a,hv⟩:=hv;obtain rfl:=CI a;split at hv
   ·rename_i k
    have r:=Mi l h k v hv
    grind[Calls.mono,Nm]
   ·cases hv
 | @yes m d n g b c h=>
   simp only[KE.ask,hK]at hv;obtain⟨a,hv⟩:=hv;obtain rfl:=CI a;split at hv
   ·cases hv
    exact Calls.mono (Nm i b c (UP h) W p gS q) (by simp_all)
   ·cases hv
noncomputable def fk.more(C:fk)(l:List KE):fk:=⟨C.start,C.ext,λf args h=>orB (Lt l f args) (λv=>some v) (C.K f args h)⟩
theorem OD:∀(l:List KE) {f:Nat} {args:List V} {v:V},Lt l f args=some v->∃e∈l,e.ask f args=some v
 |[],_,_,_,h=>by cases h
 | e ::es,f,args,v,h=>by
   simp only[Lt]at h
   cases hq:e.ask f args with
   |some u=>rw[hq]at h;grind[KE.ask,orB,Lt,KE.ask]
   | none=>
     rw[hq]at h;obtain⟨e',a,h'⟩:=OD es h
     grind
theorem yC.more{C:fk} (a:yC C) {l:List KE} (i:∀e∈l,KOk C e):yC (C.more l) where
 NU:=a.NU
 start:=a.start
 mixed:=a.mixed
 named:=a.named
 ext:=a.ext
 known:=λf args v h hk c b Δ W gS d g=>by
  simp only[fk.more]at hk
  cases hq:Lt l f args with
  | some u=>
    rw[hq]at hk;have:u=v:=by simpa[orB]using hk
    subst this;obtain⟨e,j,k⟩:=OD l hq
    exact(i e j).calls a k b W d.Wj.none gS g
  | none=>
    rw[hq]at hk;exact a.known f args v h (by grind[orB]) c b Δ W gS d g
def E1:Nat->Ext
 |108=> .countByte
 |115=> .indexByte
 |_=> .none
theorem Yz:(P0.funcs.toList.all λfn=>!(fn.name == "runtime.NumGoroutine"))=true:=by kernel_rfl
theorem mixed:P0.follows .mixedOrders=true:=by kernel_rfl
theorem zas:Nat.ble P0.globals.size 3=true:=by kernel_rfl
theorem zb8:P0.funcs[108]? =some Tryz.f108:=by unfold P0;exact Tryz.func108
theorem zcB:P0.funcs[115]? =some Tryz.f115:=by unfold P0;exact Tryz.func115
theorem zeI(w:World):DG (λ_=>none) w:=λg c h=>by simp[zeB]at h
noncomputable def C1:fk:=⟨Vg,E1,λ_ _ _=>none⟩
theorem facts:yC C1 where
 NU:=λ_=>rfl
 start:=Vx
 known:=λ_ _ _ _ h=>nomatch h
 mixed:=mixed
 named:=λf fn a=>by
  have h:=RU.1 Yz fn (by rw[Array.mem_toList_iff];exact Array.mem_of_getElem? a);simpa using h
 ext:=λf fn a g Δ args v gS w hv b=>by
  by_cases c:f=108
  ·subst c;rw[zb8]at a;cases a;exact XO zb8 (by kernel_rfl) (by kernel_rfl) (by kernel_rfl) (by kernel_rfl) hv b
  ·by_cases d:f=115
   ·subst d;rw[zcB]at a;cases a;exact XH zcB (by kernel_rfl) (by kernel_rfl) (by kernel_rfl) (by kernel_rfl) hv b
   ·have e:C1.ext f = .none:=by
     show E1 f = .none;unfold E1;split
     ·exact absurd rfl c
     ·exact absurd rfl d
     ·rfl
    rw[e]at hv;simp[Uh]at hv
