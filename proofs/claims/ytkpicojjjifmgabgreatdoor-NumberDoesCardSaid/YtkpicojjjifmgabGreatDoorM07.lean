/- Parts. -/
import Derived.Test.YtkpicojjjifmgabGreatDoorM06
import Derived.KernelRfl
set_option maxHeartbeats 4000000
namespace Go.Proofs.YtkpicojjjifmgabGreatDoor.Hx
def Call.Le(c c':Call):Prop:=∀f a h r,c f a h=some r->c' f a h=some r
section
variable{n:Nat}{c c':Call}(hc:c.Le c')
include hc
theorem Ks{o:Oper} {t:Tm} {h:Hp} {r:V×Hp} (hv:(Ji o).f c t h=some r):(Ji o).f c' t h=some r:=by
 unfold Ji at hv⊢;split
 ·simp_all
 ·simp_all
 ·rename_i h0 d;split at hv
  ·simp_all
  ·simp_all
  ·simp only[fy]at hv⊢;obtain⟨x,b,a⟩:=hv;refine⟨x,b,?_⟩
   cases x with
   |val v h'=>exact a
   |call f args=>exact hc _ _ _ _ a
theorem UN{all:List Oper} {o:Oper} {a:SF} (i:∀t h r,a.f c t h=some r->a.f c' t h=some r) {t:Tm} {h:Hp} {r:Tm×Hp} (hv:(J3 n all o a).f c t h=some r):(J3 n all o a).f c' t h=some r:=by
 unfold J3 at hv⊢
 cases hd:zT n o with
 |none=>rw[hd]at hv;cases hv
 | some d=>
   rw[hd]at hv;simp only at hv⊢
   cases hw:lP n all o with
   | none=>
     grind[Bu,fy,Ks]
   | some g=>
     rw[hw]at hv;simp only[fy]at hv⊢;obtain⟨b,e,j⟩:=hv;refine⟨b,e,?_⟩;cases b <;> grind[fy,Ks]
theorem EC{all:List Oper}:∀(os:List Oper) {t:Tm} {h:Hp} {r:Tm×Hp},(uZ n all os).f c t h=some r->(uZ n all os).f c' t h=some r
 |[],_,_,_,hv=>hv
 |o::os,_,_,_,hv=>UN hc (λ_ _ _ h=>EC os h) hv
omit hc in
theorem Um {all:List Oper} {ws:List It} {a:It} {d:DF} {rest:LF} (hr:∀t h rs r,rest.f c t h rs=some r->rest.f c' t h rs=some r) {t:Tm} {h:Hp} {rs:List Rec} {r:Tm×Hp} (hv:(IG n all ws a d rest).f c t h rs=some r) :
  (IG n all ws a d rest).f c' t h rs=some r:=by
 unfold IG at hv⊢;simp only[fy]at hv⊢;obtain⟨b,h1,h2⟩:=hv;refine⟨b,h1,?_⟩;cases b <;> grind[fy]
omit hc in
theorem Sd {all:List Oper} {ws:List It} {a:It} {d:DF} {rest:LF} (hr:∀t h rs r,rest.f c t h rs=some r->rest.f c' t h rs=some r) {t:Tm} {h:Hp} {rs:List Rec} {r:Tm×Hp} (hv:(GR n all ws a d rest).f c t h rs=some r) :
  (GR n all ws a d rest).f c' t h rs=some r:=by
 unfold GR at hv⊢;simp only[fy]at hv⊢;obtain⟨b,h1,h2⟩:=hv;refine⟨b,h1,?_⟩;cases b <;> grind[fy]
theorem R0{all:List Oper} {k:Nat} {a:It} {d:DF} {e:LF} (i:∀t h rs r,e.f c t h rs=some r->e.f c' t h rs=some r) {t:Tm} {h:Hp} {rs:List Rec} {r:Tm×Hp} (hv:(C0 n all k a d e).f c t h rs=some r) :
  (C0 n all k a d e).f c' t h rs=some r:=by
 unfold C0 at hv⊢;simp only[ie,fy]at hv⊢;obtain⟨h0,b,g,j⟩:=hv;refine⟨h0,b,g,?_⟩;cases b <;> grind[fy,ie,Ks]
theorem AO{all:List Oper} {ws:List It}:∀(l:List It) (k:Nat) {t:Tm} {h:Hp} {rs:List Rec} {r:Tm×Hp},(yQ n all ws l k).f c t h rs=some r->(yQ n all ws l k).f c' t h rs=some r
 |[],_,_,_,_,_,hv=>hv
 | a ::l,k,t,h,rs,r,hv=>by
   unfold yQ at hv⊢
   cases hd:zT n a.o with
   |none=>simp_all
   | some d=>
     rw[hd]at hv;simp only at hv⊢;split
     ·rename_i b;rw[b]at hv;exact Um (λ_ _ _ _ h=>AO l _ h) hv
     ·rename_i b;rw[b]at hv;exact Sd (λ_ _ _ _ h=>AO l _ h) hv
     ·rename_i h0 e
      split at hv
      ·simp_all
      ·simp_all
      ·exact R0 hc (λ_ _ _ _ h=>AO l _ h) hv
theorem Us{all:List Oper} {t:Tm} {h:Hp} {r:Tm×Hp} (hv:(Nl n all).f c t h=some r):(Nl n all).f c' t h=some r:=by
 unfold Nl at hv⊢
 cases hb:Qt (items all 0 []) (hZ (items all 0 []))&&xC (items all 0 []) (hZ (items all 0 [])) (order (items all 0 []) (hZ (items all 0 [])) (hZ (items all 0 [])) 0) 0 0 with
 |true=>grind[AO]
 | false=>
   rw[hb]at hv;simp only at hv⊢
   cases hf:JU (items all 0 []) (hZ (items all 0 []))with
   |none=>rw[hf]at hv;cases hv
   | some p=>
     rw[hf]at hv
     cases hb2:Rb (items all 0 [])&&xC (items all 0 []) (hZ (items all 0 [])) (order (items all 0 []) (hZ (items all 0 [])) (hZ (items all 0 [])) 0) 0 0 with
     |false=>rw[hb2]at hv;cases hv
     | true=>
       grind[fy,ie,AO]
theorem nB{m g:Nat} (a:m<=g):∀(k:Code) {t:Tm} {h:Hp} {r:X×Tm×Hp},(iM n k).f c m t h=some r->(iM n k).f c' g t h=some r
 | .skip,_,_,_,hv=>hv
 | .seq x y,t,h,r,hv=>by
   simp only[iM]at hv⊢;rcases Kt hv with⟨q,l,d,i⟩|⟨d,i⟩
   ·rw[nB a x d];exact nB a y i
   ·rw[nB a x d]
    obtain⟨o,t',h'⟩:=r
    cases o with
    |normal=>simp_all
    |exit id=>rfl
    |ret=>rfl
 | .cond e x y,t,h,r,hv=>by
   simp only[iM,fy]at hv⊢;obtain⟨v,l,s⟩:=hv;refine⟨v,l,?_⟩;split
   ·rename_i b
    cases b with
    |true=>exact nB a x s
    |false=>exact nB a y s
   simp_all
 | .block id x,t,h,r,hv=>by
   simp only[iM]at hv⊢
   cases hr:(iM n x).f c m t h with
   |none=>rw[hr]at hv;cases hv
   |some r'=>rw[hr]at hv;rw[nB a x hr];exact hv
 | .loop x,t,h,r,hv=>by
   simp only [iM]at hv⊢;have u:∀(k k':Nat) (t:Tm) (h:Hp),k<=k'->Gn (λt h=>(iM n x).f c m t h) k t h=some r->Gn (λt h=>(iM n x).f c' g t h) k' t h=some r:=by
     intro k
     induction k with
     |zero=>intro k' t h _ hv;cases hv
     | succ k w=>
       intro k' t h z hv;obtain⟨k',rfl⟩:∃j,k' = j+1:=⟨k'-1,by omega⟩
       have p:Gb ((iM n x).f c m t h) (Gn (λt h=>(iM n x).f c m t h) k)=some r:=hv;show Gb ((iM n x).f c' g t h) (Gn (λt h=>(iM n x).f c' g t h) k')=some r;rcases Kt p with⟨q,l,d,i⟩|⟨d,i⟩
       ·rw[nB a x d];exact w k' q l (by omega) i
       ·rw[nB a x d]
        obtain⟨o,t',h'⟩:=r
        cases o with
        |normal=>simp_all
        |exit id=>rfl
        |ret=>rfl
   grind
 | .exit id,_,_,_,hv=>hv
 | .ret,_,_,_,hv=>hv
 | .region id ops false,t,h,r,hv=>by
   grind[iM,fy,EC]
 | .region id ops true,t,h,r,hv=>by
   grind[iM,fy,Us]
 | .rangeFunc ..,_,_,_,hv=>by cases hv
 | .scope _,_,_,_,hv=>by cases hv
 | .label _,_,_,_,hv=>by cases hv
 | .goto _,_,_,_,hv=>by cases hv
 | .refuse _,_,_,_,hv=>by cases hv
theorem SS{C:fu} {m a:Nat} (b:m<=a) {f:Nat} {args:List V} {h:Hp} {r:V×Hp} (hv:(Lt C f).f c m args h=some r):(Lt C f).f c' a args h=some r:=by
 unfold Lt at hv⊢;cases hf:P0.funcs[f]? <;> grind[Vh,ie,fy,nB]
theorem Pk{C:fu} {m a:Nat} (b:m<=a):∀(l:List (Nat×List V)) {h h':Hp},OJ C c m l h=some h'->OJ C c' a l h=some h'
 |[],_,_,hv=>hv
 | x::l,_,_,hv=>by
   simp only[OJ,fy]at hv⊢;obtain⟨r,d,e⟩:=hv;exact⟨r,SS hc b d,Pk b l e⟩
theorem UM{C:fu} {m a:Nat} (b:m<=a) {f:Nat} {args:List V} {h:Hp} {r:V×Hp} (hv:(FD C f).f c m args h=some r):(FD C f).f c' a args h=some r:=by
 unfold FD at hv⊢
 cases hf:P0.funcs[f]? with
 |none=>simp_all
 | some fn=>
   rw[hf]at hv;simp only at hv⊢
   cases hb:fn.body with
   |none=>simp_all
   | some k=>
     rw[hb]at hv;simp only at hv⊢
     cases hk:C.K f args h with
     |some u=>rw[hk]at hv;exact hv
     | none=>
       rw[hk]at hv
       grind[ZK,ie,fy,nB,id,Pk]
end
theorem yO{C:fu} {m b:Nat} (g:m<=b):∀{d c:Nat},d<=c->(kU C m d).Le (kU C b c)
 |0,_,_=>λ_ _ _ _ h=>(nomatch h)
 |d+1,0,h=>by omega
 | d+1,c+1,h=>λf a hp r hv=>by
   have e:(FD C f).f (kU C m d) m a hp=some r:=hv;show(FD C f).f (kU C b c) b a hp=some r;exact UM (yO g (by omega)) g e
inductive KE where
 |names (f:Nat) (l:List (Nat×V))
 |yes (f:Nat)
noncomputable def Vt:List (Nat×V)->Nat->Option V
 |[],_=>none
 |x::l,n=>Bool.rec (motive:=λ_=>Option V) (Vt l n) (some x.2) (Nat.beq x.1 n)
noncomputable def KE.ask(e:KE) (f:Nat) (args:List V):Option V:=match e with
 | .names g l=>bB (Nat.beq f g) (match args with
   |[.int .i64 (.ofNat n)]=>Vt l n
   |_=>none)
 | .yes g=>bB (Nat.beq f g) (match args with
   |[]=>some (.bool true)
   |_=>none)
noncomputable def KY:List KE->Nat->List V->Option V
 |[],_,_=>none
 |e::es,f,args=>ZK (e.ask f args) (λv=>some v) (KY es f args)
def isV(v:V):Option (V×Hp)->Bool
 |some (u,_)=>V.beq u v
 |_=>false
theorem Ot{C:fu} (h:yx C) {m d n f:Nat} {args:List V} {v:V} (p:P0.globals.size<=n) (hb:∃fn c,P0.funcs[f]? =some fn/\fn.body=some c) (hv:isV v (kU C m d f args {next:=n,tr:= .leaf})=true)
  (W:World) (ht:Dz (λ_=>none) W) (gW:Array Value) (k:gQ (λ_=>none) args gW.toList) :
  Calls P0 f gW W λe W'=>∃x,e = .returned x/\(v.flat=true->fR (λ_=>none) v x)/\Still W W':=by
 cases hr:kU C m d f args {next:=n,tr:= .leaf} with
 |none=>rw[hr]at hv;cases hv
 | some r=>
   obtain⟨u,h'⟩:=r;rw[hr]at hv;obtain rfl:u=v:=V.eq_of_beq _ _ hv;rcases J9 h m d f args _ _ _ (λ_=>none) W gW hr (by grind[WR.start]) k with⟨x,q,_⟩|⟨_,l⟩
   ·exfalso
    obtain ⟨fn,c,i,a⟩:=hb;have b:=h.named f fn i;have:(callFunc f gW).run P0 W = .ok (.enter f gW) W:=by
      simp only[callFunc,yo,run_program,wX,i,b,a,wBz,Rq,if_false];rfl
    simp_all
   ·refine Calls.mono l λe w' o=>?_
    obtain⟨s,x,rfl,j⟩:=o;exact⟨x,rfl,λg=>TB j.val g,j.frame.still zff⟩
noncomputable def Kx(C:fu) (m d n f:Nat):List (Nat×V)->Bool
 |[]=>true
 |x::l=>Bool.rec (motive:=λ_=>Bool) false (Kx C m d n f l) (isV x.2 (kU C m d f [.int .i64 (.ofNat x.1)] {next:=n,tr:= .leaf}))
theorem LW{C:fu} {m d n f:Nat}:∀(l:List (Nat×V)),Kx C m d n f l=true->∀k s,Vt l k=some s->isV s (kU C m d f [.int .i64 (.ofNat k)] {next:=n,tr:= .leaf})=true
 |[],_,k,s,hk=>by cases hk
 | x ::l,h,k,s',hk=>by
   simp only[Kx]at h;simp only[Vt]at hk
   cases hb:isV x.2 (kU C m d f [.int .i64 (.ofNat x.1)] {next:=n,tr:= .leaf})with
   |false=>simp_all
   | true=>
     rw[hb]at h
     cases hx:Nat.beq x.1 k with
     | true=>
       simp_all
     | false=>
       rw[hx]at hk;exact LW l h k s' hk
inductive KOk (C:fu):KE->Prop where
 |names {m d n f l} (a:P0.globals.size<=n) (hb:∃fn c,P0.funcs[f]? =some fn/\fn.body=some c) (h:Kx C m d n f l=true):KOk C (.names f l)
 |yes {m d n f} (a:P0.globals.size<=n) (hb:∃fn c,P0.funcs[f]? =some fn/\fn.body=some c) (h:isTrue (kU C m d f [] {next:=n,tr:= .leaf})=true):KOk C (.yes f)
theorem UR{r:Option (V×Hp)} (h:isTrue r=true):isV (.bool true) r=true:=by
 unfold isTrue at h;split at h
 ·rfl
 ·cases h
theorem KOk.calls{C:fu} (c:yx C) {e:KE} (i:KOk C e) {f:Nat} {args:List V} {v:V} (hv:e.ask f args=some v) (j:v.flat=true) (W:World) (ht:Dz (λ_=>none) W) (gW:Array Value) (o:gQ (λ_=>none) args gW.toList) :
  Calls P0 f gW W λe W'=>∃x,e = .returned x/\fR (λ_=>none) v x/\Still W W':=by
 cases i with
 | @names m d n g l b hb h=>
   simp only[KE.ask,ie]at hv;obtain⟨a,hv⟩:=hv;obtain rfl:=Cr a;split at hv
   ·rename_i k
    have p:=LW l h k v hv
    grind[Calls.mono,Ot]
   ·cases hv
 | @yes m d n g b hb h=>
   simp only[KE.ask,ie]at hv;obtain⟨a,hv⟩:=hv;obtain rfl:=Cr a;split at hv
   ·cases hv
    exact Calls.mono (Ot c b hb (UR h) W ht gW o) (by simp_all)
   ·cases hv
noncomputable def fu.more(C:fu)(l:List KE):fu:=⟨C.start,C.ext,λf args h=>ZK (KY l f args) (λv=>some v) (C.K f args h)⟩
theorem Ni:∀(l:List KE) {f:Nat} {args:List V} {v:V},KY l f args=some v->∃e∈l,e.ask f args=some v
 |[],_,_,_,h=>by cases h
 | e ::es,f,args,v,h=>by
   simp only[KY]at h
   cases hq:e.ask f args with
   |some u=>rw[hq]at h;grind[KE.ask,ZK,KY,KE.ask]
   | none=>
     rw[hq]at h;obtain⟨a,b,h'⟩:=Ni es h
     grind
theorem yx.more{C:fu} (a:yx C) {l:List KE} (j:∀e∈l,KOk C e):yx (C.more l) where
 NR:=a.NR
 start:=a.start
 mixed:=a.mixed
 named:=a.named
 ext:=a.ext
 known:=λf args v h c d b Δ W gW g i=>by
  simp only[fu.more]at c
  cases hq:KY l f args with
  | some u=>
    rw[hq]at c;have:u=v:=by simpa[ZK]using c
    subst this;obtain⟨e,k,m⟩:=Ni l hq
    exact(j e k).calls a m b W g.VM.none gW i
  | none=>
    rw[hq]at c;exact a.known f args v h (by grind[ZK]) d b Δ W gW g i
def E1:Nat->Ext
 |102=> .countByte
 |109=> .indexByte
 |_=> .none
theorem X8:(P0.funcs.toList.all λfn=>!(fn.name == "runtime.NumGoroutine"))=true:=by kernel_rfl
theorem mixed:P0.follows .mixedOrders=true:=by kernel_rfl
theorem Y6:Nat.ble P0.globals.size 3=true:=by kernel_rfl
theorem zb9:P0.funcs[102]? =some Tryz.f102:=by unfold P0;exact Tryz.func102
theorem zb7:P0.funcs[109]? =some Tryz.f109:=by unfold P0;exact Tryz.func109
theorem zew(w:World):Dz (λ_=>none) w:=λg c h=>by simp[zes]at h
noncomputable def C1:fu:=⟨Up,E1,λ_ _ _=>none⟩
theorem facts:yx C1 where
 NR:=λ_=>rfl
 start:=TV
 known:=λ_ _ _ _ h=>nomatch h
 mixed:=mixed
 named:=λf fn a=>by
  have h:=Rp.1 X8 fn (by rw[Array.mem_toList_iff];exact Array.mem_of_getElem? a);simpa using h
 ext:=λf fn a hb Δ args v gW w hv b=>by
  by_cases c:f=102
  ·subst c;rw[zb9]at a;cases a;exact WS zb9 (by kernel_rfl) (by kernel_rfl) (by kernel_rfl) (by kernel_rfl) hv b
  ·by_cases d:f=109
   ·subst d;rw[zb7]at a;cases a;exact V4 zb7 (by kernel_rfl) (by kernel_rfl) (by kernel_rfl) (by kernel_rfl) hv b
   ·have e:C1.ext f = .none:=by
     show E1 f = .none;unfold E1;split
     ·exact absurd rfl c
     ·exact absurd rfl d
     ·rfl
    rw[e]at hv;simp[UT]at hv
