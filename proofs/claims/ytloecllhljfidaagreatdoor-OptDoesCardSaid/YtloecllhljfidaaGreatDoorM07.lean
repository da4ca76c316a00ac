/- Parts. -/
import Derived.Test.YtloecllhljfidaaGreatDoorM06
import Derived.KernelRfl
set_option maxHeartbeats 4000000
namespace Go.Proofs.YtloecllhljfidaaGreatDoor.Hx
variable{all:List Oper}{ws:List It}{m:Nat}{a:It}{d:DF}
def Call.Le(c c':Call):Prop:=∀f a h r,c f a h=some r->c' f a h=some r
section
variable{n:Nat}{c c':Call}(hc:c.Le c')
include hc
theorem Kr{o:Oper} {t:Tm} {h:Hp} {r:V×Hp} (hv:(JT o).f c t h=some r):(JT o).f c' t h=some r:=by
 unfold JT at hv⊢;split
 ·simp_all
 ·simp_all
 ·rename_i h0 d;split at hv
  ·simp_all
  ·simp_all
  ·simp only[fR]at hv⊢;obtain⟨x,b,a⟩:=hv;refine⟨x,b,?_⟩
   cases x with
   |val v h'=>exact a
   |call f args=>exact hc _ _ _ _ a
theorem VW {o:Oper} {a:SF} (i:∀t h r,a.f c t h=some r->a.f c' t h=some r) {t:Tm} {h:Hp} {r:Tm×Hp} (hv:(Lp n all o a).f c t h=some r):(Lp n all o a).f c' t h=some r:=by
 unfold Lp at hv⊢
 cases hd:AZ n o with
 |none=>rw[hd]at hv;cases hv
 | some d=>
   rw[hd]at hv;simp only at hv⊢
   cases hw:kR n all o with
   | none=>
     grind[fR,Kr]
   | some g=>
     rw[hw]at hv;simp only[fR]at hv⊢;obtain⟨b,e,j⟩:=hv;refine⟨b,e,?_⟩;cases b <;> grind[fR,Kr]
theorem EO:∀(os:List Oper) {t:Tm} {h:Hp} {r:Tm×Hp},(vH n all os).f c t h=some r->(vH n all os).f c' t h=some r
 |[],_,_,_,hv=>hv
 |o::os,_,_,_,hv=>VW hc (λ_ _ _ h=>EO os h) hv
omit hc in
theorem VI     {rest:LF} (hr:∀t h rs r,rest.f c t h rs=some r->rest.f c' t h rs=some r) {t:Tm} {h:Hp} {rs:List Rec} {r:Tm×Hp} (hv:(Jl n all ws a d rest).f c t h rs=some r) :
  (Jl n all ws a d rest).f c' t h rs=some r:=by
 unfold Jl at hv⊢;simp only[fR]at hv⊢;obtain⟨b,h1,h2⟩:=hv;refine⟨b,h1,?_⟩;cases b <;> grind[fR]
omit hc in
theorem SW     {rest:LF} (hr:∀t h rs r,rest.f c t h rs=some r->rest.f c' t h rs=some r) {t:Tm} {h:Hp} {rs:List Rec} {r:Tm×Hp} (hv:(G7 n all ws a d rest).f c t h rs=some r) :
  (G7 n all ws a d rest).f c' t h rs=some r:=by
 unfold G7 at hv⊢;simp only[fR]at hv⊢;obtain⟨b,h1,h2⟩:=hv;refine⟨b,h1,?_⟩;cases b <;> grind[fR]
theorem S6 {k:Nat}   {e:LF} (i:∀t h rs r,e.f c t h rs=some r->e.f c' t h rs=some r) {t:Tm} {h:Hp} {rs:List Rec} {r:Tm×Hp} (hv:(CM n all k a d e).f c t h rs=some r) :
  (CM n all k a d e).f c' t h rs=some r:=by
 unfold CM at hv⊢;simp only[jf,fR]at hv⊢;obtain⟨h0,b,g,j⟩:=hv;refine⟨h0,b,g,?_⟩;cases b <;> grind[fR,jf,Kr]
theorem Aq :∀(l:List It) (k:Nat) {t:Tm} {h:Hp} {rs:List Rec} {r:Tm×Hp},(yN n all ws l k).f c t h rs=some r->(yN n all ws l k).f c' t h rs=some r
 |[],_,_,_,_,_,hv=>hv
 | a ::l,k,t,h,rs,r,hv=>by
   unfold yN at hv⊢
   cases hd:AZ n a.o with
   |none=>simp_all
   | some d=>
     rw[hd]at hv;simp only at hv⊢;split
     ·rename_i hk;rw[hk]at hv;exact VI (λ_ _ _ _ h=>Aq l _ h) hv
     ·rename_i hk;rw[hk]at hv;exact SW (λ_ _ _ _ h=>Aq l _ h) hv
     ·rename_i h0 b
      split at hv
      ·simp_all
      ·simp_all
      ·exact S6 hc (λ_ _ _ _ h=>Aq l _ h) hv
theorem Vr {t:Tm} {h:Hp} {r:Tm×Hp} (hv:(Oz n all).f c t h=some r):(Oz n all).f c' t h=some r:=by
 unfold Oz at hv⊢
 cases hb:Rk (items all 0 []) (gZ (items all 0 []))&&yd (items all 0 []) (gZ (items all 0 [])) (order (items all 0 []) (gZ (items all 0 [])) (gZ (items all 0 [])) 0) 0 0 with
 |true=>grind[Aq]
 | false=>
   rw[hb]at hv;simp only at hv⊢
   cases hf:Lm (items all 0 []) (gZ (items all 0 []))with
   |none=>rw[hf]at hv;cases hv
   | some p=>
     rw[hf]at hv
     cases hb2:QN (items all 0 [])&&yd (items all 0 []) (gZ (items all 0 [])) (order (items all 0 []) (gZ (items all 0 [])) (gZ (items all 0 [])) 0) 0 0 with
     |false=>rw[hb2]at hv;cases hv
     | true=>
       grind[fR,jf,Aq]
theorem oQ{g:Nat} (a:m<=g):∀(k:Code) {t:Tm} {h:Hp} {r:X×Tm×Hp},(iV n k).f c m t h=some r->(iV n k).f c' g t h=some r
 | .skip,_,_,_,hv=>hv
 | .seq x y,t,h,r,hv=>by
   simp only[iV]at hv⊢;rcases KL hv with⟨q,l,d,i⟩|⟨d,i⟩
   ·rw[oQ a x d];exact oQ a y i
   ·rw[oQ a x d]
    obtain⟨o,t',h'⟩:=r
    cases o with
    |normal=>simp_all
    |exit id=>rfl
    |ret=>rfl
 | .cond e x y,t,h,r,hv=>by
   simp only[iV,fR]at hv⊢;obtain⟨v,l,s⟩:=hv;refine⟨v,l,?_⟩;split
   ·rename_i b
    cases b with
    |true=>exact oQ a x s
    |false=>exact oQ a y s
   simp_all
 | .block id x,t,h,r,hv=>by
   simp only[iV]at hv⊢
   cases hr:(iV n x).f c m t h with
   |none=>rw[hr]at hv;cases hv
   |some r'=>rw[hr]at hv;rw[oQ a x hr];exact hv
 | .loop x,t,h,r,hv=>by
   simp only [iV]at hv⊢;have u:∀(k k':Nat) (t:Tm) (h:Hp),k<=k'->K6 (λt h=>(iV n x).f c m t h) k t h=some r->K6 (λt h=>(iV n x).f c' g t h) k' t h=some r:=by
     intro k
     induction k with
     |zero=>intro k' t h _ hv;cases hv
     | succ k w=>
       intro k' t h hk hv;obtain⟨k',rfl⟩:∃j,k' = j+1:=⟨k'-1,by omega⟩
       have p:IB ((iV n x).f c m t h) (K6 (λt h=>(iV n x).f c m t h) k)=some r:=hv;show IB ((iV n x).f c' g t h) (K6 (λt h=>(iV n x).f c' g t h) k')=some r;rcases KL p with⟨q,l,d,i⟩|⟨d,i⟩
       ·rw[oQ a x d];exact w k' q l (by omega) i
       ·rw[oQ a x d]
        obtain⟨o,t',h'⟩:=r
        cases o with
        |normal=>simp_all
        |exit id=>rfl
        |ret=>rfl
   grind
 | .exit id,_,_,_,hv=>hv
 | .ret,_,_,_,hv=>hv
 | .region id ops false,t,h,r,hv=>by
   grind[iV,fR,EO]
 | .region id ops true,t,h,r,hv=>by
   grind[iV,fR,Vr]
 | .rangeFunc ..,_,_,_,hv=>by cases hv
 | .scope _,_,_,_,hv=>by cases hv
 | .label _,_,_,_,hv=>by cases hv
 | .goto _,_,_,_,hv=>by cases hv
 | .refuse _,_,_,_,hv=>by cases hv
theorem UI{C:kW} {a:Nat} (b:m<=a) {f:Nat} {args:List V} {h:Hp} {r:V×Hp} (hv:(FW C f).f c m args h=some r):(FW C f).f c' a args h=some r:=by
 unfold FW at hv⊢
 cases hf:P0.funcs[f]? with
 |none=>simp_all
 | some fn=>
   rw[hf]at hv;simp only at hv⊢
   cases hb:fn.body with
   |none=>simp_all
   | some k=>
     rw[hb]at hv;simp only at hv⊢
     cases hk:C.K f args h with
     |some u=>rw[hk]at hv;exact hv
     | none=>
       rw[hk]at hv
       grind[orB,jf,fR,oQ,id]
end
theorem yG{C:kW} {b:Nat} (e:m<=b):∀{d d':Nat},d<=d'->(lg C m d).Le (lg C b d')
 |0,_,_=>λ_ _ _ _ h=>(nomatch h)
 |d+1,0,h=>by omega
 | d+1,d' + 1,h=>λf a hp r hv=>by
   have c:(FW C f).f (lg C m d) m a hp=some r:=hv;show(FW C f).f (lg C b d') b a hp=some r;exact UI (yG e (by omega)) e c
inductive KE where
 |names (f:Nat) (l:List (Nat×V))
 |yes (f:Nat)
noncomputable def Wf:List (Nat×V)->Nat->Option V
 |[],_=>none
 |x::l,n=>Bool.rec (motive:=λ_=>Option V) (Wf l n) (some x.2) (Nat.beq x.1 n)
noncomputable def KE.ask(e:KE) (f:Nat) (args:List V):Option V:=match e with
 | .names g l=>bB (Nat.beq f g) (match args with
   |[.int .i64 (.ofNat n)]=>Wf l n
   |_=>none)
 | .yes g=>bB (Nat.beq f g) (match args with
   |[]=>some (.bool true)
   |_=>none)
noncomputable def LL:List KE->Nat->List V->Option V
 |[],_,_=>none
 |e::es,f,args=>orB (e.ask f args) (λv=>some v) (LL es f args)
def isV(v:V):Option (V×Hp)->Bool
 |some (u,_)=>V.beq u v
 |_=>false
theorem OP{C:kW} (h:zP C) {m d n f:Nat} {args:List V} {v:V} (p:P0.globals.size<=n) (hb:∃fn c,P0.funcs[f]? =some fn/\fn.body=some c) (hv:isV v (lg C m d f args {next:=n,tr:= .leaf})=true)
  (W:World) (ht:Dz (λ_=>none) W) (ie:Array Value) (k:gW (λ_=>none) args ie.toList) :
  Calls P0 f ie W λe W'=>∃x,e = .returned x/\(v.flat=true->fZ (λ_=>none) v x)/\Still W W':=by
 cases hr:lg C m d f args {next:=n,tr:= .leaf} with
 |none=>rw[hr]at hv;cases hv
 | some r=>
   obtain⟨u,h'⟩:=r;rw[hr]at hv;obtain rfl:u=v:=V.eq_of_beq _ _ hv;rcases Kt h m d f args _ _ _ (λ_=>none) W ie hr (by grind[WR.start]) k with⟨x,q,_⟩|⟨_,l⟩
   ·exfalso
    obtain ⟨fn,c,i,a⟩:=hb;have b:=h.named f fn i;have:(callFunc f ie).run P0 W = .ok (.enter f ie) W:=by
      simp only[callFunc,Lv,run_program,Pd,i,b,a,Option.isNone_some,wBM,if_false];rfl
    simp_all
   ·refine Calls.mono l λe w' o=>?_
    obtain⟨s,x,rfl,j⟩:=o;exact⟨x,rfl,λg=>SU j.val g,j.frame.still zgo⟩
noncomputable def KP(C:kW) (m d n f:Nat):List (Nat×V)->Bool
 |[]=>true
 |x::l=>Bool.rec (motive:=λ_=>Bool) false (KP C m d n f l) (isV x.2 (lg C m d f [.int .i64 (.ofNat x.1)] {next:=n,tr:= .leaf}))
theorem Mt{C:kW} {d n f:Nat}:∀(l:List (Nat×V)),KP C m d n f l=true->∀k s,Wf l k=some s->isV s (lg C m d f [.int .i64 (.ofNat k)] {next:=n,tr:= .leaf})=true
 |[],_,k,s,hk=>by cases hk
 | x ::l,h,k,s',hk=>by
   simp only[KP]at h;simp only[Wf]at hk
   cases hb:isV x.2 (lg C m d f [.int .i64 (.ofNat x.1)] {next:=n,tr:= .leaf})with
   |false=>simp_all
   | true=>
     rw[hb]at h
     cases hx:Nat.beq x.1 k with
     | true=>
       simp_all
     | false=>
       rw[hx]at hk;exact Mt l h k s' hk
inductive KOk (C:kW):KE->Prop where
 |names {m d n f l} (a:P0.globals.size<=n) (hb:∃fn c,P0.funcs[f]? =some fn/\fn.body=some c) (h:KP C m d n f l=true):KOk C (.names f l)
 |yes {m d n f} (a:P0.globals.size<=n) (hb:∃fn c,P0.funcs[f]? =some fn/\fn.body=some c) (h:isTrue (lg C m d f [] {next:=n,tr:= .leaf})=true):KOk C (.yes f)
theorem Vs{r:Option (V×Hp)} (h:isTrue r=true):isV (.bool true) r=true:=by
 unfold isTrue at h;split at h
 ·rfl
 ·cases h
theorem KOk.calls{C:kW} (c:zP C) {e:KE} (i:KOk C e) {f:Nat} {args:List V} {v:V} (hv:e.ask f args=some v) (j:v.flat=true) (W:World) (ht:Dz (λ_=>none) W) (ie:Array Value) (o:gW (λ_=>none) args ie.toList) :
  Calls P0 f ie W λe W'=>∃x,e = .returned x/\fZ (λ_=>none) v x/\Still W W':=by
 cases i with
 | @names m d n g l b hb h=>
   simp only[KE.ask,jf]at hv;obtain⟨a,hv⟩:=hv;obtain rfl:=Iw a;split at hv
   ·rename_i k
    have p:=Mt l h k v hv
    grind[Calls.mono,OP]
   ·cases hv
 | @yes m d n g b hb h=>
   simp only[KE.ask,jf]at hv;obtain⟨a,hv⟩:=hv;obtain rfl:=Iw a;split at hv
   ·cases hv
    exact Calls.mono (OP c b hb (Vs h) W ht ie o) (by simp_all)
   ·cases hv
noncomputable def kW.more(C:kW)(l:List KE):kW:=⟨C.start,C.ext,λf args h=>orB (LL l f args) (λv=>some v) (C.K f args h)⟩
theorem OU:∀(l:List KE) {f:Nat} {args:List V} {v:V},LL l f args=some v->∃e∈l,e.ask f args=some v
 |[],_,_,_,h=>by cases h
 | e ::es,f,args,v,h=>by
   simp only[LL]at h
   cases hq:e.ask f args with
   |some u=>rw[hq]at h;grind[KE.ask,orB,LL,KE.ask]
   | none=>
     rw[hq]at h;obtain⟨e',a,h'⟩:=OU es h
     grind
theorem zP.more{C:kW} (a:zP C) {l:List KE} (i:∀e∈l,KOk C e):zP (C.more l) where
 Og:=a.Og
 start:=a.start
 mixed:=a.mixed
 named:=a.named
 ext:=a.ext
 known:=λf args v h hk c b Δ W ie d g=>by
  simp only[kW.more]at hk
  cases hq:LL l f args with
  | some u=>
    rw[hq]at hk;have:u=v:=by simpa[orB]using hk
    subst this;obtain⟨e,j,k⟩:=OU l hq
    exact(i e j).calls a k b W d.V9.none ie g
  | none=>
    rw[hq]at hk;exact a.known f args v h (by grind[orB]) c b Δ W ie d g
def E1:Nat->Ext
 |119=> .countByte
 |126=> .indexByte
 |_=> .none
theorem Zm:(P0.funcs.toList.all λfn=>!(fn.name == "runtime.NumGoroutine"))=true:=by kernel_rfl
theorem mixed:P0.follows .mixedOrders=true:=by kernel_rfl
theorem Z4:Nat.ble P0.globals.size 3=true:=by kernel_rfl
theorem zc5:P0.funcs[119]? =some Tryz.f119:=by unfold P0;exact Tryz.func119
theorem zc1:P0.funcs[126]? =some Tryz.f126:=by unfold P0;exact Tryz.func126
theorem zfz(w:World):Dz (λ_=>none) w:=λg c h=>by simp[zfp]at h
noncomputable def C1:kW:=⟨Vh,E1,λ_ _ _=>none⟩
theorem facts:zP C1 where
 Og:=λ_=>rfl
 start:=VL
 known:=λ_ _ _ _ h=>nomatch h
 mixed:=mixed
 named:=λf fn a=>by
  have h:=Sj.1 Zm fn (by rw[Array.mem_toList_iff];exact Array.mem_of_getElem? a);simpa using h
 ext:=λf fn a hb Δ args v ie w hv b=>by
  by_cases c:f=119
  ·subst c;rw[zc5]at a;cases a;exact X7 zc5 (by kernel_rfl) (by kernel_rfl) (by kernel_rfl) (by kernel_rfl) hv b
  ·by_cases d:f=126
   ·subst d;rw[zc1]at a;cases a;exact Ys zc1 (by kernel_rfl) (by kernel_rfl) (by kernel_rfl) (by kernel_rfl) hv b
   ·have e:C1.ext f = .none:=by
     show E1 f = .none;unfold E1;split
     ·exact absurd rfl c
     ·exact absurd rfl d
     ·rfl
    rw[e]at hv;simp[U9]at hv
