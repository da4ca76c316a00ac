/- Parts. -/
import Derived.Test.YtflkbfabonggkaaGreatDoorM06
import Derived.KernelRfl
set_option maxHeartbeats 4000000
namespace Go.Proofs.YtflkbfabonggkaaGreatDoor.Hx
def Call.Le(c c':Call):Prop:=∀f a h r,c f a h=some r->c' f a h=some r
section
variable{n:Nat}{c c':Call}(hc:c.Le c')
include hc
theorem J4{o:Oper} {t:Tm} {h:Hp} {r:V×Hp} (hv:(IX o).f c t h=some r):(IX o).f c' t h=some r:=by
 unfold IX at hv⊢;split
 ·simp_all
 ·simp_all
 ·rename_i h0 d;split at hv
  ·simp_all
  ·simp_all
  ·simp only[fq]at hv⊢;obtain⟨x,b,a⟩:=hv;refine⟨x,b,?_⟩
   cases x with
   |val v h'=>exact a
   |call f args=>exact hc _ _ _ _ a
theorem Tk{all:List Oper} {o:Oper} {a:SF} (i:∀t h r,a.f c t h=some r->a.f c' t h=some r) {t:Tm} {h:Hp} {r:Tm×Hp} (hv:(JP n all o a).f c t h=some r):(JP n all o a).f c' t h=some r:=by
 unfold JP at hv⊢
 cases hd:zd n o with
 |none=>rw[hd]at hv;cases hv
 | some d=>
   rw[hd]at hv;simp only at hv⊢
   cases hw:kU n all o with
   | none=>
     grind[AX,fq,J4]
   | some g=>
     rw[hw]at hv;simp only[fq]at hv⊢;obtain⟨b,e,j⟩:=hv;refine⟨b,e,?_⟩;cases b <;> grind[fq,J4]
theorem EC{all:List Oper}:∀(os:List Oper) {t:Tm} {h:Hp} {r:Tm×Hp},(ui n all os).f c t h=some r->(ui n all os).f c' t h=some r
 |[],_,_,_,hv=>hv
 |o::os,_,_,_,hv=>Tk hc (λ_ _ _ h=>EC os h) hv
omit hc in
theorem UE {all:List Oper} {ws:List It} {a:It} {d:DF} {rest:LF} (hr:∀t h rs r,rest.f c t h rs=some r->rest.f c' t h rs=some r) {t:Tm} {h:Hp} {rs:List Rec} {r:Tm×Hp} (hv:(IC n all ws a d rest).f c t h rs=some r) :
  (IC n all ws a d rest).f c' t h rs=some r:=by
 unfold IC at hv⊢;simp only[fq]at hv⊢;obtain⟨b,h1,h2⟩:=hv;refine⟨b,h1,?_⟩;cases b <;> grind[fq]
omit hc in
theorem Q7 {all:List Oper} {ws:List It} {a:It} {d:DF} {rest:LF} (hr:∀t h rs r,rest.f c t h rs=some r->rest.f c' t h rs=some r) {t:Tm} {h:Hp} {rs:List Rec} {r:Tm×Hp} (hv:(Gq n all ws a d rest).f c t h rs=some r) :
  (Gq n all ws a d rest).f c' t h rs=some r:=by
 unfold Gq at hv⊢;simp only[fq]at hv⊢;obtain⟨b,h1,h2⟩:=hv;refine⟨b,h1,?_⟩;cases b <;> grind[fq]
theorem SD{all:List Oper} {k:Nat} {a:It} {d:DF} {e:LF} (i:∀t h rs r,e.f c t h rs=some r->e.f c' t h rs=some r) {t:Tm} {h:Hp} {rs:List Rec} {r:Tm×Hp} (hv:(CA n all k a d e).f c t h rs=some r) :
  (CA n all k a d e).f c' t h rs=some r:=by
 unfold CA at hv⊢;simp only[gS,fq]at hv⊢;obtain⟨h0,b,g,j⟩:=hv;refine⟨h0,b,g,?_⟩;cases b <;> grind[fq,gS,J4]
theorem Ad{all:List Oper} {ws:List It}:∀(l:List It) (k:Nat) {t:Tm} {h:Hp} {rs:List Rec} {r:Tm×Hp},(yk n all ws l k).f c t h rs=some r->(yk n all ws l k).f c' t h rs=some r
 |[],_,_,_,_,_,hv=>hv
 | a ::l,k,t,h,rs,r,hv=>by
   unfold yk at hv⊢
   cases hd:zd n a.o with
   |none=>simp_all
   | some d=>
     rw[hd]at hv;simp only at hv⊢;split
     ·rename_i hk;rw[hk]at hv;exact UE (λ_ _ _ _ h=>Ad l _ h) hv
     ·rename_i hk;rw[hk]at hv;exact Q7 (λ_ _ _ _ h=>Ad l _ h) hv
     ·rename_i h0 b
      split at hv
      ·simp_all
      ·simp_all
      ·exact SD hc (λ_ _ _ _ h=>Ad l _ h) hv
theorem TH{all:List Oper} {t:Tm} {h:Hp} {r:Tm×Hp} (hv:(MN n all).f c t h=some r):(MN n all).f c' t h=some r:=by
 unfold MN at hv⊢
 cases hb:PL (items all 0 []) (gQ (items all 0 []))&&xk (items all 0 []) (gQ (items all 0 [])) (order (items all 0 []) (gQ (items all 0 [])) (gQ (items all 0 [])) 0) 0 0 with
 |true=>grind[Ad]
 | false=>
   rw[hb]at hv;simp only at hv⊢
   cases hf:Kc (items all 0 []) (gQ (items all 0 []))with
   |none=>rw[hf]at hv;cases hv
   | some p=>
     rw[hf]at hv
     cases hb2:PO (items all 0 [])&&xk (items all 0 []) (gQ (items all 0 [])) (order (items all 0 []) (gQ (items all 0 [])) (gQ (items all 0 [])) 0) 0 0 with
     |false=>rw[hb2]at hv;cases hv
     | true=>
       grind[fq,gS,Ad]
theorem mN{m g:Nat} (a:m<=g):∀(k:Code) {t:Tm} {h:Hp} {r:X×Tm×Hp},(iE n k).f c m t h=some r->(iE n k).f c' g t h=some r
 | .skip,_,_,_,hv=>hv
 | .seq x y,t,h,r,hv=>by
   simp only[iE]at hv⊢;rcases JY hv with⟨q,l,d,i⟩|⟨d,i⟩
   ·rw[mN a x d];exact mN a y i
   ·rw[mN a x d]
    obtain⟨o,t',h'⟩:=r
    cases o with
    |normal=>simp_all
    |exit id=>rfl
    |ret=>rfl
 | .cond e x y,t,h,r,hv=>by
   simp only[iE,fq]at hv⊢;obtain⟨v,l,s⟩:=hv;refine⟨v,l,?_⟩;split
   ·rename_i b
    cases b with
    |true=>exact mN a x s
    |false=>exact mN a y s
   simp_all
 | .block id x,t,h,r,hv=>by
   simp only[iE]at hv⊢
   cases hr:(iE n x).f c m t h with
   |none=>rw[hr]at hv;cases hv
   |some r'=>rw[hr]at hv;rw[mN a x hr];exact hv
 | .loop x,t,h,r,hv=>by
   simp only [iE]at hv⊢;have u:∀(k k':Nat) (t:Tm) (h:Hp),k<=k'->F0 (λt h=>(iE n x).f c m t h) k t h=some r->F0 (λt h=>(iE n x).f c' g t h) k' t h=some r:=by
     intro k
     induction k with
     |zero=>intro k' t h _ hv;cases hv
     | succ k w=>
       intro k' t h hk hv;obtain⟨k',rfl⟩:∃j,k' = j+1:=⟨k'-1,by omega⟩
       have p:Fl ((iE n x).f c m t h) (F0 (λt h=>(iE n x).f c m t h) k)=some r:=hv;show Fl ((iE n x).f c' g t h) (F0 (λt h=>(iE n x).f c' g t h) k')=some r;rcases JY p with⟨q,l,d,i⟩|⟨d,i⟩
       ·rw[mN a x d];exact w k' q l (by omega) i
       ·rw[mN a x d]
        obtain⟨o,t',h'⟩:=r
        cases o with
        |normal=>simp_all
        |exit id=>rfl
        |ret=>rfl
   grind
 | .exit id,_,_,_,hv=>hv
 | .ret,_,_,_,hv=>hv
 | .region id ops false,t,h,r,hv=>by
   grind[iE,fq,EC]
 | .region id ops true,t,h,r,hv=>by
   grind[iE,fq,TH]
 | .rangeFunc ..,_,_,_,hv=>by cases hv
 | .scope _,_,_,_,hv=>by cases hv
 | .label _,_,_,_,hv=>by cases hv
 | .goto _,_,_,_,hv=>by cases hv
 | .refuse _,_,_,_,hv=>by cases hv
theorem Si{C:fm} {m a:Nat} (b:m<=a) {f:Nat} {args:List V} {h:Hp} {r:V×Hp} (hv:(KG C f).f c m args h=some r):(KG C f).f c' a args h=some r:=by
 unfold KG at hv⊢;cases hf:P0.funcs[f]? <;> grind[UO,gS,fq,mN]
theorem O1{C:fm} {m a:Nat} (b:m<=a):∀(l:List (Nat×List V)) {h h':Hp},Of C c m l h=some h'->Of C c' a l h=some h'
 |[],_,_,hv=>hv
 | x::l,_,_,hv=>by
   simp only[Of,fq]at hv⊢;obtain⟨r,d,e⟩:=hv;exact⟨r,Si hc b d,O1 b l e⟩
theorem T3{C:fm} {m a:Nat} (b:m<=a) {f:Nat} {args:List V} {h:Hp} {r:V×Hp} (hv:(Fg C f).f c m args h=some r):(Fg C f).f c' a args h=some r:=by
 unfold Fg at hv⊢
 cases hf:P0.funcs[f]? with
 |none=>simp_all
 | some fn=>
   rw[hf]at hv;simp only at hv⊢
   cases hb:fn.body with
   |none=>simp_all
   | some k=>
     rw[hb]at hv;simp only at hv⊢
     cases hk:C.K f args h with
     |some u=>rw[hk]at hv;exact hv
     | none=>
       rw[hk]at hv
       grind[ZW,gS,fq,mN,id,O1]
end
theorem yq{C:fm} {m b:Nat} (e:m<=b):∀{d d':Nat},d<=d'->(kE C m d).Le (kE C b d')
 |0,_,_=>λ_ _ _ _ h=>(nomatch h)
 |d+1,0,h=>by omega
 | d+1,d' + 1,h=>λf a hp r hv=>by
   have c:(Fg C f).f (kE C m d) m a hp=some r:=hv;show(Fg C f).f (kE C b d') b a hp=some r;exact T3 (yq e (by omega)) e c
inductive KE where
 |names (f:Nat) (l:List (Nat×V))
 |yes (f:Nat)
noncomputable def U5:List (Nat×V)->Nat->Option V
 |[],_=>none
 |x::l,n=>Bool.rec (motive:=λ_=>Option V) (U5 l n) (some x.2) (Nat.beq x.1 n)
noncomputable def KE.ask(e:KE) (f:Nat) (args:List V):Option V:=match e with
 | .names g l=>bB (Nat.beq f g) (match args with
   |[.int .i64 (.ofNat n)]=>U5 l n
   |_=>none)
 | .yes g=>bB (Nat.beq f g) (match args with
   |[]=>some (.bool true)
   |_=>none)
noncomputable def Kq:List KE->Nat->List V->Option V
 |[],_,_=>none
 |e::es,f,args=>ZW (e.ask f args) (λv=>some v) (Kq es f args)
def isV(v:V):Option (V×Hp)->Bool
 |some (u,_)=>V.beq u v
 |_=>false
theorem M0{C:fm} (h:xN C) {m d n f:Nat} {args:List V} {v:V} (q:P0.globals.size<=n) (k:∃fn c,P0.funcs[f]? =some fn/\fn.body=some c) (hv:isV v (kE C m d f args {next:=n,tr:= .leaf})=true)
  (W:World) (s:Dl (λ_=>none) W) (gN:Array Value) (l:gK (λ_=>none) args gN.toList) :
  Calls P0 f gN W λe W'=>∃x,e = .returned x/\(v.flat=true->fO (λ_=>none) v x)/\Still W W':=by
 cases hr:kE C m d f args {next:=n,tr:= .leaf} with
 |none=>rw[hr]at hv;cases hv
 | some r=>
   obtain⟨u,h'⟩:=r;rw[hr]at hv;obtain rfl:u=v:=V.eq_of_beq _ _ hv;rcases JN h m d f args _ _ _ (λ_=>none) W gN hr (by grind[WR.start]) l with⟨x,t,_⟩|⟨_,o⟩
   ·exfalso
    obtain ⟨fn,c,i,a⟩:=k;have b:=h.named f fn i;have:(callFunc f gN).run P0 W = .ok (.enter f gN) W:=by
      simp only[callFunc,xD,run_program,vT,i,b,a,wB2,QY,if_false];rfl
    simp_all
   ·refine Calls.mono o λe w' p=>?_
    obtain⟨w,x,rfl,j⟩:=p;exact⟨x,rfl,λg=>RD j.val g,j.frame.still zff⟩
noncomputable def Jt(C:fm) (m d n f:Nat):List (Nat×V)->Bool
 |[]=>true
 |x::l=>Bool.rec (motive:=λ_=>Bool) false (Jt C m d n f l) (isV x.2 (kE C m d f [.int .i64 (.ofNat x.1)] {next:=n,tr:= .leaf}))
theorem Ls{C:fm} {m d n f:Nat}:∀(l:List (Nat×V)),Jt C m d n f l=true->∀k s,U5 l k=some s->isV s (kE C m d f [.int .i64 (.ofNat k)] {next:=n,tr:= .leaf})=true
 |[],_,k,s,hk=>by cases hk
 | x ::l,h,k,s',hk=>by
   simp only[Jt]at h;simp only[U5]at hk
   cases hb:isV x.2 (kE C m d f [.int .i64 (.ofNat x.1)] {next:=n,tr:= .leaf})with
   |false=>simp_all
   | true=>
     rw[hb]at h
     cases hx:Nat.beq x.1 k with
     | true=>
       simp_all
     | false=>
       rw[hx]at hk;exact Ls l h k s' hk
inductive KOk (C:fm):KE->Prop where
 |names {m d n f l} (a:P0.globals.size<=n) (b:∃fn c,P0.funcs[f]? =some fn/\fn.body=some c) (h:Jt C m d n f l=true):KOk C (.names f l)
 |yes {m d n f} (a:P0.globals.size<=n) (b:∃fn c,P0.funcs[f]? =some fn/\fn.body=some c) (h:isTrue (kE C m d f [] {next:=n,tr:= .leaf})=true):KOk C (.yes f)
theorem T9{r:Option (V×Hp)} (h:isTrue r=true):isV (.bool true) r=true:=by
 unfold isTrue at h;split at h
 ·rfl
 ·cases h
theorem KOk.calls{C:fm} (i:xN C) {e:KE} (j:KOk C e) {f:Nat} {args:List V} {v:V} (hv:e.ask f args=some v) (o:v.flat=true) (W:World) (p:Dl (λ_=>none) W) (gN:Array Value) (q:gK (λ_=>none) args gN.toList) :
  Calls P0 f gN W λe W'=>∃x,e = .returned x/\fO (λ_=>none) v x/\Still W W':=by
 cases j with
 | @names m d n g l b c h=>
   simp only[KE.ask,gS]at hv;obtain⟨a,hv⟩:=hv;obtain rfl:=BT a;split at hv
   ·rename_i k
    have r:=Ls l h k v hv
    grind[Calls.mono,M0]
   ·cases hv
 | @yes m d n g b c h=>
   simp only[KE.ask,gS]at hv;obtain⟨a,hv⟩:=hv;obtain rfl:=BT a;split at hv
   ·cases hv
    exact Calls.mono (M0 i b c (T9 h) W p gN q) (by simp_all)
   ·cases hv
noncomputable def fm.more(C:fm)(l:List KE):fm:=⟨C.start,C.ext,λf args h=>ZW (Kq l f args) (λv=>some v) (C.K f args h)⟩
theorem MG:∀(l:List KE) {f:Nat} {args:List V} {v:V},Kq l f args=some v->∃e∈l,e.ask f args=some v
 |[],_,_,_,h=>by cases h
 | e ::es,f,args,v,h=>by
   simp only[Kq]at h
   cases hq:e.ask f args with
   |some u=>rw[hq]at h;grind[KE.ask,ZW,Kq,KE.ask]
   | none=>
     rw[hq]at h;obtain⟨e',a,h'⟩:=MG es h
     grind
theorem xN.more{C:fm} (a:xN C) {l:List KE} (i:∀e∈l,KOk C e):xN (C.more l) where
 M9:=a.M9
 start:=a.start
 mixed:=a.mixed
 named:=a.named
 ext:=a.ext
 known:=λf args v h hk c b Δ W gN d g=>by
  simp only[fm.more]at hk
  cases hq:Kq l f args with
  | some u=>
    rw[hq]at hk;have:u=v:=by simpa[ZW]using hk
    subst this;obtain⟨e,j,k⟩:=MG l hq
    exact(i e j).calls a k b W d.UP.none gN g
  | none=>
    rw[hq]at hk;exact a.known f args v h (by grind[ZW]) c b Δ W gN d g
def E1:Nat->Ext
 |98=> .countByte
 |105=> .indexByte
 |_=> .none
theorem YQ:(P0.funcs.toList.all λfn=>!(fn.name == "runtime.NumGoroutine"))=true:=by kernel_rfl
theorem mixed:P0.follows .mixedOrders=true:=by kernel_rfl
theorem YS:Nat.ble P0.globals.size 3=true:=by kernel_rfl
theorem zdZ:P0.funcs[98]? =some Tryz.f98:=by unfold P0;exact Tryz.func98
theorem zbG:P0.funcs[105]? =some Tryz.f105:=by unfold P0;exact Tryz.func105
theorem zeR(w:World):Dl (λ_=>none) w:=λg c h=>by simp[zeD]at h
noncomputable def C1:fm:=⟨TX,E1,λ_ _ _=>none⟩
theorem facts:xN C1 where
 M9:=λ_=>rfl
 start:=Uv
 known:=λ_ _ _ _ h=>nomatch h
 mixed:=mixed
 named:=λf fn a=>by
  have h:=Q1.1 YQ fn (by rw[Array.mem_toList_iff];exact Array.mem_of_getElem? a);simpa using h
 ext:=λf fn a g Δ args v gN w hv b=>by
  by_cases c:f=98
  ·subst c;rw[zdZ]at a;cases a;exact Wg zdZ (by kernel_rfl) (by kernel_rfl) (by kernel_rfl) (by kernel_rfl) hv b
  ·by_cases d:f=105
   ·subst d;rw[zbG]at a;cases a;exact WJ zbG (by kernel_rfl) (by kernel_rfl) (by kernel_rfl) (by kernel_rfl) hv b
   ·have e:C1.ext f = .none:=by
     show E1 f = .none;unfold E1;split
     ·exact absurd rfl c
     ·exact absurd rfl d
     ·rfl
    rw[e]at hv;simp[Uc]at hv
