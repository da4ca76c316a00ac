/- Parts. -/
import Derived.Test.YtkpicojjjifmgaaGreatDoorM06
import Derived.KernelRfl
namespace Go.Proofs.YtkpicojjjifmgaaGreatDoor.Hx
def Call.Le(c c':Call):Prop:=∀f a h r,c f a h=some r->c' f a h=some r
section
variable{n:Nat}{c c':Call}(hc:c.Le c')
include hc
theorem Jp{o:Oper} {t:Tm} {h:Hp} {r:V×Hp} (hv:(IC o).f c t h=some r):(IC o).f c' t h=some r:=by
 unfold IC at hv⊢;split
 ·simp_all
 ·simp_all
 ·rename_i h0 d;split at hv
  ·simp_all
  ·simp_all
  ·simp only[fx]at hv⊢;obtain⟨x,b,a⟩:=hv;refine⟨x,b,?_⟩
   cases x with
   |val v h'=>exact a
   |call f args=>exact hc _ _ _ _ a
theorem Tk{all:List Oper} {o:Oper} {a:SF} (i:∀t h r,a.f c t h=some r->a.f c' t h=some r) {t:Tm} {h:Hp} {r:Tm×Hp} (hv:(IJ n all o a).f c t h=some r):(IJ n all o a).f c' t h=some r:=by
 unfold IJ at hv⊢
 cases hd:yY n o with
 |none=>rw[hd]at hv;cases hv
 | some d=>
   rw[hd]at hv;simp only at hv⊢
   cases hw:lC n all o with
   | none=>
     grind[Aj,fx,Jp]
   | some g=>
     rw[hw]at hv;simp only[fx]at hv⊢;obtain⟨b,e,j⟩:=hv;refine⟨b,e,?_⟩;cases b <;> grind[fx,Jp]
theorem Dy{all:List Oper}:∀(os:List Oper) {t:Tm} {h:Hp} {r:Tm×Hp},(ux n all os).f c t h=some r->(ux n all os).f c' t h=some r
 |[],_,_,_,hv=>hv
 |o::os,_,_,_,hv=>Tk hc (λ_ _ _ h=>Dy os h) hv
omit hc in
theorem Tv {all:List Oper} {ws:List It} {a:It} {d:DF} {rest:LF} (hr:∀t h rs r,rest.f c t h rs=some r->rest.f c' t h rs=some r) {t:Tm} {h:Hp} {rs:List Rec} {r:Tm×Hp} (hv:(Hz n all ws a d rest).f c t h rs=some r) :
  (Hz n all ws a d rest).f c' t h rs=some r:=by
 unfold Hz at hv⊢;simp only[fx]at hv⊢;obtain⟨b,h1,h2⟩:=hv;refine⟨b,h1,?_⟩;cases b <;> grind[fx]
omit hc in
theorem QK {all:List Oper} {ws:List It} {a:It} {d:DF} {rest:LF} (hr:∀t h rs r,rest.f c t h rs=some r->rest.f c' t h rs=some r) {t:Tm} {h:Hp} {rs:List Rec} {r:Tm×Hp} (hv:(Fp n all ws a d rest).f c t h rs=some r) :
  (Fp n all ws a d rest).f c' t h rs=some r:=by
 unfold Fp at hv⊢;simp only[fx]at hv⊢;obtain⟨b,h1,h2⟩:=hv;refine⟨b,h1,?_⟩;cases b <;> grind[fx]
theorem QA{all:List Oper} {k:Nat} {a:It} {d:DF} {e:LF} (i:∀t h rs r,e.f c t h rs=some r->e.f c' t h rs=some r) {t:Tm} {h:Hp} {rs:List Rec} {r:Tm×Hp} (hv:(B0 n all k a d e).f c t h rs=some r) :
  (B0 n all k a d e).f c' t h rs=some r:=by
 unfold B0 at hv⊢;simp only[hY,fx]at hv⊢;obtain⟨h0,b,g,j⟩:=hv;refine⟨h0,b,g,?_⟩;cases b <;> grind[fx,hY,Jp]
theorem zV{all:List Oper} {ws:List It}:∀(l:List It) (k:Nat) {t:Tm} {h:Hp} {rs:List Rec} {r:Tm×Hp},(xZ n all ws l k).f c t h rs=some r->(xZ n all ws l k).f c' t h rs=some r
 |[],_,_,_,_,_,hv=>hv
 | a ::l,k,t,h,rs,r,hv=>by
   unfold xZ at hv⊢
   cases hd:yY n a.o with
   |none=>simp_all
   | some d=>
     rw[hd]at hv;simp only at hv⊢;split
     ·rename_i b;rw[b]at hv;exact Tv (λ_ _ _ _ h=>zV l _ h) hv
     ·rename_i b;rw[b]at hv;exact QK (λ_ _ _ _ h=>zV l _ h) hv
     ·rename_i h0 e
      split at hv
      ·simp_all
      ·simp_all
      ·exact QA hc (λ_ _ _ _ h=>zV l _ h) hv
theorem Si{all:List Oper} {t:Tm} {h:Hp} {r:Tm×Hp} (hv:(Mu n all).f c t h=some r):(Mu n all).f c' t h=some r:=by
 unfold Mu at hv⊢
 cases hb:O7 (items all 0 []) (hH (items all 0 []))&&xi (items all 0 []) (hH (items all 0 [])) (order (items all 0 []) (hH (items all 0 [])) (hH (items all 0 [])) 0) 0 0 with
 |true=>grind[zV]
 | false=>
   rw[hb]at hv;simp only at hv⊢
   cases hf:Js (items all 0 []) (hH (items all 0 []))with
   |none=>rw[hf]at hv;cases hv
   | some p=>
     rw[hf]at hv
     cases hb2:PJ (items all 0 [])&&xi (items all 0 []) (hH (items all 0 [])) (order (items all 0 []) (hH (items all 0 [])) (hH (items all 0 [])) 0) 0 0 with
     |false=>rw[hb2]at hv;cases hv
     | true=>
       grind[fx,hY,zV]
theorem ni{m g:Nat} (a:m<=g):∀(k:Code) {t:Tm} {h:Hp} {r:X×Tm×Hp},(iG n k).f c m t h=some r->(iG n k).f c' g t h=some r
 | .skip,_,_,_,hv=>hv
 | .seq x y,t,h,r,hv=>by
   simp only[iG]at hv⊢;rcases IW hv with⟨q,l,d,i⟩|⟨d,i⟩
   ·rw[ni a x d];exact ni a y i
   ·rw[ni a x d]
    obtain⟨o,t',h'⟩:=r
    cases o with
    |normal=>simp_all
    |exit id=>rfl
    |ret=>rfl
 | .cond e x y,t,h,r,hv=>by
   simp only[iG,fx]at hv⊢;obtain⟨v,l,s⟩:=hv;refine⟨v,l,?_⟩;split
   ·rename_i b
    cases b with
    |true=>exact ni a x s
    |false=>exact ni a y s
   simp_all
 | .block id x,t,h,r,hv=>by
   simp only[iG]at hv⊢
   cases hr:(iG n x).f c m t h with
   |none=>rw[hr]at hv;cases hv
   |some r'=>rw[hr]at hv;rw[ni a x hr];exact hv
 | .loop x,t,h,r,hv=>by
   simp only [iG]at hv⊢;have u:∀(k k':Nat) (t:Tm) (h:Hp),k<=k'->FH (λt h=>(iG n x).f c m t h) k t h=some r->FH (λt h=>(iG n x).f c' g t h) k' t h=some r:=by
     intro k
     induction k with
     |zero=>intro k' t h _ hv;cases hv
     | succ k w=>
       intro k' t h z hv;obtain⟨k',rfl⟩:∃j,k' = j+1:=⟨k'-1,by omega⟩
       have p:EK ((iG n x).f c m t h) (FH (λt h=>(iG n x).f c m t h) k)=some r:=hv;show EK ((iG n x).f c' g t h) (FH (λt h=>(iG n x).f c' g t h) k')=some r;rcases IW p with⟨q,l,d,i⟩|⟨d,i⟩
       ·rw[ni a x d];exact w k' q l (by omega) i
       ·rw[ni a x d]
        obtain⟨o,t',h'⟩:=r
        cases o with
        |normal=>simp_all
        |exit id=>rfl
        |ret=>rfl
   grind
 | .exit id,_,_,_,hv=>hv
 | .ret,_,_,_,hv=>hv
 | .region id ops false,t,h,r,hv=>by
   grind[iG,fx,Dy]
 | .region id ops true,t,h,r,hv=>by
   grind[iG,fx,Si]
 | .rangeFunc ..,_,_,_,hv=>by cases hv
 | .scope _,_,_,_,hv=>by cases hv
 | .label _,_,_,_,hv=>by cases hv
 | .goto _,_,_,_,hv=>by cases hv
 | .refuse _,_,_,_,hv=>by cases hv
theorem Qr{C:ft} {m a:Nat} (b:m<=a) {f:Nat} {args:List V} {h:Hp} {r:V×Hp} (hv:(Kq C f).f c m args h=some r):(Kq C f).f c' a args h=some r:=by
 unfold Kq at hv⊢;cases hf:P0.funcs[f]? <;> grind[TZ,hY,fx,ni]
theorem Ob{C:ft} {m a:Nat} (b:m<=a):∀(l:List (Nat×List V)) {h h':Hp},Nl C c m l h=some h'->Nl C c' a l h=some h'
 |[],_,_,hv=>hv
 | x::l,_,_,hv=>by
   simp only[Nl,fx]at hv⊢;obtain⟨r,d,e⟩:=hv;exact⟨r,Qr hc b d,Ob b l e⟩
theorem SS{C:ft} {m a:Nat} (b:m<=a) {f:Nat} {args:List V} {h:Hp} {r:V×Hp} (hv:(Ew C f).f c m args h=some r):(Ew C f).f c' a args h=some r:=by
 unfold Ew at hv⊢
 cases hf:P0.funcs[f]? with
 |none=>simp_all
 | some fn=>
   rw[hf]at hv;simp only at hv⊢
   cases hb:fn.body with
   |none=>simp_all
   | some k=>
     rw[hb]at hv;simp only at hv⊢
     cases hk:C.K f args h with
     |some u=>rw[hk]at hv;exact hv
     | none=>
       rw[hk]at hv
       grind[Yo,hY,fx,ni,id,Ob]
end
theorem xU{C:ft} {m b:Nat} (g:m<=b):∀{d c:Nat},d<=c->(kG C m d).Le (kG C b c)
 |0,_,_=>λ_ _ _ _ h=>(nomatch h)
 |d+1,0,h=>by omega
 | d+1,c+1,h=>λf a hp r hv=>by
   have e:(Ew C f).f (kG C m d) m a hp=some r:=hv;show(Ew C f).f (kG C b c) b a hp=some r;exact SS (xU g (by omega)) g e
inductive KE where
 |names (f:Nat) (l:List (Nat×V))
 |yes (f:Nat)
noncomputable def TV:List (Nat×V)->Nat->Option V
 |[],_=>none
 |x::l,n=>Bool.rec (motive:=λ_=>Option V) (TV l n) (some x.2) (Nat.beq x.1 n)
noncomputable def KE.ask(e:KE) (f:Nat) (args:List V):Option V:=match e with
 | .names g l=>bB (Nat.beq f g) (match args with
   |[.int .i64 (.ofNat n)]=>TV l n
   |_=>none)
 | .yes g=>bB (Nat.beq f g) (match args with
   |[]=>some (.bool true)
   |_=>none)
noncomputable def Kl:List KE->Nat->List V->Option V
 |[],_,_=>none
 |e::es,f,args=>Yo (e.ask f args) (λv=>some v) (Kl es f args)
def isV(v:V):Option (V×Hp)->Bool
 |some (u,_)=>V.beq u v
 |_=>false
theorem M0{C:ft} (h:xF C) {m d n f:Nat} {args:List V} {v:V} (q:P0.globals.size<=n) (k:∃fn c,P0.funcs[f]? =some fn/\fn.body=some c) (hv:isV v (kG C m d f args {next:=n,tr:= .leaf})=true)
  (W:World) (s:CH (λ_=>none) W) (gQ:Array Value) (l:gP (λ_=>none) args gQ.toList) :
  Calls P0 f gQ W λe W'=>∃x,e = .returned x/\(v.flat=true->fP (λ_=>none) v x)/\Still W W':=by
 cases hr:kG C m d f args {next:=n,tr:= .leaf} with
 |none=>rw[hr]at hv;cases hv
 | some r=>
   obtain⟨u,h'⟩:=r;rw[hr]at hv;obtain rfl:u=v:=V.eq_of_beq _ _ hv;rcases IX h m d f args _ _ _ (λ_=>none) W gQ hr (by grind[WR.start]) l with⟨x,t,_⟩|⟨_,o⟩
   ·exfalso
    obtain ⟨fn,c,i,a⟩:=k;have b:=h.named f fn i;have:(callFunc f gQ).run P0 W = .ok (.enter f gQ) W:=by
      simp only[callFunc,xk,run_program,vQ,i,b,a,wB9,PT,if_false];rfl
    simp_all
   ·refine Calls.mono o λe w' p=>?_
    obtain⟨w,x,rfl,j⟩:=p;exact⟨x,rfl,λg=>Qb j.val g,j.frame.still zeg⟩
noncomputable def Jd(C:ft) (m d n f:Nat):List (Nat×V)->Bool
 |[]=>true
 |x::l=>Bool.rec (motive:=λ_=>Bool) false (Jd C m d n f l) (isV x.2 (kG C m d f [.int .i64 (.ofNat x.1)] {next:=n,tr:= .leaf}))
theorem KR{C:ft} {m d n f:Nat}:∀(l:List (Nat×V)),Jd C m d n f l=true->∀k s,TV l k=some s->isV s (kG C m d f [.int .i64 (.ofNat k)] {next:=n,tr:= .leaf})=true
 |[],_,k,s,hk=>by cases hk
 | x ::l,h,k,s',hk=>by
   simp only[Jd]at h;simp only[TV]at hk
   cases hb:isV x.2 (kG C m d f [.int .i64 (.ofNat x.1)] {next:=n,tr:= .leaf})with
   |false=>simp_all
   | true=>
     rw[hb]at h
     cases hx:Nat.beq x.1 k with
     | true=>
       simp_all
     | false=>
       rw[hx]at hk;exact KR l h k s' hk
inductive KOk (C:ft):KE->Prop where
 |names {m d n f l} (a:P0.globals.size<=n) (b:∃fn c,P0.funcs[f]? =some fn/\fn.body=some c) (h:Jd C m d n f l=true):KOk C (.names f l)
 |yes {m d n f} (a:P0.globals.size<=n) (b:∃fn c,P0.funcs[f]? =some fn/\fn.body=some c) (h:isTrue (kG C m d f [] {next:=n,tr:= .leaf})=true):KOk C (.yes f)
theorem TA{r:Option (V×Hp)} (h:isTrue r=true):isV (.bool true) r=true:=by
 unfold isTrue at h;split at h
 ·rfl
 ·cases h
theorem KOk.calls{C:ft} (i:xF C) {e:KE} (j:KOk C e) {f:Nat} {args:List V} {v:V} (hv:e.ask f args=some v) (o:v.flat=true) (W:World) (p:CH (λ_=>none) W) (gQ:Array Value) (q:gP (λ_=>none) args gQ.toList) :
  Calls P0 f gQ W λe W'=>∃x,e = .returned x/\fP (λ_=>none) v x/\Still W W':=by
 cases j with
 | @names m d n g l b c h=>
   simp only[KE.ask,hY]at hv;obtain⟨a,hv⟩:=hv;obtain rfl:=AG a;split at hv
   ·rename_i k
    have r:=KR l h k v hv
    grind[Calls.mono,M0]
   ·cases hv
 | @yes m d n g b c h=>
   simp only[KE.ask,hY]at hv;obtain⟨a,hv⟩:=hv;obtain rfl:=AG a;split at hv
   ·cases hv
    exact Calls.mono (M0 i b c (TA h) W p gQ q) (by simp_all)
   ·cases hv
noncomputable def ft.more(C:ft)(l:List KE):ft:=⟨C.start,C.ext,λf args h=>Yo (Kl l f args) (λv=>some v) (C.K f args h)⟩
theorem L6:∀(l:List KE) {f:Nat} {args:List V} {v:V},Kl l f args=some v->∃e∈l,e.ask f args=some v
 |[],_,_,_,h=>by cases h
 | e ::es,f,args,v,h=>by
   simp only[Kl]at h
   cases hq:e.ask f args with
   |some u=>rw[hq]at h;grind[KE.ask,Yo,Kl,KE.ask]
   | none=>
     rw[hq]at h;obtain⟨a,b,h'⟩:=L6 es h
     grind
theorem xF.more{C:ft} (a:xF C) {l:List KE} (j:∀e∈l,KOk C e):xF (C.more l) where
 Ms:=a.Ms
 start:=a.start
 mixed:=a.mixed
 named:=a.named
 ext:=a.ext
 known:=λf args v h c d b Δ W gQ g i=>by
  simp only[ft.more]at c
  cases hq:Kl l f args with
  | some u=>
    rw[hq]at c;have:u=v:=by simpa[Yo]using c
    subst this;obtain⟨e,k,m⟩:=L6 l hq
    exact(j e k).calls a m b W g.TL.none gQ i
  | none=>
    rw[hq]at c;exact a.known f args v h (by grind[Yo]) d b Δ W gQ g i
def E1:Nat->Ext
 |99=> .countByte
 |106=> .indexByte
 |_=> .none
theorem Xf:(P0.funcs.toList.all λfn=>!(fn.name == "runtime.NumGoroutine"))=true:=by kernel_rfl
theorem mixed:P0.follows .mixedOrders=true:=by kernel_rfl
theorem XT:Nat.ble P0.globals.size 3=true:=by kernel_rfl
theorem zcm:P0.funcs[99]? =some Tryz.f99:=by unfold P0;exact Tryz.func99
theorem zaR:P0.funcs[106]? =some Tryz.f106:=by unfold P0;exact Tryz.func106
theorem zdy(w:World):CH (λ_=>none) w:=λg c h=>by simp[zc6]at h
noncomputable def C1:ft:=⟨SG,E1,λ_ _ _=>none⟩
theorem facts:xF C1 where
 Ms:=λ_=>rfl
 start:=Sw
 known:=λ_ _ _ _ h=>nomatch h
 mixed:=mixed
 named:=λf fn a=>by
  have h:=Qk.1 Xf fn (by rw[Array.mem_toList_iff];exact Array.mem_of_getElem? a);simpa using h
 ext:=λf fn a g Δ args v gQ w hv b=>by
  by_cases c:f=99
  ·subst c;rw[zcm]at a;cases a;exact U1 zcm (by kernel_rfl) (by kernel_rfl) (by kernel_rfl) (by kernel_rfl) hv b
  ·by_cases d:f=106
   ·subst d;rw[zaR]at a;cases a;exact Ve zaR (by kernel_rfl) (by kernel_rfl) (by kernel_rfl) (by kernel_rfl) hv b
   ·have e:C1.ext f = .none:=by
     show E1 f = .none;unfold E1;split
     ·exact absurd rfl c
     ·exact absurd rfl d
     ·rfl
    rw[e]at hv;simp[TC]at hv
