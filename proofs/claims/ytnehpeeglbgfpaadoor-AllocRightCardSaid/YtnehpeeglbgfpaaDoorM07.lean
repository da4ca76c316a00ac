/- Parts. -/
import Derived.Test.YtnehpeeglbgfpaaDoorM06
import Derived.KernelRfl
set_option maxHeartbeats 4000000
namespace Go.Proofs.YtnehpeeglbgfpaaDoor.Hx
def Call.Le(c c':Call):Prop:=∀f a h r,c f a h=some r->c' f a h=some r
section
variable{n:Nat}{c c':Call}(hc:c.Le c')
include hc
theorem Ej{o:Oper} {t:Tm} {h:Hp} {r:V×Hp} (a:(za o).f c t h=some r):(za o).f c' t h=some r:=by
 unfold za at a⊢;split
 ·simp_all
 ·simp_all
 ·rename_i h0 e;split at a
  ·simp_all
  ·simp_all
  ·simp only[eE]at a⊢;obtain⟨x,d,b⟩:=a;refine⟨x,d,?_⟩
   cases x with
   |val v h'=>exact b
   |call f args=>exact hc _ _ _ _ b
theorem MS{all:List Oper} {o:Oper} {a:SF} (j:∀t h r,a.f c t h=some r->a.f c' t h=some r) {t:Tm} {h:Hp} {r:Tm×Hp} (e:(By n all o a).f c t h=some r):(By n all o a).f c' t h=some r:=by
 unfold By at e⊢
 cases hd:qV n o with
 |none=>rw[hd]at e;cases e
 | some d=>
   rw[hd]at e;simp only at e⊢
   cases hw:jB n all o with
   | none=>
     grind[uQ,eE,Ej]
   | some g=>
     rw[hw]at e;simp only[eE]at e⊢;obtain⟨b,i,k⟩:=e;refine⟨b,i,?_⟩;cases b <;> grind[eE,Ej]
theorem zZ{all:List Oper}:∀(os:List Oper) {t:Tm} {h:Hp} {r:Tm×Hp},(km n all os).f c t h=some r->(km n all os).f c' t h=some r
 |[],_,_,_,hv=>hv
 |o::os,_,_,_,hv=>MS hc (λ_ _ _ h=>zZ os h) hv
omit hc in
theorem M6 {all:List Oper} {ws:List It} {a:It} {d:DF} {rest:LF} (hr:∀t h rs r,rest.f c t h rs=some r->rest.f c' t h rs=some r) {t:Tm} {h:Hp} {rs:List Rec} {r:Tm×Hp} (hv:(CH n all ws a d rest).f c t h rs=some r) :
  (CH n all ws a d rest).f c' t h rs=some r:=by
 unfold CH at hv⊢;simp only[eE]at hv⊢;obtain⟨b,h1,h2⟩:=hv;refine⟨b,h1,?_⟩;cases b <;> grind[eE]
omit hc in
theorem Lz {all:List Oper} {ws:List It} {a:It} {d:DF} {rest:LF} (hr:∀t h rs r,rest.f c t h rs=some r->rest.f c' t h rs=some r) {t:Tm} {h:Hp} {rs:List Rec} {r:Tm×Hp} (hv:(A7 n all ws a d rest).f c t h rs=some r) :
  (A7 n all ws a d rest).f c' t h rs=some r:=by
 unfold A7 at hv⊢;simp only[eE]at hv⊢;obtain⟨b,h1,h2⟩:=hv;refine⟨b,h1,?_⟩;cases b <;> grind[eE]
theorem MB{all:List Oper} {k:Nat} {a:It} {d:DF} {e:LF} (j:∀t h rs r,e.f c t h rs=some r->e.f c' t h rs=some r) {t:Tm} {h:Hp} {rs:List Rec} {r:Tm×Hp} (g:(yr n all k a d e).f c t h rs=some r) :
  (yr n all k a d e).f c' t h rs=some r:=by
 unfold yr at g⊢;simp only[fX,eE]at g⊢;obtain⟨h0,b,i,l⟩:=g;refine⟨h0,b,i,?_⟩;cases b <;> grind[eE,fX,Ej]
theorem wc{all:List Oper} {ws:List It}:∀(l:List It) (k:Nat) {t:Tm} {h:Hp} {rs:List Rec} {r:Tm×Hp},(tq n all ws l k).f c t h rs=some r->(tq n all ws l k).f c' t h rs=some r
 |[],_,_,_,_,_,hv=>hv
 | a ::l,k,t,h,rs,r,hv=>by
   unfold tq at hv⊢
   cases hd:qV n a.o with
   |none=>simp_all
   | some d=>
     rw[hd]at hv;simp only at hv⊢;split
     ·rename_i b;rw[b]at hv;exact M6 (λ_ _ _ _ h=>wc l _ h) hv
     ·rename_i b;rw[b]at hv;exact Lz (λ_ _ _ _ h=>wc l _ h) hv
     ·rename_i h0 e
      split at hv
      ·simp_all
      ·simp_all
      ·exact MB hc (λ_ _ _ _ h=>wc l _ h) hv
theorem NA{all:List Oper} {t:Tm} {h:Hp} {r:Tm×Hp} (a:(Ik n all).f c t h=some r):(Ik n all).f c' t h=some r:=by
 unfold Ik at a⊢
 cases hb:J9 (items all 0 []) (gj (items all 0 []))&&qX (items all 0 []) (gj (items all 0 [])) (order (items all 0 []) (gj (items all 0 [])) (gj (items all 0 [])) 0) 0 0 with
 |true=>grind[wc]
 | false=>
   rw[hb]at a;simp only at a⊢
   cases hf:EB (items all 0 []) (gj (items all 0 []))with
   |none=>rw[hf]at a;cases a
   | some p=>
     rw[hf]at a
     cases hb2:Kk (items all 0 [])&&qX (items all 0 []) (gj (items all 0 [])) (order (items all 0 []) (gj (items all 0 [])) (gj (items all 0 [])) 0) 0 0 with
     |false=>rw[hb2]at a;cases a
     | true=>
       grind[eE,fX,wc]
theorem kZ{m g:Nat} (d:m<=g):∀(k:Code) {t:Tm} {h:Hp} {r:X×Tm×Hp},(gS n k).f c m t h=some r->(gS n k).f c' g t h=some r
 | .skip,_,_,_,a=>a
 | .seq x y,t,h,r,a=>by
   simp only[gS]at a⊢;rcases Es a with⟨p,i,e1,e2⟩|⟨e1,e2⟩
   ·rw[kZ d x e1];exact kZ d y e2
   ·rw[kZ d x e1]
    obtain⟨l,t',h'⟩:=r
    cases l with
    |normal=>simp_all
    |exit id=>rfl
    |ret=>rfl
 | .cond e x y,t,h,r,a=>by
   simp only[gS,eE]at a⊢;obtain⟨v,i,q⟩:=a;refine⟨v,i,?_⟩;split
   ·rename_i b
    cases b with
    |true=>exact kZ d x q
    |false=>exact kZ d y q
   simp_all
 | .block id x,t,h,r,a=>by
   simp only[gS]at a⊢
   cases hr:(gS n x).f c m t h with
   |none=>rw[hr]at a;cases a
   |some r'=>rw[hr]at a;rw[kZ d x hr];exact a
 | .loop x,t,h,r,a=>by
   simp only[gS]at a⊢
   cases hf:uX n x with
   |some F=>simp only[hf]at a⊢;exact a
   |none=>
   simp only [hf]at a⊢;have s:∀(k k':Nat) (t:Tm) (h:Hp),k<=k'->Bg (λt h=>(gS n x).f c m t h) k t h=some r->Bg (λt h=>(gS n x).f c' g t h) k' t h=some r:=by
     intro k
     induction k with
     |zero=>intro k' t h _ a;cases a
     | succ k u=>
       intro k' t h w a;obtain⟨k',rfl⟩:∃j,k' = j+1:=⟨k'-1,by omega⟩
       have o:Az ((gS n x).f c m t h) (Bg (λt h=>(gS n x).f c m t h) k)=some r:=a;show Az ((gS n x).f c' g t h) (Bg (λt h=>(gS n x).f c' g t h) k')=some r;rcases Es o with⟨p,i,e1,e2⟩|⟨e1,e2⟩
       ·rw[kZ d x e1];exact u k' p i (by omega) e2
       ·rw[kZ d x e1]
        obtain⟨l,t',h'⟩:=r
        cases l with
        |normal=>simp_all
        |exit id=>rfl
        |ret=>rfl
   grind
 | .exit id,_,_,_,a=>a
 | .ret,_,_,_,a=>a
 | .region id ops false,t,h,r,a=>by
   grind[gS,eE,zZ]
 | .region id ops true,t,h,r,a=>by
   grind[gS,eE,NA]
 | .rangeFunc ..,_,_,_,a=>by cases a
 | .scope _,_,_,_,a=>by cases a
 | .label _,_,_,_,a=>by cases a
 | .goto _,_,_,_,a=>by cases a
 | .refuse _,_,_,_,a=>by cases a
theorem My{C:fg} {m a:Nat} (d:m<=a) {f:Nat} {args:List V} {h:Hp} {r:V×Hp} (b:(Fk C f).f c m args h=some r):(Fk C f).f c' a args h=some r:=by
 unfold Fk at b⊢;cases hf:P0.funcs[f]? <;> grind[N1,fX,eE,kZ]
theorem Jz{C:fg} {m a:Nat} (b:m<=a):∀(l:List (Nat×List V)) {h h':Hp},IS C c m l h=some h'->IS C c' a l h=some h'
 |[],_,_,hv=>hv
 | x::l,_,_,hv=>by
   simp only[IS,eE]at hv⊢;obtain⟨r,d,e⟩:=hv;exact⟨r,My hc b d,Jz b l e⟩
theorem M1{C:fg} {m b:Nat} (d:m<=b) {f:Nat} {args:List V} {h:Hp} {r:V×Hp} (a:(Ah C f).f c m args h=some r):(Ah C f).f c' b args h=some r:=by
 unfold Ah at a⊢
 cases hf:P0.funcs[f]? with
 |none=>simp_all
 | some fn=>
   rw[hf]at a;simp only at a⊢
   cases hb:fn.body with
   |none=>simp_all
   | some k=>
     rw[hb]at a;simp only at a⊢
     cases hk:C.K f args h with
     |some u=>rw[hk]at a;exact a
     | none=>
       rw[hk]at a
       grind[Sw,fX,eE,kZ,id,Jz]
end
theorem tF{C:fg} {m b:Nat} (g:m<=b):∀{d c:Nat},d<=c->(jI C m d).Le (jI C b c)
 |0,_,_=>λ_ _ _ _ h=>(nomatch h)
 |d+1,0,h=>by omega
 | d+1,c+1,h=>λf a i r j=>by
   have e:(Ah C f).f (jI C m d) m a i=some r:=j;show(Ah C f).f (jI C b c) b a i=some r;exact M1 (tF g (by omega)) g e
inductive KE where
 |names (f:Nat) (l:List (Nat×V))
 |yes (f:Nat)
noncomputable def NY:List (Nat×V)->Nat->Option V
 |[],_=>none
 |x::l,n=>Bool.rec (motive:=λ_=>Option V) (NY l n) (some x.2) (Nat.beq x.1 n)
noncomputable def KE.ask(e:KE) (f:Nat) (args:List V):Option V:=match e with
 | .names g l=>bB (Nat.beq f g) (match args with
   |[.int .i64 (.ofNat n)]=>NY l n
   |_=>none)
 | .yes g=>bB (Nat.beq f g) (match args with
   |[]=>some (.bool true)
   |_=>none)
noncomputable def E0:List KE->Nat->List V->Option V
 |[],_,_=>none
 |e::es,f,args=>Sw (e.ask f args) (λv=>some v) (E0 es f args)
def Xw(v:V):Option (V×Hp)->Bool
 |some (u,_)=>V.beq u v
 |_=>false
theorem HP{C:fg} (i:ti C) {m d n f:Nat} {args:List V} {v:V} (s:P0.globals.size<=n) (l:∃fn c,P0.funcs[f]? =some fn/\fn.body=some c) (a:Xw v (jI C m d f args {next:=n,tr:= .leaf})=true)
  (W:World) (t:yY (λ_=>none) W) (fY:Array Value) (o:fV (λ_=>none) args fY.toList) :
  Calls P0 f fY W λe W'=>∃x,e = .returned x/\(v.flat=true->fq (λ_=>none) v x)/\Still W W':=by
 cases hr:jI C m d f args {next:=n,tr:= .leaf} with
 |none=>rw[hr]at a;cases a
 | some r=>
   obtain⟨u,h'⟩:=r;rw[hr]at a;obtain rfl:u=v:=V.eq_of_beq _ _ a;rcases El i m d f args _ _ _ (λ_=>none) W fY hr (by grind[WR.start]) o with⟨x,w,_⟩|⟨_,p⟩
   ·exfalso
    obtain ⟨fn,c,j,b⟩:=l;have g:=i.named f fn j;have:(callFunc f fY).run P0 W = .ok (.enter f fY) W:=by
      simp only[callFunc,qu,run_program,pJ,j,g,b,X8,LK,if_false];rfl
    simp_all
   ·refine Calls.mono p λe w' q=>?_
    obtain⟨y,x,rfl,k⟩:=q;exact⟨x,rfl,λh=>LI k.val h,k.frame.still Zx⟩
noncomputable def DG(C:fg) (m d n f:Nat):List (Nat×V)->Bool
 |[]=>true
 |x::l=>Bool.rec (motive:=λ_=>Bool) false (DG C m d n f l) (Xw x.2 (jI C m d f [.int .i64 (.ofNat x.1)] {next:=n,tr:= .leaf}))
theorem Gq{C:fg} {m d n f:Nat}:∀(l:List (Nat×V)),DG C m d n f l=true->∀k s,NY l k=some s->Xw s (jI C m d f [.int .i64 (.ofNat k)] {next:=n,tr:= .leaf})=true
 |[],_,k,s,hk=>by cases hk
 | x ::l,h,k,s',hk=>by
   simp only[DG]at h;simp only[NY]at hk
   cases hb:Xw x.2 (jI C m d f [.int .i64 (.ofNat x.1)] {next:=n,tr:= .leaf})with
   |false=>simp_all
   | true=>
     rw[hb]at h
     cases hx:Nat.beq x.1 k with
     | true=>
       simp_all
     | false=>
       rw[hx]at hk;exact Gq l h k s' hk
inductive WQ (C:fg):KE->Prop where
 |names {m d n f l} (a:P0.globals.size<=n) (b:∃fn c,P0.funcs[f]? =some fn/\fn.body=some c) (h:DG C m d n f l=true):WQ C (.names f l)
 |yes {m d n f} (a:P0.globals.size<=n) (b:∃fn c,P0.funcs[f]? =some fn/\fn.body=some c) (h:isTrue (jI C m d f [] {next:=n,tr:= .leaf})=true):WQ C (.yes f)
theorem M8{r:Option (V×Hp)} (h:isTrue r=true):Xw (.bool true) r=true:=by
 unfold isTrue at h;split at h
 ·rfl
 ·cases h
theorem WQ.calls{C:fg} (j:ti C) {e:KE} (o:WQ C e) {f:Nat} {args:List V} {v:V} (a:e.ask f args=some v) (p:v.flat=true) (W:World) (q:yY (λ_=>none) W) (fY:Array Value) (r:fV (λ_=>none) args fY.toList) :
  Calls P0 f fY W λe W'=>∃x,e = .returned x/\fq (λ_=>none) v x/\Still W W':=by
 cases o with
 | @names m d n g l c i h=>
   simp only[KE.ask,fX]at a;obtain⟨b,a⟩:=a;obtain rfl:=uW b;split at a
   ·rename_i k
    have s:=Gq l h k v a
    grind[Calls.mono,HP]
   ·cases a
 | @yes m d n g c i h=>
   simp only[KE.ask,fX]at a;obtain⟨b,a⟩:=a;obtain rfl:=uW b;split at a
   ·cases a
    exact Calls.mono (HP j c i (M8 h) W q fY r) (by simp_all)
   ·cases a
noncomputable def fg.more(C:fg)(l:List KE):fg:=⟨C.start,C.ext,λf args h=>Sw (E0 l f args) (λv=>some v) (C.K f args h)⟩
theorem Hn:∀(l:List KE) {f:Nat} {args:List V} {v:V},E0 l f args=some v->∃e∈l,e.ask f args=some v
 |[],_,_,_,h=>by cases h
 | e ::es,f,args,v,h=>by
   simp only[E0]at h
   cases hq:e.ask f args with
   |some u=>rw[hq]at h;grind[KE.ask,Sw,E0,KE.ask]
   | none=>
     rw[hq]at h;obtain⟨e',a,h'⟩:=Hn es h
     grind
theorem ti.more{C:fg} (a:ti C) {l:List KE} (j:∀e∈l,WQ C e):ti (C.more l) where
 HV:=a.HV
 start:=a.start
 mixed:=a.mixed
 named:=a.named
 ext:=a.ext
 known:=λf args v h c d b Δ W fY g i=>by
  simp only[fg.more]at c
  cases hq:E0 l f args with
  | some u=>
    rw[hq]at c;have:u=v:=by simpa[Sw]using c
    subst this;obtain⟨e,k,m⟩:=Hn l hq
    exact(j e k).calls a m b W g.MU.none fY i
  | none=>
    rw[hq]at c;exact a.known f args v h (by grind[Sw]) d b Δ W fY g i
def E1:Nat->Ext
 |71=> .countByte
 |78=> .indexByte
 |_=> .none
theorem QA:(P0.funcs.toList.all λfn=>!(fn.name == "runtime.NumGoroutine"))=true:=by kernel_rfl
theorem mixed:P0.follows .mixedOrders=true:=by kernel_rfl
theorem Qv:Nat.ble P0.globals.size 3=true:=by kernel_rfl
theorem W8:P0.funcs[71]? =some Tryd.f71:=by unfold P0;exact Tryd.func71
theorem XF:P0.funcs[78]? =some Tryd.f78:=by unfold P0;exact Tryd.func78
theorem WO(w:World):yY (λ_=>none) w:=λg c h=>by simp[X3]at h
noncomputable def C1:fg:=⟨MN,E1,λ_ _ _=>none⟩
theorem facts:ti C1 where
 HV:=λ_=>rfl
 start:=MM
 known:=λ_ _ _ _ h=>nomatch h
 mixed:=mixed
 named:=λf fn a=>by
  have h:=K7.1 QA fn (by rw[Array.mem_toList_iff];exact Array.mem_of_getElem? a);simpa using h
 ext:=λf fn a i Δ args v fY w b c=>by
  by_cases d:f=71
  ·subst d;rw[W8]at a;cases a;exact OY W8 (by kernel_rfl) (by kernel_rfl) (by kernel_rfl) (by kernel_rfl) b c
  ·by_cases e:f=78
   ·subst e;rw[XF]at a;cases a;exact PM XF (by kernel_rfl) (by kernel_rfl) (by kernel_rfl) (by kernel_rfl) b c
   ·have g:C1.ext f = .none:=by
     show E1 f = .none;unfold E1;split
     ·exact absurd rfl d
     ·exact absurd rfl e
     ·rfl
    rw[g]at b;simp[MP]at b
