/- Parts. -/
import Derived.Test.YtpfjdlicdljhaaaDoorM06
import Derived.KernelRfl
set_option maxHeartbeats 4000000
namespace Go.Proofs.YtpfjdlicdljhaaaDoor.Hx
def Call.Le(c c':Call):Prop:=∀f a h r,c f a h=some r->c' f a h=some r
section
variable{n:Nat}{c c':Call}(hc:c.Le c')
include hc
theorem DA{o:Oper} {t:Tm} {h:Hp} {r:V×Hp} (a:(Ct o).f c t h=some r):(Ct o).f c' t h=some r:=by
 unfold Ct at a⊢;split
 ·simp_all
 ·simp_all
 ·rename_i h0 e;split at a
  ·simp_all
  ·simp_all
  ·simp only[c7]at a⊢;obtain⟨x,d,b⟩:=a;refine⟨x,d,?_⟩
   cases x with
   |val v h'=>exact b
   |call f args=>exact hc _ _ _ _ b
theorem Mp{all:List Oper} {o:Oper} {a:SF} (j:∀t h r,a.f c t h=some r->a.f c' t h=some r) {t:Tm} {h:Hp} {r:Tm×Hp} (e:(Dp n all o a).f c t h=some r):(Dp n all o a).f c' t h=some r:=by
 unfold Dp at e⊢
 cases hd:tz n o with
 |none=>rw[hd]at e;cases e
 | some d=>
   rw[hd]at e;simp only at e⊢
   cases hw:hO n all o with
   | none=>
     grind[uA,c7,DA]
   | some g=>
     rw[hw]at e;simp only[c7]at e⊢;obtain⟨b,i,k⟩:=e;refine⟨b,i,?_⟩;cases b <;> grind[c7,DA]
theorem yo{all:List Oper}:∀(os:List Oper) {t:Tm} {h:Hp} {r:Tm×Hp},(oS n all os).f c t h=some r->(oS n all os).f c' t h=some r
 |[],_,_,_,hv=>hv
 |o::os,_,_,_,hv=>Mp hc (λ_ _ _ h=>yo os h) hv
omit hc in
theorem Mj {all:List Oper} {ws:List It} {a:It} {d:DF} {rest:LF} (hr:∀t h rs r,rest.f c t h rs=some r->rest.f c' t h rs=some r) {t:Tm} {h:Hp} {rs:List Rec} {r:Tm×Hp} (hv:(Bv n all ws a d rest).f c t h rs=some r) :
  (Bv n all ws a d rest).f c' t h rs=some r:=by
 unfold Bv at hv⊢;simp only[c7]at hv⊢;obtain⟨b,h1,h2⟩:=hv;refine⟨b,h1,?_⟩;cases b <;> grind[c7]
omit hc in
theorem KR {all:List Oper} {ws:List It} {a:It} {d:DF} {rest:LF} (hr:∀t h rs r,rest.f c t h rs=some r->rest.f c' t h rs=some r) {t:Tm} {h:Hp} {rs:List Rec} {r:Tm×Hp} (hv:(z7 n all ws a d rest).f c t h rs=some r) :
  (z7 n all ws a d rest).f c' t h rs=some r:=by
 unfold z7 at hv⊢;simp only[c7]at hv⊢;obtain⟨b,h1,h2⟩:=hv;refine⟨b,h1,?_⟩;cases b <;> grind[c7]
theorem KP{all:List Oper} {k:Nat} {a:It} {d:DF} {e:LF} (j:∀t h rs r,e.f c t h rs=some r->e.f c' t h rs=some r) {t:Tm} {h:Hp} {rs:List Rec} {r:Tm×Hp} (g:(wW n all k a d e).f c t h rs=some r) :
  (wW n all k a d e).f c' t h rs=some r:=by
 unfold wW at g⊢;simp only[ek,c7]at g⊢;obtain⟨h0,b,i,l⟩:=g;refine⟨h0,b,i,?_⟩;cases b <;> grind[c7,ek,DA]
theorem um{all:List Oper} {ws:List It}:∀(l:List It) (k:Nat) {t:Tm} {h:Hp} {rs:List Rec} {r:Tm×Hp},(sg n all ws l k).f c t h rs=some r->(sg n all ws l k).f c' t h rs=some r
 |[],_,_,_,_,_,hv=>hv
 | a ::l,k,t,h,rs,r,hv=>by
   unfold sg at hv⊢
   cases hd:tz n a.o with
   |none=>simp_all
   | some d=>
     rw[hd]at hv;simp only at hv⊢;split
     ·rename_i hk;rw[hk]at hv;exact Mj (λ_ _ _ _ h=>um l _ h) hv
     ·rename_i hk;rw[hk]at hv;exact KR (λ_ _ _ _ h=>um l _ h) hv
     ·rename_i h0 b
      split at hv
      ·simp_all
      ·simp_all
      ·exact KP hc (λ_ _ _ _ h=>um l _ h) hv
theorem L3{all:List Oper} {t:Tm} {h:Hp} {r:Tm×Hp} (a:(Gl n all).f c t h=some r):(Gl n all).f c' t h=some r:=by
 unfold Gl at a⊢
 cases hb:I0 (items all 0 []) (ej (items all 0 []))&&qF (items all 0 []) (ej (items all 0 [])) (order (items all 0 []) (ej (items all 0 [])) (ej (items all 0 [])) 0) 0 0 with
 |true=>grind[um]
 | false=>
   rw[hb]at a;simp only at a⊢
   cases hf:Dc (items all 0 []) (ej (items all 0 []))with
   |none=>rw[hf]at a;cases a
   | some p=>
     rw[hf]at a
     cases hb2:I2 (items all 0 [])&&qF (items all 0 []) (ej (items all 0 [])) (order (items all 0 []) (ej (items all 0 [])) (ej (items all 0 [])) 0) 0 0 with
     |false=>rw[hb2]at a;cases a
     | true=>
       grind[c7,ek,um]
theorem jc{m i:Nat} (d:m<=i):∀(k:Code) {t:Tm} {h:Hp} {r:X×Tm×Hp},(eY n k).f c m t h=some r->(eY n k).f c' i t h=some r
 | .skip,_,_,_,a=>a
 | .seq x y,t,h,r,a=>by
   simp only[eY]at a⊢;rcases Dj a with⟨s,o,g,l⟩|⟨g,l⟩
   ·rw[jc d x g];exact jc d y l
   ·rw[jc d x g]
    obtain⟨p,t',h'⟩:=r
    cases p with
    |normal=>simp_all
    |exit id=>rfl
    |ret=>rfl
 | .cond e x y,t,h,r,a=>by
   simp only[eY,c7]at a⊢;obtain⟨v,o,u⟩:=a;refine⟨v,o,?_⟩;split
   ·rename_i b
    cases b with
    |true=>exact jc d x u
    |false=>exact jc d y u
   simp_all
 | .block id x,t,h,r,a=>by
   simp only[eY]at a⊢
   cases hr:(eY n x).f c m t h with
   |none=>rw[hr]at a;cases a
   |some r'=>rw[hr]at a;rw[jc d x hr];exact a
 | .loop x,t,h,r,a=>by
   simp only [eY]at a⊢;have w:∀(k k':Nat) (t:Tm) (h:Hp),k<=k'->AH (λt h=>(eY n x).f c m t h) k t h=some r->AH (λt h=>(eY n x).f c' i t h) k' t h=some r:=by
     intro k
     induction k with
     |zero=>intro k' t h _ a;cases a
     | succ k z=>
       intro k' t h hk a;obtain⟨k',rfl⟩:∃j,k' = j+1:=⟨k'-1,by omega⟩
       have q:zP ((eY n x).f c m t h) (AH (λt h=>(eY n x).f c m t h) k)=some r:=a;show zP ((eY n x).f c' i t h) (AH (λt h=>(eY n x).f c' i t h) k')=some r;rcases Dj q with⟨s,o,g,l⟩|⟨g,l⟩
       ·rw[jc d x g];exact z k' s o (by omega) l
       ·rw[jc d x g]
        obtain⟨p,t',h'⟩:=r
        cases p with
        |normal=>simp_all
        |exit id=>rfl
        |ret=>rfl
   grind
 | .exit id,_,_,_,a=>a
 | .ret,_,_,_,a=>a
 | .region id ops false,t,h,r,a=>by
   grind[eY,c7,yo]
 | .region id ops true,t,h,r,a=>by
   grind[eY,c7,L3]
 | .rangeFunc ..,_,_,_,a=>by cases a
 | .scope _,_,_,_,a=>by cases a
 | .label _,_,_,_,a=>by cases a
 | .goto _,_,_,_,a=>by cases a
 | .refuse _,_,_,_,a=>by cases a
theorem LH{C:dc} {m a:Nat} (d:m<=a) {f:Nat} {args:List V} {h:Hp} {r:V×Hp} (b:(Ec C f).f c m args h=some r):(Ec C f).f c' a args h=some r:=by
 unfold Ec at b⊢;cases hf:P0.funcs[f]? <;> grind[N9,ek,c7,jc]
theorem Iw{C:dc} {m a:Nat} (b:m<=a):∀(l:List (Nat×List V)) {h h':Hp},Ib C c m l h=some h'->Ib C c' a l h=some h'
 |[],_,_,hv=>hv
 | x::l,_,_,hv=>by
   simp only[Ib,c7]at hv⊢;obtain⟨r,d,e⟩:=hv;exact⟨r,LH hc b d,Iw b l e⟩
theorem MB{C:dc} {m b:Nat} (d:m<=b) {f:Nat} {args:List V} {h:Hp} {r:V×Hp} (a:(zu C f).f c m args h=some r):(zu C f).f c' b args h=some r:=by
 unfold zu at a⊢
 cases hf:P0.funcs[f]? with
 |none=>simp_all
 | some fn=>
   rw[hf]at a;simp only at a⊢
   cases hb:fn.body with
   |none=>simp_all
   | some k=>
     rw[hb]at a;simp only at a⊢
     cases hk:C.K f args h with
     |some u=>rw[hk]at a;exact a
     | none=>
       rw[hk]at a
       grind[Sb,ek,c7,jc,id,Iw]
end
theorem si{C:dc} {m b:Nat} (e:m<=b):∀{d d':Nat},d<=d'->(gQ C m d).Le (gQ C b d')
 |0,_,_=>λ_ _ _ _ h=>(nomatch h)
 |d+1,0,h=>by omega
 | d+1,d' + 1,h=>λf a g r i=>by
   have c:(zu C f).f (gQ C m d) m a g=some r:=i;show(zu C f).f (gQ C b d') b a g=some r;exact MB (si e (by omega)) e c
inductive KE where
 |names (f:Nat) (l:List (Nat×V))
 |yes (f:Nat)
noncomputable def NT:List (Nat×V)->Nat->Option V
 |[],_=>none
 |x::l,n=>Bool.rec (motive:=λ_=>Option V) (NT l n) (some x.2) (Nat.beq x.1 n)
noncomputable def KE.ask(e:KE) (f:Nat) (args:List V):Option V:=match e with
 | .names g l=>bB (Nat.beq f g) (match args with
   |[.int .i64 (.ofNat n)]=>NT l n
   |_=>none)
 | .yes g=>bB (Nat.beq f g) (match args with
   |[]=>some (.bool true)
   |_=>none)
noncomputable def Em:List KE->Nat->List V->Option V
 |[],_,_=>none
 |e::es,f,args=>Sb (e.ask f args) (λv=>some v) (Em es f args)
def XP(v:V):Option (V×Hp)->Bool
 |some (u,_)=>V.beq u v
 |_=>false
theorem FH{C:dc} (i:ry C) {m d n f:Nat} {args:List V} {v:V} (s:P0.globals.size<=n) (l:∃fn c,P0.funcs[f]? =some fn/\fn.body=some c) (a:XP v (gQ C m d f args {next:=n,tr:= .leaf})=true)
  (W:World) (t:xD (λ_=>none) W) (ee:Array Value) (o:dS (λ_=>none) args ee.toList) :
  Calls P0 f ee W λe W'=>∃x,e = .returned x/\(v.flat=true->dj (λ_=>none) v x)/\Still W W':=by
 cases hr:gQ C m d f args {next:=n,tr:= .leaf} with
 |none=>rw[hr]at a;cases a
 | some r=>
   obtain⟨u,h'⟩:=r;rw[hr]at a;obtain rfl:u=v:=V.eq_of_beq _ _ a;rcases Dk i m d f args _ _ _ (λ_=>none) W ee hr (by grind[WR.start]) o with⟨x,w,_⟩|⟨_,p⟩
   ·exfalso
    obtain ⟨fn,c,j,b⟩:=l;have g:=i.named f fn j;have:(callFunc f ee).run P0 W = .ok (.enter f ee) W:=by
      simp only[callFunc,rk,run_program,qf,j,g,b,Yb,Kg,if_false];rfl
    simp_all
   ·refine Calls.mono p λe w' q=>?_
    obtain⟨y,x,rfl,k⟩:=q;exact⟨x,rfl,λh=>Lb k.val h,k.frame.still Za⟩
noncomputable def Db(C:dc) (m d n f:Nat):List (Nat×V)->Bool
 |[]=>true
 |x::l=>Bool.rec (motive:=λ_=>Bool) false (Db C m d n f l) (XP x.2 (gQ C m d f [.int .i64 (.ofNat x.1)] {next:=n,tr:= .leaf}))
theorem Eu{C:dc} {m d n f:Nat}:∀(l:List (Nat×V)),Db C m d n f l=true->∀k s,NT l k=some s->XP s (gQ C m d f [.int .i64 (.ofNat k)] {next:=n,tr:= .leaf})=true
 |[],_,k,s,hk=>by cases hk
 | x ::l,h,k,s',hk=>by
   simp only[Db]at h;simp only[NT]at hk
   cases hb:XP x.2 (gQ C m d f [.int .i64 (.ofNat x.1)] {next:=n,tr:= .leaf})with
   |false=>simp_all
   | true=>
     rw[hb]at h
     cases hx:Nat.beq x.1 k with
     | true=>
       simp_all
     | false=>
       rw[hx]at hk;exact Eu l h k s' hk
inductive WL (C:dc):KE->Prop where
 |names {m d n f l} (a:P0.globals.size<=n) (b:∃fn c,P0.funcs[f]? =some fn/\fn.body=some c) (h:Db C m d n f l=true):WL C (.names f l)
 |yes {m d n f} (a:P0.globals.size<=n) (b:∃fn c,P0.funcs[f]? =some fn/\fn.body=some c) (h:isTrue (gQ C m d f [] {next:=n,tr:= .leaf})=true):WL C (.yes f)
theorem L8{r:Option (V×Hp)} (h:isTrue r=true):XP (.bool true) r=true:=by
 unfold isTrue at h;split at h
 ·rfl
 ·cases h
theorem WL.calls{C:dc} (j:ry C) {e:KE} (o:WL C e) {f:Nat} {args:List V} {v:V} (a:e.ask f args=some v) (p:v.flat=true) (W:World) (q:xD (λ_=>none) W) (ee:Array Value) (r:dS (λ_=>none) args ee.toList) :
  Calls P0 f ee W λe W'=>∃x,e = .returned x/\dj (λ_=>none) v x/\Still W W':=by
 cases o with
 | @names m d n g l c i h=>
   simp only[KE.ask,ek]at a;obtain⟨b,a⟩:=a;obtain rfl:=wC b;split at a
   ·rename_i k
    have s:=Eu l h k v a
    grind[Calls.mono,FH]
   ·cases a
 | @yes m d n g c i h=>
   simp only[KE.ask,ek]at a;obtain⟨b,a⟩:=a;obtain rfl:=wC b;split at a
   ·cases a
    exact Calls.mono (FH j c i (L8 h) W q ee r) (by simp_all)
   ·cases a
noncomputable def dc.more(C:dc)(l:List KE):dc:=⟨C.start,C.ext,λf args h=>Sb (Em l f args) (λv=>some v) (C.K f args h)⟩
theorem Gc:∀(l:List KE) {f:Nat} {args:List V} {v:V},Em l f args=some v->∃e∈l,e.ask f args=some v
 |[],_,_,_,h=>by cases h
 | e ::es,f,args,v,h=>by
   simp only[Em]at h
   cases hq:e.ask f args with
   |some u=>rw[hq]at h;grind[KE.ask,Sb,Em,KE.ask]
   | none=>
     rw[hq]at h;obtain⟨e',a,h'⟩:=Gc es h
     grind
theorem ry.more{C:dc} (a:ry C) {l:List KE} (i:∀e∈l,WL C e):ry (C.more l) where
 Gb:=a.Gb
 start:=a.start
 mixed:=a.mixed
 named:=a.named
 ext:=a.ext
 known:=λf args v h hk c b Δ W ee d g=>by
  simp only[dc.more]at hk
  cases hq:Em l f args with
  | some u=>
    rw[hq]at hk;have:u=v:=by simpa[Sb]using hk
    subst this;obtain⟨e,j,k⟩:=Gc l hq
    exact(i e j).calls a k b W d.NK.none ee g
  | none=>
    rw[hq]at hk;exact a.known f args v h (by grind[Sb]) c b Δ W ee d g
def E1:Nat->Ext
 |83=> .countByte
 |90=> .indexByte
 |_=> .none
theorem QQ:(P0.funcs.toList.all λfn=>!(fn.name == "runtime.NumGoroutine"))=true:=by kernel_rfl
theorem mixed:P0.follows .mixedOrders=true:=by kernel_rfl
theorem QM:Nat.ble P0.globals.size 3=true:=by kernel_rfl
theorem Yd:P0.funcs[83]? =some Tryd.f83:=by unfold P0;exact Tryd.func83
theorem Xz:P0.funcs[90]? =some Tryd.f90:=by unfold P0;exact Tryd.func90
theorem W7(w:World):xD (λ_=>none) w:=λg c h=>by simp[XH]at h
noncomputable def C1:dc:=⟨Mm,E1,λ_ _ _=>none⟩
theorem facts:ry C1 where
 Gb:=λ_=>rfl
 start:=MK
 known:=λ_ _ _ _ h=>nomatch h
 mixed:=mixed
 named:=λf fn a=>by
  have h:=Kd.1 QQ fn (by rw[Array.mem_toList_iff];exact Array.mem_of_getElem? a);simpa using h
 ext:=λf fn a i Δ args v ee w b c=>by
  by_cases d:f=83
  ·subst d;rw[Yd]at a;cases a;exact Oq Yd (by kernel_rfl) (by kernel_rfl) (by kernel_rfl) (by kernel_rfl) b c
  ·by_cases e:f=90
   ·subst e;rw[Xz]at a;cases a;exact O3 Xz (by kernel_rfl) (by kernel_rfl) (by kernel_rfl) (by kernel_rfl) b c
   ·have g:C1.ext f = .none:=by
     show E1 f = .none;unfold E1;split
     ·exact absurd rfl d
     ·exact absurd rfl e
     ·rfl
    rw[g]at b;simp[MT]at b
