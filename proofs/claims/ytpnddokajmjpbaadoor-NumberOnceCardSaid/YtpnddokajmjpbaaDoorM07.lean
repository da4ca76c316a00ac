/- Parts. -/
import Derived.Test.YtpnddokajmjpbaaDoorM06
import Derived.KernelRfl
namespace Go.Proofs.YtpnddokajmjpbaaDoor.Hx
def Call.Le (c c':Call):Prop:=∀f a h r,c f a h=some r->c' f a h=some r
theorem Call.Le.refl (c:Call):c.Le c:=λ_ _ _ _ h=>h
section
variable{n:Nat}{c c':Call}(hc:c.Le c')
include hc
theorem GU {o:Oper} {t:Tm} {h:Hp} {r:V×Hp} (hv:(FB o).f c t h=some r):(FB o).f c' t h=some r:=by
 unfold FB at hv⊢;split
 ·rename_i a;rw[a]at hv;exact hv
 ·rename_i a;rw[a]at hv;exact hv
 ·rename_i h0 d;split at hv
  ·rename_i a;exact absurd a h0
  ·rename_i a;exact absurd a d
  ·simp only[fj]at hv⊢;obtain⟨x,e,b⟩:=hv;refine⟨x,e,?_⟩
   cases x with
   |val v h'=>exact b
   |call f args=>exact hc _ _ _ _ b
theorem Qb {all:List Oper} {o:Oper} {a:SF} (j:∀t h r,a.f c t h=some r->a.f c' t h=some r) {t:Tm} {h:Hp} {r:Tm×Hp} (hv:(Gz n all o a).f c t h=some r):(Gz n all o a).f c' t h=some r:=by
 unfold Gz at hv⊢
 cases hd:wX n o with
 |none=>rw[hd]at hv;cases hv
 | some d=>
   rw[hd]at hv;simp only at hv⊢
   cases hw:jX n all o with
   | none=>
     rw[hw]at hv;simp only at hv⊢
     cases hq:yx o with
     | some q=>
       rw[hq]at hv;simp only[fj]at hv⊢;obtain⟨x,i,e⟩:=hv
       exact⟨x,i,j _ _ _ e⟩
     | none=>
       rw[hq]at hv;simp only[fj]at hv⊢;obtain⟨x,i,e⟩:=hv
       exact⟨x,GU hc i,j _ _ _ e⟩
   | some g=>
     rw[hw]at hv;simp only[fj]at hv⊢;obtain⟨b,i,e⟩:=hv;refine⟨b,i,?_⟩
     cases b with
     |false=>exact j _ _ _ e
     | true=>
       simp only[fj]at e⊢;obtain⟨x,k,l⟩:=e;exact⟨x,GU hc k,j _ _ _ l⟩
theorem Bx {all:List Oper}:∀(os:List Oper) {t:Tm} {h:Hp} {r:Tm×Hp},(sj n all os).f c t h=some r->(sj n all os).f c' t h=some r
 |[],_,_,_,hv=>hv
 |o::os,_,_,_,hv=>Qb hc (λ_ _ _ h=>Bx os h) hv
omit hc in
theorem Qx {all:List Oper} {ws:List It} {a:It} {d:DF} {rest:LF} (hr:∀t h rs r,rest.f c t h rs=some r->rest.f c' t h rs=some r) {t:Tm} {h:Hp} {rs:List Rec} {r:Tm×Hp} (hv:(EN n all ws a d rest).f c t h rs=some r) :
  (EN n all ws a d rest).f c' t h rs=some r:=by
 unfold EN at hv⊢;simp only[fj]at hv⊢;obtain⟨b,h1,h2⟩:=hv;refine⟨b,h1,?_⟩
 cases b with
 |false=>exact hr _ _ _ _ h2
 | true=>
   simp only[fj]at h2⊢;obtain⟨x,h3,h4⟩:=h2;exact⟨x,h3,hr _ _ _ _ h4⟩
omit hc in
theorem Oe {all:List Oper} {ws:List It} {a:It} {d:DF} {rest:LF} (hr:∀t h rs r,rest.f c t h rs=some r->rest.f c' t h rs=some r) {t:Tm} {h:Hp} {rs:List Rec} {r:Tm×Hp} (hv:(Dn n all ws a d rest).f c t h rs=some r) :
  (Dn n all ws a d rest).f c' t h rs=some r:=by
 unfold Dn at hv⊢;simp only[fj]at hv⊢;obtain⟨b,h1,h2⟩:=hv;refine⟨b,h1,?_⟩
 cases b with
 |false=>exact hr _ _ _ _ h2
 | true=>
   simp only[fj]at h2⊢;obtain⟨x,h3,h4⟩:=h2;exact⟨x,h3,hr _ _ _ _ h4⟩
theorem OP {all:List Oper} {k:Nat} {a:It} {d:DF} {e:LF} (i:∀t h rs r,e.f c t h rs=some r->e.f c' t h rs=some r) {t:Tm} {h:Hp} {rs:List Rec} {r:Tm×Hp} (hv:(AD n all k a d e).f c t h rs=some r) :
  (AD n all k a d e).f c' t h rs=some r:=by
 unfold AD at hv⊢;simp only[gM,fj]at hv⊢;obtain⟨h0,b,j,g⟩:=hv;refine⟨h0,b,j,?_⟩
 cases b with
 |false=>exact i _ _ _ _ g
 | true=>
   simp only[fj,gM]at g⊢;obtain⟨x,l,m,o⟩:=g;exact⟨x,GU hc l,m,i _ _ _ _ o⟩
theorem yj {all:List Oper} {ws:List It}:∀(l:List It) (k:Nat) {t:Tm} {h:Hp} {rs:List Rec} {r:Tm×Hp},(vJ n all ws l k).f c t h rs=some r->(vJ n all ws l k).f c' t h rs=some r
 |[],_,_,_,_,_,hv=>hv
 | a ::l,k,t,h,rs,r,hv=>by
   unfold vJ at hv⊢
   cases hd:wX n a.o with
   |none=>rw[hd]at hv;cases hv
   | some d=>
     rw[hd]at hv;simp only at hv⊢;split
     ·rename_i b;rw[b]at hv;exact Qx (λ_ _ _ _ h=>yj l _ h) hv
     ·rename_i b;rw[b]at hv;exact Oe (λ_ _ _ _ h=>yj l _ h) hv
     ·rename_i h0 e
      split at hv
      ·rename_i b;exact absurd b h0
      ·rename_i b;exact absurd b e
      ·exact OP hc (λ_ _ _ _ h=>yj l _ h) hv
theorem PH {all:List Oper} {t:Tm} {h:Hp} {r:Tm×Hp} (hv:(JE n all).f c t h=some r):(JE n all).f c' t h=some r:=by
 unfold JE at hv⊢
 cases hb:MF (items all 0 []) (gK (items all 0 []))&&uN (items all 0 []) (gK (items all 0 [])) (order (items all 0 []) (gK (items all 0 [])) (gK (items all 0 [])) 0) 0 0 with
 |true=>rw[hb]at hv;exact yj hc _ _ hv
 | false=>
   rw[hb]at hv;simp only at hv⊢
   cases hf:GH (items all 0 []) (gK (items all 0 []))with
   |none=>rw[hf]at hv;cases hv
   | some p=>
     rw[hf]at hv
     cases hb2:ME (items all 0 [])&&uN (items all 0 []) (gK (items all 0 [])) (order (items all 0 []) (gK (items all 0 [])) (gK (items all 0 [])) 0) 0 0 with
     |false=>rw[hb2]at hv;cases hv
     | true=>
       rw[hb2]at hv;simp only[fj,gM]at hv⊢;obtain⟨x,a,b,d⟩:=hv;exact⟨x,yj hc _ _ a,b,d⟩
theorem kW {m o:Nat} (a:m<=o):∀(k:Code) {t:Tm} {h:Hp} {r:X×Tm×Hp},(ic n k).f c m t h=some r->(ic n k).f c' o t h=some r
 | .skip,_,_,_,hv=>hv
 | .seq x y,t,h,r,hv=>by
   simp only[ic]at hv⊢;rcases Gi hv with⟨w,d,i,l⟩|⟨i,l⟩
   ·rw[kW a x i];exact kW a y l
   ·rw[kW a x i]
    obtain⟨p,t',h'⟩:=r
    cases p with
    |normal=>exact absurd rfl l
    |exit id=>rfl
    |ret=>rfl
 | .cond e x y,t,h,r,hv=>by
   simp only[ic,fj]at hv⊢;obtain⟨v,d,g⟩:=hv;refine⟨v,d,?_⟩;split
   ·rename_i b
    cases b with
    |true=>exact kW a x g
    |false=>exact kW a y g
   ·rename_i q
    split at g
    ·rename_i b;exact absurd rfl (q b)
    ·exact g
 | .block id x,t,h,r,hv=>by
   simp only[ic]at hv⊢
   cases hr:(ic n x).f c m t h with
   |none=>rw[hr]at hv;cases hv
   |some r'=>rw[hr]at hv;rw[kW a x hr];exact hv
 | .loop x,t,h,r,hv=>by
   simp only [ic]at hv⊢;have s:∀(k k':Nat) (t:Tm) (h:Hp),k<=k'->DI (λt h=>(ic n x).f c m t h) k t h=some r->DI (λt h=>(ic n x).f c' o t h) k' t h=some r:=by
     intro k
     induction k with
     |zero=>intro k' t h _ hv;cases hv
     | succ k z=>
       intro k' t h A hv;obtain⟨k',rfl⟩:∃j,k' = j+1:=⟨k'-1,by omega⟩
       have u:Cz ((ic n x).f c m t h) (DI (λt h=>(ic n x).f c m t h) k)=some r:=hv;show Cz ((ic n x).f c' o t h) (DI (λt h=>(ic n x).f c' o t h) k')=some r;rcases Gi u with⟨w,d,i,l⟩|⟨i,l⟩
       ·rw[kW a x i];exact z k' w d (by omega) l
       ·rw[kW a x i]
        obtain⟨p,t',h'⟩:=r
        cases p with
        |normal=>exact absurd rfl l
        |exit id=>rfl
        |ret=>rfl
   exact s m o t h a hv
 | .exit id,_,_,_,hv=>hv
 | .ret,_,_,_,hv=>hv
 | .region id ops false,t,h,r,hv=>by
   simp only[ic,fj]at hv⊢;obtain⟨x,d,g⟩:=hv
   exact⟨x,Bx hc _ d,g⟩
 | .region id ops true,t,h,r,hv=>by
   simp only[ic,fj]at hv⊢;obtain⟨x,d,g⟩:=hv
   exact⟨x,PH hc d,g⟩
 | .rangeFunc ..,_,_,_,hv=>by cases hv
 | .scope _,_,_,_,hv=>by cases hv
 | .label _,_,_,_,hv=>by cases hv
 | .goto _,_,_,_,hv=>by cases hv
 | .refuse _,_,_,_,hv=>by cases hv
theorem OB {C:fu} {m d:Nat} (e:m<=d) {f:Nat} {args:List V} {h:Hp} {r:V×Hp} (hv:(Hn C f).f c m args h=some r):(Hn C f).f c' d args h=some r:=by
 unfold Hn at hv⊢
 cases hf:P0.funcs[f]? with
 |none=>rw[hf]at hv;cases hv
 | some fn=>
   rw[hf]at hv;simp only at hv⊢
   cases hb:fn.body with
   |none=>rw[hb]at hv;cases hv
   | some k=>
     rw[hb]at hv;simp only at hv⊢
     cases hr:Q9 k with
     | none=>
       rw[hr]at hv;simp only[gM,fj]at hv⊢;obtain⟨h0,x,a,b⟩:=hv
       exact⟨h0,x,kW hc e k a,b⟩
     | some y=>
       rw[hr]at hv;simp only[gM,fj]at hv⊢;obtain⟨h0,g,x,a,b⟩:=hv;exact⟨h0,g,x,kW hc e y.2 a,b⟩
theorem HZ {C:fu} {m a:Nat} (b:m<=a):∀(l:List (Nat×List V)) {h h':Hp},Lb C c m l h=some h'->Lb C c' a l h=some h'
 |[],_,_,hv=>hv
 | x::l,_,_,hv=>by
   simp only[Lb,fj]at hv⊢;obtain⟨r,d,e⟩:=hv;exact⟨r,OB hc b d,HZ b l e⟩
theorem Qs {C:fu} {m i:Nat} (b:m<=i) {f:Nat} {args:List V} {h:Hp} {r:V×Hp} (hv:(zX C f).f c m args h=some r):(zX C f).f c' i args h=some r:=by
 unfold zX at hv⊢
 cases hf:P0.funcs[f]? with
 |none=>rw[hf]at hv;cases hv
 | some fn=>
   rw[hf]at hv;simp only at hv⊢
   cases hb:fn.body with
   |none=>rw[hb]at hv;exact hv
   | some k=>
     rw[hb]at hv;simp only at hv⊢
     cases hk:C.K f args h with
     |some u=>rw[hk]at hv;exact hv
     | none=>
       rw[hk]at hv;simp only[WO,gM,fj]at hv⊢;obtain⟨h0,x,j,a⟩:=hv;refine⟨h0,x,kW hc b k j,?_⟩;obtain⟨e,t,l⟩:=x
       cases e with
       |exit id=>exact a
       | normal=>
         simp only[fj]at a⊢;obtain⟨y,d,g⟩:=a
         exact⟨y,HZ hc b _ d,g⟩
       | ret=>
         simp only[fj]at a⊢;obtain⟨y,d,g⟩:=a;exact⟨y,HZ hc b _ d,g⟩
end
theorem vN {C:fu} {m b:Nat} (g:m<=b):∀{d c:Nat},d<=c->(jB C m d).Le (jB C b c)
 |0,_,_=>λ_ _ _ _ h=>(nomatch h)
 |d+1,0,h=>absurd h (by omega)
 | d+1,c+1,h=>λf a i r hv=>by
   have e:(zX C f).f (jB C m d) m a i=some r:=hv;show(zX C f).f (jB C b c) b a i=some r;exact Qs (vN g (by omega)) g e
inductive KE where
 |names (f:Nat) (l:List (Nat×V))
 |yes (f:Nat)
noncomputable def Rx:List (Nat×V)->Nat->Option V
 |[],_=>none
 |x::l,n=>Bool.rec (motive:=λ_=>Option V) (Rx l n) (some x.2) (Nat.beq x.1 n)
noncomputable def KE.ask (e:KE) (f:Nat) (args:List V):Option V:=match e with
 | .names g l=>bB (Nat.beq f g) (match args with
   |[.int .i64 (.ofNat n)]=>Rx l n
   |_=>none)
 | .yes g=>bB (Nat.beq f g) (match args with
   |[]=>some (.bool true)
   |_=>none)
noncomputable def KY:List KE->Nat->List V->Option V
 |[],_,_=>none
 |e::es,f,args=>WO (e.ask f args) (λv=>some v) (KY es f args)
def isV (v:V):Option (V×Hp)->Bool
 |some (u,_)=>V.beq u v
 |_=>false
theorem Ks {C:fu} (h:vt C) {m d n f:Nat} {args:List V} {v:V} (l:P0.globals.size<=n) (hb:∃fn c,P0.funcs[f]? =some fn/\fn.body=some c) (hv:isV v (jB C m d f args {next:=n,tr:= .leaf})=true)
  (W:World) (ht:AQ (λ_=>none) W) (gq:Array Value) (o:gh (λ_=>none) args gq.toList) :
  Calls P0 f gq W λe W'=>∃x,e = .returned x/\(v.flat=true->fI (λ_=>none) v x)/\Still W W':=by
 cases hr:jB C m d f args {next:=n,tr:= .leaf} with
 |none=>rw[hr]at hv;cases hv
 | some r=>
   obtain⟨u,h'⟩:=r;rw[hr]at hv;obtain rfl:u=v:=V.eq_of_beq _ _ hv;rcases Gd h m d f args _ _ _ (λ_=>none) W gq hr (WR.start n l W ht) o with⟨x,i,_⟩|⟨_,p⟩
   ·exfalso
    obtain ⟨fn,c,j,a⟩:=hb;have b:=h.named f fn j;have:(callFunc f gq).run P0 W = .ok (.enter f gq) W:=by
      simp only[callFunc,pB,run_program,oD,j,b,a,wCI,Li,if_false];rfl
    rw[this]at i;cases i
   ·refine Calls.mono p λe w' q=>?_
    obtain⟨s,x,rfl,k⟩:=q;exact⟨x,rfl,λg=>N1 k.val g,k.frame.still zbx⟩
noncomputable def Gt (C:fu) (m d n f:Nat):List (Nat×V)->Bool
 |[]=>true
 |x::l=>Bool.rec (motive:=λ_=>Bool) false (Gt C m d n f l) (isV x.2 (jB C m d f [.int .i64 (.ofNat x.1)] {next:=n,tr:= .leaf}))
theorem Iy {C:fu} {m d n f:Nat}:∀(l:List (Nat×V)),Gt C m d n f l=true->∀k s,Rx l k=some s->isV s (jB C m d f [.int .i64 (.ofNat k)] {next:=n,tr:= .leaf})=true
 |[],_,k,s,hk=>by cases hk
 | x ::l,h,k,s',hk=>by
   simp only[Gt]at h;simp only[Rx]at hk
   cases hb:isV x.2 (jB C m d f [.int .i64 (.ofNat x.1)] {next:=n,tr:= .leaf})with
   |false=>rw[hb]at h;cases h
   | true=>
     rw[hb]at h
     cases hx:Nat.beq x.1 k with
     | true=>
       rw[hx]at hk;cases hk;rw[<-tU hx]
       exact hb
     | false=>
       rw[hx]at hk;exact Iy l h k s' hk
inductive Z5 (C:fu):KE->Prop where
 |names {m d n f l} (a:P0.globals.size<=n) (hb:∃fn c,P0.funcs[f]? =some fn/\fn.body=some c) (h:Gt C m d n f l=true):Z5 C (.names f l)
 |yes {m d n f} (a:P0.globals.size<=n) (hb:∃fn c,P0.funcs[f]? =some fn/\fn.body=some c) (h:isTrue (jB C m d f [] {next:=n,tr:= .leaf})=true):Z5 C (.yes f)
theorem Qq {r:Option (V×Hp)} (h:isTrue r=true):isV (.bool true) r=true:=by
 unfold isTrue at h;split at h
 ·rfl
 ·cases h
theorem Z5.calls {C:fu} (o:vt C) {e:KE} (c:Z5 C e) {f:Nat} {args:List V} {v:V} (hv:e.ask f args=some v) (i:v.flat=true) (W:World) (ht:AQ (λ_=>none) W) (gq:Array Value) (p:gh (λ_=>none) args gq.toList) :
  Calls P0 f gq W λe W'=>∃x,e = .returned x/\fI (λ_=>none) v x/\Still W W':=by
 cases c with
 | @names m d n g l j hb h=>
   simp only[KE.ask,gM]at hv;obtain⟨a,hv⟩:=hv;obtain rfl:=tU a;split at hv
   ·rename_i k
    have q:=Iy l h k v hv;exact Calls.mono (Ks o j hb q W ht gq p) λe W' ⟨x,c,hx,b⟩=>⟨x,c,hx i,b⟩
   ·cases hv
 | @yes m d n g j hb h=>
   simp only[KE.ask,gM]at hv;obtain⟨a,hv⟩:=hv;obtain rfl:=tU a;split at hv
   ·cases hv
    exact Calls.mono (Ks o j hb (Qq h) W ht gq p) λe W' ⟨x,c,hx,b⟩=>⟨x,c,hx rfl,b⟩
   ·cases hv
noncomputable def fu.more (C:fu)(l:List KE):fu:=⟨C.start,C.ext,λf args h=>WO (KY l f args) (λv=>some v) (C.K f args h)⟩
theorem KG:∀(l:List KE) {f:Nat} {args:List V} {v:V},KY l f args=some v->∃e∈l,e.ask f args=some v
 |[],_,_,_,h=>by cases h
 | e ::es,f,args,v,h=>by
   simp only[KY]at h
   cases hq:e.ask f args with
   |some u=>rw[hq]at h;exact⟨e,.head _,by rw[hq];exact h⟩
   | none=>
     rw[hq]at h;obtain⟨a,b,h'⟩:=KG es h;exact⟨a,.tail _ b,h'⟩
theorem vt.more {C:fu} (a:vt C) {l:List KE} (j:∀e∈l,Z5 C e):vt (C.more l) where
 Jz:=a.Jz
 start:=a.start
 mixed:=a.mixed
 named:=a.named
 ext:=a.ext
 known:=λf args v h b d c Δ W gq g i=>by
  simp only[fu.more]at b
  cases hq:KY l f args with
  | some u=>
    rw[hq]at b;have:u=v:=by simpa[WO]using b
    subst this;obtain⟨e,k,m⟩:=KG l hq
    exact(j e k).calls a m c W g.Rg.none gq i
  | none=>
    rw[hq]at b;exact a.known f args v h (by simpa[WO]using b) d c Δ W gq g i
def E1:Nat->Ext
 |120=> .countByte
 |127=> .indexByte
 |_=> .none
theorem UE:(P0.funcs.toList.all λfn=>!(fn.name == "runtime.NumGoroutine"))=true:=by kernel_rfl
theorem mixed:P0.follows .mixedOrders=true:=by kernel_rfl
theorem T0:Nat.ble P0.globals.size 3=true:=by kernel_rfl
theorem XV:P0.funcs[120]? =some Tryd.f120:=by unfold P0;exact Tryd.func120
theorem XH:P0.funcs[127]? =some Tryd.f127:=by unfold P0;exact Tryd.func127
theorem zaX (w:World):AQ (λ_=>none) w:=λg c h=>by simp[Z1]at h
noncomputable def C1:fu:=⟨Qn,E1,λ_ _ _=>none⟩
theorem facts:vt C1 where
 Jz:=λ_=>rfl
 start:=Qo
 known:=λ_ _ _ _ h=>nomatch h
 mixed:=mixed
 named:=λf fn a=>by
  have h:=KQ.1 UE fn (by rw[Array.mem_toList_iff];exact Array.mem_of_getElem? a);simpa using h
 ext:=λf fn a hb Δ args v gq w hv b=>by
  by_cases c:f=120
  ·subst c;rw[XV]at a;cases a;exact Su XV (by kernel_rfl) (by kernel_rfl) (by kernel_rfl) (by kernel_rfl) hv b
  ·by_cases d:f=127
   ·subst d;rw[XH]at a;cases a;exact SD XH (by kernel_rfl) (by kernel_rfl) (by kernel_rfl) (by kernel_rfl) hv b
   ·have e:C1.ext f = .none:=by
     show E1 f = .none;unfold E1;split
     ·exact absurd rfl c
     ·exact absurd rfl d
     ·rfl
    rw[e]at hv;simp[O3]at hv
