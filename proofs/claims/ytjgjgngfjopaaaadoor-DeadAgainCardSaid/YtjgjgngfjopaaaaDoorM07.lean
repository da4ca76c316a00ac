/- Parts. -/
import Derived.Test.YtjgjgngfjopaaaaDoorM06
import Derived.KernelRfl
namespace Go.Proofs.YtjgjgngfjopaaaaDoor.Hx
def Call.Le(c c':Call):Prop:=∀f a h r,c f a h=some r->c' f a h=some r
section
variable{n:Nat}{c c':Call}(hc:c.Le c')
include hc
theorem I1{o:Oper} {t:Tm} {h:Hp} {r:V×Hp} (hv:(Ib o).f c t h=some r):(Ib o).f c' t h=some r:=by
 unfold Ib at hv⊢;split
 ·rename_i a;rw[a]at hv;exact hv
 ·rename_i a;rw[a]at hv;exact hv
 ·rename_i h0 d;split at hv
  ·rename_i a;exact absurd a h0
  ·rename_i a;exact absurd a d
  ·simp only[ft]at hv⊢;obtain⟨x,e,b⟩:=hv;refine⟨x,e,?_⟩
   cases x with
   |val v h'=>exact b
   |call f args=>exact hc _ _ _ _ b
theorem RM{all:List Oper} {o:Oper} {a:SF} (j:∀t h r,a.f c t h=some r->a.f c' t h=some r) {t:Tm} {h:Hp} {r:Tm×Hp} (hv:(Iz n all o a).f c t h=some r):(Iz n all o a).f c' t h=some r:=by
 unfold Iz at hv⊢
 cases hd:yz n o with
 |none=>rw[hd]at hv;cases hv
 | some d=>
   rw[hd]at hv;simp only at hv⊢
   cases hw:kO n all o with
   | none=>
     rw[hw]at hv;simp only at hv⊢
     cases hq:zB o with
     | some q=>
       rw[hq]at hv;simp only[ft]at hv⊢;obtain⟨x,i,e⟩:=hv
       exact⟨x,i,j _ _ _ e⟩
     | none=>
       rw[hq]at hv;simp only[ft]at hv⊢;obtain⟨x,i,e⟩:=hv
       exact⟨x,I1 hc i,j _ _ _ e⟩
   | some g=>
     rw[hw]at hv;simp only[ft]at hv⊢;obtain⟨b,i,e⟩:=hv;refine⟨b,i,?_⟩
     cases b with
     |false=>exact j _ _ _ e
     | true=>
       simp only[ft]at e⊢;obtain⟨x,k,l⟩:=e;exact⟨x,I1 hc k,j _ _ _ l⟩
theorem Dk{all:List Oper}:∀(os:List Oper) {t:Tm} {h:Hp} {r:Tm×Hp},(tQ n all os).f c t h=some r->(tQ n all os).f c' t h=some r
 |[],_,_,_,hv=>hv
 |o::os,_,_,_,hv=>RM hc (λ_ _ _ h=>Dk os h) hv
omit hc in
theorem Rp {all:List Oper} {ws:List It} {a:It} {d:DF} {rest:LF} (hr:∀t h rs r,rest.f c t h rs=some r->rest.f c' t h rs=some r) {t:Tm} {h:Hp} {rs:List Rec} {r:Tm×Hp} (hv:(GW n all ws a d rest).f c t h rs=some r) :
  (GW n all ws a d rest).f c' t h rs=some r:=by
 unfold GW at hv⊢;simp only[ft]at hv⊢;obtain⟨b,h1,h2⟩:=hv;refine⟨b,h1,?_⟩
 cases b with
 |false=>exact hr _ _ _ _ h2
 | true=>
   simp only[ft]at h2⊢;obtain⟨x,h3,h4⟩:=h2;exact⟨x,h3,hr _ _ _ _ h4⟩
omit hc in
theorem PS {all:List Oper} {ws:List It} {a:It} {d:DF} {rest:LF} (hr:∀t h rs r,rest.f c t h rs=some r->rest.f c' t h rs=some r) {t:Tm} {h:Hp} {rs:List Rec} {r:Tm×Hp} (hv:(EB n all ws a d rest).f c t h rs=some r) :
  (EB n all ws a d rest).f c' t h rs=some r:=by
 unfold EB at hv⊢;simp only[ft]at hv⊢;obtain⟨b,h1,h2⟩:=hv;refine⟨b,h1,?_⟩
 cases b with
 |false=>exact hr _ _ _ _ h2
 | true=>
   simp only[ft]at h2⊢;obtain⟨x,h3,h4⟩:=h2;exact⟨x,h3,hr _ _ _ _ h4⟩
theorem Qc{all:List Oper} {k:Nat} {a:It} {d:DF} {e:LF} (i:∀t h rs r,e.f c t h rs=some r->e.f c' t h rs=some r) {t:Tm} {h:Hp} {rs:List Rec} {r:Tm×Hp} (hv:(BE n all k a d e).f c t h rs=some r) :
  (BE n all k a d e).f c' t h rs=some r:=by
 unfold BE at hv⊢;simp only[g0,ft]at hv⊢;obtain⟨h0,b,j,g⟩:=hv;refine⟨h0,b,j,?_⟩
 cases b with
 |false=>exact i _ _ _ _ g
 | true=>
   simp only[ft,g0]at g⊢;obtain⟨x,l,m,o⟩:=g;exact⟨x,I1 hc l,m,i _ _ _ _ o⟩
theorem zw{all:List Oper} {ws:List It}:∀(l:List It) (k:Nat) {t:Tm} {h:Hp} {rs:List Rec} {r:Tm×Hp},(xE n all ws l k).f c t h rs=some r->(xE n all ws l k).f c' t h rs=some r
 |[],_,_,_,_,_,hv=>hv
 | a ::l,k,t,h,rs,r,hv=>by
   unfold xE at hv⊢
   cases hd:yz n a.o with
   |none=>rw[hd]at hv;cases hv
   | some d=>
     rw[hd]at hv;simp only at hv⊢;split
     ·rename_i b;rw[b]at hv;exact Rp (λ_ _ _ _ h=>zw l _ h) hv
     ·rename_i b;rw[b]at hv;exact PS (λ_ _ _ _ h=>zw l _ h) hv
     ·rename_i h0 e
      split at hv
      ·rename_i b;exact absurd b h0
      ·rename_i b;exact absurd b e
      ·exact Qc hc (λ_ _ _ _ h=>zw l _ h) hv
theorem Rq{all:List Oper} {t:Tm} {h:Hp} {r:Tm×Hp} (hv:(MA n all).f c t h=some r):(MA n all).f c' t h=some r:=by
 unfold MA at hv⊢
 cases hb:OR (items all 0 []) (gX (items all 0 []))&&vI (items all 0 []) (gX (items all 0 [])) (order (items all 0 []) (gX (items all 0 [])) (gX (items all 0 [])) 0) 0 0 with
 |true=>rw[hb]at hv;exact zw hc _ _ hv
 | false=>
   rw[hb]at hv;simp only at hv⊢
   cases hf:Iw (items all 0 []) (gX (items all 0 []))with
   |none=>rw[hf]at hv;cases hv
   | some p=>
     rw[hf]at hv
     cases hb2:Om (items all 0 [])&&vI (items all 0 []) (gX (items all 0 [])) (order (items all 0 []) (gX (items all 0 [])) (gX (items all 0 [])) 0) 0 0 with
     |false=>rw[hb2]at hv;cases hv
     | true=>
       rw[hb2]at hv;simp only[ft,g0]at hv⊢;obtain⟨x,a,b,d⟩:=hv;exact⟨x,zw hc _ _ a,b,d⟩
theorem lY{m o:Nat} (a:m<=o):∀(k:Code) {t:Tm} {h:Hp} {r:X×Tm×Hp},(iB n k).f c m t h=some r->(iB n k).f c' o t h=some r
 | .skip,_,_,_,hv=>hv
 | .seq x y,t,h,r,hv=>by
   simp only[iB]at hv⊢;rcases IN hv with⟨w,d,i,l⟩|⟨i,l⟩
   ·rw[lY a x i];exact lY a y l
   ·rw[lY a x i]
    obtain⟨p,t',h'⟩:=r
    cases p with
    |normal=>exact absurd rfl l
    |exit id=>rfl
    |ret=>rfl
 | .cond e x y,t,h,r,hv=>by
   simp only[iB,ft]at hv⊢;obtain⟨v,d,g⟩:=hv;refine⟨v,d,?_⟩;split
   ·rename_i b
    cases b with
    |true=>exact lY a x g
    |false=>exact lY a y g
   ·rename_i q
    split at g
    ·rename_i b;exact absurd rfl (q b)
    ·exact g
 | .block id x,t,h,r,hv=>by
   simp only[iB]at hv⊢
   cases hr:(iB n x).f c m t h with
   |none=>rw[hr]at hv;cases hv
   |some r'=>rw[hr]at hv;rw[lY a x hr];exact hv
 | .loop x,t,h,r,hv=>by
   simp only [iB]at hv⊢;have s:∀(k k':Nat) (t:Tm) (h:Hp),k<=k'->EI (λt h=>(iB n x).f c m t h) k t h=some r->EI (λt h=>(iB n x).f c' o t h) k' t h=some r:=by
     intro k
     induction k with
     |zero=>intro k' t h _ hv;cases hv
     | succ k z=>
       intro k' t h A hv;obtain⟨k',rfl⟩:∃j,k' = j+1:=⟨k'-1,by omega⟩
       have u:El ((iB n x).f c m t h) (EI (λt h=>(iB n x).f c m t h) k)=some r:=hv;show El ((iB n x).f c' o t h) (EI (λt h=>(iB n x).f c' o t h) k')=some r;rcases IN u with⟨w,d,i,l⟩|⟨i,l⟩
       ·rw[lY a x i];exact z k' w d (by omega) l
       ·rw[lY a x i]
        obtain⟨p,t',h'⟩:=r
        cases p with
        |normal=>exact absurd rfl l
        |exit id=>rfl
        |ret=>rfl
   exact s m o t h a hv
 | .exit id,_,_,_,hv=>hv
 | .ret,_,_,_,hv=>hv
 | .region id ops false,t,h,r,hv=>by
   simp only[iB,ft]at hv⊢;obtain⟨x,d,g⟩:=hv
   exact⟨x,Dk hc _ d,g⟩
 | .region id ops true,t,h,r,hv=>by
   simp only[iB,ft]at hv⊢;obtain⟨x,d,g⟩:=hv
   exact⟨x,Rq hc d,g⟩
 | .rangeFunc ..,_,_,_,hv=>by cases hv
 | .scope _,_,_,_,hv=>by cases hv
 | .label _,_,_,_,hv=>by cases hv
 | .goto _,_,_,_,hv=>by cases hv
 | .refuse _,_,_,_,hv=>by cases hv
theorem PR{C:fu} {m d:Nat} (e:m<=d) {f:Nat} {args:List V} {h:Hp} {r:V×Hp} (hv:(Jx C f).f c m args h=some r):(Jx C f).f c' d args h=some r:=by
 unfold Jx at hv⊢
 cases hf:P0.funcs[f]? with
 |none=>rw[hf]at hv;cases hv
 | some fn=>
   rw[hf]at hv;simp only at hv⊢
   cases hb:fn.body with
   |none=>rw[hb]at hv;cases hv
   | some k=>
     rw[hb]at hv;simp only at hv⊢
     cases hr:T0 k with
     | none=>
       rw[hr]at hv;simp only[g0,ft]at hv⊢;obtain⟨h0,x,a,b⟩:=hv
       exact⟨h0,x,lY hc e k a,b⟩
     | some y=>
       rw[hr]at hv;simp only[g0,ft]at hv⊢;obtain⟨h0,g,x,a,b⟩:=hv;exact⟨h0,g,x,lY hc e y.2 a,b⟩
theorem JT{C:fu} {m a:Nat} (b:m<=a):∀(l:List (Nat×List V)) {h h':Hp},Nc C c m l h=some h'->Nc C c' a l h=some h'
 |[],_,_,hv=>hv
 | x::l,_,_,hv=>by
   simp only[Nc,ft]at hv⊢;obtain⟨r,d,e⟩:=hv;exact⟨r,PR hc b d,JT b l e⟩
theorem Ry{C:fu} {m i:Nat} (b:m<=i) {f:Nat} {args:List V} {h:Hp} {r:V×Hp} (hv:(DU C f).f c m args h=some r):(DU C f).f c' i args h=some r:=by
 unfold DU at hv⊢
 cases hf:P0.funcs[f]? with
 |none=>rw[hf]at hv;cases hv
 | some fn=>
   rw[hf]at hv;simp only at hv⊢
   cases hb:fn.body with
   |none=>rw[hb]at hv;exact hv
   | some k=>
     rw[hb]at hv;simp only at hv⊢
     cases hk:C.K f args h with
     |some u=>rw[hk]at hv;exact hv
     | none=>
       rw[hk]at hv;simp only[YL,g0,ft]at hv⊢;obtain⟨h0,x,j,a⟩:=hv;refine⟨h0,x,lY hc b k j,?_⟩;obtain⟨e,t,hp⟩:=x
       cases e with
       |exit id=>exact a
       | normal=>
         simp only[ft]at a⊢;obtain⟨y,d,g⟩:=a
         exact⟨y,JT hc b _ d,g⟩
       | ret=>
         simp only[ft]at a⊢;obtain⟨y,d,g⟩:=a;exact⟨y,JT hc b _ d,g⟩
end
theorem xx{C:fu} {m b:Nat} (g:m<=b):∀{d c:Nat},d<=c->(kh C m d).Le (kh C b c)
 |0,_,_=>λ_ _ _ _ h=>(nomatch h)
 |d+1,0,h=>absurd h (by omega)
 | d+1,c+1,h=>λf a hp r hv=>by
   have e:(DU C f).f (kh C m d) m a hp=some r:=hv;show(DU C f).f (kh C b c) b a hp=some r;exact Ry (xx g (by omega)) g e
inductive KE where
 |names (f:Nat) (l:List (Nat×V))
 |yes (f:Nat)
noncomputable def T3:List (Nat×V)->Nat->Option V
 |[],_=>none
 |x::l,n=>Bool.rec (motive:=λ_=>Option V) (T3 l n) (some x.2) (Nat.beq x.1 n)
noncomputable def KE.ask(e:KE) (f:Nat) (args:List V):Option V:=match e with
 | .names g l=>bB (Nat.beq f g) (match args with
   |[.int .i64 (.ofNat n)]=>T3 l n
   |_=>none)
 | .yes g=>bB (Nat.beq f g) (match args with
   |[]=>some (.bool true)
   |_=>none)
noncomputable def L9:List KE->Nat->List V->Option V
 |[],_,_=>none
 |e::es,f,args=>YL (e.ask f args) (λv=>some v) (L9 es f args)
def isV(v:V):Option (V×Hp)->Bool
 |some (u,_)=>V.beq u v
 |_=>false
theorem LX{C:fu} (h:xd C) {m d n f:Nat} {args:List V} {v:V} (l:P0.globals.size<=n) (o:∃fn c,P0.funcs[f]? =some fn/\fn.body=some c) (hv:isV v (kh C m d f args {next:=n,tr:= .leaf})=true)
  (W:World) (p:Cd (λ_=>none) W) (gN:Array Value) (q:gM (λ_=>none) args gN.toList) :
  Calls P0 f gN W λe W'=>∃x,e = .returned x/\(v.flat=true->fM (λ_=>none) v x)/\Still W W':=by
 cases hr:kh C m d f args {next:=n,tr:= .leaf} with
 |none=>rw[hr]at hv;cases hv
 | some r=>
   obtain⟨u,h'⟩:=r;rw[hr]at hv;obtain rfl:u=v:=V.eq_of_beq _ _ hv;rcases IH h m d f args _ _ _ (λ_=>none) W gN hr (WR.start n l W p) q with⟨x,i,_⟩|⟨_,s⟩
   ·exfalso
    obtain ⟨fn,c,j,a⟩:=o;have b:=h.named f fn j;have:(callFunc f gN).run P0 W = .ok (.enter f gN) W:=by
      simp only[callFunc,qh,run_program,py,j,b,a,wCK,MR,if_false];rfl
    rw[this]at i;cases i
   ·refine Calls.mono s λe w' t=>?_
    obtain⟨w,x,rfl,k⟩:=t;exact⟨x,rfl,λg=>QA k.val g,k.frame.still zdD⟩
noncomputable def IE(C:fu) (m d n f:Nat):List (Nat×V)->Bool
 |[]=>true
 |x::l=>Bool.rec (motive:=λ_=>Bool) false (IE C m d n f l) (isV x.2 (kh C m d f [.int .i64 (.ofNat x.1)] {next:=n,tr:= .leaf}))
theorem Kr{C:fu} {m d n f:Nat}:∀(l:List (Nat×V)),IE C m d n f l=true->∀k s,T3 l k=some s->isV s (kh C m d f [.int .i64 (.ofNat k)] {next:=n,tr:= .leaf})=true
 |[],_,k,s,hk=>by cases hk
 | x ::l,h,k,s',hk=>by
   simp only[IE]at h;simp only[T3]at hk
   cases hb:isV x.2 (kh C m d f [.int .i64 (.ofNat x.1)] {next:=n,tr:= .leaf})with
   |false=>rw[hb]at h;cases h
   | true=>
     rw[hb]at h
     cases hx:Nat.beq x.1 k with
     | true=>
       rw[hx]at hk;cases hk;rw[<-vK hx]
       exact hb
     | false=>
       rw[hx]at hk;exact Kr l h k s' hk
inductive KOk (C:fu):KE->Prop where
 |names {m d n f l} (a:P0.globals.size<=n) (b:∃fn c,P0.funcs[f]? =some fn/\fn.body=some c) (h:IE C m d n f l=true):KOk C (.names f l)
 |yes {m d n f} (a:P0.globals.size<=n) (b:∃fn c,P0.funcs[f]? =some fn/\fn.body=some c) (h:isTrue (kh C m d f [] {next:=n,tr:= .leaf})=true):KOk C (.yes f)
theorem RL{r:Option (V×Hp)} (h:isTrue r=true):isV (.bool true) r=true:=by
 unfold isTrue at h;split at h
 ·rfl
 ·cases h
theorem KOk.calls{C:fu} (q:xd C) {e:KE} (c:KOk C e) {f:Nat} {args:List V} {v:V} (hv:e.ask f args=some v) (i:v.flat=true) (W:World) (r:Cd (λ_=>none) W) (gN:Array Value) (s:gM (λ_=>none) args gN.toList) :
  Calls P0 f gN W λe W'=>∃x,e = .returned x/\fM (λ_=>none) v x/\Still W W':=by
 cases c with
 | @names m d n g l j o h=>
   simp only[KE.ask,g0]at hv;obtain⟨a,hv⟩:=hv;obtain rfl:=vK a;split at hv
   ·rename_i k
    have t:=Kr l h k v hv;exact Calls.mono (LX q j o t W r gN s) λe W' ⟨x,c,p,b⟩=>⟨x,c,p i,b⟩
   ·cases hv
 | @yes m d n g j o h=>
   simp only[KE.ask,g0]at hv;obtain⟨a,hv⟩:=hv;obtain rfl:=vK a;split at hv
   ·cases hv
    exact Calls.mono (LX q j o (RL h) W r gN s) λe W' ⟨x,c,p,b⟩=>⟨x,c,p rfl,b⟩
   ·cases hv
noncomputable def fu.more(C:fu)(l:List KE):fu:=⟨C.start,C.ext,λf args h=>YL (L9 l f args) (λv=>some v) (C.K f args h)⟩
theorem Lz:∀(l:List KE) {f:Nat} {args:List V} {v:V},L9 l f args=some v->∃e∈l,e.ask f args=some v
 |[],_,_,_,h=>by cases h
 | e ::es,f,args,v,h=>by
   simp only[L9]at h
   cases hq:e.ask f args with
   |some u=>rw[hq]at h;exact⟨e,.head _,by rw[hq];exact h⟩
   | none=>
     rw[hq]at h;obtain⟨a,b,h'⟩:=Lz es h;exact⟨a,.tail _ b,h'⟩
theorem xd.more{C:fu} (a:xd C) {l:List KE} (j:∀e∈l,KOk C e):xd (C.more l) where
 Mf:=a.Mf
 start:=a.start
 mixed:=a.mixed
 named:=a.named
 ext:=a.ext
 known:=λf args v h b d c Δ W gN g i=>by
  simp only[fu.more]at b
  cases hq:L9 l f args with
  | some u=>
    rw[hq]at b;have:u=v:=by simpa[YL]using b
    subst this;obtain⟨e,k,m⟩:=Lz l hq
    exact(j e k).calls a m c W g.Ts.none gN i
  | none=>
    rw[hq]at b;exact a.known f args v h (by simpa[YL]using b) d c Δ W gN g i
def E1:Nat->Ext
 |89=> .countByte
 |96=> .indexByte
 |_=> .none
theorem V0:(P0.funcs.toList.all λfn=>!(fn.name == "runtime.NumGoroutine"))=true:=by kernel_rfl
theorem mixed:P0.follows .mixedOrders=true:=by kernel_rfl
theorem Wh:Nat.ble P0.globals.size 3=true:=by kernel_rfl
theorem zcq:P0.funcs[89]? =some Tryd.f89:=by unfold P0;exact Tryd.func89
theorem zdi:P0.funcs[96]? =some Tryd.f96:=by unfold P0;exact Tryd.func96
theorem zct(w:World):Cd (λ_=>none) w:=λg c h=>by simp[zc5]at h
noncomputable def C1:fu:=⟨SJ,E1,λ_ _ _=>none⟩
theorem facts:xd C1 where
 Mf:=λ_=>rfl
 start:=RQ
 known:=λ_ _ _ _ h=>nomatch h
 mixed:=mixed
 named:=λf fn a=>by
  have h:=MT.1 V0 fn (by rw[Array.mem_toList_iff];exact Array.mem_of_getElem? a);simpa using h
 ext:=λf fn a g Δ args v gN w hv b=>by
  by_cases c:f=89
  ·subst c;rw[zcq]at a;cases a;exact Vi zcq (by kernel_rfl) (by kernel_rfl) (by kernel_rfl) (by kernel_rfl) hv b
  ·by_cases d:f=96
   ·subst d;rw[zdi]at a;cases a;exact UN zdi (by kernel_rfl) (by kernel_rfl) (by kernel_rfl) (by kernel_rfl) hv b
   ·have e:C1.ext f = .none:=by
     show E1 f = .none;unfold E1;split
     ·exact absurd rfl c
     ·exact absurd rfl d
     ·rfl
    rw[e]at hv;simp[RN]at hv
