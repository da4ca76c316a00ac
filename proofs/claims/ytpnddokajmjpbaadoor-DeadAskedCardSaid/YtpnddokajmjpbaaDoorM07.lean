/- Parts. -/
import Derived.Test.YtpnddokajmjpbaaDoorM06
import Derived.KernelRfl
namespace Go.Proofs.YtpnddokajmjpbaaDoor.Hx
def Call.Le (c c':Call):Prop:=∀f a h r,c f a h=some r->c' f a h=some r
theorem Call.Le.refl (c:Call):c.Le c:=λ_ _ _ _ h=>h
section
variable{n:Nat}{c c':Call}(hc:c.Le c')
include hc
theorem zh {o:Oper} {t:Tm} {h:Hp} {r:V×Hp} (a:(opC o).f c t h=some r):(opC o).f c' t h=some r:=by
 unfold opC at a⊢;split
 ·rename_i b;rw[b]at a;exact a
 ·rename_i b;rw[b]at a;exact a
 ·rename_i h0 e;split at a
  ·rename_i b;exact absurd b h0
  ·rename_i b;exact absurd b e
  ·simp only[ei]at a⊢;obtain⟨x,g,d⟩:=a;refine⟨x,g,?_⟩
   cases x with
   |val v h'=>exact d
   |call f args=>exact hc _ _ _ _ d
theorem Ew {all:List Oper} {o:Oper} {e:SF} (k:∀t h r,e.f c t h=some r->e.f c' t h=some r) {t:Tm} {h:Hp} {r:Tm×Hp} (a:(stepC n all o e).f c t h=some r):(stepC n all o e).f c' t h=some r:=by
 unfold stepC at a⊢
 cases hd:dstC n o with
 |none=>rw[hd]at a;cases a
 | some d=>
   rw[hd]at a;simp only at a⊢
   cases hw:wantC n all o with
   | none=>
     rw[hw]at a;simp only at a⊢
     cases hq:deferC o with
     | some q=>
       rw[hq]at a;simp only[ei]at a⊢;obtain⟨x,j,i⟩:=a
       exact⟨x,j,k _ _ _ i⟩
     | none=>
       rw[hq]at a;simp only[ei]at a⊢;obtain⟨x,j,i⟩:=a
       exact⟨x,zh hc j,k _ _ _ i⟩
   | some g=>
     rw[hw]at a;simp only[ei]at a⊢;obtain⟨b,j,i⟩:=a;refine⟨b,j,?_⟩
     cases b with
     |false=>exact k _ _ _ i
     | true=>
       simp only[ei]at i⊢;obtain⟨x,l,m⟩:=i;exact⟨x,zh hc l,k _ _ _ m⟩
theorem uZ {all:List Oper}:∀(os:List Oper) {t:Tm} {h:Hp} {r:Tm×Hp},(regionC n all os).f c t h=some r->(regionC n all os).f c' t h=some r
 |[],_,_,_,hv=>hv
 |o::os,_,_,_,hv=>Ew hc (λ_ _ _ h=>uZ os h) hv
omit hc in
theorem EA {all:List Oper} {ws:List It} {a:It} {d:DF} {rest:LF} (hr:∀t h rs r,rest.f c t h rs=some r->rest.f c' t h rs=some r) {t:Tm} {h:Hp} {rs:List Rec} {r:Tm×Hp} (hv:(pureS n all ws a d rest).f c t h rs=some r) :
  (pureS n all ws a d rest).f c' t h rs=some r:=by
 unfold pureS at hv⊢;simp only[ei]at hv⊢;obtain⟨b,h1,h2⟩:=hv;refine⟨b,h1,?_⟩
 cases b with
 |false=>exact hr _ _ _ _ h2
 | true=>
   simp only[ei]at h2⊢;obtain⟨x,h3,h4⟩:=h2;exact⟨x,h3,hr _ _ _ _ h4⟩
omit hc in
theorem Eu {all:List Oper} {ws:List It} {a:It} {d:DF} {rest:LF} (hr:∀t h rs r,rest.f c t h rs=some r->rest.f c' t h rs=some r) {t:Tm} {h:Hp} {rs:List Rec} {r:Tm×Hp} (hv:(allocS n all ws a d rest).f c t h rs=some r) :
  (allocS n all ws a d rest).f c' t h rs=some r:=by
 unfold allocS at hv⊢;simp only[ei]at hv⊢;obtain⟨b,h1,h2⟩:=hv;refine⟨b,h1,?_⟩
 cases b with
 |false=>exact hr _ _ _ _ h2
 | true=>
   simp only[ei]at h2⊢;obtain⟨x,h3,h4⟩:=h2;exact⟨x,h3,hr _ _ _ _ h4⟩
theorem Dv {all:List Oper} {k:Nat} {a:It} {d:DF} {e:LF} (j:∀t h rs r,e.f c t h rs=some r->e.f c' t h rs=some r) {t:Tm} {h:Hp} {rs:List Rec} {r:Tm×Hp} (g:(writeS n all k a d e).f c t h rs=some r) :
  (writeS n all k a d e).f c' t h rs=some r:=by
 unfold writeS at g⊢;simp only[fm,ei]at g⊢;obtain⟨h0,b,l,i⟩:=g;refine⟨h0,b,l,?_⟩
 cases b with
 |false=>exact j _ _ _ _ i
 | true=>
   simp only[ei,fm]at i⊢;obtain⟨x,m,o,p⟩:=i;exact⟨x,zh hc m,o,j _ _ _ _ p⟩
theorem rY {all:List Oper} {ws:List It}:∀(l:List It) (k:Nat) {t:Tm} {h:Hp} {rs:List Rec} {r:Tm×Hp},(seqC n all ws l k).f c t h rs=some r->(seqC n all ws l k).f c' t h rs=some r
 |[],_,_,_,_,_,hv=>hv
 | a ::l,k,t,h,rs,r,hv=>by
   unfold seqC at hv⊢
   cases hd:dstC n a.o with
   |none=>rw[hd]at hv;cases hv
   | some d=>
     rw[hd]at hv;simp only at hv⊢;split
     ·rename_i b;rw[b]at hv;exact EA (λ_ _ _ _ h=>rY l _ h) hv
     ·rename_i b;rw[b]at hv;exact Eu (λ_ _ _ _ h=>rY l _ h) hv
     ·rename_i h0 e
      split at hv
      ·rename_i b;exact absurd b h0
      ·rename_i b;exact absurd b e
      ·exact Dv hc (λ_ _ _ _ h=>rY l _ h) hv
theorem Ey {all:List Oper} {t:Tm} {h:Hp} {r:Tm×Hp} (a:(drawC n all).f c t h=some r):(drawC n all).f c' t h=some r:=by
 unfold drawC at a⊢
 cases hb:drawOk (items all 0 []) (wsOf (items all 0 []))&&orderOk (items all 0 []) (wsOf (items all 0 [])) (order (items all 0 []) (wsOf (items all 0 [])) (wsOf (items all 0 [])) 0) 0 0 with
 |true=>rw[hb]at a;exact rY hc _ _ a
 | false=>
   rw[hb]at a;simp only at a⊢
   cases hf:freePair (items all 0 []) (wsOf (items all 0 []))with
   |none=>rw[hf]at a;cases a
   | some p=>
     rw[hf]at a
     cases hb2:drawOk2 (items all 0 [])&&orderOk (items all 0 []) (wsOf (items all 0 [])) (order (items all 0 []) (wsOf (items all 0 [])) (wsOf (items all 0 [])) 0) 0 0 with
     |false=>rw[hb2]at a;cases a
     | true=>
       rw[hb2]at a;simp only[ei,fm]at a⊢;obtain⟨x,b,d,e⟩:=a;exact⟨x,rY hc _ _ b,d,e⟩
theorem iq {m p:Nat} (d:m<=p):∀(k:Code) {t:Tm} {h:Hp} {r:X×Tm×Hp},(codeC n k).f c m t h=some r->(codeC n k).f c' p t h=some r
 | .skip,_,_,_,a=>a
 | .seq x y,t,h,r,a=>by
   simp only[codeC]at a⊢;rcases zu a with⟨z,g,l,o⟩|⟨l,o⟩
   ·rw[iq d x l];exact iq d y o
   ·rw[iq d x l]
    obtain⟨q,t',h'⟩:=r
    cases q with
    |normal=>exact absurd rfl o
    |exit id=>rfl
    |ret=>rfl
 | .cond e x y,t,h,r,a=>by
   simp only[codeC,ei]at a⊢;obtain⟨v,g,i⟩:=a;refine⟨v,g,?_⟩;split
   ·rename_i b
    cases b with
    |true=>exact iq d x i
    |false=>exact iq d y i
   ·rename_i s
    split at i
    ·rename_i b;exact absurd rfl (s b)
    ·exact i
 | .block id x,t,h,r,a=>by
   simp only[codeC]at a⊢
   cases hr:(codeC n x).f c m t h with
   |none=>rw[hr]at a;cases a
   |some r'=>rw[hr]at a;rw[iq d x hr];exact a
 | .loop x,t,h,r,a=>by
   simp only [codeC]at a⊢;have u:∀(k k':Nat) (t:Tm) (h:Hp),k<=k'->loopN (λt h=>(codeC n x).f c m t h) k t h=some r->loopN (λt h=>(codeC n x).f c' p t h) k' t h=some r:=by
     intro k
     induction k with
     |zero=>intro k' t h _ a;cases a
     | succ k A=>
       intro k' t h B a;obtain⟨k',rfl⟩:∃j,k' = j+1:=⟨k'-1,by omega⟩
       have w:seqK ((codeC n x).f c m t h) (loopN (λt h=>(codeC n x).f c m t h) k)=some r:=a;show seqK ((codeC n x).f c' p t h) (loopN (λt h=>(codeC n x).f c' p t h) k')=some r;rcases zu w with⟨z,g,l,o⟩|⟨l,o⟩
       ·rw[iq d x l];exact A k' z g (by omega) o
       ·rw[iq d x l]
        obtain⟨q,t',h'⟩:=r
        cases q with
        |normal=>exact absurd rfl o
        |exit id=>rfl
        |ret=>rfl
   exact u m p t h d a
 | .exit id,_,_,_,a=>a
 | .ret,_,_,_,a=>a
 | .region id ops false,t,h,r,a=>by
   simp only[codeC,ei]at a⊢;obtain⟨x,g,i⟩:=a
   exact⟨x,uZ hc _ g,i⟩
 | .region id ops true,t,h,r,a=>by
   simp only[codeC,ei]at a⊢;obtain⟨x,g,i⟩:=a
   exact⟨x,Ey hc g,i⟩
 | .rangeFunc ..,_,_,_,a=>by cases a
 | .scope _,_,_,_,a=>by cases a
 | .label _,_,_,_,a=>by cases a
 | .goto _,_,_,_,a=>by cases a
 | .refuse _,_,_,_,a=>by cases a
theorem Eq {C:Cfg} {m e:Nat} (g:m<=e) {f:Nat} {args:List V} {h:Hp} {r:V×Hp} (a:(dfuncC C f).f c m args h=some r):(dfuncC C f).f c' e args h=some r:=by
 unfold dfuncC at a⊢
 cases hf:P0.funcs[f]? with
 |none=>rw[hf]at a;cases a
 | some fn=>
   rw[hf]at a;simp only at a⊢
   cases hb:fn.body with
   |none=>rw[hb]at a;cases a
   | some k=>
     rw[hb]at a;simp only at a⊢
     cases hr:recOf k with
     | none=>
       rw[hr]at a;simp only[fm,ei]at a⊢;obtain⟨h0,x,b,d⟩:=a
       exact⟨h0,x,iq hc g k b,d⟩
     | some y=>
       rw[hr]at a;simp only[fm,ei]at a⊢;obtain⟨h0,i,x,b,d⟩:=a;exact⟨h0,i,x,iq hc g y.2 b,d⟩
theorem zD {C:Cfg} {m a:Nat} (b:m<=a):∀(l:List (Nat×List V)) {h h':Hp},runD C c m l h=some h'->runD C c' a l h=some h'
 |[],_,_,hv=>hv
 | x::l,_,_,hv=>by
   simp only[runD,ei]at hv⊢;obtain⟨r,d,e⟩:=hv;exact⟨r,Eq hc b d,zD b l e⟩
theorem EF {C:Cfg} {m j:Nat} (d:m<=j) {f:Nat} {args:List V} {h:Hp} {r:V×Hp} (a:(funcC C f).f c m args h=some r):(funcC C f).f c' j args h=some r:=by
 unfold funcC at a⊢
 cases hf:P0.funcs[f]? with
 |none=>rw[hf]at a;cases a
 | some fn=>
   rw[hf]at a;simp only at a⊢
   cases hb:fn.body with
   |none=>rw[hb]at a;exact a
   | some k=>
     rw[hb]at a;simp only at a⊢
     cases hk:C.K f args h with
     |some u=>rw[hk]at a;exact a
     | none=>
       rw[hk]at a;simp only[orB,fm,ei]at a⊢;obtain⟨h0,x,l,b⟩:=a;refine⟨h0,x,iq hc d k l,?_⟩;obtain⟨e,t,n⟩:=x
       cases e with
       |exit id=>exact b
       | normal=>
         simp only[ei]at b⊢;obtain⟨y,g,i⟩:=b
         exact⟨y,zD hc d _ g,i⟩
       | ret=>
         simp only[ei]at b⊢;obtain⟨y,g,i⟩:=b;exact⟨y,zD hc d _ g,i⟩
end
theorem qn {C:Cfg} {m b:Nat} (g:m<=b):∀{d c:Nat},d<=c->(callN C m d).Le (callN C b c)
 |0,_,_=>λ_ _ _ _ h=>(nomatch h)
 |d+1,0,h=>absurd h (by omega)
 | d+1,c+1,h=>λf a i r j=>by
   have e:(funcC C f).f (callN C m d) m a i=some r:=j;show(funcC C f).f (callN C b c) b a i=some r;exact EF (qn g (by omega)) g e
inductive KE where
 |names (f:Nat) (l:List (Nat×V))
 |yes (f:Nat)
noncomputable def lookN:List (Nat×V)->Nat->Option V
 |[],_=>none
 |x::l,n=>Bool.rec (motive:=λ_=>Option V) (lookN l n) (some x.2) (Nat.beq x.1 n)
noncomputable def KE.ask (e:KE) (f:Nat) (args:List V):Option V:=match e with
 | .names g l=>bB (Nat.beq f g) (match args with
   |[.int .i64 (.ofNat n)]=>lookN l n
   |_=>none)
 | .yes g=>bB (Nat.beq f g) (match args with
   |[]=>some (.bool true)
   |_=>none)
noncomputable def askAll:List KE->Nat->List V->Option V
 |[],_,_=>none
 |e::es,f,args=>orB (e.ask f args) (λv=>some v) (askAll es f args)
def isV (v:V):Option (V×Hp)->Bool
 |some (u,_)=>V.beq u v
 |_=>false
theorem Bx {C:Cfg} (i:Facts C) {m d n f:Nat} {args:List V} {v:V} (o:P0.globals.size<=n) (p:∃fn c,P0.funcs[f]? =some fn/\fn.body=some c) (a:isV v (callN C m d f args {next:=n,tr:= .leaf})=true)
  (W:World) (q:TabOk (λ_=>none) W) (args':Array Value) (s:VsRel (λ_=>none) args args'.toList) :
  Calls P0 f args' W λe W'=>∃x,e = .returned x/\(v.flat=true->VRel (λ_=>none) v x)/\Still W W':=by
 cases hr:callN C m d f args {next:=n,tr:= .leaf} with
 |none=>rw[hr]at a;cases a
 | some r=>
   obtain⟨u,h'⟩:=r;rw[hr]at a;obtain rfl:u=v:=V.eq_of_beq _ _ a;rcases zi i m d f args _ _ _ (λ_=>none) W args' hr (WR.start n o W q) s with⟨x,j,_⟩|⟨_,t⟩
   ·exfalso
    obtain ⟨fn,c,k,b⟩:=p;have g:=i.named f fn k;have:(callFunc f args').run P0 W = .ok (.enter f args') W:=by
      simp only[callFunc,wAP,run_program,wAH,k,g,b,wCG,wAo,if_false];rfl
    rw[this]at j;cases j
   ·refine Calls.mono t λe w' w=>?_
    obtain⟨y,x,rfl,l⟩:=w;exact⟨x,rfl,λh=>Ej l.val h,l.frame.still noRW⟩
noncomputable def namesOk (C:Cfg) (m d n f:Nat):List (Nat×V)->Bool
 |[]=>true
 |x::l=>Bool.rec (motive:=λ_=>Bool) false (namesOk C m d n f l) (isV x.2 (callN C m d f [.int .i64 (.ofNat x.1)] {next:=n,tr:= .leaf}))
theorem Ap {C:Cfg} {m d n f:Nat}:∀(l:List (Nat×V)),namesOk C m d n f l=true->∀k s,lookN l k=some s->isV s (callN C m d f [.int .i64 (.ofNat k)] {next:=n,tr:= .leaf})=true
 |[],_,k,s,hk=>by cases hk
 | x ::l,h,k,s',hk=>by
   simp only[namesOk]at h;simp only[lookN]at hk
   cases hb:isV x.2 (callN C m d f [.int .i64 (.ofNat x.1)] {next:=n,tr:= .leaf})with
   |false=>rw[hb]at h;cases h
   | true=>
     rw[hb]at h
     cases hx:Nat.beq x.1 k with
     | true=>
       rw[hx]at hk;cases hk;rw[<-wAG hx]
       exact hb
     | false=>
       rw[hx]at hk;exact Ap l h k s' hk
inductive KOk (C:Cfg):KE->Prop where
 |names {m d n f l} (a:P0.globals.size<=n) (b:∃fn c,P0.funcs[f]? =some fn/\fn.body=some c) (h:namesOk C m d n f l=true):KOk C (.names f l)
 |yes {m d n f} (a:P0.globals.size<=n) (b:∃fn c,P0.funcs[f]? =some fn/\fn.body=some c) (h:isTrue (callN C m d f [] {next:=n,tr:= .leaf})=true):KOk C (.yes f)
theorem Fd {r:Option (V×Hp)} (h:isTrue r=true):isV (.bool true) r=true:=by
 unfold isTrue at h;split at h
 ·rfl
 ·cases h
theorem KOk.calls {C:Cfg} (r:Facts C) {e:KE} (i:KOk C e) {f:Nat} {args:List V} {v:V} (a:e.ask f args=some v) (j:v.flat=true) (W:World) (s:TabOk (λ_=>none) W) (args':Array Value) (t:VsRel (λ_=>none) args args'.toList) :
  Calls P0 f args' W λe W'=>∃x,e = .returned x/\VRel (λ_=>none) v x/\Still W W':=by
 cases i with
 | @names m d n g l o p h=>
   simp only[KE.ask,fm]at a;obtain⟨b,a⟩:=a;obtain rfl:=wAG b;split at a
   ·rename_i k
    have u:=Ap l h k v a;exact Calls.mono (Bx r o p u W s args' t) λe W' ⟨x,i,q,c⟩=>⟨x,i,q j,c⟩
   ·cases a
 | @yes m d n g o p h=>
   simp only[KE.ask,fm]at a;obtain⟨b,a⟩:=a;obtain rfl:=wAG b;split at a
   ·cases a
    exact Calls.mono (Bx r o p (Fd h) W s args' t) λe W' ⟨x,i,q,c⟩=>⟨x,i,q rfl,c⟩
   ·cases a
noncomputable def Cfg.more (C:Cfg)(l:List KE):Cfg:=⟨C.start,C.ext,λf args h=>orB (askAll l f args) (λv=>some v) (C.K f args h)⟩
theorem BH:∀(l:List KE) {f:Nat} {args:List V} {v:V},askAll l f args=some v->∃e∈l,e.ask f args=some v
 |[],_,_,_,h=>by cases h
 | e ::es,f,args,v,h=>by
   simp only[askAll]at h
   cases hq:e.ask f args with
   |some u=>rw[hq]at h;exact⟨e,.head _,by rw[hq];exact h⟩
   | none=>
     rw[hq]at h;obtain⟨a,b,h'⟩:=BH es h;exact⟨a,.tail _ b,h'⟩
theorem Facts.more {C:Cfg} (a:Facts C) {l:List KE} (j:∀e∈l,KOk C e):Facts (C.more l) where
 startD:=a.startD
 start:=a.start
 mixed:=a.mixed
 named:=a.named
 ext:=a.ext
 known:=λf args v h b d c Δ W args' g i=>by
  simp only[Cfg.more]at b
  cases hq:askAll l f args with
  | some u=>
    rw[hq]at b;have:u=v:=by simpa[orB]using b
    subst this;obtain⟨e,k,m⟩:=BH l hq
    exact(j e k).calls a m c W g.tab.none args' i
  | none=>
    rw[hq]at b;exact a.known f args v h (by simpa[orB]using b) d c Δ W args' g i
def E1:Nat->Ext
 |120=> .countByte
 |127=> .indexByte
 |_=> .none
theorem namedAll:(P0.funcs.toList.all λfn=>!(fn.name == "runtime.NumGoroutine"))=true:=by kernel_rfl
theorem mixed:P0.follows .mixedOrders=true:=by kernel_rfl
theorem globs:Nat.ble P0.globals.size 3=true:=by kernel_rfl
theorem fn120:P0.funcs[120]? =some Tryd.f120:=by unfold P0;exact Tryd.func120
theorem fn127:P0.funcs[127]? =some Tryd.f127:=by unfold P0;exact Tryd.func127
theorem noTab (w:World):TabOk (λ_=>none) w:=λg c h=>by simp[tabs]at h
noncomputable def C1:Cfg:=⟨startT,E1,λ_ _ _=>none⟩
theorem facts:Facts C1 where
 startD:=λ_=>rfl
 start:=E7
 known:=λ_ _ _ _ h=>nomatch h
 mixed:=mixed
 named:=λf fn a=>by
  have h:=wAs.1 namedAll fn (by rw[Array.mem_toList_iff];exact Array.mem_of_getElem? a);simpa using h
 ext:=λf fn a i Δ args v args' w b c=>by
  by_cases d:f=120
  ·subst d;rw[fn120]at a;cases a;exact GR fn120 (by kernel_rfl) (by kernel_rfl) (by kernel_rfl) (by kernel_rfl) b c
  ·by_cases e:f=127
   ·subst e;rw[fn127]at a;cases a;exact GH fn127 (by kernel_rfl) (by kernel_rfl) (by kernel_rfl) (by kernel_rfl) b c
   ·have g:C1.ext f = .none:=by
     show E1 f = .none;unfold E1;split
     ·exact absurd rfl d
     ·exact absurd rfl e
     ·rfl
    rw[g]at b;simp[extF]at b
