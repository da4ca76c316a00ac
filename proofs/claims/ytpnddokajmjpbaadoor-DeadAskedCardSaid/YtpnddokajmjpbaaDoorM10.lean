/- Parts. -/
import Derived.Test.YtpnddokajmjpbaaDoorM09
namespace Go.Proofs.YtpnddokajmjpbaaDoor.Hx
abbrev XQ:=X->Rho->Hp->Prop
abbrev QP1:=V->Hp->Prop
abbrev QP2:=V->V->Hp->Prop
abbrev QP3:=V->V->V->Hp->Prop
abbrev QP4:=V->V->V->V->Hp->Prop
abbrev QP5:=V->V->V->V->V->Hp->Prop
abbrev QP6:=V->V->V->V->V->V->Hp->Prop
abbrev QP7:=V->V->V->V->V->V->V->Hp->Prop
abbrev QP8:=V->V->V->V->V->V->V->V->Hp->Prop
abbrev QP9:=V->V->V->V->V->V->V->V->V->Hp->Prop
abbrev QP10:=V->V->V->V->V->V->V->V->V->V->Hp->Prop
abbrev QP11:=V->V->V->V->V->V->V->V->V->V->V->Hp->Prop
abbrev QP12:=V->V->V->V->V->V->V->V->V->V->V->V->Hp->Prop
abbrev QP13:=V->V->V->V->V->V->V->V->V->V->V->V->V->Hp->Prop
abbrev QP14:=V->V->V->V->V->V->V->V->V->V->V->V->V->V->Hp->Prop
abbrev QP18:=V->V->V->V->V->V->V->V->V->V->V->V->V->V->V->V->V->V->Hp->Prop
def isVal (o:Oper):Bool:=match o.op with
 | .move x| .assign x=>noG x
 | .makeFunc _ _ _=>true
 | .makeInterface _ x=>noG x
 |_=>false
theorem GI {o:Oper} (h:isVal o=true):cls o=0:=by
 unfold isVal at h;unfold cls;split at h <;> simp_all
def opV (C:Cfg) (o:Oper) (K:V->Rho->Hp->Prop):Rho->Hp->Prop:=match isVal o with
 |true=>λρ h=>Option.rec (motive:=λ_=>Prop) False (λv=>K v ρ h) ((pureC o).f (.fn ρ []) h)
 |false=>opR C o K
theorem JH (C:Cfg) (o:Oper) (K:V->Rho->Hp->Prop):opV C o K=opR C o K:=by
 unfold opV
 cases hv:isVal o with
 |false=>rfl
 | true=>
   unfold opR;rw[GI hv];rfl
def stepV (C:Cfg) (n:Nat) (all:List Oper) (o:Oper) (K:Rho->Hp->Prop):Rho->Hp->Prop:=match deferC o with
 |some _=>λ_ _=>False
 | none=>match wantC n all o with
   |none=>opV C o (dstR n o K)
   |some g=>λρ h=>oP (g.f (.fn ρ [])) λb=>gdR C o b (dstR n o K) ρ h
noncomputable section
inductive Gs where
 |last (o:Oper) (d:Nat)
 |op (o:Oper) (d:Nat) (a:Gs)
 |nest (w:Bool) (d:Nat) (sub:Gs) (o:Oper) (b:Nat) (a:Gs)
 |nestLast (w:Bool) (d:Nat) (sub:Gs) (o:Oper) (b:Nat)
def Gs.dst:Gs->Nat
 | .last _ d=>d
 | .op _ _ r=>r.dst
 | .nest _ _ _ _ _ r=>r.dst
 | .nestLast _ _ _ _ a=>a
def Gs.ops:Gs->List Oper
 | .last o _=>[o]
 | .op o _ r=>o::r.ops
 | .nest _ _ s o _ r=>s.ops++o::r.ops
 | .nestLast _ _ s o _=>s.ops++[o]
def gA (w:Bool) (c:V) (x:Option V):Option V:=match w with
 |true=>pAnd c x
 |false=>pOr c x
def totV (b:Bool)(x:Option V):V:=Bool.rec (motive:=λ_=>V) V.undef (Option.rec (motive:=λ_=>V) V.undef (λv=>v) x) b
def gdT (w:Bool)(v:V):Bool:=Option.rec (motive:=λ_=>Bool) false (λb=>b) (pGd w v)
noncomputable def finG (g:Gs):Bool->Rho->Hp->Rho:=Gs.rec (motive:=λ_=>Bool->Rho->Hp->Rho)
 (λo d b ρ h=>rset ρ d (totV b ((pureC o).f (.fn ρ []) h)))
 (λo d _ c b ρ h=>c b (rset ρ d (totV b ((pureC o).f (.fn ρ []) h))) h)
 (λw d _ o e _ a c b ρ h=>c b (rset (a (gdT w (ρ d)) ρ h) e (totV b ((pureC o).f (.fn (a (gdT w (ρ d)) ρ h) []) h))) h)
 (λw d _ o e a b ρ h=>rset (a (gdT w (ρ d)) ρ h) e (totV b ((pureC o).f (.fn (a (gdT w (ρ d)) ρ h) []) h))) g
noncomputable def gE (g:Gs):Rho->Hp->Option V:=Gs.rec (motive:=λ_=>Rho->Hp->Option V)
 (λo _ ρ h=>(pureC o).f (.fn ρ []) h)
 (λo d _ b ρ h=>oB ((pureC o).f (.fn ρ []) h) λv=>b (rset ρ d v) h)
 (λw d sub _ c _ a b ρ h=>oB (gA w (ρ d) (a ρ h)) λv=>b (rset (finG sub (gdT w (ρ d)) ρ h) c v) h)
 (λw d _ _ _ a ρ h=>gA w (ρ d) (a ρ h)) g
def isTmp (x:Operand) (d:Nat):Bool:=match x with
 | .tmp i=>Nat.beq i d
 |_=>false
def isCB (x:Operand) (b:Bool):Bool:=match x with
 | .const v=>match ofVal 8 v with
   |some (.bool c)=>c == b
   |_=>false
 |_=>false
def pkOk (o:Oper) (w:Bool) (d x:Nat):Bool:=match o.op with
 | .pick c a b=>isTmp c d&&(match w with
   |true=>isTmp a x&&isCB b false
   |false=>isTmp b x&&isCB a true)
 |_=>false
def dOk (n:Nat) (o:Oper) (d:Nat):Bool:=match o.dst with
 |some a=>Nat.beq a d&&Nat.blt d n
 |none=>false
def gdOk (n:Nat) (all:List Oper) (o:Oper) (w:Bool) (d:Nat):Bool:=match o.guard with
 | some (j,w')=>(w' == w)&&(match all[j]? with
   |some a=>dOk n a d
   |none=>false)
 |none=>false
def opOk (n:Nat)(all:List Oper)(av:List Nat)(w:Bool)(d:Nat)(o:Oper)(a:Nat):Bool:=Nat.beq (cls o) 0&&gdOk n all o w d&&dOk n o a&&av.all (λi=>!(Nat.beq i a))
def chk (n:Nat) (all:List Oper):List Nat->Bool->Nat->List Nat->Gs->Bool
 |av,w,d,_,.last o a=>opOk n all av w d o a
 |av,w,d,ins,.op o a r=>opOk n all av w d o a&&chk n all av w d (a::ins) r
 |av,w,d,ins,.nest w' a s o b r=>ins.any (λi=>Nat.beq i a)&&chk n all (a::av) w' a [] s&&opOk n all av w d o b&&pkOk o w' a s.dst&&chk n all av w d (b::ins) r
 |av,w,d,ins,.nestLast w' a s o b=>ins.any (λi=>Nat.beq i a)&&chk n all (a::av) w' a [] s&&opOk n all av w d o b&&pkOk o w' a s.dst
def Ch (n:Nat) (all:List Oper) (h:Hp):List Oper->Rho->Rho->Prop
 |[],ρ,ρ'=>ρ' = ρ
 | o::os,ρ,ρ'=>cls o=0/\∃d v,o.dst=some d/\Nat.blt d n=true/\((wantC n all o=none/\(pureC o).f (.fn ρ []) h=some v)\/
   ∃g b,wantC n all o=some g/\g.f (.fn ρ [])=some b/\gV b ((pureC o).f (.fn ρ []) h)=some v)/\Ch n all h os (rset ρ d v) ρ'
theorem Ch.app {n:Nat} {all:List Oper} {h:Hp}:∀{os a:List Oper} {ρ e f:Rho},Ch n all h os ρ e->Ch n all h a e f->Ch n all h (os++a) ρ f
 |[],_,_,_,_,b,c=>by cases b;exact c
 |_::_,_,_,_,_,⟨hc,d,v,b,c,g,i⟩,j=>⟨hc,d,v,b,c,g,i.app j⟩
theorem AP (ρ:Rho)(d:Nat)(v:V):rset ρ d v d=v:=Gk ρ d v
theorem G3 {n:Nat} {all:List Oper} {o:Oper} {w:Bool} {d:Nat} (a:gdOk n all o w d=true):∃g,wantC n all o=some g/\∀ρ:Rho,g.f (.fn ρ [])=pGd w (ρ d):=by
 unfold gdOk at a;split at a
 ·rename_i j w' b;simp only[wAJ,wAt]at a;obtain⟨e,a⟩:=a;subst e;split at a
  ·rename_i l h;unfold dOk at a;split at a
   ·rename_i m i;simp only[wAJ]at a;obtain⟨c,k⟩:=a;have c:=wAG c;subst c;refine⟨_,by simp only[wantC,b,h,i,k];rfl,λρ=>rfl⟩
   ·exact absurd a (by decide)
  ·exact absurd a (by decide)
 ·exact absurd a (by decide)
theorem Fn {n:Nat} {all:List Oper} {av:List Nat} {w:Bool} {d:Nat} {o:Oper} {b:Nat} (c:opOk n all av w d o b=true) :
  cls o=0/\(∃g,wantC n all o=some g/\∀ρ:Rho,g.f (.fn ρ [])=pGd w (ρ d))/\o.dst=some b/\Nat.blt b n=true/\∀i∈av,i≠b:=by
 unfold opOk at c;simp only[wAJ]at c;obtain⟨⟨⟨h,j⟩,a⟩,k⟩:=c;refine⟨wAG h,G3 j,?_⟩;unfold dOk at a;split at a
 ·rename_i l m;simp only[wAJ]at a;have e:=wAG a.1;subst e;refine⟨m,a.2,λi hi e=>?_⟩;have:=wAs.1 k i hi;rw[e,wBG]at this;exact absurd this (by decide)
 ·exact absurd a (by decide)
theorem Bh {x:Operand} {d:Nat} (h:isTmp x d=true):x = .tmp d:=by
 unfold isTmp at h;split at h
 ·rw[wAG h]
 ·exact absurd h (by decide)
theorem FB {x:Operand} {b:Bool} (a:isCB x b=true) (t:Tm) (h:Hp):(evO x).f t h=some (.bool b):=by
 unfold isCB at a;split at a
 ·rename_i v;split at a
  ·rename_i c hc;have e:c=b:=by simpa using a
   subst e;show(evN (.const v)).f t=_;simp only[evN,hc]
  ·exact absurd a (by decide)
 ·exact absurd a (by decide)
theorem FA {o:Oper} {w:Bool} {d x:Nat} (g:pkOk o w d x=true) {ρ:Rho} {h:Hp} {c:Bool} (hc:ρ d = .bool c):(pureC o).f (.fn ρ []) h=some (match w,c with
  |true,true=>ρ x
  |true,false=> .bool false
  |false,false=>ρ x
  |false,true=> .bool true)/\cls o=0:=by
 unfold pkOk at g;split at g
 ·rename_i c' a b i;simp only[wAJ]at g;obtain⟨k,e⟩:=g;have l:=Bh k;subst l;refine⟨?_,by unfold cls;rw[i]⟩;have e0:(evO (.tmp d)).f (.fn ρ []) h=some (.bool c):=by show some (ρ d)=_;rw[hc]
  unfold pureC;rw[i];simp only[hpick,e0,oB]
  cases w with
  | true=>
    simp only[wAJ]at e;have j:=Bh e.1;subst j
    cases c with
    |true=>rfl
    |false=>exact FB e.2 _ _
  | false=>
    simp only[wAJ]at e;have j:=Bh e.1;subst j
    cases c with
    |true=>exact FB e.2 _ _
    |false=>rfl
 ·exact absurd g (by decide)
theorem FI {w:Bool} {c:V} {x:Option V} {v:V} (a:gA w c x=some v):∃b,c = .bool b/\pGd w c=some (b == w)/\((b=w/\x=some v)\/(b≠w/\v = .bool (!w))):=by
 unfold gA at a
 cases w with
 | true=>
   simp only[pAnd]at a;split at a
   ·cases a;exact⟨false,rfl,rfl,.inr ⟨by decide,rfl⟩⟩
   ·exact⟨true,rfl,rfl,.inl ⟨rfl,a⟩⟩
   ·cases a
 | false=>
   simp only[pOr]at a;split at a
   ·cases a;exact⟨true,rfl,rfl,.inr ⟨by decide,rfl⟩⟩
   ·exact⟨false,rfl,rfl,.inl ⟨rfl,a⟩⟩
   ·cases a
theorem DH (ρ:Rho){d i:Nat}(v:V)(h:i≠d):rset ρ d v i=ρ i:=I0 ρ v h
theorem Ch.one {n:Nat} {all:List Oper} {av:List Nat} {w:Bool} {d:Nat} {o:Oper} {a:Nat} (c:opOk n all av w d o a=true) {ρ:Rho} {h:Hp} {b:Bool} (e:pGd w (ρ d)=some b) {v:V}
  (i:gV b ((pureC o).f (.fn ρ []) h)=some v):Ch n all h [o] ρ (rset ρ a v):=by
 obtain⟨j,⟨g,k,l⟩,m,p,q⟩:=Fn c;exact⟨j,a,v,m,p,.inr ⟨g,b,k,by rw[l,e],i⟩,rfl⟩
theorem AN {b:Bool} {x:Option V} {v:V} (h:gV b x=some v):totV b x=v:=by
 cases b with
 |true=>have h':x=some v:=h;subst h';rfl
 |false=>cases h;rfl
def ChD (n:Nat) (all:List Oper) (av:List Nat) (os:List Oper) (b:Bool) (ρ a:Rho) (h:Hp) (d:Nat) (x:V):Prop:=
 Ch n all h os ρ a/\a d=x/\(∀i∈av,a i=ρ i)/\(b=false->∀i,ρ i = .undef->a i = .undef)
theorem ChD.one {n:Nat} {all:List Oper} {av:List Nat} {w:Bool} {d:Nat} {o:Oper} {a:Nat} (c:opOk n all av w d o a=true) {ρ:Rho} {h:Hp} {b:Bool} (j:pGd w (ρ d)=some b) {v:V}
  (g:gV b ((pureC o).f (.fn ρ []) h)=some v):ChD n all av [o] b ρ (rset ρ a v) h a v:=by
 obtain⟨_,_,_,_,k⟩:=Fn c;refine⟨Ch.one c j g,AP _ _ _,λi hi=>DH _ _ (k i hi),λe i hi=>?_⟩;subst e;cases g;by_cases e:i=a
 ·subst e;exact AP _ _ _
 ·rw[DH _ _ e];exact hi
theorem ChD.trans {n:Nat} {all:List Oper} {av:List Nat} {os a:List Oper} {b:Bool} {ρ g j:Rho} {h:Hp} {d k:Nat} {x l:V} (f:ChD n all av os b ρ g h d x) (c:ChD n all av a b g j h k l):ChD n all av (os++a) b ρ j h k l:=
 ⟨f.1.app c.1,c.2.1,λi hi=>(c.2.2.1 i hi).trans (f.2.2.1 i hi),λe i hi=>c.2.2.2 e i (f.2.2.2 e i hi)⟩
theorem Gx {n:Nat} {all:List Oper}:∀(g:Gs) {av:List Nat} {w:Bool} {d:Nat} {k:List Nat},chk n all av w d k g=true->d∈av->∀{ρ:Rho} {h:Hp} {b:Bool},pGd w (ρ d)=some b->
  (b=false->∀i∈k,ρ i = .undef)->∀{x:V},gV b (gE g ρ h)=some x->ChD n all av g.ops b ρ (finG g b ρ h) h g.dst x:=by
 have nest:∀(s:Gs),(∀{av:List Nat} {w:Bool} {d:Nat} {k:List Nat},chk n all av w d k s=true->d∈av->∀{ρ:Rho} {h:Hp} {b:Bool},pGd w (ρ d)=some b->
    (b=false->∀i∈k,ρ i = .undef)->∀{x:V},gV b (gE s ρ h)=some x->ChD n all av s.ops b ρ (finG s b ρ h) h s.dst x)->
   ∀{av:List Nat} {w w':Bool} {d l z:Nat} {k:List Nat} {o:Oper},k.any (λi=>Nat.beq i l)=true->chk n all (l::av) w' l [] s=true->opOk n all av w d o z=true->pkOk o w' l s.dst=true->d∈av->
   ∀{ρ:Rho} {h:Hp} {b:Bool},pGd w (ρ d)=some b->(b=false->∀i∈k,ρ i = .undef)->∀{v:V},gV b (gA w' (ρ l) (gE s ρ h))=some v->
   gV b ((pureC o).f (.fn (finG s (gdT w' (ρ l)) ρ h) []) h)=some v/\ChD n all av (s.ops++[o]) b ρ (rset (finG s (gdT w' (ρ l)) ρ h) z v) h z v:=by
  intro s J av w w' d l z k o O hc ho hp p ρ h b q hi v A;obtain⟨i,P,Q⟩:=List.any_eq_true.1 O;have e:=wAG Q;subst e
  cases b with
  | true=>
    obtain⟨c,R,L,e3⟩:=FI (show gA w' (ρ i) (gE s ρ h)=some v from A);have S:gdT w' (ρ i)=(c == w'):=by unfold gdT;rw[L]
    rw[S];obtain⟨y,hy⟩:∃y,gV (c == w') (gE s ρ h)=some y/\(c=w'->y=v):=by
      rcases e3 with⟨C,M⟩|⟨C,M⟩
      ·subst C;rw[beq_self_eq_true];exact⟨v,M,λ_=>rfl⟩
      ·have:(c == w')=false:=by simp[C]
       rw[this];exact⟨.undef,rfl,λe=>absurd e C⟩
    obtain⟨T,k2,K,k4⟩:=J hc (wA9 ..) L (λ_ j t=>nomatch t) hy.1;have U:finG s (c == w') ρ h i = .bool c:=by rw[K i (wA9 ..)];exact R
    have W:=(FA hp (h:=h) U).1;have D:(pureC o).f (.fn (finG s (c == w') ρ h) []) h=some v:=by
      rw[W,k2];rcases e3 with⟨C,M⟩|⟨C,M⟩
      ·subst C;rw[hy.2 rfl];cases c <;> rfl
      ·subst M;cases c <;> cases w' <;> first|rfl|exact absurd rfl C
    refine⟨D,?_⟩;have a:=ChD.one ho (ρ:=finG s (c == w') ρ h) (h:=h) (b:=true) (by rw[K d (wA0 _ p)];exact q) (v:=v) D
    refine⟨T.app a.1,a.2.1,λj t=>(a.2.2.1 j t).trans (K j (wA0 _ t)),λe=>nomatch e⟩
  | false=>
    have R:ρ i = .undef:=hi rfl i P;have L:pGd w' (ρ i)=some false:=by rw[R];rfl
    have S:gdT w' (ρ i)=false:=by unfold gdT;rw[L]
    rw[S];cases A;obtain⟨T,k2,K,k4⟩:=J hc (wA9 ..) L (λ_ j t=>nomatch t) (x:= .undef) rfl;refine⟨rfl,?_⟩;have a:=ChD.one ho (ρ:=finG s false ρ h) (h:=h) (b:=false) (by rw[K d (wA0 _ p)];exact q) (v:= .undef) rfl;exact⟨T.app a.1,a.2.1,λj t=>(a.2.2.1 j t).trans (K j (wA0 _ t)),λe j t=>a.2.2.2 e j (k4 rfl j t)⟩
 intro g
 induction g with
 | last o l=>
   intro av w d k u p ρ h b q hi x B;have m:gV b ((pureC o).f (.fn ρ []) h)=some x:=B;show ChD n all av [o] b ρ (rset ρ l (totV b ((pureC o).f (.fn ρ []) h))) h l x;rw[AN m]
   exact ChD.one u q m
 | op o l r J=>
   intro av w d k u p ρ h b q hi x B;simp only[chk,wAJ]at u;obtain⟨v,A,m⟩:∃v,gV b ((pureC o).f (.fn ρ []) h)=some v/\gV b (gE r (rset ρ l v) h)=some x:=by
     cases b with
     | true=>
       obtain⟨v,E,F⟩:=ei.1 (show oB ((pureC o).f (.fn ρ []) h) _=some x from B)
       exact⟨v,E,F⟩
     |false=>cases B;exact⟨.undef,rfl,rfl⟩
   have a:=ChD.one u.1 q A;show ChD n all av ([o]++r.ops) b ρ (finG r b (rset ρ l (totV b ((pureC o).f (.fn ρ []) h))) h) h r.dst x;rw[AN A];refine a.trans (J u.2 p (by rw[a.2.2.1 d p];exact q) ?_ m);intro e i G;rcases wAr.1 G with H|H
   ·subst H;subst e;cases A;exact AP _ _ _
   ·exact a.2.2.2 e i (hi e i H)
 | nest w' l s o z r I J=>
   intro av w d k u p ρ h b q hi x B;simp only[chk,wAJ]at u;obtain⟨⟨⟨⟨E,F⟩,X⟩,Y⟩,h5⟩:=u;obtain⟨v,A,m⟩:∃v,gV b (gA w' (ρ l) (gE s ρ h))=some v/\gV b (gE r (rset (finG s (gdT w' (ρ l)) ρ h) z v) h)=some x:=by
     cases b with
     | true=>
       obtain⟨v,E,F⟩:=ei.1 (show oB (gA w' (ρ l) (gE s ρ h)) _=some x from B)
       exact⟨v,E,F⟩
     |false=>cases B;exact⟨.undef,rfl,rfl⟩
   obtain⟨Z,N⟩:=nest s I E F X Y p q hi A;show ChD n all av (s.ops++([o]++r.ops)) b ρ (finG r b (rset (finG s (gdT w' (ρ l)) ρ h) z (totV b ((pureC o).f (.fn (finG s (gdT w' (ρ l)) ρ h) []) h))) h) h r.dst x;rw[AN Z,<-wAU];refine N.trans (J h5 p (by rw[N.2.2.1 d p];exact q) ?_ m);intro e i G;rcases wAr.1 G with H|H
   ·subst H;subst e;cases A;exact AP _ _ _
   ·exact N.2.2.2 e i (hi e i H)
 | nestLast w' l s o z I=>
   intro av w d k u p ρ h b q hi x B;simp only[chk,wAJ]at u;obtain⟨⟨⟨E,F⟩,X⟩,Y⟩:=u;obtain⟨Z,N⟩:=nest s I E F X Y p q hi (show gV b (gA w' (ρ l) (gE s ρ h))=some x from B);show ChD n all av (s.ops++[o]) b ρ (rset (finG s (gdT w' (ρ l)) ρ h) z (totV b ((pureC o).f (.fn (finG s (gdT w' (ρ l)) ρ h) []) h))) h z x;rw[AN Z];exact N
inductive Git where
 |op (o:Oper) (d:Nat)
 |nest (w:Bool) (d:Nat) (sub:Gs) (o:Oper) (a:Nat)
def Git.dst:Git->Nat
 | .op _ d=>d
 | .nest _ _ _ _ a=>a
def Git.ops:Git->List Oper
 | .op o _=>[o]
 | .nest _ _ s o _=>s.ops++[o]
def Git.one:Git->Gs
 | .op o d=> .last o d
 | .nest w d s o a=> .nestLast w d s o a
def Git.cons (r:Gs):Git->Gs
 | .op o d=> .op o d r
 | .nest w d s o a=> .nest w d s o a r
def gOfV (all:List Oper) (o:Oper):Option (Bool×Nat):=match o.guard with
 | some (j,w)=>match all[j]? with
   | some a=>match a.dst with
     |some d=>some (w,d)
     |none=>none
   |none=>none
 |none=>none
def gItemV (n:Nat) (all:List Oper) (gpV:Bool->Nat->List Nat->List Oper->Option (Gs×List Oper)) (w:Bool) (d:Nat) (a:List Nat) (os:List Oper):Option (Git×List Oper):=match os with
  |[]=>none
  | o ::os'=>match gdOk n all o w d&&Nat.beq (cls o) 0,o.dst with
    |true,some d'=>some (.op o d',os')
    | _,_ => match gOfV all o with
      |none=>none
      | some (w',d')=>match a.any (λi=>Nat.beq i d')with
        |false=>none
        | true=>match gpV w' d' [] (o::os')with
          | some (s,p::os'')=>match gdOk n all p w d&&pkOk p w' d' s.dst,p.dst with
            |true,some dp=>some (.nest w' d' s p dp,os'')
            |_,_=>none
          |_=>none
noncomputable def gpV (n:Nat) (all:List Oper) (fuel:Nat):Bool->Nat->List Nat->List Oper->Option (Gs×List Oper):=
 Nat.rec (motive:=λ_=>Bool->Nat->List Nat->List Oper->Option (Gs×List Oper)) (λ_ _ _ _=>none) (λ_ b w d a os=>match gItemV n all b w d a os with
  |none=>none
  | some (it,os')=>match b w d (it.dst::a) os' with
    |some (g,r)=>some (it.cons g,r)
    |none=>some (it.one,os')) fuel
theorem E9 {n:Nat} {all:List Oper} {gpV:Bool->Nat->List Nat->List Oper->Option (Gs×List Oper)} (b:∀w d a os g r,gpV w d a os=some (g,r)->os=g.ops++r) {w:Bool} {d:Nat} {a:List Nat} {os:List Oper} {it:Git} {r:List Oper}
  (h:gItemV n all gpV w d a os=some (it,r)):os=it.ops++r:=by
 unfold gItemV at h;split at h
 ·cases h
 ·split at h
  ·cases h;rfl
  ·split at h
   ·cases h
   ·split at h
    ·cases h
    ·split at h
     ·rename_i hq;split at h
      ·cases h;have:=b _ _ _ _ _ _ hq;simp only[Git.ops,wAU,wBC,wAl];exact this
      ·cases h
     ·cases h
theorem Df {n:Nat} {all:List Oper}:∀(fuel:Nat) (w:Bool) (d:Nat) (a:List Nat) (os:List Oper) (g:Gs) (r:List Oper),gpV n all fuel w d a os=some (g,r)->os=g.ops++r
 |0,_,_,_,_,_,_,h=>by cases h
 | fuel+1,w,d,a,os,g,r,h=>by
   have h':(match gItemV n all (gpV n all fuel) w d a os with
     |none=>none
     | some (it,b)=>match gpV n all fuel w d (it.dst::a) b with
       |some (g,r)=>some (it.cons g,r)
       |none=>some (it.one,b))=some (g,r):=h
   split at h'
   ·cases h'
   ·rename_i it b c
    have f:=E9 (λw d a os g r e=>Df fuel w d a os g r e) c;split at h'
    ·rename_i j r' e
     cases h';have i:=Df fuel _ _ _ _ _ _ e;rw[f,i];cases it <;> simp[Git.ops,Git.cons,Gs.ops]
    ·cases h'
     rw[f];cases it <;> simp[Git.ops,Git.one,Gs.ops]
noncomputable def grpV (n:Nat) (all:List Oper) (os:List Oper):Option (Bool×Nat×Gs×Nat):=match os with
 |[]=>none
 | o ::_ => match o.guard with
   |none=>none
   | some (j,w)=>match all[j]? with
     |none=>none
     | some a=>match a.guard,a.dst,Nat.beq (cls o) 0 with
       | none,some d,true=>match gpV n all 60 w d [] os with
         | some (g,p::_)=>match p.guard,p.dst with
           | none,some dp=>match pkOk p w d g.dst&&Nat.blt dp n&&chk n all [d] w d [] g with
             |true=>some (w,d,g,dp)
             |false=>none
           |_,_=>none
         |_=>none
       |_,_,_=>none
theorem IN {n:Nat} {all os:List Oper} {w:Bool} {d:Nat} {g:Gs} {b:Nat} (h:grpV n all os=some (w,d,g,b)):∃p r,os=g.ops++p::r/\p.guard=none/\p.dst=some b/\pkOk p w d g.dst=true/\Nat.blt b n=true/\chk n all [d] w d [] g=true:=by
 unfold grpV at h;split at h
 ·cases h
 ·split at h
  ·cases h
  ·split at h
   ·cases h
   ·split at h
    ·split at h
     ·rename_i c;split at h
      ·rename_i e f;split at h
       ·rename_i a;cases h;simp only[wAJ]at a;exact⟨_,_,Df _ _ _ _ _ _ _ c,e,f,a.1.1,a.1.2,a.2⟩
       ·cases h
      ·cases h
     ·cases h
    ·cases h
theorem xJ {n:Nat} {o:Oper} {K b:Rho->Hp->Prop} (c:∀ρ h,K ρ h->b ρ h) {v:V} {ρ:Rho} {h:Hp} (a:dstR n o K v ρ h):dstR n o b v ρ h:=by
 unfold dstR at a⊢
 cases ho:o.dst with
 |none=>rw[ho]at a;exact c _ _ a
 | some d=>
   rw[ho]at a;simp only at a⊢
   cases hb:Nat.blt d n with
   |true=>rw[hb]at a;exact c _ _ a
   |false=>rw[hb]at a;exact a.elim
theorem ku{α:Type}{x:Option α}{k k':α->Prop}(h:oP x k)(f:∀a,k a->k' a):oP x k':=oM h λa _ H=>f a H
theorem Ia {C:Cfg} {o:Oper} {K e:V->Rho->Hp->Prop} (d:∀v ρ h,K v ρ h->e v ρ h) {ρ:Rho} {h:Hp} (b:opR C o K ρ h):opR C o e ρ h:=by
 unfold opR at b⊢;generalize cls o=c at b⊢;rcases c with _|_|c
 ·exact ku b λv H=>d _ _ _ H
 ·exact ku b λv H=>d _ _ _ H
 ·show wrR C o e ρ h;have a:wrR C o K ρ h:=b;unfold wrR at a⊢;cases hi:isCall o
  all_goals rw[hi]at a
  ·exact ku a λx H=>d _ _ _ H
  ·exact ku a λx H=>H.mono λv h' H=>d _ _ _ H
theorem HC {C:Cfg} {o:Oper} {b:Bool} {K e:V->Rho->Hp->Prop} (d:∀v ρ h,K v ρ h->e v ρ h) {ρ:Rho} {h:Hp} (a:gdR C o b K ρ h):gdR C o b e ρ h:=by
 unfold gdR at a⊢;generalize cls o=c at a⊢;rcases c with _|_|c
 ·exact ku a λv H=>d _ _ _ H
 ·exact ku a λv H=>d _ _ _ H
 ·simp only at a⊢;cases hi:isCall o
  all_goals rw[hi]at a
  ·exact ku a λx H=>d _ _ _ H
  ·refine ku a λx H=>?_
   cases x with
   |none=>exact d _ _ _ H
   |some y=>exact cP.mono H λv h' H=>d _ _ _ H
theorem Fc {C:Cfg} {n:Nat} {all:List Oper} {o:Oper} {K c:Rho->Hp->Prop} (d:∀ρ h,K ρ h->c ρ h) {ρ:Rho} {h:Hp} (a:stepR C n all o K ρ h):stepR C n all o c ρ h:=by
 unfold stepR at a⊢
 cases hd:deferC o with
 |some q=>rw[hd]at a;exact a.elim
 | none=>
   rw[hd]at a;simp only at a⊢
   cases hw:wantC n all o with
   |none=>rw[hw]at a;exact Ia (λv ρ h H=>xJ d H) a
   |some g=>rw[hw]at a;exact ku a λb H=>HC (λv ρ h H=>xJ d H) H
theorem G5 (C:Cfg) (n:Nat) (all:List Oper) (o:Oper) (K:Rho->Hp->Prop):stepV C n all o K=stepR C n all o K:=by
 unfold stepV stepR;simp only[JH];rfl
theorem z7 {o:Oper} (h:cls o=0):deferC o=none:=by
 unfold deferC;unfold cls at h;split
 ·rename_i c hc;rw[hc]at h;cases h
 ·rfl
theorem Ch.regR {C:Cfg} {n:Nat} {all:List Oper} {h:Hp} {K:Rho->Hp->Prop} {a:List Oper}:∀{os:List Oper} {ρ c:Rho},Ch n all h os ρ c->regR C n all K a c h->regR C n all K (os++a) ρ h
 |[],_,_,hc,hk=>by cases hc;exact hk
 | o ::os,ρ,c,⟨h0,d,v,j,k,l,m⟩,hk=>by
   have p:=m.regR (C:=C) (K:=K) hk;have i:dstR n o (Hx.regR C n all K (os++a)) v ρ h:=by unfold dstR;rw[j];simp only[k];exact p
   show stepR C n all o (Hx.regR C n all K (os++a)) ρ h;unfold stepR;rw[z7 h0];simp only;rcases l with⟨e,f⟩|⟨g,b,e,f,q⟩
   ·rw[e]
    simp only[opR,h0];exact d9 f i
   ·rw[e]
    simp only[gdR,h0];exact d9 f (d9 q i)
noncomputable def regV (C:Cfg) (n:Nat) (all:List Oper) (K:Rho->Hp->Prop) (os:List Oper):Nat->Rho->Hp->Prop:=
 List.rec (motive:=λ_=>Nat->Rho->Hp->Prop) (λ_=>K) (λo os a b=>Nat.rec (motive:=λ_=>Rho->Hp->Prop)
  (match grpV n all (o::os)with
   |some (w,d,g,dp)=>λρ h=>oP (gA w (ρ d) (gE g ρ h)) λv=>a g.ops.length (rset (finG g (gdT w (ρ d)) ρ h) dp v) h
   |none=>stepV C n all o (a 0)) (λk _=>a k) b) os
theorem yT {C:Cfg} {n:Nat} {all:List Oper} {K:Rho->Hp->Prop}:∀(os:List Oper) (k:Nat) {ρ:Rho} {h:Hp},regV C n all K os k ρ h->regR C n all K (os.drop k) ρ h
 |[],k,ρ,h,hk=>by rw[List.drop_nil];exact hk
 |o::os,k+1,ρ,h,hk=>yT os k hk
 | o ::os,0,ρ,h,hk=>by
   have a:(match grpV n all (o::os)with
     |some (w,d,g,q)=>λ(ρ:Rho) (h:Hp)=>oP (gA w (ρ d) (gE g ρ h)) λv=>regV C n all K os g.ops.length (rset (finG g (gdT w (ρ d)) ρ h) q v) h
     |none=>stepV C n all o (regV C n all K os 0):Rho->Hp->Prop) ρ h:=hk
   show regR C n all K (o::os) ρ h
   cases hg:grpV n all (o::os)with
   | some x=>
     obtain⟨w,d,g,q⟩:=x;rw[hg]at a;simp only at a;obtain⟨p,r,u,E,F,b,i,G⟩:=IN hg;obtain⟨v,H,z⟩:=gz.1 a;obtain⟨c,I,c2,A⟩:=FI H;have J:gdT w (ρ d)=(c == w):=by unfold gdT;rw[c2]
     rw[J]at z;obtain⟨y,B⟩:∃y,gV (c == w) (gE g ρ h)=some y/\(c=w->y=v):=by
       rcases A with⟨b,i⟩|⟨b,i⟩
       ·subst b;rw[beq_self_eq_true];exact⟨v,i,λ_=>rfl⟩
       ·have:(c == w)=false:=by simp[b]
        rw[this];exact⟨.undef,rfl,λe=>absurd e b⟩
     obtain⟨L,M,N,R⟩:=Gx g G (wA9 ..) c2 (λ_ j O=>nomatch O) B.1;have s:finG g (c == w) ρ h d = .bool c:=by rw[N d (wA9 ..)];exact I
     have l:=FA b (h:=h) s;have m:(pureC p).f (.fn (finG g (c == w) ρ h) []) h=some v:=by
       rw[l.1,M];rcases A with⟨b,i⟩|⟨b,i⟩
       ·subst b;rw[B.2 rfl];cases c <;> rfl
       ·subst i;cases c <;> cases w <;> first|rfl|exact absurd rfl b
     have t:Ch n all h [p] (finG g (c == w) ρ h) (rset (finG g (c == w) ρ h) q v):=⟨l.2,q,v,F,i,.inl ⟨by unfold wantC;rw[E],m⟩,rfl⟩
     have hlen:os.drop g.ops.length=r:=by
       have P:(o::os).drop (g.ops.length+1)=r:=by rw[u,List.append_cons];exact List.drop_left' (by simp)
       exact P
     have D:=yT os _ z;rw[hlen]at D;rw[u,List.append_cons]
     exact(L.app t).regR D
   | none=>
     rw[hg]at a;simp only[G5]at a;exact Fc (λρ h Q=>by have:=yT os 0 Q;exact this) a
def hfree (o:Oper):Bool:=match o.op with
 | .move x| .assign x| .nilCheck x| .fieldAddr _ x _| .field _ x _| .unOp _ _ x| .extract x _=>noG x
 | .pick c a b=>noG c&&noG a&&noG b
 | .binOp _ _ x y _=>noG x&&noG y
 | .indexAddr _ x i| .index _ x i=>noG x&&noG i
 | .build _ _| .makeFunc _ _ _=>true
 | .makeInterface _ x=>noG x
 | .call c=>match c.callee,c.args.toList,c.argTypes.toList with
   | .builtin .len,[x],ty::_=>match P0.underlying ty with
     |some (.slice _)=>noG x
     |_=>false
   |_,_,_=>false
 |_=>false
theorem HR {o:Oper} (a:hfree o=true) (t:Tm) (h h':Hp):(pureC o).f t h=(pureC o).f t h':=by
 unfold hfree at a;unfold pureC;split at a
 all_goals rename_i b
 all_goals try rw[b]
 all_goals try simp only[wAJ]at a
 ·exact fJ a t h h'
 ·exact fJ a t h h'
 ·simp only[hnilCheck,fJ a t h h']
 ·simp only[hfieldAddr];split <;> (try split) <;> simp only[fJ a t h h']
 ·simp only[hfield];split <;> simp only[fJ a t h h']
 ·simp only[fJ a t h h']
 ·simp only[hextract,fJ a t h h']
 ·simp only[hpick,fJ a.1.1 t h h',fJ a.1.2 t h h',fJ a.2 t h h']
 ·simp only[fJ a.1 t h h',fJ a.2 t h h']
 ·simp only[hindexAddr];split <;> (try split) <;> simp only[fJ a.1 t h h',fJ a.2 t h h']
 ·simp only[hindex];split <;> (try split) <;> simp only[fJ a.1 t h h',fJ a.2 t h h']
 ·simp only[hbuild];repeat' split
  all_goals rfl
 ·split <;> first|rfl|(rename_i c;cases c)
 ·dsimp only;split <;> first|rfl|simp only[fJ a t h h']
 ·split at a
  ·rename_i d e g;split at a
   ·rename_i i;simp only[d,e,g,hlen,i,fJ a t h h']
   ·exact absurd a (by decide)
  ·exact absurd a (by decide)
 ·exact absurd a (by decide)
abbrev RE:=Bool×Rec×Bool×Bool
def stabV (k:Nat) (h:Hp) (rs:List RE) (K:Prop):Prop:=
 List.rec (motive:=λ_=>Prop) K (λr _ a=>Bool.rec (motive:=λ_=>Prop)
  (Option.rec (motive:=λ_=>Prop) (Bool.rec (motive:=λ_=>Prop) a (Bool.rec (motive:=λ_=>Prop) True (holdP h r.2.1) r.1/\a) r.2.2.2)
   (λ_=>Bool.rec (motive:=λ_=>Prop) True (holdP h r.2.1) r.1/\a) r.2.1.made) a (Nat.blt r.2.1.last k)) rs
def oldsV (rs:List RE):List RE:=rs.map λr=>(r.1,r.2.1,r.2.2.1,!r.2.2.1)
def plainRs (rs:List RE):List (Bool×Rec):=rs.map λr=>(r.1,r.2.1)
def itV (C:Cfg) (n:Nat) (all:List Oper) (ws:List It) (a:It) (d:Nat->Rho->Hp->List RE->Prop) (k:Nat):Rho->Hp->List RE->Prop:=match cls a.o with
  | 0 =>match wantC n all a.o with
    | none=>match isVal a.o with
      |true=>λρ h rs=>Option.rec (motive:=λ_=>Prop) False (λv=>dstR n a.o (λc h=>d k c h ((true,{it:=a,t:= .fn ρ [],v,made:=none,last:=late ws a},hfree a.o,false)::rs)) v ρ h) ((pureC a.o).f (.fn ρ []) h)
      |false=>λρ h rs=>oP ((pureC a.o).f (.fn ρ []) h) λv=>dstR n a.o (λc h=>d k c h ((true,{it:=a,t:= .fn ρ [],v,made:=none,last:=late ws a},hfree a.o,false)::rs)) v ρ h
    |some g=>λρ h rs=>oP (g.f (.fn ρ [])) λb=>oP (gV b ((pureC a.o).f (.fn ρ []) h)) λv=>
       dstR n a.o (λc h=>d k c h ((b,{it:=a,t:= .fn ρ [],v,made:=none,last:=late ws a},hfree a.o,false)::rs)) v ρ h
  | 1=>match wantC n all a.o with
    |none=>λρ h rs=>oP ((allocC a.o).f (.fn ρ [])) λr=>dstR n a.o (λc h'=>d k c h' ((true,{it:=a,t:= .fn ρ [],v:=r.2 h.next,made:=some (h.next,r.1),last:=late ws a},false,false)::oldsV rs)) (r.2 h.next) ρ (h.new r.1)
    |some _=>λ_ _ _=>False
  | _ =>match wantC n all a.o with
    |none=>λρ h rs=>stabV k h rs (wrR C a.o (λv ρ h'=>h.next<=h'.next/\dstR n a.o (λρ h=>d (Nat.succ k) ρ h (oldsV rs)) v ρ h') ρ h)
    | some g=>match isCall a.o with
      |true=>λρ h rs=>stabV k h rs (oP (g.f (.fn ρ [])) λb=>oP (gC b (oB ((writeC a.o).f (.fn ρ []) h) callOf)) λx=>cgP C x h λv h'=>h.next<=h'.next/\dstR n a.o (λρ h=>d (Nat.succ k) ρ h (oldsV rs)) v ρ h')
      |false=>λ_ _ _=>False
def puresV (l:List It):Bool:=l.all λa=>Nat.beq (cls a.o) 0
def seqV (C:Cfg) (n:Nat) (all:List Oper) (ws:List It) (K:Rho->Hp->Prop) (l:List It):Nat->Rho->Hp->List RE->Prop:=
 List.rec (motive:=λ_=>Nat->Rho->Hp->List RE->Prop) (λk ρ h rs=>stabV k h rs (K ρ h)) (λa l b k=>match puresV (a::l)with
  |true=>λρ h rs=>regV C n all (λρ h=>stabV k h rs (K ρ h)) ((a::l).map (·.o)) 0 ρ h
  |false=>itV C n all ws a b k) l
def invV (h:Hp)(rs:List RE):Prop:=∀r∈rs,r.1=true->r.2.1.made=none->(r.2.2.1=true->∀h',holdP h' r.2.1)/\(r.2.2.2=false->holdP h r.2.1)
theorem invV.old {h:Hp} {rs:List RE} (hi:invV h rs) (h':Hp):invV h' (oldsV rs):=by
 intro r c d f;obtain⟨r',a,e⟩:=wBH.1 c;subst e;obtain⟨b,_⟩:=hi r' a d f;refine⟨b,λe=>b ?_ h'⟩;simpa using e
theorem BN (rs:List RE):plainRs (oldsV rs)=plainRs rs:=by
 simp[plainRs,oldsV]
theorem qN {k:Nat} {h:Hp}:∀{rs:List RE} {K d:Prop},invV h rs->(K->d)->stabV k h rs K->stabP k h (plainRs rs) d
 |[],_,_,_,hk,hh=>hk hh
 | (b,r,f,st)::rs,K,d,hi,hk,hh=>by
   have c:invV h rs:=λr c=>hi r (wA0 _ c);have h0:=hi _ (wA9 ..)
   have a:Bool.rec (motive:=λ_=>Prop)
     (Option.rec (motive:=λ_=>Prop) (Bool.rec (motive:=λ_=>Prop) (stabV k h rs K) (Bool.rec (motive:=λ_=>Prop) True (holdP h r) b/\stabV k h rs K) st)
     (λ_=>Bool.rec (motive:=λ_=>Prop) True (holdP h r) b/\stabV k h rs K) r.made) (stabV k h rs K) (Nat.blt r.last k):=hh
   show Bool.rec (motive:=λ_=>Prop) (Bool.rec (motive:=λ_=>Prop) True (holdP h r) b/\stabP k h (plainRs rs) d) (stabP k h (plainRs rs) d) (Nat.blt r.last k)
   cases hb:Nat.blt r.last k with
   |true=>rw[hb]at a;exact qN c hk a
   | false=>
     rw[hb]at a
     cases hm:r.made with
     |some x=>rw[hm]at a;exact⟨a.1,qN c hk a.2⟩
     | none=>
       rw[hm]at a
       cases st with
       |true=>exact⟨a.1,qN c hk a.2⟩
       | false=>
         refine⟨?_,qN c hk a⟩
         cases b with
         |false=>exact trivial
         |true=>exact(h0 rfl hm).2 rfl
theorem G8 {C:Cfg} {o:Oper} {K b:V->Rho->Hp->Prop} (c:∀v ρ h,K v ρ h->b v ρ h) {ρ:Rho} {h:Hp} (a:wrR C o K ρ h):wrR C o b ρ h:=by
 unfold wrR at a⊢;cases hi:isCall o
 all_goals rw[hi]at a
 ·exact ku a λx H=>c _ _ _ H
 ·exact ku a λx H=>H.mono λv h' H=>c _ _ _ H
theorem Cg {k:Nat} {h:Hp} {K:Prop} {rs:List (Bool×Rec)}:∀{new:List (Bool×Rec)},(∀r∈new,r.1=true->holdP h r.2)->stabP k h rs K->stabP k h (new++rs) K
 |[],_,hh=>hh
 | r ::new,hn,hh=>by
   have a:=Cg (new:=new) (λr b=>hn r (wA0 _ b)) hh;show stabP k h (r::(new++rs)) K;simp only[stabP]
   cases hb:Nat.blt r.2.last k with
   |true=>exact a
   | false=>
     refine⟨?_,a⟩
     cases hb:r.1 with
     |false=>exact trivial
     |true=>exact hn r (wA9 ..) hb
theorem By {C:Cfg} {n:Nat} {all:List Oper} {ws:List It} {K:Rho->Hp->Prop} {k:Nat} {rs:List (Bool×Rec)}:∀{l:List It} {ρ:Rho} {h:Hp} {new:List (Bool×Rec)},puresV l=true->(∀r∈new,r.1=true->holdP h r.2)->
  regR C n all (λρ h=>stabP k h rs (K ρ h)) (l.map (·.o)) ρ h->seqR C n all ws K l k ρ h (new++rs)
 |[],_,_,_,_,hn,hk=>Cg hn hk
 | a ::l,ρ,h,new,m,hn,hk=>by
   simp only[puresV,wCD,wAJ]at m;obtain⟨hc,m⟩:=m;have hc:=wAG hc;have c:stepR C n all a.o (regR C n all (λρ h=>stabP k h rs (K ρ h)) (l.map (·.o))) ρ h:=hk;show itR C n all ws a (seqR C n all ws K l) k ρ h (new++rs)
   have p:∀{b:Bool} {v:V},(b=true->(pureC a.o).f (.fn ρ []) h=some v)->dstR n a.o (regR C n all (λρ h=>stabP k h rs (K ρ h)) (l.map (·.o))) v ρ h->
       dstR n a.o (λx h=>seqR C n all ws K l k x h ((b,{it:=a,t:= .fn ρ [],v,made:=none,last:=late ws a})::(new++rs))) v ρ h:=by
     intro b v u i;have j:∀r∈(b,({it:=a,t:= .fn ρ [],v,made:=none,last:=late ws a}:Rec))::new,r.1=true->holdP h r.2:=by
       intro r y q;rcases wAr.1 y with e|e
       ·subst e;exact u q
       ·exact hn r e q
     unfold dstR at i⊢
     cases ho:a.o.dst with
     |none=>rw[ho]at i;exact By m j i
     | some d=>
       rw[ho]at i;simp only at i⊢
       cases u:Nat.blt d n with
       |true=>rw[u]at i;exact By m j i
       |false=>rw[u]at i;exact i.elim
   unfold stepR at c;rw[z7 hc]at c;simp only at c;unfold itR;rw[hc];simp only
   cases hw:wantC n all a.o with
   | none=>
     rw[hw]at c;simp only[opR,hc]at c;obtain⟨v,s,w⟩:=gz.1 c
     exact d9 s (p (λ_=>s) w)
   | some g=>
     rw[hw]at c;simp only[gdR,hc]at c;obtain⟨b,h0,c⟩:=gz.1 c;obtain⟨v,s,w⟩:=gz.1 c;exact d9 h0 (d9 s (p (λe=>by subst e;exact s) w))
theorem Ac {C:Cfg} {n:Nat} {all:List Oper} {K j:Rho->Hp->Prop} {h:Hp} (k:∀ρ,K ρ h->j ρ h):∀{l:List It} {ρ:Rho},puresV l=true->regR C n all K (l.map (·.o)) ρ h->regR C n all j (l.map (·.o)) ρ h
 |[],_,_,hk=>k _ hk
 | a ::l,ρ,f,hk=>by
   simp only[puresV,wCD,wAJ]at f;obtain⟨hc,f⟩:=f;have hc:=wAG hc;have c:stepR C n all a.o (regR C n all K (l.map (·.o))) ρ h:=hk;show stepR C n all a.o (regR C n all j (l.map (·.o))) ρ h;have i:∀{v:V},dstR n a.o (regR C n all K (l.map (·.o))) v ρ h->dstR n a.o (regR C n all j (l.map (·.o))) v ρ h:=by
     intro v e;unfold dstR at e⊢
     cases ho:a.o.dst with
     |none=>rw[ho]at e;exact Ac k f e
     | some d=>
       rw[ho]at e;simp only at e⊢
       cases hb:Nat.blt d n with
       |true=>rw[hb]at e;exact Ac k f e
       |false=>rw[hb]at e;exact e.elim
   unfold stepR at c⊢;rw[z7 hc]at c⊢;simp only at c⊢
   cases hw:wantC n all a.o with
   | none=>
     rw[hw]at c;simp only[opR,hc]at c⊢;obtain⟨v,m,p⟩:=gz.1 c
     exact d9 m (i p)
   | some g=>
     rw[hw]at c;simp only[gdR,hc]at c⊢;obtain⟨b,h0,c⟩:=gz.1 c;obtain⟨v,m,p⟩:=gz.1 c;exact d9 h0 (d9 m (i p))
theorem AI {C:Cfg} {n:Nat} {all:List Oper} {ws:List It} {K:Rho->Hp->Prop}:∀(l:List It) {k:Nat} {ρ:Rho} {h:Hp} {rs:List RE},invV h rs->seqV C n all ws K l k ρ h rs->seqR C n all ws K l k ρ h (plainRs rs)
 |[],_,_,_,_,hi,hk=>qN hi (λx=>x) hk
 | a ::l,k,ρ,h,rs,hi,hk=>by
   have i:(match puresV (a::l)with
     |true=>λ(ρ:Rho) (h:Hp) (rs:List RE)=>regV C n all (λρ h=>stabV k h rs (K ρ h)) ((a::l).map (·.o)) 0 ρ h
     |false=>itV C n all ws a (seqV C n all ws K l) k:Rho->Hp->List RE->Prop) ρ h rs:=hk
   cases hp:puresV (a::l)with
   | true=>
     rw[hp]at i;have p:=yT _ 0 i
     exact By (new:=[]) hp (λ_ z=>nomatch z) (Ac (λρ q=>qN hi (λx=>x) q) hp p)
   | false =>
     rw[hp]at i;simp only at i;show itR C n all ws a (seqR C n all ws K l) k ρ h (plainRs rs)
     have pure:∀{b:Bool} {v:V},gV b ((pureC a.o).f (.fn ρ []) h)=some v->∀{j:Rho},seqV C n all ws K l k j h ((b,{it:=a,t:= .fn ρ [],v,made:=none,last:=late ws a},hfree a.o,false)::rs)->
         seqR C n all ws K l k j h ((b,{it:=a,t:= .fn ρ [],v,made:=none,last:=late ws a})::plainRs rs):=by
       intro b v s j q;refine AI l (rs:=(b,{it:=a,t:= .fn ρ [],v,made:=none,last:=late ws a},hfree a.o,false)::rs) ?_ q;intro r z u A;rcases wAr.1 z with e|e
       ·subst e
        have B:b=true:=u;subst B;refine⟨λF h'=>?_,λ_=>s⟩;show(pureC a.o).f (.fn ρ []) h' = some v;rw[HR F _ h' h];exact s
       ·exact hi r e u A
     have dst:∀{b:Bool} {v:V},gV b ((pureC a.o).f (.fn ρ []) h)=some v->dstR n a.o (λj h=>seqV C n all ws K l k j h ((b,{it:=a,t:= .fn ρ [],v,made:=none,last:=late ws a},hfree a.o,false)::rs)) v ρ h->
         dstR n a.o (λj h=>seqR C n all ws K l k j h ((b,{it:=a,t:= .fn ρ [],v,made:=none,last:=late ws a})::plainRs rs)) v ρ h:=by
       intro b v s m;unfold dstR at m⊢
       cases ho:a.o.dst with
       |none=>rw[ho]at m;exact pure s m
       | some d=>
         rw[ho]at m;simp only at m⊢
         cases u:Nat.blt d n with
         |true=>rw[u]at m;exact pure s m
         |false=>rw[u]at m;exact m.elim
     unfold itV at i;unfold itR;generalize hc:cls a.o=c at i;rcases c with _|_|c
     ·simp only at i⊢
      cases hw:wantC n all a.o with
      | none=>
        rw[hw]at i;simp only at i⊢;have D:oP ((pureC a.o).f (.fn ρ []) h) λv=>dstR n a.o (λj h=>seqV C n all ws K l k j h ((true,{it:=a,t:= .fn ρ [],v,made:=none,last:=late ws a},hfree a.o,false)::rs)) v ρ h:=by
          cases s:isVal a.o <;> (rw[s]at i;exact i)
        obtain⟨v,p,E⟩:=gz.1 D
        exact d9 p (dst (b:=true) p E)
      | some g=>
        rw[hw]at i;obtain⟨b,h0,i⟩:=gz.1 i;obtain⟨v,p,E⟩:=gz.1 i;exact d9 h0 (d9 p (dst p E))
     ·simp only at i⊢
      cases hw:wantC n all a.o with
      | none=>
        rw[hw]at i;refine ku i λr H=>xJ (λj h' q=>?_) H;have:=AI l (rs:=(true,{it:=a,t:= .fn ρ [],v:=r.2 h.next,made:=some (h.next,r.1),last:=late ws a},false,false)::oldsV rs) (by
          intro r' z u A;rcases wAr.1 z with e|e
          ·subst e;cases A
          ·exact hi.old h' r' e u A) q
        change seqR C n all ws K l k j h' (_::plainRs (oldsV rs))at this
        rw[BN]at this
        exact this
      |some g=>rw[hw]at i;exact i.elim
     ·simp only at i⊢
      have w:∀{v:V} {ρ:Rho} {h':Hp},dstR n a.o (λρ h=>seqV C n all ws K l (Nat.succ k) ρ h (oldsV rs)) v ρ h'->dstR n a.o (λρ h=>seqR C n all ws K l (Nat.succ k) ρ h (plainRs rs)) v ρ h':=λH=>
        xJ (λρ h q=>by have:=AI l (hi.old h) q;rwa [BN]at this) H
      cases hw:wantC n all a.o with
      | none=>
        rw[hw]at i
        exact qN hi (λH=>G8 (λv ρ h' H=>⟨H.1,w H.2⟩) H) i
      | some g=>
        rw[hw]at i;simp only at i⊢
        cases hic:isCall a.o with
        |false=>rw[hic]at i;exact i.elim
        | true=>
          rw[hic]at i;refine qN hi (λH=>ku H λb H=>ku H λx H=>?_) i
          cases x with
          |none=>exact⟨H.1,w H.2⟩
          |some y=>exact cP.mono H λv h' H=>⟨H.1,w H.2⟩
def drawV (C:Cfg) (n:Nat) (all:List Oper) (K:Rho->Hp->Prop) (ρ:Rho) (h:Hp):Prop:=
 seqV C n all (wsOf (items all 0 [])) K (order (items all 0 []) (wsOf (items all 0 [])) (wsOf (items all 0 [])) 0) 0 ρ h []
theorem Hr{C:Cfg}{n:Nat}{all:List Oper}{K:Rho->Hp->Prop}{ρ:Rho}{h:Hp}(a:drawV C n all K ρ h):drawR C n all K ρ h:=AI (rs:=[]) _ (by intro r b;cases b) a
end
noncomputable def findJ (tb:List (Nat×List Nat)) (k:Nat):Option (List Nat):=
 List.rec (motive:=λ_=>Option (List Nat)) none (λx _ a=>Bool.rec (motive:=λ_=>Option (List Nat)) a (some x.2) (Nat.beq x.1 k)) tb
noncomputable def jV (C:Cfg) (n:Nat) (live:List Nat) (c:Code) (s:XQ) (ρ:Rho) (h:Hp):Prop:=
 ∀a:Rho,List.rec (motive:=λ_=>Prop) (Wp C n c s a h) (λi _ b=>a i=ρ i->b) live
theorem Hw {C:Cfg} {n:Nat} {live:List Nat} {c:Code} {s:XQ} {ρ:Rho} {h:Hp} (a:jV C n live c s ρ h):Wp C n c s ρ h:=by
 have:=a ρ;clear a
 induction live with
 |nil=>exact this
 |cons i l b=>exact b (this rfl)
noncomputable def codeV (C:Cfg) (n:Nat) (tb:List (Nat×List Nat)) (c:Code):Nat->Nat->XQ->XQ->Rho->Hp->Prop:=
 Code.rec (motive:=λ_=>Nat->Nat->XQ->XQ->Rho->Hp->Prop)
  (λ_ _ v _=>v .normal)
  (fun _ ops d _ _ v _=>match d with
   |false=>regV C n ops.toList (λρ h=>v .normal ρ h) ops.toList 0
   | true=>match drawable ops.toList with
     |true=>drawV C n ops.toList (λρ h=>v .normal ρ h)
     |false=>λ_ _=>False)
  (λ_ b a g p e v s=>a p (Nat.mul 2 e) (andThen (Option.rec (motive:=λ_=>Rho->Hp->Prop) (g (Nat.add p e) (Nat.mul 2 e) v s) (λlive=>jV C n live b s) (findJ tb (Nat.mul 2 (Nat.add (Nat.add p e) (Nat.mul 2 e))))) v) (andThen (Wp C n b s) s))
  (λc _ _ a g p e v s ρ h=>Option.rec (motive:=λ_=>Prop) False (λx=>bP x (a p (Nat.mul 2 e) v s ρ h) (g (Nat.add p e) (Nat.mul 2 e) v s ρ h)) ((evO c).f (.fn ρ []) h))
  (λid _ i p e v s=>i p (Nat.mul 2 e) (blockQ id v) (blockQ id s))
  (λc _ p e _ s=>Option.rec (motive:=λ_=>Rho->Hp->Prop) (λ_ _=>False) (λlive=>jV C n live (.loop c) s) (findJ tb (Nat.succ (Nat.mul 2 (Nat.add p e)))))
  (λ_ _ _ _ _ _ _ _ _ _ _ _=>False)
  (λid _ _ v _=>v (.exit id))
  (λ_ _ _ _ _ _ _ _=>False)
  (λ_ _ _ _ _ _ _=>False)
  (λ_ _ _ _ _ _ _=>False)
  (λ_ _ v _=>v .ret)
  (λ_ _ _ _ _ _ _=>False) c
theorem tM {k k':Rho->Hp->Prop} {v s:XQ} (a:∀ρ h,k ρ h->k' ρ h) (hq:∀x ρ h,v x ρ h->s x ρ h):∀x ρ h,andThen k v x ρ h->andThen k' s x ρ h
 | .normal,_,_,hh=>a _ _ hh
 | .exit _,_,_,hh=>hq _ _ _ hh
 | .ret,_,_,hh=>hq _ _ _ hh
theorem Bu {id:Nat} {v s:XQ} (hq:∀x ρ h,v x ρ h->s x ρ h):∀x ρ h,blockQ id v x ρ h->blockQ id s x ρ h
 | .normal,_,_,hh=>hq _ _ _ hh
 | .ret,_,_,hh=>hq _ _ _ hh
 | .exit i,ρ,h,hh=>by
   simp only[blockQ]at hh⊢
   cases hb:Nat.beq i id with
   |true=>rw[hb]at hh;exact hq _ _ _ hh
   |false=>rw[hb]at hh;exact hq _ _ _ hh
theorem pd {C:Cfg} {n:Nat} {tb:List (Nat×List Nat)}:∀(c:Code) {p e:Nat} {v s:XQ} {ρ:Rho} {h:Hp},(∀x ρ h,v x ρ h->s x ρ h)->codeV C n tb c p e v s ρ h->Wp C n c s ρ h
 | .skip,_,_,_,_,_,_,hq,hk=> .skip (hq _ _ _ hk)
 | .region _ ops false,_,_,v,_,ρ,h,hq,hk=>by
   have d:regV C n ops.toList (λρ h=>v .normal ρ h) ops.toList 0 ρ h:=hk
   exact(Wp.region (yT _ 0 d)).mono hq
 | .region _ ops true,_,_,v,_,ρ,h,hq,hk=>by
   have d:(match drawable ops.toList with
       |true=>drawV C n ops.toList (λρ h=>v .normal ρ h)
       |false=>λ_ _=>False) ρ h:=hk
   cases hd:drawable ops.toList with
   |true=>rw[hd]at d;exact(Wp.draw hd (Hr d)).mono hq
   |false=>rw[hd]at d;exact d.elim
 | .seq a b,p,e,v,s,ρ,h,hq,hk=>by
   refine .seq (pd a (tM ?_ hq) hk);intro ρ h g
   cases hf:findJ tb (Nat.mul 2 (Nat.add (Nat.add p e) (Nat.mul 2 e)))with
   |none=>rw[hf]at g;exact pd b hq g
   |some live=>rw[hf]at g;exact Hw g
 | .cond c a b,p,e,v,s,ρ,h,hq,hk=>by
   have d:oP ((evO c).f (.fn ρ []) h) (λx=>bP x (codeV C n tb a p (Nat.mul 2 e) v s ρ h) (codeV C n tb b (Nat.add p e) (Nat.mul 2 e) v s ρ h)):=hk;obtain⟨x,i,d⟩:=gz.1 d
   exact .cond (d9 i (bM d (pd a hq) (pd b hq)))
 | .block id c,_,_,_,_,_,_,hq,hk=> .block (pd c (Bu hq) hk)
 | .loop c,p,e,v,s,ρ,h,hq,hk=>by
   have d:(Option.rec (motive:=λ_=>Rho->Hp->Prop) (λ_ _=>False) (λlive=>jV C n live (.loop c) s) (findJ tb (Nat.succ (Nat.mul 2 (Nat.add p e)))):Rho->Hp->Prop) ρ h:=hk
   cases hf:findJ tb (Nat.succ (Nat.mul 2 (Nat.add p e)))with
   |none=>rw[hf]at d;exact d.elim
   |some live=>rw[hf]at d;exact Hw d
 | .exit id,_,_,_,_,_,_,hq,hk=> .exit (hq _ _ _ hk)
 | .ret,_,_,_,_,_,_,hq,hk=> .ret (hq _ _ _ hk)
 | .rangeFunc ..,_,_,_,_,_,_,_,hk=>hk.elim
 | .scope _,_,_,_,_,_,_,_,hk=>hk.elim
 | .label _,_,_,_,_,_,_,_,hk=>hk.elim
 | .goto _,_,_,_,_,_,_,_,hk=>hk.elim
 | .refuse _,_,_,_,_,_,_,_,hk=>hk.elim
structure PlV where
 c:Code
 v:XQ
 s:XQ
 p:Nat
 e:Nat
 ks:List (Rho->Hp->Prop)
def headK (l:List (Rho->Hp->Prop)):Rho->Hp->Prop:=match l with
 |k::_=>k
 |[]=>λ_ _=>False
noncomputable def stepPl (C:Cfg) (n:Nat) (tb:List (Nat×List Nat)) (a:PlV) (b:Bool):PlV:=match a.c,b with
 | .seq x y,false=>{c:=x,v:=andThen (Option.rec (motive:=λ_=>Rho->Hp->Prop) (codeV C n tb y (Nat.add a.p a.e) (Nat.mul 2 a.e) a.v a.s) (λlive=>jV C n live y a.s) (findJ tb (Nat.mul 2 (Nat.add (Nat.add a.p a.e) (Nat.mul 2 a.e))))) a.v,s:=andThen (Wp C n y a.s) a.s,p:=a.p,e:=Nat.mul 2 a.e,ks:=a.ks}
 | .seq _ y,true=>{c:=y,v:=a.v,s:=a.s,p:=Nat.add a.p a.e,e:=Nat.mul 2 a.e,ks:=a.ks}
 | .cond _ x _,false=>{c:=x,v:=a.v,s:=a.s,p:=a.p,e:=Nat.mul 2 a.e,ks:=a.ks}
 | .cond _ _ y,true=>{c:=y,v:=a.v,s:=a.s,p:=Nat.add a.p a.e,e:=Nat.mul 2 a.e,ks:=a.ks}
 | .block id x,false=>{c:=x,v:=blockQ id a.v,s:=blockQ id a.s,p:=a.p,e:=Nat.mul 2 a.e,ks:=a.ks}
 | .loop x,false=>{c:=x,v:=andThen (headK a.ks) a.v,s:=andThen (headK a.ks) a.s,p:=a.p,e:=Nat.mul 2 a.e,ks:=a.ks.tail}
 |_,_=>a
noncomputable def goPl (C:Cfg) (n:Nat) (tb:List (Nat×List Nat)) (bs:List Bool):PlV->PlV:=
 List.rec (motive:=λ_=>PlV->PlV) (λa=>a) (λb _ c a=>c (stepPl C n tb a b)) bs
def bitsN (k:Nat):List Bool:=(Nat.rec (motive:=λ_=>Nat->List Bool) (λ_=>[]) (λ_ a p=>match Nat.ble p 1 with
 |true=>[]
 |false=>Nat.beq (Nat.mod p 2) 1::a (Nat.div p 2)) 400:Nat->List Bool) k
def resV (Q:V->Hp->Prop) (ρ:Rho) (h:Hp) (l:List ResultVar):List V->Prop:=
 List.rec (motive:=λ_=>List V->Prop) (λb=>Q (tupleOf b.reverse) h) (λr _ c b=>match r with
  | .tmp i=>c (ρ i::b)
  | .cell a ty=>oP ((resC (.cell a ty)).f (.fn ρ []) h) λv=>c (v::b)) l
theorem AV {Q:V->Hp->Prop} {ρ:Rho} {h:Hp}:∀{l:List ResultVar} {b:List V},resV Q ρ h l b->oP (resVs (.fn ρ []) h l) λvs=>Q (tupleOf (b.reverse++vs)) h
 | [],b,hh=>by
   have c:Q (tupleOf b.reverse) h:=hh
   simpa[resVs,Jl]using c
 | .tmp i::l,b,hh=>by
   have c:resV Q ρ h l (ρ i::b):=hh;obtain⟨vs,d,e⟩:=gz.1 (AV c);refine d9 (show resVs (.fn ρ []) h (.tmp i::l)=some (ρ i::vs) from ?_) ?_
   ·show oB (some (ρ i)) _=_
    simp only[oB,d]
   ·simpa using e
 | .cell a ty::l,b,hh=>by
   have c:oP ((resC (.cell a ty)).f (.fn ρ []) h) λv=>resV Q ρ h l (v::b):=hh;obtain⟨v,h0,c⟩:=gz.1 c;obtain⟨vs,d,e⟩:=gz.1 (AV c);refine d9 (show resVs (.fn ρ []) h (.cell a ty::l)=some (v::vs) from ?_) ?_
   ·show oB ((resC (.cell a ty)).f (.fn ρ []) h) _=_
    simp only[h0,oB,d]
   ·simpa using e
def bodyV (l:List ResultVar) (Q:V->Hp->Prop):XQ
 | .exit _,_,_=>False
 |_,ρ,h=>resV Q ρ h l []
theorem Ea {l:List ResultVar} {Q:V->Hp->Prop}:∀x ρ h,bodyV l Q x ρ h->bodyQ l Q x ρ h
 | .exit _,_,_,hh=>hh
 | .normal,_,_,hh=>by have:=AV (show resV Q _ _ l [] from hh);simpa[bodyQ,retP]using this
 | .ret,_,_,hh=>by have:=AV (show resV Q _ _ l [] from hh);simpa[bodyQ,retP]using this
noncomputable def rootV (fn:Func)(ks:List (Rho->Hp->Prop))(Q:V->Hp->Prop):PlV:={c:=bodyOf fn,v:=bodyV fn.results.toList Q,s:=bodyQ fn.results.toList Q,p:=0,e:=1,ks}
noncomputable def placeV (C:Cfg)(fn:Func)(tb:List (Nat×List Nat))(k:Nat)(ks:List (Rho->Hp->Prop))(Q:V->Hp->Prop):PlV:=goPl C fn.ntmps tb (bitsN k) (rootV fn ks Q)
noncomputable def WA (C:Cfg)(fn:Func)(tb:List (Nat×List Nat))(k:Nat)(ks:List (Rho->Hp->Prop))(Q:V->Hp->Prop)(ρ:Rho)(h:Hp):Prop:=Wp C fn.ntmps (placeV C fn tb k ks Q).c (placeV C fn tb k ks Q).s ρ h
noncomputable def VA (C:Cfg)(n:Nat)(tb:List (Nat×List Nat))(a:PlV)(ρ:Rho)(h:Hp):Prop:=codeV C n tb a.c a.p a.e a.v a.s ρ h
def PlV.ok (a:PlV):Prop:=∀x ρ h,a.v x ρ h->a.s x ρ h
theorem GS {C:Cfg} {n:Nat} {tb:List (Nat×List Nat)} {a:PlV} (c:a.ok) (b:Bool):(stepPl C n tb a b).ok:=by
 unfold stepPl;split
 ·refine tM (λρ h d=>?_) c
  cases hf:findJ tb (Nat.mul 2 (Nat.add (Nat.add a.p a.e) (Nat.mul 2 a.e)))with
  |none=>rw[hf]at d;exact pd _ c d
  |some live=>rw[hf]at d;exact Hw d
 ·exact c
 ·exact c
 ·exact c
 ·exact Bu c
 ·exact tM (λ_ _ d=>d) c
 ·exact c
theorem FQ {C:Cfg} {n:Nat} {tb:List (Nat×List Nat)}:∀{bs:List Bool} {a:PlV},a.ok->(goPl C n tb bs a).ok
 |[],_,ha=>ha
 |b::bs,_,ha=>FQ (bs:=bs) (GS ha b)
theorem Cc{C:Cfg}{fn:Func}{tb:List (Nat×List Nat)}{k:Nat}{ks:List (Rho->Hp->Prop)}{Q:V->Hp->Prop}:(placeV C fn tb k ks Q).ok:=FQ Ea
theorem WA.of {C:Cfg} {fn:Func} {tb:List (Nat×List Nat)} {k:Nat} {ks:List (Rho->Hp->Prop)} {Q:V->Hp->Prop} {ρ:Rho} {h:Hp} {P:Prop}
  (e:VA C fn.ntmps tb (placeV C fn tb k ks Q) ρ h=P) (H:P):WA C fn tb k ks Q ρ h:=pd _ Cc (e.mpr H)
def isLoop (c:Code):Bool:=match c with
 | .loop _=>true
 |_=>false
inductive LA (C:Cfg) (fn:Func) (tb:List (Nat×List Nat)) (k:Nat) (ks:List (Rho->Hp->Prop)) (Q:V->Hp->Prop) (K:Rho->Hp->Prop) (ρ:Rho) (h:Hp):Prop
 |mk (a:VA C fn.ntmps tb (stepPl C fn.ntmps tb {placeV C fn tb k ks Q with ks:=[K]} false) ρ h)
theorem LA.of {C:Cfg} {fn:Func} {tb:List (Nat×List Nat)} {k:Nat} {ks:List (Rho->Hp->Prop)} {Q:V->Hp->Prop} {K:Rho->Hp->Prop} {ρ:Rho} {h:Hp} {P:Prop}
  (e:VA C fn.ntmps tb (stepPl C fn.ntmps tb {placeV C fn tb k ks Q with ks:=[K]} false) ρ h=P) (H:P):LA C fn tb k ks Q K ρ h:=⟨e.mpr H⟩
theorem WA.loop {C:Cfg} {fn:Func} {tb:List (Nat×List Nat)} {k:Nat} {ks:List (Rho->Hp->Prop)} {Q:V->Hp->Prop} {ρ:Rho} {h:Hp} (I:Nat->Rho->Hp->Prop) {m:Nat}
  (f:isLoop (placeV C fn tb k ks Q).c=true) (n:(placeV C fn tb k ks Q).ks=[])
  (b:∀m ρ h,I m ρ h->LA C fn tb k ks Q (λi h'=>∃g,g<m/\I g i h') ρ h) (h0:I m ρ h):WA C fn tb k ks Q ρ h:=by
 unfold WA;have b:=λm ρ h hi=>(b m ρ h hi).1;have d:(placeV C fn tb k ks Q).ok:=Cc;generalize placeV C fn tb k ks Q=a at*;obtain⟨c,v,s,p,e,j⟩:=a;cases c <;> simp only[isLoop]at f <;> try exact absurd f (by decide)
 rename_i c;refine Wp.loopI I (λm ρ h hi=>?_) h0;have:=b m ρ h hi;exact pd c (tM (λ_ _ l=>l) d) this
theorem cP.vc {C:Cfg} (hs:C.start=startF) {f:Nat} {fn:Func} {tb:List (Nat×List Nat)} {args:List V} {h:Hp} {Q:V->Hp->Prop} {P:Prop} (b:P0.funcs[f]? =some fn) (c:fn.body=some (bodyOf fn))
  (d:C.K f args h=none) (a:Nat.ble args.length fn.ntmps=true) (e:VA C fn.ntmps tb (rootV fn [] Q) (argsR args) h=P) (H:P):cP C f args h Q:=
 cP.func hs b c d (wAZ a) (pd _ Ea (e.mpr H))
abbrev LP:=List V->Hp->Prop
def chV (ρ:Rho):List Nat->List V->Prop->Prop
 |i::is,x::xs,P=>ρ i=x->chV ρ is xs P
 |_,_,P=>P
def kf (is:List Nat)(K:LP):Rho->Hp->Prop:=λρ h=>K (is.map ρ) h
def JV (C:Cfg)(fn:Func)(tb:List (Nat×List Nat))(k:Nat)(is:List Nat)(ks:List (Rho->Hp->Prop))(Q:QP1):LP:=λl h=>∀ρ:Rho,chV ρ is l (WA C fn tb k ks Q ρ h)
theorem EX {ρ:Rho}{P:Prop}:∀{is:List Nat}{l:List V},is.length=l.length->(is.map ρ=l->P)->chV ρ is l P
 |[],[],_,h=>h rfl
 |[],_::_,e,_=>by cases e
 |_::_,[],e,_=>by cases e
 |i::is,x::l,e,h=>λa=>EX (is:=is) (l:=l) (by simpa using e) λb=>h (by rw[wBO,a,b])
def CurV:Nat->Type
 |0=>Hp->Prop
 |n+1=>V->CurV n
def apL:(n:Nat)->CurV n->LP
 |0,f,[],h=>f h
 |n+1,f,x::l,h=>apL n (f x) l h
 |_,_,_,_=>False
@[reducible] def ltI (I:Nat->LP) (k:Nat):LP:=λl h=>∃k',k' < k/\I k' l h
section
variable{C:Cfg}{fn:Func}{tb:List (Nat×List Nat)}{k m:Nat}{is:List Nat}{ks:List (Rho->Hp->Prop)}{Q:QP1}{h:Hp}{l:List V}
theorem JV.mk (n:Nat)(B:CurV n)(e:∀(ρ:Rho)(h:Hp),VA C fn.ntmps tb (placeV C fn tb k ks Q) ρ h=apL n B (is.map ρ) h)(a:is.length=l.length)(H:apL n B l h):JV C fn tb k is ks Q l h:=λρ=>EX a λb=>by
 subst b;exact WA.of (e ρ h) H
theorem JV.loop (n:Nat)(I:Nat->LP)(B:LP->CurV n)(a:isLoop (placeV C fn tb k ks Q).c=true)(b:(placeV C fn tb k ks Q).ks=[])
  (e:∀(K:LP) (ρ:Rho) (h:Hp),VA C fn.ntmps tb (stepPl C fn.ntmps tb {placeV C fn tb k ks Q with ks:=[kf is K]} false) ρ h=apL n (B K) (is.map ρ) h)
  (d:∀m l h,l.length=n->I m l h->apL n (B (ltI I m)) l h) (f:is.length=n) (hlen:is.length=l.length) (h0:I m l h):JV C fn tb k is ks Q l h:=λρ=>EX hlen λg=>by
 subst g;exact WA.loop (λm ρ h=>I m (is.map ρ) h) a b (λm ρ h hi=>LA.of (e (ltI I m) ρ h) (d m _ h (by rw[wAb];exact f) hi)) h0
abbrev dF (k:Nat)(x:V)(h:Hp)(K:V->Prop):Prop:=oP (pFA k x) λa=>oP (pLd a h) K
abbrev dN (k:Nat)(x:V)(h:Hp)(K:V->Prop):Prop:=oP (pNil x) λa=>dF k a h K
abbrev dI (n:Nat)(x i:V)(k:Nat)(h:Hp)(K:V->Prop):Prop:=oP (pIx n x i) λa=>dF k a h K
abbrev dX (n:Nat)(x i:V)(h:Hp)(K:V->Prop):Prop:=oP (pIx n x i) λa=>oP (pLd a h) K
abbrev dG (k:Nat)(x:V)(h:Hp)(K:V->Prop):Prop:=dF k x h λa=>oP (pLen a) K
abbrev dJ (k:Nat)(x:V)(n:Nat)(i:V)(j:Nat)(h:Hp)(K:V->Prop):Prop:=dF k x h λa=>dI n a i j h K
abbrev dY (k:Nat)(x:V)(n:Nat)(i:V)(h:Hp)(K:V->Prop):Prop:=dF k x h λa=>dX n a i h K
abbrev bO (o:BinOp)(t:Nat)(a b:V)(A B:Prop):Prop:=oP (hbin o t a b) λv=>bP v A B
abbrev bN (a:V)(A B:Prop):Prop:=oP (hun .not a) λv=>bP v A B
theorem oF{k l o:Nat}{h:Hp}{v:V}{K:V->Prop}(a:pLd (.ptr l (o+k)) h=some v)(b:K v):dF k (.ptr l o) h K:=gz.2 ⟨_,ed _ _ _,gz.2 ⟨_,a,b⟩⟩
theorem oN{k l o:Nat}{h:Hp}{v:V}{K:V->Prop}(a:pLd (.ptr l (o+k)) h=some v)(b:K v):dN k (.ptr l o) h K:=gz.2 ⟨_,fc _ _,oF a b⟩
theorem cP.vd {C:Cfg}{f:Nat}{fn:Func}(tb:List (Nat×List Nat)){args:List V}{h:Hp}{Q:QP1}{P:Prop}(hs:C.start=startF)(b:P0.funcs[f]? =some fn)(c:C.K f args h=none)(H:P)
  (d:fn.body=some (bodyOf fn):=by kernel_rfl) (a:Nat.ble args.length fn.ntmps=true:=by kernel_rfl) (e:VA C fn.ntmps tb (rootV fn [] Q) (argsR args) h=P:=by kernel_rfl):cP C f args h Q:=cP.vc hs b d c a e H
abbrev S1 (I:Nat->LP)(B:LP->QP1):Prop:=∀(k:Nat) (a:V) (h:Hp),I k [a] h->B (ltI I k) a h
abbrev R1 (B:QP1)(J:LP):Prop:=∀{a:V} {h:Hp},B a h->J [a] h
theorem JV.l1 (I:Nat->LP)(B:LP->QP1)(s:S1 I B)(i:I m l h)(g:l.length=1)(b:isLoop (placeV C fn tb k ks Q).c=true:=by kernel_rfl)(d:(placeV C fn tb k ks Q).ks=[]:=by kernel_rfl)
  (e:∀(K:LP) (ρ:Rho) (h:Hp),VA C fn.ntmps tb (stepPl C fn.ntmps tb {placeV C fn tb k ks Q with ks:=[kf is K]} false) ρ h=apL 1 (B K) (is.map ρ) h:=by intros;kernel_rfl) (a:is.length=1:=by rfl):JV C fn tb k is ks Q l h:=
 JV.loop 1 I B b d e (λk l h g i=>match l,g,i with|[f],_,i=>s k f h i) a (a.trans g.symm) i
theorem JV.r1 (B:QP1)(e:∀(ρ:Rho)(h:Hp),VA C fn.ntmps tb (placeV C fn tb k ks Q) ρ h=apL 1 B (is.map ρ) h:=by intros;kernel_rfl)(a:is.length=1:=by rfl):R1 B (JV C fn tb k is ks Q):=λH=>JV.mk 1 B e a H
abbrev S2 (I:Nat->LP)(B:LP->QP2):Prop:=∀(k:Nat) (a b:V) (h:Hp),I k [a,b] h->B (ltI I k) a b h
abbrev R2 (B:QP2)(J:LP):Prop:=∀{a b:V} {h:Hp},B a b h->J [a,b] h
theorem JV.l2 (I:Nat->LP)(B:LP->QP2)(s:S2 I B)(i:I m l h)(g:l.length=2)(b:isLoop (placeV C fn tb k ks Q).c=true:=by kernel_rfl)(d:(placeV C fn tb k ks Q).ks=[]:=by kernel_rfl)
  (e:∀(K:LP) (ρ:Rho) (h:Hp),VA C fn.ntmps tb (stepPl C fn.ntmps tb {placeV C fn tb k ks Q with ks:=[kf is K]} false) ρ h=apL 2 (B K) (is.map ρ) h:=by intros;kernel_rfl) (a:is.length=2:=by rfl):JV C fn tb k is ks Q l h:=
 JV.loop 2 I B b d e (λk l h g i=>match l,g,i with|[f,j],_,i=>s k f j h i) a (a.trans g.symm) i
theorem JV.r2 (B:QP2)(e:∀(ρ:Rho)(h:Hp),VA C fn.ntmps tb (placeV C fn tb k ks Q) ρ h=apL 2 B (is.map ρ) h:=by intros;kernel_rfl)(a:is.length=2:=by rfl):R2 B (JV C fn tb k is ks Q):=λH=>JV.mk 2 B e a H
abbrev S3 (I:Nat->LP)(B:LP->QP3):Prop:=∀(k:Nat) (a b c:V) (h:Hp),I k [a,b,c] h->B (ltI I k) a b c h
abbrev R3 (B:QP3)(J:LP):Prop:=∀{a b c:V} {h:Hp},B a b c h->J [a,b,c] h
theorem JV.l3 (I:Nat->LP)(B:LP->QP3)(s:S3 I B)(i:I m l h)(g:l.length=3)(b:isLoop (placeV C fn tb k ks Q).c=true:=by kernel_rfl)(d:(placeV C fn tb k ks Q).ks=[]:=by kernel_rfl)
  (e:∀(K:LP) (ρ:Rho) (h:Hp),VA C fn.ntmps tb (stepPl C fn.ntmps tb {placeV C fn tb k ks Q with ks:=[kf is K]} false) ρ h=apL 3 (B K) (is.map ρ) h:=by intros;kernel_rfl) (a:is.length=3:=by rfl):JV C fn tb k is ks Q l h:=
 JV.loop 3 I B b d e (λk l h g i=>match l,g,i with|[f,j,n],_,i=>s k f j n h i) a (a.trans g.symm) i
theorem JV.r3 (B:QP3)(e:∀(ρ:Rho)(h:Hp),VA C fn.ntmps tb (placeV C fn tb k ks Q) ρ h=apL 3 B (is.map ρ) h:=by intros;kernel_rfl)(a:is.length=3:=by rfl):R3 B (JV C fn tb k is ks Q):=λH=>JV.mk 3 B e a H
abbrev S4 (I:Nat->LP)(B:LP->QP4):Prop:=∀(k:Nat) (a b c d:V) (h:Hp),I k [a,b,c,d] h->B (ltI I k) a b c d h
abbrev R4 (B:QP4)(J:LP):Prop:=∀{a b c d:V} {h:Hp},B a b c d h->J [a,b,c,d] h
theorem JV.l4 (I:Nat->LP)(B:LP->QP4)(s:S4 I B)(i:I m l h)(g:l.length=4)(b:isLoop (placeV C fn tb k ks Q).c=true:=by kernel_rfl)(d:(placeV C fn tb k ks Q).ks=[]:=by kernel_rfl)
  (e:∀(K:LP) (ρ:Rho) (h:Hp),VA C fn.ntmps tb (stepPl C fn.ntmps tb {placeV C fn tb k ks Q with ks:=[kf is K]} false) ρ h=apL 4 (B K) (is.map ρ) h:=by intros;kernel_rfl) (a:is.length=4:=by rfl):JV C fn tb k is ks Q l h:=
 JV.loop 4 I B b d e (λk l h g i=>match l,g,i with|[f,j,n,o],_,i=>s k f j n o h i) a (a.trans g.symm) i
theorem JV.r4 (B:QP4)(e:∀(ρ:Rho)(h:Hp),VA C fn.ntmps tb (placeV C fn tb k ks Q) ρ h=apL 4 B (is.map ρ) h:=by intros;kernel_rfl)(a:is.length=4:=by rfl):R4 B (JV C fn tb k is ks Q):=λH=>JV.mk 4 B e a H
abbrev S5 (I:Nat->LP)(B:LP->QP5):Prop:=∀(k:Nat) (a b c d e:V) (h:Hp),I k [a,b,c,d,e] h->B (ltI I k) a b c d e h
abbrev R5 (B:QP5)(J:LP):Prop:=∀{a b c d e:V} {h:Hp},B a b c d e h->J [a,b,c,d,e] h
theorem JV.l5 (I:Nat->LP)(B:LP->QP5)(s:S5 I B)(i:I m l h)(g:l.length=5)(b:isLoop (placeV C fn tb k ks Q).c=true:=by kernel_rfl)(d:(placeV C fn tb k ks Q).ks=[]:=by kernel_rfl)
  (e:∀(K:LP) (ρ:Rho) (h:Hp),VA C fn.ntmps tb (stepPl C fn.ntmps tb {placeV C fn tb k ks Q with ks:=[kf is K]} false) ρ h=apL 5 (B K) (is.map ρ) h:=by intros;kernel_rfl) (a:is.length=5:=by rfl):JV C fn tb k is ks Q l h:=
 JV.loop 5 I B b d e (λk l h g i=>match l,g,i with|[f,j,n,o,p],_,i=>s k f j n o p h i) a (a.trans g.symm) i
theorem JV.r5 (B:QP5)(e:∀(ρ:Rho)(h:Hp),VA C fn.ntmps tb (placeV C fn tb k ks Q) ρ h=apL 5 B (is.map ρ) h:=by intros;kernel_rfl)(a:is.length=5:=by rfl):R5 B (JV C fn tb k is ks Q):=λH=>JV.mk 5 B e a H
abbrev S6 (I:Nat->LP)(B:LP->QP6):Prop:=∀(k:Nat) (a b c d e f:V) (h:Hp),I k [a,b,c,d,e,f] h->B (ltI I k) a b c d e f h
abbrev R6 (B:QP6)(J:LP):Prop:=∀{a b c d e f:V} {h:Hp},B a b c d e f h->J [a,b,c,d,e,f] h
theorem JV.l6 (I:Nat->LP)(B:LP->QP6)(s:S6 I B)(i:I m l h)(g:l.length=6)(b:isLoop (placeV C fn tb k ks Q).c=true:=by kernel_rfl)(d:(placeV C fn tb k ks Q).ks=[]:=by kernel_rfl)
  (e:∀(K:LP) (ρ:Rho) (h:Hp),VA C fn.ntmps tb (stepPl C fn.ntmps tb {placeV C fn tb k ks Q with ks:=[kf is K]} false) ρ h=apL 6 (B K) (is.map ρ) h:=by intros;kernel_rfl) (a:is.length=6:=by rfl):JV C fn tb k is ks Q l h:=
 JV.loop 6 I B b d e (λk l h g i=>match l,g,i with|[f,j,n,o,p,q],_,i=>s k f j n o p q h i) a (a.trans g.symm) i
theorem JV.r6 (B:QP6)(e:∀(ρ:Rho)(h:Hp),VA C fn.ntmps tb (placeV C fn tb k ks Q) ρ h=apL 6 B (is.map ρ) h:=by intros;kernel_rfl)(a:is.length=6:=by rfl):R6 B (JV C fn tb k is ks Q):=λH=>JV.mk 6 B e a H
abbrev S7 (I:Nat->LP)(B:LP->QP7):Prop:=∀(k:Nat) (a b c d e f g:V) (h:Hp),I k [a,b,c,d,e,f,g] h->B (ltI I k) a b c d e f g h
abbrev R7 (B:QP7)(J:LP):Prop:=∀{a b c d e f g:V} {h:Hp},B a b c d e f g h->J [a,b,c,d,e,f,g] h
theorem JV.l7 (I:Nat->LP)(B:LP->QP7)(s:S7 I B)(i:I m l h)(g:l.length=7)(b:isLoop (placeV C fn tb k ks Q).c=true:=by kernel_rfl)(d:(placeV C fn tb k ks Q).ks=[]:=by kernel_rfl)
  (e:∀(K:LP) (ρ:Rho) (h:Hp),VA C fn.ntmps tb (stepPl C fn.ntmps tb {placeV C fn tb k ks Q with ks:=[kf is K]} false) ρ h=apL 7 (B K) (is.map ρ) h:=by intros;kernel_rfl) (a:is.length=7:=by rfl):JV C fn tb k is ks Q l h:=
 JV.loop 7 I B b d e (λk l h g i=>match l,g,i with|[f,j,n,o,p,q,r],_,i=>s k f j n o p q r h i) a (a.trans g.symm) i
theorem JV.r7 (B:QP7)(e:∀(ρ:Rho)(h:Hp),VA C fn.ntmps tb (placeV C fn tb k ks Q) ρ h=apL 7 B (is.map ρ) h:=by intros;kernel_rfl)(a:is.length=7:=by rfl):R7 B (JV C fn tb k is ks Q):=λH=>JV.mk 7 B e a H
abbrev S8 (I:Nat->LP)(B:LP->QP8):Prop:=∀(k:Nat) (a b c d e f g i:V) (h:Hp),I k [a,b,c,d,e,f,g,i] h->B (ltI I k) a b c d e f g i h
abbrev R8 (B:QP8)(J:LP):Prop:=∀{a b c d e f g i:V} {h:Hp},B a b c d e f g i h->J [a,b,c,d,e,f,g,i] h
theorem JV.l8 (I:Nat->LP)(B:LP->QP8)(s:S8 I B)(i:I m l h)(g:l.length=8)(b:isLoop (placeV C fn tb k ks Q).c=true:=by kernel_rfl)(d:(placeV C fn tb k ks Q).ks=[]:=by kernel_rfl)
  (e:∀(K:LP) (ρ:Rho) (h:Hp),VA C fn.ntmps tb (stepPl C fn.ntmps tb {placeV C fn tb k ks Q with ks:=[kf is K]} false) ρ h=apL 8 (B K) (is.map ρ) h:=by intros;kernel_rfl) (a:is.length=8:=by rfl):JV C fn tb k is ks Q l h:=
 JV.loop 8 I B b d e (λk l h g i=>match l,g,i with|[f,j,n,o,p,q,r,t],_,i=>s k f j n o p q r t h i) a (a.trans g.symm) i
theorem JV.r8 (B:QP8)(e:∀(ρ:Rho)(h:Hp),VA C fn.ntmps tb (placeV C fn tb k ks Q) ρ h=apL 8 B (is.map ρ) h:=by intros;kernel_rfl)(a:is.length=8:=by rfl):R8 B (JV C fn tb k is ks Q):=λH=>JV.mk 8 B e a H
abbrev S9 (I:Nat->LP)(B:LP->QP9):Prop:=∀(k:Nat) (a b c d e f g i j:V) (h:Hp),I k [a,b,c,d,e,f,g,i,j] h->B (ltI I k) a b c d e f g i j h
abbrev R9 (B:QP9)(J:LP):Prop:=∀{a b c d e f g i j:V} {h:Hp},B a b c d e f g i j h->J [a,b,c,d,e,f,g,i,j] h
theorem JV.l9 (I:Nat->LP)(B:LP->QP9)(s:S9 I B)(i:I m l h)(g:l.length=9)(b:isLoop (placeV C fn tb k ks Q).c=true:=by kernel_rfl)(d:(placeV C fn tb k ks Q).ks=[]:=by kernel_rfl)
  (e:∀(K:LP) (ρ:Rho) (h:Hp),VA C fn.ntmps tb (stepPl C fn.ntmps tb {placeV C fn tb k ks Q with ks:=[kf is K]} false) ρ h=apL 9 (B K) (is.map ρ) h:=by intros;kernel_rfl) (a:is.length=9:=by rfl):JV C fn tb k is ks Q l h:=
 JV.loop 9 I B b d e (λk l h g i=>match l,g,i with|[f,j,n,o,p,q,r,t,u],_,i=>s k f j n o p q r t u h i) a (a.trans g.symm) i
theorem JV.r9 (B:QP9)(e:∀(ρ:Rho)(h:Hp),VA C fn.ntmps tb (placeV C fn tb k ks Q) ρ h=apL 9 B (is.map ρ) h:=by intros;kernel_rfl)(a:is.length=9:=by rfl):R9 B (JV C fn tb k is ks Q):=λH=>JV.mk 9 B e a H
abbrev S10 (I:Nat->LP)(B:LP->QP10):Prop:=∀(k:Nat) (b c d e f g i j l a:V) (h:Hp),I k [b,c,d,e,f,g,i,j,l,a] h->B (ltI I k) b c d e f g i j l a h
abbrev R10 (B:QP10)(J:LP):Prop:=∀{b c d e f g i j k a:V} {h:Hp},B b c d e f g i j k a h->J [b,c,d,e,f,g,i,j,k,a] h
theorem JV.l10 (I:Nat->LP)(B:LP->QP10)(s:S10 I B)(i:I m l h)(g:l.length=10)(d:isLoop (placeV C fn tb k ks Q).c=true:=by kernel_rfl)(f:(placeV C fn tb k ks Q).ks=[]:=by kernel_rfl)
  (e:∀(K:LP) (ρ:Rho) (h:Hp),VA C fn.ntmps tb (stepPl C fn.ntmps tb {placeV C fn tb k ks Q with ks:=[kf is K]} false) ρ h=apL 10 (B K) (is.map ρ) h:=by intros;kernel_rfl) (b:is.length=10:=by rfl):JV C fn tb k is ks Q l h:=
 JV.loop 10 I B d f e (λk l h g i=>match l,g,i with|[j,n,o,p,q,r,t,u,v,a],_,i=>s k j n o p q r t u v a h i) b (b.trans g.symm) i
theorem JV.r10 (B:QP10)(e:∀(ρ:Rho)(h:Hp),VA C fn.ntmps tb (placeV C fn tb k ks Q) ρ h=apL 10 B (is.map ρ) h:=by intros;kernel_rfl)(a:is.length=10:=by rfl):R10 B (JV C fn tb k is ks Q):=λH=>JV.mk 10 B e a H
abbrev S11 (I:Nat->LP)(B:LP->QP11):Prop:=∀(k:Nat) (c d e f g i j l m a b:V) (h:Hp),I k [c,d,e,f,g,i,j,l,m,a,b] h->B (ltI I k) c d e f g i j l m a b h
abbrev R11 (B:QP11)(J:LP):Prop:=∀{c d e f g i j k l a b:V} {h:Hp},B c d e f g i j k l a b h->J [c,d,e,f,g,i,j,k,l,a,b] h
theorem JV.l11 (I:Nat->LP)(B:LP->QP11)(s:S11 I B)(i:I m l h)(g:l.length=11)(f:isLoop (placeV C fn tb k ks Q).c=true:=by kernel_rfl)(j:(placeV C fn tb k ks Q).ks=[]:=by kernel_rfl)
  (e:∀(K:LP) (ρ:Rho) (h:Hp),VA C fn.ntmps tb (stepPl C fn.ntmps tb {placeV C fn tb k ks Q with ks:=[kf is K]} false) ρ h=apL 11 (B K) (is.map ρ) h:=by intros;kernel_rfl) (d:is.length=11:=by rfl):JV C fn tb k is ks Q l h:=
 JV.loop 11 I B f j e (λk l h g i=>match l,g,i with|[n,o,p,q,r,t,u,v,w,a,b],_,i=>s k n o p q r t u v w a b h i) d (d.trans g.symm) i
abbrev S12 (I:Nat->LP)(B:LP->QP12):Prop:=∀(k:Nat) (d e f g i j l m n a b c:V) (h:Hp),I k [d,e,f,g,i,j,l,m,n,a,b,c] h->B (ltI I k) d e f g i j l m n a b c h
abbrev R12 (B:QP12)(J:LP):Prop:=∀{d e f g i j k l m a b c:V} {h:Hp},B d e f g i j k l m a b c h->J [d,e,f,g,i,j,k,l,m,a,b,c] h
theorem JV.l12 (I:Nat->LP)(B:LP->QP12)(s:S12 I B)(i:I m l h)(g:l.length=12)(j:isLoop (placeV C fn tb k ks Q).c=true:=by kernel_rfl)(n:(placeV C fn tb k ks Q).ks=[]:=by kernel_rfl)
  (e:∀(K:LP) (ρ:Rho) (h:Hp),VA C fn.ntmps tb (stepPl C fn.ntmps tb {placeV C fn tb k ks Q with ks:=[kf is K]} false) ρ h=apL 12 (B K) (is.map ρ) h:=by intros;kernel_rfl) (f:is.length=12:=by rfl):JV C fn tb k is ks Q l h:=
 JV.loop 12 I B j n e (λk l h g i=>match l,g,i with|[o,p,q,r,t,u,v,w,x,a,b,d],_,i=>s k o p q r t u v w x a b d h i) f (f.trans g.symm) i
theorem JV.r12 (B:QP12)(e:∀(ρ:Rho)(h:Hp),VA C fn.ntmps tb (placeV C fn tb k ks Q) ρ h=apL 12 B (is.map ρ) h:=by intros;kernel_rfl)(a:is.length=12:=by rfl):R12 B (JV C fn tb k is ks Q):=λH=>JV.mk 12 B e a H
abbrev S13 (I:Nat->LP)(B:LP->QP13):Prop:=∀(k:Nat) (e f g i j l m n o a b c d:V) (h:Hp),I k [e,f,g,i,j,l,m,n,o,a,b,c,d] h->B (ltI I k) e f g i j l m n o a b c d h
abbrev R13 (B:QP13)(J:LP):Prop:=∀{e f g i j k l m n a b c d:V} {h:Hp},B e f g i j k l m n a b c d h->J [e,f,g,i,j,k,l,m,n,a,b,c,d] h
theorem JV.l13 (I:Nat->LP)(B:LP->QP13)(s:S13 I B)(i:I m l h)(g:l.length=13)(n:isLoop (placeV C fn tb k ks Q).c=true:=by kernel_rfl)(o:(placeV C fn tb k ks Q).ks=[]:=by kernel_rfl)
  (e:∀(K:LP) (ρ:Rho) (h:Hp),VA C fn.ntmps tb (stepPl C fn.ntmps tb {placeV C fn tb k ks Q with ks:=[kf is K]} false) ρ h=apL 13 (B K) (is.map ρ) h:=by intros;kernel_rfl) (j:is.length=13:=by rfl):JV C fn tb k is ks Q l h:=
 JV.loop 13 I B n o e (λk l h g i=>match l,g,i with|[p,q,r,t,u,v,w,x,y,a,b,d,f],_,i=>s k p q r t u v w x y a b d f h i) j (j.trans g.symm) i
theorem JV.r13 (B:QP13)(e:∀(ρ:Rho)(h:Hp),VA C fn.ntmps tb (placeV C fn tb k ks Q) ρ h=apL 13 B (is.map ρ) h:=by intros;kernel_rfl)(a:is.length=13:=by rfl):R13 B (JV C fn tb k is ks Q):=λH=>JV.mk 13 B e a H
abbrev S14 (I:Nat->LP)(B:LP->QP14):Prop:=∀(k:Nat) (f g i j l m n o p a b c d e:V) (h:Hp),I k [f,g,i,j,l,m,n,o,p,a,b,c,d,e] h->B (ltI I k) f g i j l m n o p a b c d e h
abbrev R14 (B:QP14)(J:LP):Prop:=∀{f g i j k l m n o a b c d e:V} {h:Hp},B f g i j k l m n o a b c d e h->J [f,g,i,j,k,l,m,n,o,a,b,c,d,e] h
theorem JV.l14 (I:Nat->LP)(B:LP->QP14)(s:S14 I B)(i:I m l h)(g:l.length=14)(o:isLoop (placeV C fn tb k ks Q).c=true:=by kernel_rfl)(p:(placeV C fn tb k ks Q).ks=[]:=by kernel_rfl)
  (e:∀(K:LP) (ρ:Rho) (h:Hp),VA C fn.ntmps tb (stepPl C fn.ntmps tb {placeV C fn tb k ks Q with ks:=[kf is K]} false) ρ h=apL 14 (B K) (is.map ρ) h:=by intros;kernel_rfl) (n:is.length=14:=by rfl):JV C fn tb k is ks Q l h:=
 JV.loop 14 I B o p e (λk l h g i=>match l,g,i with|[q,r,t,u,v,w,x,y,z,a,b,d,f,j],_,i=>s k q r t u v w x y z a b d f j h i) n (n.trans g.symm) i
theorem JV.r14 (B:QP14)(e:∀(ρ:Rho)(h:Hp),VA C fn.ntmps tb (placeV C fn tb k ks Q) ρ h=apL 14 B (is.map ρ) h:=by intros;kernel_rfl)(a:is.length=14:=by rfl):R14 B (JV C fn tb k is ks Q):=λH=>JV.mk 14 B e a H
abbrev S18 (I:Nat->LP)(B:LP->QP18):Prop:=∀(k:Nat) (l m n o p q r s t a b c d e f g i j:V) (h:Hp),I k [l,m,n,o,p,q,r,s,t,a,b,c,d,e,f,g,i,j] h->B (ltI I k) l m n o p q r s t a b c d e f g i j h
abbrev R18 (B:QP18)(J:LP):Prop:=∀{k l m n o p q r s a b c d e f g i j:V} {h:Hp},B k l m n o p q r s a b c d e f g i j h->J [k,l,m,n,o,p,q,r,s,a,b,c,d,e,f,g,i,j] h
theorem JV.l18 (I:Nat->LP)(B:LP->QP18)(s:S18 I B)(i:I m l h)(g:l.length=18)(t:isLoop (placeV C fn tb k ks Q).c=true:=by kernel_rfl)(u:(placeV C fn tb k ks Q).ks=[]:=by kernel_rfl)
  (e:∀(K:LP) (ρ:Rho) (h:Hp),VA C fn.ntmps tb (stepPl C fn.ntmps tb {placeV C fn tb k ks Q with ks:=[kf is K]} false) ρ h=apL 18 (B K) (is.map ρ) h:=by intros;kernel_rfl) (r:is.length=18:=by rfl):JV C fn tb k is ks Q l h:=
 JV.loop 18 I B t u e (λk l h g i=>match l,g,i with|[v,w,x,y,z,A,D,E,F,a,b,d,f,j,n,o,p,q],_,i=>s k v w x y z A D E F a b d f j n o p q h i) r (r.trans g.symm) i
theorem JV.r18 (B:QP18)(e:∀(ρ:Rho)(h:Hp),VA C fn.ntmps tb (placeV C fn tb k ks Q) ρ h=apL 18 B (is.map ρ) h:=by intros;kernel_rfl)(a:is.length=18:=by rfl):R18 B (JV C fn tb k is ks Q):=λH=>JV.mk 18 B e a H
abbrev nZ:V:= .int .i64 0
abbrev nO:V:= .int .i64 1
abbrev nS:V:= .nilSlice
abbrev bT:V:= .bool true
abbrev bF:V:= .bool false
abbrev zC (T:Nat)(l:List V):Option (O×(Nat->V)):=some (.cells T 1 true false l,λl=> .ptr l 0)
abbrev P2 (I:Nat->QP2)(B:(QP2)->QP2):Prop:=∀(k:Nat) (a b:V) (h:Hp),I k a b h->B (λa b h=>∃k',k' < k/\I k' a b h) a b h
theorem WA.l2 {a b:Nat}{d f:V}(I:Nat->QP2)(B:(QP2)->QP2)(s:P2 I B)(g:I m d f h)(i:isLoop (placeV C fn tb k ks Q).c=true:=by kernel_rfl)(j:(placeV C fn tb k ks Q).ks=[]:=by kernel_rfl)
  (e:∀(K:QP2) (ρ:Rho) (h:Hp),VA C fn.ntmps tb (stepPl C fn.ntmps tb {placeV C fn tb k ks Q with ks:=[λρ h=>K (ρ a) (ρ b) h]} false) ρ h=B K (ρ a) (ρ b) h:=by intros;kernel_rfl):∀ρ:Rho,ρ a=d->ρ b=f->WA C fn tb k ks Q ρ h:=by
 rintro ρ rfl rfl;exact WA.loop (λk ρ h=>I k (ρ a) (ρ b) h) i j (λk ρ h hi=>LA.of (e (λd f h=>∃k',k' < k/\I k' d f h) ρ h) (s k (ρ a) (ρ b) h hi)) g
abbrev P3 (I:Nat->QP3)(B:(QP3)->QP3):Prop:=∀(k:Nat) (a b c:V) (h:Hp),I k a b c h->B (λa b c h=>∃k',k' < k/\I k' a b c h) a b c h
theorem WA.l3 {a b d:Nat}{f i j:V}(I:Nat->QP3)(B:(QP3)->QP3)(s:P3 I B)(g:I m f i j h)(l:isLoop (placeV C fn tb k ks Q).c=true:=by kernel_rfl)(n:(placeV C fn tb k ks Q).ks=[]:=by kernel_rfl)
  (e:∀(K:QP3) (ρ:Rho) (h:Hp),VA C fn.ntmps tb (stepPl C fn.ntmps tb {placeV C fn tb k ks Q with ks:=[λρ h=>K (ρ a) (ρ b) (ρ d) h]} false) ρ h=B K (ρ a) (ρ b) (ρ d) h:=by intros;kernel_rfl):∀ρ:Rho,ρ a=f->ρ b=i->ρ d=j->WA C fn tb k ks Q ρ h:=by
 rintro ρ rfl rfl rfl;exact WA.loop (λk ρ h=>I k (ρ a) (ρ b) (ρ d) h) l n (λk ρ h hi=>LA.of (e (λf i j h=>∃k',k' < k/\I k' f i j h) ρ h) (s k (ρ a) (ρ b) (ρ d) h hi)) g
abbrev P4 (I:Nat->QP4)(B:(QP4)->QP4):Prop:=∀(k:Nat) (a b c d:V) (h:Hp),I k a b c d h->B (λa b c d h=>∃k',k' < k/\I k' a b c d h) a b c d h
theorem WA.l4 {a b d f:Nat}{i j l n:V}(I:Nat->QP4)(B:(QP4)->QP4)(s:P4 I B)(g:I m i j l n h)(o:isLoop (placeV C fn tb k ks Q).c=true:=by kernel_rfl)(p:(placeV C fn tb k ks Q).ks=[]:=by kernel_rfl)
  (e:∀(K:QP4) (ρ:Rho) (h:Hp),VA C fn.ntmps tb (stepPl C fn.ntmps tb {placeV C fn tb k ks Q with ks:=[λρ h=>K (ρ a) (ρ b) (ρ d) (ρ f) h]} false) ρ h=B K (ρ a) (ρ b) (ρ d) (ρ f) h:=by intros;kernel_rfl):∀ρ:Rho,ρ a=i->ρ b=j->ρ d=l->ρ f=n->WA C fn tb k ks Q ρ h:=by
 rintro ρ rfl rfl rfl rfl;exact WA.loop (λk ρ h=>I k (ρ a) (ρ b) (ρ d) (ρ f) h) o p (λk ρ h hi=>LA.of (e (λi j l n h=>∃k',k' < k/\I k' i j l n h) ρ h) (s k (ρ a) (ρ b) (ρ d) (ρ f) h hi)) g
abbrev P5 (I:Nat->QP5)(B:(QP5)->QP5):Prop:=∀(k:Nat) (a b c d e:V) (h:Hp),I k a b c d e h->B (λa b c d e h=>∃k',k' < k/\I k' a b c d e h) a b c d e h
theorem WA.l5 {a b d f i5:Nat}{i j l n o:V}(I:Nat->QP5)(B:(QP5)->QP5)(s:P5 I B)(g:I m i j l n o h)(p:isLoop (placeV C fn tb k ks Q).c=true:=by kernel_rfl)(q:(placeV C fn tb k ks Q).ks=[]:=by kernel_rfl)
  (e:∀(K:QP5) (ρ:Rho) (h:Hp),VA C fn.ntmps tb (stepPl C fn.ntmps tb {placeV C fn tb k ks Q with ks:=[λρ h=>K (ρ a) (ρ b) (ρ d) (ρ f) (ρ i5) h]} false) ρ h=B K (ρ a) (ρ b) (ρ d) (ρ f) (ρ i5) h:=by intros;kernel_rfl):∀ρ:Rho,ρ a=i->ρ b=j->ρ d=l->ρ f=n->ρ i5=o->WA C fn tb k ks Q ρ h:=by
 rintro ρ rfl rfl rfl rfl rfl;exact WA.loop (λk ρ h=>I k (ρ a) (ρ b) (ρ d) (ρ f) (ρ i5) h) p q (λk ρ h hi=>LA.of (e (λi j l n o h=>∃k',k' < k/\I k' i j l n o h) ρ h) (s k (ρ a) (ρ b) (ρ d) (ρ f) (ρ i5) h hi)) g
abbrev P6 (I:Nat->QP6)(B:(QP6)->QP6):Prop:=∀(k:Nat) (a b c d e f:V) (h:Hp),I k a b c d e f h->B (λa b c d e f h=>∃k',k' < k/\I k' a b c d e f h) a b c d e f h
theorem WA.l6 {a b d f i5 i6:Nat}{i j l n o p:V}(I:Nat->QP6)(B:(QP6)->QP6)(s:P6 I B)(g:I m i j l n o p h)(q:isLoop (placeV C fn tb k ks Q).c=true:=by kernel_rfl)(r:(placeV C fn tb k ks Q).ks=[]:=by kernel_rfl)
  (e:∀(K:QP6) (ρ:Rho) (h:Hp),VA C fn.ntmps tb (stepPl C fn.ntmps tb {placeV C fn tb k ks Q with ks:=[λρ h=>K (ρ a) (ρ b) (ρ d) (ρ f) (ρ i5) (ρ i6) h]} false) ρ h=B K (ρ a) (ρ b) (ρ d) (ρ f) (ρ i5) (ρ i6) h:=by intros;kernel_rfl):∀ρ:Rho,ρ a=i->ρ b=j->ρ d=l->ρ f=n->ρ i5=o->ρ i6=p->WA C fn tb k ks Q ρ h:=by
 rintro ρ rfl rfl rfl rfl rfl rfl;exact WA.loop (λk ρ h=>I k (ρ a) (ρ b) (ρ d) (ρ f) (ρ i5) (ρ i6) h) q r (λk ρ h hi=>LA.of (e (λi j l n o p h=>∃k',k' < k/\I k' i j l n o p h) ρ h) (s k (ρ a) (ρ b) (ρ d) (ρ f) (ρ i5) (ρ i6) h hi)) g
abbrev P7 (I:Nat->QP7)(B:(QP7)->QP7):Prop:=∀(k:Nat) (a b c d e f g:V) (h:Hp),I k a b c d e f g h->B (λa b c d e f g h=>∃k',k' < k/\I k' a b c d e f g h) a b c d e f g h
theorem WA.l7 {a b d f i5 i6 i:Nat}{j l n o p q r:V}(I:Nat->QP7)(B:(QP7)->QP7)(s:P7 I B)(g:I m j l n o p q r h)(t:isLoop (placeV C fn tb k ks Q).c=true:=by kernel_rfl)(u:(placeV C fn tb k ks Q).ks=[]:=by kernel_rfl)
  (e:∀(K:QP7) (ρ:Rho) (h:Hp),VA C fn.ntmps tb (stepPl C fn.ntmps tb {placeV C fn tb k ks Q with ks:=[λρ h=>K (ρ a) (ρ b) (ρ d) (ρ f) (ρ i5) (ρ i6) (ρ i) h]} false) ρ h=B K (ρ a) (ρ b) (ρ d) (ρ f) (ρ i5) (ρ i6) (ρ i) h:=by intros;kernel_rfl):∀ρ:Rho,ρ a=j->ρ b=l->ρ d=n->ρ f=o->ρ i5=p->ρ i6=q->ρ i=r->WA C fn tb k ks Q ρ h:=by
 rintro ρ rfl rfl rfl rfl rfl rfl rfl;exact WA.loop (λk ρ h=>I k (ρ a) (ρ b) (ρ d) (ρ f) (ρ i5) (ρ i6) (ρ i) h) t u (λk ρ h hi=>LA.of (e (λj l n o p q r h=>∃k',k' < k/\I k' j l n o p q r h) ρ h) (s k (ρ a) (ρ b) (ρ d) (ρ f) (ρ i5) (ρ i6) (ρ i) h hi)) g
abbrev P8 (I:Nat->QP8)(B:(QP8)->QP8):Prop:=∀(k:Nat) (a b c d e f g i:V) (h:Hp),I k a b c d e f g i h->B (λa b c d e f g i h=>∃k',k' < k/\I k' a b c d e f g i h) a b c d e f g i h
theorem WA.l8 {a b d f i5 i6 i j:Nat}{l n o p q r t u:V}(I:Nat->QP8)(B:(QP8)->QP8)(s:P8 I B)(g:I m l n o p q r t u h)(v:isLoop (placeV C fn tb k ks Q).c=true:=by kernel_rfl)(w:(placeV C fn tb k ks Q).ks=[]:=by kernel_rfl)
  (e:∀(K:QP8) (ρ:Rho) (h:Hp),VA C fn.ntmps tb (stepPl C fn.ntmps tb {placeV C fn tb k ks Q with ks:=[λρ h=>K (ρ a) (ρ b) (ρ d) (ρ f) (ρ i5) (ρ i6) (ρ i) (ρ j) h]} false) ρ h=B K (ρ a) (ρ b) (ρ d) (ρ f) (ρ i5) (ρ i6) (ρ i) (ρ j) h:=by intros;kernel_rfl):∀ρ:Rho,ρ a=l->ρ b=n->ρ d=o->ρ f=p->ρ i5=q->ρ i6=r->ρ i=t->ρ j=u->WA C fn tb k ks Q ρ h:=by
 rintro ρ rfl rfl rfl rfl rfl rfl rfl rfl;exact WA.loop (λk ρ h=>I k (ρ a) (ρ b) (ρ d) (ρ f) (ρ i5) (ρ i6) (ρ i) (ρ j) h) v w (λk ρ h hi=>LA.of (e (λl n o p q r t u h=>∃k',k' < k/\I k' l n o p q r t u h) ρ h) (s k (ρ a) (ρ b) (ρ d) (ρ f) (ρ i5) (ρ i6) (ρ i) (ρ j) h hi)) g
abbrev P9 (I:Nat->QP9)(B:(QP9)->QP9):Prop:=∀(k:Nat) (a b c d e f g i j:V) (h:Hp),I k a b c d e f g i j h->B (λa b c d e f g i j h=>∃k',k' < k/\I k' a b c d e f g i j h) a b c d e f g i j h
theorem WA.l9 {a b d f i5 i6 i j l:Nat}{n o p q r t u v w:V}(I:Nat->QP9)(B:(QP9)->QP9)(s:P9 I B)(g:I m n o p q r t u v w h)(x:isLoop (placeV C fn tb k ks Q).c=true:=by kernel_rfl)(y:(placeV C fn tb k ks Q).ks=[]:=by kernel_rfl)
  (e:∀(K:QP9) (ρ:Rho) (h:Hp),VA C fn.ntmps tb (stepPl C fn.ntmps tb {placeV C fn tb k ks Q with ks:=[λρ h=>K (ρ a) (ρ b) (ρ d) (ρ f) (ρ i5) (ρ i6) (ρ i) (ρ j) (ρ l) h]} false) ρ h=B K (ρ a) (ρ b) (ρ d) (ρ f) (ρ i5) (ρ i6) (ρ i) (ρ j) (ρ l) h:=by intros;kernel_rfl):∀ρ:Rho,ρ a=n->ρ b=o->ρ d=p->ρ f=q->ρ i5=r->ρ i6=t->ρ i=u->ρ j=v->ρ l=w->WA C fn tb k ks Q ρ h:=by
 rintro ρ rfl rfl rfl rfl rfl rfl rfl rfl rfl;exact WA.loop (λk ρ h=>I k (ρ a) (ρ b) (ρ d) (ρ f) (ρ i5) (ρ i6) (ρ i) (ρ j) (ρ l) h) x y (λk ρ h hi=>LA.of (e (λn o p q r t u v w h=>∃k',k' < k/\I k' n o p q r t u v w h) ρ h) (s k (ρ a) (ρ b) (ρ d) (ρ f) (ρ i5) (ρ i6) (ρ i) (ρ j) (ρ l) h hi)) g
abbrev P10 (I:Nat->QP10)(B:(QP10)->QP10):Prop:=∀(k:Nat) (b c d e f g i j l a:V) (h:Hp),I k b c d e f g i j l a h->B (λb c d e f g i j l a h=>∃k',k' < k/\I k' b c d e f g i j l a h) b c d e f g i j l a h
theorem WA.l10 {d f i j i5 i6 l n o a:Nat}{p q r t u v w x y b:V}(I:Nat->QP10)(B:(QP10)->QP10)(s:P10 I B)(g:I m p q r t u v w x y b h)(z:isLoop (placeV C fn tb k ks Q).c=true:=by kernel_rfl)(A:(placeV C fn tb k ks Q).ks=[]:=by kernel_rfl)
  (e:∀(K:QP10) (ρ:Rho) (h:Hp),VA C fn.ntmps tb (stepPl C fn.ntmps tb {placeV C fn tb k ks Q with ks:=[λρ h=>K (ρ d) (ρ f) (ρ i) (ρ j) (ρ i5) (ρ i6) (ρ l) (ρ n) (ρ o) (ρ a) h]} false) ρ h=B K (ρ d) (ρ f) (ρ i) (ρ j) (ρ i5) (ρ i6) (ρ l) (ρ n) (ρ o) (ρ a) h:=by intros;kernel_rfl):∀ρ:Rho,ρ d=p->ρ f=q->ρ i=r->ρ j=t->ρ i5=u->ρ i6=v->ρ l=w->ρ n=x->ρ o=y->ρ a=b->WA C fn tb k ks Q ρ h:=by
 rintro ρ rfl rfl rfl rfl rfl rfl rfl rfl rfl rfl;exact WA.loop (λk ρ h=>I k (ρ d) (ρ f) (ρ i) (ρ j) (ρ i5) (ρ i6) (ρ l) (ρ n) (ρ o) (ρ a) h) z A (λk ρ h hi=>LA.of (e (λp q r t u v w x y b h=>∃k',k' < k/\I k' p q r t u v w x y b h) ρ h) (s k (ρ d) (ρ f) (ρ i) (ρ j) (ρ i5) (ρ i6) (ρ l) (ρ n) (ρ o) (ρ a) h hi)) g
abbrev P11 (I:Nat->QP11)(B:(QP11)->QP11):Prop:=∀(k:Nat) (c d e f g i j l m a b:V) (h:Hp),I k c d e f g i j l m a b h->B (λc d e f g i j l m a b h=>∃k',k' < k/\I k' c d e f g i j l m a b h) c d e f g i j l m a b h
theorem WA.l11 {i j l n i5 i6 o p q a b:Nat}{r t u v w x y z A d f:V}(I:Nat->QP11)(B:(QP11)->QP11)(s:P11 I B)(g:I m r t u v w x y z A d f h)(D:isLoop (placeV C fn tb k ks Q).c=true:=by kernel_rfl)(E:(placeV C fn tb k ks Q).ks=[]:=by kernel_rfl)
  (e:∀(K:QP11) (ρ:Rho) (h:Hp),VA C fn.ntmps tb (stepPl C fn.ntmps tb {placeV C fn tb k ks Q with ks:=[λρ h=>K (ρ i) (ρ j) (ρ l) (ρ n) (ρ i5) (ρ i6) (ρ o) (ρ p) (ρ q) (ρ a) (ρ b) h]} false) ρ h=B K (ρ i) (ρ j) (ρ l) (ρ n) (ρ i5) (ρ i6) (ρ o) (ρ p) (ρ q) (ρ a) (ρ b) h:=by intros;kernel_rfl):∀ρ:Rho,ρ i=r->ρ j=t->ρ l=u->ρ n=v->ρ i5=w->ρ i6=x->ρ o=y->ρ p=z->ρ q=A->ρ a=d->ρ b=f->WA C fn tb k ks Q ρ h:=by
 rintro ρ rfl rfl rfl rfl rfl rfl rfl rfl rfl rfl rfl;exact WA.loop (λk ρ h=>I k (ρ i) (ρ j) (ρ l) (ρ n) (ρ i5) (ρ i6) (ρ o) (ρ p) (ρ q) (ρ a) (ρ b) h) D E (λk ρ h hi=>LA.of (e (λr t u v w x y z A d f h=>∃k',k' < k/\I k' r t u v w x y z A d f h) ρ h) (s k (ρ i) (ρ j) (ρ l) (ρ n) (ρ i5) (ρ i6) (ρ o) (ρ p) (ρ q) (ρ a) (ρ b) h hi)) g
abbrev P12 (I:Nat->QP12)(B:(QP12)->QP12):Prop:=∀(k:Nat) (d e f g i j l m n a b c:V) (h:Hp),I k d e f g i j l m n a b c h->B (λd e f g i j l m n a b c h=>∃k',k' < k/\I k' d e f g i j l m n a b c h) d e f g i j l m n a b c h
theorem WA.l12 {l n o p i5 i6 q r t a b d:Nat}{u v w x y z A D E f i j:V}(I:Nat->QP12)(B:(QP12)->QP12)(s:P12 I B)(g:I m u v w x y z A D E f i j h)(F:isLoop (placeV C fn tb k ks Q).c=true:=by kernel_rfl)(G:(placeV C fn tb k ks Q).ks=[]:=by kernel_rfl)
  (e:∀(K:QP12) (ρ:Rho) (h:Hp),VA C fn.ntmps tb (stepPl C fn.ntmps tb {placeV C fn tb k ks Q with ks:=[λρ h=>K (ρ l) (ρ n) (ρ o) (ρ p) (ρ i5) (ρ i6) (ρ q) (ρ r) (ρ t) (ρ a) (ρ b) (ρ d) h]} false) ρ h=B K (ρ l) (ρ n) (ρ o) (ρ p) (ρ i5) (ρ i6) (ρ q) (ρ r) (ρ t) (ρ a) (ρ b) (ρ d) h:=by intros;kernel_rfl):∀ρ:Rho,ρ l=u->ρ n=v->ρ o=w->ρ p=x->ρ i5=y->ρ i6=z->ρ q=A->ρ r=D->ρ t=E->ρ a=f->ρ b=i->ρ d=j->WA C fn tb k ks Q ρ h:=by
 rintro ρ rfl rfl rfl rfl rfl rfl rfl rfl rfl rfl rfl rfl;exact WA.loop (λk ρ h=>I k (ρ l) (ρ n) (ρ o) (ρ p) (ρ i5) (ρ i6) (ρ q) (ρ r) (ρ t) (ρ a) (ρ b) (ρ d) h) F G (λk ρ h hi=>LA.of (e (λu v w x y z A D E f i j h=>∃k',k' < k/\I k' u v w x y z A D E f i j h) ρ h) (s k (ρ l) (ρ n) (ρ o) (ρ p) (ρ i5) (ρ i6) (ρ q) (ρ r) (ρ t) (ρ a) (ρ b) (ρ d) h hi)) g
abbrev P13 (I:Nat->QP13)(B:(QP13)->QP13):Prop:=∀(k:Nat) (e f g i j l m n o a b c d:V) (h:Hp),I k e f g i j l m n o a b c d h->B (λe f g i j l m n o a b c d h=>∃k',k' < k/\I k' e f g i j l m n o a b c d h) e f g i j l m n o a b c d h
theorem WA.l13 {o p q r i5 i6 t u v a b d f:Nat}{w x y z A D E F G i j l n:V}(I:Nat->QP13)(B:(QP13)->QP13)(s:P13 I B)(g:I m w x y z A D E F G i j l n h)(H:isLoop (placeV C fn tb k ks Q).c=true:=by kernel_rfl)(J:(placeV C fn tb k ks Q).ks=[]:=by kernel_rfl)
  (e:∀(K:QP13) (ρ:Rho) (h:Hp),VA C fn.ntmps tb (stepPl C fn.ntmps tb {placeV C fn tb k ks Q with ks:=[λρ h=>K (ρ o) (ρ p) (ρ q) (ρ r) (ρ i5) (ρ i6) (ρ t) (ρ u) (ρ v) (ρ a) (ρ b) (ρ d) (ρ f) h]} false) ρ h=B K (ρ o) (ρ p) (ρ q) (ρ r) (ρ i5) (ρ i6) (ρ t) (ρ u) (ρ v) (ρ a) (ρ b) (ρ d) (ρ f) h:=by intros;kernel_rfl):∀ρ:Rho,ρ o=w->ρ p=x->ρ q=y->ρ r=z->ρ i5=A->ρ i6=D->ρ t=E->ρ u=F->ρ v=G->ρ a=i->ρ b=j->ρ d=l->ρ f=n->WA C fn tb k ks Q ρ h:=by
 rintro ρ rfl rfl rfl rfl rfl rfl rfl rfl rfl rfl rfl rfl rfl;exact WA.loop (λk ρ h=>I k (ρ o) (ρ p) (ρ q) (ρ r) (ρ i5) (ρ i6) (ρ t) (ρ u) (ρ v) (ρ a) (ρ b) (ρ d) (ρ f) h) H J (λk ρ h hi=>LA.of (e (λw x y z A D E F G i j l n h=>∃k',k' < k/\I k' w x y z A D E F G i j l n h) ρ h) (s k (ρ o) (ρ p) (ρ q) (ρ r) (ρ i5) (ρ i6) (ρ t) (ρ u) (ρ v) (ρ a) (ρ b) (ρ d) (ρ f) h hi)) g
abbrev P14 (I:Nat->QP14)(B:(QP14)->QP14):Prop:=∀(k:Nat) (f g i j l m n o p a b c d e:V) (h:Hp),I k f g i j l m n o p a b c d e h->B (λf g i j l m n o p a b c d e h=>∃k',k' < k/\I k' f g i j l m n o p a b c d e h) f g i j l m n o p a b c d e h
theorem WA.l14 {q r t u i5 i6 v w x a b d f i:Nat}{y z A D E F G H J j l n o p:V}(I:Nat->QP14)(B:(QP14)->QP14)(s:P14 I B)(g:I m y z A D E F G H J j l n o p h)(L:isLoop (placeV C fn tb k ks Q).c=true:=by kernel_rfl)(M:(placeV C fn tb k ks Q).ks=[]:=by kernel_rfl)
  (e:∀(K:QP14) (ρ:Rho) (h:Hp),VA C fn.ntmps tb (stepPl C fn.ntmps tb {placeV C fn tb k ks Q with ks:=[λρ h=>K (ρ q) (ρ r) (ρ t) (ρ u) (ρ i5) (ρ i6) (ρ v) (ρ w) (ρ x) (ρ a) (ρ b) (ρ d) (ρ f) (ρ i) h]} false) ρ h=B K (ρ q) (ρ r) (ρ t) (ρ u) (ρ i5) (ρ i6) (ρ v) (ρ w) (ρ x) (ρ a) (ρ b) (ρ d) (ρ f) (ρ i) h:=by intros;kernel_rfl):∀ρ:Rho,ρ q=y->ρ r=z->ρ t=A->ρ u=D->ρ i5=E->ρ i6=F->ρ v=G->ρ w=H->ρ x=J->ρ a=j->ρ b=l->ρ d=n->ρ f=o->ρ i=p->WA C fn tb k ks Q ρ h:=by
 rintro ρ rfl rfl rfl rfl rfl rfl rfl rfl rfl rfl rfl rfl rfl rfl;exact WA.loop (λk ρ h=>I k (ρ q) (ρ r) (ρ t) (ρ u) (ρ i5) (ρ i6) (ρ v) (ρ w) (ρ x) (ρ a) (ρ b) (ρ d) (ρ f) (ρ i) h) L M (λk ρ h hi=>LA.of (e (λy z A D E F G H J j l n o p h=>∃k',k' < k/\I k' y z A D E F G H J j l n o p h) ρ h) (s k (ρ q) (ρ r) (ρ t) (ρ u) (ρ i5) (ρ i6) (ρ v) (ρ w) (ρ x) (ρ a) (ρ b) (ρ d) (ρ f) (ρ i) h hi)) g
end
