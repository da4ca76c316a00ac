/- Parts. -/
import Derived.Test.YtpfjdlicdljhaaaDoorM09
set_option maxHeartbeats 4000000
namespace Go.Proofs.YtpfjdlicdljhaaaDoor.Hx
abbrev XQ:=X->dR->Hp->Prop
abbrev dg:=V->Hp->Prop
abbrev X3:=V->V->Hp->Prop
abbrev Mu:=V->V->V->Hp->Prop
abbrev Fk:=V->V->V->V->Hp->Prop
abbrev DD:=V->V->V->V->V->Hp->Prop
abbrev N0:=V->V->V->V->V->V->Hp->Prop
abbrev Ke:=V->V->V->V->V->V->V->Hp->Prop
abbrev Fc:=V->V->V->V->V->V->V->V->Hp->Prop
abbrev Yk:=V->V->V->V->V->V->V->V->V->Hp->Prop
abbrev Et:=V->V->V->V->V->V->V->V->V->V->Hp->Prop
abbrev Tz:=V->V->V->V->V->V->V->V->V->V->V->Hp->Prop
abbrev TT:=V->V->V->V->V->V->V->V->V->V->V->V->Hp->Prop
abbrev BW:=V->V->V->V->V->V->V->V->V->V->V->V->V->Hp->Prop
abbrev Tu:=V->V->V->V->V->V->V->V->V->V->V->V->V->V->Hp->Prop
abbrev Xt:=V->V->V->V->V->V->V->V->V->V->V->V->V->V->V->V->V->V->Hp->Prop
def isVal(o:Oper):Bool:=match o.op with
 | .move x| .assign x=>Jl x
 | .makeFunc _ _ _=>true
 | .makeInterface _ x=>Jl x
 |_=>false
theorem Pd{o:Oper} (h:isVal o=true):cls o=0:=by
 grind[isVal,cls]
def YF(C:dc) (o:Oper) (K:V->dR->Hp->Prop):dR->Hp->Prop:=match isVal o with
 |true=>λρ h=>Option.rec (motive:=λ_=>Prop) False (λv=>K v ρ h) ((fh o).f (.fn ρ []) h)
 |false=>Kf C o K
theorem VM(C:dc) (o:Oper) (K:V->dR->Hp->Prop):YF C o K=Kf C o K:=by
 unfold YF
 cases hv:isVal o with
 |false=>rfl
 | true=>
   unfold Kf;rw[Pd hv];rfl
def N8(C:dc) (n:Nat) (all:List Oper) (o:Oper) (K:dR->Hp->Prop):dR->Hp->Prop:=match uA o with
 |some _=>λ_ _=>False
 | none=>match hO n all o with
   |none=>YF C o (kC n o K)
   |some g=>λρ h=>oP (g.f (.fn ρ [])) λb=>Sg C o b (kC n o K) ρ h
noncomputable section
inductive Gs where
 |last (o:Oper) (d:Nat)
 |op (o:Oper) (d:Nat) (a:Gs)
 |nest (w:Bool) (d:Nat) (sub:Gs) (o:Oper) (b:Nat) (a:Gs)
 |Ac (w:Bool) (d:Nat) (sub:Gs) (o:Oper) (b:Nat)
def Gs.dst:Gs->Nat
 | .last _ d=>d
 | .op _ _ r=>r.dst
 | .nest _ _ _ _ _ r=>r.dst
 | .Ac _ _ _ _ a=>a
def Gs.ops:Gs->List Oper
 | .last o _=>[o]
 | .op o _ r=>o::r.ops
 | .nest _ _ s o _ r=>s.ops++o::r.ops
 | .Ac _ _ s o _=>s.ops++[o]
def gA(w:Bool) (c:V) (x:Option V):Option V:=match w with
 |true=>il c x
 |false=>kI c x
def Jv(b:Bool)(x:Option V):V:=Bool.rec (motive:=λ_=>V) V.undef (Option.rec (motive:=λ_=>V) V.undef (λv=>v) x) b
def IM(w:Bool)(v:V):Bool:=Option.rec (motive:=λ_=>Bool) false (λb=>b) (dA w v)
noncomputable def vG(g:Gs):Bool->dR->Hp->dR:=Gs.rec (motive:=λ_=>Bool->dR->Hp->dR) (λo d b ρ h=>dW ρ d (Jv b ((fh o).f (.fn ρ []) h))) (λo d _ c b ρ h=>c b (dW ρ d (Jv b ((fh o).f (.fn ρ []) h))) h) (λw d _ o e _ a c b ρ h=>c b (dW (a (IM w (ρ d)) ρ h) e (Jv b ((fh o).f (.fn (a (IM w (ρ d)) ρ h) []) h))) h) (λw d _ o e a b ρ h=>dW (a (IM w (ρ d)) ρ h) e (Jv b ((fh o).f (.fn (a (IM w (ρ d)) ρ h) []) h))) g
noncomputable def gE(g:Gs):dR->Hp->Option V:=Gs.rec (motive:=λ_=>dR->Hp->Option V) (λo _ ρ h=>(fh o).f (.fn ρ []) h) (λo d _ b ρ h=>oB ((fh o).f (.fn ρ []) h) λv=>b (dW ρ d v) h) (λw d sub _ c _ a b ρ h=>oB (gA w (ρ d) (a ρ h)) λv=>b (dW (vG sub (IM w (ρ d)) ρ h) c v) h) (λw d _ _ _ a ρ h=>gA w (ρ d) (a ρ h)) g
def K6(x:Operand) (d:Nat):Bool:=match x with
 | .tmp i=>Nat.beq i d
 |_=>false
def TV(x:Operand) (b:Bool):Bool:=match x with
 | .const v=>match jb 8 v with
   |some (.bool c)=>c == b
   |_=>false
 |_=>false
def KJ(o:Oper) (w:Bool) (d x:Nat):Bool:=match o.op with
 | .pick c a b=>K6 c d&&(match w with
   |true=>K6 a x&&TV b false
   |false=>K6 b x&&TV a true)
 |_=>false
def Yz(n:Nat) (o:Oper) (d:Nat):Bool:=match o.dst with
 |some d'=>Nat.beq d' d&&Nat.blt d n
 |none=>false
def Qj(n:Nat) (all:List Oper) (o:Oper) (w:Bool) (d:Nat):Bool:=match o.guard with
 | some (j,w')=>(w' == w)&&(match all[j]? with
   |some a=>Yz n a d
   |none=>false)
 |none=>false
def JM(n:Nat)(all:List Oper)(av:List Nat)(w:Bool)(d:Nat)(o:Oper)(d':Nat):Bool:=Nat.beq (cls o) 0&&Qj n all o w d&&Yz n o d'&&av.all (λi=>!(Nat.beq i d'))
def PN(n:Nat) (all:List Oper):List Nat->Bool->Nat->List Nat->Gs->Bool
 |av,w,d,_,.last o d'=>JM n all av w d o d'
 |av,w,d,ins,.op o d' r=>JM n all av w d o d'&&PN n all av w d (d'::ins) r
 |av,w,d,ins,.nest w' d' s o a r=>ins.any (λi=>Nat.beq i d')&&PN n all (d'::av) w' d' [] s&&JM n all av w d o a&&KJ o w' d' s.dst&&PN n all av w d (a::ins) r
 |av,w,d,ins, .Ac w' d' s o a=>ins.any (λi=>Nat.beq i d')&&PN n all (d'::av) w' d' [] s&&JM n all av w d o a&&KJ o w' d' s.dst
def Ch(n:Nat) (all:List Oper) (h:Hp):List Oper->dR->dR->Prop
 |[],ρ,ρ'=>ρ' = ρ
 | o::os,ρ,ρ'=>cls o=0/\∃d v,o.dst=some d/\Nat.blt d n=true/\((hO n all o=none/\(fh o).f (.fn ρ []) h=some v)\/
   ∃g b,hO n all o=some g/\g.f (.fn ρ [])=some b/\gV b ((fh o).f (.fn ρ []) h)=some v)/\Ch n all h os (dW ρ d v) ρ'
theorem Ch.app{n:Nat} {all:List Oper} {h:Hp}:∀{os a:List Oper} {ρ e f:dR},Ch n all h os ρ e->Ch n all h a e f->Ch n all h (os++a) ρ f
 |[],_,_,_,_,b,c=>by cases b;exact c
 |_::_,_,_,_,_,⟨hc,d,v,b,c,g,i⟩,j=>⟨hc,d,v,b,c,g,i.app j⟩
theorem Fb(ρ:dR)(d:Nat)(v:V):dW ρ d v d=v:=O2 ρ d v
theorem Qk{n:Nat} {all:List Oper} {o:Oper} {w:Bool} {d:Nat} (a:Qj n all o w d=true):∃g,hO n all o=some g/\∀ρ:dR,g.f (.fn ρ [])=dA w (ρ d):=by
 unfold Qj at a;split at a
 ·rename_i j w' b;simp only[rm,CG]at a;obtain⟨e,a⟩:=a;subst e;split at a
  ·rename_i l h;unfold Yz at a;split at a
   ·rename_i d' i;simp only[rm]at a;obtain⟨c,k⟩:=a;have c:=wC c;subst c;refine⟨_,by simp only[hO,b,h,i,k];rfl,λρ=>rfl⟩
   simp_all
  simp_all
 simp_all
theorem Ni{n:Nat} {all:List Oper} {av:List Nat} {w:Bool} {d:Nat} {o:Oper} {d':Nat} (hk:JM n all av w d o d' = true) :
  cls o=0/\(∃g,hO n all o=some g/\∀ρ:dR,g.f (.fn ρ [])=dA w (ρ d))/\o.dst=some d'/\Nat.blt d' n=true/\∀i∈av,i≠d':=by
 unfold JM at hk;simp only[rm]at hk;obtain⟨⟨⟨b,c⟩,a⟩,h⟩:=hk;refine⟨wC b,Qk c,?_⟩;unfold Yz at a;split at a
 ·rename_i e j;simp only[rm]at a
  grind[wC,Kd,OW,absurd]
 simp_all
theorem F0{x:Operand} {d:Nat} (h:K6 x d=true):x = .tmp d:=by
 unfold K6 at h
 grind[wC,absurd]
theorem No{x:Operand} {b:Bool} (a:TV x b=true) (t:Tm) (h:Hp):(nK x).f t h=some (.bool b):=by
 unfold TV at a;split at a
 ·rename_i v;split at a
  ·rename_i c hc;have e:c=b:=by simpa using a
   subst e;show(Hs (.const v)).f t=_
   grind[Hs]
  simp_all
 simp_all
theorem NY{o:Oper} {w:Bool} {d x:Nat} (e:KJ o w d x=true) {ρ:dR} {h:Hp} {c:Bool} (hc:ρ d = .bool c):(fh o).f (.fn ρ []) h=some (match w,c with
  |true,true=>ρ x
  |true,false=> .bool false
  |false,false=>ρ x
  |false,true=> .bool true)/\cls o=0:=by
 unfold KJ at e;split at e
 ·rename_i c' a b i;simp only[rm]at e;obtain⟨k,g⟩:=e;have l:=F0 k;subst l;refine⟨?_,by grind[cls]⟩;have e0:(nK (.tmp d)).f (.fn ρ []) h=some (.bool c):=by show some (ρ d)=_;rw[hc]
  unfold fh;rw[i];simp only[EX,e0,oB]
  cases w with
  | true=>
    simp only[rm]at g;have j:=F0 g.1;subst j
    cases c with
    |true=>rfl
    |false=>grind[No]
  | false=>
    simp only[rm]at g;have j:=F0 g.1;subst j
    cases c with
    |true=>grind[No]
    |false=>rfl
 simp_all
theorem Nu{w:Bool} {c:V} {x:Option V} {v:V} (a:gA w c x=some v):∃b,c = .bool b/\dA w c=some (b == w)/\((b=w/\x=some v)\/(b≠w/\v = .bool (!w))):=by
 unfold gA at a
 cases w with
 | true=>
   simp only[il]at a;split at a
   ·cases a;simp_all
   ·simp_all
   ·cases a
 | false=>
   simp only[kI]at a;split at a
   ·cases a;simp_all
   ·simp_all
   ·cases a
theorem LS(ρ:dR){d i:Nat}(v:V)(h:i≠d):dW ρ d v i=ρ i:=Sw ρ v h
theorem Ch.one{n:Nat} {all:List Oper} {av:List Nat} {w:Bool} {d:Nat} {o:Oper} {d':Nat} (hk:JM n all av w d o d' = true) {ρ:dR} {h:Hp} {b:Bool} (i:dA w (ρ d)=some b) {v:V}
  (j:gV b ((fh o).f (.fn ρ []) h)=some v):Ch n all h [o] ρ (dW ρ d' v):=by
 obtain⟨a,⟨g,k,l⟩,c,e,m⟩:=Ni hk;exact⟨a,d',v,c,e,by grind,rfl⟩
theorem Fp{b:Bool} {x:Option V} {v:V} (h:gV b x=some v):Jv b x=v:=by
 cases b with
 |true=>have h':x=some v:=h;subst h';rfl
 |false=>cases h;rfl
def Li(n:Nat) (all:List Oper) (av:List Nat) (os:List Oper) (b:Bool) (ρ a:dR) (h:Hp) (d:Nat) (x:V):Prop:=Ch n all h os ρ a/\a d=x/\(∀i∈av,a i=ρ i)/\(b=false->∀i,ρ i = .undef->a i = .undef)
theorem Li.one{n:Nat} {all:List Oper} {av:List Nat} {w:Bool} {d:Nat} {o:Oper} {d':Nat} (hk:JM n all av w d o d' = true) {ρ:dR} {h:Hp} {b:Bool} (c:dA w (ρ d)=some b) {v:V}
  (a:gV b ((fh o).f (.fn ρ []) h)=some v):Li n all av [o] b ρ (dW ρ d' v) h d' v:=by
 obtain⟨_,_,_,_,g⟩:=Ni hk;refine⟨Ch.one hk c a,Fb _ _ _,by grind[LS],λe i hi=>?_⟩;subst e;cases a
 grind[Fb,LS]
theorem Li.trans{n:Nat} {all:List Oper} {av:List Nat} {os a:List Oper} {b:Bool} {ρ g j:dR} {h:Hp} {d d':Nat} {x k:V} (f:Li n all av os b ρ g h d x) (c:Li n all av a b g j h d' k):Li n all av (os++a) b ρ j h d' k:=
 ⟨f.1.app c.1,c.2.1,λi hi=>(c.2.2.1 i hi).trans (f.2.2.1 i hi),λe i hi=>c.2.2.2 e i (f.2.2.2 e i hi)⟩
theorem Pm{n:Nat} {all:List Oper}:∀(g:Gs) {av:List Nat} {w:Bool} {d:Nat} {k:List Nat},PN n all av w d k g=true->d∈av->∀{ρ:dR} {h:Hp} {b:Bool},dA w (ρ d)=some b->
  (b=false->∀i∈k,ρ i = .undef)->∀{x:V},gV b (gE g ρ h)=some x->Li n all av g.ops b ρ (vG g b ρ h) h g.dst x:=by
 have nest:∀(s:Gs),(∀{av:List Nat} {w:Bool} {d:Nat} {k:List Nat},PN n all av w d k s=true->d∈av->∀{ρ:dR} {h:Hp} {b:Bool},dA w (ρ d)=some b->
    (b=false->∀i∈k,ρ i = .undef)->∀{x:V},gV b (gE s ρ h)=some x->Li n all av s.ops b ρ (vG s b ρ h) h s.dst x)->
   ∀{av:List Nat} {w w':Bool} {d d' q:Nat} {k:List Nat} {o:Oper},k.any (λi=>Nat.beq i d')=true->PN n all (d'::av) w' d' [] s=true->JM n all av w d o q=true->KJ o w' d' s.dst=true->d∈av->
   ∀{ρ:dR} {h:Hp} {b:Bool},dA w (ρ d)=some b->(b=false->∀i∈k,ρ i = .undef)->∀{v:V},gV b (gA w' (ρ d') (gE s ρ h))=some v->
   gV b ((fh o).f (.fn (vG s (IM w' (ρ d')) ρ h) []) h)=some v/\Li n all av (s.ops++[o]) b ρ (dW (vG s (IM w' (ρ d')) ρ h) q v) h q v:=by
  intro s E av w w' d d' q k o J hc U Z m ρ h b p hi v u;obtain⟨i,aa,K⟩:=List.any_eq_true.1 J;have e:=wC K;subst e
  cases b with
  | true=>
    obtain⟨c,L,F,W⟩:=Nu (show gA w' (ρ i) (gE s ρ h)=some v from u);have M:IM w' (ρ i)=(c == w'):=by unfold IM;rw[F]
    rw[M];obtain⟨y,hy⟩:∃y,gV (c == w') (gE s ρ h)=some y/\(c=w'->y=v):=by
      rcases W with⟨G,N⟩|⟨G,N⟩
      ·simp_all
      ·have:(c == w')=false:=by simp[G]
       rw[this];simp_all
    obtain⟨O,X,P,k4⟩:=E hc (Si ..) F (by simp_all) hy.1;have Q:vG s (c == w') ρ h i = .bool c:=by rw[P i (Si ..)];exact L
    have R:=(NY Z (h:=h) Q).1;have t:(fh o).f (.fn (vG s (c == w') ρ h) []) h=some v:=by
      rw[R,X];rcases W with⟨G,N⟩|⟨G,N⟩
      ·grind
      ·grind
    refine⟨t,?_⟩;have a:=Li.one U (ρ:=vG s (c == w') ρ h) (h:=h) (b:=true) (by simp_all) (v:=v) t
    refine⟨O.app a.1,a.2.1,λj H=>(a.2.2.1 j H).trans (by simp_all),by simp_all⟩
  | false=>
    have L:ρ i = .undef:=by simp_all
    have F:dA w' (ρ i)=some false:=by rw[L];rfl
    have M:IM w' (ρ i)=false:=by unfold IM;rw[F]
    rw[M];cases u;obtain⟨O,X,P,k4⟩:=E hc (Si ..) F (by simp_all) (x:= .undef) rfl;refine⟨rfl,?_⟩;have a:=Li.one U (ρ:=vG s false ρ h) (h:=h) (b:=false) (by rw[P d (List.mem_cons_of_mem _ m)];exact p) (v:= .undef) rfl;exact⟨O.app a.1,a.2.1,λj H=>(a.2.2.1 j H).trans (by simp_all),λe j H=>a.2.2.2 e j (by simp_all)⟩
 intro g
 induction g with
 | last o d'=>
   intro av w d k hk m ρ h b p hi x z;have l:gV b ((fh o).f (.fn ρ []) h)=some x:=z;show Li n all av [o] b ρ (dW ρ d' (Jv b ((fh o).f (.fn ρ []) h))) h d' x;rw[Fp l]
   exact Li.one hk p l
 | op o d' r E=>
   intro av w d k hk m ρ h b p hi x z;simp only[PN,rm]at hk;obtain⟨v,u,l⟩:∃v,gV b ((fh o).f (.fn ρ []) h)=some v/\gV b (gE r (dW ρ d' v) h)=some x:=by
     cases b with
     | true=>
       obtain⟨v,A,B⟩:=c7.1 (show oB ((fh o).f (.fn ρ []) h) _=some x from z)
       exact⟨v,A,B⟩
     |false=>simp_all
   have a:=Li.one hk.1 p u;show Li n all av ([o]++r.ops) b ρ (vG r b (dW ρ d' (Jv b ((fh o).f (.fn ρ []) h))) h) h r.dst x;rw[Fp u];refine a.trans (E hk.2 m (by rw[a.2.2.1 d m];exact p) ?_ l);intro e i C;rcases HS.1 C with e'|e'
   ·simp_all[Fb]
   ·exact a.2.2.2 e i (by simp_all)
 | nest w' d' s o q r D E=>
   intro av w d k hk m ρ h b p hi x z;simp only[PN,rm]at hk;obtain⟨⟨⟨⟨A,B⟩,S⟩,T⟩,h5⟩:=hk;obtain⟨v,u,l⟩:∃v,gV b (gA w' (ρ d') (gE s ρ h))=some v/\gV b (gE r (dW (vG s (IM w' (ρ d')) ρ h) q v) h)=some x:=by
     cases b with
     | true=>
       obtain⟨v,A,B⟩:=c7.1 (show oB (gA w' (ρ d') (gE s ρ h)) _=some x from z)
       exact⟨v,A,B⟩
     |false=>simp_all
   obtain⟨Y,I⟩:=nest s D A B S T m p hi u;show Li n all av (s.ops++([o]++r.ops)) b ρ (vG r b (dW (vG s (IM w' (ρ d')) ρ h) q (Jv b ((fh o).f (.fn (vG s (IM w' (ρ d')) ρ h) []) h))) h) h r.dst x;rw[Fp Y,<-Hq];refine I.trans (E h5 m (by rw[I.2.2.1 d m];exact p) ?_ l);intro e i C;rcases HS.1 C with e'|e'
   ·simp_all[Fb]
   ·exact I.2.2.2 e i (by simp_all)
 | Ac w' d' s o q D=>
   intro av w d k hk m ρ h b p hi x z;simp only[PN,rm]at hk;obtain⟨⟨⟨A,B⟩,S⟩,T⟩:=hk;obtain⟨Y,I⟩:=nest s D A B S T m p hi (show gV b (gA w' (ρ d') (gE s ρ h))=some x from z);show Li n all av (s.ops++[o]) b ρ (dW (vG s (IM w' (ρ d')) ρ h) q (Jv b ((fh o).f (.fn (vG s (IM w' (ρ d')) ρ h) []) h))) h q x
   grind[Fp]
inductive Mq where
 |op (o:Oper) (d:Nat)
 |nest (w:Bool) (d:Nat) (sub:Gs) (o:Oper) (a:Nat)
def Mq.dst:Mq->Nat
 | .op _ d=>d
 | .nest _ _ _ _ a=>a
def Mq.ops:Mq->List Oper
 | .op o _=>[o]
 | .nest _ _ s o _=>s.ops++[o]
def Mq.one:Mq->Gs
 | .op o d=> .last o d
 | .nest w d s o a=> .Ac w d s o a
def Mq.cons(r:Gs):Mq->Gs
 | .op o d=> .op o d r
 | .nest w d s o a=> .nest w d s o a r
def Y9(all:List Oper) (o:Oper):Option (Bool×Nat):=match o.guard with
 | some (j,w)=>match all[j]? with
   | some a=>match a.dst with
     |some d=>some (w,d)
     |none=>none
   |none=>none
 |none=>none
def JI(n : Nat) (all:List Oper) (SC:Bool->Nat->List Nat->List Oper->Option (Gs×List Oper)) (w:Bool) (d:Nat) (a:List Nat) (os:List Oper):Option (Mq×List Oper):=match os with
  |[]=>none
  | o ::os'=>match Qj n all o w d&&Nat.beq (cls o) 0,o.dst with
    |true,some d'=>some (.op o d',os')
    | _,_ => match Y9 all o with
      |none=>none
      | some (w',d')=>match a.any (λi=>Nat.beq i d')with
        |false=>none
        | true=>match SC w' d' [] (o::os')with
          | some (s,p::os'')=>match Qj n all p w d&&KJ p w' d' s.dst,p.dst with
            |true,some dp=>some (.nest w' d' s p dp,os'')
            |_,_=>none
          |_=>none
noncomputable def SC(n:Nat) (all:List Oper) (fuel:Nat):Bool->Nat->List Nat->List Oper->Option (Gs×List Oper):=
 Nat.rec (motive:=λ_=>Bool->Nat->List Nat->List Oper->Option (Gs×List Oper)) (λ_ _ _ _=>none) (λ_ b w d a os=>match JI n all b w d a os with
  |none=>none
  | some (it,os')=>match b w d (it.dst::a) os' with
    |some (g,r)=>some (it.cons g,r)
    |none=>some (it.one,os')) fuel
theorem L7{n:Nat} {all:List Oper} {SC:Bool->Nat->List Nat->List Oper->Option (Gs×List Oper)} (b:∀w d a os g r,SC w d a os=some (g,r)->os=g.ops++r) {w:Bool} {d:Nat} {a:List Nat} {os:List Oper} {it:Mq} {r:List Oper}
  (h:JI n all SC w d a os=some (it,r)):os=it.ops++r:=by
 unfold JI at h;split at h
 ·cases h
 ·split at h
  ·cases h;rfl
  ·split at h
   ·cases h
   grind[Mq.ops,Hq]
theorem Jn{n:Nat} {all:List Oper}:∀(fuel:Nat) (w:Bool) (d:Nat) (a:List Nat) (os:List Oper) (g:Gs) (r:List Oper),SC n all fuel w d a os=some (g,r)->os=g.ops++r
 |0,_,_,_,_,_,_,h=>by cases h
 | fuel+1,w,d,a,os,g,r,h=>by
   have h':(match JI n all (SC n all fuel) w d a os with
     |none=>none
     | some (it,b)=>match SC n all fuel w d (it.dst::a) b with
       |some (g,r)=>some (it.cons g,r)
       |none=>some (it.one,b))=some (g,r):=h
   split at h'
   ·cases h'
   ·rename_i it b c
    have f:=L7 (λw d a os g r e=>Jn fuel w d a os g r e) c;split at h'
    ·rename_i j r' e
     cases h';have i:=Jn fuel _ _ _ _ _ _ e;rw[f,i];cases it <;> simp[Mq.ops,Mq.cons,Gs.ops]
    ·cases h'
     rw[f];cases it <;> simp[Mq.ops,Mq.one,Gs.ops]
noncomputable def Ry(n:Nat) (all:List Oper) (os:List Oper):Option (Bool×Nat×Gs×Nat):=match os with
 |[]=>none
 | o ::_ => match o.guard with
   |none=>none
   | some (j,w)=>match all[j]? with
     |none=>none
     | some a=>match a.guard,a.dst,Nat.beq (cls o) 0 with
       | none,some d,true=>match SC n all 60 w d [] os with
         | some (g,p::_)=>match p.guard,p.dst with
           | none,some dp=>match KJ p w d g.dst&&Nat.blt dp n&&PN n all [d] w d [] g with
             |true=>some (w,d,g,dp)
             |false=>none
           |_,_=>none
         |_=>none
       |_,_,_=>none
theorem SG{n:Nat} {all os:List Oper} {w:Bool} {d:Nat} {g:Gs} {a:Nat} (h:Ry n all os=some (w,d,g,a)):∃p r,os=g.ops++p::r/\p.guard=none/\p.dst=some a/\KJ p w d g.dst=true/\Nat.blt a n=true/\PN n all [d] w d [] g=true:=by
 unfold Ry at h;split at h
 ·cases h
 ·split at h
  ·cases h
  ·split at h
   ·cases h
   ·split at h
    ·split at h
     ·rename_i c;split at h
      ·rename_i e f;split at h
       ·rename_i b;cases h;simp only[rm]at b
        grind[Jn]
       ·cases h
      ·cases h
     ·cases h
    ·cases h
theorem A1{n:Nat} {o:Oper} {K a:dR->Hp->Prop} (b:∀ρ h,K ρ h->a ρ h) {v:V} {ρ:dR} {h:Hp} (hk:kC n o K v ρ h):kC n o a v ρ h:=by
 grind[kC,Nat.blt]
theorem k5{α:Type}{x:Option α}{k k':α->Prop}(h:oP x k)(f:∀a,k a->k' a):oP x k':=by grind[oM]
theorem Q9{C:dc} {o:Oper} {K b:V->dR->Hp->Prop} (d:∀v ρ h,K v ρ h->b v ρ h) {ρ:dR} {h:Hp} (hk:Kf C o K ρ h):Kf C o b ρ h:=by
 unfold Kf at hk⊢;generalize cls o=c at hk⊢;rcases c with _|_|c
 ·grind[k5]
 ·grind[k5]
 ·show Ld C o b ρ h;have a:Ld C o K ρ h:=hk;unfold Ld at a⊢;cases hi:tn o
  all_goals rw[hi]at a
  ·grind[k5]
  ·exact k5 a λx H=>H.mono (by simp_all)
theorem Qx{C:dc} {o:Oper} {b:Bool} {K a:V->dR->Hp->Prop} (d:∀v ρ h,K v ρ h->a v ρ h) {ρ:dR} {h:Hp} (hk:Sg C o b K ρ h):Sg C o b a ρ h:=by
 unfold Sg at hk⊢;generalize cls o=c at hk⊢;rcases c with _|_|c
 ·grind[k5]
 ·grind[k5]
 ·simp only at hk⊢;cases hi:tn o
  all_goals rw[hi]at hk
  ·grind[k5]
  ·refine k5 hk λx H=>?_
   cases x with
   |none=>simp_all
   |some y=>exact cP.mono H (by simp_all)
theorem Me{C:dc} {n:Nat} {all:List Oper} {o:Oper} {K a:dR->Hp->Prop} (b:∀ρ h,K ρ h->a ρ h) {ρ:dR} {h:Hp} (hk:uu C n all o K ρ h):uu C n all o a ρ h:=by
 unfold uu at hk⊢
 cases hd:uA o with
 |some q=>simp_all
 | none=>
   rw[hd]at hk;simp only at hk⊢
   cases hw:hO n all o with
   |none=>rw[hw]at hk;grind[Q9,A1]
   |some g=>grind[k5,Qx,A1]
theorem RS(C:dc) (n:Nat) (all:List Oper) (o:Oper) (K:dR->Hp->Prop):N8 C n all o K=uu C n all o K:=by
 grind[N8,uu,VM]
theorem DR{o:Oper} (h:cls o=0):uA o=none:=by
 grind[uA,cls]
theorem Ch.ua{C:dc} {n:Nat} {all:List Oper} {h:Hp} {K:dR->Hp->Prop} {a:List Oper}:∀{os:List Oper} {ρ b:dR},Ch n all h os ρ b->ua C n all K a b h->ua C n all K (os++a) ρ h
 |[],_,_,hc,hk=>by cases hc;exact hk
 | o::os,ρ,b,⟨h0,d,v,c,e,i,f⟩,hk=>by
   have g:=f.ua (C:=C) (K:=K) hk;have j:kC n o (Hx.ua C n all K (os++a)) v ρ h:=by unfold kC;rw[c];simp only[e];exact g
   show uu C n all o (Hx.ua C n all K (os++a)) ρ h
   grind[uu,DR,Kf,cO,Sg]
noncomputable def My(C:dc) (n:Nat) (all:List Oper) (K:dR->Hp->Prop) (os:List Oper):Nat->dR->Hp->Prop:=
 List.rec (motive:=λ_=>Nat->dR->Hp->Prop) (λ_=>K) (λo os a b=>Nat.rec (motive:=λ_=>dR->Hp->Prop)
  (match Ry n all (o::os)with
   |some (w,d,g,dp)=>λρ h=>oP (gA w (ρ d) (gE g ρ h)) λv=>a g.ops.length (dW (vG g (IM w (ρ d)) ρ h) dp v) h
   |none=>N8 C n all o (a 0)) (λk _=>a k) b) os
theorem CA{C:dc} {n:Nat} {all:List Oper} {K:dR->Hp->Prop}:∀(os:List Oper) (e:Nat) {ρ:dR} {h:Hp},My C n all K os e ρ h->ua C n all K (os.drop e) ρ h
 |[],e,ρ,h,hk=>by rw[List.drop_nil];exact hk
 |o::os,e+1,ρ,h,hk=>CA os e hk
 | o ::os,0,ρ,h,hk=>by
   have a:(match Ry n all (o::os)with
     |some (w,d,g,k)=>λ(ρ:dR) (h:Hp)=>oP (gA w (ρ d) (gE g ρ h)) λv=>My C n all K os g.ops.length (dW (vG g (IM w (ρ d)) ρ h) k v) h
     |none=>N8 C n all o (My C n all K os 0):dR->Hp->Prop) ρ h:=hk
   show ua C n all K (o::os) ρ h
   cases hg:Ry n all (o::os)with
   | some x=>
     obtain⟨w,d,g,k⟩:=x;rw[hg]at a;simp only at a;obtain⟨p,r,q,N,A,b,i,B⟩:=SG hg;obtain⟨v,D,s⟩:=hK.1 a;obtain⟨c,E,c2,t⟩:=Nu D;have F:IM w (ρ d)=(c == w):=by unfold IM;rw[c2]
     rw[F]at s;obtain⟨y,G⟩:∃y,gV (c == w) (gE g ρ h)=some y/\(c=w->y=v):=by
       rcases t with⟨b,i⟩|⟨b,i⟩
       ·simp_all
       ·have:(c == w)=false:=by simp[b]
        rw[this];simp_all
     obtain⟨H,I,J,O⟩:=Pm g B (Si ..) c2 (by simp_all) G.1;have l:vG g (c == w) ρ h d = .bool c:=by rw[J d (Si ..)];exact E
     have j:=NY b (h:=h) l;have u:(fh p).f (.fn (vG g (c == w) ρ h) []) h=some v:=by
       rw[j.1,I];rcases t with⟨b,i⟩|⟨b,i⟩
       ·grind
       ·grind
     have m:Ch n all h [p] (vG g (c == w) ρ h) (dW (vG g (c == w) ρ h) k v):=⟨j.2,k,v,A,i,by grind[hO],rfl⟩
     have hlen:os.drop g.ops.length=r:=by
       have L:(o::os).drop (g.ops.length+1)=r:=by rw[q,List.append_cons];exact by simp_all
       exact L
     have z:=CA os _ s;rw[hlen]at z;rw[q,List.append_cons]
     exact(H.app m).ua z
   | none=>
     rw[hg]at a;simp only[RS]at a;exact Me (λρ h M=>by have:=CA os 0 M;exact this) a
def yf(o:Oper):Bool:=match o.op with
 | .move x| .assign x| .nilCheck x| .fieldAddr _ x _| .field _ x _| .unOp _ _ x| .extract x _=>Jl x
 | .pick c a b=>Jl c&&Jl a&&Jl b
 | .binOp _ _ x y _=>Jl x&&Jl y
 | .indexAddr _ x i| .index _ x i=>Jl x&&Jl i
 | .build _ _| .makeFunc _ _ _=>true
 | .makeInterface _ x=>Jl x
 | .call c=>match c.callee,c.args.toList,c.argTypes.toList with
   | .builtin .len,[x],ty::_=>match P0.underlying ty with
     |some (.slice _)=>Jl x
     |_=>false
   |_,_,_=>false
 |_=>false
theorem Qg{o:Oper} (a:yf o=true) (t:Tm) (h h':Hp):(fh o).f t h=(fh o).f t h':=by
 unfold yf at a;unfold fh;split at a
 all_goals rename_i b
 all_goals try rw[b]
 all_goals try simp only[rm]at a
 ·grind[hJ]
 ·grind[hJ]
 ·grind[uk,hJ]
 ·grind[ma,hJ]
 ·grind[BV,hJ]
 ·grind[hJ]
 ·grind[Al,hJ]
 ·grind[EX,hJ]
 ·grind[hJ]
 ·grind[l0,hJ]
 ·grind[BR,hJ]
 ·simp only[Cd];grind
 ·split <;> first|rfl|simp_all
 ·dsimp only;split <;> first|rfl|grind[hJ]
 ·grind[hlen,hJ,absurd]
 simp_all
abbrev RE:=Bool×Rec×Bool×Bool
def BN(k:Nat) (h:Hp) (rs:List RE) (K:Prop):Prop:=List.rec (motive:=λ_=>Prop) K (λr _ a=>Bool.rec (motive:=λ_=>Prop) (Option.rec (motive:=λ_=>Prop) (Bool.rec (motive:=λ_=>Prop) a (Bool.rec (motive:=λ_=>Prop) True (zq h r.2.1) r.1/\a) r.2.2.2) (λ_=>Bool.rec (motive:=λ_=>Prop) True (zq h r.2.1) r.1/\a) r.2.1.made) a (Nat.blt r.2.1.last k)) rs
def CP(rs:List RE):List RE:=rs.map λr=>(r.1,r.2.1,r.2.2.1,!r.2.2.1)
def oW(rs:List RE):List (Bool×Rec):=rs.map λr=>(r.1,r.2.1)
def YT(C:dc) (n:Nat) (all:List Oper) (ws:List It) (a:It) (d:Nat->dR->Hp->List RE->Prop) (k:Nat):dR->Hp->List RE->Prop:=match cls a.o with
  | 0 =>match hO n all a.o with
    | none=>match isVal a.o with
      |true=>λρ h rs=>Option.rec (motive:=λ_=>Prop) False (λv=>kC n a.o (λc h=>d k c h ((true,{it:=a,t:= .fn ρ [],v,made:=none,last:=late ws a},yf a.o,false)::rs)) v ρ h) ((fh a.o).f (.fn ρ []) h)
      |false=>λρ h rs=>oP ((fh a.o).f (.fn ρ []) h) λv=>kC n a.o (λc h=>d k c h ((true,{it:=a,t:= .fn ρ [],v,made:=none,last:=late ws a},yf a.o,false)::rs)) v ρ h
    |some g=>λρ h rs=>oP (g.f (.fn ρ [])) λb=>oP (gV b ((fh a.o).f (.fn ρ []) h)) λv=>
       kC n a.o (λc h=>d k c h ((b,{it:=a,t:= .fn ρ [],v,made:=none,last:=late ws a},yf a.o,false)::rs)) v ρ h
  | 1=>match hO n all a.o with
    |none=>λρ h rs=>oP ((lK a.o).f (.fn ρ [])) λr=>kC n a.o (λc h'=>d k c h' ((true,{it:=a,t:= .fn ρ [],v:=r.2 h.next,made:=some (h.next,r.1),last:=late ws a},false,false)::CP rs)) (r.2 h.next) ρ (h.new r.1)
    |some _=>λ_ _ _=>False
  | _ =>match hO n all a.o with
    |none=>λρ h rs=>BN k h rs (Ld C a.o (λv ρ h'=>h.next<=h'.next/\kC n a.o (λρ h=>d (Nat.succ k) ρ h (CP rs)) v ρ h') ρ h)
    | some g=>match tn a.o with
      |true=>λρ h rs=>BN k h rs (oP (g.f (.fn ρ [])) λb=>oP (gC b (oB ((gK a.o).f (.fn ρ []) h) B0)) λx=>tv C x h λv h'=>h.next<=h'.next/\kC n a.o (λρ h=>d (Nat.succ k) ρ h (CP rs)) v ρ h')
      |false=>λ_ _ _=>False
def BY(l:List It):Bool:=l.all λa=>Nat.beq (cls a.o) 0
def MD(C:dc) (n:Nat) (all:List Oper) (ws:List It) (K:dR->Hp->Prop) (l:List It):Nat->dR->Hp->List RE->Prop:=
 List.rec (motive:=λ_=>Nat->dR->Hp->List RE->Prop) (λk ρ h rs=>BN k h rs (K ρ h)) (λa l b k=>match BY (a::l)with
  |true=>λρ h rs=>My C n all (λρ h=>BN k h rs (K ρ h)) ((a::l).map (·.o)) 0 ρ h
  |false=>YT C n all ws a b k) l
def OQ(h:Hp)(rs:List RE):Prop:=∀r∈rs,r.1=true->r.2.1.made=none->(r.2.2.1=true->∀h',zq h' r.2.1)/\(r.2.2.2=false->zq h r.2.1)
theorem OQ.C8{h:Hp} {rs:List RE} (hi:OQ h rs) (h':Hp):OQ h' (CP rs):=by
 intro r b c d;obtain⟨r',a,e⟩:=E7.1 b;subst e;obtain⟨f,_⟩:=hi r' a c d
 simp_all
theorem FE(rs:List RE):oW (CP rs)=oW rs:=by
 simp[oW,CP]
theorem te{k:Nat} {h:Hp}:∀{rs:List RE} {K d:Prop},OQ h rs->(K->d)->BN k h rs K->rT k h (oW rs) d
 |[],_,_,_,hk,hh=>hk hh
 | (b,r,f,st)::rs,K,d,hi,hk,hh=>by
   have c:OQ h rs:=λr c=>hi r (List.mem_cons_of_mem _ c);have h0:=hi _ (Si ..)
   have a:Bool.rec (motive:=λ_=>Prop)
     (Option.rec (motive:=λ_=>Prop) (Bool.rec (motive:=λ_=>Prop) (BN k h rs K) (Bool.rec (motive:=λ_=>Prop) True (zq h r) b/\BN k h rs K) st)
     (λ_=>Bool.rec (motive:=λ_=>Prop) True (zq h r) b/\BN k h rs K) r.made) (BN k h rs K) (Nat.blt r.last k):=hh
   show Bool.rec (motive:=λ_=>Prop) (Bool.rec (motive:=λ_=>Prop) True (zq h r) b/\rT k h (oW rs) d) (rT k h (oW rs) d) (Nat.blt r.last k)
   cases hb:Nat.blt r.last k with
   |true=>rw[hb]at a;exact te c hk a
   | false=>
     rw[hb]at a
     cases hm:r.made with
     |some x=>rw[hm]at a;exact⟨a.1,te c hk a.2⟩
     | none=>
       rw[hm]at a
       cases st with
       |true=>exact⟨a.1,te c hk a.2⟩
       | false=>
         refine⟨?_,te c hk a⟩;cases b <;> grind
theorem R4{C:dc} {o:Oper} {K a:V->dR->Hp->Prop} (b:∀v ρ h,K v ρ h->a v ρ h) {ρ:dR} {h:Hp} (hk:Ld C o K ρ h):Ld C o a ρ h:=by
 unfold Ld at hk⊢;cases hi:tn o
 all_goals rw[hi]at hk
 ·grind[k5]
 ·exact k5 hk λx H=>H.mono (by simp_all)
theorem Iv{k:Nat} {h:Hp} {K:Prop} {rs:List (Bool×Rec)}:∀{new:List (Bool×Rec)},(∀r∈new,r.1=true->zq h r.2)->rT k h rs K->rT k h (new++rs) K
 |[],_,hh=>hh
 | r ::new,hn,hh=>by
   have a:=Iv (new:=new) (by simp_all) hh;show rT k h (r::(new++rs)) K;simp only[rT]
   cases hb:Nat.blt r.2.last k with
   |true=>exact a
   | false=>
     refine⟨?_,a⟩;cases hb:r.1 <;> grind
theorem Gf{C:dc} {n:Nat} {all:List Oper} {ws:List It} {K:dR->Hp->Prop} {k:Nat} {rs:List (Bool×Rec)}:∀{l:List It} {ρ:dR} {h:Hp} {new:List (Bool×Rec)},BY l=true->(∀r∈new,r.1=true->zq h r.2)->
  ua C n all (λρ h=>rT k h rs (K ρ h)) (l.map (·.o)) ρ h->Co C n all ws K l k ρ h (new++rs)
 |[],_,_,_,_,hn,hk=>Iv hn hk
 | a ::l,ρ,h,new,m,hn,hk=>by
   simp only[BY,Ul,rm]at m;obtain⟨hc,m⟩:=m;have hc:=wC hc;have c:uu C n all a.o (ua C n all (λρ h=>rT k h rs (K ρ h)) (l.map (·.o))) ρ h:=hk;show Vh C n all ws a (Co C n all ws K l) k ρ h (new++rs)
   have p:∀{b:Bool} {v:V},(b=true->(fh a.o).f (.fn ρ []) h=some v)->kC n a.o (ua C n all (λρ h=>rT k h rs (K ρ h)) (l.map (·.o))) v ρ h->
       kC n a.o (λx h=>Co C n all ws K l k x h ((b,{it:=a,t:= .fn ρ [],v,made:=none,last:=late ws a})::(new++rs))) v ρ h:=by
     intro b v q j;have i:∀r∈(b,({it:=a,t:= .fn ρ [],v,made:=none,last:=late ws a}:Rec))::new,r.1=true->zq h r.2:=by
       intro r y s;rcases HS.1 y with e|e
       ·subst e;exact q s
       ·grind
     unfold kC at j⊢
     cases ho:a.o.dst with
     |none=>rw[ho]at j;exact Gf m i j
     | some d=>
       rw[ho]at j;simp only at j⊢
       cases q:Nat.blt d n with
       |true=>rw[q]at j;exact Gf m i j
       |false=>simp_all
   unfold uu at c;rw[DR hc]at c;simp only at c;unfold Vh;rw[hc];simp only
   cases hw:hO n all a.o with
   | none=>
     rw[hw]at c;simp only[Kf,hc]at c;obtain⟨v,u,w⟩:=hK.1 c
     simp_all
   | some g=>
     rw[hw]at c;simp only[Sg,hc]at c;obtain⟨b,h0,c⟩:=hK.1 c;obtain⟨v,u,w⟩:=hK.1 c;exact cO h0 (cO u (p (λe=>by simp_all) w))
theorem DY{C:dc} {n:Nat} {all:List Oper} {K f:dR->Hp->Prop} {h:Hp} (i:∀ρ,K ρ h->f ρ h):∀{l:List It} {ρ:dR},BY l=true->ua C n all K (l.map (·.o)) ρ h->ua C n all f (l.map (·.o)) ρ h
 |[],_,_,hk=>i _ hk
 | a ::l,ρ,e,hk=>by
   simp only[BY,Ul,rm]at e;obtain⟨hc,e⟩:=e;have hc:=wC hc;have b:uu C n all a.o (ua C n all K (l.map (·.o))) ρ h:=hk;show uu C n all a.o (ua C n all f (l.map (·.o))) ρ h;have j:∀{v:V},kC n a.o (ua C n all K (l.map (·.o))) v ρ h->kC n a.o (ua C n all f (l.map (·.o))) v ρ h:=by
     intro v c;unfold kC at c⊢
     cases ho:a.o.dst with
     |none=>rw[ho]at c;exact DY i e c
     | some d=>
       rw[ho]at c;simp only at c⊢
       cases hb:Nat.blt d n with
       |true=>rw[hb]at c;exact DY i e c
       |false=>simp_all
   unfold uu at b⊢;rw[DR hc]at b⊢;simp only at b⊢
   cases hw:hO n all a.o with
   | none=>
     grind[Kf,hK,cO]
   | some g=>
     rw[hw]at b
     grind[Sg,hK,cO]
theorem Fe{C:dc} {n:Nat} {all:List Oper} {ws:List It} {K:dR->Hp->Prop}:∀(l:List It) {k:Nat} {ρ:dR} {h:Hp} {rs:List RE},OQ h rs->MD C n all ws K l k ρ h rs->Co C n all ws K l k ρ h (oW rs)
 |[],_,_,_,_,hi,hk=>te hi (λx=>x) hk
 | a ::l,k,ρ,h,rs,hi,hk=>by
   have i:(match BY (a::l)with
     |true=>λ(ρ:dR) (h:Hp) (rs:List RE)=>My C n all (λρ h=>BN k h rs (K ρ h)) ((a::l).map (·.o)) 0 ρ h
     |false=>YT C n all ws a (MD C n all ws K l) k:dR->Hp->List RE->Prop) ρ h rs:=hk
   cases hp:BY (a::l)with
   | true=>
     rw[hp]at i;have A:=CA _ 0 i
     exact Gf (new:=[]) hp (by simp_all) (DY (λρ m=>te hi (λx=>x) m) hp A)
   | false =>
     rw[hp]at i;simp only at i;show Vh C n all ws a (Co C n all ws K l) k ρ h (oW rs)
     have pure:∀{b:Bool} {v:V},gV b ((fh a.o).f (.fn ρ []) h)=some v->∀{j:dR},MD C n all ws K l k j h ((b,{it:=a,t:= .fn ρ [],v,made:=none,last:=late ws a},yf a.o,false)::rs)->
         Co C n all ws K l k j h ((b,{it:=a,t:= .fn ρ [],v,made:=none,last:=late ws a})::oW rs):=by
       intro b v p j m;refine Fe l (rs:=(b,{it:=a,t:= .fn ρ [],v,made:=none,last:=late ws a},yf a.o,false)::rs) ?_ m;intro r s q u;rcases HS.1 s with e|e
       ·subst e
        have w:b=true:=q;subst w;refine⟨λB h'=>?_,λ_=>p⟩;show(fh a.o).f (.fn ρ []) h' = some v;rw[Qg B _ h' h];exact p
       ·exact hi r e q u
     have dst:∀{b:Bool} {v:V},gV b ((fh a.o).f (.fn ρ []) h)=some v->kC n a.o (λj h=>MD C n all ws K l k j h ((b,{it:=a,t:= .fn ρ [],v,made:=none,last:=late ws a},yf a.o,false)::rs)) v ρ h->
         kC n a.o (λj h=>Co C n all ws K l k j h ((b,{it:=a,t:= .fn ρ [],v,made:=none,last:=late ws a})::oW rs)) v ρ h:=by
       intro b v p D;unfold kC at D⊢
       cases ho:a.o.dst with
       |none=>grind
       | some d=>
         grind
     unfold YT at i;unfold Vh;generalize hc:cls a.o=c at i;rcases c with _|_|c
     ·simp only at i⊢
      cases hw:hO n all a.o with
      | none=>
        rw[hw]at i;simp only at i⊢;have z:oP ((fh a.o).f (.fn ρ []) h) λv=>kC n a.o (λj h=>MD C n all ws K l k j h ((true,{it:=a,t:= .fn ρ [],v,made:=none,last:=late ws a},yf a.o,false)::rs)) v ρ h:=by
          cases p:isVal a.o <;> (rw[p]at i;exact i)
        obtain⟨v,A,F⟩:=hK.1 z
        simp_all
      | some g=>
        grind[hK,cO]
     ·simp only at i⊢
      cases hw:hO n all a.o with
      | none=>
        rw[hw]at i;refine k5 i λr H=>A1 (λj h' m=>?_) H;have:=Fe l (rs:=(true,{it:=a,t:= .fn ρ [],v:=r.2 h.next,made:=some (h.next,r.1),last:=late ws a},false,false)::CP rs) (by
          intro r' s q u;rcases HS.1 s with e|e
          ·simp_all
          ·exact hi.C8 h' r' e q u) m
        grind[Co,oW,CP,FE]
      |some g=>simp_all
     ·simp only at i⊢
      have E:∀{v:V} {ρ:dR} {h':Hp},kC n a.o (λρ h=>MD C n all ws K l (Nat.succ k) ρ h (CP rs)) v ρ h'->kC n a.o (λρ h=>Co C n all ws K l (Nat.succ k) ρ h (oW rs)) v ρ h':=λH=>
        A1 (λρ h m=>by have:=Fe l (hi.C8 h) m;grind[FE]) H
      cases hw:hO n all a.o with
      | none=>
        grind[te,R4]
      | some g=>
        rw[hw]at i;simp only at i⊢
        cases hic:tn a.o with
        |false=>simp_all
        | true=>
          rw[hic]at i;refine te hi (λH=>k5 H λb H=>k5 H λx H=>?_) i
          cases x with
          |none=>simp_all
          |some y=>exact cP.mono H (by simp_all)
def RO(C:dc) (n:Nat) (all:List Oper) (K:dR->Hp->Prop) (ρ:dR) (h:Hp):Prop:=MD C n all (ej (items all 0 [])) K (order (items all 0 []) (ej (items all 0 [])) (ej (items all 0 [])) 0) 0 ρ h []
theorem QR{C:dc}{n:Nat}{all:List Oper}{K:dR->Hp->Prop}{ρ:dR}{h:Hp}(hk:RO C n all K ρ h):Ny C n all K ρ h:=Fe (rs:=[]) _ (by intro r a;cases a) hk
end
noncomputable def Gp(tb:List (Nat×List Nat)) (k:Nat):Option (List Nat):=List.rec (motive:=λ_=>Option (List Nat)) none (λx _ a=>Bool.rec (motive:=λ_=>Option (List Nat)) a (some x.2) (Nat.beq x.1 k)) tb
noncomputable def jV(C:dc) (n:Nat) (live:List Nat) (c:Code) (s:XQ) (ρ:dR) (h:Hp):Prop:=∀a:dR,List.rec (motive:=λ_=>Prop) (Wp C n c s a h) (λi _ b=>a i=ρ i->b) live
theorem Qt{C:dc} {n:Nat} {live:List Nat} {c:Code} {s:XQ} {ρ:dR} {h:Hp} (a:jV C n live c s ρ h):Wp C n c s ρ h:=by
 have:=a ρ;clear a
 induction live <;> grind
noncomputable def Lr(C:dc) (n:Nat) (tb:List (Nat×List Nat)) (c:Code):Nat->Nat->XQ->XQ->dR->Hp->Prop:=
 Code.rec (motive:=λ_=>Nat->Nat->XQ->XQ->dR->Hp->Prop)
  (λ_ _ v _=>v .normal)
  (fun _ ops d _ _ v _=>match d with
   |false=>My C n ops.toList (λρ h=>v .normal ρ h) ops.toList 0
   | true=>match td ops.toList with
     |true=>RO C n ops.toList (λρ h=>v .normal ρ h)
     |false=>λ_ _=>False)
  (λ_ b a g p e v s=>a p (Nat.mul 2 e) (andThen (Option.rec (motive:=λ_=>dR->Hp->Prop) (g (Nat.add p e) (Nat.mul 2 e) v s) (λlive=>jV C n live b s) (Gp tb (Nat.mul 2 (Nat.add (Nat.add p e) (Nat.mul 2 e))))) v) (andThen (Wp C n b s) s))
  (λc _ _ a g p e v s ρ h=>Option.rec (motive:=λ_=>Prop) False (λx=>bP x (a p (Nat.mul 2 e) v s ρ h) (g (Nat.add p e) (Nat.mul 2 e) v s ρ h)) ((nK c).f (.fn ρ []) h))
  (λid _ i p e v s=>i p (Nat.mul 2 e) (uZ id v) (uZ id s))
  (λc _ p e _ s=>Option.rec (motive:=λ_=>dR->Hp->Prop) (λ_ _=>False) (λlive=>jV C n live (.loop c) s) (Gp tb (Nat.succ (Nat.mul 2 (Nat.add p e)))))
  (λ_ _ _ _ _ _ _ _ _ _ _ _=>False)
  (λid _ _ v _=>v (.exit id))
  (λ_ _ _ _ _ _ _ _=>False)
  (λ_ _ _ _ _ _ _=>False)
  (λ_ _ _ _ _ _ _=>False)
  (λ_ _ v _=>v .ret)
  (λ_ _ _ _ _ _ _=>False) c
theorem wI{k k':dR->Hp->Prop} {v s:XQ} (hk:∀ρ h,k ρ h->k' ρ h) (hq:∀x ρ h,v x ρ h->s x ρ h):∀x ρ h,andThen k v x ρ h->andThen k' s x ρ h
 | .normal,_,_,hh=>hk _ _ hh
 | .exit _,_,_,hh=>hq _ _ _ hh
 | .ret,_,_,hh=>hq _ _ _ hh
theorem GD{id:Nat} {v s:XQ} (hq:∀x ρ h,v x ρ h->s x ρ h):∀x ρ h,uZ id v x ρ h->uZ id s x ρ h
 | .normal,_,_,hh=>hq _ _ _ hh
 | .ret,_,_,hh=>hq _ _ _ hh
 | .exit i,ρ,h,hh=>by
   simp only[uZ]at hh⊢;cases hb:Nat.beq i id <;> simp_all
theorem qQ{C:dc} {n:Nat} {tb:List (Nat×List Nat)}:∀(c:Code) {p e:Nat} {v s:XQ} {ρ:dR} {h:Hp},(∀x ρ h,v x ρ h->s x ρ h)->Lr C n tb c p e v s ρ h->Wp C n c s ρ h
 | .skip,_,_,_,_,_,_,hq,hk=> .skip (hq _ _ _ hk)
 | .region _ ops false,_,_,v,_,ρ,h,hq,hk=>by
   have d:My C n ops.toList (λρ h=>v .normal ρ h) ops.toList 0 ρ h:=hk
   exact(Wp.region (CA _ 0 d)).mono hq
 | .region _ ops true,_,_,v,_,ρ,h,hq,hk=>by
   have d:(match td ops.toList with
       |true=>RO C n ops.toList (λρ h=>v .normal ρ h)
       |false=>λ_ _=>False) ρ h:=hk
   cases hd:td ops.toList with
   |true=>rw[hd]at d;exact(Wp.draw hd (QR d)).mono hq
   |false=>simp_all
 | .seq a b,p,e,v,s,ρ,h,hq,hk=>by
   refine .seq (qQ a (wI ?_ hq) hk);intro ρ h g
   cases hf:Gp tb (Nat.mul 2 (Nat.add (Nat.add p e) (Nat.mul 2 e)))with
   |none=>rw[hf]at g;exact qQ b hq g
   |some live=>rw[hf]at g;exact Qt g
 | .cond c a b,p,e,v,s,ρ,h,hq,hk=>by
   have d:oP ((nK c).f (.fn ρ []) h) (λx=>bP x (Lr C n tb a p (Nat.mul 2 e) v s ρ h) (Lr C n tb b (Nat.add p e) (Nat.mul 2 e) v s ρ h)):=hk;obtain⟨x,i,d⟩:=hK.1 d
   exact .cond (cO i (bM d (qQ a hq) (qQ b hq)))
 | .block id c,_,_,_,_,_,_,hq,hk=> .block (qQ c (GD hq) hk)
 | .loop c,p,e,v,s,ρ,h,hq,hk=>by
   have d:(Option.rec (motive:=λ_=>dR->Hp->Prop) (λ_ _=>False) (λlive=>jV C n live (.loop c) s) (Gp tb (Nat.succ (Nat.mul 2 (Nat.add p e)))):dR->Hp->Prop) ρ h:=hk
   cases hf:Gp tb (Nat.succ (Nat.mul 2 (Nat.add p e)))with
   |none=>simp_all
   |some live=>rw[hf]at d;grind[Qt]
 | .exit id,_,_,_,_,_,_,hq,hk=> .exit (hq _ _ _ hk)
 | .ret,_,_,_,_,_,_,hq,hk=> .ret (hq _ _ _ hk)
 | .rangeFunc ..,_,_,_,_,_,_,_,hk=>hk.elim
 | .scope _,_,_,_,_,_,_,_,hk=>hk.elim
 | .label _,_,_,_,_,_,_,_,hk=>hk.elim
 | .goto _,_,_,_,_,_,_,_,hk=>hk.elim
 | .refuse _,_,_,_,_,_,_,_,hk=>hk.elim
structure Oy where
 c:Code
 v:XQ
 s:XQ
 p:Nat
 e:Nat
 ks:List (dR->Hp->Prop)
def Uv(l:List (dR->Hp->Prop)):dR->Hp->Prop:=match l with
 |k::_=>k
 |[]=>λ_ _=>False
noncomputable def gW(C:dc) (n:Nat) (tb:List (Nat×List Nat)) (a:Oy) (b:Bool):Oy:=match a.c,b with
 | .seq x y,false=>{c:=x,v:=andThen (Option.rec (motive:=λ_=>dR->Hp->Prop) (Lr C n tb y (Nat.add a.p a.e) (Nat.mul 2 a.e) a.v a.s) (λlive=>jV C n live y a.s) (Gp tb (Nat.mul 2 (Nat.add (Nat.add a.p a.e) (Nat.mul 2 a.e))))) a.v,s:=andThen (Wp C n y a.s) a.s,p:=a.p,e:=Nat.mul 2 a.e,ks:=a.ks}
 | .seq _ y,true=>{c:=y,v:=a.v,s:=a.s,p:=Nat.add a.p a.e,e:=Nat.mul 2 a.e,ks:=a.ks}
 | .cond _ x _,false=>{c:=x,v:=a.v,s:=a.s,p:=a.p,e:=Nat.mul 2 a.e,ks:=a.ks}
 | .cond _ _ y,true=>{c:=y,v:=a.v,s:=a.s,p:=Nat.add a.p a.e,e:=Nat.mul 2 a.e,ks:=a.ks}
 | .block id x,false=>{c:=x,v:=uZ id a.v,s:=uZ id a.s,p:=a.p,e:=Nat.mul 2 a.e,ks:=a.ks}
 | .loop x,false=>{c:=x,v:=andThen (Uv a.ks) a.v,s:=andThen (Uv a.ks) a.s,p:=a.p,e:=Nat.mul 2 a.e,ks:=a.ks.tail}
 |_,_=>a
noncomputable def Wy(C:dc) (n:Nat) (tb:List (Nat×List Nat)) (bs:List Bool):Oy->Oy:=List.rec (motive:=λ_=>Oy->Oy) (λa=>a) (λb _ c a=>c (gW C n tb a b)) bs
def XS(k:Nat):List Bool:=(Nat.rec (motive:=λ_=>Nat->List Bool) (λ_=>[]) (λ_ a p=>match Nat.ble p 1 with
 |true=>[]
 |false=>Nat.beq (Nat.mod p 2) 1::a (Nat.div p 2)) 400:Nat->List Bool) k
def Mt(Q:V->Hp->Prop) (ρ:dR) (h:Hp) (l:List ResultVar):List V->Prop:=
 List.rec (motive:=λ_=>List V->Prop) (λb=>Q (tZ b.reverse) h) (λr _ c b=>match r with
  | .tmp i=>c (ρ i::b)
  | .cell a ty=>oP ((O4 (.cell a ty)).f (.fn ρ []) h) λv=>c (v::b)) l
theorem Fy{Q:V->Hp->Prop} {ρ:dR} {h:Hp}:∀{l:List ResultVar} {b:List V},Mt Q ρ h l b->oP (uF (.fn ρ []) h l) λvs=>Q (tZ (b.reverse++vs)) h
 | [],b,hh=>by
   grind[tZ,uF,TC,oP,Mt]
 | .tmp i::l,b,hh=>by
   have c:Mt Q ρ h l (ρ i::b):=hh;obtain⟨vs,d,e⟩:=hK.1 (Fy c);refine cO (show uF (.fn ρ []) h (.tmp i::l)=some (ρ i::vs) from ?_) ?_
   ·show oB (some (ρ i)) _=_
    simp_all
   simp_all
 | .cell a ty::l,b,hh=>by
   have c:oP ((O4 (.cell a ty)).f (.fn ρ []) h) λv=>Mt Q ρ h l (v::b):=hh;obtain⟨v,h0,c⟩:=hK.1 c;obtain⟨vs,d,e⟩:=hK.1 (Fy c)
   simp_all[cO,uF,oB,O4]
def Nn(l:List ResultVar) (Q:V->Hp->Prop):XQ
 | .exit _,_,_=>False
 |_,ρ,h=>Mt Q ρ h l []
theorem Ly{l:List ResultVar} {Q:V->Hp->Prop}:∀x ρ h,Nn l Q x ρ h->FJ l Q x ρ h
 | .exit _,_,_,hh=>hh
 | .normal,_,_,hh=>by grind[Fy,Mt,FJ,TM,Nn]
 | .ret,_,_,hh=>by grind[Fy,Mt,FJ,TM,Nn]
noncomputable def Qm(fn:Func)(ks:List (dR->Hp->Prop))(Q:V->Hp->Prop):Oy:={c:=Jd fn,v:=Nn fn.results.toList Q,s:=FJ fn.results.toList Q,p:=0,e:=1,ks}
noncomputable def di(C:dc)(fn:Func)(tb:List (Nat×List Nat))(k:Nat)(ks:List (dR->Hp->Prop))(Q:V->Hp->Prop):Oy:=Wy C fn.ntmps tb (XS k) (Qm fn ks Q)
noncomputable def WA(C:dc)(fn:Func)(tb:List (Nat×List Nat))(k:Nat)(ks:List (dR->Hp->Prop))(Q:V->Hp->Prop)(ρ:dR)(h:Hp):Prop:=Wp C fn.ntmps (di C fn tb k ks Q).c (di C fn tb k ks Q).s ρ h
noncomputable def VA(C:dc)(n:Nat)(tb:List (Nat×List Nat))(a:Oy)(ρ:dR)(h:Hp):Prop:=Lr C n tb a.c a.p a.e a.v a.s ρ h
def Oy.ok(a:Oy):Prop:=∀x ρ h,a.v x ρ h->a.s x ρ h
theorem OI{C:dc} {n:Nat} {tb:List (Nat×List Nat)} {a:Oy} (c:a.ok) (b:Bool):(gW C n tb a b).ok:=by
 unfold gW;split
 ·refine wI (λρ h d=>?_) c
  cases hf:Gp tb (Nat.mul 2 (Nat.add (Nat.add a.p a.e) (Nat.mul 2 a.e)))with
  |none=>rw[hf]at d;exact qQ _ c d
  |some live=>rw[hf]at d;exact Qt d
 ·exact c
 ·exact c
 ·exact c
 ·exact GD c
 ·exact wI (by simp_all) c
 ·exact c
theorem Nz{C:dc} {n:Nat} {tb:List (Nat×List Nat)}:∀{bs:List Bool} {a:Oy},a.ok->(Wy C n tb bs a).ok
 |[],_,ha=>ha
 |b::bs,_,ha=>Nz (bs:=bs) (OI ha b)
theorem Ik{C:dc}{fn:Func}{tb:List (Nat×List Nat)}{k:Nat}{ks:List (dR->Hp->Prop)}{Q:V->Hp->Prop}:(di C fn tb k ks Q).ok:=Nz Ly
theorem WA.of{C:dc} {fn:Func} {tb:List (Nat×List Nat)} {k:Nat} {ks:List (dR->Hp->Prop)} {Q:V->Hp->Prop} {ρ:dR} {h:Hp} {P:Prop}
  (e:VA C fn.ntmps tb (di C fn tb k ks Q) ρ h=P) (H:P):WA C fn tb k ks Q ρ h:=qQ _ Ik (e.mpr H)
def iJ(c:Code):Bool:=match c with
 | .loop _=>true
 |_=>false
inductive LA (C:dc) (fn:Func) (tb:List (Nat×List Nat)) (k:Nat) (ks:List (dR->Hp->Prop)) (Q:V->Hp->Prop) (K:dR->Hp->Prop) (ρ:dR) (h:Hp):Prop
 |mk (a:VA C fn.ntmps tb (gW C fn.ntmps tb {di C fn tb k ks Q with ks:=[K]} false) ρ h)
theorem LA.of{C:dc} {fn:Func} {tb:List (Nat×List Nat)} {k:Nat} {ks:List (dR->Hp->Prop)} {Q:V->Hp->Prop} {K:dR->Hp->Prop} {ρ:dR} {h:Hp} {P:Prop}
  (e:VA C fn.ntmps tb (gW C fn.ntmps tb {di C fn tb k ks Q with ks:=[K]} false) ρ h=P) (H:P):LA C fn tb k ks Q K ρ h:=⟨e.mpr H⟩
theorem WA.loop{C:dc} {fn:Func} {tb:List (Nat×List Nat)} {k:Nat} {ks:List (dR->Hp->Prop)} {Q:V->Hp->Prop} {ρ:dR} {h:Hp} (I:Nat->dR->Hp->Prop) {m:Nat}
  (f:iJ (di C fn tb k ks Q).c=true) (hk:(di C fn tb k ks Q).ks=[])
  (b:∀m ρ h,I m ρ h->LA C fn tb k ks Q (λi h'=>∃g,g<m/\I g i h') ρ h) (h0:I m ρ h):WA C fn tb k ks Q ρ h:=by
 unfold WA;have b:=λm ρ h hi=>(b m ρ h hi).1;have d:(di C fn tb k ks Q).ok:=Ik;generalize di C fn tb k ks Q=a at*;obtain⟨c,v,s,p,e,j⟩:=a;cases c <;> simp only[iJ]at f <;> try exact absurd f (by decide)
 rename_i c;refine Wp.W9 I (λm ρ h hi=>?_) h0;have:=b m ρ h hi;exact qQ c (wI (λ_ _ l=>l) d) this
theorem cP.vc{C:dc} (hs:C.start=dH) {f:Nat} {fn:Func} {tb:List (Nat×List Nat)} {args:List V} {h:Hp} {Q:V->Hp->Prop} {P:Prop} (b:P0.funcs[f]? =some fn) (c:fn.body=some (Jd fn))
  (hk:C.K f args h=none) (a:Nat.ble args.length fn.ntmps=true) (e:VA C fn.ntmps tb (Qm fn [] Q) (IF args) h=P) (H:P):cP C f args h Q:=
 cP.func hs b c hk (EN a) (qQ _ Ly (e.mpr H))
abbrev LP:=List V->Hp->Prop
def YG(ρ:dR):List Nat->List V->Prop->Prop
 |i::is,x::xs,P=>ρ i=x->YG ρ is xs P
 |_,_,P=>P
def kf(is:List Nat)(K:LP):dR->Hp->Prop:=λρ h=>K (is.map ρ) h
def JV(C:dc)(fn:Func)(tb:List (Nat×List Nat))(k:Nat)(is:List Nat)(ks:List (dR->Hp->Prop))(Q:dg):LP:=λl h=>∀ρ:dR,YG ρ is l (WA C fn tb k ks Q ρ h)
theorem MS{ρ:dR}{P:Prop}:∀{is:List Nat}{l:List V},is.length=l.length->(is.map ρ=l->P)->YG ρ is l P
 |[],[],_,h=>h rfl
 |[],_::_,e,_=>by cases e
 |_::_,[],e,_=>by cases e
 |i::is,x::l,e,h=>λa=>MS (is:=is) (l:=l) (by simp_all) (by simp_all)
def SM:Nat->Type
 |0=>Hp->Prop
 |n+1=>V->SM n
def B4:(n:Nat)->SM n->LP
 |0,f,[],h=>f h
 |n+1,f,x::l,h=>B4 n (f x) l h
 |_,_,_,_=>False
@[reducible] def xR (I:Nat->LP) (k:Nat):LP:=λl h=>∃k',k' < k/\I k' l h
section
variable{C:dc}{fn:Func}{tb:List (Nat×List Nat)}{k m:Nat}{is:List Nat}{ks:List (dR->Hp->Prop)}{Q:dg}{h:Hp}{l:List V}
theorem JV.mk(n:Nat)(B:SM n)(e:∀(ρ:dR)(h:Hp),VA C fn.ntmps tb (di C fn tb k ks Q) ρ h=B4 n B (is.map ρ) h)(a:is.length=l.length)(H:B4 n B l h):JV C fn tb k is ks Q l h:=λρ=>MS a λb=>by
 subst b;exact WA.of (e ρ h) H
theorem JV.loop(n:Nat)(I:Nat->LP)(B:LP->SM n)(a:iJ (di C fn tb k ks Q).c=true)(hk:(di C fn tb k ks Q).ks=[])
  (e:∀(K:LP) (ρ:dR) (h:Hp),VA C fn.ntmps tb (gW C fn.ntmps tb {di C fn tb k ks Q with ks:=[kf is K]} false) ρ h=B4 n (B K) (is.map ρ) h)
  (d:∀m l h,l.length=n->I m l h->B4 n (B (xR I m)) l h) (f:is.length=n) (hlen:is.length=l.length) (h0:I m l h):JV C fn tb k is ks Q l h:=λρ=>MS hlen λb=>by
 subst b;exact WA.loop (λm ρ h=>I m (is.map ρ) h) a hk (λm ρ h hi=>LA.of (e (xR I m) ρ h) (by grind)) h0
abbrev dF(k:Nat)(x:V)(h:Hp)(K:V->Prop):Prop:=oP (dE k x) λa=>oP (df a h) K
abbrev dN(k:Nat)(x:V)(h:Hp)(K:V->Prop):Prop:=oP (fe x) λa=>dF k a h K
abbrev dI(n:Nat)(x i:V)(k:Nat)(h:Hp)(K:V->Prop):Prop:=oP (eX n x i) λa=>dF k a h K
abbrev dX(n:Nat)(x i:V)(h:Hp)(K:V->Prop):Prop:=oP (eX n x i) λa=>oP (df a h) K
abbrev dG(k:Nat)(x:V)(h:Hp)(K:V->Prop):Prop:=dF k x h λa=>oP (dD a) K
abbrev dJ(k:Nat)(x:V)(n:Nat)(i:V)(j:Nat)(h:Hp)(K:V->Prop):Prop:=dF k x h λa=>dI n a i j h K
abbrev dY(k:Nat)(x:V)(n:Nat)(i:V)(h:Hp)(K:V->Prop):Prop:=dF k x h λa=>dX n a i h K
abbrev bO(o:BinOp)(t:Nat)(a b:V)(A B:Prop):Prop:=oP (cX o t a b) λv=>bP v A B
abbrev bN(a:V)(A B:Prop):Prop:=oP (lB .not a) λv=>bP v A B
theorem oF{k l o:Nat}{h:Hp}{v:V}{K:V->Prop}(a:df (.ptr l (o+k)) h=some v)(b:K v):dF k (.ptr l o) h K:=hK.2 ⟨_,dB _ _ _,hK.2 ⟨_,a,b⟩⟩
theorem oN{k l o:Nat}{h:Hp}{v:V}{K:V->Prop}(a:df (.ptr l (o+k)) h=some v)(b:K v):dN k (.ptr l o) h K:=hK.2 (by simp_all[dq,oF])
theorem cP.vd{C:dc}{f:Nat}{fn:Func}(tb:List (Nat×List Nat)){args:List V}{h:Hp}{Q:dg}{P:Prop}(hs:C.start=dH)(b:P0.funcs[f]? =some fn)(hk:C.K f args h=none)(H:P)
  (c:fn.body=some (Jd fn):=by kernel_rfl) (a:Nat.ble args.length fn.ntmps=true:=by kernel_rfl) (e:VA C fn.ntmps tb (Qm fn [] Q) (IF args) h=P:=by kernel_rfl):cP C f args h Q:=cP.vc hs b c hk a e H
abbrev S1(I:Nat->LP)(B:LP->dg):Prop:=∀(k:Nat) (a:V) (h:Hp),I k [a] h->B (xR I k) a h
abbrev R1(B:dg)(J:LP):Prop:=∀{a:V} {h:Hp},B a h->J [a] h
theorem JV.r1(B:dg)(e:∀(ρ:dR)(h:Hp),VA C fn.ntmps tb (di C fn tb k ks Q) ρ h=B4 1 B (is.map ρ) h:=by intros;kernel_rfl)(a:is.length=1:=by rfl):R1 B (JV C fn tb k is ks Q):=λH=>JV.mk 1 B e a H
abbrev S2(I:Nat->LP)(B:LP->X3):Prop:=∀(k:Nat) (a b:V) (h:Hp),I k [a,b] h->B (xR I k) a b h
theorem JV.l2(I:Nat->LP)(B:LP->X3)(s:S2 I B)(i:I m l h)(g:l.length=2)(b:iJ (di C fn tb k ks Q).c=true:=by kernel_rfl)(hk:(di C fn tb k ks Q).ks=[]:=by kernel_rfl)
  (e:∀(K:LP) (ρ:dR) (h:Hp),VA C fn.ntmps tb (gW C fn.ntmps tb {di C fn tb k ks Q with ks:=[kf is K]} false) ρ h=B4 2 (B K) (is.map ρ) h:=by intros;kernel_rfl) (a:is.length=2:=by rfl):JV C fn tb k is ks Q l h:=
 JV.loop 2 I B b hk e (λk l h g i=>match l,g,i with|[d,f],_,i=>s k d f h i) a (a.trans g.symm) i
abbrev S3(I:Nat->LP)(B:LP->Mu):Prop:=∀(k:Nat) (a b c:V) (h:Hp),I k [a,b,c] h->B (xR I k) a b c h
abbrev R3(B:Mu)(J:LP):Prop:=∀{a b c:V} {h:Hp},B a b c h->J [a,b,c] h
theorem JV.l3(I:Nat->LP)(B:LP->Mu)(s:S3 I B)(i:I m l h)(g:l.length=3)(b:iJ (di C fn tb k ks Q).c=true:=by kernel_rfl)(hk:(di C fn tb k ks Q).ks=[]:=by kernel_rfl)
  (e:∀(K:LP) (ρ:dR) (h:Hp),VA C fn.ntmps tb (gW C fn.ntmps tb {di C fn tb k ks Q with ks:=[kf is K]} false) ρ h=B4 3 (B K) (is.map ρ) h:=by intros;kernel_rfl) (a:is.length=3:=by rfl):JV C fn tb k is ks Q l h:=
 JV.loop 3 I B b hk e (λk l h g i=>match l,g,i with|[d,f,j],_,i=>s k d f j h i) a (a.trans g.symm) i
theorem JV.r3(B:Mu)(e:∀(ρ:dR)(h:Hp),VA C fn.ntmps tb (di C fn tb k ks Q) ρ h=B4 3 B (is.map ρ) h:=by intros;kernel_rfl)(a:is.length=3:=by rfl):R3 B (JV C fn tb k is ks Q):=λH=>JV.mk 3 B e a H
abbrev S4(I:Nat->LP)(B:LP->Fk):Prop:=∀(k:Nat) (a b c d:V) (h:Hp),I k [a,b,c,d] h->B (xR I k) a b c d h
theorem JV.l4(I:Nat->LP)(B:LP->Fk)(s:S4 I B)(i:I m l h)(g:l.length=4)(b:iJ (di C fn tb k ks Q).c=true:=by kernel_rfl)(hk:(di C fn tb k ks Q).ks=[]:=by kernel_rfl)
  (e:∀(K:LP) (ρ:dR) (h:Hp),VA C fn.ntmps tb (gW C fn.ntmps tb {di C fn tb k ks Q with ks:=[kf is K]} false) ρ h=B4 4 (B K) (is.map ρ) h:=by intros;kernel_rfl) (a:is.length=4:=by rfl):JV C fn tb k is ks Q l h:=
 JV.loop 4 I B b hk e (λk l h g i=>match l,g,i with|[d,f,j,n],_,i=>s k d f j n h i) a (a.trans g.symm) i
abbrev S5(I:Nat->LP)(B:LP->DD):Prop:=∀(k:Nat) (a b c d e:V) (h:Hp),I k [a,b,c,d,e] h->B (xR I k) a b c d e h
abbrev R5(B:DD)(J:LP):Prop:=∀{a b c d e:V} {h:Hp},B a b c d e h->J [a,b,c,d,e] h
theorem JV.l5(I:Nat->LP)(B:LP->DD)(s:S5 I B)(i:I m l h)(g:l.length=5)(b:iJ (di C fn tb k ks Q).c=true:=by kernel_rfl)(hk:(di C fn tb k ks Q).ks=[]:=by kernel_rfl)
  (e:∀(K:LP) (ρ:dR) (h:Hp),VA C fn.ntmps tb (gW C fn.ntmps tb {di C fn tb k ks Q with ks:=[kf is K]} false) ρ h=B4 5 (B K) (is.map ρ) h:=by intros;kernel_rfl) (a:is.length=5:=by rfl):JV C fn tb k is ks Q l h:=
 JV.loop 5 I B b hk e (λk l h g i=>match l,g,i with|[d,f,j,n,o],_,i=>s k d f j n o h i) a (a.trans g.symm) i
theorem JV.r5(B:DD)(e:∀(ρ:dR)(h:Hp),VA C fn.ntmps tb (di C fn tb k ks Q) ρ h=B4 5 B (is.map ρ) h:=by intros;kernel_rfl)(a:is.length=5:=by rfl):R5 B (JV C fn tb k is ks Q):=λH=>JV.mk 5 B e a H
abbrev S6(I:Nat->LP)(B:LP->N0):Prop:=∀(k:Nat) (a b c d e f:V) (h:Hp),I k [a,b,c,d,e,f] h->B (xR I k) a b c d e f h
abbrev R6(B:N0)(J:LP):Prop:=∀{a b c d e f:V} {h:Hp},B a b c d e f h->J [a,b,c,d,e,f] h
theorem JV.l6(I:Nat->LP)(B:LP->N0)(s:S6 I B)(i:I m l h)(g:l.length=6)(b:iJ (di C fn tb k ks Q).c=true:=by kernel_rfl)(hk:(di C fn tb k ks Q).ks=[]:=by kernel_rfl)
  (e:∀(K:LP) (ρ:dR) (h:Hp),VA C fn.ntmps tb (gW C fn.ntmps tb {di C fn tb k ks Q with ks:=[kf is K]} false) ρ h=B4 6 (B K) (is.map ρ) h:=by intros;kernel_rfl) (a:is.length=6:=by rfl):JV C fn tb k is ks Q l h:=
 JV.loop 6 I B b hk e (λk l h g i=>match l,g,i with|[d,f,j,n,o,p],_,i=>s k d f j n o p h i) a (a.trans g.symm) i
theorem JV.r6(B:N0)(e:∀(ρ:dR)(h:Hp),VA C fn.ntmps tb (di C fn tb k ks Q) ρ h=B4 6 B (is.map ρ) h:=by intros;kernel_rfl)(a:is.length=6:=by rfl):R6 B (JV C fn tb k is ks Q):=λH=>JV.mk 6 B e a H
abbrev S7(I:Nat->LP)(B:LP->Ke):Prop:=∀(k:Nat) (a b c d e f g:V) (h:Hp),I k [a,b,c,d,e,f,g] h->B (xR I k) a b c d e f g h
abbrev R7(B:Ke)(J:LP):Prop:=∀{a b c d e f g:V} {h:Hp},B a b c d e f g h->J [a,b,c,d,e,f,g] h
theorem JV.l7(I:Nat->LP)(B:LP->Ke)(s:S7 I B)(i:I m l h)(g:l.length=7)(b:iJ (di C fn tb k ks Q).c=true:=by kernel_rfl)(hk:(di C fn tb k ks Q).ks=[]:=by kernel_rfl)
  (e:∀(K:LP) (ρ:dR) (h:Hp),VA C fn.ntmps tb (gW C fn.ntmps tb {di C fn tb k ks Q with ks:=[kf is K]} false) ρ h=B4 7 (B K) (is.map ρ) h:=by intros;kernel_rfl) (a:is.length=7:=by rfl):JV C fn tb k is ks Q l h:=
 JV.loop 7 I B b hk e (λk l h g i=>match l,g,i with|[d,f,j,n,o,p,q],_,i=>s k d f j n o p q h i) a (a.trans g.symm) i
theorem JV.r7(B:Ke)(e:∀(ρ:dR)(h:Hp),VA C fn.ntmps tb (di C fn tb k ks Q) ρ h=B4 7 B (is.map ρ) h:=by intros;kernel_rfl)(a:is.length=7:=by rfl):R7 B (JV C fn tb k is ks Q):=λH=>JV.mk 7 B e a H
abbrev S8(I:Nat->LP)(B:LP->Fc):Prop:=∀(k:Nat) (a b c d e f g i:V) (h:Hp),I k [a,b,c,d,e,f,g,i] h->B (xR I k) a b c d e f g i h
abbrev R8(B:Fc)(J:LP):Prop:=∀{a b c d e f g i:V} {h:Hp},B a b c d e f g i h->J [a,b,c,d,e,f,g,i] h
theorem JV.l8(I:Nat->LP)(B:LP->Fc)(s:S8 I B)(i:I m l h)(g:l.length=8)(b:iJ (di C fn tb k ks Q).c=true:=by kernel_rfl)(hk:(di C fn tb k ks Q).ks=[]:=by kernel_rfl)
  (e:∀(K:LP) (ρ:dR) (h:Hp),VA C fn.ntmps tb (gW C fn.ntmps tb {di C fn tb k ks Q with ks:=[kf is K]} false) ρ h=B4 8 (B K) (is.map ρ) h:=by intros;kernel_rfl) (a:is.length=8:=by rfl):JV C fn tb k is ks Q l h:=
 JV.loop 8 I B b hk e (λk l h g i=>match l,g,i with|[d,f,j,n,o,p,q,r],_,i=>s k d f j n o p q r h i) a (a.trans g.symm) i
theorem JV.r8(B:Fc)(e:∀(ρ:dR)(h:Hp),VA C fn.ntmps tb (di C fn tb k ks Q) ρ h=B4 8 B (is.map ρ) h:=by intros;kernel_rfl)(a:is.length=8:=by rfl):R8 B (JV C fn tb k is ks Q):=λH=>JV.mk 8 B e a H
abbrev S9(I:Nat->LP)(B:LP->Yk):Prop:=∀(k:Nat) (a b c d e f g i j:V) (h:Hp),I k [a,b,c,d,e,f,g,i,j] h->B (xR I k) a b c d e f g i j h
abbrev R9(B:Yk)(J:LP):Prop:=∀{a b c d e f g i j:V} {h:Hp},B a b c d e f g i j h->J [a,b,c,d,e,f,g,i,j] h
theorem JV.l9(I:Nat->LP)(B:LP->Yk)(s:S9 I B)(i:I m l h)(g:l.length=9)(b:iJ (di C fn tb k ks Q).c=true:=by kernel_rfl)(hk:(di C fn tb k ks Q).ks=[]:=by kernel_rfl)
  (e:∀(K:LP) (ρ:dR) (h:Hp),VA C fn.ntmps tb (gW C fn.ntmps tb {di C fn tb k ks Q with ks:=[kf is K]} false) ρ h=B4 9 (B K) (is.map ρ) h:=by intros;kernel_rfl) (a:is.length=9:=by rfl):JV C fn tb k is ks Q l h:=
 JV.loop 9 I B b hk e (λk l h g i=>match l,g,i with|[d,f,j,n,o,p,q,r,t],_,i=>s k d f j n o p q r t h i) a (a.trans g.symm) i
theorem JV.r9(B:Yk)(e:∀(ρ:dR)(h:Hp),VA C fn.ntmps tb (di C fn tb k ks Q) ρ h=B4 9 B (is.map ρ) h:=by intros;kernel_rfl)(a:is.length=9:=by rfl):R9 B (JV C fn tb k is ks Q):=λH=>JV.mk 9 B e a H
abbrev ZK(I:Nat->LP)(B:LP->Et):Prop:=∀(k:Nat) (b c d e f g i j l a:V) (h:Hp),I k [b,c,d,e,f,g,i,j,l,a] h->B (xR I k) b c d e f g i j l a h
abbrev Xw(B:Et)(J:LP):Prop:=∀{b c d e f g i j k a:V} {h:Hp},B b c d e f g i j k a h->J [b,c,d,e,f,g,i,j,k,a] h
theorem JV.VB(I:Nat->LP)(B:LP->Et)(s:ZK I B)(i:I m l h)(g:l.length=10)(d:iJ (di C fn tb k ks Q).c=true:=by kernel_rfl)(hk:(di C fn tb k ks Q).ks=[]:=by kernel_rfl)
  (e:∀(K:LP) (ρ:dR) (h:Hp),VA C fn.ntmps tb (gW C fn.ntmps tb {di C fn tb k ks Q with ks:=[kf is K]} false) ρ h=B4 10 (B K) (is.map ρ) h:=by intros;kernel_rfl) (b:is.length=10:=by rfl):JV C fn tb k is ks Q l h:=
 JV.loop 10 I B d hk e (λk l h g i=>match l,g,i with|[f,j,n,o,p,q,r,t,u,a],_,i=>s k f j n o p q r t u a h i) b (b.trans g.symm) i
theorem JV.Yf(B:Et)(e:∀(ρ:dR)(h:Hp),VA C fn.ntmps tb (di C fn tb k ks Q) ρ h=B4 10 B (is.map ρ) h:=by intros;kernel_rfl)(a:is.length=10:=by rfl):Xw B (JV C fn tb k is ks Q):=λH=>JV.mk 10 B e a H
abbrev Zz(I:Nat->LP)(B:LP->Tz):Prop:=∀(k:Nat) (c d e f g i j l m a b:V) (h:Hp),I k [c,d,e,f,g,i,j,l,m,a,b] h->B (xR I k) c d e f g i j l m a b h
abbrev Zm(B:Tz)(J:LP):Prop:=∀{c d e f g i j k l a b:V} {h:Hp},B c d e f g i j k l a b h->J [c,d,e,f,g,i,j,k,l,a,b] h
theorem JV.Y7(I:Nat->LP)(B:LP->Tz)(s:Zz I B)(i:I m l h)(g:l.length=11)(f:iJ (di C fn tb k ks Q).c=true:=by kernel_rfl)(hk:(di C fn tb k ks Q).ks=[]:=by kernel_rfl)
  (e:∀(K:LP) (ρ:dR) (h:Hp),VA C fn.ntmps tb (gW C fn.ntmps tb {di C fn tb k ks Q with ks:=[kf is K]} false) ρ h=B4 11 (B K) (is.map ρ) h:=by intros;kernel_rfl) (d:is.length=11:=by rfl):JV C fn tb k is ks Q l h:=
 JV.loop 11 I B f hk e (λk l h g i=>match l,g,i with|[j,n,o,p,q,r,t,u,v,a,b],_,i=>s k j n o p q r t u v a b h i) d (d.trans g.symm) i
theorem JV.Yv(B:Tz)(e:∀(ρ:dR)(h:Hp),VA C fn.ntmps tb (di C fn tb k ks Q) ρ h=B4 11 B (is.map ρ) h:=by intros;kernel_rfl)(a:is.length=11:=by rfl):Zm B (JV C fn tb k is ks Q):=λH=>JV.mk 11 B e a H
abbrev ZI(I:Nat->LP)(B:LP->TT):Prop:=∀(k:Nat) (d e f g i j l m n a b c:V) (h:Hp),I k [d,e,f,g,i,j,l,m,n,a,b,c] h->B (xR I k) d e f g i j l m n a b c h
abbrev Zn(B:TT)(J:LP):Prop:=∀{d e f g i j k l m a b c:V} {h:Hp},B d e f g i j k l m a b c h->J [d,e,f,g,i,j,k,l,m,a,b,c] h
theorem JV.YW(I:Nat->LP)(B:LP->TT)(s:ZI I B)(i:I m l h)(g:l.length=12)(j:iJ (di C fn tb k ks Q).c=true:=by kernel_rfl)(hk:(di C fn tb k ks Q).ks=[]:=by kernel_rfl)
  (e:∀(K:LP) (ρ:dR) (h:Hp),VA C fn.ntmps tb (gW C fn.ntmps tb {di C fn tb k ks Q with ks:=[kf is K]} false) ρ h=B4 12 (B K) (is.map ρ) h:=by intros;kernel_rfl) (f:is.length=12:=by rfl):JV C fn tb k is ks Q l h:=
 JV.loop 12 I B j hk e (λk l h g i=>match l,g,i with|[n,o,p,q,r,t,u,v,w,a,b,d],_,i=>s k n o p q r t u v w a b d h i) f (f.trans g.symm) i
theorem JV.Yx(B:TT)(e:∀(ρ:dR)(h:Hp),VA C fn.ntmps tb (di C fn tb k ks Q) ρ h=B4 12 B (is.map ρ) h:=by intros;kernel_rfl)(a:is.length=12:=by rfl):Zn B (JV C fn tb k is ks Q):=λH=>JV.mk 12 B e a H
abbrev ZG(I:Nat->LP)(B:LP->BW):Prop:=∀(k:Nat) (e f g i j l m n o a b c d:V) (h:Hp),I k [e,f,g,i,j,l,m,n,o,a,b,c,d] h->B (xR I k) e f g i j l m n o a b c d h
abbrev Zx(B:BW)(J:LP):Prop:=∀{e f g i j k l m n a b c d:V} {h:Hp},B e f g i j k l m n a b c d h->J [e,f,g,i,j,k,l,m,n,a,b,c,d] h
theorem JV.WJ(I:Nat->LP)(B:LP->BW)(s:ZG I B)(i:I m l h)(g:l.length=13)(n:iJ (di C fn tb k ks Q).c=true:=by kernel_rfl)(hk:(di C fn tb k ks Q).ks=[]:=by kernel_rfl)
  (e:∀(K:LP) (ρ:dR) (h:Hp),VA C fn.ntmps tb (gW C fn.ntmps tb {di C fn tb k ks Q with ks:=[kf is K]} false) ρ h=B4 13 (B K) (is.map ρ) h:=by intros;kernel_rfl) (j:is.length=13:=by rfl):JV C fn tb k is ks Q l h:=
 JV.loop 13 I B n hk e (λk l h g i=>match l,g,i with|[o,p,q,r,t,u,v,w,x,a,b,d,f],_,i=>s k o p q r t u v w x a b d f h i) j (j.trans g.symm) i
theorem JV.ZY(B:BW)(e:∀(ρ:dR)(h:Hp),VA C fn.ntmps tb (di C fn tb k ks Q) ρ h=B4 13 B (is.map ρ) h:=by intros;kernel_rfl)(a:is.length=13:=by rfl):Zx B (JV C fn tb k is ks Q):=λH=>JV.mk 13 B e a H
abbrev Zw(I:Nat->LP)(B:LP->Tu):Prop:=∀(k:Nat) (f g i j l m n o p a b c d e:V) (h:Hp),I k [f,g,i,j,l,m,n,o,p,a,b,c,d,e] h->B (xR I k) f g i j l m n o p a b c d e h
abbrev Zt(B:Tu)(J:LP):Prop:=∀{f g i j k l m n o a b c d e:V} {h:Hp},B f g i j k l m n o a b c d e h->J [f,g,i,j,k,l,m,n,o,a,b,c,d,e] h
theorem JV.ZB(I:Nat->LP)(B:LP->Tu)(s:Zw I B)(i:I m l h)(g:l.length=14)(o:iJ (di C fn tb k ks Q).c=true:=by kernel_rfl)(hk:(di C fn tb k ks Q).ks=[]:=by kernel_rfl)
  (e:∀(K:LP) (ρ:dR) (h:Hp),VA C fn.ntmps tb (gW C fn.ntmps tb {di C fn tb k ks Q with ks:=[kf is K]} false) ρ h=B4 14 (B K) (is.map ρ) h:=by intros;kernel_rfl) (n:is.length=14:=by rfl):JV C fn tb k is ks Q l h:=
 JV.loop 14 I B o hk e (λk l h g i=>match l,g,i with|[p,q,r,t,u,v,w,x,y,a,b,d,f,j],_,i=>s k p q r t u v w x y a b d f j h i) n (n.trans g.symm) i
theorem JV.ZU(B:Tu)(e:∀(ρ:dR)(h:Hp),VA C fn.ntmps tb (di C fn tb k ks Q) ρ h=B4 14 B (is.map ρ) h:=by intros;kernel_rfl)(a:is.length=14:=by rfl):Zt B (JV C fn tb k is ks Q):=λH=>JV.mk 14 B e a H
abbrev Zp(I:Nat->LP)(B:LP->Xt):Prop:=∀(k:Nat) (l m n o p q r s t a b c d e f g i j:V) (h:Hp),I k [l,m,n,o,p,q,r,s,t,a,b,c,d,e,f,g,i,j] h->B (xR I k) l m n o p q r s t a b c d e f g i j h
theorem JV.Zu(I:Nat->LP)(B:LP->Xt)(s:Zp I B)(i:I m l h)(g:l.length=18)(t:iJ (di C fn tb k ks Q).c=true:=by kernel_rfl)(hk:(di C fn tb k ks Q).ks=[]:=by kernel_rfl)
  (e:∀(K:LP) (ρ:dR) (h:Hp),VA C fn.ntmps tb (gW C fn.ntmps tb {di C fn tb k ks Q with ks:=[kf is K]} false) ρ h=B4 18 (B K) (is.map ρ) h:=by intros;kernel_rfl) (r:is.length=18:=by rfl):JV C fn tb k is ks Q l h:=
 JV.loop 18 I B t hk e (λk l h g i=>match l,g,i with|[u,v,w,x,y,z,A,D,E,a,b,d,f,j,n,o,p,q],_,i=>s k u v w x y z A D E a b d f j n o p q h i) r (r.trans g.symm) i
abbrev nZ:V:= .int .i64 0
abbrev nO:V:= .int .i64 1
abbrev nS:V:= .cQ
abbrev bT:V:= .bool true
abbrev bF:V:= .bool false
abbrev zC(T:Nat)(l:List V):Option (O×(Nat->V)):=some (.cells T 1 true false l,λl=> .ptr l 0)
abbrev P2(I:Nat->X3)(B:(X3)->X3):Prop:=∀(k:Nat) (a b:V) (h:Hp),I k a b h->B (λa b h=>∃k',k' < k/\I k' a b h) a b h
abbrev P3(I:Nat->Mu)(B:(Mu)->Mu):Prop:=∀(k:Nat) (a b c:V) (h:Hp),I k a b c h->B (λa b c h=>∃k',k' < k/\I k' a b c h) a b c h
theorem WA.l3{a b d:Nat}{f i j:V}(I:Nat->Mu)(B:(Mu)->Mu)(s:P3 I B)(g:I m f i j h)(l:iJ (di C fn tb k ks Q).c=true:=by kernel_rfl)(hk:(di C fn tb k ks Q).ks=[]:=by kernel_rfl)
  (e:∀(K:Mu) (ρ:dR) (h:Hp),VA C fn.ntmps tb (gW C fn.ntmps tb {di C fn tb k ks Q with ks:=[λρ h=>K (ρ a) (ρ b) (ρ d) h]} false) ρ h=B K (ρ a) (ρ b) (ρ d) h:=by intros;kernel_rfl):∀ρ:dR,ρ a=f->ρ b=i->ρ d=j->WA C fn tb k ks Q ρ h:=by
 rintro ρ rfl rfl rfl;exact WA.loop (λk ρ h=>I k (ρ a) (ρ b) (ρ d) h) l hk (λk ρ h hi=>LA.of (by grind) (s k (ρ a) (ρ b) (ρ d) h hi)) g
abbrev P4(I:Nat->Fk)(B:(Fk)->Fk):Prop:=∀(k:Nat) (a b c d:V) (h:Hp),I k a b c d h->B (λa b c d h=>∃k',k' < k/\I k' a b c d h) a b c d h
theorem WA.l4{a b d f:Nat}{i j l n:V}(I:Nat->Fk)(B:(Fk)->Fk)(s:P4 I B)(g:I m i j l n h)(o:iJ (di C fn tb k ks Q).c=true:=by kernel_rfl)(hk:(di C fn tb k ks Q).ks=[]:=by kernel_rfl)
  (e:∀(K:Fk) (ρ:dR) (h:Hp),VA C fn.ntmps tb (gW C fn.ntmps tb {di C fn tb k ks Q with ks:=[λρ h=>K (ρ a) (ρ b) (ρ d) (ρ f) h]} false) ρ h=B K (ρ a) (ρ b) (ρ d) (ρ f) h:=by intros;kernel_rfl):∀ρ:dR,ρ a=i->ρ b=j->ρ d=l->ρ f=n->WA C fn tb k ks Q ρ h:=by
 rintro ρ rfl rfl rfl rfl;exact WA.loop (λk ρ h=>I k (ρ a) (ρ b) (ρ d) (ρ f) h) o hk (λk ρ h hi=>LA.of (by grind) (s k (ρ a) (ρ b) (ρ d) (ρ f) h hi)) g
abbrev P5(I:Nat->DD)(B:(DD)->DD):Prop:=∀(k:Nat) (a b c d e:V) (h:Hp),I k a b c d e h->B (λa b c d e h=>∃k',k' < k/\I k' a b c d e h) a b c d e h
theorem WA.l5{a b d f i5:Nat}{i j l n o:V}(I:Nat->DD)(B:(DD)->DD)(s:P5 I B)(g:I m i j l n o h)(p:iJ (di C fn tb k ks Q).c=true:=by kernel_rfl)(hk:(di C fn tb k ks Q).ks=[]:=by kernel_rfl)
  (e:∀(K:DD) (ρ:dR) (h:Hp),VA C fn.ntmps tb (gW C fn.ntmps tb {di C fn tb k ks Q with ks:=[λρ h=>K (ρ a) (ρ b) (ρ d) (ρ f) (ρ i5) h]} false) ρ h=B K (ρ a) (ρ b) (ρ d) (ρ f) (ρ i5) h:=by intros;kernel_rfl):∀ρ:dR,ρ a=i->ρ b=j->ρ d=l->ρ f=n->ρ i5=o->WA C fn tb k ks Q ρ h:=by
 rintro ρ rfl rfl rfl rfl rfl;exact WA.loop (λk ρ h=>I k (ρ a) (ρ b) (ρ d) (ρ f) (ρ i5) h) p hk (λk ρ h hi=>LA.of (by grind) (s k (ρ a) (ρ b) (ρ d) (ρ f) (ρ i5) h hi)) g
abbrev P6(I:Nat->N0)(B:(N0)->N0):Prop:=∀(k:Nat) (a b c d e f:V) (h:Hp),I k a b c d e f h->B (λa b c d e f h=>∃k',k' < k/\I k' a b c d e f h) a b c d e f h
theorem WA.l6{a b d f i5 i6:Nat}{i j l n o p:V}(I:Nat->N0)(B:(N0)->N0)(s:P6 I B)(g:I m i j l n o p h)(q:iJ (di C fn tb k ks Q).c=true:=by kernel_rfl)(hk:(di C fn tb k ks Q).ks=[]:=by kernel_rfl)
  (e:∀(K:N0) (ρ:dR) (h:Hp),VA C fn.ntmps tb (gW C fn.ntmps tb {di C fn tb k ks Q with ks:=[λρ h=>K (ρ a) (ρ b) (ρ d) (ρ f) (ρ i5) (ρ i6) h]} false) ρ h=B K (ρ a) (ρ b) (ρ d) (ρ f) (ρ i5) (ρ i6) h:=by intros;kernel_rfl):∀ρ:dR,ρ a=i->ρ b=j->ρ d=l->ρ f=n->ρ i5=o->ρ i6=p->WA C fn tb k ks Q ρ h:=by
 rintro ρ rfl rfl rfl rfl rfl rfl;exact WA.loop (λk ρ h=>I k (ρ a) (ρ b) (ρ d) (ρ f) (ρ i5) (ρ i6) h) q hk (λk ρ h hi=>LA.of (by grind) (s k (ρ a) (ρ b) (ρ d) (ρ f) (ρ i5) (ρ i6) h hi)) g
abbrev P7(I:Nat->Ke)(B:(Ke)->Ke):Prop:=∀(k:Nat) (a b c d e f g:V) (h:Hp),I k a b c d e f g h->B (λa b c d e f g h=>∃k',k' < k/\I k' a b c d e f g h) a b c d e f g h
theorem WA.l7{a b d f i5 i6 i:Nat}{j l n o p q r:V}(I:Nat->Ke)(B:(Ke)->Ke)(s:P7 I B)(g:I m j l n o p q r h)(t:iJ (di C fn tb k ks Q).c=true:=by kernel_rfl)(hk:(di C fn tb k ks Q).ks=[]:=by kernel_rfl)
  (e:∀(K:Ke) (ρ:dR) (h:Hp),VA C fn.ntmps tb (gW C fn.ntmps tb {di C fn tb k ks Q with ks:=[λρ h=>K (ρ a) (ρ b) (ρ d) (ρ f) (ρ i5) (ρ i6) (ρ i) h]} false) ρ h=B K (ρ a) (ρ b) (ρ d) (ρ f) (ρ i5) (ρ i6) (ρ i) h:=by intros;kernel_rfl):∀ρ:dR,ρ a=j->ρ b=l->ρ d=n->ρ f=o->ρ i5=p->ρ i6=q->ρ i=r->WA C fn tb k ks Q ρ h:=by
 rintro ρ rfl rfl rfl rfl rfl rfl rfl;exact WA.loop (λk ρ h=>I k (ρ a) (ρ b) (ρ d) (ρ f) (ρ i5) (ρ i6) (ρ i) h) t hk (λk ρ h hi=>LA.of (by grind) (s k (ρ a) (ρ b) (ρ d) (ρ f) (ρ i5) (ρ i6) (ρ i) h hi)) g
abbrev P8(I:Nat->Fc)(B:(Fc)->Fc):Prop:=∀(k:Nat) (a b c d e f g i:V) (h:Hp),I k a b c d e f g i h->B (λa b c d e f g i h=>∃k',k' < k/\I k' a b c d e f g i h) a b c d e f g i h
theorem WA.l8{a b d f i5 i6 i j:Nat}{l n o p q r t u:V}(I:Nat->Fc)(B:(Fc)->Fc)(s:P8 I B)(g:I m l n o p q r t u h)(v:iJ (di C fn tb k ks Q).c=true:=by kernel_rfl)(hk:(di C fn tb k ks Q).ks=[]:=by kernel_rfl)
  (e:∀(K:Fc) (ρ:dR) (h:Hp),VA C fn.ntmps tb (gW C fn.ntmps tb {di C fn tb k ks Q with ks:=[λρ h=>K (ρ a) (ρ b) (ρ d) (ρ f) (ρ i5) (ρ i6) (ρ i) (ρ j) h]} false) ρ h=B K (ρ a) (ρ b) (ρ d) (ρ f) (ρ i5) (ρ i6) (ρ i) (ρ j) h:=by intros;kernel_rfl):∀ρ:dR,ρ a=l->ρ b=n->ρ d=o->ρ f=p->ρ i5=q->ρ i6=r->ρ i=t->ρ j=u->WA C fn tb k ks Q ρ h:=by
 rintro ρ rfl rfl rfl rfl rfl rfl rfl rfl;exact WA.loop (λk ρ h=>I k (ρ a) (ρ b) (ρ d) (ρ f) (ρ i5) (ρ i6) (ρ i) (ρ j) h) v hk (λk ρ h hi=>LA.of (by grind) (s k (ρ a) (ρ b) (ρ d) (ρ f) (ρ i5) (ρ i6) (ρ i) (ρ j) h hi)) g
abbrev Y3(I:Nat->Et)(B:(Et)->Et):Prop:=∀(k:Nat) (b c d e f g i j l a:V) (h:Hp),I k b c d e f g i j l a h->B (λb c d e f g i j l a h=>∃k',k' < k/\I k' b c d e f g i j l a h) b c d e f g i j l a h
theorem WA.VB{b d f i i5 i6 j l n a:Nat}{p q r t u v w x y o:V}(I:Nat->Et)(B:(Et)->Et)(s:Y3 I B)(g:I m p q r t u v w x y o h)(z:iJ (di C fn tb k ks Q).c=true:=by kernel_rfl)(hk:(di C fn tb k ks Q).ks=[]:=by kernel_rfl)
  (e:∀(K:Et) (ρ:dR) (h:Hp),VA C fn.ntmps tb (gW C fn.ntmps tb {di C fn tb k ks Q with ks:=[λρ h=>K (ρ b) (ρ d) (ρ f) (ρ i) (ρ i5) (ρ i6) (ρ j) (ρ l) (ρ n) (ρ a) h]} false) ρ h=B K (ρ b) (ρ d) (ρ f) (ρ i) (ρ i5) (ρ i6) (ρ j) (ρ l) (ρ n) (ρ a) h:=by intros;kernel_rfl):∀ρ:dR,ρ b=p->ρ d=q->ρ f=r->ρ i=t->ρ i5=u->ρ i6=v->ρ j=w->ρ l=x->ρ n=y->ρ a=o->WA C fn tb k ks Q ρ h:=by
 rintro ρ rfl rfl rfl rfl rfl rfl rfl rfl rfl rfl;exact WA.loop (λk ρ h=>I k (ρ b) (ρ d) (ρ f) (ρ i) (ρ i5) (ρ i6) (ρ j) (ρ l) (ρ n) (ρ a) h) z hk (λk ρ h hi=>LA.of (by grind) (s k (ρ b) (ρ d) (ρ f) (ρ i) (ρ i5) (ρ i6) (ρ j) (ρ l) (ρ n) (ρ a) h hi)) g
abbrev Zr(I:Nat->BW)(B:(BW)->BW):Prop:=∀(k:Nat) (e f g i j l m n o a b c d:V) (h:Hp),I k e f g i j l m n o a b c d h->B (λe f g i j l m n o a b c d h=>∃k',k' < k/\I k' e f g i j l m n o a b c d h) e f g i j l m n o a b c d h
theorem WA.WJ{i j l n i5 i6 o p q a b d f:Nat}{w x y z A D E F G r t u v:V}(I:Nat->BW)(B:(BW)->BW)(s:Zr I B)(g:I m w x y z A D E F G r t u v h)(H:iJ (di C fn tb k ks Q).c=true:=by kernel_rfl)(hk:(di C fn tb k ks Q).ks=[]:=by kernel_rfl)
  (e:∀(K:BW) (ρ:dR) (h:Hp),VA C fn.ntmps tb (gW C fn.ntmps tb {di C fn tb k ks Q with ks:=[λρ h=>K (ρ i) (ρ j) (ρ l) (ρ n) (ρ i5) (ρ i6) (ρ o) (ρ p) (ρ q) (ρ a) (ρ b) (ρ d) (ρ f) h]} false) ρ h=B K (ρ i) (ρ j) (ρ l) (ρ n) (ρ i5) (ρ i6) (ρ o) (ρ p) (ρ q) (ρ a) (ρ b) (ρ d) (ρ f) h:=by intros;kernel_rfl):∀ρ:dR,ρ i=w->ρ j=x->ρ l=y->ρ n=z->ρ i5=A->ρ i6=D->ρ o=E->ρ p=F->ρ q=G->ρ a=r->ρ b=t->ρ d=u->ρ f=v->WA C fn tb k ks Q ρ h:=by
 rintro ρ rfl rfl rfl rfl rfl rfl rfl rfl rfl rfl rfl rfl rfl;exact WA.loop (λk ρ h=>I k (ρ i) (ρ j) (ρ l) (ρ n) (ρ i5) (ρ i6) (ρ o) (ρ p) (ρ q) (ρ a) (ρ b) (ρ d) (ρ f) h) H hk (λk ρ h hi=>LA.of (by grind) (s k (ρ i) (ρ j) (ρ l) (ρ n) (ρ i5) (ρ i6) (ρ o) (ρ p) (ρ q) (ρ a) (ρ b) (ρ d) (ρ f) h hi)) g
end
