/- Parts. -/
import Derived.Test.YtcoaokdoecgcbaaGreatDoorM09
set_option maxHeartbeats 4000000
namespace Go.Proofs.YtcoaokdoecgcbaaGreatDoor.Hx
variable{all:List Oper}{tb:List (Nat×List Nat)}{n:Nat}{K:iK->Hp->Prop}{ks:List (iK->Hp->Prop)}{C:mw}{Q:V->Hp->Prop}{o:Oper}{k d:Nat}{w:Bool}{av:List Nat}{fn:Func}{a:Nat}{P:Prop}{v:V}{h':Hp}
abbrev XQ:=X->iK->Hp->Prop
abbrev fo:=V->Hp->Prop
abbrev QP2:=V->V->Hp->Prop
abbrev QP3:=V->V->V->Hp->Prop
abbrev Ro:=V->V->V->V->Hp->Prop
abbrev JF:=V->V->V->V->V->Hp->Prop
abbrev QP6:=V->V->V->V->V->V->Hp->Prop
abbrev NV:=V->V->V->V->V->V->V->Hp->Prop
abbrev Yr:=V->V->V->V->V->V->V->V->Hp->Prop
abbrev MI:=V->V->V->V->V->V->V->V->V->V->Hp->Prop
abbrev JQ:=V->V->V->V->V->V->V->V->V->V->V->Hp->Prop
abbrev YX:=V->V->V->V->V->V->V->V->V->V->V->V->V->Hp->Prop
abbrev zct:=V->V->V->V->V->V->V->V->V->V->V->V->V->V->Hp->Prop
abbrev zdB:=V->V->V->V->V->V->V->V->V->V->V->V->V->V->V->V->Hp->Prop
def isVal(o:Oper):Bool:=match o.op with
 | .move x| .assign x=>RZ x
 | .makeFunc _ _ _=>true
 | .makeInterface _ x=>RZ x
 |_=>false
theorem ZG (h:isVal o=true):cls o=0:=by
 grind[isVal,cls]
def opV(C:mw) (o:Oper) (K:V->iK->Hp->Prop):iK->Hp->Prop:=match isVal o with
 |true=>λρ h=>Option.rec False (λv=>K v ρ h) ((iP o).f (.fn ρ []) h)
 |false=>Tv C o K
theorem zfb(C:mw) (o:Oper) (K:V->iK->Hp->Prop):opV C o K=Tv C o K:=by
 unfold opV
 cases hv:isVal o with
 |false=>rfl
 | true=>
   unfold Tv;rw[ZG hv];rfl
def Ye(C:mw) (n:Nat) (all:List Oper) (o:Oper) (K:iK->Hp->Prop):iK->Hp->Prop:=match kE n all o with
 |none=>opV C o (qm n o K)
 |some g=>λρ h=>oP (g.f (.fn ρ [])) λb=>gdR C o b (qm n o K) ρ h
noncomputable section
inductive Gs where
 |last (o:Oper) (d:Nat)
 |op (o:Oper) (d:Nat) (a:Gs)
 |nest (w:Bool) (d:Nat) (sub:Gs) (o:Oper) (b:Nat) (a:Gs)
 |Hq (w:Bool) (d:Nat) (sub:Gs) (o:Oper) (b:Nat)
def Gs.dst:Gs->Nat
 | .last _ d=>d
 | .op _ _ r=>r.dst
 | .nest _ _ _ _ _ r=>r.dst
 | .Hq _ _ _ _ a=>a
def Gs.ops:Gs->List Oper
 | .last o _=>[o]
 | .op o _ r=>o::r.ops
 | .nest _ _ s o _ r=>s.ops++o::r.ops
 | .Hq _ _ s o _=>s.ops++[o]
def gA(w:Bool) (c:V) (x:Option V):Option V:=match w with
 |true=>jm c x
 |false=>nr c x
def S5(b:Bool)(x:Option V):V:=Bool.rec V.undef (Option.rec V.undef (λv=>v) x) b
def Rr(w:Bool)(v:V):Bool:=Option.rec false (λb=>b) (iE w v)
noncomputable def CJ(g:Gs):Bool->iK->Hp->iK:=Gs.rec (λo d b ρ h=>nE ρ d (S5 b ((iP o).f (.fn ρ []) h))) (λo d _ c b ρ h=>c b (nE ρ d (S5 b ((iP o).f (.fn ρ []) h))) h) (λw d _ o e _ a c b ρ h=>c b (nE (a (Rr w (ρ d)) ρ h) e (S5 b ((iP o).f (.fn (a (Rr w (ρ d)) ρ h) []) h))) h) (λw d _ o e a b ρ h=>nE (a (Rr w (ρ d)) ρ h) e (S5 b ((iP o).f (.fn (a (Rr w (ρ d)) ρ h) []) h))) g
noncomputable def gE(g:Gs):iK->Hp->Option V:=Gs.rec (λo _ ρ h=>(iP o).f (.fn ρ []) h) (λo d _ b ρ h=>oB ((iP o).f (.fn ρ []) h) λv=>b (nE ρ d v) h) (λw d sub _ c _ a b ρ h=>oB (gA w (ρ d) (a ρ h)) λv=>b (nE (CJ sub (Rr w (ρ d)) ρ h) c v) h) (λw d _ _ _ a ρ h=>gA w (ρ d) (a ρ h)) g
def Vg(x:Operand) (d:Nat):Bool:=match x with
 | .tmp i=>Nat.beq i d
 |_=>false
def zcI(x:Operand) (b:Bool):Bool:=match x with
 | .const v=>match mV 8 v with
   |some (.bool c)=>c == b
   |_=>false
 |_=>false
def UD(o:Oper) (w:Bool) (d x:Nat):Bool:=match o.op with
 | .pick c a b=>Vg c d&&(match w with
   |true=>Vg a x&&zcI b false
   |false=>Vg b x&&zcI a true)
 |_=>false
def dOk(n:Nat) (o:Oper) (d:Nat):Bool:=match o.dst with
 |some a=>Nat.beq a d&&Nat.blt d n
 |none=>false
def zav(n:Nat) (all:List Oper) (o:Oper) (w:Bool) (d:Nat):Bool:=match o.guard with
 | some (j,w')=>(w' == w)&&(match all[j]? with
   |some a=>dOk n a d
   |none=>false)
 |none=>false
def SE(n:Nat)(all:List Oper)(av:List Nat)(w:Bool)(d:Nat)(o:Oper)(a:Nat):Bool:=Nat.beq (cls o) 0&&zav n all o w d&&dOk n o a&&av.all (λi=>!(Nat.beq i a))
def ZN(n:Nat) (all:List Oper):List Nat->Bool->Nat->List Nat->Gs->Bool
 |av,w,d,_,.last o a=>SE n all av w d o a
 |av,w,d,ins,.op o a r=>SE n all av w d o a&&ZN n all av w d (a::ins) r
 |av,w,d,ins,.nest w' a s o b r=>ins.any (λi=>Nat.beq i a)&&ZN n all (a::av) w' a [] s&&SE n all av w d o b&&UD o w' a s.dst&&ZN n all av w d (b::ins) r
 |av,w,d,ins, .Hq w' a s o b=>ins.any (λi=>Nat.beq i a)&&ZN n all (a::av) w' a [] s&&SE n all av w d o b&&UD o w' a s.dst
def Ch(n:Nat) (all:List Oper) (h:Hp):List Oper->iK->iK->Prop
 |[],ρ,ρ'=>ρ' = ρ
 | o::os,ρ,ρ'=>cls o=0/\∃d v,o.dst=some d/\Nat.blt d n=true/\((kE n all o=none/\(iP o).f (.fn ρ []) h=some v)\/
   ∃g b,kE n all o=some g/\g.f (.fn ρ [])=some b/\gV b ((iP o).f (.fn ρ []) h)=some v)/\Ch n all h os (nE ρ d v) ρ'
theorem Ch.app  {h:Hp}:∀{os a:List Oper} {ρ e f:iK},Ch n all h os ρ e->Ch n all h a e f->Ch n all h (os++a) ρ f
 |[],_,_,_,_,b,c=>by cases b;exact c
 |_::_,_,_,_,_,⟨hc,d,v,b,c,g,i⟩,j=>⟨hc,d,v,b,c,g,i.app j⟩
theorem Of(ρ:iK)(d:Nat)(v:V):nE ρ d v d=v:=Za ρ d v
theorem zaA     (a:zav n all o w d=true):∃g,kE n all o=some g/\∀ρ:iK,g.f (.fn ρ [])=iE w (ρ d):=by
 unfold zav at a;split at a
 ·rename_i j w' b;simp[ Gi]at a;obtain⟨c,a⟩:=a;subst c;split at a
  ·rename_i h e;unfold dOk at a;split at a
   ·rename_i i hd;simp only[xB]at a
    let⟨e1,e2⟩:=a
    have e1:=Cj e1;subst e1;refine⟨_,by simp[kE,b,e,hd,e2];rfl,λρ=>rfl⟩
   simp_all
  simp_all
 simp_all
theorem Xv       (b:SE n all av w d o a=true) :
  cls o=0/\(∃g,kE n all o=some g/\∀ρ:iK,g.f (.fn ρ [])=iE w (ρ d))/\o.dst=some a/\Nat.blt a n=true/\∀i∈av,i≠a:=by
 unfold SE at b;simp only[xB]at b
 let⟨⟨⟨e,h⟩,c⟩,k⟩:=b
 refine⟨Cj e,zaA h,?_⟩;unfold dOk at c;split at c
 ·rename_i j hd
  grind[Cj,Rh]
 simp_all
theorem Pu{x:Operand}  (h:Vg x d=true):x = .tmp d:=by
 unfold Vg at h
 grind[Cj,absurd]
theorem Yd{x:Operand} {b:Bool} (a:zcI x b=true) (t:Tm) (h:Hp):(yi x).f t h=some (.bool b):=by
 unfold zcI at a;split at a
 ·rename_i v;split at a
  ·rename_i c hc;have e:c=b:=by simpa using a
   subst e;show(Qn (.const v)).f t=_
   grind[Qn]
  simp_all
 simp_all
theorem Yj  {x:Nat} (hp:UD o w d x=true) {ρ:iK} {h:Hp} {c:Bool} (hc:ρ d = .bool c):(iP o).f (.fn ρ []) h=some (match w,c with
  |true,true=>ρ x
  |true,false=> .bool false
  |false,false=>ρ x
  |false,true=> .bool true)/\cls o=0:=by
 unfold UD at hp;split at hp
 ·rename_i c' a b g;simp[xB]at hp
  let⟨i,e⟩:=hp
  have e1:=Pu i;subst e1;refine⟨?_,by grind[cls]⟩;have e0:(yi (.tmp d)).f (.fn ρ []) h=some (.bool c):=by show some (ρ d)=_;rw[hc]
  unfold iP;rw[g];simp[Nq,e0]
  cases w with
  | true=>
    simp[xB]at e;have e2:=Pu e.1;subst e2
    cases c with
    |true=>rfl
    |false=>grind[Yd]
  | false=>
    simp[xB]at e;have e2:=Pu e.1;subst e2
    cases c with
    |true=>grind[Yd]
    |false=>rfl
 simp_all
theorem X2 {c:V} {x:Option V}  (a:gA w c x=some v):∃b,c = .bool b/\iE w c=some (b == w)/\((b=w/\x=some v)\/(b≠w/\v = .bool (!w))):=by
 unfold gA at a
 cases w with
 | true=>
   simp[jm]at a;split at a
   ·cases a;simp_all
   ·simp_all
   ·cases a
 | false=>
   simp[nr]at a;split at a
   ·cases a;simp_all
   ·simp_all
   ·cases a
theorem T6(ρ:iK){d i:Nat}(v:V)(h:i≠d):nE ρ d v i=ρ i:=zdv ρ v h
theorem Ch.one       (c:SE n all av w d o a=true) {ρ:iK} {h:Hp} {b:Bool} (k:iE w (ρ d)=some b) {v:V}
  (hv:gV b ((iP o).f (.fn ρ []) h)=some v):Ch n all h [o] ρ (nE ρ a v):=by
 let⟨e,⟨g,l,m⟩,i,j,p⟩:=Xv c
 exact⟨e,a,v,i,j,by grind,rfl⟩
theorem N8{b:Bool} {x:Option V}  (h:gV b x=some v):S5 b x=v:=by
 cases b with
 |true=>have h':=h;subst h';rfl
 |false=>cases h;rfl
def TP(n:Nat) (all:List Oper) (av:List Nat) (os:List Oper) (b:Bool) (ρ a:iK) (h:Hp) (d:Nat) (x:V):Prop:=Ch n all h os ρ a/\a d=x/\(∀i∈av,a i=ρ i)/\(b=false->∀i,ρ i = .undef->a i = .undef)
theorem TP.one       (c:SE n all av w d o a=true) {ρ:iK} {h:Hp} {b:Bool} (g:iE w (ρ d)=some b) {v:V}
  (hv:gV b ((iP o).f (.fn ρ []) h)=some v):TP n all av [o] b ρ (nE ρ a v) h a v:=by
 let⟨_,_,_,_,j⟩:=Xv c
 refine⟨Ch.one c g hv,Of _ _ _,by grind[T6],λe i hi=>?_⟩;subst e;cases hv
 grind[Of,T6]
theorem TP.trans   {os a:List Oper} {b:Bool} {ρ g j:iK} {h:Hp}  {x l:V} (f:TP n all av os b ρ g h d x) (c:TP n all av a b g j h k l):TP n all av (os++a) b ρ j h k l:=
 ⟨f.1.app c.1,c.2.1,λi hi=>(c.2.2.1 i hi).trans (f.2.2.1 i hi),λe i hi=>c.2.2.2 e i (f.2.2.2 e i hi)⟩
theorem Zb :∀g {av:List Nat} {w:Bool} {d:Nat} {ins:List Nat},ZN n all av w d ins g=true->d∈av->∀{ρ:iK} {h:Hp} {b:Bool},iE w (ρ d)=some b->
  (b=false->∀i∈ins,ρ i = .undef)->∀{x:V},gV b (gE g ρ h)=some x->TP n all av g.ops b ρ (CJ g b ρ h) h g.dst x:=by
 have nest:∀s,(∀{av:List Nat} {w:Bool} {d:Nat} {ins:List Nat},ZN n all av w d ins s=true->d∈av->∀{ρ:iK} {h:Hp} {b:Bool},iE w (ρ d)=some b->
    (b=false->∀i∈ins,ρ i = .undef)->∀{x:V},gV b (gE s ρ h)=some x->TP n all av s.ops b ρ (CJ s b ρ h) h s.dst x)->
   ∀{av:List Nat} {w w':Bool} {d k q:Nat} {ins:List Nat} {o:Oper},ins.any (λi=>Nat.beq i k)=true->ZN n all (k::av) w' k [] s=true->SE n all av w d o q=true->UD o w' k s.dst=true->d∈av->
   ∀{ρ:iK} {h:Hp} {b:Bool},iE w (ρ d)=some b->(b=false->∀i∈ins,ρ i = .undef)->∀{v:V},gV b (gA w' (ρ k) (gE s ρ h))=some v->
   gV b ((iP o).f (.fn (CJ s (Rr w' (ρ k)) ρ h) []) h)=some v/\TP n all av (s.ops++[o]) b ρ (nE (CJ s (Rr w' (ρ k)) ρ h) q v) h q v:=by
  intro s D av w w' d k q ins o H hc Q hp hd ρ h b m hi v hv
  let⟨i,hi1,hi2⟩:=List.any_eq_true.1 H
  have e:=Cj hi2;subst e
  cases b with
  | true=>
    let⟨c,e1,e2,R⟩:=X2 (hv)
    have I:Rr w' (ρ i)=(c == w'):=by unfold Rr;rw[e2]
    rw[I];obtain⟨y,U⟩:∃y,gV (c == w') (gE s ρ h)=some y/\(c=w'->y=v):=by
      rcases R with⟨E,J⟩|⟨E,J⟩
      ·simp_all
      ·have:(c == w')=false:=by simp[E]
       rw[this];simp_all
    let⟨K,S,L,W⟩:=D hc (Tx ..) e2 (by simp_all) U.1
    have M:CJ s (c == w') ρ h i = .bool c:=by rw[L i (Tx ..)];exact e1
    have N:=(Yj hp (h:=h) M).1;have t:(iP o).f (.fn (CJ s (c == w') ρ h) []) h=some v:=by
      rw[N,S];rcases R with⟨E,J⟩|⟨E,J⟩
      ·grind
      ·grind
    refine⟨t,?_⟩;have a:=TP.one Q (b:=true) (by simp_all) t
    refine⟨K.app a.1,a.2.1,λj F=>(a.2.2.1 j F).trans (by simp_all),by simp_all⟩
  | false=>
    have e1:ρ i = .undef:=by simp_all
    have e2:iE w' (ρ i)=some false:=by rw[e1];rfl
    have I:Rr w' (ρ i)=false:=by unfold Rr;rw[e2]
    rw[I];cases hv;obtain⟨K,S,L,W⟩:=D hc (Tx ..) e2 (by simp_all) rfl;refine⟨rfl,?_⟩;have a:=TP.one Q (ρ:=CJ s false ρ h) (h:=h) (by rw[L d (wA7 _ hd)];exact m) rfl;exact⟨K.app a.1,a.2.1,λj F=>(a.2.2.1 j F).trans (by simp_all),λe j F=>a.2.2.2 e j (by simp_all)⟩
 intro g
 induction g with
 | last o k=>
   intro av w d ins p hd ρ h b m hi x u;have l:gV b ((iP o).f (.fn ρ []) h)=some x:=u;show TP n all av [o] b ρ (nE ρ k (S5 b ((iP o).f (.fn ρ []) h))) h k x;rw[N8 l]
   exact TP.one p m l
 | op o k r D=>
   intro av w d ins p hd ρ h b m hi x u;simp[ZN,xB]at p;obtain⟨v,hv,l⟩:∃v,gV b ((iP o).f (.fn ρ []) h)=some v/\gV b (gE r (nE ρ k v) h)=some x:=by
     cases b with
     | true=>
       let⟨v,z,A⟩:=fy.1 (u)
       exact⟨v,z,A⟩
     |false=>simp_all
   have a:=TP.one p.1 m hv;show TP n all av ([o]++r.ops) b ρ (CJ r b (nE ρ k (S5 b ((iP o).f (.fn ρ []) h))) h) h r.dst x;rw[N8 hv];refine a.trans (D p.2 hd (by rw[a.2.2.1 d hd];exact m) ?_ l);intro e i B;rcases yt.1 B with e'|e'
   ·simp_all[Of]
   ·exact a.2.2.2 e i (by simp_all)
 | nest w' k s o q r C D=>
   intro av w d ins p hd ρ h b m hi x u;simp only[ZN,xB]at p
   let⟨⟨⟨⟨z,A⟩,O⟩,P⟩,X⟩:=p
   obtain ⟨v,hv,l⟩:∃v,gV b (gA w' (ρ k) (gE s ρ h))=some v/\gV b (gE r (nE (CJ s (Rr w' (ρ k)) ρ h) q v) h)=some x:=by
     cases b with
     | true=>
       let⟨v,z,A⟩:=fy.1 (u)
       exact⟨v,z,A⟩
     |false=>simp_all
   let⟨T,G⟩:=nest s C z A O P hd m hi hv
   show TP n all av (s.ops++([o]++r.ops)) b ρ (CJ r b (nE (CJ s (Rr w' (ρ k)) ρ h) q (S5 b ((iP o).f (.fn (CJ s (Rr w' (ρ k)) ρ h) []) h))) h) h r.dst x;rw[N8 T,<-Bo];refine G.trans (D X hd (by rw[G.2.2.1 d hd];exact m) ?_ l);intro e i B;rcases yt.1 B with e'|e'
   ·simp_all[Of]
   ·exact G.2.2.2 e i (by simp_all)
 | Hq w' k s o q C=>
   intro av w d ins p hd ρ h b m hi x u;simp only[ZN,xB]at p
   let⟨⟨⟨z,A⟩,O⟩,P⟩:=p
   let⟨T,G⟩:=nest s C z A O P hd m hi (u)
   show TP n all av (s.ops++[o]) b ρ (nE (CJ s (Rr w' (ρ k)) ρ h) q (S5 b ((iP o).f (.fn (CJ s (Rr w' (ρ k)) ρ h) []) h))) h q x
   grind[N8]
inductive Wg where
 |op (o:Oper) (d:Nat)
 |nest (w:Bool) (d:Nat) (sub:Gs) (o:Oper) (a:Nat)
def Wg.dst:Wg->Nat
 | .op _ d=>d
 | .nest _ _ _ _ a=>a
def Wg.ops:Wg->List Oper
 | .op o _=>[o]
 | .nest _ _ s o _=>s.ops++[o]
def Wg.one:Wg->Gs
 | .op o d=> .last o d
 | .nest w d s o a=> .Hq w d s o a
def Wg.cons(r:Gs):Wg->Gs
 | .op o d=> .op o d r
 | .nest w d s o a=> .nest w d s o a r
def zgB(all:List Oper) (o:Oper):Option (Bool×Nat):=match o.guard with
 | some (j,w)=>match all[j]? with
   | some a=>match a.dst with
     |some d=>some (w,d)
     |none=>none
   |none=>none
 |none=>none
def Sa(n : Nat) (all:List Oper) (gpV:Bool->Nat->List Nat->List Oper->Option (Gs×List Oper)) (w:Bool) (d:Nat) (ins:List Nat) (os:List Oper):Option (Wg×List Oper):=match os with
  |[]=>none
  | o ::os'=>match zav n all o w d&&Nat.beq (cls o) 0,o.dst with
    |true,some d'=>some (.op o d',os')
    | _,_ => match zgB all o with
      |none=>none
      | some (w',d')=>match ins.any (λi=>Nat.beq i d')with
        |false=>none
        | true=>match gpV w' d' [] (o::os')with
          | some (s,p::os'')=>match zav n all p w d&&UD p w' d' s.dst,p.dst with
            |true,some dp=>some (.nest w' d' s p dp,os'')
            |_,_=>none
          |_=>none
noncomputable def gpV(n:Nat) (all:List Oper) (fuel:Nat):Bool->Nat->List Nat->List Oper->Option (Gs×List Oper):=
 Nat.rec (λ_ _ _ _=>none) (λ_ a w d ins os=>match Sa n all a w d ins os with
  |none=>none
  | some (it,os')=>match a w d (it.dst::ins) os' with
    |some (g,r)=>some (it.cons g,r)
    |none=>some (it.one,os')) fuel
theorem V3  {gpV:Bool->Nat->List Nat->List Oper->Option (Gs×List Oper)} (a:∀w d ins os g r,gpV w d ins os=some (g,r)->os=g.ops++r) {w:Bool} {d:Nat} {ins:List Nat} {os:List Oper} {it:Wg} {r:List Oper}
  (h:Sa n all gpV w d ins os=some (it,r)):os=it.ops++r:=by
 unfold Sa at h;split at h
 ·cases h
 ·split at h
  ·cases h;rfl
  ·split at h
   ·cases h
   grind[Wg.ops,Bo]
theorem Tl :∀fuel w d ins os g r,gpV n all fuel w d ins os=some (g,r)->os=g.ops++r
 |0,_,_,_,_,_,_,h=>by cases h
 | fuel+1,w,d,ins,os,g,r,h=>by
   have h':(match Sa n all (gpV n all fuel) w d ins os with
     |none=>none
     | some (it,a)=>match gpV n all fuel w d (it.dst::ins) a with
       |some (g,r)=>some (it.cons g,r)
       |none=>some (it.one,a))=some (g,r):=h
   split at h'
   ·cases h'
   ·rename_i it a b
    have e1:=V3 (λw d ins os g r c=>Tl fuel w d ins os g r c) b;split at h'
    ·rename_i e r' c
     cases h';have e2:=Tl fuel _ _ _ _ _ _ c;rw[e1,e2];cases it <;> simp[Wg.ops,Wg.cons,Gs.ops]
    ·cases h'
     rw[e1];cases it <;> simp[Wg.ops,Wg.one,Gs.ops]
noncomputable def Z2(n:Nat) (all:List Oper) (os:List Oper):Option (Bool×Nat×Gs×Nat):=match os with
 |[]=>none
 | o ::_ => match o.guard with
   |none=>none
   | some (j,w)=>match all[j]? with
     |none=>none
     | some a=>match a.guard,a.dst,Nat.beq (cls o) 0 with
       | none,some d,true=>match gpV n all 60 w d [] os with
         | some (g,p::_)=>match p.guard,p.dst with
           | none,some dp=>match UD p w d g.dst&&Nat.blt dp n&&ZN n all [d] w d [] g with
             |true=>some (w,d,g,dp)
             |false=>none
           |_,_=>none
         |_=>none
       |_,_,_=>none
theorem zcS {os:List Oper}   {g:Gs}  (h:Z2 n all os=some (w,d,g,a)):∃p r,os=g.ops++p::r/\p.guard=none/\p.dst=some a/\UD p w d g.dst=true/\Nat.blt a n=true/\ZN n all [d] w d [] g=true:=by
 unfold Z2 at h;split at h
 ·cases h
 ·split at h
  ·cases h
  ·split at h
   ·cases h
   ·split at h
    ·split at h
     ·rename_i b;split at h
      ·rename_i c e;split at h
       ·rename_i f;cases h
        grind[Tl]
       ·cases h
      ·cases h
     ·cases h
    ·cases h
theorem IP  {a:iK->Hp->Prop} (b:∀ρ h,K ρ h->a ρ h) {v:V} {ρ:iK} {h:Hp} (c:qm n o K v ρ h):qm n o a v ρ h:=by
 grind[qm,Nat.blt]
theorem rk{α:Type}{x:Option α}{k k':α->Prop}(h:oP x k)(f:∀a,k a->k' a):oP x k':=by grind[oM]
theorem zbf  {K b:V->iK->Hp->Prop} (e:∀v ρ h,K v ρ h->b v ρ h) {ρ:iK} {h:Hp} (d:Tv C o K ρ h):Tv C o b ρ h:=by
 unfold Tv at d⊢;generalize cls o=c at d⊢;rcases c with _|_|c
 ·grind[rk]
 ·grind[rk]
 ·show Vy C o b ρ h;have a:=d;unfold Vy at a⊢;cases hi:ze o
  all_goals rw[hi]at a
  ·grind[rk]
  ·exact rk a λx H=>H.mono (by simp_all)
theorem za6  {b:Bool} {K d:V->iK->Hp->Prop} (e:∀v ρ h,K v ρ h->d v ρ h) {ρ:iK} {h:Hp} (a:gdR C o b K ρ h):gdR C o b d ρ h:=by
 unfold gdR at a⊢;generalize cls o=c at a⊢;rcases c with _|_|c
 ·grind[rk]
 ·grind[rk]
 ·simp only at a⊢;cases hi:ze o
  all_goals rw[hi]at a
  ·grind[rk]
  ·refine rk a λx H=>?_
   cases x with
   |none=>simp_all
   |some y=>exact cP.mono H (by simp_all)
theorem WC    {a:iK->Hp->Prop} (c:∀ρ h,K ρ h->a ρ h) {ρ:iK} {h:Hp} (b:A0 C n all o K ρ h):A0 C n all o a ρ h:=by
 unfold A0 at b⊢
 cases hw:kE n all o with
 |none=>rw[hw]at b;grind[zbf,IP]
 |some g=>grind[rk,za6,IP]
theorem zbG(C:mw) (n:Nat) (all:List Oper) (o:Oper) (K:iK->Hp->Prop):Ye C n all o K=A0 C n all o K:=by
 grind[Ye,A0,zfb]
theorem Ch.Al   {h:Hp}  {a:List Oper}:∀{os:List Oper} {ρ b:iK},Ch n all h os ρ b->Al C n all K a b h->Al C n all K (os++a) ρ h
 |[],_,_,hc,hk=>by cases hc;exact hk
 | o::os,ρ,b,⟨h0,d,v,c,e,i,f⟩,hk=>by
   have g:=f.Al hk;have hd:qm n o (Hx.Al C n all K (os++a)) v ρ h:=by unfold qm;rw[c];simp[e];exact g
   show A0 C n all o (Hx.Al C n all K (os++a)) ρ h
   grind[A0,Tv,ec,gdR]
noncomputable def VS(C:mw) (n:Nat) (all:List Oper) (K:iK->Hp->Prop) (os:List Oper):Nat->iK->Hp->Prop:=
 List.rec (λ_=>K) (λo os a b=>Nat.rec
  (match Z2 n all (o::os)with
   |some (w,d,g,dp)=>λρ h=>oP (gA w (ρ d) (gE g ρ h)) λv=>a g.ops.length (nE (CJ g (Rr w (ρ d)) ρ h) dp v) h
   |none=>Ye C n all o (a 0)) (λk _=>a k) b) os
theorem LL   :∀os e {ρ:iK} {h:Hp},VS C n all K os e ρ h->Al C n all K (os.drop e) ρ h
 |[],e,ρ,h,hk=>by rw[List.drop_nil];exact hk
 |o::os,e+1,ρ,h,hk=>LL os e hk
 | o ::os,0,ρ,h,hk=>by
   have a:(match Z2 n all (o::os)with
     |some (w,d,g,dp)=>λρ h=>oP (gA w (ρ d) (gE g ρ h)) λv=>VS C n all K os g.ops.length (nE (CJ g (Rr w (ρ d)) ρ h) dp v) h
     |none=>Ye C n all o (VS C n all K os 0):iK->Hp->Prop) ρ h:=hk
   show Al C n all K (o::os) ρ h
   cases hg:Z2 n all (o::os)with
   | some x=>
     let⟨w,d,g,dp⟩:=x
     rw[hg]at a
     let⟨p,r,e1,e2,u,b,i,z⟩:=zcS hg
     let⟨v,A,m⟩:=mf.1 a
     let⟨c,B,c2,q⟩:=X2 A
     have D:Rr w (ρ d)=(c == w):=by unfold Rr;rw[c2]
     rw[D]at m;obtain⟨y,E⟩:∃y,gV (c == w) (gE g ρ h)=some y/\(c=w->y=v):=by
       rcases q with⟨b,i⟩|⟨b,i⟩
       ·simp_all
       ·have:(c == w)=false:=by simp[b]
        rw[this];simp_all
     let⟨F,G,H,L⟩:=Zb g z (Tx ..) c2 (by simp_all) E.1
     have k:CJ g (c == w) ρ h d = .bool c:=by rw[H d (Tx ..)];exact B
     have j:=Yj b (h:=h) k;have s:(iP p).f (.fn (CJ g (c == w) ρ h) []) h=some v:=by
       rw[j.1,G];rcases q with⟨b,i⟩|⟨b,i⟩
       ·grind
       ·grind
     have l:Ch n all h [p] (CJ g (c == w) ρ h) (nE (CJ g (c == w) ρ h) dp v):=⟨j.2,dp,v,u,i,by grind[kE],rfl⟩
     have hlen:os.drop g.ops.length=r:=by
       have I:(o::os).drop (g.ops.length+1)=r:=by rw[e1,List.append_cons];exact by simp_all
       exact I
     have t:=LL os _ m;rw[hlen]at t;rw[e1,List.append_cons]
     exact(F.app l).Al t
   | none=>
     rw[hg]at a;simp[zbG]at a;exact WC (λρ h J=>by have:=LL os 0 J;exact this) a
def Es(o:Oper):Bool:=match o.op with
 | .move x| .assign x| .nilCheck x| .fieldAddr _ x _| .unOp _ _ x| .extract x _| .convert _ _ x=>RZ x
 | .pick c a b=>RZ c&&RZ a&&RZ b
 | .binOp _ _ x y _=>RZ x&&RZ y
 | .indexAddr _ x i| .index _ x i=>RZ x&&RZ i
 | .build _ _| .makeFunc _ _ _=>true
 | .makeInterface _ x=>RZ x
 | .call c=>match c.callee,c.args.toList,c.argTypes.toList with
   | .builtin .len,[x],ty::_=>match P0.underlying ty with
     |some (.slice _)=>RZ x
     |_=>false
   |_,_,_=>false
 |_=>false
theorem zbu (a:Es o=true) (t:Tm) (h h':Hp):(iP o).f t h=(iP o).f t h':=by
 unfold Es at a;unfold iP;split at a
 all_goals rename_i b
 all_goals try rw[b]
 all_goals try simp only[xB]at a
 ·grind[lC]
 ·grind[lC]
 ·grind[Aq,lC]
 ·grind[sM,lC]
 ·grind[lC]
 ·grind[HF,lC]
 ·grind[OF,lC]
 ·grind[Nq,lC]
 ·grind[lC]
 ·grind[sW,lC]
 ·grind[Ky,lC]
 ·simp[JO];grind
 ·split <;> first|rfl|simp_all
 ·dsimp only;split <;> first|rfl|grind[lC]
 ·grind[hlen,lC,absurd]
 simp_all
abbrev RE:=Bool×Rec×Bool×Bool
def JI(k:Nat) (h:Hp) (rs:List RE) (K:Prop):Prop:=List.rec K (λr _ a=>Bool.rec (Option.rec (Bool.rec a (Bool.rec True (FW h r.2.1) r.1/\a) r.2.2.2) (λ_=>Bool.rec True (FW h r.2.1) r.1/\a) r.2.1.made) a (Nat.blt r.2.1.last k)) rs
def KV(rs:List RE):List RE:=rs.map λr=>(r.1,r.2.1,r.2.2.1,!r.2.2.1)
def uR(rs:List RE):List (Bool×Rec):=rs.map λr=>(r.1,r.2.1)
def itV(C:mw) (n:Nat) (all:List Oper) (ws:List It) (a:It) (d:Nat->iK->Hp->List RE->Prop) (k:Nat):iK->Hp->List RE->Prop:=match cls a.o with
  | 0 =>match kE n all a.o with
    | none=>match isVal a.o with
      |true=>λρ h rs=>Option.rec False (λv=>qm n a.o (λc h=>d k c h ((true,{it:=a,t:= .fn ρ [],v,made:=none,last:=late ws a},Es a.o,false)::rs)) v ρ h) ((iP a.o).f (.fn ρ []) h)
      |false=>λρ h rs=>oP ((iP a.o).f (.fn ρ []) h) λv=>qm n a.o (λc h=>d k c h ((true,{it:=a,t:= .fn ρ [],v,made:=none,last:=late ws a},Es a.o,false)::rs)) v ρ h
    |some g=>λρ h rs=>oP (g.f (.fn ρ [])) λb=>oP (gV b ((iP a.o).f (.fn ρ []) h)) λv=>
       qm n a.o (λc h=>d k c h ((b,{it:=a,t:= .fn ρ [],v,made:=none,last:=late ws a},Es a.o,false)::rs)) v ρ h
  | 1=>match kE n all a.o with
    |none=>λρ h rs=>oP ((sU a.o).f (.fn ρ [])) λr=>qm n a.o (λc h'=>d k c h' ((true,{it:=a,t:= .fn ρ [],v:=r.2 h.next,made:=some (h.next,r.1),last:=late ws a},false,false)::KV rs)) (r.2 h.next) ρ (h.new r.1)
    |some _=>λ_ _ _=>False
  | _ =>match kE n all a.o with
    |none=>λρ h rs=>JI k h rs (Vy C a.o (λv ρ h'=>h.next<=h'.next/\qm n a.o (λρ h=>d (Nat.succ k) ρ h (KV rs)) v ρ h') ρ h)
    | some g=>match ze a.o with
      |true=>λρ h rs=>JI k h rs (oP (g.f (.fn ρ [])) λb=>oP (gC b (oB ((j8 a.o).f (.fn ρ []) h) AN)) λx=>Gn C x h λv h'=>h.next<=h'.next/\qm n a.o (λρ h=>d (Nat.succ k) ρ h (KV rs)) v ρ h')
      |false=>λ_ _ _=>False
def Kh(l:List It):Bool:=l.all λa=>Nat.beq (cls a.o) 0
def VH(C:mw) (n:Nat) (all:List Oper) (ws:List It) (K:iK->Hp->Prop) (l:List It):Nat->iK->Hp->List RE->Prop:=
 List.rec (λk ρ h rs=>JI k h rs (K ρ h)) (λa l b k=>match Kh (a::l)with
  |true=>λρ h rs=>VS C n all (λρ h=>JI k h rs (K ρ h)) ((a::l).map (·.o)) 0 ρ h
  |false=>itV C n all ws a b k) l
def zba(h:Hp)(rs:List RE):Prop:=∀r∈rs,r.1=true->r.2.1.made=none->(r.2.2.1=true->∀h',FW h' r.2.1)/\(r.2.2.2=false->FW h r.2.1)
theorem zba.yj{h:Hp} {rs:List RE} (hi:zba h rs) (h':Hp):zba h' (KV rs):=by
 intro r a b c
 let⟨r',hr',e⟩:=Ov.1 a
 subst e
 let⟨d,_⟩:=hi r' hr' b c
 simp_all
theorem PL(rs:List RE):uR (KV rs)=uR rs:=by
 simp[uR,KV]
theorem yX {h:Hp}:∀{rs:List RE} {K d:Prop},zba h rs->(K->d)->JI k h rs K->xi k h (uR rs) d
 |[],_,_,_,hk,hh=>hk hh
 | (b,r,f,st)::rs,K,d,hi,hk,hh=>by
   have c:=λr c=>hi r (wA7 _ c);have h0:=hi _ (Tx ..)
   have a:Bool.rec
     (Option.rec (Bool.rec (JI k h rs K) (Bool.rec True (FW h r) b/\JI k h rs K) st)
     (λ_=>Bool.rec True (FW h r) b/\JI k h rs K) r.made) (JI k h rs K) (Nat.blt r.last k):=hh
   show Bool.rec (Bool.rec True (FW h r) b/\xi k h (uR rs) d) (xi k h (uR rs) d) (Nat.blt r.last k)
   cases hb:Nat.blt r.last k with
   |true=>rw[hb]at a;exact yX c hk a
   | false=>
     rw[hb]at a
     cases hm:r.made with
     |some x=>rw[hm]at a;exact⟨a.1,yX c hk a.2⟩
     | none=>
       rw[hm]at a
       cases st with
       |true=>exact⟨a.1,yX c hk a.2⟩
       | false=>
         refine⟨?_,yX c hk a⟩;cases b <;> grind
theorem zam  {K b:V->iK->Hp->Prop} (c:∀v ρ h,K v ρ h->b v ρ h) {ρ:iK} {h:Hp} (a:Vy C o K ρ h):Vy C o b ρ h:=by
 unfold Vy at a⊢;cases hi:ze o
 all_goals rw[hi]at a
 ·grind[rk]
 ·exact rk a λx H=>H.mono (by simp_all)
theorem Rj {h:Hp} {K:Prop} {rs:List (Bool×Rec)}:∀{new:List (Bool×Rec)},(∀r∈new,r.1=true->FW h r.2)->xi k h rs K->xi k h (new++rs) K
 |[],_,hh=>hh
 | r ::new,hn,hh=>by
   have a:=Rj (new:=new) (by simp_all) hh;show xi k h (r::(new++rs)) K;simp[xi]
   cases hb:Nat.blt r.2.last k with
   |true=>exact a
   | false=>
     refine⟨?_,a⟩;cases hb:r.1 <;> grind
theorem PW   {ws:List It}   {rs:List (Bool×Rec)}:∀{l:List It} {ρ:iK} {h:Hp} {new:List (Bool×Rec)},Kh l=true->(∀r∈new,r.1=true->FW h r.2)->
  Al C n all (λρ h=>xi k h rs (K ρ h)) (l.map (·.o)) ρ h->J9 C n all ws K l k ρ h (new++rs)
 |[],_,_,_,_,hn,hk=>Rj hn hk
 | a ::l,ρ,h,new,hp,hn,hk=>by
   simp only[Kh,wBq,xB]at hp
   let⟨hc,hp⟩:=hp
   have hc:=Cj hc;have c:A0 C n all a.o (Al C n all (λρ h=>xi k h rs (K ρ h)) (l.map (·.o))) ρ h:=hk;show itR C n all ws a (J9 C n all ws K l) k ρ h (new++rs)
   have j:∀{b:Bool} {v:V},(b=true->(iP a.o).f (.fn ρ []) h=some v)->qm n a.o (Al C n all (λρ h=>xi k h rs (K ρ h)) (l.map (·.o))) v ρ h->
       qm n a.o (λu h=>J9 C n all ws K l k u h ((b,{it:=a,t:= .fn ρ [],v,made:=none,last:=late ws a})::(new++rs))) v ρ h:=by
     intro b v m hd;have i:∀r∈(b,({it:=a,t:= .fn ρ [],v,made:=none,last:=late ws a}:Rec))::new,r.1=true->FW h r.2:=by
       intro r w p;rcases yt.1 w with e|e
       ·subst e;exact m p
       ·grind
     unfold qm at hd⊢
     cases ho:a.o.dst with
     |none=>rw[ho]at hd;exact PW hp i hd
     | some d=>
       rw[ho]at hd;simp only at hd⊢
       cases m:Nat.blt d n with
       |true=>rw[m]at hd;exact PW hp i hd
       |false=>simp_all
   unfold A0 at c;unfold itR;rw[hc];simp only
   cases hw:kE n all a.o with
   | none=>
     rw[hw]at c;simp[Tv,hc]at c
     let⟨v,q,s⟩:=mf.1 c
     simp_all
   | some g=>
     rw[hw]at c;simp[gdR,hc]at c
     let⟨b,h0,c⟩:=mf.1 c
     let⟨v,q,s⟩:=mf.1 c
     exact ec h0 (ec q (j (λe=>by simp_all) s))
theorem Mk   {c:iK->Hp->Prop} {h:Hp} (e:∀ρ,K ρ h->c ρ h):∀{l:List It} {ρ:iK},Kh l=true->Al C n all K (l.map (·.o)) ρ h->Al C n all c (l.map (·.o)) ρ h
 |[],_,_,hk=>e _ hk
 | a ::l,ρ,hp,hk=>by
   simp only[Kh,wBq,xB]at hp
   let⟨hc,hp⟩:=hp
   have hc:=Cj hc;have b:A0 C n all a.o (Al C n all K (l.map (·.o))) ρ h:=hk;show A0 C n all a.o (Al C n all c (l.map (·.o))) ρ h;have f:∀{v:V},qm n a.o (Al C n all K (l.map (·.o))) v ρ h->qm n a.o (Al C n all c (l.map (·.o))) v ρ h:=by
     intro v hd;unfold qm at hd⊢
     cases ho:a.o.dst with
     |none=>rw[ho]at hd;exact Mk e hp hd
     | some d=>
       rw[ho]at hd;simp only at hd⊢
       cases hb:Nat.blt d n with
       |true=>rw[hb]at hd;exact Mk e hp hd
       |false=>simp_all
   unfold A0 at b⊢
   cases hw:kE n all a.o with
   | none=>
     grind[Tv,mf]
   | some g=>
     rw[hw]at b
     grind[gdR,mf]
theorem Oe   {ws:List It} :∀(l:List It) {k:Nat} {ρ:iK} {h:Hp} {rs:List RE},zba h rs->VH C n all ws K l k ρ h rs->J9 C n all ws K l k ρ h (uR rs)
 |[],_,_,_,_,hi,hk=>yX hi (λx=>x) hk
 | a ::l,k,ρ,h,rs,hi,hk=>by
   have i:(match Kh (a::l)with
     |true=>λ(ρ:iK) (h:Hp) (rs:List RE)=>VS C n all (λρ h=>JI k h rs (K ρ h)) ((a::l).map (·.o)) 0 ρ h
     |false=>itV C n all ws a (VH C n all ws K l) k:iK->Hp->List RE->Prop) ρ h rs:=hk
   cases hp:Kh (a::l)with
   | true=>
     rw[hp]at i;have z:=LL _ 0 i
     exact PW (new:=[]) hp (by simp_all) (Mk (λρ m=>yX hi (λx=>x) m) hp z)
   | false =>
     rw[hp]at i;simp only at i;show itR C n all ws a (J9 C n all ws K l) k ρ h (uR rs)
     have pure:∀{b:Bool} {v:V},gV b ((iP a.o).f (.fn ρ []) h)=some v->∀{j:iK},VH C n all ws K l k j h ((b,{it:=a,t:= .fn ρ [],v,made:=none,last:=late ws a},Es a.o,false)::rs)->
         J9 C n all ws K l k j h ((b,{it:=a,t:= .fn ρ [],v,made:=none,last:=late ws a})::uR rs):=by
       intro b v hv j m;refine Oe l (rs:=(b,{it:=a,t:= .fn ρ [],v,made:=none,last:=late ws a},Es a.o,false)::rs) ?_ m;intro r q p s;rcases yt.1 q with e|e
       ·subst e
        have u:b=true:=p;subst u;refine⟨λA h'=>?_,λ_=>hv⟩;show(iP a.o).f (.fn ρ []) h' = some v;rw[zbu A _ h' h];exact hv
       ·exact hi r e p s
     have dst:∀{b:Bool} {v:V},gV b ((iP a.o).f (.fn ρ []) h)=some v->qm n a.o (λj h=>VH C n all ws K l k j h ((b,{it:=a,t:= .fn ρ [],v,made:=none,last:=late ws a},Es a.o,false)::rs)) v ρ h->
         qm n a.o (λj h=>J9 C n all ws K l k j h ((b,{it:=a,t:= .fn ρ [],v,made:=none,last:=late ws a})::uR rs)) v ρ h:=by
       intro b v hv hd;unfold qm at hd⊢
       cases ho:a.o.dst with
       |none=>grind
       | some d=>
         grind
     unfold itV at i;unfold itR;generalize hc:cls a.o=c at i;rcases c with _|_|c
     ·simp only at i⊢
      cases hw:kE n all a.o with
      | none=>
        rw[hw]at i;simp only at i⊢;have w:oP ((iP a.o).f (.fn ρ []) h) λv=>qm n a.o (λj h=>VH C n all ws K l k j h ((true,{it:=a,t:= .fn ρ [],v,made:=none,last:=late ws a},Es a.o,false)::rs)) v ρ h:=by
          cases hv:isVal a.o <;> (rw[hv]at i;exact i)
        obtain⟨v,z,D⟩:=mf.1 w
        simp_all
      | some g=>
        grind[mf,ec]
     ·simp only at i⊢
      cases hw:kE n all a.o with
      | none=>
        rw[hw]at i;refine rk i λr H=>IP (λj h' m=>?_) H;have:=Oe l (rs:=(true,{it:=a,t:= .fn ρ [],v:=r.2 h.next,made:=some (h.next,r.1),last:=late ws a},false,false)::KV rs) (by
          intro r' q p s;rcases yt.1 q with e|e
          ·simp_all
          ·exact hi.yj h' r' e p s) m
        grind[J9,uR,KV,PL]
      |some g=>simp_all
     ·simp only at i⊢
      have B:∀{v:V} {ρ:iK} {h':Hp},qm n a.o (λρ h=>VH C n all ws K l (Nat.succ k) ρ h (KV rs)) v ρ h'->qm n a.o (λρ h=>J9 C n all ws K l (Nat.succ k) ρ h (uR rs)) v ρ h':=λH=>
        IP (λρ h m=>by have:=Oe l (hi.yj h) m;grind[PL]) H
      cases hw:kE n all a.o with
      | none=>
        grind[yX,zam]
      | some g=>
        rw[hw]at i;simp only at i⊢
        cases hic:ze a.o with
        |false=>simp_all
        | true=>
          rw[hic]at i;refine yX hi (λH=>rk H λb H=>rk H λx H=>?_) i
          cases x with
          |none=>simp_all
          |some y=>exact cP.mono H (by simp_all)
def zca(C:mw) (n:Nat) (all:List Oper) (K:iK->Hp->Prop) (ρ:iK) (h:Hp):Prop:=VH C n all (hD (items all 0 [])) K (order (items all 0 []) (hD (items all 0 [])) (hD (items all 0 [])) 0) 0 ρ h []
theorem zaP{ρ:iK}{h:Hp}(a:zca C n all K ρ h):X4 C n all K ρ h:=Oe (rs:=[]) _ (by intro r b;cases b) a
end
noncomputable def PJ(tb:List (Nat×List Nat)) (k:Nat):Option (List Nat):=List.rec (motive:=λ_=>Option (List Nat)) none (λx _ a=>Bool.rec (motive:=λ_=>Option (List Nat)) a (some x.2) (Nat.beq x.1 k)) tb
noncomputable def jV(C:mw) (n:Nat) (live:List Nat) (c:Code) (s:XQ) (ρ:iK) (h:Hp):Prop:=∀a:iK,List.rec (motive:=λ_=>Prop) (Wp C n c s a h) (λi _ b=>a i=ρ i->b) live
theorem zaY  {live:List Nat} {c:Code} {s:XQ} {ρ:iK} {h:Hp} (a:jV C n live c s ρ h):Wp C n c s ρ h:=by
 have:=a ρ;clear a
 induction live <;> grind
noncomputable def Vj(C:mw) (n:Nat) (tb:List (Nat×List Nat)) (c:Code):Nat->Nat->XQ->XQ->iK->Hp->Prop:=
 Code.rec (motive:=λ_=>Nat->Nat->XQ->XQ->iK->Hp->Prop)
  (λ_ _ v _=>v .normal)
  (fun _ ops d _ _ v _=>match d with
   |false=>VS C n ops.toList (λρ h=>v .normal ρ h) ops.toList 0
   | true=>match yV ops.toList with
     |true=>zca C n ops.toList (λρ h=>v .normal ρ h)
     |false=>λ_ _=>False)
  (λ_ b a g p e v s=>a p (Nat.mul 2 e) (andThen (Option.rec (motive:=λ_=>iK->Hp->Prop) (g (Nat.add p e) (Nat.mul 2 e) v s) (λlive=>jV C n live b s) (PJ tb (Nat.mul 2 (Nat.add (Nat.add p e) (Nat.mul 2 e))))) v) (andThen (Wp C n b s) s))
  (λc _ _ a g p e v s ρ h=>Option.rec (motive:=λ_=>Prop) False (λx=>bP x (a p (Nat.mul 2 e) v s ρ h) (g (Nat.add p e) (Nat.mul 2 e) v s ρ h)) ((yi c).f (.fn ρ []) h))
  (λid _ i p e v s=>i p (Nat.mul 2 e) (CO id v) (CO id s))
  (λc _ p e _ s=>Option.rec (motive:=λ_=>iK->Hp->Prop) (λ_ _=>False) (λlive=>jV C n live (.loop c) s) (PJ tb (Nat.succ (Nat.mul 2 (Nat.add p e)))))
  (λ_ _ _ _ _ _ _ _ _ _ _ _=>False)
  (λid _ _ v _=>v (.exit id))
  (λ_ _ _ _ _ _ _ _=>False)
  (λ_ _ _ _ _ _ _=>False)
  (λ_ _ _ _ _ _ _=>False)
  (λ_ _ v _=>v .ret)
  (λ_ _ _ _ _ _ _=>False) c
theorem BL{k k':iK->Hp->Prop} {v s:XQ} (a:∀ρ h,k ρ h->k' ρ h) (hq:∀x ρ h,v x ρ h->s x ρ h):∀x ρ h,andThen k v x ρ h->andThen k' s x ρ h
 | .normal,_,_,hh=>a _ _ hh
 | .exit _,_,_,hh=>hq _ _ _ hh
 | .ret,_,_,hh=>hq _ _ _ hh
theorem OZ{id:Nat} {v s:XQ} (hq:∀x ρ h,v x ρ h->s x ρ h):∀x ρ h,CO id v x ρ h->CO id s x ρ h
 | .normal,_,_,hh=>hq _ _ _ hh
 | .ret,_,_,hh=>hq _ _ _ hh
 | .exit i,ρ,h,hh=>by
   simp only[CO]at hh⊢;cases hb:Nat.beq i id <;> simp_all
theorem vW  :∀(c:Code) {p e:Nat} {v s:XQ} {ρ:iK} {h:Hp},(∀x ρ h,v x ρ h->s x ρ h)->Vj C n tb c p e v s ρ h->Wp C n c s ρ h
 | .skip,_,_,_,_,_,_,hq,hk=> .skip (hq _ _ _ hk)
 | .region _ ops false,_,_,v,_,ρ,h,hq,hk=>by
   have d:VS C n ops.toList (λρ h=>v .normal ρ h) ops.toList 0 ρ h:=hk
   exact(Wp.region (LL _ 0 d)).mono hq
 | .region _ ops true,_,_,v,_,ρ,h,hq,hk=>by
   have d:(match yV ops.toList with
       |true=>zca C n ops.toList (λρ h=>v .normal ρ h)
       |false=>λ_ _=>False) ρ h:=hk
   cases hd:yV ops.toList with
   |true=>rw[hd]at d;exact(Wp.draw hd (zaP d)).mono hq
   |false=>simp_all
 | .seq a b,p,e,v,s,ρ,h,hq,hk=>by
   refine .seq (vW a (BL ?_ hq) hk);intro ρ h g
   cases hf:PJ tb (Nat.mul 2 (Nat.add (Nat.add p e) (Nat.mul 2 e)))with
   |none=>rw[hf]at g;exact vW b hq g
   |some live=>rw[hf]at g;exact zaY g
 | .cond c a b,p,e,v,s,ρ,h,hq,hk=>by
   have d:oP ((yi c).f (.fn ρ []) h) (λx=>bP x (Vj C n tb a p (Nat.mul 2 e) v s ρ h) (Vj C n tb b (Nat.add p e) (Nat.mul 2 e) v s ρ h)):=hk;obtain⟨x,hv,d⟩:=mf.1 d
   exact .cond (ec hv (bM d (vW a hq) (vW b hq)))
 | .block id c,_,_,_,_,_,_,hq,hk=> .block (vW c (OZ hq) hk)
 | .loop c,p,e,v,s,ρ,h,hq,hk=>by
   have d:(Option.rec (motive:=λ_=>iK->Hp->Prop) (λ_ _=>False) (λlive=>jV C n live (.loop c) s) (PJ tb (Nat.succ (Nat.mul 2 (Nat.add p e)))):iK->Hp->Prop) ρ h:=hk
   cases hf:PJ tb (Nat.succ (Nat.mul 2 (Nat.add p e)))with
   |none=>simp_all
   |some live=>rw[hf]at d;grind[zaY]
 | .exit id,_,_,_,_,_,_,hq,hk=> .exit (hq _ _ _ hk)
 | .ret,_,_,_,_,_,_,hq,hk=> .ret (hq _ _ _ hk)
 | .rangeFunc ..,_,_,_,_,_,_,_,hk=>hk.elim
 | .scope _,_,_,_,_,_,_,_,hk=>hk.elim
 | .label _,_,_,_,_,_,_,_,hk=>hk.elim
 | .goto _,_,_,_,_,_,_,_,hk=>hk.elim
 | .refuse _,_,_,_,_,_,_,_,hk=>hk.elim
structure YB where
 c:Code
 v:XQ
 s:XQ
 p:Nat
 e:Nat
 ks:List (iK->Hp->Prop)
def zd3(l:List (iK->Hp->Prop)):iK->Hp->Prop:=match l with
 |k::_=>k
 |[]=>λ_ _=>False
noncomputable def G9(C:mw) (n:Nat) (tb:List (Nat×List Nat)) (a:YB) (b:Bool):YB:=match a.c,b with
 | .seq x y,false=>{c:=x,v:=andThen (Option.rec (motive:=λ_=>iK->Hp->Prop) (Vj C n tb y (Nat.add a.p a.e) (Nat.mul 2 a.e) a.v a.s) (λlive=>jV C n live y a.s) (PJ tb (Nat.mul 2 (Nat.add (Nat.add a.p a.e) (Nat.mul 2 a.e))))) a.v,s:=andThen (Wp C n y a.s) a.s,p:=a.p,e:=Nat.mul 2 a.e,ks:=a.ks}
 | .seq _ y,true=>{c:=y,v:=a.v,s:=a.s,p:=Nat.add a.p a.e,e:=Nat.mul 2 a.e,ks:=a.ks}
 | .cond _ x _,false=>{c:=x,v:=a.v,s:=a.s,p:=a.p,e:=Nat.mul 2 a.e,ks:=a.ks}
 | .cond _ _ y,true=>{c:=y,v:=a.v,s:=a.s,p:=Nat.add a.p a.e,e:=Nat.mul 2 a.e,ks:=a.ks}
 | .block id x,false=>{c:=x,v:=CO id a.v,s:=CO id a.s,p:=a.p,e:=Nat.mul 2 a.e,ks:=a.ks}
 | .loop x,false=>{c:=x,v:=andThen (zd3 a.ks) a.v,s:=andThen (zd3 a.ks) a.s,p:=a.p,e:=Nat.mul 2 a.e,ks:=a.ks.tail}
 |_,_=>a
noncomputable def zfI(C:mw) (n:Nat) (tb:List (Nat×List Nat)) (bs:List Bool):YB->YB:=List.rec (motive:=λ_=>YB->YB) (λa=>a) (λb _ c a=>c (G9 C n tb a b)) bs
def zfA(k:Nat):List Bool:=(Nat.rec (motive:=λ_=>Nat->List Bool) (λ_=>[]) (λ_ a p=>match Nat.ble p 1 with
 |true=>[]
 |false=>Nat.beq (Nat.mod p 2) 1::a (Nat.div p 2)) 400:Nat->List Bool) k
def WO(Q:V->Hp->Prop) (ρ:iK) (h:Hp) (l:List ResultVar):List V->Prop:=
 List.rec (motive:=λ_=>List V->Prop) (λb=>Q (EJ b.reverse) h) (λr _ c b=>match r with
  | .tmp i=>c (ρ i::b)
  | .cell a ty=>oP ((zcY (.cell a ty)).f (.fn ρ []) h) λv=>c (v::b)) l
theorem OB {ρ:iK} {h:Hp}:∀{l:List ResultVar} {b:List V},WO Q ρ h l b->oP (DI (.fn ρ []) h l) λvs=>Q (EJ (b.reverse++vs)) h
 | [],b,hh=>by
   grind[EJ,DI,zce,oP,WO]
 | .tmp i::l,b,hh=>by
   have c:WO Q ρ h l (ρ i::b):=hh;obtain⟨vs,d,e⟩:=mf.1 (OB c);refine ec (show DI (.fn ρ []) h (.tmp i::l)=some (ρ i::vs) from ?_) ?_
   ·show oB (some (ρ i)) _=_
    simp_all
   simp_all
 | .cell a ty::l,b,hh=>by
   have c:oP ((zcY (.cell a ty)).f (.fn ρ []) h) λv=>WO Q ρ h l (v::b):=hh;obtain⟨v,h0,c⟩:=mf.1 c;obtain⟨vs,d,e⟩:=mf.1 (OB c)
   simp_all[ec,DI,oB,zcY]
def X8(l:List ResultVar) (Q:V->Hp->Prop):XQ
 | .exit _,_,_=>False
 |_,ρ,h=>WO Q ρ h l []
theorem Us{l:List ResultVar} :∀x ρ h,X8 l Q x ρ h->NP l Q x ρ h
 | .exit _,_,_,hh=>hh
 | .normal,_,_,hh=>by grind[OB,WO,NP,zcQ,X8]
 | .ret,_,_,hh=>by grind[OB,WO,NP,zcQ,X8]
noncomputable def XI(fn:Func)(ks:List (iK->Hp->Prop))(Q:V->Hp->Prop):YB:={c:=MJ fn,v:=X8 fn.results.toList Q,s:=NP fn.results.toList Q,p:=0,e:=1,ks}
noncomputable def kX(C:mw)(fn:Func)(tb:List (Nat×List Nat))(k:Nat)(ks:List (iK->Hp->Prop))(Q:V->Hp->Prop):YB:=zfI C fn.ntmps tb (zfA k) (XI fn ks Q)
noncomputable def WA(C:mw)(fn:Func)(tb:List (Nat×List Nat))(k:Nat)(ks:List (iK->Hp->Prop))(Q:V->Hp->Prop)(ρ:iK)(h:Hp):Prop:=Wp C fn.ntmps (kX C fn tb k ks Q).c (kX C fn tb k ks Q).s ρ h
noncomputable def VA(C:mw)(n:Nat)(tb:List (Nat×List Nat))(a:YB)(ρ:iK)(h:Hp):Prop:=Vj C n tb a.c a.p a.e a.v a.s ρ h
def YB.ok(a:YB):Prop:=∀x ρ h,a.v x ρ h->a.s x ρ h
theorem Zl   {a:YB} (c:a.ok) (b:Bool):(G9 C n tb a b).ok:=by
 unfold G9;split
 ·refine BL (λρ h d=>?_) c
  cases hf:PJ tb (Nat.mul 2 (Nat.add (Nat.add a.p a.e) (Nat.mul 2 a.e)))with
  |none=>rw[hf]at d;exact vW _ c d
  |some live=>rw[hf]at d;exact zaY d
 ·exact c
 ·exact c
 ·exact c
 ·exact OZ c
 ·exact BL (by simp_all) c
 ·exact c
theorem XY  :∀{bs:List Bool} {a:YB},a.ok->(zfI C n tb bs a).ok
 |[],_,ha=>ha
 |b::bs,_,ha=>XY (bs:=bs) (Zl ha b)
theorem MG:(kX C fn tb k ks Q).ok:=XY Us
theorem WA.of      {ρ:iK} {h:Hp} 
  (e:VA C fn.ntmps tb (kX C fn tb k ks Q) ρ h=P) (H:P):WA C fn tb k ks Q ρ h:=vW _ MG (e.mpr H)
def WN(c:Code):Bool:=match c with
 | .seq (.region _ r0 false) _=>match r0.toList with
   | o::_=>match o.op with
     | .next _ false=>false
     |_=>true
   |[]=>true
 |_=>true
theorem Ut {c:Code} (h:WN c=true):zg n c=none:=by
 cases hf:zg n c with
 |none=>rfl
 | some F=>
   obtain⟨_,_,_,_,_,_,_,d,_,_,_,_,_,_,_,rfl,e0,_,_,_,a,_⟩:=QY hf;obtain⟨b,_⟩:=zdU a;simp only[WN,e0,b]at h;cases h
def Pl(c:Code):Bool:=match c with
 | .loop c=>WN c
 |_=>false
noncomputable def VL(n:Nat) (c:Code):Option nG:=match c with
 | .loop c=>zg n c
 |_=>none
inductive LA (C:mw) (fn:Func) (tb:List (Nat×List Nat)) (k:Nat) (ks:List (iK->Hp->Prop)) (Q:V->Hp->Prop) (K:iK->Hp->Prop) (ρ:iK) (h:Hp):Prop
 |mk (hv:VA C fn.ntmps tb (G9 C fn.ntmps tb {kX C fn tb k ks Q with ks:=[K]} false) ρ h)
theorem LA.of       {ρ:iK} {h:Hp} 
  (e:VA C fn.ntmps tb (G9 C fn.ntmps tb {kX C fn tb k ks Q with ks:=[K]} false) ρ h=P) (H:P):LA C fn tb k ks Q K ρ h:=⟨e.mpr H⟩
theorem WA.loop      {ρ:iK} {h:Hp} (I:Nat->iK->Hp->Prop) {m:Nat}
  (hl:Pl (kX C fn tb k ks Q).c=true) (l:(kX C fn tb k ks Q).ks=[])
  (b:∀m ρ h,I m ρ h->LA C fn tb k ks Q (λg h'=>∃f,f<m/\I f g h') ρ h) (h0:I m ρ h):WA C fn tb k ks Q ρ h:=by
 unfold WA;have b:=λm ρ h hi=>(b m ρ h hi).1;have d:(kX C fn tb k ks Q).ok:=MG;generalize kX C fn tb k ks Q=a at*;obtain⟨c,v,s,p,e,i⟩:=a;cases c <;> simp only[Pl]at hl <;> try exact absurd hl (by decide)
 rename_i c;refine Wp.zgb I (λm ρ h hi=>?_) h0 (Ut hl);have:=b m ρ h hi;exact vW c (BL (λ_ _ j=>j) d) this
theorem WA.fill      {ρ d:iK} {h:Hp} {F:nG} {x:X}
  (hl:VL fn.ntmps (kX C fn tb k ks Q).c=some F) (hv:QW F (.fn ρ []) h=some (x,.fn d [],h')) (H:(kX C fn tb k ks Q).v x d h'):WA C fn tb k ks Q ρ h:=by
 unfold WA;have b:(kX C fn tb k ks Q).ok:=MG;generalize kX C fn tb k ks Q=a at*;obtain⟨c,v,s,p,e,f⟩:=a;cases c <;> simp only[VL]at hl <;> try cases hl
 exact Wp.fill hl hv (b _ _ _ H)
theorem cP.vc (hs:C.start=Cg) {f:Nat} {fn:Func} {tb:List (Nat×List Nat)} {args:List V} {h:Hp} {Q:V->Hp->Prop} {P:Prop} (b:P0.funcs[f]? =some fn) (c:fn.body=some (MJ fn))
  (d:C.K f args h=none) (a:Nat.ble args.length fn.ntmps=true) (e:VA C fn.ntmps tb (XI fn [] Q) (Nd args) h=P) (H:P):cP C f args h Q:=
 cP.func hs b c d (ND a) (vW _ Us (e.mpr H))
abbrev LP:=List V->Hp->Prop
def chV(ρ:iK):List Nat->List V->Prop->Prop
 |i::is,x::xs,P=>ρ i=x->chV ρ is xs P
 |_,_,P=>P
def kf(is:List Nat)(K:LP):iK->Hp->Prop:=λρ h=>K (is.map ρ) h
def JV(C:mw)(fn:Func)(tb:List (Nat×List Nat))(k:Nat)(is:List Nat)(ks:List (iK->Hp->Prop))(Q:fo):LP:=λl h=>∀ρ,chV ρ is l (WA C fn tb k ks Q ρ h)
theorem SC{ρ:iK}:∀{is:List Nat}{l:List V},is.length=l.length->(is.map ρ=l->P)->chV ρ is l P
 |[],[],_,h=>h rfl
 |[],_::_,e,_=>by cases e
 |_::_,[],e,_=>by cases e
 |i::is,x::l,e,h=>λa=>SC (by simp_all) (by simp_all)
def C8:Nat->Type
 |0=>Hp->Prop
 |n+1=>V->C8 n
def Vs:(n:Nat)->C8 n->LP
 |0,f,[],h=>f h
 |n+1,f,x::l,h=>Vs n (f x) l h
 |_,_,_,_=>False
@[reducible] def NG (I:Nat->LP) (k:Nat):LP:=λl h=>∃k',k' < k/\I k' l h
section
variable{C:mw}{fn:Func}{tb:List (Nat×List Nat)}{k m:Nat}{is:List Nat}{ks:List (iK->Hp->Prop)}{Q:fo}{h:Hp}{l:List V}
theorem JV.mk(n:Nat)(B:C8 n)(e:∀ρ h,VA C fn.ntmps tb (kX C fn tb k ks Q) ρ h=Vs n B (is.map ρ) h)(hl:is.length=l.length)(H:Vs n B l h):JV C fn tb k is ks Q l h:=λρ=>SC hl λa=>by
 subst a;exact WA.of (e ρ h) H
theorem JV.loop(n:Nat)(I:Nat->LP)(B:LP->C8 n)(hl:Pl (kX C fn tb k ks Q).c=true)(a:(kX C fn tb k ks Q).ks=[])
  (e:∀K ρ h,VA C fn.ntmps tb (G9 C fn.ntmps tb {kX C fn tb k ks Q with ks:=[kf is K]} false) ρ h=Vs n (B K) (is.map ρ) h)
  (d:∀m l h,l.length=n->I m l h->Vs n (B (NG I m)) l h) (f:is.length=n) (hlen:is.length=l.length) (h0:I m l h):JV C fn tb k is ks Q l h:=λρ=>SC hlen λb=>by
 subst b;exact WA.loop (λm ρ h=>I m (is.map ρ) h) hl a (λm ρ h hi=>LA.of (e (NG I m) ρ h) (by grind)) h0
noncomputable def PQ(k:IntKind) (it u:V) (h:Hp):Option Hp:=vx it λr off=>bB (Nat.beq off 0) (oB (h.get r) λo=>match o with
 | .iter (some m) since [] last=>AI h m λes a=>bB (Nat.beq since a&&Nat.beq last a) (oB (Nr k es) λks=>match u with
   | .map u=>bB (!(Nat.beq u m)) (AI h u λus _=>bB us.isEmpty (some ((h.put r .gone).put u (.Qj k ks))))
   |_=>none)
 |_=>none)
theorem nG.zgS(F:nG)(u:Nat)(b:Bool)(ρ:iK):∃c,F.t u b (.fn ρ []) = .fn c []/\∀i,i ∉ F.all.drop 2->c i=ρ i:=by
 have a:∀i,i ∉ F.all.drop 2->ij (F.t u b (.fn ρ [])) i=ρ i:=λi hi=>by
  simp[nG.all,List.drop]at hi;unfold nG.t;cases b <;> simp[iA] <;> (repeat' rw[if_neg (by grind)]) <;> rfl
 cases b <;> exact⟨_,rfl,a⟩
theorem zdw{F:nG}{ρ:iK} {h:Hp}(hv:PQ F.k (ρ F.it) (ρ F.u) h=some h'):∃a,QW F (.fn ρ []) h=some (.exit F.x,.fn a [],h')/\∀i,i ∉ F.all.drop 2->a i=ρ i:=by
 unfold PQ at hv;show ∃a,vx (ρ F.it) _=_/\_;rw[uB]at hv
 let⟨r,off,b,hv⟩:=hv
 rw[il,fy]at hv
 let⟨d,o,e,hv⟩:=hv
 split at hv
 ·simp only[AA,il,fy]at hv
  let⟨es,c,f,g,ks,j,hv⟩:=hv
  split at hv
  ·rename_i u l;simp only[il,AA]at hv
   let⟨m,us,cu,n,p,hv⟩:=hv
   cases hv
   let⟨a,e1,e2⟩:=F.zgS u es.isEmpty ρ
   refine⟨a,?_,e2⟩;simp[b,vx,d,bB,e,oB,AI,f,g,j];rw[show ij (.fn ρ []) F.u = .map u from l];simp[m,n,p,e1]
  ·cases hv
 ·cases hv
theorem JV.fill{F:nG}{a:List Nat}{b:List V} (hl:VL fn.ntmps (kX C fn tb k ks Q).c=some F)
  (e:∀ρ h,(kX C fn tb k ks Q).v (.exit F.x) ρ h=JV C fn tb d a ks Q (a.map ρ) h) (hd:∀i∈a,i ∉ F.all.drop 2) (hlen:is.length=l.length)
  (hs:∀ρ:iK,is.map ρ=l->a.map ρ=b/\PQ F.k (ρ F.it) (ρ F.u) h=some h') (H:JV C fn tb d a ks Q b h'):JV C fn tb k is ks Q l h:=λρ=>SC hlen λf=>by
 let⟨g,j⟩:=hs ρ f
 let⟨ρ',m,n⟩:=zdw j
 refine WA.fill hl m ?_;rw[e,show a.map ρ' = b from g▸wBe λi hi=>n i (hd i hi)];exact H
abbrev dF(k:Nat)(x:V)(h:Hp)(K:V->Prop):Prop:=oP (fV k x) λa=>oP (eD a h) K
abbrev dN(k:Nat)(x:V)(h:Hp)(K:V->Prop):Prop:=oP (fR x) λa=>dF k a h K
abbrev dI(n:Nat)(x i:V)(k:Nat)(h:Hp)(K:V->Prop):Prop:=oP (gQ n x i) λa=>dF k a h K
abbrev dX(n:Nat)(x i:V)(h:Hp)(K:V->Prop):Prop:=oP (gQ n x i) λa=>oP (eD a h) K
abbrev dG(k:Nat)(x:V)(h:Hp)(K:V->Prop):Prop:=dF k x h λa=>oP (fM a) K
abbrev dJ(k:Nat)(x:V)(n:Nat)(i:V)(j:Nat)(h:Hp)(K:V->Prop):Prop:=dF k x h λa=>dI n a i j h K
abbrev dY(k:Nat)(x:V)(n:Nat)(i:V)(h:Hp)(K:V->Prop):Prop:=dF k x h λa=>dX n a i h K
abbrev bO(o:BinOp)(t:Nat)(a b:V)(A B:Prop):Prop:=oP (eh o t a b) λv=>bP v A B
abbrev bN(a:V)(A B:Prop):Prop:=oP (za .not a) λv=>bP v A B
theorem oF{l o:Nat}{h:Hp}{K:V->Prop}(a:eD (.ptr l (o+k)) h=some v)(b:K v):dF k (.ptr l o) h K:=mf.2 ⟨_,fx _ _ _,mf.2 ⟨_,a,b⟩⟩
theorem oN{l o:Nat}{h:Hp}{K:V->Prop}(a:eD (.ptr l (o+k)) h=some v)(b:K v):dN k (.ptr l o) h K:=mf.2 (by simp_all[oF])
theorem cP.vd{f:Nat}(tb:List (Nat×List Nat)){args:List V}{h:Hp}{Q:fo}{P:Prop}(hs:C.start=Cg)(b:P0.funcs[f]? =some fn)(c:C.K f args h=none)(H:P)
  (d:fn.body=some (MJ fn):=by kernel_rfl) (a:Nat.ble args.length fn.ntmps=true:=by kernel_rfl) (e:VA C fn.ntmps tb (XI fn [] Q) (Nd args) h=P:=by kernel_rfl):cP C f args h Q:=cP.vc hs b d c a e H
abbrev nZ:V:= .I 0
abbrev nO:V:= .I 1
abbrev nS:V:= .ed
abbrev bT:V:= .bool true
abbrev bF:V:= .bool false
abbrev zC(T:Nat)(l:List V):Option (O×(Nat->V)):=some (.cells T 1 true false l,λl=> .ptr l 0)
abbrev P2(I:Nat->QP2)(B:(QP2)->QP2):Prop:=∀k a b h,I k a b h->B (λa b h=>∃k',k' < k/\I k' a b h) a b h
abbrev P3(I:Nat->QP3)(B:(QP3)->QP3):Prop:=∀k a b c h,I k a b c h->B (λa b c h=>∃k',k' < k/\I k' a b c h) a b c h
abbrev P4(I:Nat->Ro)(B:(Ro)->Ro):Prop:=∀k a b c x4 h,I k a b c x4 h->B (λa b c x4 h=>∃k',k' < k/\I k' a b c x4 h) a b c x4 h
abbrev P5(I:Nat->JF)(B:(JF)->JF):Prop:=∀k a b c x4 d h,I k a b c x4 d h->B (λa b c x4 d h=>∃k',k' < k/\I k' a b c x4 d h) a b c x4 d h
abbrev P6(I:Nat->QP6)(B:(QP6)->QP6):Prop:=∀k a b c x4 d e h,I k a b c x4 d e h->B (λa b c x4 d e h=>∃k',k' < k/\I k' a b c x4 d e h) a b c x4 d e h
abbrev P7(I:Nat->NV)(B:(NV)->NV):Prop:=∀k a b c x4 d e f h,I k a b c x4 d e f h->B (λa b c x4 d e f h=>∃k',k' < k/\I k' a b c x4 d e f h) a b c x4 d e f h
abbrev P8(I:Nat->Yr)(B:(Yr)->Yr):Prop:=∀k a b c x4 d e f g h,I k a b c x4 d e f g h->B (λa b c x4 d e f g h=>∃k',k' < k/\I k' a b c x4 d e f g h) a b c x4 d e f g h
abbrev P10(I:Nat->MI)(B:(MI)->MI):Prop:=∀k b c d x4 e f g i j a h,I k b c d x4 e f g i j a h->B (λb c d x4 e f g i j a h=>∃k',k' < k/\I k' b c d x4 e f g i j a h) b c d x4 e f g i j a h
abbrev P11(I:Nat->JQ)(B:(JQ)->JQ):Prop:=∀k c d e x4 f g i j l a b h,I k c d e x4 f g i j l a b h->B (λc d e x4 f g i j l a b h=>∃k',k' < k/\I k' c d e x4 f g i j l a b h) c d e x4 f g i j l a b h
abbrev P13(I:Nat->YX)(B:(YX)->YX):Prop:=∀k d e f x4 g i j l m a b c gI h,I k d e f x4 g i j l m a b c gI h->B (λd e f x4 g i j l m a b c gI h=>∃k',k' < k/\I k' d e f x4 g i j l m a b c gI h) d e f x4 g i j l m a b c gI h
abbrev P14(I:Nat->zct)(B:(zct)->zct):Prop:=∀k d e f x4 g i j l m a b c gI iQ h,I k d e f x4 g i j l m a b c gI iQ h->B (λd e f x4 g i j l m a b c gI iQ h=>∃k',k' < k/\I k' d e f x4 g i j l m a b c gI iQ h) d e f x4 g i j l m a b c gI iQ h
def SV:(n:Nat)->LP->C8 n->Prop
 |0,I,B=>∀h:Hp,I [] h->B h
 |n+1,I,B=>∀x:V,SV n (λl=>I (x::l)) (B x)
def RV:(n:Nat)->C8 n->LP->Prop
 |0,B,J=>∀{h:Hp},B h->J [] h
 |n+1,B,J=>∀{x:V},RV n (B x) (λl=>J (x::l))
abbrev SN(n:Nat)(I:Nat->LP)(B:LP->C8 n):Prop:=∀k:Nat,SV n (I k) (B (NG I k))
theorem zdY:∀{n:Nat}{I:LP}{B:C8 n},SV n I B->∀{l:List V}{h:Hp},l.length=n->I l h->Vs n B l h
 |0,_,_,s,[],h,_,i=>s h i
 |_+1,_,_,s,x::_,_,e,i=>zdY (s x) (Nat.succ.inj e) i
theorem RV.of:∀{n:Nat}{B:C8 n}{J:LP},(∀l h,l.length=n->Vs n B l h->J l h)->RV n B J
 |0,_,_,s=>λH=>s [] _ rfl H
 |_+1,_,_,s=>RV.of λl h e H=>s (_::l) h (congrArg Nat.succ e) H
def cuV:(n:Nat)->LP->C8 n
 |0,K=>K []
 |n+1,K=>λx=>cuV n λl=>K (x::l)
def PV:(n:Nat)->C8 n->C8 n->Prop
 |0,I,B=>∀h:Hp,I h->B h
 |n+1,I,B=>∀x:V,PV n (I x) (B x)
theorem zdT:∀{n:Nat}{I B:C8 n},PV n I B->∀{l:List V}{h:Hp},Vs n I l h->Vs n B l h
 |0,_,_,s,[],h,i=>s h i
 |_+1,_,_,s,x::_,_,i=>zdT (s x) i
class HL (l:List V) (n:Nat):Prop where
 e:l.length=n
instance:HL [] 0:=⟨rfl⟩
instance{x:V}{l:List V}{n:Nat}[h:HL l n]:HL (x::l) (n+1):=⟨congrArg Nat.succ h.1⟩
theorem JV.rn(n:Nat)(B:C8 n)(e:∀(ρ:iK)(h:Hp),VA C fn.ntmps tb (kX C fn tb k ks Q) ρ h=Vs n B (is.map ρ) h:=by intros;kernel_rfl)(a:is.length=n:=by rfl):RV n B (JV C fn tb k is ks Q):=
 RV.of λ_ _ g H=>JV.mk n B e (a.trans g.symm) H
def LN(n:Nat)(B:LP->C8 n)(J:LP):Prop:=∀(I:Nat->LP)(_:SN n I B){k:Nat}{l:List V}{h:Hp}(_:I k l h) [HL l n],J l h
theorem JV.lm(n:Nat)(B:LP->C8 n)(hl:Pl (kX C fn tb k ks Q).c=true:=by kernel_rfl)(b:(kX C fn tb k ks Q).ks=[]:=by kernel_rfl)
  (e:∀(K:LP) (ρ:iK) (h:Hp),VA C fn.ntmps tb (G9 C fn.ntmps tb {kX C fn tb k ks Q with ks:=[kf is K]} false) ρ h=Vs n (B K) (is.map ρ) h:=by intros;kernel_rfl) (a:is.length=n:=by rfl):LN n B (JV C fn tb k is ks Q):=
 λI s _ _ _ i g=>JV.loop n I B hl b e (λk _ _ g i=>zdY (s k) g i) a (a.trans g.1.symm) i
theorem WA.ln(n:Nat)(l:List V)(I:Nat->C8 n)(B:C8 n->C8 n)(s:∀k,PV n (I k) (B (cuV n λl h=>∃k',k' < k/\Vs n (I k') l h)))(i:Vs n (I m) l h)(hl:Pl (kX C fn tb k ks Q).c=true:=by kernel_rfl)(b:(kX C fn tb k ks Q).ks=[]:=by kernel_rfl)
  (e:∀(K:LP) (ρ:iK) (h:Hp),VA C fn.ntmps tb (G9 C fn.ntmps tb {kX C fn tb k ks Q with ks:=[kf is K]} false) ρ h=Vs n (B (cuV n K)) (is.map ρ) h:=by intros;kernel_rfl) (a:is.length=n:=by rfl) (g:n=l.length:=by rfl):JV C fn tb k is ks Q l h:=
 JV.loop n (λm=>Vs n (I m)) (λK=>B (cuV n K)) hl b e (λk _ _ _ i=>zdT (s k) i) a (a.trans g) i
theorem JV.wn(n:Nat)(B:C8 n)(H:Vs n B l h)(e:∀(ρ:iK)(h:Hp),VA C fn.ntmps tb (kX C fn tb k ks Q) ρ h=Vs n B (is.map ρ) h:=by intros;kernel_rfl)(g:is.length=l.length:=by rfl):JV C fn tb k is ks Q l h:=
 JV.mk n B e g H
def Xq:List (Nat×V):=[(1,.str [80,97,114,97,109]),(2,.str [67,111,110,115,116]),(3,.str [65,100,100]),(4,.str [83,117,98]),(5,.str [77,117,108]),(6,.str [68,105,118]),(7,.str [82,101,109]),(8,.str [78,101,103]),(9,.str [78,111,116]),(10,.str [69,113]),(11,.str [78,101]),(12,.str [76,116]),(13,.str [76,101]),(14,.str [66,101,108,111,119]),(15,.str [84,121,112,101,79,102]),(16,.str [76,101,110,79,102]),(17,.str [87,111,114,100]),(18,.str [87,111,114,100,65,116]),(19,.str [80,117,116]),(20,.str [80,117,116,65,116]),(21,.str [80,104,105]),(22,.str [71,117,97,114,100]),(23,.str [80,111,108,108])]
def XO:List (Nat×V):=[(1,.str [83,101,116]),(2,.str [77,111,118]),(3,.str [71,101,116]),(4,.str [75,101,101,112]),(5,.str [65,100,100]),(6,.str [83,117,98]),(7,.str [77,117,108]),(8,.str [68,105,118]),(9,.str [82,101,109]),(10,.str [78,101,103]),(11,.str [78,111,116]),(12,.str [69,113]),(13,.str [78,101]),(14,.str [76,116]),(15,.str [76,101]),(16,.str [66,101,108,111,119]),(17,.str [84,121,112,101,79,102]),(18,.str [76,101,110,79,102]),(19,.str [87,111,114,100]),(20,.str [87,111,114,100,65,116]),(21,.str [80,117,116]),(22,.str [80,117,116,65,116]),(23,.str [74,117,109,112]),(24,.str [74,122]),(25,.str [71,117,97,114,100]),(26,.str [80,111,108,108]),(27,.str [76,101,97,118,101])]
noncomputable def C2:mw:=mw.more C1 [.names 86 Xq,.names 74 XO]
noncomputable def C3:mw:=mw.more C2 [.yes 9]
noncomputable def CS:mw:=⟨Cg,E1,C3.K⟩
