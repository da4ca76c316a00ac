/- Parts. -/
import Derived.Test.YtnehpeeglbgfpaaDoorM09
set_option maxHeartbeats 4000000
namespace Go.Proofs.YtnehpeeglbgfpaaDoor.Hx
abbrev XQ:=X->fK->Hp->Prop
abbrev fu:=V->Hp->Prop
abbrev Wt:=V->V->Hp->Prop
abbrev HL:=V->V->V->Hp->Prop
abbrev Cl:=V->V->V->V->Hp->Prop
abbrev mC:=V->V->V->V->V->Hp->Prop
abbrev rW:=V->V->V->V->V->V->Hp->Prop
abbrev zB:=V->V->V->V->V->V->V->Hp->Prop
abbrev Ft:=V->V->V->V->V->V->V->V->Hp->Prop
abbrev E6:=V->V->V->V->V->V->V->V->V->Hp->Prop
abbrev zo:=V->V->V->V->V->V->V->V->V->V->Hp->Prop
abbrev pV:=V->V->V->V->V->V->V->V->V->V->V->Hp->Prop
abbrev E5:=V->V->V->V->V->V->V->V->V->V->V->V->Hp->Prop
abbrev DC:=V->V->V->V->V->V->V->V->V->V->V->V->V->Hp->Prop
abbrev Vz:=V->V->V->V->V->V->V->V->V->V->V->V->V->V->Hp->Prop
abbrev Xb:=V->V->V->V->V->V->V->V->V->V->V->V->V->V->V->Hp->Prop
abbrev PK:=V->V->V->V->V->V->V->V->V->V->V->V->V->V->V->V->Hp->Prop
abbrev W6:=V->V->V->V->V->V->V->V->V->V->V->V->V->V->V->V->V->Hp->Prop
abbrev R0:=V->V->V->V->V->V->V->V->V->V->V->V->V->V->V->V->V->V->Hp->Prop
def isVal(o:Oper):Bool:=match o.op with
 | .move x| .assign x=>IF x
 | .makeFunc _ _ _=>true
 | .makeInterface _ x=>IF x
 |_=>false
theorem N1{o:Oper} (h:isVal o=true):cls o=0:=by
 grind[isVal,cls]
def W7(C:fe) (o:Oper) (K:V->fK->Hp->Prop):fK->Hp->Prop:=match isVal o with
 |true=>λρ h=>Option.rec (motive:=λ_=>Prop) False (λv=>K v ρ h) ((gX o).f (.fn ρ []) h)
 |false=>JL C o K
theorem Tj(C:fe) (o:Oper) (K:V->fK->Hp->Prop):W7 C o K=JL C o K:=by
 unfold W7
 cases hv:isVal o with
 |false=>rfl
 | true=>
   unfold JL;rw[N1 hv];rfl
def Nm(C:fe) (n:Nat) (all:List Oper) (o:Oper) (K:fK->Hp->Prop):fK->Hp->Prop:=match tX o with
 |some _=>λ_ _=>False
 | none=>match ji n all o with
   |none=>W7 C o (lZ n o K)
   |some g=>λρ h=>oP (g.f (.fn ρ [])) λb=>QR C o b (lZ n o K) ρ h
noncomputable section
inductive Gs where
 |last (o:Oper) (d:Nat)
 |op (o:Oper) (d:Nat) (a:Gs)
 |nest (w:Bool) (d:Nat) (sub:Gs) (o:Oper) (b:Nat) (a:Gs)
 |z8 (w:Bool) (d:Nat) (sub:Gs) (o:Oper) (b:Nat)
def Gs.dst:Gs->Nat
 | .last _ d=>d
 | .op _ _ r=>r.dst
 | .nest _ _ _ _ _ r=>r.dst
 | .z8 _ _ _ _ a=>a
def Gs.ops:Gs->List Oper
 | .last o _=>[o]
 | .op o _ r=>o::r.ops
 | .nest _ _ s o _ r=>s.ops++o::r.ops
 | .z8 _ _ s o _=>s.ops++[o]
def gA(w:Bool) (c:V) (x:Option V):Option V:=match w with
 |true=>kH c x
 |false=>qe c x
def Jf(b:Bool)(x:Option V):V:=Bool.rec (motive:=λ_=>V) V.undef (Option.rec (motive:=λ_=>V) V.undef (λv=>v) x) b
def HP(w:Bool)(v:V):Bool:=Option.rec (motive:=λ_=>Bool) false (λb=>b) (gB w v)
noncomputable def we(g:Gs):Bool->fK->Hp->fK:=Gs.rec (motive:=λ_=>Bool->fK->Hp->fK) (λo d b ρ h=>fS ρ d (Jf b ((gX o).f (.fn ρ []) h))) (λo d _ c b ρ h=>c b (fS ρ d (Jf b ((gX o).f (.fn ρ []) h))) h) (λw d _ o e _ a c b ρ h=>c b (fS (a (HP w (ρ d)) ρ h) e (Jf b ((gX o).f (.fn (a (HP w (ρ d)) ρ h) []) h))) h) (λw d _ o e a b ρ h=>fS (a (HP w (ρ d)) ρ h) e (Jf b ((gX o).f (.fn (a (HP w (ρ d)) ρ h) []) h))) g
noncomputable def gE(g:Gs):fK->Hp->Option V:=Gs.rec (motive:=λ_=>fK->Hp->Option V) (λo _ ρ h=>(gX o).f (.fn ρ []) h) (λo d _ b ρ h=>oB ((gX o).f (.fn ρ []) h) λv=>b (fS ρ d v) h) (λw d sub _ c _ a b ρ h=>oB (gA w (ρ d) (a ρ h)) λv=>b (fS (we sub (HP w (ρ d)) ρ h) c v) h) (λw d _ _ _ a ρ h=>gA w (ρ d) (a ρ h)) g
def KJ(x:Operand) (d:Nat):Bool:=match x with
 | .tmp i=>Nat.beq i d
 |_=>false
def QZ(x:Operand) (b:Bool):Bool:=match x with
 | .const v=>match km 8 v with
   |some (.bool c)=>c == b
   |_=>false
 |_=>false
def J7(o:Oper) (w:Bool) (d x:Nat):Bool:=match o.op with
 | .pick c a b=>KJ c d&&(match w with
   |true=>KJ a x&&QZ b false
   |false=>KJ b x&&QZ a true)
 |_=>false
def Wy(n:Nat) (o:Oper) (d:Nat):Bool:=match o.dst with
 |some a=>Nat.beq a d&&Nat.blt d n
 |none=>false
def PS(n:Nat) (all:List Oper) (o:Oper) (w:Bool) (d:Nat):Bool:=match o.guard with
 | some (j,w')=>(w' == w)&&(match all[j]? with
   |some a=>Wy n a d
   |none=>false)
 |none=>false
def I5(n:Nat)(all:List Oper)(av:List Nat)(w:Bool)(d:Nat)(o:Oper)(a:Nat):Bool:=Nat.beq (cls o) 0&&PS n all o w d&&Wy n o a&&av.all (λi=>!(Nat.beq i a))
def OA(n:Nat) (all:List Oper):List Nat->Bool->Nat->List Nat->Gs->Bool
 |av,w,d,_,.last o a=>I5 n all av w d o a
 |av,w,d,ins,.op o a r=>I5 n all av w d o a&&OA n all av w d (a::ins) r
 |av,w,d,ins,.nest w' a s o b r=>ins.any (λi=>Nat.beq i a)&&OA n all (a::av) w' a [] s&&I5 n all av w d o b&&J7 o w' a s.dst&&OA n all av w d (b::ins) r
 |av,w,d,ins,.z8 w' a s o b=>ins.any (λi=>Nat.beq i a)&&OA n all (a::av) w' a [] s&&I5 n all av w d o b&&J7 o w' a s.dst
def Ch(n:Nat) (all:List Oper) (h:Hp):List Oper->fK->fK->Prop
 |[],ρ,ρ'=>ρ' = ρ
 | o::os,ρ,ρ'=>cls o=0/\∃d v,o.dst=some d/\Nat.blt d n=true/\((ji n all o=none/\(gX o).f (.fn ρ []) h=some v)\/
   ∃g b,ji n all o=some g/\g.f (.fn ρ [])=some b/\gV b ((gX o).f (.fn ρ []) h)=some v)/\Ch n all h os (fS ρ d v) ρ'
theorem Ch.app{n:Nat} {all:List Oper} {h:Hp}:∀{os a:List Oper} {ρ e f:fK},Ch n all h os ρ e->Ch n all h a e f->Ch n all h (os++a) ρ f
 |[],_,_,_,_,b,c=>by cases b;exact c
 |_::_,_,_,_,_,⟨hc,d,v,b,c,g,i⟩,j=>⟨hc,d,v,b,c,g,i.app j⟩
theorem FE(ρ:fK)(d:Nat)(v:V):fS ρ d v d=v:=Nx ρ d v
theorem OR{n:Nat} {all:List Oper} {o:Oper} {w:Bool} {d:Nat} (a:PS n all o w d=true):∃g,ji n all o=some g/\∀ρ:fK,g.f (.fn ρ [])=gB w (ρ d):=by
 unfold PS at a;split at a
 ·rename_i j w' b;simp only[te,I8]at a;obtain⟨c,a⟩:=a;subst c;split at a
  ·rename_i h e;unfold Wy at a;split at a
   ·rename_i i hd;simp only[te]at a;obtain⟨e1,e2⟩:=a;have e1:=tS e1;subst e1;refine⟨_,by simp only[ji,b,e,hd,e2];rfl,λρ=>rfl⟩
   simp_all
  simp_all
 simp_all
theorem Mo{n:Nat} {all:List Oper} {av:List Nat} {w:Bool} {d:Nat} {o:Oper} {a:Nat} (b:I5 n all av w d o a=true) :
  cls o=0/\(∃g,ji n all o=some g/\∀ρ:fK,g.f (.fn ρ [])=gB w (ρ d))/\o.dst=some a/\Nat.blt a n=true/\∀i∈av,i≠a:=by
 unfold I5 at b;simp only[te]at b;obtain⟨⟨⟨e,h⟩,c⟩,k⟩:=b;refine⟨tS e,OR h,?_⟩;unfold Wy at c;split at c
 ·rename_i j hd;simp only[te]at c
  grind[tS,JB,Oy,absurd]
 simp_all
theorem Gg{x:Operand} {d:Nat} (h:KJ x d=true):x = .tmp d:=by
 unfold KJ at h
 grind[tS,absurd]
theorem Mu{x:Operand} {b:Bool} (a:QZ x b=true) (t:Tm) (h:Hp):(oO x).f t h=some (.bool b):=by
 unfold QZ at a;split at a
 ·rename_i v;split at a
  ·rename_i c hc;have e:c=b:=by simpa using a
   subst e;show(Hj (.const v)).f t=_
   grind[Hj]
  simp_all
 simp_all
theorem MP{o:Oper} {w:Bool} {d x:Nat} (e:J7 o w d x=true) {ρ:fK} {h:Hp} {c:Bool} (hc:ρ d = .bool c):(gX o).f (.fn ρ []) h=some (match w,c with
  |true,true=>ρ x
  |true,false=> .bool false
  |false,false=>ρ x
  |false,true=> .bool true)/\cls o=0:=by
 unfold J7 at e;split at e
 ·rename_i c' a b i;simp only[te]at e;obtain⟨j,g⟩:=e;have e1:=Gg j;subst e1;refine⟨?_,by grind[cls]⟩;have e0:(oO (.tmp d)).f (.fn ρ []) h=some (.bool c):=by show some (ρ d)=_;rw[hc]
  unfold gX;rw[i];simp only[EP,e0,oB]
  cases w with
  | true=>
    simp only[te]at g;have e2:=Gg g.1;subst e2
    cases c with
    |true=>rfl
    |false=>grind[Mu]
  | false=>
    simp only[te]at g;have e2:=Gg g.1;subst e2
    cases c with
    |true=>grind[Mu]
    |false=>rfl
 simp_all
theorem MJ{w:Bool} {c:V} {x:Option V} {v:V} (a:gA w c x=some v):∃b,c = .bool b/\gB w c=some (b == w)/\((b=w/\x=some v)\/(b≠w/\v = .bool (!w))):=by
 unfold gA at a
 cases w with
 | true=>
   simp only[kH]at a;split at a
   ·cases a;simp_all
   ·simp_all
   ·cases a
 | false=>
   simp only[qe]at a;split at a
   ·cases a;simp_all
   ·simp_all
   ·cases a
theorem K8(ρ:fK){d i:Nat}(v:V)(h:i≠d):fS ρ d v i=ρ i:=Rx ρ v h
theorem Ch.one{n:Nat} {all:List Oper} {av:List Nat} {w:Bool} {d:Nat} {o:Oper} {a:Nat} (c:I5 n all av w d o a=true) {ρ:fK} {h:Hp} {b:Bool} (k:gB w (ρ d)=some b) {v:V}
  (l:gV b ((gX o).f (.fn ρ []) h)=some v):Ch n all h [o] ρ (fS ρ a v):=by
 obtain⟨e,⟨g,m,p⟩,i,j,q⟩:=Mo c;exact⟨e,a,v,i,j,by grind,rfl⟩
theorem Fx{b:Bool} {x:Option V} {v:V} (h:gV b x=some v):Jf b x=v:=by
 cases b with
 |true=>have h':x=some v:=h;subst h';rfl
 |false=>cases h;rfl
def JQ(n:Nat) (all:List Oper) (av:List Nat) (os:List Oper) (b:Bool) (ρ a:fK) (h:Hp) (d:Nat) (x:V):Prop:=Ch n all h os ρ a/\a d=x/\(∀i∈av,a i=ρ i)/\(b=false->∀i,ρ i = .undef->a i = .undef)
theorem JQ.one{n:Nat} {all:List Oper} {av:List Nat} {w:Bool} {d:Nat} {o:Oper} {a:Nat} (c:I5 n all av w d o a=true) {ρ:fK} {h:Hp} {b:Bool} (j:gB w (ρ d)=some b) {v:V}
  (g:gV b ((gX o).f (.fn ρ []) h)=some v):JQ n all av [o] b ρ (fS ρ a v) h a v:=by
 obtain⟨_,_,_,_,k⟩:=Mo c;refine⟨Ch.one c j g,FE _ _ _,by grind[K8],λe i hi=>?_⟩;subst e;cases g
 grind[FE,K8]
theorem JQ.trans{n:Nat} {all:List Oper} {av:List Nat} {os a:List Oper} {b:Bool} {ρ g j:fK} {h:Hp} {d k:Nat} {x l:V} (f:JQ n all av os b ρ g h d x) (c:JQ n all av a b g j h k l):JQ n all av (os++a) b ρ j h k l:=
 ⟨f.1.app c.1,c.2.1,λi hi=>(c.2.2.1 i hi).trans (f.2.2.1 i hi),λe i hi=>c.2.2.2 e i (f.2.2.2 e i hi)⟩
theorem NG{n:Nat} {all:List Oper}:∀(g:Gs) {av:List Nat} {w:Bool} {d:Nat} {ins:List Nat},OA n all av w d ins g=true->d∈av->∀{ρ:fK} {h:Hp} {b:Bool},gB w (ρ d)=some b->
  (b=false->∀i∈ins,ρ i = .undef)->∀{x:V},gV b (gE g ρ h)=some x->JQ n all av g.ops b ρ (we g b ρ h) h g.dst x:=by
 have nest:∀(s:Gs),(∀{av:List Nat} {w:Bool} {d:Nat} {ins:List Nat},OA n all av w d ins s=true->d∈av->∀{ρ:fK} {h:Hp} {b:Bool},gB w (ρ d)=some b->
    (b=false->∀i∈ins,ρ i = .undef)->∀{x:V},gV b (gE s ρ h)=some x->JQ n all av s.ops b ρ (we s b ρ h) h s.dst x)->
   ∀{av:List Nat} {w w':Bool} {d k q:Nat} {ins:List Nat} {o:Oper},ins.any (λi=>Nat.beq i k)=true->OA n all (k::av) w' k [] s=true->I5 n all av w d o q=true->J7 o w' k s.dst=true->d∈av->
   ∀{ρ:fK} {h:Hp} {b:Bool},gB w (ρ d)=some b->(b=false->∀i∈ins,ρ i = .undef)->∀{v:V},gV b (gA w' (ρ k) (gE s ρ h))=some v->
   gV b ((gX o).f (.fn (we s (HP w' (ρ k)) ρ h) []) h)=some v/\JQ n all av (s.ops++[o]) b ρ (fS (we s (HP w' (ρ k)) ρ h) q v) h q v:=by
  intro s E av w w' d k q ins o I hc S X hd ρ h b m hi v u;obtain⟨i,Y,J⟩:=List.any_eq_true.1 I;have e:=tS J;subst e
  cases b with
  | true=>
    obtain⟨c,e1,e2,T⟩:=MJ (show gA w' (ρ i) (gE s ρ h)=some v from u);have K:HP w' (ρ i)=(c == w'):=by unfold HP;rw[e2]
    rw[K];obtain⟨y,Z⟩:∃y,gV (c == w') (gE s ρ h)=some y/\(c=w'->y=v):=by
      rcases T with⟨F,L⟩|⟨F,L⟩
      ·simp_all
      ·have:(c == w')=false:=by simp[F]
       rw[this];simp_all
    obtain⟨M,U,N,k4⟩:=E hc (Lh ..) e2 (by simp_all) Z.1;have O:we s (c == w') ρ h i = .bool c:=by rw[N i (Lh ..)];exact e1
    have P:=(MP X (h:=h) O).1;have t:(gX o).f (.fn (we s (c == w') ρ h) []) h=some v:=by
      rw[P,U];rcases T with⟨F,L⟩|⟨F,L⟩
      ·grind
      ·grind
    refine⟨t,?_⟩;have a:=JQ.one S (ρ:=we s (c == w') ρ h) (h:=h) (b:=true) (by simp_all) (v:=v) t
    refine⟨M.app a.1,a.2.1,λj G=>(a.2.2.1 j G).trans (by simp_all),by simp_all⟩
  | false=>
    have e1:ρ i = .undef:=by simp_all
    have e2:gB w' (ρ i)=some false:=by rw[e1];rfl
    have K:HP w' (ρ i)=false:=by unfold HP;rw[e2]
    rw[K];cases u;obtain⟨M,U,N,k4⟩:=E hc (Lh ..) e2 (by simp_all) (x:= .undef) rfl;refine⟨rfl,?_⟩;have a:=JQ.one S (ρ:=we s false ρ h) (h:=h) (b:=false) (by rw[N d (SP _ hd)];exact m) (v:= .undef) rfl;exact⟨M.app a.1,a.2.1,λj G=>(a.2.2.1 j G).trans (by simp_all),λe j G=>a.2.2.2 e j (by simp_all)⟩
 intro g
 induction g with
 | last o k=>
   intro av w d ins p hd ρ h b m hi x z;have l:gV b ((gX o).f (.fn ρ []) h)=some x:=z;show JQ n all av [o] b ρ (fS ρ k (Jf b ((gX o).f (.fn ρ []) h))) h k x;rw[Fx l]
   exact JQ.one p m l
 | op o k r E=>
   intro av w d ins p hd ρ h b m hi x z;simp only[OA,te]at p;obtain⟨v,u,l⟩:∃v,gV b ((gX o).f (.fn ρ []) h)=some v/\gV b (gE r (fS ρ k v) h)=some x:=by
     cases b with
     | true=>
       obtain⟨v,A,B⟩:=ez.1 (show oB ((gX o).f (.fn ρ []) h) _=some x from z)
       exact⟨v,A,B⟩
     |false=>simp_all
   have a:=JQ.one p.1 m u;show JQ n all av ([o]++r.ops) b ρ (we r b (fS ρ k (Jf b ((gX o).f (.fn ρ []) h))) h) h r.dst x;rw[Fx u];refine a.trans (E p.2 hd (by rw[a.2.2.1 d hd];exact m) ?_ l);intro e i C;rcases zq.1 C with e'|e'
   ·simp_all[FE]
   ·exact a.2.2.2 e i (by simp_all)
 | nest w' k s o q r D E=>
   intro av w d ins p hd ρ h b m hi x z;simp only[OA,te]at p;obtain⟨⟨⟨⟨A,B⟩,Q⟩,R⟩,h5⟩:=p;obtain⟨v,u,l⟩:∃v,gV b (gA w' (ρ k) (gE s ρ h))=some v/\gV b (gE r (fS (we s (HP w' (ρ k)) ρ h) q v) h)=some x:=by
     cases b with
     | true=>
       obtain⟨v,A,B⟩:=ez.1 (show oB (gA w' (ρ k) (gE s ρ h)) _=some x from z)
       exact⟨v,A,B⟩
     |false=>simp_all
   obtain⟨W,H⟩:=nest s D A B Q R hd m hi u;show JQ n all av (s.ops++([o]++r.ops)) b ρ (we r b (fS (we s (HP w' (ρ k)) ρ h) q (Jf b ((gX o).f (.fn (we s (HP w' (ρ k)) ρ h) []) h))) h) h r.dst x;rw[Fx W,<-LX];refine H.trans (E h5 hd (by rw[H.2.2.1 d hd];exact m) ?_ l);intro e i C;rcases zq.1 C with e'|e'
   ·simp_all[FE]
   ·exact H.2.2.2 e i (by simp_all)
 | z8 w' k s o q D=>
   intro av w d ins p hd ρ h b m hi x z;simp only[OA,te]at p;obtain⟨⟨⟨A,B⟩,Q⟩,R⟩:=p;obtain⟨W,H⟩:=nest s D A B Q R hd m hi (show gV b (gA w' (ρ k) (gE s ρ h))=some x from z);show JQ n all av (s.ops++[o]) b ρ (fS (we s (HP w' (ρ k)) ρ h) q (Jf b ((gX o).f (.fn (we s (HP w' (ρ k)) ρ h) []) h))) h q x
   grind[Fx]
inductive Lv where
 |op (o:Oper) (d:Nat)
 |nest (w:Bool) (d:Nat) (sub:Gs) (o:Oper) (a:Nat)
def Lv.dst:Lv->Nat
 | .op _ d=>d
 | .nest _ _ _ _ a=>a
def Lv.ops:Lv->List Oper
 | .op o _=>[o]
 | .nest _ _ s o _=>s.ops++[o]
def Lv.one:Lv->Gs
 | .op o d=> .last o d
 | .nest w d s o a=> .z8 w d s o a
def Lv.cons(r:Gs):Lv->Gs
 | .op o d=> .op o d r
 | .nest w d s o a=> .nest w d s o a r
def W1(all:List Oper) (o:Oper):Option (Bool×Nat):=match o.guard with
 | some (j,w)=>match all[j]? with
   | some a=>match a.dst with
     |some d=>some (w,d)
     |none=>none
   |none=>none
 |none=>none
def Jb(n : Nat) (all:List Oper) (RH:Bool->Nat->List Nat->List Oper->Option (Gs×List Oper)) (w:Bool) (d:Nat) (ins:List Nat) (os:List Oper):Option (Lv×List Oper):=match os with
  |[]=>none
  | o ::os'=>match PS n all o w d&&Nat.beq (cls o) 0,o.dst with
    |true,some d'=>some (.op o d',os')
    | _,_ => match W1 all o with
      |none=>none
      | some (w',d')=>match ins.any (λi=>Nat.beq i d')with
        |false=>none
        | true=>match RH w' d' [] (o::os')with
          | some (s,p::os'')=>match PS n all p w d&&J7 p w' d' s.dst,p.dst with
            |true,some dp=>some (.nest w' d' s p dp,os'')
            |_,_=>none
          |_=>none
noncomputable def RH(n:Nat) (all:List Oper) (fuel:Nat):Bool->Nat->List Nat->List Oper->Option (Gs×List Oper):=
 Nat.rec (motive:=λ_=>Bool->Nat->List Nat->List Oper->Option (Gs×List Oper)) (λ_ _ _ _=>none) (λ_ a w d ins os=>match Jb n all a w d ins os with
  |none=>none
  | some (it,os')=>match a w d (it.dst::ins) os' with
    |some (g,r)=>some (it.cons g,r)
    |none=>some (it.one,os')) fuel
theorem L9{n:Nat} {all:List Oper} {RH:Bool->Nat->List Nat->List Oper->Option (Gs×List Oper)} (a:∀w d ins os g r,RH w d ins os=some (g,r)->os=g.ops++r) {w:Bool} {d:Nat} {ins:List Nat} {os:List Oper} {it:Lv} {r:List Oper}
  (h:Jb n all RH w d ins os=some (it,r)):os=it.ops++r:=by
 unfold Jb at h;split at h
 ·cases h
 ·split at h
  ·cases h;rfl
  ·split at h
   ·cases h
   grind[Lv.ops,LX]
theorem Jp{n:Nat} {all:List Oper}:∀(fuel:Nat) (w:Bool) (d:Nat) (ins:List Nat) (os:List Oper) (g:Gs) (r:List Oper),RH n all fuel w d ins os=some (g,r)->os=g.ops++r
 |0,_,_,_,_,_,_,h=>by cases h
 | fuel+1,w,d,ins,os,g,r,h=>by
   have h':(match Jb n all (RH n all fuel) w d ins os with
     |none=>none
     | some (it,a)=>match RH n all fuel w d (it.dst::ins) a with
       |some (g,r)=>some (it.cons g,r)
       |none=>some (it.one,a))=some (g,r):=h
   split at h'
   ·cases h'
   ·rename_i it a b
    have e1:=L9 (λw d ins os g r c=>Jp fuel w d ins os g r c) b;split at h'
    ·rename_i e r' c
     cases h';have e2:=Jp fuel _ _ _ _ _ _ c;rw[e1,e2];cases it <;> simp[Lv.ops,Lv.cons,Gs.ops]
    ·cases h'
     rw[e1];cases it <;> simp[Lv.ops,Lv.one,Gs.ops]
noncomputable def Qp(n:Nat) (all:List Oper) (os:List Oper):Option (Bool×Nat×Gs×Nat):=match os with
 |[]=>none
 | o ::_ => match o.guard with
   |none=>none
   | some (j,w)=>match all[j]? with
     |none=>none
     | some a=>match a.guard,a.dst,Nat.beq (cls o) 0 with
       | none,some d,true=>match RH n all 60 w d [] os with
         | some (g,p::_)=>match p.guard,p.dst with
           | none,some dp=>match J7 p w d g.dst&&Nat.blt dp n&&OA n all [d] w d [] g with
             |true=>some (w,d,g,dp)
             |false=>none
           |_,_=>none
         |_=>none
       |_,_,_=>none
theorem Rl{n:Nat} {all os:List Oper} {w:Bool} {d:Nat} {g:Gs} {a:Nat} (h:Qp n all os=some (w,d,g,a)):∃p r,os=g.ops++p::r/\p.guard=none/\p.dst=some a/\J7 p w d g.dst=true/\Nat.blt a n=true/\OA n all [d] w d [] g=true:=by
 unfold Qp at h;split at h
 ·cases h
 ·split at h
  ·cases h
  ·split at h
   ·cases h
   ·split at h
    ·split at h
     ·rename_i c;split at h
      ·rename_i e f;split at h
       ·rename_i b;cases h;simp only[te]at b
        grind[Jp]
       ·cases h
      ·cases h
     ·cases h
    ·cases h
theorem AM{n:Nat} {o:Oper} {K a:fK->Hp->Prop} (b:∀ρ h,K ρ h->a ρ h) {v:V} {ρ:fK} {h:Hp} (c:lZ n o K v ρ h):lZ n o a v ρ h:=by
 grind[lZ,Nat.blt]
theorem mM{α:Type}{x:Option α}{k k':α->Prop}(h:oP x k)(f:∀a,k a->k' a):oP x k':=by grind[oM]
theorem QN{C:fe} {o:Oper} {K b:V->fK->Hp->Prop} (e:∀v ρ h,K v ρ h->b v ρ h) {ρ:fK} {h:Hp} (d:JL C o K ρ h):JL C o b ρ h:=by
 unfold JL at d⊢;generalize cls o=c at d⊢;rcases c with _|_|c
 ·grind[mM]
 ·grind[mM]
 ·show Kr C o b ρ h;have a:Kr C o K ρ h:=d;unfold Kr at a⊢;cases hi:tV o
  all_goals rw[hi]at a
  ·grind[mM]
  ·exact mM a λx H=>H.mono (by simp_all)
theorem PW{C:fe} {o:Oper} {b:Bool} {K d:V->fK->Hp->Prop} (e:∀v ρ h,K v ρ h->d v ρ h) {ρ:fK} {h:Hp} (a:QR C o b K ρ h):QR C o b d ρ h:=by
 unfold QR at a⊢;generalize cls o=c at a⊢;rcases c with _|_|c
 ·grind[mM]
 ·grind[mM]
 ·simp only at a⊢;cases hi:tV o
  all_goals rw[hi]at a
  ·grind[mM]
  ·refine mM a λx H=>?_
   cases x with
   |none=>simp_all
   |some y=>exact cP.mono H (by simp_all)
theorem L8{C:fe} {n:Nat} {all:List Oper} {o:Oper} {K b:fK->Hp->Prop} (c:∀ρ h,K ρ h->b ρ h) {ρ:fK} {h:Hp} (a:vO C n all o K ρ h):vO C n all o b ρ h:=by
 unfold vO at a⊢
 cases hd:tX o with
 |some q=>simp_all
 | none=>
   rw[hd]at a;simp only at a⊢
   cases hw:ji n all o with
   |none=>rw[hw]at a;grind[QN,AM]
   |some g=>grind[mM,PW,AM]
theorem QC(C:fe) (n:Nat) (all:List Oper) (o:Oper) (K:fK->Hp->Prop):Nm C n all o K=vO C n all o K:=by
 grind[Nm,vO,Tj]
theorem DR{o:Oper} (h:cls o=0):tX o=none:=by
 grind[tX,cls]
theorem Ch.uP{C:fe} {n:Nat} {all:List Oper} {h:Hp} {K:fK->Hp->Prop} {a:List Oper}:∀{os:List Oper} {ρ b:fK},Ch n all h os ρ b->uP C n all K a b h->uP C n all K (os++a) ρ h
 |[],_,_,hc,hk=>by cases hc;exact hk
 | o::os,ρ,b,⟨h0,d,v,c,e,i,f⟩,hk=>by
   have g:=f.uP (C:=C) (K:=K) hk;have hd:lZ n o (Hx.uP C n all K (os++a)) v ρ h:=by unfold lZ;rw[c];simp only[e];exact g
   show vO C n all o (Hx.uP C n all K (os++a)) ρ h
   grind[vO,DR,JL,ec,QR]
noncomputable def Lz(C:fe) (n:Nat) (all:List Oper) (K:fK->Hp->Prop) (os:List Oper):Nat->fK->Hp->Prop:=
 List.rec (motive:=λ_=>Nat->fK->Hp->Prop) (λ_=>K) (λo os a b=>Nat.rec (motive:=λ_=>fK->Hp->Prop)
  (match Qp n all (o::os)with
   |some (w,d,g,dp)=>λρ h=>oP (gA w (ρ d) (gE g ρ h)) λv=>a g.ops.length (fS (we g (HP w (ρ d)) ρ h) dp v) h
   |none=>Nm C n all o (a 0)) (λk _=>a k) b) os
theorem Dx{C:fe} {n:Nat} {all:List Oper} {K:fK->Hp->Prop}:∀(os:List Oper) (e:Nat) {ρ:fK} {h:Hp},Lz C n all K os e ρ h->uP C n all K (os.drop e) ρ h
 |[],e,ρ,h,hk=>by rw[List.drop_nil];exact hk
 |o::os,e+1,ρ,h,hk=>Dx os e hk
 | o ::os,0,ρ,h,hk=>by
   have a:(match Qp n all (o::os)with
     |some (w,d,g,k)=>λ(ρ:fK) (h:Hp)=>oP (gA w (ρ d) (gE g ρ h)) λv=>Lz C n all K os g.ops.length (fS (we g (HP w (ρ d)) ρ h) k v) h
     |none=>Nm C n all o (Lz C n all K os 0):fK->Hp->Prop) ρ h:=hk
   show uP C n all K (o::os) ρ h
   cases hg:Qp n all (o::os)with
   | some x=>
     obtain⟨w,d,g,k⟩:=x;rw[hg]at a;simp only at a;obtain⟨p,r,e1,e2,z,b,i,A⟩:=Rl hg;obtain⟨v,B,q⟩:=jD.1 a;obtain⟨c,D,c2,s⟩:=MJ B;have E:HP w (ρ d)=(c == w):=by unfold HP;rw[c2]
     rw[E]at q;obtain⟨y,F⟩:∃y,gV (c == w) (gE g ρ h)=some y/\(c=w->y=v):=by
       rcases s with⟨b,i⟩|⟨b,i⟩
       ·simp_all
       ·have:(c == w)=false:=by simp[b]
        rw[this];simp_all
     obtain⟨G,H,I,M⟩:=NG g A (Lh ..) c2 (by simp_all) F.1;have l:we g (c == w) ρ h d = .bool c:=by rw[I d (Lh ..)];exact D
     have j:=MP b (h:=h) l;have t:(gX p).f (.fn (we g (c == w) ρ h) []) h=some v:=by
       rw[j.1,H];rcases s with⟨b,i⟩|⟨b,i⟩
       ·grind
       ·grind
     have m:Ch n all h [p] (we g (c == w) ρ h) (fS (we g (c == w) ρ h) k v):=⟨j.2,k,v,z,i,by grind[ji],rfl⟩
     have hlen:os.drop g.ops.length=r:=by
       have J:(o::os).drop (g.ops.length+1)=r:=by rw[e1,List.append_cons];exact by simp_all
       exact J
     have u:=Dx os _ q;rw[hlen]at u;rw[e1,List.append_cons]
     exact(G.app m).uP u
   | none=>
     rw[hg]at a;simp only[QC]at a;exact L8 (λρ h L=>by have:=Dx os 0 L;exact this) a
def yk(o:Oper):Bool:=match o.op with
 | .move x| .assign x| .nilCheck x| .fieldAddr _ x _| .field _ x _| .unOp _ _ x| .extract x _=>IF x
 | .pick c a b=>IF c&&IF a&&IF b
 | .binOp _ _ x y _=>IF x&&IF y
 | .indexAddr _ x i| .index _ x i=>IF x&&IF i
 | .build _ _| .makeFunc _ _ _=>true
 | .makeInterface _ x=>IF x
 | .call c=>match c.callee,c.args.toList,c.argTypes.toList with
   | .builtin .len,[x],ty::_=>match P0.underlying ty with
     |some (.slice _)=>IF x
     |_=>false
   |_,_,_=>false
 |_=>false
theorem OP{o:Oper} (a:yk o=true) (t:Tm) (h h':Hp):(gX o).f t h=(gX o).f t h':=by
 unfold yk at a;unfold gX;split at a
 all_goals rename_i b
 all_goals try rw[b]
 all_goals try simp only[te]at a
 ·grind[jx]
 ·grind[jx]
 ·grind[uX,jx]
 ·grind[ng,jx]
 ·grind[B2,jx]
 ·grind[jx]
 ·grind[AA,jx]
 ·grind[EP,jx]
 ·grind[jx]
 ·grind[nB,jx]
 ·grind[Cb,jx]
 ·simp only[Ca];grind
 ·split <;> first|rfl|simp_all
 ·dsimp only;split <;> first|rfl|grind[jx]
 ·grind[hlen,jx,absurd]
 simp_all
abbrev RE:=Bool×Rec×Bool×Bool
def BF(k:Nat) (h:Hp) (rs:List RE) (K:Prop):Prop:=List.rec (motive:=λ_=>Prop) K (λr _ a=>Bool.rec (motive:=λ_=>Prop) (Option.rec (motive:=λ_=>Prop) (Bool.rec (motive:=λ_=>Prop) a (Bool.rec (motive:=λ_=>Prop) True (zb h r.2.1) r.1/\a) r.2.2.2) (λ_=>Bool.rec (motive:=λ_=>Prop) True (zb h r.2.1) r.1/\a) r.2.1.made) a (Nat.blt r.2.1.last k)) rs
def C8(rs:List RE):List RE:=rs.map λr=>(r.1,r.2.1,r.2.2.1,!r.2.2.1)
def pS(rs:List RE):List (Bool×Rec):=rs.map λr=>(r.1,r.2.1)
def W9(C:fe) (n:Nat) (all:List Oper) (ws:List It) (a:It) (d:Nat->fK->Hp->List RE->Prop) (k:Nat):fK->Hp->List RE->Prop:=match cls a.o with
  | 0 =>match ji n all a.o with
    | none=>match isVal a.o with
      |true=>λρ h rs=>Option.rec (motive:=λ_=>Prop) False (λv=>lZ n a.o (λc h=>d k c h ((true,{it:=a,t:= .fn ρ [],v,made:=none,last:=late ws a},yk a.o,false)::rs)) v ρ h) ((gX a.o).f (.fn ρ []) h)
      |false=>λρ h rs=>oP ((gX a.o).f (.fn ρ []) h) λv=>lZ n a.o (λc h=>d k c h ((true,{it:=a,t:= .fn ρ [],v,made:=none,last:=late ws a},yk a.o,false)::rs)) v ρ h
    |some g=>λρ h rs=>oP (g.f (.fn ρ [])) λb=>oP (gV b ((gX a.o).f (.fn ρ []) h)) λv=>
       lZ n a.o (λc h=>d k c h ((b,{it:=a,t:= .fn ρ [],v,made:=none,last:=late ws a},yk a.o,false)::rs)) v ρ h
  | 1=>match ji n all a.o with
    |none=>λρ h rs=>oP ((nD a.o).f (.fn ρ [])) λr=>lZ n a.o (λc h'=>d k c h' ((true,{it:=a,t:= .fn ρ [],v:=r.2 h.next,made:=some (h.next,r.1),last:=late ws a},false,false)::C8 rs)) (r.2 h.next) ρ (h.new r.1)
    |some _=>λ_ _ _=>False
  | _ =>match ji n all a.o with
    |none=>λρ h rs=>BF k h rs (Kr C a.o (λv ρ h'=>h.next<=h'.next/\lZ n a.o (λρ h=>d (Nat.succ k) ρ h (C8 rs)) v ρ h') ρ h)
    | some g=>match tV a.o with
      |true=>λρ h rs=>BF k h rs (oP (g.f (.fn ρ [])) λb=>oP (gC b (oB ((iC a.o).f (.fn ρ []) h) xj)) λx=>yv C x h λv h'=>h.next<=h'.next/\lZ n a.o (λρ h=>d (Nat.succ k) ρ h (C8 rs)) v ρ h')
      |false=>λ_ _ _=>False
def BK(l:List It):Bool:=l.all λa=>Nat.beq (cls a.o) 0
def Ln(C:fe) (n:Nat) (all:List Oper) (ws:List It) (K:fK->Hp->Prop) (l:List It):Nat->fK->Hp->List RE->Prop:=
 List.rec (motive:=λ_=>Nat->fK->Hp->List RE->Prop) (λk ρ h rs=>BF k h rs (K ρ h)) (λa l b k=>match BK (a::l)with
  |true=>λρ h rs=>Lz C n all (λρ h=>BF k h rs (K ρ h)) ((a::l).map (·.o)) 0 ρ h
  |false=>W9 C n all ws a b k) l
def NP(h:Hp)(rs:List RE):Prop:=∀r∈rs,r.1=true->r.2.1.made=none->(r.2.2.1=true->∀h',zb h' r.2.1)/\(r.2.2.2=false->zb h r.2.1)
theorem NP.rI{h:Hp} {rs:List RE} (hi:NP h rs) (h':Hp):NP h' (C8 rs):=by
 intro r b c d;obtain⟨r',a,e⟩:=OF.1 b;subst e;obtain⟨f,_⟩:=hi r' a c d
 simp_all
theorem FV(rs:List RE):pS (C8 rs)=pS rs:=by
 simp[pS,C8]
theorem sY{k:Nat} {h:Hp}:∀{rs:List RE} {K d:Prop},NP h rs->(K->d)->BF k h rs K->rQ k h (pS rs) d
 |[],_,_,_,hk,hh=>hk hh
 | (b,r,f,st)::rs,K,d,hi,hk,hh=>by
   have c:NP h rs:=λr c=>hi r (SP _ c);have h0:=hi _ (Lh ..)
   have a:Bool.rec (motive:=λ_=>Prop)
     (Option.rec (motive:=λ_=>Prop) (Bool.rec (motive:=λ_=>Prop) (BF k h rs K) (Bool.rec (motive:=λ_=>Prop) True (zb h r) b/\BF k h rs K) st)
     (λ_=>Bool.rec (motive:=λ_=>Prop) True (zb h r) b/\BF k h rs K) r.made) (BF k h rs K) (Nat.blt r.last k):=hh
   show Bool.rec (motive:=λ_=>Prop) (Bool.rec (motive:=λ_=>Prop) True (zb h r) b/\rQ k h (pS rs) d) (rQ k h (pS rs) d) (Nat.blt r.last k)
   cases hb:Nat.blt r.last k with
   |true=>rw[hb]at a;exact sY c hk a
   | false=>
     rw[hb]at a
     cases hm:r.made with
     |some x=>rw[hm]at a;exact⟨a.1,sY c hk a.2⟩
     | none=>
       rw[hm]at a
       cases st with
       |true=>exact⟨a.1,sY c hk a.2⟩
       | false=>
         refine⟨?_,sY c hk a⟩;cases b <;> grind
theorem PR{C:fe} {o:Oper} {K b:V->fK->Hp->Prop} (c:∀v ρ h,K v ρ h->b v ρ h) {ρ:fK} {h:Hp} (a:Kr C o K ρ h):Kr C o b ρ h:=by
 unfold Kr at a⊢;cases hi:tV o
 all_goals rw[hi]at a
 ·grind[mM]
 ·exact mM a λx H=>H.mono (by simp_all)
theorem Io{k:Nat} {h:Hp} {K:Prop} {rs:List (Bool×Rec)}:∀{new:List (Bool×Rec)},(∀r∈new,r.1=true->zb h r.2)->rQ k h rs K->rQ k h (new++rs) K
 |[],_,hh=>hh
 | r ::new,hn,hh=>by
   have a:=Io (new:=new) (by simp_all) hh;show rQ k h (r::(new++rs)) K;simp only[rQ]
   cases hb:Nat.blt r.2.last k with
   |true=>exact a
   | false=>
     refine⟨?_,a⟩;cases hb:r.1 <;> grind
theorem GS{C:fe} {n:Nat} {all:List Oper} {ws:List It} {K:fK->Hp->Prop} {k:Nat} {rs:List (Bool×Rec)}:∀{l:List It} {ρ:fK} {h:Hp} {new:List (Bool×Rec)},BK l=true->(∀r∈new,r.1=true->zb h r.2)->
  uP C n all (λρ h=>rQ k h rs (K ρ h)) (l.map (·.o)) ρ h->BM C n all ws K l k ρ h (new++rs)
 |[],_,_,_,_,hn,hk=>Io hn hk
 | a ::l,ρ,h,new,j,hn,hk=>by
   simp only[BK,Rr,te]at j;obtain⟨hc,j⟩:=j;have hc:=tS hc;have c:vO C n all a.o (uP C n all (λρ h=>rQ k h rs (K ρ h)) (l.map (·.o))) ρ h:=hk;show Tx C n all ws a (BM C n all ws K l) k ρ h (new++rs)
   have m:∀{b:Bool} {v:V},(b=true->(gX a.o).f (.fn ρ []) h=some v)->lZ n a.o (uP C n all (λρ h=>rQ k h rs (K ρ h)) (l.map (·.o))) v ρ h->
       lZ n a.o (λw h=>BM C n all ws K l k w h ((b,{it:=a,t:= .fn ρ [],v,made:=none,last:=late ws a})::(new++rs))) v ρ h:=by
     intro b v p hd;have i:∀r∈(b,({it:=a,t:= .fn ρ [],v,made:=none,last:=late ws a}:Rec))::new,r.1=true->zb h r.2:=by
       intro r x q;rcases zq.1 x with e|e
       ·subst e;exact p q
       ·grind
     unfold lZ at hd⊢
     cases ho:a.o.dst with
     |none=>rw[ho]at hd;exact GS j i hd
     | some d=>
       rw[ho]at hd;simp only at hd⊢
       cases p:Nat.blt d n with
       |true=>rw[p]at hd;exact GS j i hd
       |false=>simp_all
   unfold vO at c;rw[DR hc]at c;simp only at c;unfold Tx;rw[hc];simp only
   cases hw:ji n all a.o with
   | none=>
     rw[hw]at c;simp only[JL,hc]at c;obtain⟨v,s,u⟩:=jD.1 c
     simp_all
   | some g=>
     rw[hw]at c;simp only[QR,hc]at c;obtain⟨b,h0,c⟩:=jD.1 c;obtain⟨v,s,u⟩:=jD.1 c;exact ec h0 (ec s (m (λe=>by simp_all) u))
theorem Ep{C:fe} {n:Nat} {all:List Oper} {K e:fK->Hp->Prop} {h:Hp} (f:∀ρ,K ρ h->e ρ h):∀{l:List It} {ρ:fK},BK l=true->uP C n all K (l.map (·.o)) ρ h->uP C n all e (l.map (·.o)) ρ h
 |[],_,_,hk=>f _ hk
 | a ::l,ρ,c,hk=>by
   simp only[BK,Rr,te]at c;obtain⟨hc,c⟩:=c;have hc:=tS hc;have b:vO C n all a.o (uP C n all K (l.map (·.o))) ρ h:=hk;show vO C n all a.o (uP C n all e (l.map (·.o))) ρ h;have i:∀{v:V},lZ n a.o (uP C n all K (l.map (·.o))) v ρ h->lZ n a.o (uP C n all e (l.map (·.o))) v ρ h:=by
     intro v hd;unfold lZ at hd⊢
     cases ho:a.o.dst with
     |none=>rw[ho]at hd;exact Ep f c hd
     | some d=>
       rw[ho]at hd;simp only at hd⊢
       cases hb:Nat.blt d n with
       |true=>rw[hb]at hd;exact Ep f c hd
       |false=>simp_all
   unfold vO at b⊢;rw[DR hc]at b⊢;simp only at b⊢
   cases hw:ji n all a.o with
   | none=>
     grind[JL,jD,ec]
   | some g=>
     rw[hw]at b
     grind[QR,jD,ec]
theorem Fy{C:fe} {n:Nat} {all:List Oper} {ws:List It} {K:fK->Hp->Prop}:∀(l:List It) {k:Nat} {ρ:fK} {h:Hp} {rs:List RE},NP h rs->Ln C n all ws K l k ρ h rs->BM C n all ws K l k ρ h (pS rs)
 |[],_,_,_,_,hi,hk=>sY hi (λx=>x) hk
 | a ::l,k,ρ,h,rs,hi,hk=>by
   have i:(match BK (a::l)with
     |true=>λ(ρ:fK) (h:Hp) (rs:List RE)=>Lz C n all (λρ h=>BF k h rs (K ρ h)) ((a::l).map (·.o)) 0 ρ h
     |false=>W9 C n all ws a (Ln C n all ws K l) k:fK->Hp->List RE->Prop) ρ h rs:=hk
   cases hp:BK (a::l)with
   | true=>
     rw[hp]at i;have A:=Dx _ 0 i
     exact GS (new:=[]) hp (by simp_all) (Ep (λρ m=>sY hi (λx=>x) m) hp A)
   | false =>
     rw[hp]at i;simp only at i;show Tx C n all ws a (BM C n all ws K l) k ρ h (pS rs)
     have pure:∀{b:Bool} {v:V},gV b ((gX a.o).f (.fn ρ []) h)=some v->∀{j:fK},Ln C n all ws K l k j h ((b,{it:=a,t:= .fn ρ [],v,made:=none,last:=late ws a},yk a.o,false)::rs)->
         BM C n all ws K l k j h ((b,{it:=a,t:= .fn ρ [],v,made:=none,last:=late ws a})::pS rs):=by
       intro b v p j m;refine Fy l (rs:=(b,{it:=a,t:= .fn ρ [],v,made:=none,last:=late ws a},yk a.o,false)::rs) ?_ m;intro r s q u;rcases zq.1 s with e|e
       ·subst e
        have w:b=true:=q;subst w;refine⟨λB h'=>?_,λ_=>p⟩;show(gX a.o).f (.fn ρ []) h' = some v;rw[OP B _ h' h];exact p
       ·exact hi r e q u
     have dst:∀{b:Bool} {v:V},gV b ((gX a.o).f (.fn ρ []) h)=some v->lZ n a.o (λj h=>Ln C n all ws K l k j h ((b,{it:=a,t:= .fn ρ [],v,made:=none,last:=late ws a},yk a.o,false)::rs)) v ρ h->
         lZ n a.o (λj h=>BM C n all ws K l k j h ((b,{it:=a,t:= .fn ρ [],v,made:=none,last:=late ws a})::pS rs)) v ρ h:=by
       intro b v p hd;unfold lZ at hd⊢
       cases ho:a.o.dst with
       |none=>grind
       | some d=>
         grind
     unfold W9 at i;unfold Tx;generalize hc:cls a.o=c at i;rcases c with _|_|c
     ·simp only at i⊢
      cases hw:ji n all a.o with
      | none=>
        rw[hw]at i;simp only at i⊢;have z:oP ((gX a.o).f (.fn ρ []) h) λv=>lZ n a.o (λj h=>Ln C n all ws K l k j h ((true,{it:=a,t:= .fn ρ [],v,made:=none,last:=late ws a},yk a.o,false)::rs)) v ρ h:=by
          cases p:isVal a.o <;> (rw[p]at i;exact i)
        obtain⟨v,A,E⟩:=jD.1 z
        simp_all
      | some g=>
        grind[jD,ec]
     ·simp only at i⊢
      cases hw:ji n all a.o with
      | none=>
        rw[hw]at i;refine mM i λr H=>AM (λj h' m=>?_) H;have:=Fy l (rs:=(true,{it:=a,t:= .fn ρ [],v:=r.2 h.next,made:=some (h.next,r.1),last:=late ws a},false,false)::C8 rs) (by
          intro r' s q u;rcases zq.1 s with e|e
          ·simp_all
          ·exact hi.rI h' r' e q u) m
        grind[BM,pS,C8,FV]
      |some g=>simp_all
     ·simp only at i⊢
      have D:∀{v:V} {ρ:fK} {h':Hp},lZ n a.o (λρ h=>Ln C n all ws K l (Nat.succ k) ρ h (C8 rs)) v ρ h'->lZ n a.o (λρ h=>BM C n all ws K l (Nat.succ k) ρ h (pS rs)) v ρ h':=λH=>
        AM (λρ h m=>by have:=Fy l (hi.rI h) m;grind[FV]) H
      cases hw:ji n all a.o with
      | none=>
        grind[sY,PR]
      | some g=>
        rw[hw]at i;simp only at i⊢
        cases hic:tV a.o with
        |false=>simp_all
        | true=>
          rw[hic]at i;refine sY hi (λH=>mM H λb H=>mM H λx H=>?_) i
          cases x with
          |none=>simp_all
          |some y=>exact cP.mono H (by simp_all)
def OJ(C:fe) (n:Nat) (all:List Oper) (K:fK->Hp->Prop) (ρ:fK) (h:Hp):Prop:=Ln C n all (gf (items all 0 [])) K (order (items all 0 []) (gf (items all 0 [])) (gf (items all 0 [])) 0) 0 ρ h []
theorem Qw{C:fe}{n:Nat}{all:List Oper}{K:fK->Hp->Prop}{ρ:fK}{h:Hp}(a:OJ C n all K ρ h):MC C n all K ρ h:=Fy (rs:=[]) _ (by intro r b;cases b) a
end
noncomputable def GB(tb:List (Nat×List Nat)) (k:Nat):Option (List Nat):=List.rec (motive:=λ_=>Option (List Nat)) none (λx _ a=>Bool.rec (motive:=λ_=>Option (List Nat)) a (some x.2) (Nat.beq x.1 k)) tb
noncomputable def jV(C:fe) (n:Nat) (live:List Nat) (c:Code) (s:XQ) (ρ:fK) (h:Hp):Prop:=∀a:fK,List.rec (motive:=λ_=>Prop) (Wp C n c s a h) (λi _ b=>a i=ρ i->b) live
theorem Qz{C:fe} {n:Nat} {live:List Nat} {c:Code} {s:XQ} {ρ:fK} {h:Hp} (a:jV C n live c s ρ h):Wp C n c s ρ h:=by
 have:=a ρ;clear a
 induction live <;> grind
noncomputable def Ld(C:fe) (n:Nat) (tb:List (Nat×List Nat)) (c:Code):Nat->Nat->XQ->XQ->fK->Hp->Prop:=
 Code.rec (motive:=λ_=>Nat->Nat->XQ->XQ->fK->Hp->Prop)
  (λ_ _ v _=>v .normal)
  (fun _ ops d _ _ v _=>match d with
   |false=>Lz C n ops.toList (λρ h=>v .normal ρ h) ops.toList 0
   | true=>match sZ ops.toList with
     |true=>OJ C n ops.toList (λρ h=>v .normal ρ h)
     |false=>λ_ _=>False)
  (λ_ b a g p e v s=>a p (Nat.mul 2 e) (andThen (Option.rec (motive:=λ_=>fK->Hp->Prop) (g (Nat.add p e) (Nat.mul 2 e) v s) (λlive=>jV C n live b s) (GB tb (Nat.mul 2 (Nat.add (Nat.add p e) (Nat.mul 2 e))))) v) (andThen (Wp C n b s) s))
  (λc _ _ a g p e v s ρ h=>Option.rec (motive:=λ_=>Prop) False (λx=>bP x (a p (Nat.mul 2 e) v s ρ h) (g (Nat.add p e) (Nat.mul 2 e) v s ρ h)) ((oO c).f (.fn ρ []) h))
  (λid _ i p e v s=>i p (Nat.mul 2 e) (vg id v) (vg id s))
  (λc _ p e _ s=>Option.rec (motive:=λ_=>fK->Hp->Prop) (λ_ _=>False) (λlive=>jV C n live (.loop c) s) (GB tb (Nat.succ (Nat.mul 2 (Nat.add p e)))))
  (λ_ _ _ _ _ _ _ _ _ _ _ _=>False)
  (λid _ _ v _=>v (.exit id))
  (λ_ _ _ _ _ _ _ _=>False)
  (λ_ _ _ _ _ _ _=>False)
  (λ_ _ _ _ _ _ _=>False)
  (λ_ _ v _=>v .ret)
  (λ_ _ _ _ _ _ _=>False) c
theorem wL{k k':fK->Hp->Prop} {v s:XQ} (a:∀ρ h,k ρ h->k' ρ h) (hq:∀x ρ h,v x ρ h->s x ρ h):∀x ρ h,andThen k v x ρ h->andThen k' s x ρ h
 | .normal,_,_,hh=>a _ _ hh
 | .exit _,_,_,hh=>hq _ _ _ hh
 | .ret,_,_,hh=>hq _ _ _ hh
theorem GX{id:Nat} {v s:XQ} (hq:∀x ρ h,v x ρ h->s x ρ h):∀x ρ h,vg id v x ρ h->vg id s x ρ h
 | .normal,_,_,hh=>hq _ _ _ hh
 | .ret,_,_,hh=>hq _ _ _ hh
 | .exit i,ρ,h,hh=>by
   simp only[vg]at hh⊢;cases hb:Nat.beq i id <;> simp_all
theorem rf{C:fe} {n:Nat} {tb:List (Nat×List Nat)}:∀(c:Code) {p e:Nat} {v s:XQ} {ρ:fK} {h:Hp},(∀x ρ h,v x ρ h->s x ρ h)->Ld C n tb c p e v s ρ h->Wp C n c s ρ h
 | .skip,_,_,_,_,_,_,hq,hk=> .skip (hq _ _ _ hk)
 | .region _ ops false,_,_,v,_,ρ,h,hq,hk=>by
   have d:Lz C n ops.toList (λρ h=>v .normal ρ h) ops.toList 0 ρ h:=hk
   exact(Wp.region (Dx _ 0 d)).mono hq
 | .region _ ops true,_,_,v,_,ρ,h,hq,hk=>by
   have d:(match sZ ops.toList with
       |true=>OJ C n ops.toList (λρ h=>v .normal ρ h)
       |false=>λ_ _=>False) ρ h:=hk
   cases hd:sZ ops.toList with
   |true=>rw[hd]at d;exact(Wp.draw hd (Qw d)).mono hq
   |false=>simp_all
 | .seq a b,p,e,v,s,ρ,h,hq,hk=>by
   refine .seq (rf a (wL ?_ hq) hk);intro ρ h g
   cases hf:GB tb (Nat.mul 2 (Nat.add (Nat.add p e) (Nat.mul 2 e)))with
   |none=>rw[hf]at g;exact rf b hq g
   |some live=>rw[hf]at g;exact Qz g
 | .cond c a b,p,e,v,s,ρ,h,hq,hk=>by
   have d:oP ((oO c).f (.fn ρ []) h) (λx=>bP x (Ld C n tb a p (Nat.mul 2 e) v s ρ h) (Ld C n tb b (Nat.add p e) (Nat.mul 2 e) v s ρ h)):=hk;obtain⟨x,i,d⟩:=jD.1 d
   exact .cond (ec i (bM d (rf a hq) (rf b hq)))
 | .block id c,_,_,_,_,_,_,hq,hk=> .block (rf c (GX hq) hk)
 | .loop c,p,e,v,s,ρ,h,hq,hk=>by
   have d:(Option.rec (motive:=λ_=>fK->Hp->Prop) (λ_ _=>False) (λlive=>jV C n live (.loop c) s) (GB tb (Nat.succ (Nat.mul 2 (Nat.add p e)))):fK->Hp->Prop) ρ h:=hk
   cases hf:GB tb (Nat.succ (Nat.mul 2 (Nat.add p e)))with
   |none=>simp_all
   |some live=>rw[hf]at d;grind[Qz]
 | .exit id,_,_,_,_,_,_,hq,hk=> .exit (hq _ _ _ hk)
 | .ret,_,_,_,_,_,_,hq,hk=> .ret (hq _ _ _ hk)
 | .rangeFunc ..,_,_,_,_,_,_,_,hk=>hk.elim
 | .scope _,_,_,_,_,_,_,_,hk=>hk.elim
 | .label _,_,_,_,_,_,_,_,hk=>hk.elim
 | .goto _,_,_,_,_,_,_,_,hk=>hk.elim
 | .refuse _,_,_,_,_,_,_,_,hk=>hk.elim
structure Nv where
 c:Code
 v:XQ
 s:XQ
 p:Nat
 e:Nat
 ks:List (fK->Hp->Prop)
def SC(l:List (fK->Hp->Prop)):fK->Hp->Prop:=match l with
 |k::_=>k
 |[]=>λ_ _=>False
noncomputable def j8(C:fe) (n:Nat) (tb:List (Nat×List Nat)) (a:Nv) (b:Bool):Nv:=match a.c,b with
 | .seq x y,false=>{c:=x,v:=andThen (Option.rec (motive:=λ_=>fK->Hp->Prop) (Ld C n tb y (Nat.add a.p a.e) (Nat.mul 2 a.e) a.v a.s) (λlive=>jV C n live y a.s) (GB tb (Nat.mul 2 (Nat.add (Nat.add a.p a.e) (Nat.mul 2 a.e))))) a.v,s:=andThen (Wp C n y a.s) a.s,p:=a.p,e:=Nat.mul 2 a.e,ks:=a.ks}
 | .seq _ y,true=>{c:=y,v:=a.v,s:=a.s,p:=Nat.add a.p a.e,e:=Nat.mul 2 a.e,ks:=a.ks}
 | .cond _ x _,false=>{c:=x,v:=a.v,s:=a.s,p:=a.p,e:=Nat.mul 2 a.e,ks:=a.ks}
 | .cond _ _ y,true=>{c:=y,v:=a.v,s:=a.s,p:=Nat.add a.p a.e,e:=Nat.mul 2 a.e,ks:=a.ks}
 | .block id x,false=>{c:=x,v:=vg id a.v,s:=vg id a.s,p:=a.p,e:=Nat.mul 2 a.e,ks:=a.ks}
 | .loop x,false=>{c:=x,v:=andThen (SC a.ks) a.v,s:=andThen (SC a.ks) a.s,p:=a.p,e:=Nat.mul 2 a.e,ks:=a.ks.tail}
 |_,_=>a
noncomputable def Va(C:fe) (n:Nat) (tb:List (Nat×List Nat)) (bs:List Bool):Nv->Nv:=List.rec (motive:=λ_=>Nv->Nv) (λa=>a) (λb _ c a=>c (j8 C n tb a b)) bs
def Wd(k:Nat):List Bool:=(Nat.rec (motive:=λ_=>Nat->List Bool) (λ_=>[]) (λ_ a p=>match Nat.ble p 1 with
 |true=>[]
 |false=>Nat.beq (Nat.mod p 2) 1::a (Nat.div p 2)) 400:Nat->List Bool) k
def L0(Q:V->Hp->Prop) (ρ:fK) (h:Hp) (l:List ResultVar):List V->Prop:=
 List.rec (motive:=λ_=>List V->Prop) (λb=>Q (uO b.reverse) h) (λr _ c b=>match r with
  | .tmp i=>c (ρ i::b)
  | .cell a ty=>oP ((Oi (.cell a ty)).f (.fn ρ []) h) λv=>c (v::b)) l
theorem Fo{Q:V->Hp->Prop} {ρ:fK} {h:Hp}:∀{l:List ResultVar} {b:List V},L0 Q ρ h l b->oP (ve (.fn ρ []) h l) λvs=>Q (uO (b.reverse++vs)) h
 | [],b,hh=>by
   grind[uO,ve,Rs,oP,L0]
 | .tmp i::l,b,hh=>by
   have c:L0 Q ρ h l (ρ i::b):=hh;obtain⟨vs,d,e⟩:=jD.1 (Fo c);refine ec (show ve (.fn ρ []) h (.tmp i::l)=some (ρ i::vs) from ?_) ?_
   ·show oB (some (ρ i)) _=_
    simp_all
   simp_all
 | .cell a ty::l,b,hh=>by
   have c:oP ((Oi (.cell a ty)).f (.fn ρ []) h) λv=>L0 Q ρ h l (v::b):=hh;obtain⟨v,h0,c⟩:=jD.1 c;obtain⟨vs,d,e⟩:=jD.1 (Fo c)
   simp_all[ec,ve,oB,Oi]
def MK(l:List ResultVar) (Q:V->Hp->Prop):XQ
 | .exit _,_,_=>False
 |_,ρ,h=>L0 Q ρ h l []
theorem JP{l:List ResultVar} {Q:V->Hp->Prop}:∀x ρ h,MK l Q x ρ h->ET l Q x ρ h
 | .exit _,_,_,hh=>hh
 | .normal,_,_,hh=>by grind[Fo,L0,ET,St,MK]
 | .ret,_,_,hh=>by grind[Fo,L0,ET,St,MK]
noncomputable def Ph(fn:Func)(ks:List (fK->Hp->Prop))(Q:V->Hp->Prop):Nv:={c:=G4 fn,v:=MK fn.results.toList Q,s:=ET fn.results.toList Q,p:=0,e:=1,ks}
noncomputable def fD(C:fe)(fn:Func)(tb:List (Nat×List Nat))(k:Nat)(ks:List (fK->Hp->Prop))(Q:V->Hp->Prop):Nv:=Va C fn.ntmps tb (Wd k) (Ph fn ks Q)
noncomputable def WA(C:fe)(fn:Func)(tb:List (Nat×List Nat))(k:Nat)(ks:List (fK->Hp->Prop))(Q:V->Hp->Prop)(ρ:fK)(h:Hp):Prop:=Wp C fn.ntmps (fD C fn tb k ks Q).c (fD C fn tb k ks Q).s ρ h
noncomputable def VA(C:fe)(n:Nat)(tb:List (Nat×List Nat))(a:Nv)(ρ:fK)(h:Hp):Prop:=Ld C n tb a.c a.p a.e a.v a.s ρ h
def Nv.ok(a:Nv):Prop:=∀x ρ h,a.v x ρ h->a.s x ρ h
theorem N8{C:fe} {n:Nat} {tb:List (Nat×List Nat)} {a:Nv} (c:a.ok) (b:Bool):(j8 C n tb a b).ok:=by
 unfold j8;split
 ·refine wL (λρ h d=>?_) c
  cases hf:GB tb (Nat.mul 2 (Nat.add (Nat.add a.p a.e) (Nat.mul 2 a.e)))with
  |none=>rw[hf]at d;exact rf _ c d
  |some live=>rw[hf]at d;exact Qz d
 ·exact c
 ·exact c
 ·exact c
 ·exact GX c
 ·exact wL (by simp_all) c
 ·exact c
theorem MM{C:fe} {n:Nat} {tb:List (Nat×List Nat)}:∀{bs:List Bool} {a:Nv},a.ok->(Va C n tb bs a).ok
 |[],_,ha=>ha
 |b::bs,_,ha=>MM (bs:=bs) (N8 ha b)
theorem DX{C:fe}{fn:Func}{tb:List (Nat×List Nat)}{k:Nat}{ks:List (fK->Hp->Prop)}{Q:V->Hp->Prop}:(fD C fn tb k ks Q).ok:=MM JP
theorem WA.of{C:fe} {fn:Func} {tb:List (Nat×List Nat)} {k:Nat} {ks:List (fK->Hp->Prop)} {Q:V->Hp->Prop} {ρ:fK} {h:Hp} {P:Prop}
  (e:VA C fn.ntmps tb (fD C fn tb k ks Q) ρ h=P) (H:P):WA C fn tb k ks Q ρ h:=rf _ DX (e.mpr H)
def LL(c:Code):Bool:=match c with
 | .seq (.region _ r0 false) _=>match r0.toList with
   | o::_=>match o.op with
     | .next _ false=>false
     |_=>true
   |[]=>true
 |_=>true
theorem Ks{n:Nat} {c:Code} (h:LL c=true):tU n c=none:=by
 cases hf:tU n c with
 |none=>rfl
 | some F=>
   obtain⟨_,_,_,_,_,_,_,o1,_,_,_,_,_,_,_,rfl,e0,_,_,_,a,_⟩:=Ir hf;obtain⟨b,_⟩:=Tf a;simp only[LL,e0,b]at h;cases h
def ly(c:Code):Bool:=match c with
 | .loop c=>LL c
 |_=>false
noncomputable def Mh(n:Nat) (c:Code):Option kM:=match c with
 | .loop c=>tU n c
 |_=>none
inductive LA (C:fe) (fn:Func) (tb:List (Nat×List Nat)) (k:Nat) (ks:List (fK->Hp->Prop)) (Q:V->Hp->Prop) (K:fK->Hp->Prop) (ρ:fK) (h:Hp):Prop
 |mk (a:VA C fn.ntmps tb (j8 C fn.ntmps tb {fD C fn tb k ks Q with ks:=[K]} false) ρ h)
theorem LA.of{C:fe} {fn:Func} {tb:List (Nat×List Nat)} {k:Nat} {ks:List (fK->Hp->Prop)} {Q:V->Hp->Prop} {K:fK->Hp->Prop} {ρ:fK} {h:Hp} {P:Prop}
  (e:VA C fn.ntmps tb (j8 C fn.ntmps tb {fD C fn tb k ks Q with ks:=[K]} false) ρ h=P) (H:P):LA C fn tb k ks Q K ρ h:=⟨e.mpr H⟩
theorem WA.loop{C:fe} {fn:Func} {tb:List (Nat×List Nat)} {k:Nat} {ks:List (fK->Hp->Prop)} {Q:V->Hp->Prop} {ρ:fK} {h:Hp} (I:Nat->fK->Hp->Prop) {m:Nat}
  (b:ly (fD C fn tb k ks Q).c=true) (n:(fD C fn tb k ks Q).ks=[])
  (d:∀m ρ h,I m ρ h->LA C fn tb k ks Q (λi h'=>∃g,g<m/\I g i h') ρ h) (h0:I m ρ h):WA C fn tb k ks Q ρ h:=by
 unfold WA;have d:=λm ρ h hi=>(d m ρ h hi).1;have f:(fD C fn tb k ks Q).ok:=DX;generalize fD C fn tb k ks Q=a at*;obtain⟨c,v,s,p,e,j⟩:=a;cases c <;> simp only[ly]at b <;> try exact absurd b (by decide)
 rename_i c;refine Wp.VY I (λm ρ h hi=>?_) h0 (Ks b);have:=d m ρ h hi;exact rf c (wL (λ_ _ l=>l) f) this
theorem WA.fill{C:fe} {fn:Func} {tb:List (Nat×List Nat)} {k:Nat} {ks:List (fK->Hp->Prop)} {Q:V->Hp->Prop} {ρ f:fK} {h h':Hp} {F:kM} {x:X}
  (b:Mh fn.ntmps (fD C fn tb k ks Q).c=some F) (g:Gu F (.fn ρ []) h=some (x,.fn f [],h')) (H:(fD C fn tb k ks Q).v x f h'):WA C fn tb k ks Q ρ h:=by
 unfold WA;have d:(fD C fn tb k ks Q).ok:=DX;generalize fD C fn tb k ks Q=a at*;obtain⟨c,v,s,p,e,i⟩:=a;cases c <;> simp only[Mh]at b <;> try cases b
 exact Wp.fill b g (d _ _ _ H)
theorem cP.vc{C:fe} (b:C.start=fQ) {f:Nat} {fn:Func} {tb:List (Nat×List Nat)} {args:List V} {h:Hp} {Q:V->Hp->Prop} {P:Prop} (c:P0.funcs[f]? =some fn) (d:fn.body=some (G4 fn))
  (g:C.K f args h=none) (a:Nat.ble args.length fn.ntmps=true) (e:VA C fn.ntmps tb (Ph fn [] Q) (GL args) h=P) (H:P):cP C f args h Q:=
 cP.func b c d g (EY a) (rf _ JP (e.mpr H))
abbrev LP:=List V->Hp->Prop
def WO(ρ:fK):List Nat->List V->Prop->Prop
 |i::is,x::xs,P=>ρ i=x->WO ρ is xs P
 |_,_,P=>P
def kf(is:List Nat)(K:LP):fK->Hp->Prop:=λρ h=>K (is.map ρ) h
def JV(C:fe)(fn:Func)(tb:List (Nat×List Nat))(k:Nat)(is:List Nat)(ks:List (fK->Hp->Prop))(Q:fu):LP:=λl h=>∀ρ:fK,WO ρ is l (WA C fn tb k ks Q ρ h)
theorem IN{ρ:fK}{P:Prop}:∀{is:List Nat}{l:List V},is.length=l.length->(is.map ρ=l->P)->WO ρ is l P
 |[],[],_,h=>h rfl
 |[],_::_,e,_=>by cases e
 |_::_,[],e,_=>by cases e
 |i::is,x::l,e,h=>λa=>IN (is:=is) (l:=l) (by simp_all) (by simp_all)
def Rz:Nat->Type
 |0=>Hp->Prop
 |n+1=>V->Rz n
def JJ:(n:Nat)->Rz n->LP
 |0,f,[],h=>f h
 |n+1,f,x::l,h=>JJ n (f x) l h
 |_,_,_,_=>False
@[reducible] def Hg (I:Nat->LP) (k:Nat):LP:=λl h=>∃k',k' < k/\I k' l h
section
variable{C:fe}{fn:Func}{tb:List (Nat×List Nat)}{k m:Nat}{is:List Nat}{ks:List (fK->Hp->Prop)}{Q:fu}{h:Hp}{l:List V}
theorem JV.mk(n:Nat)(B:Rz n)(e:∀(ρ:fK)(h:Hp),VA C fn.ntmps tb (fD C fn tb k ks Q) ρ h=JJ n B (is.map ρ) h)(a:is.length=l.length)(H:JJ n B l h):JV C fn tb k is ks Q l h:=λρ=>IN a λb=>by
 subst b;exact WA.of (e ρ h) H
theorem JV.loop(n:Nat)(I:Nat->LP)(B:LP->Rz n)(a:ly (fD C fn tb k ks Q).c=true)(b:(fD C fn tb k ks Q).ks=[])
  (e:∀(K:LP) (ρ:fK) (h:Hp),VA C fn.ntmps tb (j8 C fn.ntmps tb {fD C fn tb k ks Q with ks:=[kf is K]} false) ρ h=JJ n (B K) (is.map ρ) h)
  (f:∀m l h,l.length=n->I m l h->JJ n (B (Hg I m)) l h) (g:is.length=n) (hlen:is.length=l.length) (h0:I m l h):JV C fn tb k is ks Q l h:=λρ=>IN hlen λd=>by
 subst d;exact WA.loop (λm ρ h=>I m (is.map ρ) h) a b (λm ρ h hi=>LA.of (e (Hg I m) ρ h) (by grind)) h0
noncomputable def FY(k:IntKind) (it u:V) (h:Hp):Option Hp:=px it λr off=>bB (Nat.beq off 0) (oB (h.get r) λo=>match o with
 | .iter (some m) since [] last=>vr h m λes a=>bB (Nat.beq since a&&Nat.beq last a) (oB (EU k es) λks=>match u with
   | .map u=>bB (!(Nat.beq u m)) (vr h u λus _=>bB us.isEmpty (some ((h.put r .gone).put u (.Hi k ks))))
   |_=>none)
 |_=>none)
theorem kM.WT(F:kM)(u:Nat)(b:Bool)(ρ:fK):∃c,F.t u b (.fn ρ []) = .fn c []/\∀i,i ∉ F.all.drop 2->c i=ρ i:=by
 have a:∀i,i ∉ F.all.drop 2->gq (F.t u b (.fn ρ [])) i=ρ i:=λi hi=>by
  simp only[kM.all,List.drop,zq,UQ,or_false,not_or]at hi;unfold kM.t;cases b <;> simp only[gN] <;> (repeat' rw[if_neg (by grind)]) <;> rfl
 cases b <;> exact⟨_,rfl,a⟩
theorem Rt{F:kM}{ρ:fK} {h h':Hp}(a:FY F.k (ρ F.it) (ρ F.u) h=some h'):∃b,Gu F (.fn ρ []) h=some (.exit F.x,.fn b [],h')/\∀i,i ∉ F.all.drop 2->b i=ρ i:=by
 unfold FY at a;unfold Gu;show ∃b,px (ρ F.it) _=_/\_;rw[nC]at a;obtain⟨r,off,d,a⟩:=a;rw[fW,ez]at a;obtain⟨e,o,f,a⟩:=a;split at a
 ·simp only[qO,fW,ez]at a;obtain⟨es,c,g,j,ks,l,a⟩:=a;split at a
  ·rename_i u m;simp only[fW,qO]at a;obtain⟨n,us,s,p,q,a⟩:=a;cases a;obtain⟨b,e1,e2⟩:=F.WT u es.isEmpty ρ;refine⟨b,?_,e2⟩;simp only[d,px,e,bB,f,oB,vr,g,j,l];rw[show gq (.fn ρ []) F.u = .map u from m];simp only[n,p,q,e1]
  ·cases a
 ·cases a
theorem JV.fill{F:kM}{b:Nat}{a:List Nat}{l2:List V} {h':Hp}(d:Mh fn.ntmps (fD C fn tb k ks Q).c=some F)
  (e:∀(ρ:fK) (h:Hp),(fD C fn tb k ks Q).v (.exit F.x) ρ h=JV C fn tb b a ks Q (a.map ρ) h) (hd:∀i∈a,i ∉ F.all.drop 2) (hlen:is.length=l.length)
  (f:∀ρ:fK,is.map ρ=l->a.map ρ=l2/\FY F.k (ρ F.it) (ρ F.u) h=some h') (H:JV C fn tb b a ks Q l2 h'):JV C fn tb k is ks Q l h:=λρ=>IN hlen λg=>by
 obtain⟨j,m⟩:=f ρ g;obtain⟨n,o,p⟩:=Rt m;refine WA.fill d o ?_;rw[e,show a.map n=l2 from j▸List.map_congr_left λi hi=>p i (hd i hi)];exact H
abbrev dF(k:Nat)(x:V)(h:Hp)(K:V->Prop):Prop:=oP (fP k x) λa=>oP (er a h) K
abbrev dN(k:Nat)(x:V)(h:Hp)(K:V->Prop):Prop:=oP (hJ x) λa=>dF k a h K
abbrev dI(n:Nat)(x i:V)(k:Nat)(h:Hp)(K:V->Prop):Prop:=oP (gM n x i) λa=>dF k a h K
abbrev dX(n:Nat)(x i:V)(h:Hp)(K:V->Prop):Prop:=oP (gM n x i) λa=>oP (er a h) K
abbrev dG(k:Nat)(x:V)(h:Hp)(K:V->Prop):Prop:=dF k x h λa=>oP (fJ a) K
abbrev dJ(k:Nat)(x:V)(n:Nat)(i:V)(j:Nat)(h:Hp)(K:V->Prop):Prop:=dF k x h λa=>dI n a i j h K
abbrev dY(k:Nat)(x:V)(n:Nat)(i:V)(h:Hp)(K:V->Prop):Prop:=dF k x h λa=>dX n a i h K
abbrev bO(o:BinOp)(t:Nat)(a b:V)(A B:Prop):Prop:=oP (ej o t a b) λv=>bP v A B
abbrev bN(a:V)(A B:Prop):Prop:=oP (xF .not a) λv=>bP v A B
theorem oF{k l o:Nat}{h:Hp}{v:V}{K:V->Prop}(a:er (.ptr l (o+k)) h=some v)(b:K v):dF k (.ptr l o) h K:=jD.2 ⟨_,fM _ _ _,jD.2 ⟨_,a,b⟩⟩
theorem oN{k l o:Nat}{h:Hp}{v:V}{K:V->Prop}(a:er (.ptr l (o+k)) h=some v)(b:K v):dN k (.ptr l o) h K:=jD.2 (by simp_all[fc,oF])
theorem cP.vd{C:fe}{f:Nat}{fn:Func}(tb:List (Nat×List Nat)){args:List V}{h:Hp}{Q:fu}{P:Prop}(b:C.start=fQ)(c:P0.funcs[f]? =some fn)(d:C.K f args h=none)(H:P)
  (g:fn.body=some (G4 fn):=by kernel_rfl) (a:Nat.ble args.length fn.ntmps=true:=by kernel_rfl) (e:VA C fn.ntmps tb (Ph fn [] Q) (GL args) h=P:=by kernel_rfl):cP C f args h Q:=cP.vc b c g d a e H
abbrev S1(I:Nat->LP)(B:LP->fu):Prop:=∀(k:Nat) (a:V) (h:Hp),I k [a] h->B (Hg I k) a h
abbrev R1(B:fu)(J:LP):Prop:=∀{a:V} {h:Hp},B a h->J [a] h
abbrev S2(I:Nat->LP)(B:LP->Wt):Prop:=∀(k:Nat) (a b:V) (h:Hp),I k [a,b] h->B (Hg I k) a b h
abbrev R2(B:Wt)(J:LP):Prop:=∀{a b:V} {h:Hp},B a b h->J [a,b] h
theorem JV.l2(I:Nat->LP)(B:LP->Wt)(s:S2 I B)(i:I m l h)(g:l.length=2)(b:ly (fD C fn tb k ks Q).c=true:=by kernel_rfl)(d:(fD C fn tb k ks Q).ks=[]:=by kernel_rfl)
  (e:∀(K:LP) (ρ:fK) (h:Hp),VA C fn.ntmps tb (j8 C fn.ntmps tb {fD C fn tb k ks Q with ks:=[kf is K]} false) ρ h=JJ 2 (B K) (is.map ρ) h:=by intros;kernel_rfl) (a:is.length=2:=by rfl):JV C fn tb k is ks Q l h:=
 JV.loop 2 I B b d e (λk l h g i=>match l,g,i with|[f,j],_,i=>s k f j h i) a (a.trans g.symm) i
theorem JV.r2(B:Wt)(e:∀(ρ:fK)(h:Hp),VA C fn.ntmps tb (fD C fn tb k ks Q) ρ h=JJ 2 B (is.map ρ) h:=by intros;kernel_rfl)(a:is.length=2:=by rfl):R2 B (JV C fn tb k is ks Q):=λH=>JV.mk 2 B e a H
abbrev S3(I:Nat->LP)(B:LP->HL):Prop:=∀(k:Nat) (a b c:V) (h:Hp),I k [a,b,c] h->B (Hg I k) a b c h
abbrev R3(B:HL)(J:LP):Prop:=∀{a b c:V} {h:Hp},B a b c h->J [a,b,c] h
theorem JV.l3(I:Nat->LP)(B:LP->HL)(s:S3 I B)(i:I m l h)(g:l.length=3)(b:ly (fD C fn tb k ks Q).c=true:=by kernel_rfl)(d:(fD C fn tb k ks Q).ks=[]:=by kernel_rfl)
  (e:∀(K:LP) (ρ:fK) (h:Hp),VA C fn.ntmps tb (j8 C fn.ntmps tb {fD C fn tb k ks Q with ks:=[kf is K]} false) ρ h=JJ 3 (B K) (is.map ρ) h:=by intros;kernel_rfl) (a:is.length=3:=by rfl):JV C fn tb k is ks Q l h:=
 JV.loop 3 I B b d e (λk l h g i=>match l,g,i with|[f,j,n],_,i=>s k f j n h i) a (a.trans g.symm) i
theorem JV.r3(B:HL)(e:∀(ρ:fK)(h:Hp),VA C fn.ntmps tb (fD C fn tb k ks Q) ρ h=JJ 3 B (is.map ρ) h:=by intros;kernel_rfl)(a:is.length=3:=by rfl):R3 B (JV C fn tb k is ks Q):=λH=>JV.mk 3 B e a H
abbrev S4(I:Nat->LP)(B:LP->Cl):Prop:=∀(k:Nat) (a b c d:V) (h:Hp),I k [a,b,c,d] h->B (Hg I k) a b c d h
abbrev R4(B:Cl)(J:LP):Prop:=∀{a b c d:V} {h:Hp},B a b c d h->J [a,b,c,d] h
theorem JV.l4(I:Nat->LP)(B:LP->Cl)(s:S4 I B)(i:I m l h)(g:l.length=4)(b:ly (fD C fn tb k ks Q).c=true:=by kernel_rfl)(d:(fD C fn tb k ks Q).ks=[]:=by kernel_rfl)
  (e:∀(K:LP) (ρ:fK) (h:Hp),VA C fn.ntmps tb (j8 C fn.ntmps tb {fD C fn tb k ks Q with ks:=[kf is K]} false) ρ h=JJ 4 (B K) (is.map ρ) h:=by intros;kernel_rfl) (a:is.length=4:=by rfl):JV C fn tb k is ks Q l h:=
 JV.loop 4 I B b d e (λk l h g i=>match l,g,i with|[f,j,n,o],_,i=>s k f j n o h i) a (a.trans g.symm) i
abbrev R5(B:mC)(J:LP):Prop:=∀{a b c d e:V} {h:Hp},B a b c d e h->J [a,b,c,d,e] h
theorem JV.r5(B:mC)(e:∀(ρ:fK)(h:Hp),VA C fn.ntmps tb (fD C fn tb k ks Q) ρ h=JJ 5 B (is.map ρ) h:=by intros;kernel_rfl)(a:is.length=5:=by rfl):R5 B (JV C fn tb k is ks Q):=λH=>JV.mk 5 B e a H
abbrev R6(B:rW)(J:LP):Prop:=∀{a b c d e f:V} {h:Hp},B a b c d e f h->J [a,b,c,d,e,f] h
abbrev S7(I:Nat->LP)(B:LP->zB):Prop:=∀(k:Nat) (a b c d e f g:V) (h:Hp),I k [a,b,c,d,e,f,g] h->B (Hg I k) a b c d e f g h
abbrev R7(B:zB)(J:LP):Prop:=∀{a b c d e f g:V} {h:Hp},B a b c d e f g h->J [a,b,c,d,e,f,g] h
theorem JV.l7(I:Nat->LP)(B:LP->zB)(s:S7 I B)(i:I m l h)(g:l.length=7)(b:ly (fD C fn tb k ks Q).c=true:=by kernel_rfl)(d:(fD C fn tb k ks Q).ks=[]:=by kernel_rfl)
  (e:∀(K:LP) (ρ:fK) (h:Hp),VA C fn.ntmps tb (j8 C fn.ntmps tb {fD C fn tb k ks Q with ks:=[kf is K]} false) ρ h=JJ 7 (B K) (is.map ρ) h:=by intros;kernel_rfl) (a:is.length=7:=by rfl):JV C fn tb k is ks Q l h:=
 JV.loop 7 I B b d e (λk l h g i=>match l,g,i with|[f,j,n,o,p,q,r],_,i=>s k f j n o p q r h i) a (a.trans g.symm) i
theorem JV.r7(B:zB)(e:∀(ρ:fK)(h:Hp),VA C fn.ntmps tb (fD C fn tb k ks Q) ρ h=JJ 7 B (is.map ρ) h:=by intros;kernel_rfl)(a:is.length=7:=by rfl):R7 B (JV C fn tb k is ks Q):=λH=>JV.mk 7 B e a H
abbrev S8(I:Nat->LP)(B:LP->Ft):Prop:=∀(k:Nat) (a b c d e f g i:V) (h:Hp),I k [a,b,c,d,e,f,g,i] h->B (Hg I k) a b c d e f g i h
abbrev R8(B:Ft)(J:LP):Prop:=∀{a b c d e f g i:V} {h:Hp},B a b c d e f g i h->J [a,b,c,d,e,f,g,i] h
theorem JV.l8(I:Nat->LP)(B:LP->Ft)(s:S8 I B)(i:I m l h)(g:l.length=8)(b:ly (fD C fn tb k ks Q).c=true:=by kernel_rfl)(d:(fD C fn tb k ks Q).ks=[]:=by kernel_rfl)
  (e:∀(K:LP) (ρ:fK) (h:Hp),VA C fn.ntmps tb (j8 C fn.ntmps tb {fD C fn tb k ks Q with ks:=[kf is K]} false) ρ h=JJ 8 (B K) (is.map ρ) h:=by intros;kernel_rfl) (a:is.length=8:=by rfl):JV C fn tb k is ks Q l h:=
 JV.loop 8 I B b d e (λk l h g i=>match l,g,i with|[f,j,n,o,p,q,r,t],_,i=>s k f j n o p q r t h i) a (a.trans g.symm) i
abbrev R9(B:E6)(J:LP):Prop:=∀{a b c d e f g i j:V} {h:Hp},B a b c d e f g i j h->J [a,b,c,d,e,f,g,i,j] h
abbrev Ce(B:zo)(J:LP):Prop:=∀{b c d e f g i j k a:V} {h:Hp},B b c d e f g i j k a h->J [b,c,d,e,f,g,i,j,k,a] h
abbrev Xy(B:pV)(J:LP):Prop:=∀{c d e f g i j k l a b:V} {h:Hp},B c d e f g i j k l a b h->J [c,d,e,f,g,i,j,k,l,a,b] h
abbrev WJ(B:E5)(J:LP):Prop:=∀{d e f g i j k l m a b c:V} {h:Hp},B d e f g i j k l m a b c h->J [d,e,f,g,i,j,k,l,m,a,b,c] h
abbrev XF(I:Nat->LP)(B:LP->DC):Prop:=∀(k:Nat) (e f g i j l m n o a b c d:V) (h:Hp),I k [e,f,g,i,j,l,m,n,o,a,b,c,d] h->B (Hg I k) e f g i j l m n o a b c d h
abbrev XB(B:DC)(J:LP):Prop:=∀{e f g i j k l m n a b c d:V} {h:Hp},B e f g i j k l m n a b c d h->J [e,f,g,i,j,k,l,m,n,a,b,c,d] h
theorem JV.Uz(I:Nat->LP)(B:LP->DC)(s:XF I B)(i:I m l h)(g:l.length=13)(n:ly (fD C fn tb k ks Q).c=true:=by kernel_rfl)(o:(fD C fn tb k ks Q).ks=[]:=by kernel_rfl)
  (e:∀(K:LP) (ρ:fK) (h:Hp),VA C fn.ntmps tb (j8 C fn.ntmps tb {fD C fn tb k ks Q with ks:=[kf is K]} false) ρ h=JJ 13 (B K) (is.map ρ) h:=by intros;kernel_rfl) (j:is.length=13:=by rfl):JV C fn tb k is ks Q l h:=
 JV.loop 13 I B n o e (λk l h g i=>match l,g,i with|[p,q,r,t,u,v,w,x,y,a,b,d,f],_,i=>s k p q r t u v w x y a b d f h i) j (j.trans g.symm) i
abbrev WE(B:Vz)(J:LP):Prop:=∀{f g i j k l m n o a b c d e:V} {h:Hp},B f g i j k l m n o a b c d e h->J [f,g,i,j,k,l,m,n,o,a,b,c,d,e] h
theorem JV.XW(B:Vz)(e:∀(ρ:fK)(h:Hp),VA C fn.ntmps tb (fD C fn tb k ks Q) ρ h=JJ 14 B (is.map ρ) h:=by intros;kernel_rfl)(a:is.length=14:=by rfl):WE B (JV C fn tb k is ks Q):=λH=>JV.mk 14 B e a H
abbrev XU(B:Xb)(J:LP):Prop:=∀{g i j k l m n o p a b c d e f:V} {h:Hp},B g i j k l m n o p a b c d e f h->J [g,i,j,k,l,m,n,o,p,a,b,c,d,e,f] h
abbrev XR(B:W6)(J:LP):Prop:=∀{j k l m n o p q r a b c d e f g i:V} {h:Hp},B j k l m n o p q r a b c d e f g i h->J [j,k,l,m,n,o,p,q,r,a,b,c,d,e,f,g,i] h
abbrev XH(I:Nat->LP)(B:LP->R0):Prop:=∀(k:Nat) (l m n o p q r s t a b c d e f g i j:V) (h:Hp),I k [l,m,n,o,p,q,r,s,t,a,b,c,d,e,f,g,i,j] h->B (Hg I k) l m n o p q r s t a b c d e f g i j h
abbrev Wn(B:R0)(J:LP):Prop:=∀{k l m n o p q r s a b c d e f g i j:V} {h:Hp},B k l m n o p q r s a b c d e f g i j h->J [k,l,m,n,o,p,q,r,s,a,b,c,d,e,f,g,i,j] h
theorem JV.XN(I:Nat->LP)(B:LP->R0)(s:XH I B)(i:I m l h)(g:l.length=18)(t:ly (fD C fn tb k ks Q).c=true:=by kernel_rfl)(u:(fD C fn tb k ks Q).ks=[]:=by kernel_rfl)
  (e:∀(K:LP) (ρ:fK) (h:Hp),VA C fn.ntmps tb (j8 C fn.ntmps tb {fD C fn tb k ks Q with ks:=[kf is K]} false) ρ h=JJ 18 (B K) (is.map ρ) h:=by intros;kernel_rfl) (r:is.length=18:=by rfl):JV C fn tb k is ks Q l h:=
 JV.loop 18 I B t u e (λk l h g i=>match l,g,i with|[v,w,x,y,z,A,D,E,F,a,b,d,f,j,n,o,p,q],_,i=>s k v w x y z A D E F a b d f j n o p q h i) r (r.trans g.symm) i
theorem JV.Xp(B:R0)(e:∀(ρ:fK)(h:Hp),VA C fn.ntmps tb (fD C fn tb k ks Q) ρ h=JJ 18 B (is.map ρ) h:=by intros;kernel_rfl)(a:is.length=18:=by rfl):Wn B (JV C fn tb k is ks Q):=λH=>JV.mk 18 B e a H
abbrev nZ:V:= .int .i64 0
abbrev nO:V:= .int .i64 1
abbrev nS:V:= .ed
abbrev bT:V:= .bool true
abbrev bF:V:= .bool false
abbrev zC(T:Nat)(l:List V):Option (O×(Nat->V)):=some (.cells T 1 true false l,λl=> .ptr l 0)
abbrev P3(I:Nat->HL)(B:(HL)->HL):Prop:=∀(k:Nat) (a b c:V) (h:Hp),I k a b c h->B (λa b c h=>∃k',k' < k/\I k' a b c h) a b c h
theorem WA.l3{a b d:Nat}{f i j:V}(I:Nat->HL)(B:(HL)->HL)(s:P3 I B)(g:I m f i j h)(l:ly (fD C fn tb k ks Q).c=true:=by kernel_rfl)(n:(fD C fn tb k ks Q).ks=[]:=by kernel_rfl)
  (e:∀(K:HL) (ρ:fK) (h:Hp),VA C fn.ntmps tb (j8 C fn.ntmps tb {fD C fn tb k ks Q with ks:=[λρ h=>K (ρ a) (ρ b) (ρ d) h]} false) ρ h=B K (ρ a) (ρ b) (ρ d) h:=by intros;kernel_rfl):∀ρ:fK,ρ a=f->ρ b=i->ρ d=j->WA C fn tb k ks Q ρ h:=by
 rintro ρ rfl rfl rfl;exact WA.loop (λk ρ h=>I k (ρ a) (ρ b) (ρ d) h) l n (λk ρ h hi=>LA.of (by grind) (s k (ρ a) (ρ b) (ρ d) h hi)) g
abbrev P4(I:Nat->Cl)(B:(Cl)->Cl):Prop:=∀(k:Nat) (a b c d:V) (h:Hp),I k a b c d h->B (λa b c d h=>∃k',k' < k/\I k' a b c d h) a b c d h
theorem WA.l4{a b d f:Nat}{i j l n:V}(I:Nat->Cl)(B:(Cl)->Cl)(s:P4 I B)(g:I m i j l n h)(o:ly (fD C fn tb k ks Q).c=true:=by kernel_rfl)(p:(fD C fn tb k ks Q).ks=[]:=by kernel_rfl)
  (e:∀(K:Cl) (ρ:fK) (h:Hp),VA C fn.ntmps tb (j8 C fn.ntmps tb {fD C fn tb k ks Q with ks:=[λρ h=>K (ρ a) (ρ b) (ρ d) (ρ f) h]} false) ρ h=B K (ρ a) (ρ b) (ρ d) (ρ f) h:=by intros;kernel_rfl):∀ρ:fK,ρ a=i->ρ b=j->ρ d=l->ρ f=n->WA C fn tb k ks Q ρ h:=by
 rintro ρ rfl rfl rfl rfl;exact WA.loop (λk ρ h=>I k (ρ a) (ρ b) (ρ d) (ρ f) h) o p (λk ρ h hi=>LA.of (by grind) (s k (ρ a) (ρ b) (ρ d) (ρ f) h hi)) g
abbrev P5(I:Nat->mC)(B:(mC)->mC):Prop:=∀(k:Nat) (a b c d e:V) (h:Hp),I k a b c d e h->B (λa b c d e h=>∃k',k' < k/\I k' a b c d e h) a b c d e h
theorem WA.l5{a b d f i5:Nat}{i j l n o:V}(I:Nat->mC)(B:(mC)->mC)(s:P5 I B)(g:I m i j l n o h)(p:ly (fD C fn tb k ks Q).c=true:=by kernel_rfl)(q:(fD C fn tb k ks Q).ks=[]:=by kernel_rfl)
  (e:∀(K:mC) (ρ:fK) (h:Hp),VA C fn.ntmps tb (j8 C fn.ntmps tb {fD C fn tb k ks Q with ks:=[λρ h=>K (ρ a) (ρ b) (ρ d) (ρ f) (ρ i5) h]} false) ρ h=B K (ρ a) (ρ b) (ρ d) (ρ f) (ρ i5) h:=by intros;kernel_rfl):∀ρ:fK,ρ a=i->ρ b=j->ρ d=l->ρ f=n->ρ i5=o->WA C fn tb k ks Q ρ h:=by
 rintro ρ rfl rfl rfl rfl rfl;exact WA.loop (λk ρ h=>I k (ρ a) (ρ b) (ρ d) (ρ f) (ρ i5) h) p q (λk ρ h hi=>LA.of (by grind) (s k (ρ a) (ρ b) (ρ d) (ρ f) (ρ i5) h hi)) g
abbrev P6(I:Nat->rW)(B:(rW)->rW):Prop:=∀(k:Nat) (a b c d e f:V) (h:Hp),I k a b c d e f h->B (λa b c d e f h=>∃k',k' < k/\I k' a b c d e f h) a b c d e f h
theorem WA.l6{a b d f i5 i6:Nat}{i j l n o p:V}(I:Nat->rW)(B:(rW)->rW)(s:P6 I B)(g:I m i j l n o p h)(q:ly (fD C fn tb k ks Q).c=true:=by kernel_rfl)(r:(fD C fn tb k ks Q).ks=[]:=by kernel_rfl)
  (e:∀(K:rW) (ρ:fK) (h:Hp),VA C fn.ntmps tb (j8 C fn.ntmps tb {fD C fn tb k ks Q with ks:=[λρ h=>K (ρ a) (ρ b) (ρ d) (ρ f) (ρ i5) (ρ i6) h]} false) ρ h=B K (ρ a) (ρ b) (ρ d) (ρ f) (ρ i5) (ρ i6) h:=by intros;kernel_rfl):∀ρ:fK,ρ a=i->ρ b=j->ρ d=l->ρ f=n->ρ i5=o->ρ i6=p->WA C fn tb k ks Q ρ h:=by
 rintro ρ rfl rfl rfl rfl rfl rfl;exact WA.loop (λk ρ h=>I k (ρ a) (ρ b) (ρ d) (ρ f) (ρ i5) (ρ i6) h) q r (λk ρ h hi=>LA.of (by grind) (s k (ρ a) (ρ b) (ρ d) (ρ f) (ρ i5) (ρ i6) h hi)) g
abbrev P7(I:Nat->zB)(B:(zB)->zB):Prop:=∀(k:Nat) (a b c d e f g:V) (h:Hp),I k a b c d e f g h->B (λa b c d e f g h=>∃k',k' < k/\I k' a b c d e f g h) a b c d e f g h
theorem WA.l7{a b d f i5 i6 i:Nat}{j l n o p q r:V}(I:Nat->zB)(B:(zB)->zB)(s:P7 I B)(g:I m j l n o p q r h)(t:ly (fD C fn tb k ks Q).c=true:=by kernel_rfl)(u:(fD C fn tb k ks Q).ks=[]:=by kernel_rfl)
  (e:∀(K:zB) (ρ:fK) (h:Hp),VA C fn.ntmps tb (j8 C fn.ntmps tb {fD C fn tb k ks Q with ks:=[λρ h=>K (ρ a) (ρ b) (ρ d) (ρ f) (ρ i5) (ρ i6) (ρ i) h]} false) ρ h=B K (ρ a) (ρ b) (ρ d) (ρ f) (ρ i5) (ρ i6) (ρ i) h:=by intros;kernel_rfl):∀ρ:fK,ρ a=j->ρ b=l->ρ d=n->ρ f=o->ρ i5=p->ρ i6=q->ρ i=r->WA C fn tb k ks Q ρ h:=by
 rintro ρ rfl rfl rfl rfl rfl rfl rfl;exact WA.loop (λk ρ h=>I k (ρ a) (ρ b) (ρ d) (ρ f) (ρ i5) (ρ i6) (ρ i) h) t u (λk ρ h hi=>LA.of (by grind) (s k (ρ a) (ρ b) (ρ d) (ρ f) (ρ i5) (ρ i6) (ρ i) h hi)) g
abbrev P8(I:Nat->Ft)(B:(Ft)->Ft):Prop:=∀(k:Nat) (a b c d e f g i:V) (h:Hp),I k a b c d e f g i h->B (λa b c d e f g i h=>∃k',k' < k/\I k' a b c d e f g i h) a b c d e f g i h
theorem WA.l8{a b d f i5 i6 i j:Nat}{l n o p q r t u:V}(I:Nat->Ft)(B:(Ft)->Ft)(s:P8 I B)(g:I m l n o p q r t u h)(v:ly (fD C fn tb k ks Q).c=true:=by kernel_rfl)(w:(fD C fn tb k ks Q).ks=[]:=by kernel_rfl)
  (e:∀(K:Ft) (ρ:fK) (h:Hp),VA C fn.ntmps tb (j8 C fn.ntmps tb {fD C fn tb k ks Q with ks:=[λρ h=>K (ρ a) (ρ b) (ρ d) (ρ f) (ρ i5) (ρ i6) (ρ i) (ρ j) h]} false) ρ h=B K (ρ a) (ρ b) (ρ d) (ρ f) (ρ i5) (ρ i6) (ρ i) (ρ j) h:=by intros;kernel_rfl):∀ρ:fK,ρ a=l->ρ b=n->ρ d=o->ρ f=p->ρ i5=q->ρ i6=r->ρ i=t->ρ j=u->WA C fn tb k ks Q ρ h:=by
 rintro ρ rfl rfl rfl rfl rfl rfl rfl rfl;exact WA.loop (λk ρ h=>I k (ρ a) (ρ b) (ρ d) (ρ f) (ρ i5) (ρ i6) (ρ i) (ρ j) h) v w (λk ρ h hi=>LA.of (by grind) (s k (ρ a) (ρ b) (ρ d) (ρ f) (ρ i5) (ρ i6) (ρ i) (ρ j) h hi)) g
abbrev P9(I:Nat->E6)(B:(E6)->E6):Prop:=∀(k:Nat) (a b c d e f g i j:V) (h:Hp),I k a b c d e f g i j h->B (λa b c d e f g i j h=>∃k',k' < k/\I k' a b c d e f g i j h) a b c d e f g i j h
theorem WA.l9{a b d f i5 i6 i j l:Nat}{n o p q r t u v w:V}(I:Nat->E6)(B:(E6)->E6)(s:P9 I B)(g:I m n o p q r t u v w h)(x:ly (fD C fn tb k ks Q).c=true:=by kernel_rfl)(y:(fD C fn tb k ks Q).ks=[]:=by kernel_rfl)
  (e:∀(K:E6) (ρ:fK) (h:Hp),VA C fn.ntmps tb (j8 C fn.ntmps tb {fD C fn tb k ks Q with ks:=[λρ h=>K (ρ a) (ρ b) (ρ d) (ρ f) (ρ i5) (ρ i6) (ρ i) (ρ j) (ρ l) h]} false) ρ h=B K (ρ a) (ρ b) (ρ d) (ρ f) (ρ i5) (ρ i6) (ρ i) (ρ j) (ρ l) h:=by intros;kernel_rfl):∀ρ:fK,ρ a=n->ρ b=o->ρ d=p->ρ f=q->ρ i5=r->ρ i6=t->ρ i=u->ρ j=v->ρ l=w->WA C fn tb k ks Q ρ h:=by
 rintro ρ rfl rfl rfl rfl rfl rfl rfl rfl rfl;exact WA.loop (λk ρ h=>I k (ρ a) (ρ b) (ρ d) (ρ f) (ρ i5) (ρ i6) (ρ i) (ρ j) (ρ l) h) x y (λk ρ h hi=>LA.of (by grind) (s k (ρ a) (ρ b) (ρ d) (ρ f) (ρ i5) (ρ i6) (ρ i) (ρ j) (ρ l) h hi)) g
abbrev VH(I:Nat->zo)(B:(zo)->zo):Prop:=∀(k:Nat) (b c d e f g i j l a:V) (h:Hp),I k b c d e f g i j l a h->B (λb c d e f g i j l a h=>∃k',k' < k/\I k' b c d e f g i j l a h) b c d e f g i j l a h
theorem WA.M5{b d f i i5 i6 j l n a:Nat}{p q r t u v w x y o:V}(I:Nat->zo)(B:(zo)->zo)(s:VH I B)(g:I m p q r t u v w x y o h)(z:ly (fD C fn tb k ks Q).c=true:=by kernel_rfl)(A:(fD C fn tb k ks Q).ks=[]:=by kernel_rfl)
  (e:∀(K:zo) (ρ:fK) (h:Hp),VA C fn.ntmps tb (j8 C fn.ntmps tb {fD C fn tb k ks Q with ks:=[λρ h=>K (ρ b) (ρ d) (ρ f) (ρ i) (ρ i5) (ρ i6) (ρ j) (ρ l) (ρ n) (ρ a) h]} false) ρ h=B K (ρ b) (ρ d) (ρ f) (ρ i) (ρ i5) (ρ i6) (ρ j) (ρ l) (ρ n) (ρ a) h:=by intros;kernel_rfl):∀ρ:fK,ρ b=p->ρ d=q->ρ f=r->ρ i=t->ρ i5=u->ρ i6=v->ρ j=w->ρ l=x->ρ n=y->ρ a=o->WA C fn tb k ks Q ρ h:=by
 rintro ρ rfl rfl rfl rfl rfl rfl rfl rfl rfl rfl;exact WA.loop (λk ρ h=>I k (ρ b) (ρ d) (ρ f) (ρ i) (ρ i5) (ρ i6) (ρ j) (ρ l) (ρ n) (ρ a) h) z A (λk ρ h hi=>LA.of (by grind) (s k (ρ b) (ρ d) (ρ f) (ρ i) (ρ i5) (ρ i6) (ρ j) (ρ l) (ρ n) (ρ a) h hi)) g
abbrev Tz(I:Nat->pV)(B:(pV)->pV):Prop:=∀(k:Nat) (c d e f g i j l m a b:V) (h:Hp),I k c d e f g i j l m a b h->B (λc d e f g i j l m a b h=>∃k',k' < k/\I k' c d e f g i j l m a b h) c d e f g i j l m a b h
theorem WA.FX{d f i j i5 i6 l n o a b:Nat}{r t u v w x y z A p q:V}(I:Nat->pV)(B:(pV)->pV)(s:Tz I B)(g:I m r t u v w x y z A p q h)(D:ly (fD C fn tb k ks Q).c=true:=by kernel_rfl)(E:(fD C fn tb k ks Q).ks=[]:=by kernel_rfl)
  (e:∀(K:pV) (ρ:fK) (h:Hp),VA C fn.ntmps tb (j8 C fn.ntmps tb {fD C fn tb k ks Q with ks:=[λρ h=>K (ρ d) (ρ f) (ρ i) (ρ j) (ρ i5) (ρ i6) (ρ l) (ρ n) (ρ o) (ρ a) (ρ b) h]} false) ρ h=B K (ρ d) (ρ f) (ρ i) (ρ j) (ρ i5) (ρ i6) (ρ l) (ρ n) (ρ o) (ρ a) (ρ b) h:=by intros;kernel_rfl):∀ρ:fK,ρ d=r->ρ f=t->ρ i=u->ρ j=v->ρ i5=w->ρ i6=x->ρ l=y->ρ n=z->ρ o=A->ρ a=p->ρ b=q->WA C fn tb k ks Q ρ h:=by
 rintro ρ rfl rfl rfl rfl rfl rfl rfl rfl rfl rfl rfl;exact WA.loop (λk ρ h=>I k (ρ d) (ρ f) (ρ i) (ρ j) (ρ i5) (ρ i6) (ρ l) (ρ n) (ρ o) (ρ a) (ρ b) h) D E (λk ρ h hi=>LA.of (by grind) (s k (ρ d) (ρ f) (ρ i) (ρ j) (ρ i5) (ρ i6) (ρ l) (ρ n) (ρ o) (ρ a) (ρ b) h hi)) g
abbrev XP(I:Nat->E5)(B:(E5)->E5):Prop:=∀(k:Nat) (d e f g i j l m n a b c:V) (h:Hp),I k d e f g i j l m n a b c h->B (λd e f g i j l m n a b c h=>∃k',k' < k/\I k' d e f g i j l m n a b c h) d e f g i j l m n a b c h
theorem WA.Sb{f i j l i5 i6 n o p a b d:Nat}{u v w x y z A D E q r t:V}(I:Nat->E5)(B:(E5)->E5)(s:XP I B)(g:I m u v w x y z A D E q r t h)(F:ly (fD C fn tb k ks Q).c=true:=by kernel_rfl)(G:(fD C fn tb k ks Q).ks=[]:=by kernel_rfl)
  (e:∀(K:E5) (ρ:fK) (h:Hp),VA C fn.ntmps tb (j8 C fn.ntmps tb {fD C fn tb k ks Q with ks:=[λρ h=>K (ρ f) (ρ i) (ρ j) (ρ l) (ρ i5) (ρ i6) (ρ n) (ρ o) (ρ p) (ρ a) (ρ b) (ρ d) h]} false) ρ h=B K (ρ f) (ρ i) (ρ j) (ρ l) (ρ i5) (ρ i6) (ρ n) (ρ o) (ρ p) (ρ a) (ρ b) (ρ d) h:=by intros;kernel_rfl):∀ρ:fK,ρ f=u->ρ i=v->ρ j=w->ρ l=x->ρ i5=y->ρ i6=z->ρ n=A->ρ o=D->ρ p=E->ρ a=q->ρ b=r->ρ d=t->WA C fn tb k ks Q ρ h:=by
 rintro ρ rfl rfl rfl rfl rfl rfl rfl rfl rfl rfl rfl rfl;exact WA.loop (λk ρ h=>I k (ρ f) (ρ i) (ρ j) (ρ l) (ρ i5) (ρ i6) (ρ n) (ρ o) (ρ p) (ρ a) (ρ b) (ρ d) h) F G (λk ρ h hi=>LA.of (by grind) (s k (ρ f) (ρ i) (ρ j) (ρ l) (ρ i5) (ρ i6) (ρ n) (ρ o) (ρ p) (ρ a) (ρ b) (ρ d) h hi)) g
abbrev XI(I:Nat->DC)(B:(DC)->DC):Prop:=∀(k:Nat) (e f g i j l m n o a b c d:V) (h:Hp),I k e f g i j l m n o a b c d h->B (λe f g i j l m n o a b c d h=>∃k',k' < k/\I k' e f g i j l m n o a b c d h) e f g i j l m n o a b c d h
theorem WA.Uz{i j l n i5 i6 o p q a b d f:Nat}{w x y z A D E F G r t u v:V}(I:Nat->DC)(B:(DC)->DC)(s:XI I B)(g:I m w x y z A D E F G r t u v h)(H:ly (fD C fn tb k ks Q).c=true:=by kernel_rfl)(J:(fD C fn tb k ks Q).ks=[]:=by kernel_rfl)
  (e:∀(K:DC) (ρ:fK) (h:Hp),VA C fn.ntmps tb (j8 C fn.ntmps tb {fD C fn tb k ks Q with ks:=[λρ h=>K (ρ i) (ρ j) (ρ l) (ρ n) (ρ i5) (ρ i6) (ρ o) (ρ p) (ρ q) (ρ a) (ρ b) (ρ d) (ρ f) h]} false) ρ h=B K (ρ i) (ρ j) (ρ l) (ρ n) (ρ i5) (ρ i6) (ρ o) (ρ p) (ρ q) (ρ a) (ρ b) (ρ d) (ρ f) h:=by intros;kernel_rfl):∀ρ:fK,ρ i=w->ρ j=x->ρ l=y->ρ n=z->ρ i5=A->ρ i6=D->ρ o=E->ρ p=F->ρ q=G->ρ a=r->ρ b=t->ρ d=u->ρ f=v->WA C fn tb k ks Q ρ h:=by
 rintro ρ rfl rfl rfl rfl rfl rfl rfl rfl rfl rfl rfl rfl rfl;exact WA.loop (λk ρ h=>I k (ρ i) (ρ j) (ρ l) (ρ n) (ρ i5) (ρ i6) (ρ o) (ρ p) (ρ q) (ρ a) (ρ b) (ρ d) (ρ f) h) H J (λk ρ h hi=>LA.of (by grind) (s k (ρ i) (ρ j) (ρ l) (ρ n) (ρ i5) (ρ i6) (ρ o) (ρ p) (ρ q) (ρ a) (ρ b) (ρ d) (ρ f) h hi)) g
end
