/- Parts. -/
import Derived.Test.YtcoaokdoecgcbaaGreatDoorM09
set_option maxHeartbeats 4000000
namespace Go.Proofs.YtcoaokdoecgcbaaGreatDoor.Hx
abbrev XQ:=X->gg->Hp->Prop
abbrev fo:=V->Hp->Prop
abbrev Xw:=V->V->Hp->Prop
abbrev MA:=V->V->V->Hp->Prop
abbrev Jn:=V->V->V->V->Hp->Prop
abbrev AE:=V->V->V->V->V->Hp->Prop
abbrev OF:=V->V->V->V->V->V->Hp->Prop
abbrev Fg:=V->V->V->V->V->V->V->Hp->Prop
abbrev MO:=V->V->V->V->V->V->V->V->Hp->Prop
abbrev QP9:=V->V->V->V->V->V->V->V->V->Hp->Prop
abbrev CL:=V->V->V->V->V->V->V->V->V->V->Hp->Prop
abbrev As:=V->V->V->V->V->V->V->V->V->V->V->Hp->Prop
abbrev zgP:=V->V->V->V->V->V->V->V->V->V->V->V->Hp->Prop
abbrev Kk:=V->V->V->V->V->V->V->V->V->V->V->V->V->Hp->Prop
abbrev OK:=V->V->V->V->V->V->V->V->V->V->V->V->V->V->Hp->Prop
abbrev zgt:=V->V->V->V->V->V->V->V->V->V->V->V->V->V->V->Hp->Prop
abbrev Zd:=V->V->V->V->V->V->V->V->V->V->V->V->V->V->V->V->Hp->Prop
abbrev zgA:=V->V->V->V->V->V->V->V->V->V->V->V->V->V->V->V->V->Hp->Prop
abbrev zbn:=V->V->V->V->V->V->V->V->V->V->V->V->V->V->V->V->V->V->Hp->Prop
def isVal(o:Oper):Bool:=match o.op with
 | .move x| .assign x=>Rf x
 | .makeFunc _ _ _=>true
 | .makeInterface _ x=>Rf x
 |_=>false
theorem Xf{o:Oper} (h:isVal o=true):cls o=0:=by
 grind[isVal,cls]
def opV(C:fj) (o:Oper) (K:V->gg->Hp->Prop):gg->Hp->Prop:=match isVal o with
 |true=>λρ h=>Option.rec (motive:=λ_=>Prop) False (λv=>K v ρ h) ((iA o).f (.fn ρ []) h)
 |false=>RQ C o K
theorem zc5(C:fj) (o:Oper) (K:V->gg->Hp->Prop):opV C o K=RQ C o K:=by
 unfold opV
 cases hv:isVal o with
 |false=>rfl
 | true=>
   unfold RQ;rw[Xf hv];rfl
def Vs(C:fj) (n:Nat) (all:List Oper) (o:Oper) (K:gg->Hp->Prop):gg->Hp->Prop:=match yv o with
 |some _=>λ_ _=>False
 | none=>match jY n all o with
   |none=>opV C o (pj n o K)
   |some g=>λρ h=>oP (g.f (.fn ρ [])) λb=>gdR C o b (pj n o K) ρ h
noncomputable section
inductive Gs where
 |last (o:Oper) (d:Nat)
 |op (o:Oper) (d:Nat) (a:Gs)
 |nest (w:Bool) (d:Nat) (sub:Gs) (o:Oper) (b:Nat) (a:Gs)
 |Fo (w:Bool) (d:Nat) (sub:Gs) (o:Oper) (b:Nat)
def Gs.dst:Gs->Nat
 | .last _ d=>d
 | .op _ _ r=>r.dst
 | .nest _ _ _ _ _ r=>r.dst
 | .Fo _ _ _ _ a=>a
def Gs.ops:Gs->List Oper
 | .last o _=>[o]
 | .op o _ r=>o::r.ops
 | .nest _ _ s o _ r=>s.ops++o::r.ops
 | .Fo _ _ s o _=>s.ops++[o]
def gA(w:Bool) (c:V) (x:Option V):Option V:=match w with
 |true=>iM c x
 |false=>mm c x
def Qq(b:Bool)(x:Option V):V:=Bool.rec (motive:=λ_=>V) V.undef (Option.rec (motive:=λ_=>V) V.undef (λv=>v) x) b
def PH(w:Bool)(v:V):Bool:=Option.rec (motive:=λ_=>Bool) false (λb=>b) (gW w v)
noncomputable def AQ(g:Gs):Bool->gg->Hp->gg:=Gs.rec (motive:=λ_=>Bool->gg->Hp->gg) (λo d b ρ h=>fc ρ d (Qq b ((iA o).f (.fn ρ []) h))) (λo d _ c b ρ h=>c b (fc ρ d (Qq b ((iA o).f (.fn ρ []) h))) h) (λw d _ o e _ a c b ρ h=>c b (fc (a (PH w (ρ d)) ρ h) e (Qq b ((iA o).f (.fn (a (PH w (ρ d)) ρ h) []) h))) h) (λw d _ o e a b ρ h=>fc (a (PH w (ρ d)) ρ h) e (Qq b ((iA o).f (.fn (a (PH w (ρ d)) ρ h) []) h))) g
noncomputable def gE(g:Gs):gg->Hp->Option V:=Gs.rec (motive:=λ_=>gg->Hp->Option V) (λo _ ρ h=>(iA o).f (.fn ρ []) h) (λo d _ b ρ h=>oB ((iA o).f (.fn ρ []) h) λv=>b (fc ρ d v) h) (λw d sub _ c _ a b ρ h=>oB (gA w (ρ d) (a ρ h)) λv=>b (fc (AQ sub (PH w (ρ d)) ρ h) c v) h) (λw d _ _ _ a ρ h=>gA w (ρ d) (a ρ h)) g
def Sv(x:Operand) (d:Nat):Bool:=match x with
 | .tmp i=>Nat.beq i d
 |_=>false
def zbW(x:Operand) (b:Bool):Bool:=match x with
 | .const v=>match mn 8 v with
   |some (.bool c)=>c == b
   |_=>false
 |_=>false
def TC(o:Oper) (w:Bool) (d x:Nat):Bool:=match o.op with
 | .pick c a b=>Sv c d&&(match w with
   |true=>Sv a x&&zbW b false
   |false=>Sv b x&&zbW a true)
 |_=>false
def dOk(n:Nat) (o:Oper) (d:Nat):Bool:=match o.dst with
 |some a=>Nat.beq a d&&Nat.blt d n
 |none=>false
def Y4(n:Nat) (all:List Oper) (o:Oper) (w:Bool) (d:Nat):Bool:=match o.guard with
 | some (j,w')=>(w' == w)&&(match all[j]? with
   |some a=>dOk n a d
   |none=>false)
 |none=>false
def QP(n:Nat)(all:List Oper)(av:List Nat)(w:Bool)(d:Nat)(o:Oper)(a:Nat):Bool:=Nat.beq (cls o) 0&&Y4 n all o w d&&dOk n o a&&av.all (λi=>!(Nat.beq i a))
def XN(n:Nat) (all:List Oper):List Nat->Bool->Nat->List Nat->Gs->Bool
 |av,w,d,_,.last o a=>QP n all av w d o a
 |av,w,d,ins,.op o a r=>QP n all av w d o a&&XN n all av w d (a::ins) r
 |av,w,d,ins,.nest w' a s o b r=>ins.any (λi=>Nat.beq i a)&&XN n all (a::av) w' a [] s&&QP n all av w d o b&&TC o w' a s.dst&&XN n all av w d (b::ins) r
 |av,w,d,ins, .Fo w' a s o b=>ins.any (λi=>Nat.beq i a)&&XN n all (a::av) w' a [] s&&QP n all av w d o b&&TC o w' a s.dst
def Ch(n:Nat) (all:List Oper) (h:Hp):List Oper->gg->gg->Prop
 |[],ρ,ρ'=>ρ' = ρ
 | o::os,ρ,ρ'=>cls o=0/\∃d v,o.dst=some d/\Nat.blt d n=true/\((jY n all o=none/\(iA o).f (.fn ρ []) h=some v)\/
   ∃g b,jY n all o=some g/\g.f (.fn ρ [])=some b/\gV b ((iA o).f (.fn ρ []) h)=some v)/\Ch n all h os (fc ρ d v) ρ'
theorem Ch.app{n:Nat} {all:List Oper} {h:Hp}:∀{os a:List Oper} {ρ e f:gg},Ch n all h os ρ e->Ch n all h a e f->Ch n all h (os++a) ρ f
 |[],_,_,_,_,b,c=>by cases b;exact c
 |_::_,_,_,_,_,⟨hc,d,v,b,c,g,i⟩,j=>⟨hc,d,v,b,c,g,i.app j⟩
theorem MK(ρ:gg)(d:Nat)(v:V):fc ρ d v d=v:=WJ ρ d v
theorem YA{n:Nat} {all:List Oper} {o:Oper} {w:Bool} {d:Nat} (a:Y4 n all o w d=true):∃g,jY n all o=some g/\∀ρ:gg,g.f (.fn ρ [])=gW w (ρ d):=by
 unfold Y4 at a;split at a
 ·rename_i j w' b;simp only[sJ,KC]at a;obtain⟨c,a⟩:=a;subst c;split at a
  ·rename_i h e;unfold dOk at a;split at a
   ·rename_i i hd;simp only[sJ]at a;obtain⟨e1,e2⟩:=a;have e1:=yi e1;subst e1;refine⟨_,by simp only[jY,b,e,hd,e2];rfl,λρ=>rfl⟩
   simp_all
  simp_all
 simp_all
theorem VP{n:Nat} {all:List Oper} {av:List Nat} {w:Bool} {d:Nat} {o:Oper} {a:Nat} (b:QP n all av w d o a=true) :
  cls o=0/\(∃g,jY n all o=some g/\∀ρ:gg,g.f (.fn ρ [])=gW w (ρ d))/\o.dst=some a/\Nat.blt a n=true/\∀i∈av,i≠a:=by
 unfold QP at b;simp only[sJ]at b;obtain⟨⟨⟨e,h⟩,c⟩,k⟩:=b;refine⟨yi e,YA h,?_⟩;unfold dOk at c;split at c
 ·rename_i j hd;simp only[sJ]at c
  grind[yi,PX,XV,absurd]
 simp_all
theorem Oi{x:Operand} {d:Nat} (h:Sv x d=true):x = .tmp d:=by
 unfold Sv at h
 grind[yi,absurd]
theorem Wb{x:Operand} {b:Bool} (a:zbW x b=true) (t:Tm) (h:Hp):(rM x).f t h=some (.bool b):=by
 unfold zbW at a;split at a
 ·rename_i v;split at a
  ·rename_i c hc;have e:c=b:=by simpa using a
   subst e;show(OI (.const v)).f t=_
   grind[OI]
  simp_all
 simp_all
theorem Wm{o:Oper} {w:Bool} {d x:Nat} (e:TC o w d x=true) {ρ:gg} {h:Hp} {c:Bool} (hc:ρ d = .bool c):(iA o).f (.fn ρ []) h=some (match w,c with
  |true,true=>ρ x
  |true,false=> .bool false
  |false,false=>ρ x
  |false,true=> .bool true)/\cls o=0:=by
 unfold TC at e;split at e
 ·rename_i c' a b i;simp only[sJ]at e;obtain⟨j,g⟩:=e;have e1:=Oi j;subst e1;refine⟨?_,by grind[cls]⟩;have e0:(rM (.tmp d)).f (.fn ρ []) h=some (.bool c):=by show some (ρ d)=_;rw[hc]
  unfold iA;rw[i];simp only[LR,e0,oB]
  cases w with
  | true=>
    simp only[sJ]at g;have e2:=Oi g.1;subst e2
    cases c with
    |true=>rfl
    |false=>grind[Wb]
  | false=>
    simp only[sJ]at g;have e2:=Oi g.1;subst e2
    cases c with
    |true=>grind[Wb]
    |false=>rfl
 simp_all
theorem Vr{w:Bool} {c:V} {x:Option V} {v:V} (a:gA w c x=some v):∃b,c = .bool b/\gW w c=some (b == w)/\((b=w/\x=some v)\/(b≠w/\v = .bool (!w))):=by
 unfold gA at a
 cases w with
 | true=>
   simp only[iM]at a;split at a
   ·cases a;simp_all
   ·simp_all
   ·cases a
 | false=>
   simp only[mm]at a;split at a
   ·cases a;simp_all
   ·simp_all
   ·cases a
theorem TN(ρ:gg){d i:Nat}(v:V)(h:i≠d):fc ρ d v i=ρ i:=zbk ρ v h
theorem Ch.one{n:Nat} {all:List Oper} {av:List Nat} {w:Bool} {d:Nat} {o:Oper} {a:Nat} (c:QP n all av w d o a=true) {ρ:gg} {h:Hp} {b:Bool} (k:gW w (ρ d)=some b) {v:V}
  (hv:gV b ((iA o).f (.fn ρ []) h)=some v):Ch n all h [o] ρ (fc ρ a v):=by
 obtain⟨e,⟨g,l,m⟩,i,j,p⟩:=VP c;exact⟨e,a,v,i,j,by grind,rfl⟩
theorem MB{b:Bool} {x:Option V} {v:V} (h:gV b x=some v):Qq b x=v:=by
 cases b with
 |true=>have h':x=some v:=h;subst h';rfl
 |false=>cases h;rfl
def SO(n:Nat) (all:List Oper) (av:List Nat) (os:List Oper) (b:Bool) (ρ a:gg) (h:Hp) (d:Nat) (x:V):Prop:=Ch n all h os ρ a/\a d=x/\(∀i∈av,a i=ρ i)/\(b=false->∀i,ρ i = .undef->a i = .undef)
theorem SO.one{n:Nat} {all:List Oper} {av:List Nat} {w:Bool} {d:Nat} {o:Oper} {a:Nat} (c:QP n all av w d o a=true) {ρ:gg} {h:Hp} {b:Bool} (g:gW w (ρ d)=some b) {v:V}
  (hv:gV b ((iA o).f (.fn ρ []) h)=some v):SO n all av [o] b ρ (fc ρ a v) h a v:=by
 obtain⟨_,_,_,_,j⟩:=VP c;refine⟨Ch.one c g hv,MK _ _ _,by grind[TN],λe i hi=>?_⟩;subst e;cases hv
 grind[MK,TN]
theorem SO.trans{n:Nat} {all:List Oper} {av:List Nat} {os a:List Oper} {b:Bool} {ρ g j:gg} {h:Hp} {d k:Nat} {x l:V} (f:SO n all av os b ρ g h d x) (c:SO n all av a b g j h k l):SO n all av (os++a) b ρ j h k l:=
 ⟨f.1.app c.1,c.2.1,λi hi=>(c.2.2.1 i hi).trans (f.2.2.1 i hi),λe i hi=>c.2.2.2 e i (f.2.2.2 e i hi)⟩
theorem Wz{n:Nat} {all:List Oper}:∀(g:Gs) {av:List Nat} {w:Bool} {d:Nat} {ins:List Nat},XN n all av w d ins g=true->d∈av->∀{ρ:gg} {h:Hp} {b:Bool},gW w (ρ d)=some b->
  (b=false->∀i∈ins,ρ i = .undef)->∀{x:V},gV b (gE g ρ h)=some x->SO n all av g.ops b ρ (AQ g b ρ h) h g.dst x:=by
 have nest:∀(s:Gs),(∀{av:List Nat} {w:Bool} {d:Nat} {ins:List Nat},XN n all av w d ins s=true->d∈av->∀{ρ:gg} {h:Hp} {b:Bool},gW w (ρ d)=some b->
    (b=false->∀i∈ins,ρ i = .undef)->∀{x:V},gV b (gE s ρ h)=some x->SO n all av s.ops b ρ (AQ s b ρ h) h s.dst x)->
   ∀{av:List Nat} {w w':Bool} {d k q:Nat} {ins:List Nat} {o:Oper},ins.any (λi=>Nat.beq i k)=true->XN n all (k::av) w' k [] s=true->QP n all av w d o q=true->TC o w' k s.dst=true->d∈av->
   ∀{ρ:gg} {h:Hp} {b:Bool},gW w (ρ d)=some b->(b=false->∀i∈ins,ρ i = .undef)->∀{v:V},gV b (gA w' (ρ k) (gE s ρ h))=some v->
   gV b ((iA o).f (.fn (AQ s (PH w' (ρ k)) ρ h) []) h)=some v/\SO n all av (s.ops++[o]) b ρ (fc (AQ s (PH w' (ρ k)) ρ h) q v) h q v:=by
  intro s D av w w' d k q ins o H hc R W hd ρ h b m hi v hv;obtain⟨i,X,I⟩:=List.any_eq_true.1 H;have e:=yi I;subst e
  cases b with
  | true=>
    obtain⟨c,e1,e2,S⟩:=Vr (show gA w' (ρ i) (gE s ρ h)=some v from hv);have J:PH w' (ρ i)=(c == w'):=by unfold PH;rw[e2]
    rw[J];obtain⟨y,Y⟩:∃y,gV (c == w') (gE s ρ h)=some y/\(c=w'->y=v):=by
      rcases S with⟨E,K⟩|⟨E,K⟩
      ·simp_all
      ·have:(c == w')=false:=by simp[E]
       rw[this];simp_all
    obtain⟨L,T,M,Z⟩:=D hc (RN ..) e2 (by simp_all) Y.1;have N:AQ s (c == w') ρ h i = .bool c:=by rw[M i (RN ..)];exact e1
    have O:=(Wm W (h:=h) N).1;have t:(iA o).f (.fn (AQ s (c == w') ρ h) []) h=some v:=by
      rw[O,T];rcases S with⟨E,K⟩|⟨E,K⟩
      ·grind
      ·grind
    refine⟨t,?_⟩;have a:=SO.one R (ρ:=AQ s (c == w') ρ h) (h:=h) (b:=true) (by simp_all) (v:=v) t
    refine⟨L.app a.1,a.2.1,λj F=>(a.2.2.1 j F).trans (by simp_all),by simp_all⟩
  | false=>
    have e1:ρ i = .undef:=by simp_all
    have e2:gW w' (ρ i)=some false:=by rw[e1];rfl
    have J:PH w' (ρ i)=false:=by unfold PH;rw[e2]
    rw[J];cases hv;obtain⟨L,T,M,Z⟩:=D hc (RN ..) e2 (by simp_all) (x:= .undef) rfl;refine⟨rfl,?_⟩;have a:=SO.one R (ρ:=AQ s false ρ h) (h:=h) (b:=false) (by rw[M d (Yd _ hd)];exact m) (v:= .undef) rfl;exact⟨L.app a.1,a.2.1,λj F=>(a.2.2.1 j F).trans (by simp_all),λe j F=>a.2.2.2 e j (by simp_all)⟩
 intro g
 induction g with
 | last o k=>
   intro av w d ins p hd ρ h b m hi x u;have l:gV b ((iA o).f (.fn ρ []) h)=some x:=u;show SO n all av [o] b ρ (fc ρ k (Qq b ((iA o).f (.fn ρ []) h))) h k x;rw[MB l]
   exact SO.one p m l
 | op o k r D=>
   intro av w d ins p hd ρ h b m hi x u;simp only[XN,sJ]at p;obtain⟨v,hv,l⟩:∃v,gV b ((iA o).f (.fn ρ []) h)=some v/\gV b (gE r (fc ρ k v) h)=some x:=by
     cases b with
     | true=>
       obtain⟨v,z,A⟩:=fk.1 (show oB ((iA o).f (.fn ρ []) h) _=some x from u)
       exact⟨v,z,A⟩
     |false=>simp_all
   have a:=SO.one p.1 m hv;show SO n all av ([o]++r.ops) b ρ (AQ r b (fc ρ k (Qq b ((iA o).f (.fn ρ []) h))) h) h r.dst x;rw[MB hv];refine a.trans (D p.2 hd (by rw[a.2.2.1 d hd];exact m) ?_ l);intro e i B;rcases wM.1 B with e'|e'
   ·simp_all[MK]
   ·exact a.2.2.2 e i (by simp_all)
 | nest w' k s o q r C D=>
   intro av w d ins p hd ρ h b m hi x u;simp only[XN,sJ]at p;obtain⟨⟨⟨⟨z,A⟩,P⟩,Q⟩,h5⟩:=p;obtain⟨v,hv,l⟩:∃v,gV b (gA w' (ρ k) (gE s ρ h))=some v/\gV b (gE r (fc (AQ s (PH w' (ρ k)) ρ h) q v) h)=some x:=by
     cases b with
     | true=>
       obtain⟨v,z,A⟩:=fk.1 (show oB (gA w' (ρ k) (gE s ρ h)) _=some x from u)
       exact⟨v,z,A⟩
     |false=>simp_all
   obtain⟨U,G⟩:=nest s C z A P Q hd m hi hv;show SO n all av (s.ops++([o]++r.ops)) b ρ (AQ r b (fc (AQ s (PH w' (ρ k)) ρ h) q (Qq b ((iA o).f (.fn (AQ s (PH w' (ρ k)) ρ h) []) h))) h) h r.dst x;rw[MB U,<-KB];refine G.trans (D h5 hd (by rw[G.2.2.1 d hd];exact m) ?_ l);intro e i B;rcases wM.1 B with e'|e'
   ·simp_all[MK]
   ·exact G.2.2.2 e i (by simp_all)
 | Fo w' k s o q C=>
   intro av w d ins p hd ρ h b m hi x u;simp only[XN,sJ]at p;obtain⟨⟨⟨z,A⟩,P⟩,Q⟩:=p;obtain⟨U,G⟩:=nest s C z A P Q hd m hi (show gV b (gA w' (ρ k) (gE s ρ h))=some x from u);show SO n all av (s.ops++[o]) b ρ (fc (AQ s (PH w' (ρ k)) ρ h) q (Qq b ((iA o).f (.fn (AQ s (PH w' (ρ k)) ρ h) []) h))) h q x
   grind[MB]
inductive UL where
 |op (o:Oper) (d:Nat)
 |nest (w:Bool) (d:Nat) (sub:Gs) (o:Oper) (a:Nat)
def UL.dst:UL->Nat
 | .op _ d=>d
 | .nest _ _ _ _ a=>a
def UL.ops:UL->List Oper
 | .op o _=>[o]
 | .nest _ _ s o _=>s.ops++[o]
def UL.one:UL->Gs
 | .op o d=> .last o d
 | .nest w d s o a=> .Fo w d s o a
def UL.cons(r:Gs):UL->Gs
 | .op o d=> .op o d r
 | .nest w d s o a=> .nest w d s o a r
def zgz(all:List Oper) (o:Oper):Option (Bool×Nat):=match o.guard with
 | some (j,w)=>match all[j]? with
   | some a=>match a.dst with
     |some d=>some (w,d)
     |none=>none
   |none=>none
 |none=>none
def QB(n : Nat) (all:List Oper) (gpV:Bool->Nat->List Nat->List Oper->Option (Gs×List Oper)) (w:Bool) (d:Nat) (ins:List Nat) (os:List Oper):Option (UL×List Oper):=match os with
  |[]=>none
  | o ::os'=>match Y4 n all o w d&&Nat.beq (cls o) 0,o.dst with
    |true,some d'=>some (.op o d',os')
    | _,_ => match zgz all o with
      |none=>none
      | some (w',d')=>match ins.any (λi=>Nat.beq i d')with
        |false=>none
        | true=>match gpV w' d' [] (o::os')with
          | some (s,p::os'')=>match Y4 n all p w d&&TC p w' d' s.dst,p.dst with
            |true,some dp=>some (.nest w' d' s p dp,os'')
            |_,_=>none
          |_=>none
noncomputable def gpV(n:Nat) (all:List Oper) (fuel:Nat):Bool->Nat->List Nat->List Oper->Option (Gs×List Oper):=
 Nat.rec (motive:=λ_=>Bool->Nat->List Nat->List Oper->Option (Gs×List Oper)) (λ_ _ _ _=>none) (λ_ a w d ins os=>match QB n all a w d ins os with
  |none=>none
  | some (it,os')=>match a w d (it.dst::ins) os' with
    |some (g,r)=>some (it.cons g,r)
    |none=>some (it.one,os')) fuel
theorem UM{n:Nat} {all:List Oper} {gpV:Bool->Nat->List Nat->List Oper->Option (Gs×List Oper)} (a:∀w d ins os g r,gpV w d ins os=some (g,r)->os=g.ops++r) {w:Bool} {d:Nat} {ins:List Nat} {os:List Oper} {it:UL} {r:List Oper}
  (h:QB n all gpV w d ins os=some (it,r)):os=it.ops++r:=by
 unfold QB at h;split at h
 ·cases h
 ·split at h
  ·cases h;rfl
  ·split at h
   ·cases h
   grind[UL.ops,KB]
theorem QJ{n:Nat} {all:List Oper}:∀(fuel:Nat) (w:Bool) (d:Nat) (ins:List Nat) (os:List Oper) (g:Gs) (r:List Oper),gpV n all fuel w d ins os=some (g,r)->os=g.ops++r
 |0,_,_,_,_,_,_,h=>by cases h
 | fuel+1,w,d,ins,os,g,r,h=>by
   have h':(match QB n all (gpV n all fuel) w d ins os with
     |none=>none
     | some (it,a)=>match gpV n all fuel w d (it.dst::ins) a with
       |some (g,r)=>some (it.cons g,r)
       |none=>some (it.one,a))=some (g,r):=h
   split at h'
   ·cases h'
   ·rename_i it a b
    have e1:=UM (λw d ins os g r c=>QJ fuel w d ins os g r c) b;split at h'
    ·rename_i e r' c
     cases h';have e2:=QJ fuel _ _ _ _ _ _ c;rw[e1,e2];cases it <;> simp[UL.ops,UL.cons,Gs.ops]
    ·cases h'
     rw[e1];cases it <;> simp[UL.ops,UL.one,Gs.ops]
noncomputable def Z2(n:Nat) (all:List Oper) (os:List Oper):Option (Bool×Nat×Gs×Nat):=match os with
 |[]=>none
 | o ::_ => match o.guard with
   |none=>none
   | some (j,w)=>match all[j]? with
     |none=>none
     | some a=>match a.guard,a.dst,Nat.beq (cls o) 0 with
       | none,some d,true=>match gpV n all 60 w d [] os with
         | some (g,p::_)=>match p.guard,p.dst with
           | none,some dp=>match TC p w d g.dst&&Nat.blt dp n&&XN n all [d] w d [] g with
             |true=>some (w,d,g,dp)
             |false=>none
           |_,_=>none
         |_=>none
       |_,_,_=>none
theorem zb0{n:Nat} {all os:List Oper} {w:Bool} {d:Nat} {g:Gs} {a:Nat} (h:Z2 n all os=some (w,d,g,a)):∃p r,os=g.ops++p::r/\p.guard=none/\p.dst=some a/\TC p w d g.dst=true/\Nat.blt a n=true/\XN n all [d] w d [] g=true:=by
 unfold Z2 at h;split at h
 ·cases h
 ·split at h
  ·cases h
  ·split at h
   ·cases h
   ·split at h
    ·split at h
     ·rename_i c;split at h
      ·rename_i e f;split at h
       ·rename_i b;cases h;simp only[sJ]at b
        grind[QJ]
       ·cases h
      ·cases h
     ·cases h
    ·cases h
theorem GZ{n:Nat} {o:Oper} {K a:gg->Hp->Prop} (b:∀ρ h,K ρ h->a ρ h) {v:V} {ρ:gg} {h:Hp} (c:pj n o K v ρ h):pj n o a v ρ h:=by
 grind[pj,Nat.blt]
theorem pS{α:Type}{x:Option α}{k k':α->Prop}(h:oP x k)(f:∀a,k a->k' a):oP x k':=by grind[oM]
theorem zaq{C:fj} {o:Oper} {K b:V->gg->Hp->Prop} (e:∀v ρ h,K v ρ h->b v ρ h) {ρ:gg} {h:Hp} (d:RQ C o K ρ h):RQ C o b ρ h:=by
 unfold RQ at d⊢;generalize cls o=c at d⊢;rcases c with _|_|c
 ·grind[pS]
 ·grind[pS]
 ·show TZ C o b ρ h;have a:TZ C o K ρ h:=d;unfold TZ at a⊢;cases hi:yu o
  all_goals rw[hi]at a
  ·grind[pS]
  ·exact pS a λx H=>H.mono (by simp_all)
theorem Y7{C:fj} {o:Oper} {b:Bool} {K d:V->gg->Hp->Prop} (e:∀v ρ h,K v ρ h->d v ρ h) {ρ:gg} {h:Hp} (a:gdR C o b K ρ h):gdR C o b d ρ h:=by
 unfold gdR at a⊢;generalize cls o=c at a⊢;rcases c with _|_|c
 ·grind[pS]
 ·grind[pS]
 ·simp only at a⊢;cases hi:yu o
  all_goals rw[hi]at a
  ·grind[pS]
  ·refine pS a λx H=>?_
   cases x with
   |none=>simp_all
   |some y=>exact cP.mono H (by simp_all)
theorem UP{C:fj} {n:Nat} {all:List Oper} {o:Oper} {K b:gg->Hp->Prop} (c:∀ρ h,K ρ h->b ρ h) {ρ:gg} {h:Hp} (a:zZ C n all o K ρ h):zZ C n all o b ρ h:=by
 unfold zZ at a⊢
 cases hd:yv o with
 |some q=>simp_all
 | none=>
   rw[hd]at a;simp only at a⊢
   cases hw:jY n all o with
   |none=>rw[hw]at a;grind[zaq,GZ]
   |some g=>grind[pS,Y7,GZ]
theorem Zp(C:fj) (n:Nat) (all:List Oper) (o:Oper) (K:gg->Hp->Prop):Vs C n all o K=zZ C n all o K:=by
 grind[Vs,zZ,zc5]
theorem K5{o:Oper} (h:cls o=0):yv o=none:=by
 grind[yv,cls]
theorem Ch.zu{C:fj} {n:Nat} {all:List Oper} {h:Hp} {K:gg->Hp->Prop} {a:List Oper}:∀{os:List Oper} {ρ b:gg},Ch n all h os ρ b->zu C n all K a b h->zu C n all K (os++a) ρ h
 |[],_,_,hc,hk=>by cases hc;exact hk
 | o::os,ρ,b,⟨h0,d,v,c,e,i,f⟩,hk=>by
   have g:=f.zu (C:=C) (K:=K) hk;have hd:pj n o (Hx.zu C n all K (os++a)) v ρ h:=by unfold pj;rw[c];simp only[e];exact g
   show zZ C n all o (Hx.zu C n all K (os++a)) ρ h
   grind[zZ,K5,RQ,ec,gdR]
noncomputable def Uo(C:fj) (n:Nat) (all:List Oper) (K:gg->Hp->Prop) (os:List Oper):Nat->gg->Hp->Prop:=
 List.rec (motive:=λ_=>Nat->gg->Hp->Prop) (λ_=>K) (λo os a b=>Nat.rec (motive:=λ_=>gg->Hp->Prop)
  (match Z2 n all (o::os)with
   |some (w,d,g,dp)=>λρ h=>oP (gA w (ρ d) (gE g ρ h)) λv=>a g.ops.length (fc (AQ g (PH w (ρ d)) ρ h) dp v) h
   |none=>Vs C n all o (a 0)) (λk _=>a k) b) os
theorem JL{C:fj} {n:Nat} {all:List Oper} {K:gg->Hp->Prop}:∀(os:List Oper) (e:Nat) {ρ:gg} {h:Hp},Uo C n all K os e ρ h->zu C n all K (os.drop e) ρ h
 |[],e,ρ,h,hk=>by rw[List.drop_nil];exact hk
 |o::os,e+1,ρ,h,hk=>JL os e hk
 | o ::os,0,ρ,h,hk=>by
   have a:(match Z2 n all (o::os)with
     |some (w,d,g,k)=>λ(ρ:gg) (h:Hp)=>oP (gA w (ρ d) (gE g ρ h)) λv=>Uo C n all K os g.ops.length (fc (AQ g (PH w (ρ d)) ρ h) k v) h
     |none=>Vs C n all o (Uo C n all K os 0):gg->Hp->Prop) ρ h:=hk
   show zu C n all K (o::os) ρ h
   cases hg:Z2 n all (o::os)with
   | some x=>
     obtain⟨w,d,g,k⟩:=x;rw[hg]at a;simp only at a;obtain⟨p,r,e1,e2,z,b,i,A⟩:=zb0 hg;obtain⟨v,B,q⟩:=kK.1 a;obtain⟨c,D,c2,s⟩:=Vr B;have E:PH w (ρ d)=(c == w):=by unfold PH;rw[c2]
     rw[E]at q;obtain⟨y,F⟩:∃y,gV (c == w) (gE g ρ h)=some y/\(c=w->y=v):=by
       rcases s with⟨b,i⟩|⟨b,i⟩
       ·simp_all
       ·have:(c == w)=false:=by simp[b]
        rw[this];simp_all
     obtain⟨G,H,I,M⟩:=Wz g A (RN ..) c2 (by simp_all) F.1;have l:AQ g (c == w) ρ h d = .bool c:=by rw[I d (RN ..)];exact D
     have j:=Wm b (h:=h) l;have t:(iA p).f (.fn (AQ g (c == w) ρ h) []) h=some v:=by
       rw[j.1,H];rcases s with⟨b,i⟩|⟨b,i⟩
       ·grind
       ·grind
     have m:Ch n all h [p] (AQ g (c == w) ρ h) (fc (AQ g (c == w) ρ h) k v):=⟨j.2,k,v,z,i,by grind[jY],rfl⟩
     have hlen:os.drop g.ops.length=r:=by
       have J:(o::os).drop (g.ops.length+1)=r:=by rw[e1,List.append_cons];exact by simp_all
       exact J
     have u:=JL os _ q;rw[hlen]at u;rw[e1,List.append_cons]
     exact(G.app m).zu u
   | none=>
     rw[hg]at a;simp only[Zp]at a;exact UP (λρ h L=>by have:=JL os 0 L;exact this) a
def BY(o:Oper):Bool:=match o.op with
 | .move x| .assign x| .nilCheck x| .fieldAddr _ x _| .field _ x _| .unOp _ _ x| .extract x _=>Rf x
 | .pick c a b=>Rf c&&Rf a&&Rf b
 | .binOp _ _ x y _=>Rf x&&Rf y
 | .indexAddr _ x i| .index _ x i=>Rf x&&Rf i
 | .build _ _| .makeFunc _ _ _=>true
 | .makeInterface _ x=>Rf x
 | .call c=>match c.callee,c.args.toList,c.argTypes.toList with
   | .builtin .len,[x],ty::_=>match P0.underlying ty with
     |some (.slice _)=>Rf x
     |_=>false
   |_,_,_=>false
 |_=>false
theorem ZS{o:Oper} (a:BY o=true) (t:Tm) (h h':Hp):(iA o).f t h=(iA o).f t h':=by
 unfold BY at a;unfold iA;split at a
 all_goals rename_i b
 all_goals try rw[b]
 all_goals try simp only[sJ]at a
 ·grind[ko]
 ·grind[ko]
 ·grind[zF,ko]
 ·grind[qA,ko]
 ·grind[IU,ko]
 ·grind[ko]
 ·grind[EX,ko]
 ·grind[LR,ko]
 ·grind[ko]
 ·grind[qp,ko]
 ·grind[Jc,ko]
 ·simp only[IS];grind
 ·split <;> first|rfl|simp_all
 ·dsimp only;split <;> first|rfl|grind[ko]
 ·grind[hlen,ko,absurd]
 simp_all
abbrev RE:=Bool×Rec×Bool×Bool
def Ig(k:Nat) (h:Hp) (rs:List RE) (K:Prop):Prop:=List.rec (motive:=λ_=>Prop) K (λr _ a=>Bool.rec (motive:=λ_=>Prop) (Option.rec (motive:=λ_=>Prop) (Bool.rec (motive:=λ_=>Prop) a (Bool.rec (motive:=λ_=>Prop) True (Ej h r.2.1) r.1/\a) r.2.2.2) (λ_=>Bool.rec (motive:=λ_=>Prop) True (Ej h r.2.1) r.1/\a) r.2.1.made) a (Nat.blt r.2.1.last k)) rs
def JK(rs:List RE):List RE:=rs.map λr=>(r.1,r.2.1,r.2.2.1,!r.2.2.1)
def sH(rs:List RE):List (Bool×Rec):=rs.map λr=>(r.1,r.2.1)
def itV(C:fj) (n:Nat) (all:List Oper) (ws:List It) (a:It) (d:Nat->gg->Hp->List RE->Prop) (k:Nat):gg->Hp->List RE->Prop:=match cls a.o with
  | 0 =>match jY n all a.o with
    | none=>match isVal a.o with
      |true=>λρ h rs=>Option.rec (motive:=λ_=>Prop) False (λv=>pj n a.o (λc h=>d k c h ((true,{it:=a,t:= .fn ρ [],v,made:=none,last:=late ws a},BY a.o,false)::rs)) v ρ h) ((iA a.o).f (.fn ρ []) h)
      |false=>λρ h rs=>oP ((iA a.o).f (.fn ρ []) h) λv=>pj n a.o (λc h=>d k c h ((true,{it:=a,t:= .fn ρ [],v,made:=none,last:=late ws a},BY a.o,false)::rs)) v ρ h
    |some g=>λρ h rs=>oP (g.f (.fn ρ [])) λb=>oP (gV b ((iA a.o).f (.fn ρ []) h)) λv=>
       pj n a.o (λc h=>d k c h ((b,{it:=a,t:= .fn ρ [],v,made:=none,last:=late ws a},BY a.o,false)::rs)) v ρ h
  | 1=>match jY n all a.o with
    |none=>λρ h rs=>oP ((p9 a.o).f (.fn ρ [])) λr=>pj n a.o (λc h'=>d k c h' ((true,{it:=a,t:= .fn ρ [],v:=r.2 h.next,made:=some (h.next,r.1),last:=late ws a},false,false)::JK rs)) (r.2 h.next) ρ (h.new r.1)
    |some _=>λ_ _ _=>False
  | _ =>match jY n all a.o with
    |none=>λρ h rs=>Ig k h rs (TZ C a.o (λv ρ h'=>h.next<=h'.next/\pj n a.o (λρ h=>d (Nat.succ k) ρ h (JK rs)) v ρ h') ρ h)
    | some g=>match yu a.o with
      |true=>λρ h rs=>Ig k h rs (oP (g.f (.fn ρ [])) λb=>oP (gC b (oB ((jh a.o).f (.fn ρ []) h) zS)) λx=>AS C x h λv h'=>h.next<=h'.next/\pj n a.o (λρ h=>d (Nat.succ k) ρ h (JK rs)) v ρ h')
      |false=>λ_ _ _=>False
def IV(l:List It):Bool:=l.all λa=>Nat.beq (cls a.o) 0
def Ur(C:fj) (n:Nat) (all:List Oper) (ws:List It) (K:gg->Hp->Prop) (l:List It):Nat->gg->Hp->List RE->Prop:=
 List.rec (motive:=λ_=>Nat->gg->Hp->List RE->Prop) (λk ρ h rs=>Ig k h rs (K ρ h)) (λa l b k=>match IV (a::l)with
  |true=>λρ h rs=>Uo C n all (λρ h=>Ig k h rs (K ρ h)) ((a::l).map (·.o)) 0 ρ h
  |false=>itV C n all ws a b k) l
def Wv(h:Hp)(rs:List RE):Prop:=∀r∈rs,r.1=true->r.2.1.made=none->(r.2.2.1=true->∀h',Ej h' r.2.1)/\(r.2.2.2=false->Ej h r.2.1)
theorem Wv.vJ{h:Hp} {rs:List RE} (hi:Wv h rs) (h':Hp):Wv h' (JK rs):=by
 intro r b c d;obtain⟨r',a,e⟩:=Q1.1 b;subst e;obtain⟨f,_⟩:=hi r' a c d
 simp_all
theorem M6(rs:List RE):sH (JK rs)=sH rs:=by
 simp[sH,JK]
theorem xZ{k:Nat} {h:Hp}:∀{rs:List RE} {K d:Prop},Wv h rs->(K->d)->Ig k h rs K->vW k h (sH rs) d
 |[],_,_,_,hk,hh=>hk hh
 | (b,r,f,st)::rs,K,d,hi,hk,hh=>by
   have c:Wv h rs:=λr c=>hi r (Yd _ c);have h0:=hi _ (RN ..)
   have a:Bool.rec (motive:=λ_=>Prop)
     (Option.rec (motive:=λ_=>Prop) (Bool.rec (motive:=λ_=>Prop) (Ig k h rs K) (Bool.rec (motive:=λ_=>Prop) True (Ej h r) b/\Ig k h rs K) st)
     (λ_=>Bool.rec (motive:=λ_=>Prop) True (Ej h r) b/\Ig k h rs K) r.made) (Ig k h rs K) (Nat.blt r.last k):=hh
   show Bool.rec (motive:=λ_=>Prop) (Bool.rec (motive:=λ_=>Prop) True (Ej h r) b/\vW k h (sH rs) d) (vW k h (sH rs) d) (Nat.blt r.last k)
   cases hb:Nat.blt r.last k with
   |true=>rw[hb]at a;exact xZ c hk a
   | false=>
     rw[hb]at a
     cases hm:r.made with
     |some x=>rw[hm]at a;exact⟨a.1,xZ c hk a.2⟩
     | none=>
       rw[hm]at a
       cases st with
       |true=>exact⟨a.1,xZ c hk a.2⟩
       | false=>
         refine⟨?_,xZ c hk a⟩;cases b <;> grind
theorem Yf{C:fj} {o:Oper} {K b:V->gg->Hp->Prop} (c:∀v ρ h,K v ρ h->b v ρ h) {ρ:gg} {h:Hp} (a:TZ C o K ρ h):TZ C o b ρ h:=by
 unfold TZ at a⊢;cases hi:yu o
 all_goals rw[hi]at a
 ·grind[pS]
 ·exact pS a λx H=>H.mono (by simp_all)
theorem Qm{k:Nat} {h:Hp} {K:Prop} {rs:List (Bool×Rec)}:∀{new:List (Bool×Rec)},(∀r∈new,r.1=true->Ej h r.2)->vW k h rs K->vW k h (new++rs) K
 |[],_,hh=>hh
 | r ::new,hn,hh=>by
   have a:=Qm (new:=new) (by simp_all) hh;show vW k h (r::(new++rs)) K;simp only[vW]
   cases hb:Nat.blt r.2.last k with
   |true=>exact a
   | false=>
     refine⟨?_,a⟩;cases hb:r.1 <;> grind
theorem NU{C:fj} {n:Nat} {all:List Oper} {ws:List It} {K:gg->Hp->Prop} {k:Nat} {rs:List (Bool×Rec)}:∀{l:List It} {ρ:gg} {h:Hp} {new:List (Bool×Rec)},IV l=true->(∀r∈new,r.1=true->Ej h r.2)->
  zu C n all (λρ h=>vW k h rs (K ρ h)) (l.map (·.o)) ρ h->IC C n all ws K l k ρ h (new++rs)
 |[],_,_,_,_,hn,hk=>Qm hn hk
 | a ::l,ρ,h,new,j,hn,hk=>by
   simp only[IV,wBh,sJ]at j;obtain⟨hc,j⟩:=j;have hc:=yi hc;have c:zZ C n all a.o (zu C n all (λρ h=>vW k h rs (K ρ h)) (l.map (·.o))) ρ h:=hk;show itR C n all ws a (IC C n all ws K l) k ρ h (new++rs)
   have m:∀{b:Bool} {v:V},(b=true->(iA a.o).f (.fn ρ []) h=some v)->pj n a.o (zu C n all (λρ h=>vW k h rs (K ρ h)) (l.map (·.o))) v ρ h->
       pj n a.o (λw h=>IC C n all ws K l k w h ((b,{it:=a,t:= .fn ρ [],v,made:=none,last:=late ws a})::(new++rs))) v ρ h:=by
     intro b v p hd;have i:∀r∈(b,({it:=a,t:= .fn ρ [],v,made:=none,last:=late ws a}:Rec))::new,r.1=true->Ej h r.2:=by
       intro r x q;rcases wM.1 x with e|e
       ·subst e;exact p q
       ·grind
     unfold pj at hd⊢
     cases ho:a.o.dst with
     |none=>rw[ho]at hd;exact NU j i hd
     | some d=>
       rw[ho]at hd;simp only at hd⊢
       cases p:Nat.blt d n with
       |true=>rw[p]at hd;exact NU j i hd
       |false=>simp_all
   unfold zZ at c;rw[K5 hc]at c;simp only at c;unfold itR;rw[hc];simp only
   cases hw:jY n all a.o with
   | none=>
     rw[hw]at c;simp only[RQ,hc]at c;obtain⟨v,s,u⟩:=kK.1 c
     simp_all
   | some g=>
     rw[hw]at c;simp only[gdR,hc]at c;obtain⟨b,h0,c⟩:=kK.1 c;obtain⟨v,s,u⟩:=kK.1 c;exact ec h0 (ec s (m (λe=>by simp_all) u))
theorem KS{C:fj} {n:Nat} {all:List Oper} {K e:gg->Hp->Prop} {h:Hp} (f:∀ρ,K ρ h->e ρ h):∀{l:List It} {ρ:gg},IV l=true->zu C n all K (l.map (·.o)) ρ h->zu C n all e (l.map (·.o)) ρ h
 |[],_,_,hk=>f _ hk
 | a ::l,ρ,c,hk=>by
   simp only[IV,wBh,sJ]at c;obtain⟨hc,c⟩:=c;have hc:=yi hc;have b:zZ C n all a.o (zu C n all K (l.map (·.o))) ρ h:=hk;show zZ C n all a.o (zu C n all e (l.map (·.o))) ρ h;have i:∀{v:V},pj n a.o (zu C n all K (l.map (·.o))) v ρ h->pj n a.o (zu C n all e (l.map (·.o))) v ρ h:=by
     intro v hd;unfold pj at hd⊢
     cases ho:a.o.dst with
     |none=>rw[ho]at hd;exact KS f c hd
     | some d=>
       rw[ho]at hd;simp only at hd⊢
       cases hb:Nat.blt d n with
       |true=>rw[hb]at hd;exact KS f c hd
       |false=>simp_all
   unfold zZ at b⊢;rw[K5 hc]at b⊢;simp only at b⊢
   cases hw:jY n all a.o with
   | none=>
     grind[RQ,kK,ec]
   | some g=>
     rw[hw]at b
     grind[gdR,kK,ec]
theorem MT{C:fj} {n:Nat} {all:List Oper} {ws:List It} {K:gg->Hp->Prop}:∀(l:List It) {k:Nat} {ρ:gg} {h:Hp} {rs:List RE},Wv h rs->Ur C n all ws K l k ρ h rs->IC C n all ws K l k ρ h (sH rs)
 |[],_,_,_,_,hi,hk=>xZ hi (λx=>x) hk
 | a ::l,k,ρ,h,rs,hi,hk=>by
   have i:(match IV (a::l)with
     |true=>λ(ρ:gg) (h:Hp) (rs:List RE)=>Uo C n all (λρ h=>Ig k h rs (K ρ h)) ((a::l).map (·.o)) 0 ρ h
     |false=>itV C n all ws a (Ur C n all ws K l) k:gg->Hp->List RE->Prop) ρ h rs:=hk
   cases hp:IV (a::l)with
   | true=>
     rw[hp]at i;have z:=JL _ 0 i
     exact NU (new:=[]) hp (by simp_all) (KS (λρ m=>xZ hi (λx=>x) m) hp z)
   | false =>
     rw[hp]at i;simp only at i;show itR C n all ws a (IC C n all ws K l) k ρ h (sH rs)
     have pure:∀{b:Bool} {v:V},gV b ((iA a.o).f (.fn ρ []) h)=some v->∀{j:gg},Ur C n all ws K l k j h ((b,{it:=a,t:= .fn ρ [],v,made:=none,last:=late ws a},BY a.o,false)::rs)->
         IC C n all ws K l k j h ((b,{it:=a,t:= .fn ρ [],v,made:=none,last:=late ws a})::sH rs):=by
       intro b v hv j m;refine MT l (rs:=(b,{it:=a,t:= .fn ρ [],v,made:=none,last:=late ws a},BY a.o,false)::rs) ?_ m;intro r q p s;rcases wM.1 q with e|e
       ·subst e
        have u:b=true:=p;subst u;refine⟨λA h'=>?_,λ_=>hv⟩;show(iA a.o).f (.fn ρ []) h' = some v;rw[ZS A _ h' h];exact hv
       ·exact hi r e p s
     have dst:∀{b:Bool} {v:V},gV b ((iA a.o).f (.fn ρ []) h)=some v->pj n a.o (λj h=>Ur C n all ws K l k j h ((b,{it:=a,t:= .fn ρ [],v,made:=none,last:=late ws a},BY a.o,false)::rs)) v ρ h->
         pj n a.o (λj h=>IC C n all ws K l k j h ((b,{it:=a,t:= .fn ρ [],v,made:=none,last:=late ws a})::sH rs)) v ρ h:=by
       intro b v hv hd;unfold pj at hd⊢
       cases ho:a.o.dst with
       |none=>grind
       | some d=>
         grind
     unfold itV at i;unfold itR;generalize hc:cls a.o=c at i;rcases c with _|_|c
     ·simp only at i⊢
      cases hw:jY n all a.o with
      | none=>
        rw[hw]at i;simp only at i⊢;have w:oP ((iA a.o).f (.fn ρ []) h) λv=>pj n a.o (λj h=>Ur C n all ws K l k j h ((true,{it:=a,t:= .fn ρ [],v,made:=none,last:=late ws a},BY a.o,false)::rs)) v ρ h:=by
          cases hv:isVal a.o <;> (rw[hv]at i;exact i)
        obtain⟨v,z,D⟩:=kK.1 w
        simp_all
      | some g=>
        grind[kK,ec]
     ·simp only at i⊢
      cases hw:jY n all a.o with
      | none=>
        rw[hw]at i;refine pS i λr H=>GZ (λj h' m=>?_) H;have:=MT l (rs:=(true,{it:=a,t:= .fn ρ [],v:=r.2 h.next,made:=some (h.next,r.1),last:=late ws a},false,false)::JK rs) (by
          intro r' q p s;rcases wM.1 q with e|e
          ·simp_all
          ·exact hi.vJ h' r' e p s) m
        grind[IC,sH,JK,M6]
      |some g=>simp_all
     ·simp only at i⊢
      have B:∀{v:V} {ρ:gg} {h':Hp},pj n a.o (λρ h=>Ur C n all ws K l (Nat.succ k) ρ h (JK rs)) v ρ h'->pj n a.o (λρ h=>IC C n all ws K l (Nat.succ k) ρ h (sH rs)) v ρ h':=λH=>
        GZ (λρ h m=>by have:=MT l (hi.vJ h) m;grind[M6]) H
      cases hw:jY n all a.o with
      | none=>
        grind[xZ,Yf]
      | some g=>
        rw[hw]at i;simp only at i⊢
        cases hic:yu a.o with
        |false=>simp_all
        | true=>
          rw[hic]at i;refine xZ hi (λH=>pS H λb H=>pS H λx H=>?_) i
          cases x with
          |none=>simp_all
          |some y=>exact cP.mono H (by simp_all)
def Yy(C:fj) (n:Nat) (all:List Oper) (K:gg->Hp->Prop) (ρ:gg) (h:Hp):Prop:=Ur C n all (gY (items all 0 [])) K (order (items all 0 []) (gY (items all 0 [])) (gY (items all 0 [])) 0) 0 ρ h []
theorem Yi{C:fj}{n:Nat}{all:List Oper}{K:gg->Hp->Prop}{ρ:gg}{h:Hp}(a:Yy C n all K ρ h):VG C n all K ρ h:=MT (rs:=[]) _ (by intro r b;cases b) a
end
noncomputable def Nd(tb:List (Nat×List Nat)) (k:Nat):Option (List Nat):=List.rec (motive:=λ_=>Option (List Nat)) none (λx _ a=>Bool.rec (motive:=λ_=>Option (List Nat)) a (some x.2) (Nat.beq x.1 k)) tb
noncomputable def jV(C:fj) (n:Nat) (live:List Nat) (c:Code) (s:XQ) (ρ:gg) (h:Hp):Prop:=∀a:gg,List.rec (motive:=λ_=>Prop) (Wp C n c s a h) (λi _ b=>a i=ρ i->b) live
theorem zaC{C:fj} {n:Nat} {live:List Nat} {c:Code} {s:XQ} {ρ:gg} {h:Hp} (a:jV C n live c s ρ h):Wp C n c s ρ h:=by
 have:=a ρ;clear a
 induction live <;> grind
noncomputable def SW(C:fj) (n:Nat) (tb:List (Nat×List Nat)) (c:Code):Nat->Nat->XQ->XQ->gg->Hp->Prop:=
 Code.rec (motive:=λ_=>Nat->Nat->XQ->XQ->gg->Hp->Prop)
  (λ_ _ v _=>v .normal)
  (fun _ ops d _ _ v _=>match d with
   |false=>Uo C n ops.toList (λρ h=>v .normal ρ h) ops.toList 0
   | true=>match yf ops.toList with
     |true=>Yy C n ops.toList (λρ h=>v .normal ρ h)
     |false=>λ_ _=>False)
  (λ_ b a g p e v s=>a p (Nat.mul 2 e) (andThen (Option.rec (motive:=λ_=>gg->Hp->Prop) (g (Nat.add p e) (Nat.mul 2 e) v s) (λlive=>jV C n live b s) (Nd tb (Nat.mul 2 (Nat.add (Nat.add p e) (Nat.mul 2 e))))) v) (andThen (Wp C n b s) s))
  (λc _ _ a g p e v s ρ h=>Option.rec (motive:=λ_=>Prop) False (λx=>bP x (a p (Nat.mul 2 e) v s ρ h) (g (Nat.add p e) (Nat.mul 2 e) v s ρ h)) ((rM c).f (.fn ρ []) h))
  (λid _ i p e v s=>i p (Nat.mul 2 e) (oI id v) (oI id s))
  (λc _ p e _ s=>Option.rec (motive:=λ_=>gg->Hp->Prop) (λ_ _=>False) (λlive=>jV C n live (.loop c) s) (Nd tb (Nat.succ (Nat.mul 2 (Nat.add p e)))))
  (λ_ _ _ _ _ _ _ _ _ _ _ _=>False)
  (λid _ _ v _=>v (.exit id))
  (λ_ _ _ _ _ _ _ _=>False)
  (λ_ _ _ _ _ _ _=>False)
  (λ_ _ _ _ _ _ _=>False)
  (λ_ _ v _=>v .ret)
  (λ_ _ _ _ _ _ _=>False) c
theorem Bn{k k':gg->Hp->Prop} {v s:XQ} (a:∀ρ h,k ρ h->k' ρ h) (hq:∀x ρ h,v x ρ h->s x ρ h):∀x ρ h,andThen k v x ρ h->andThen k' s x ρ h
 | .normal,_,_,hh=>a _ _ hh
 | .exit _,_,_,hh=>hq _ _ _ hh
 | .ret,_,_,hh=>hq _ _ _ hh
theorem Ns{id:Nat} {v s:XQ} (hq:∀x ρ h,v x ρ h->s x ρ h):∀x ρ h,oI id v x ρ h->oI id s x ρ h
 | .normal,_,_,hh=>hq _ _ _ hh
 | .ret,_,_,hh=>hq _ _ _ hh
 | .exit i,ρ,h,hh=>by
   simp only[oI]at hh⊢;cases hb:Nat.beq i id <;> simp_all
theorem uE{C:fj} {n:Nat} {tb:List (Nat×List Nat)}:∀(c:Code) {p e:Nat} {v s:XQ} {ρ:gg} {h:Hp},(∀x ρ h,v x ρ h->s x ρ h)->SW C n tb c p e v s ρ h->Wp C n c s ρ h
 | .skip,_,_,_,_,_,_,hq,hk=> .skip (hq _ _ _ hk)
 | .region _ ops false,_,_,v,_,ρ,h,hq,hk=>by
   have d:Uo C n ops.toList (λρ h=>v .normal ρ h) ops.toList 0 ρ h:=hk
   exact(Wp.region (JL _ 0 d)).mono hq
 | .region _ ops true,_,_,v,_,ρ,h,hq,hk=>by
   have d:(match yf ops.toList with
       |true=>Yy C n ops.toList (λρ h=>v .normal ρ h)
       |false=>λ_ _=>False) ρ h:=hk
   cases hd:yf ops.toList with
   |true=>rw[hd]at d;exact(Wp.draw hd (Yi d)).mono hq
   |false=>simp_all
 | .seq a b,p,e,v,s,ρ,h,hq,hk=>by
   refine .seq (uE a (Bn ?_ hq) hk);intro ρ h g
   cases hf:Nd tb (Nat.mul 2 (Nat.add (Nat.add p e) (Nat.mul 2 e)))with
   |none=>rw[hf]at g;exact uE b hq g
   |some live=>rw[hf]at g;exact zaC g
 | .cond c a b,p,e,v,s,ρ,h,hq,hk=>by
   have d:oP ((rM c).f (.fn ρ []) h) (λx=>bP x (SW C n tb a p (Nat.mul 2 e) v s ρ h) (SW C n tb b (Nat.add p e) (Nat.mul 2 e) v s ρ h)):=hk;obtain⟨x,hv,d⟩:=kK.1 d
   exact .cond (ec hv (bM d (uE a hq) (uE b hq)))
 | .block id c,_,_,_,_,_,_,hq,hk=> .block (uE c (Ns hq) hk)
 | .loop c,p,e,v,s,ρ,h,hq,hk=>by
   have d:(Option.rec (motive:=λ_=>gg->Hp->Prop) (λ_ _=>False) (λlive=>jV C n live (.loop c) s) (Nd tb (Nat.succ (Nat.mul 2 (Nat.add p e)))):gg->Hp->Prop) ρ h:=hk
   cases hf:Nd tb (Nat.succ (Nat.mul 2 (Nat.add p e)))with
   |none=>simp_all
   |some live=>rw[hf]at d;grind[zaC]
 | .exit id,_,_,_,_,_,_,hq,hk=> .exit (hq _ _ _ hk)
 | .ret,_,_,_,_,_,_,hq,hk=> .ret (hq _ _ _ hk)
 | .rangeFunc ..,_,_,_,_,_,_,_,hk=>hk.elim
 | .scope _,_,_,_,_,_,_,_,hk=>hk.elim
 | .label _,_,_,_,_,_,_,_,hk=>hk.elim
 | .goto _,_,_,_,_,_,_,_,hk=>hk.elim
 | .refuse _,_,_,_,_,_,_,_,hk=>hk.elim
structure Xn where
 c:Code
 v:XQ
 s:XQ
 p:Nat
 e:Nat
 ks:List (gg->Hp->Prop)
def zcP(l:List (gg->Hp->Prop)):gg->Hp->Prop:=match l with
 |k::_=>k
 |[]=>λ_ _=>False
noncomputable def lj(C:fj) (n:Nat) (tb:List (Nat×List Nat)) (a:Xn) (b:Bool):Xn:=match a.c,b with
 | .seq x y,false=>{c:=x,v:=andThen (Option.rec (motive:=λ_=>gg->Hp->Prop) (SW C n tb y (Nat.add a.p a.e) (Nat.mul 2 a.e) a.v a.s) (λlive=>jV C n live y a.s) (Nd tb (Nat.mul 2 (Nat.add (Nat.add a.p a.e) (Nat.mul 2 a.e))))) a.v,s:=andThen (Wp C n y a.s) a.s,p:=a.p,e:=Nat.mul 2 a.e,ks:=a.ks}
 | .seq _ y,true=>{c:=y,v:=a.v,s:=a.s,p:=Nat.add a.p a.e,e:=Nat.mul 2 a.e,ks:=a.ks}
 | .cond _ x _,false=>{c:=x,v:=a.v,s:=a.s,p:=a.p,e:=Nat.mul 2 a.e,ks:=a.ks}
 | .cond _ _ y,true=>{c:=y,v:=a.v,s:=a.s,p:=Nat.add a.p a.e,e:=Nat.mul 2 a.e,ks:=a.ks}
 | .block id x,false=>{c:=x,v:=oI id a.v,s:=oI id a.s,p:=a.p,e:=Nat.mul 2 a.e,ks:=a.ks}
 | .loop x,false=>{c:=x,v:=andThen (zcP a.ks) a.v,s:=andThen (zcP a.ks) a.s,p:=a.p,e:=Nat.mul 2 a.e,ks:=a.ks.tail}
 |_,_=>a
noncomputable def zeJ(C:fj) (n:Nat) (tb:List (Nat×List Nat)) (bs:List Bool):Xn->Xn:=List.rec (motive:=λ_=>Xn->Xn) (λa=>a) (λb _ c a=>c (lj C n tb a b)) bs
def zfn(k:Nat):List Bool:=(Nat.rec (motive:=λ_=>Nat->List Bool) (λ_=>[]) (λ_ a p=>match Nat.ble p 1 with
 |true=>[]
 |false=>Nat.beq (Nat.mod p 2) 1::a (Nat.div p 2)) 400:Nat->List Bool) k
def UX(Q:V->Hp->Prop) (ρ:gg) (h:Hp) (l:List ResultVar):List V->Prop:=
 List.rec (motive:=λ_=>List V->Prop) (λb=>Q (zy b.reverse) h) (λr _ c b=>match r with
  | .tmp i=>c (ρ i::b)
  | .cell a ty=>oP ((W6 (.cell a ty)).f (.fn ρ []) h) λv=>c (v::b)) l
theorem MJ{Q:V->Hp->Prop} {ρ:gg} {h:Hp}:∀{l:List ResultVar} {b:List V},UX Q ρ h l b->oP (z0 (.fn ρ []) h l) λvs=>Q (zy (b.reverse++vs)) h
 | [],b,hh=>by
   grind[zy,z0,zbJ,oP,UX]
 | .tmp i::l,b,hh=>by
   have c:UX Q ρ h l (ρ i::b):=hh;obtain⟨vs,d,e⟩:=kK.1 (MJ c);refine ec (show z0 (.fn ρ []) h (.tmp i::l)=some (ρ i::vs) from ?_) ?_
   ·show oB (some (ρ i)) _=_
    simp_all
   simp_all
 | .cell a ty::l,b,hh=>by
   have c:oP ((W6 (.cell a ty)).f (.fn ρ []) h) λv=>UX Q ρ h l (v::b):=hh;obtain⟨v,h0,c⟩:=kK.1 c;obtain⟨vs,d,e⟩:=kK.1 (MJ c)
   simp_all[ec,z0,oB,W6]
def VD(l:List ResultVar) (Q:V->Hp->Prop):XQ
 | .exit _,_,_=>False
 |_,ρ,h=>UX Q ρ h l []
theorem SD{l:List ResultVar} {Q:V->Hp->Prop}:∀x ρ h,VD l Q x ρ h->zK l Q x ρ h
 | .exit _,_,_,hh=>hh
 | .normal,_,_,hh=>by grind[MJ,UX,zK,zaO,VD]
 | .ret,_,_,hh=>by grind[MJ,UX,zK,zaO,VD]
noncomputable def Zk(fn:Func)(ks:List (gg->Hp->Prop))(Q:V->Hp->Prop):Xn:={c:=ES fn,v:=VD fn.results.toList Q,s:=zK fn.results.toList Q,p:=0,e:=1,ks}
noncomputable def fO(C:fj)(fn:Func)(tb:List (Nat×List Nat))(k:Nat)(ks:List (gg->Hp->Prop))(Q:V->Hp->Prop):Xn:=zeJ C fn.ntmps tb (zfn k) (Zk fn ks Q)
noncomputable def WA(C:fj)(fn:Func)(tb:List (Nat×List Nat))(k:Nat)(ks:List (gg->Hp->Prop))(Q:V->Hp->Prop)(ρ:gg)(h:Hp):Prop:=Wp C fn.ntmps (fO C fn tb k ks Q).c (fO C fn tb k ks Q).s ρ h
noncomputable def VA(C:fj)(n:Nat)(tb:List (Nat×List Nat))(a:Xn)(ρ:gg)(h:Hp):Prop:=SW C n tb a.c a.p a.e a.v a.s ρ h
def Xn.ok(a:Xn):Prop:=∀x ρ h,a.v x ρ h->a.s x ρ h
theorem Xa{C:fj} {n:Nat} {tb:List (Nat×List Nat)} {a:Xn} (c:a.ok) (b:Bool):(lj C n tb a b).ok:=by
 unfold lj;split
 ·refine Bn (λρ h d=>?_) c
  cases hf:Nd tb (Nat.mul 2 (Nat.add (Nat.add a.p a.e) (Nat.mul 2 a.e)))with
  |none=>rw[hf]at d;exact uE _ c d
  |some live=>rw[hf]at d;exact zaC d
 ·exact c
 ·exact c
 ·exact c
 ·exact Ns c
 ·exact Bn (by simp_all) c
 ·exact c
theorem Wc{C:fj} {n:Nat} {tb:List (Nat×List Nat)}:∀{bs:List Bool} {a:Xn},a.ok->(zeJ C n tb bs a).ok
 |[],_,ha=>ha
 |b::bs,_,ha=>Wc (bs:=bs) (Xa ha b)
theorem K2{C:fj}{fn:Func}{tb:List (Nat×List Nat)}{k:Nat}{ks:List (gg->Hp->Prop)}{Q:V->Hp->Prop}:(fO C fn tb k ks Q).ok:=Wc SD
theorem WA.of{C:fj} {fn:Func} {tb:List (Nat×List Nat)} {k:Nat} {ks:List (gg->Hp->Prop)} {Q:V->Hp->Prop} {ρ:gg} {h:Hp} {P:Prop}
  (e:VA C fn.ntmps tb (fO C fn tb k ks Q) ρ h=P) (H:P):WA C fn tb k ks Q ρ h:=uE _ K2 (e.mpr H)
def Ub(c:Code):Bool:=match c with
 | .seq (.region _ r0 false) _=>match r0.toList with
   | o::_=>match o.op with
     | .next _ false=>false
     |_=>true
   |[]=>true
 |_=>true
theorem SL{n:Nat} {c:Code} (h:Ub c=true):yo n c=none:=by
 cases hf:yo n c with
 |none=>rfl
 | some F=>
   obtain⟨_,_,_,_,_,_,_,d,_,_,_,_,_,_,_,rfl,e0,_,_,_,a,_⟩:=Qk hf;obtain⟨b,_⟩:=zb7 a;simp only[Ub,e0,b]at h;cases h
def mA(c:Code):Bool:=match c with
 | .loop c=>Ub c
 |_=>false
noncomputable def UK(n:Nat) (c:Code):Option mG:=match c with
 | .loop c=>yo n c
 |_=>none
inductive LA (C:fj) (fn:Func) (tb:List (Nat×List Nat)) (k:Nat) (ks:List (gg->Hp->Prop)) (Q:V->Hp->Prop) (K:gg->Hp->Prop) (ρ:gg) (h:Hp):Prop
 |mk (hv:VA C fn.ntmps tb (lj C fn.ntmps tb {fO C fn tb k ks Q with ks:=[K]} false) ρ h)
theorem LA.of{C:fj} {fn:Func} {tb:List (Nat×List Nat)} {k:Nat} {ks:List (gg->Hp->Prop)} {Q:V->Hp->Prop} {K:gg->Hp->Prop} {ρ:gg} {h:Hp} {P:Prop}
  (e:VA C fn.ntmps tb (lj C fn.ntmps tb {fO C fn tb k ks Q with ks:=[K]} false) ρ h=P) (H:P):LA C fn tb k ks Q K ρ h:=⟨e.mpr H⟩
theorem WA.loop{C:fj} {fn:Func} {tb:List (Nat×List Nat)} {k:Nat} {ks:List (gg->Hp->Prop)} {Q:V->Hp->Prop} {ρ:gg} {h:Hp} (I:Nat->gg->Hp->Prop) {m:Nat}
  (hl:mA (fO C fn tb k ks Q).c=true) (l:(fO C fn tb k ks Q).ks=[])
  (b:∀m ρ h,I m ρ h->LA C fn tb k ks Q (λg h'=>∃f,f<m/\I f g h') ρ h) (h0:I m ρ h):WA C fn tb k ks Q ρ h:=by
 unfold WA;have b:=λm ρ h hi=>(b m ρ h hi).1;have d:(fO C fn tb k ks Q).ok:=K2;generalize fO C fn tb k ks Q=a at*;obtain⟨c,v,s,p,e,i⟩:=a;cases c <;> simp only[mA]at hl <;> try exact absurd hl (by decide)
 rename_i c;refine Wp.Te I (λm ρ h hi=>?_) h0 (SL hl);have:=b m ρ h hi;exact uE c (Bn (λ_ _ j=>j) d) this
theorem WA.fill{C:fj} {fn:Func} {tb:List (Nat×List Nat)} {k:Nat} {ks:List (gg->Hp->Prop)} {Q:V->Hp->Prop} {ρ d:gg} {h h':Hp} {F:mG} {x:X}
  (hl:UK fn.ntmps (fO C fn tb k ks Q).c=some F) (hv:NA F (.fn ρ []) h=some (x,.fn d [],h')) (H:(fO C fn tb k ks Q).v x d h'):WA C fn tb k ks Q ρ h:=by
 unfold WA;have b:(fO C fn tb k ks Q).ok:=K2;generalize fO C fn tb k ks Q=a at*;obtain⟨c,v,s,p,e,f⟩:=a;cases c <;> simp only[UK]at hl <;> try cases hl
 exact Wp.fill hl hv (b _ _ _ H)
theorem cP.vc{C:fj} (hs:C.start=fy) {f:Nat} {fn:Func} {tb:List (Nat×List Nat)} {args:List V} {h:Hp} {Q:V->Hp->Prop} {P:Prop} (b:P0.funcs[f]? =some fn) (c:fn.body=some (ES fn))
  (d:C.K f args h=none) (a:Nat.ble args.length fn.ntmps=true) (e:VA C fn.ntmps tb (Zk fn [] Q) (Il args) h=P) (H:P):cP C f args h Q:=
 cP.func hs b c d (Iv a) (uE _ SD (e.mpr H))
abbrev LP:=List V->Hp->Prop
def chV(ρ:gg):List Nat->List V->Prop->Prop
 |i::is,x::xs,P=>ρ i=x->chV ρ is xs P
 |_,_,P=>P
def kf(is:List Nat)(K:LP):gg->Hp->Prop:=λρ h=>K (is.map ρ) h
def JV(C:fj)(fn:Func)(tb:List (Nat×List Nat))(k:Nat)(is:List Nat)(ks:List (gg->Hp->Prop))(Q:fo):LP:=λl h=>∀ρ:gg,chV ρ is l (WA C fn tb k ks Q ρ h)
theorem Q6{ρ:gg}{P:Prop}:∀{is:List Nat}{l:List V},is.length=l.length->(is.map ρ=l->P)->chV ρ is l P
 |[],[],_,h=>h rfl
 |[],_::_,e,_=>by cases e
 |_::_,[],e,_=>by cases e
 |i::is,x::l,e,h=>λa=>Q6 (is:=is) (l:=l) (by simp_all) (by simp_all)
def zb5:Nat->Type
 |0=>Hp->Prop
 |n+1=>V->zb5 n
def NZ:(n:Nat)->zb5 n->LP
 |0,f,[],h=>f h
 |n+1,f,x::l,h=>NZ n (f x) l h
 |_,_,_,_=>False
@[reducible] def KJ (I:Nat->LP) (k:Nat):LP:=λl h=>∃k',k' < k/\I k' l h
section
variable{C:fj}{fn:Func}{tb:List (Nat×List Nat)}{k m:Nat}{is:List Nat}{ks:List (gg->Hp->Prop)}{Q:fo}{h:Hp}{l:List V}
theorem JV.mk(n:Nat)(B:zb5 n)(e:∀(ρ:gg)(h:Hp),VA C fn.ntmps tb (fO C fn tb k ks Q) ρ h=NZ n B (is.map ρ) h)(hl:is.length=l.length)(H:NZ n B l h):JV C fn tb k is ks Q l h:=λρ=>Q6 hl λa=>by
 subst a;exact WA.of (e ρ h) H
theorem JV.loop(n:Nat)(I:Nat->LP)(B:LP->zb5 n)(hl:mA (fO C fn tb k ks Q).c=true)(a:(fO C fn tb k ks Q).ks=[])
  (e:∀(K:LP) (ρ:gg) (h:Hp),VA C fn.ntmps tb (lj C fn.ntmps tb {fO C fn tb k ks Q with ks:=[kf is K]} false) ρ h=NZ n (B K) (is.map ρ) h)
  (d:∀m l h,l.length=n->I m l h->NZ n (B (KJ I m)) l h) (f:is.length=n) (hlen:is.length=l.length) (h0:I m l h):JV C fn tb k is ks Q l h:=λρ=>Q6 hlen λb=>by
 subst b;exact WA.loop (λm ρ h=>I m (is.map ρ) h) hl a (λm ρ h hi=>LA.of (e (KJ I m) ρ h) (by grind)) h0
noncomputable def NN(k:IntKind) (it u:V) (h:Hp):Option Hp:=rA it λr off=>bB (Nat.beq off 0) (oB (h.get r) λo=>match o with
 | .iter (some m) since [] last=>yd h m λes a=>bB (Nat.beq since a&&Nat.beq last a) (oB (Mc k es) λks=>match u with
   | .map u=>bB (!(Nat.beq u m)) (yd h u λus _=>bB us.isEmpty (some ((h.put r .gone).put u (.OG k ks))))
   |_=>none)
 |_=>none)
theorem mG.zgv(F:mG)(u:Nat)(b:Bool)(ρ:gg):∃c,F.t u b (.fn ρ []) = .fn c []/\∀i,i ∉ F.all.drop 2->c i=ρ i:=by
 have a:∀i,i ∉ F.all.drop 2->hN (F.t u b (.fn ρ [])) i=ρ i:=λi hi=>by
  simp only[mG.all,List.drop,wM,wBt,or_false,not_or]at hi;unfold mG.t;cases b <;> simp only[im] <;> (repeat' rw[if_neg (by grind)]) <;> rfl
 cases b <;> exact⟨_,rfl,a⟩
theorem zaP{F:mG}{ρ:gg} {h h':Hp}(hv:NN F.k (ρ F.it) (ρ F.u) h=some h'):∃a,NA F (.fn ρ []) h=some (.exit F.x,.fn a [],h')/\∀i,i ∉ F.all.drop 2->a i=ρ i:=by
 unfold NN at hv;unfold NA;show ∃a,rA (ρ F.it) _=_/\_;rw[qj]at hv;obtain⟨r,off,b,hv⟩:=hv;rw[gG,fk]at hv;obtain⟨d,o,e,hv⟩:=hv;split at hv
 ·simp only[uy,gG,fk]at hv;obtain⟨es,c,f,g,ks,j,hv⟩:=hv;split at hv
  ·rename_i u l;simp only[gG,uy]at hv;obtain⟨m,us,q,n,p,hv⟩:=hv;cases hv;obtain⟨a,e1,e2⟩:=F.zgv u es.isEmpty ρ;refine⟨a,?_,e2⟩;simp only[b,rA,d,bB,e,oB,yd,f,g,j];rw[show hN (.fn ρ []) F.u = .map u from l];simp only[m,n,p,e1]
  ·cases hv
 ·cases hv
theorem JV.fill{F:mG}{b:Nat}{a:List Nat}{l2:List V} {h':Hp}(hl:UK fn.ntmps (fO C fn tb k ks Q).c=some F)
  (e:∀(ρ:gg) (h:Hp),(fO C fn tb k ks Q).v (.exit F.x) ρ h=JV C fn tb b a ks Q (a.map ρ) h) (hd:∀i∈a,i ∉ F.all.drop 2) (hlen:is.length=l.length)
  (hs:∀ρ:gg,is.map ρ=l->a.map ρ=l2/\NN F.k (ρ F.it) (ρ F.u) h=some h') (H:JV C fn tb b a ks Q l2 h'):JV C fn tb k is ks Q l h:=λρ=>Q6 hlen λd=>by
 obtain⟨f,g⟩:=hs ρ d;obtain⟨j,m,n⟩:=zaP g;refine WA.fill hl m ?_;rw[e,show a.map j=l2 from f▸List.map_congr_left λi hi=>n i (hd i hi)];exact H
abbrev dF(k:Nat)(x:V)(h:Hp)(K:V->Prop):Prop:=oP (fK k x) λa=>oP (eC a h) K
abbrev dN(k:Nat)(x:V)(h:Hp)(K:V->Prop):Prop:=oP (gq x) λa=>dF k a h K
abbrev dI(n:Nat)(x i:V)(k:Nat)(h:Hp)(K:V->Prop):Prop:=oP (gP n x i) λa=>dF k a h K
abbrev dX(n:Nat)(x i:V)(h:Hp)(K:V->Prop):Prop:=oP (gP n x i) λa=>oP (eC a h) K
abbrev dG(k:Nat)(x:V)(h:Hp)(K:V->Prop):Prop:=dF k x h λa=>oP (fD a) K
abbrev dJ(k:Nat)(x:V)(n:Nat)(i:V)(j:Nat)(h:Hp)(K:V->Prop):Prop:=dF k x h λa=>dI n a i j h K
abbrev dY(k:Nat)(x:V)(n:Nat)(i:V)(h:Hp)(K:V->Prop):Prop:=dF k x h λa=>dX n a i h K
abbrev bO(o:BinOp)(t:Nat)(a b:V)(A B:Prop):Prop:=oP (ef o t a b) λv=>bP v A B
abbrev bN(a:V)(A B:Prop):Prop:=oP (qH .not a) λv=>bP v A B
theorem oF{k l o:Nat}{h:Hp}{v:V}{K:V->Prop}(a:eC (.ptr l (o+k)) h=some v)(b:K v):dF k (.ptr l o) h K:=kK.2 ⟨_,fN _ _ _,kK.2 ⟨_,a,b⟩⟩
theorem oN{k l o:Nat}{h:Hp}{v:V}{K:V->Prop}(a:eC (.ptr l (o+k)) h=some v)(b:K v):dN k (.ptr l o) h K:=kK.2 (by simp_all[fi,oF])
theorem cP.vd{C:fj}{f:Nat}{fn:Func}(tb:List (Nat×List Nat)){args:List V}{h:Hp}{Q:fo}{P:Prop}(hs:C.start=fy)(b:P0.funcs[f]? =some fn)(c:C.K f args h=none)(H:P)
  (d:fn.body=some (ES fn):=by kernel_rfl) (a:Nat.ble args.length fn.ntmps=true:=by kernel_rfl) (e:VA C fn.ntmps tb (Zk fn [] Q) (Il args) h=P:=by kernel_rfl):cP C f args h Q:=cP.vc hs b d c a e H
abbrev S1(I:Nat->LP)(B:LP->fo):Prop:=∀(k:Nat) (a:V) (h:Hp),I k [a] h->B (KJ I k) a h
abbrev R1(B:fo)(J:LP):Prop:=∀{a:V} {h:Hp},B a h->J [a] h
theorem JV.l1(I:Nat->LP)(B:LP->fo)(s:S1 I B)(i:I m l h)(g:l.length=1)(hl:mA (fO C fn tb k ks Q).c=true:=by kernel_rfl)(b:(fO C fn tb k ks Q).ks=[]:=by kernel_rfl)
  (e:∀(K:LP) (ρ:gg) (h:Hp),VA C fn.ntmps tb (lj C fn.ntmps tb {fO C fn tb k ks Q with ks:=[kf is K]} false) ρ h=NZ 1 (B K) (is.map ρ) h:=by intros;kernel_rfl) (a:is.length=1:=by rfl):JV C fn tb k is ks Q l h:=
 JV.loop 1 I B hl b e (λk l h g i=>match l,g,i with|[d],_,i=>s k d h i) a (a.trans g.symm) i
theorem JV.r1(B:fo)(e:∀(ρ:gg)(h:Hp),VA C fn.ntmps tb (fO C fn tb k ks Q) ρ h=NZ 1 B (is.map ρ) h:=by intros;kernel_rfl)(a:is.length=1:=by rfl):R1 B (JV C fn tb k is ks Q):=λH=>JV.mk 1 B e a H
abbrev S2(I:Nat->LP)(B:LP->Xw):Prop:=∀(k:Nat) (a b:V) (h:Hp),I k [a,b] h->B (KJ I k) a b h
abbrev R2(B:Xw)(J:LP):Prop:=∀{a b:V} {h:Hp},B a b h->J [a,b] h
theorem JV.l2(I:Nat->LP)(B:LP->Xw)(s:S2 I B)(i:I m l h)(g:l.length=2)(hl:mA (fO C fn tb k ks Q).c=true:=by kernel_rfl)(b:(fO C fn tb k ks Q).ks=[]:=by kernel_rfl)
  (e:∀(K:LP) (ρ:gg) (h:Hp),VA C fn.ntmps tb (lj C fn.ntmps tb {fO C fn tb k ks Q with ks:=[kf is K]} false) ρ h=NZ 2 (B K) (is.map ρ) h:=by intros;kernel_rfl) (a:is.length=2:=by rfl):JV C fn tb k is ks Q l h:=
 JV.loop 2 I B hl b e (λk l h g i=>match l,g,i with|[d,f],_,i=>s k d f h i) a (a.trans g.symm) i
theorem JV.r2(B:Xw)(e:∀(ρ:gg)(h:Hp),VA C fn.ntmps tb (fO C fn tb k ks Q) ρ h=NZ 2 B (is.map ρ) h:=by intros;kernel_rfl)(a:is.length=2:=by rfl):R2 B (JV C fn tb k is ks Q):=λH=>JV.mk 2 B e a H
abbrev S3(I:Nat->LP)(B:LP->MA):Prop:=∀(k:Nat) (a b c:V) (h:Hp),I k [a,b,c] h->B (KJ I k) a b c h
abbrev R3(B:MA)(J:LP):Prop:=∀{a b c:V} {h:Hp},B a b c h->J [a,b,c] h
theorem JV.l3(I:Nat->LP)(B:LP->MA)(s:S3 I B)(i:I m l h)(g:l.length=3)(hl:mA (fO C fn tb k ks Q).c=true:=by kernel_rfl)(b:(fO C fn tb k ks Q).ks=[]:=by kernel_rfl)
  (e:∀(K:LP) (ρ:gg) (h:Hp),VA C fn.ntmps tb (lj C fn.ntmps tb {fO C fn tb k ks Q with ks:=[kf is K]} false) ρ h=NZ 3 (B K) (is.map ρ) h:=by intros;kernel_rfl) (a:is.length=3:=by rfl):JV C fn tb k is ks Q l h:=
 JV.loop 3 I B hl b e (λk l h g i=>match l,g,i with|[d,f,j],_,i=>s k d f j h i) a (a.trans g.symm) i
theorem JV.r3(B:MA)(e:∀(ρ:gg)(h:Hp),VA C fn.ntmps tb (fO C fn tb k ks Q) ρ h=NZ 3 B (is.map ρ) h:=by intros;kernel_rfl)(a:is.length=3:=by rfl):R3 B (JV C fn tb k is ks Q):=λH=>JV.mk 3 B e a H
abbrev S4(I:Nat->LP)(B:LP->Jn):Prop:=∀(k:Nat) (a b c d:V) (h:Hp),I k [a,b,c,d] h->B (KJ I k) a b c d h
abbrev R4(B:Jn)(J:LP):Prop:=∀{a b c d:V} {h:Hp},B a b c d h->J [a,b,c,d] h
theorem JV.l4(I:Nat->LP)(B:LP->Jn)(s:S4 I B)(i:I m l h)(g:l.length=4)(hl:mA (fO C fn tb k ks Q).c=true:=by kernel_rfl)(b:(fO C fn tb k ks Q).ks=[]:=by kernel_rfl)
  (e:∀(K:LP) (ρ:gg) (h:Hp),VA C fn.ntmps tb (lj C fn.ntmps tb {fO C fn tb k ks Q with ks:=[kf is K]} false) ρ h=NZ 4 (B K) (is.map ρ) h:=by intros;kernel_rfl) (a:is.length=4:=by rfl):JV C fn tb k is ks Q l h:=
 JV.loop 4 I B hl b e (λk l h g i=>match l,g,i with|[d,f,j,n],_,i=>s k d f j n h i) a (a.trans g.symm) i
theorem JV.r4(B:Jn)(e:∀(ρ:gg)(h:Hp),VA C fn.ntmps tb (fO C fn tb k ks Q) ρ h=NZ 4 B (is.map ρ) h:=by intros;kernel_rfl)(a:is.length=4:=by rfl):R4 B (JV C fn tb k is ks Q):=λH=>JV.mk 4 B e a H
abbrev S5(I:Nat->LP)(B:LP->AE):Prop:=∀(k:Nat) (a b c d e:V) (h:Hp),I k [a,b,c,d,e] h->B (KJ I k) a b c d e h
abbrev R5(B:AE)(J:LP):Prop:=∀{a b c d e:V} {h:Hp},B a b c d e h->J [a,b,c,d,e] h
theorem JV.l5(I:Nat->LP)(B:LP->AE)(s:S5 I B)(i:I m l h)(g:l.length=5)(hl:mA (fO C fn tb k ks Q).c=true:=by kernel_rfl)(b:(fO C fn tb k ks Q).ks=[]:=by kernel_rfl)
  (e:∀(K:LP) (ρ:gg) (h:Hp),VA C fn.ntmps tb (lj C fn.ntmps tb {fO C fn tb k ks Q with ks:=[kf is K]} false) ρ h=NZ 5 (B K) (is.map ρ) h:=by intros;kernel_rfl) (a:is.length=5:=by rfl):JV C fn tb k is ks Q l h:=
 JV.loop 5 I B hl b e (λk l h g i=>match l,g,i with|[d,f,j,n,o],_,i=>s k d f j n o h i) a (a.trans g.symm) i
theorem JV.r5(B:AE)(e:∀(ρ:gg)(h:Hp),VA C fn.ntmps tb (fO C fn tb k ks Q) ρ h=NZ 5 B (is.map ρ) h:=by intros;kernel_rfl)(a:is.length=5:=by rfl):R5 B (JV C fn tb k is ks Q):=λH=>JV.mk 5 B e a H
abbrev S6(I:Nat->LP)(B:LP->OF):Prop:=∀(k:Nat) (a b c d e f:V) (h:Hp),I k [a,b,c,d,e,f] h->B (KJ I k) a b c d e f h
abbrev R6(B:OF)(J:LP):Prop:=∀{a b c d e f:V} {h:Hp},B a b c d e f h->J [a,b,c,d,e,f] h
theorem JV.l6(I:Nat->LP)(B:LP->OF)(s:S6 I B)(i:I m l h)(g:l.length=6)(hl:mA (fO C fn tb k ks Q).c=true:=by kernel_rfl)(b:(fO C fn tb k ks Q).ks=[]:=by kernel_rfl)
  (e:∀(K:LP) (ρ:gg) (h:Hp),VA C fn.ntmps tb (lj C fn.ntmps tb {fO C fn tb k ks Q with ks:=[kf is K]} false) ρ h=NZ 6 (B K) (is.map ρ) h:=by intros;kernel_rfl) (a:is.length=6:=by rfl):JV C fn tb k is ks Q l h:=
 JV.loop 6 I B hl b e (λk l h g i=>match l,g,i with|[d,f,j,n,o,p],_,i=>s k d f j n o p h i) a (a.trans g.symm) i
theorem JV.r6(B:OF)(e:∀(ρ:gg)(h:Hp),VA C fn.ntmps tb (fO C fn tb k ks Q) ρ h=NZ 6 B (is.map ρ) h:=by intros;kernel_rfl)(a:is.length=6:=by rfl):R6 B (JV C fn tb k is ks Q):=λH=>JV.mk 6 B e a H
abbrev S7(I:Nat->LP)(B:LP->Fg):Prop:=∀(k:Nat) (a b c d e f g:V) (h:Hp),I k [a,b,c,d,e,f,g] h->B (KJ I k) a b c d e f g h
abbrev R7(B:Fg)(J:LP):Prop:=∀{a b c d e f g:V} {h:Hp},B a b c d e f g h->J [a,b,c,d,e,f,g] h
theorem JV.l7(I:Nat->LP)(B:LP->Fg)(s:S7 I B)(i:I m l h)(g:l.length=7)(hl:mA (fO C fn tb k ks Q).c=true:=by kernel_rfl)(b:(fO C fn tb k ks Q).ks=[]:=by kernel_rfl)
  (e:∀(K:LP) (ρ:gg) (h:Hp),VA C fn.ntmps tb (lj C fn.ntmps tb {fO C fn tb k ks Q with ks:=[kf is K]} false) ρ h=NZ 7 (B K) (is.map ρ) h:=by intros;kernel_rfl) (a:is.length=7:=by rfl):JV C fn tb k is ks Q l h:=
 JV.loop 7 I B hl b e (λk l h g i=>match l,g,i with|[d,f,j,n,o,p,q],_,i=>s k d f j n o p q h i) a (a.trans g.symm) i
abbrev S8(I:Nat->LP)(B:LP->MO):Prop:=∀(k:Nat) (a b c d e f g i:V) (h:Hp),I k [a,b,c,d,e,f,g,i] h->B (KJ I k) a b c d e f g i h
abbrev R8(B:MO)(J:LP):Prop:=∀{a b c d e f g i:V} {h:Hp},B a b c d e f g i h->J [a,b,c,d,e,f,g,i] h
theorem JV.l8(I:Nat->LP)(B:LP->MO)(s:S8 I B)(i:I m l h)(g:l.length=8)(hl:mA (fO C fn tb k ks Q).c=true:=by kernel_rfl)(b:(fO C fn tb k ks Q).ks=[]:=by kernel_rfl)
  (e:∀(K:LP) (ρ:gg) (h:Hp),VA C fn.ntmps tb (lj C fn.ntmps tb {fO C fn tb k ks Q with ks:=[kf is K]} false) ρ h=NZ 8 (B K) (is.map ρ) h:=by intros;kernel_rfl) (a:is.length=8:=by rfl):JV C fn tb k is ks Q l h:=
 JV.loop 8 I B hl b e (λk l h g i=>match l,g,i with|[d,f,j,n,o,p,q,r],_,i=>s k d f j n o p q r h i) a (a.trans g.symm) i
abbrev R9(B:QP9)(J:LP):Prop:=∀{a b c d e f g i j:V} {h:Hp},B a b c d e f g i j h->J [a,b,c,d,e,f,g,i,j] h
abbrev Jp(B:CL)(J:LP):Prop:=∀{b c d e f g i j k a:V} {h:Hp},B b c d e f g i j k a h->J [b,c,d,e,f,g,i,j,k,a] h
abbrev R11(B:As)(J:LP):Prop:=∀{c d e f g i j k l a b:V} {h:Hp},B c d e f g i j k l a b h->J [c,d,e,f,g,i,j,k,l,a,b] h
abbrev R12(B:zgP)(J:LP):Prop:=∀{d e f g i j k l m a b c:V} {h:Hp},B d e f g i j k l m a b c h->J [d,e,f,g,i,j,k,l,m,a,b,c] h
abbrev S13(I:Nat->LP)(B:LP->Kk):Prop:=∀(k:Nat) (e f g i j l m n o a b c d:V) (h:Hp),I k [e,f,g,i,j,l,m,n,o,a,b,c,d] h->B (KJ I k) e f g i j l m n o a b c d h
abbrev R13(B:Kk)(J:LP):Prop:=∀{e f g i j k l m n a b c d:V} {h:Hp},B e f g i j k l m n a b c d h->J [e,f,g,i,j,k,l,m,n,a,b,c,d] h
theorem JV.l13(I:Nat->LP)(B:LP->Kk)(s:S13 I B)(i:I m l h)(g:l.length=13)(hl:mA (fO C fn tb k ks Q).c=true:=by kernel_rfl)(n:(fO C fn tb k ks Q).ks=[]:=by kernel_rfl)
  (e:∀(K:LP) (ρ:gg) (h:Hp),VA C fn.ntmps tb (lj C fn.ntmps tb {fO C fn tb k ks Q with ks:=[kf is K]} false) ρ h=NZ 13 (B K) (is.map ρ) h:=by intros;kernel_rfl) (j:is.length=13:=by rfl):JV C fn tb k is ks Q l h:=
 JV.loop 13 I B hl n e (λk l h g i=>match l,g,i with|[o,p,q,r,t,u,v,w,x,a,b,d,f],_,i=>s k o p q r t u v w x a b d f h i) j (j.trans g.symm) i
abbrev R14(B:OK)(J:LP):Prop:=∀{f g i j k l m n o a b c d e:V} {h:Hp},B f g i j k l m n o a b c d e h->J [f,g,i,j,k,l,m,n,o,a,b,c,d,e] h
theorem JV.OD(B:OK)(e:∀(ρ:gg)(h:Hp),VA C fn.ntmps tb (fO C fn tb k ks Q) ρ h=NZ 14 B (is.map ρ) h:=by intros;kernel_rfl)(a:is.length=14:=by rfl):R14 B (JV C fn tb k is ks Q):=λH=>JV.mk 14 B e a H
abbrev R15(B:zgt)(J:LP):Prop:=∀{g i j k l m n o p a b c d e f:V} {h:Hp},B g i j k l m n o p a b c d e f h->J [g,i,j,k,l,m,n,o,p,a,b,c,d,e,f] h
abbrev R17(B:zgA)(J:LP):Prop:=∀{j k l m n o p q r a b c d e f g i:V} {h:Hp},B j k l m n o p q r a b c d e f g i h->J [j,k,l,m,n,o,p,q,r,a,b,c,d,e,f,g,i] h
abbrev S18(I:Nat->LP)(B:LP->zbn):Prop:=∀(k:Nat) (l m n o p q r s t a b c d e f g i j:V) (h:Hp),I k [l,m,n,o,p,q,r,s,t,a,b,c,d,e,f,g,i,j] h->B (KJ I k) l m n o p q r s t a b c d e f g i j h
abbrev R18(B:zbn)(J:LP):Prop:=∀{k l m n o p q r s a b c d e f g i j:V} {h:Hp},B k l m n o p q r s a b c d e f g i j h->J [k,l,m,n,o,p,q,r,s,a,b,c,d,e,f,g,i,j] h
theorem JV.l18(I:Nat->LP)(B:LP->zbn)(s:S18 I B)(i:I m l h)(g:l.length=18)(hl:mA (fO C fn tb k ks Q).c=true:=by kernel_rfl)(t:(fO C fn tb k ks Q).ks=[]:=by kernel_rfl)
  (e:∀(K:LP) (ρ:gg) (h:Hp),VA C fn.ntmps tb (lj C fn.ntmps tb {fO C fn tb k ks Q with ks:=[kf is K]} false) ρ h=NZ 18 (B K) (is.map ρ) h:=by intros;kernel_rfl) (r:is.length=18:=by rfl):JV C fn tb k is ks Q l h:=
 JV.loop 18 I B hl t e (λk l h g i=>match l,g,i with|[u,v,w,x,y,z,A,D,E,a,b,d,f,j,n,o,p,q],_,i=>s k u v w x y z A D E a b d f j n o p q h i) r (r.trans g.symm) i
theorem JV.r18(B:zbn)(e:∀(ρ:gg)(h:Hp),VA C fn.ntmps tb (fO C fn tb k ks Q) ρ h=NZ 18 B (is.map ρ) h:=by intros;kernel_rfl)(a:is.length=18:=by rfl):R18 B (JV C fn tb k is ks Q):=λH=>JV.mk 18 B e a H
abbrev nZ:V:= .int .i64 0
abbrev nO:V:= .int .i64 1
abbrev nS:V:= .ed
abbrev bT:V:= .bool true
abbrev bF:V:= .bool false
abbrev zC(T:Nat)(l:List V):Option (O×(Nat->V)):=some (.cells T 1 true false l,λl=> .ptr l 0)
abbrev P2(I:Nat->Xw)(B:(Xw)->Xw):Prop:=∀(k:Nat) (a b:V) (h:Hp),I k a b h->B (λa b h=>∃k',k' < k/\I k' a b h) a b h
abbrev P3(I:Nat->MA)(B:(MA)->MA):Prop:=∀(k:Nat) (a b c:V) (h:Hp),I k a b c h->B (λa b c h=>∃k',k' < k/\I k' a b c h) a b c h
theorem WA.l3{a b d:Nat}{f i j:V}(I:Nat->MA)(B:(MA)->MA)(s:P3 I B)(g:I m f i j h)(hl:mA (fO C fn tb k ks Q).c=true:=by kernel_rfl)(l:(fO C fn tb k ks Q).ks=[]:=by kernel_rfl)
  (e:∀(K:MA) (ρ:gg) (h:Hp),VA C fn.ntmps tb (lj C fn.ntmps tb {fO C fn tb k ks Q with ks:=[λρ h=>K (ρ a) (ρ b) (ρ d) h]} false) ρ h=B K (ρ a) (ρ b) (ρ d) h:=by intros;kernel_rfl):∀ρ:gg,ρ a=f->ρ b=i->ρ d=j->WA C fn tb k ks Q ρ h:=by
 rintro ρ rfl rfl rfl;exact WA.loop (λk ρ h=>I k (ρ a) (ρ b) (ρ d) h) hl l (λk ρ h hi=>LA.of (by grind) (s k (ρ a) (ρ b) (ρ d) h hi)) g
abbrev P4(I:Nat->Jn)(B:(Jn)->Jn):Prop:=∀(k:Nat) (a b c d:V) (h:Hp),I k a b c d h->B (λa b c d h=>∃k',k' < k/\I k' a b c d h) a b c d h
theorem WA.l4{a b d f:Nat}{i j l n:V}(I:Nat->Jn)(B:(Jn)->Jn)(s:P4 I B)(g:I m i j l n h)(hl:mA (fO C fn tb k ks Q).c=true:=by kernel_rfl)(o:(fO C fn tb k ks Q).ks=[]:=by kernel_rfl)
  (e:∀(K:Jn) (ρ:gg) (h:Hp),VA C fn.ntmps tb (lj C fn.ntmps tb {fO C fn tb k ks Q with ks:=[λρ h=>K (ρ a) (ρ b) (ρ d) (ρ f) h]} false) ρ h=B K (ρ a) (ρ b) (ρ d) (ρ f) h:=by intros;kernel_rfl):∀ρ:gg,ρ a=i->ρ b=j->ρ d=l->ρ f=n->WA C fn tb k ks Q ρ h:=by
 rintro ρ rfl rfl rfl rfl;exact WA.loop (λk ρ h=>I k (ρ a) (ρ b) (ρ d) (ρ f) h) hl o (λk ρ h hi=>LA.of (by grind) (s k (ρ a) (ρ b) (ρ d) (ρ f) h hi)) g
abbrev P5(I:Nat->AE)(B:(AE)->AE):Prop:=∀(k:Nat) (a b c d e:V) (h:Hp),I k a b c d e h->B (λa b c d e h=>∃k',k' < k/\I k' a b c d e h) a b c d e h
theorem WA.l5{a b d f i5:Nat}{i j l n o:V}(I:Nat->AE)(B:(AE)->AE)(s:P5 I B)(g:I m i j l n o h)(hl:mA (fO C fn tb k ks Q).c=true:=by kernel_rfl)(p:(fO C fn tb k ks Q).ks=[]:=by kernel_rfl)
  (e:∀(K:AE) (ρ:gg) (h:Hp),VA C fn.ntmps tb (lj C fn.ntmps tb {fO C fn tb k ks Q with ks:=[λρ h=>K (ρ a) (ρ b) (ρ d) (ρ f) (ρ i5) h]} false) ρ h=B K (ρ a) (ρ b) (ρ d) (ρ f) (ρ i5) h:=by intros;kernel_rfl):∀ρ:gg,ρ a=i->ρ b=j->ρ d=l->ρ f=n->ρ i5=o->WA C fn tb k ks Q ρ h:=by
 rintro ρ rfl rfl rfl rfl rfl;exact WA.loop (λk ρ h=>I k (ρ a) (ρ b) (ρ d) (ρ f) (ρ i5) h) hl p (λk ρ h hi=>LA.of (by grind) (s k (ρ a) (ρ b) (ρ d) (ρ f) (ρ i5) h hi)) g
abbrev P6(I:Nat->OF)(B:(OF)->OF):Prop:=∀(k:Nat) (a b c d e f:V) (h:Hp),I k a b c d e f h->B (λa b c d e f h=>∃k',k' < k/\I k' a b c d e f h) a b c d e f h
theorem WA.l6{a b d f i5 i6:Nat}{i j l n o p:V}(I:Nat->OF)(B:(OF)->OF)(s:P6 I B)(g:I m i j l n o p h)(hl:mA (fO C fn tb k ks Q).c=true:=by kernel_rfl)(q:(fO C fn tb k ks Q).ks=[]:=by kernel_rfl)
  (e:∀(K:OF) (ρ:gg) (h:Hp),VA C fn.ntmps tb (lj C fn.ntmps tb {fO C fn tb k ks Q with ks:=[λρ h=>K (ρ a) (ρ b) (ρ d) (ρ f) (ρ i5) (ρ i6) h]} false) ρ h=B K (ρ a) (ρ b) (ρ d) (ρ f) (ρ i5) (ρ i6) h:=by intros;kernel_rfl):∀ρ:gg,ρ a=i->ρ b=j->ρ d=l->ρ f=n->ρ i5=o->ρ i6=p->WA C fn tb k ks Q ρ h:=by
 rintro ρ rfl rfl rfl rfl rfl rfl;exact WA.loop (λk ρ h=>I k (ρ a) (ρ b) (ρ d) (ρ f) (ρ i5) (ρ i6) h) hl q (λk ρ h hi=>LA.of (by grind) (s k (ρ a) (ρ b) (ρ d) (ρ f) (ρ i5) (ρ i6) h hi)) g
abbrev P7(I:Nat->Fg)(B:(Fg)->Fg):Prop:=∀(k:Nat) (a b c d e f g:V) (h:Hp),I k a b c d e f g h->B (λa b c d e f g h=>∃k',k' < k/\I k' a b c d e f g h) a b c d e f g h
theorem WA.l7{a b d f i5 i6 i:Nat}{j l n o p q r:V}(I:Nat->Fg)(B:(Fg)->Fg)(s:P7 I B)(g:I m j l n o p q r h)(hl:mA (fO C fn tb k ks Q).c=true:=by kernel_rfl)(t:(fO C fn tb k ks Q).ks=[]:=by kernel_rfl)
  (e:∀(K:Fg) (ρ:gg) (h:Hp),VA C fn.ntmps tb (lj C fn.ntmps tb {fO C fn tb k ks Q with ks:=[λρ h=>K (ρ a) (ρ b) (ρ d) (ρ f) (ρ i5) (ρ i6) (ρ i) h]} false) ρ h=B K (ρ a) (ρ b) (ρ d) (ρ f) (ρ i5) (ρ i6) (ρ i) h:=by intros;kernel_rfl):∀ρ:gg,ρ a=j->ρ b=l->ρ d=n->ρ f=o->ρ i5=p->ρ i6=q->ρ i=r->WA C fn tb k ks Q ρ h:=by
 rintro ρ rfl rfl rfl rfl rfl rfl rfl;exact WA.loop (λk ρ h=>I k (ρ a) (ρ b) (ρ d) (ρ f) (ρ i5) (ρ i6) (ρ i) h) hl t (λk ρ h hi=>LA.of (by grind) (s k (ρ a) (ρ b) (ρ d) (ρ f) (ρ i5) (ρ i6) (ρ i) h hi)) g
abbrev P8(I:Nat->MO)(B:(MO)->MO):Prop:=∀(k:Nat) (a b c d e f g i:V) (h:Hp),I k a b c d e f g i h->B (λa b c d e f g i h=>∃k',k' < k/\I k' a b c d e f g i h) a b c d e f g i h
theorem WA.l8{a b d f i5 i6 i j:Nat}{l n o p q r t u:V}(I:Nat->MO)(B:(MO)->MO)(s:P8 I B)(g:I m l n o p q r t u h)(hl:mA (fO C fn tb k ks Q).c=true:=by kernel_rfl)(v:(fO C fn tb k ks Q).ks=[]:=by kernel_rfl)
  (e:∀(K:MO) (ρ:gg) (h:Hp),VA C fn.ntmps tb (lj C fn.ntmps tb {fO C fn tb k ks Q with ks:=[λρ h=>K (ρ a) (ρ b) (ρ d) (ρ f) (ρ i5) (ρ i6) (ρ i) (ρ j) h]} false) ρ h=B K (ρ a) (ρ b) (ρ d) (ρ f) (ρ i5) (ρ i6) (ρ i) (ρ j) h:=by intros;kernel_rfl):∀ρ:gg,ρ a=l->ρ b=n->ρ d=o->ρ f=p->ρ i5=q->ρ i6=r->ρ i=t->ρ j=u->WA C fn tb k ks Q ρ h:=by
 rintro ρ rfl rfl rfl rfl rfl rfl rfl rfl;exact WA.loop (λk ρ h=>I k (ρ a) (ρ b) (ρ d) (ρ f) (ρ i5) (ρ i6) (ρ i) (ρ j) h) hl v (λk ρ h hi=>LA.of (by grind) (s k (ρ a) (ρ b) (ρ d) (ρ f) (ρ i5) (ρ i6) (ρ i) (ρ j) h hi)) g
abbrev P10(I:Nat->CL)(B:(CL)->CL):Prop:=∀(k:Nat) (b c d e f g i j l a:V) (h:Hp),I k b c d e f g i j l a h->B (λb c d e f g i j l a h=>∃k',k' < k/\I k' b c d e f g i j l a h) b c d e f g i j l a h
theorem WA.l10{b d f i i5 i6 j l n a:Nat}{p q r t u v w x y o:V}(I:Nat->CL)(B:(CL)->CL)(s:P10 I B)(g:I m p q r t u v w x y o h)(hl:mA (fO C fn tb k ks Q).c=true:=by kernel_rfl)(z:(fO C fn tb k ks Q).ks=[]:=by kernel_rfl)
  (e:∀(K:CL) (ρ:gg) (h:Hp),VA C fn.ntmps tb (lj C fn.ntmps tb {fO C fn tb k ks Q with ks:=[λρ h=>K (ρ b) (ρ d) (ρ f) (ρ i) (ρ i5) (ρ i6) (ρ j) (ρ l) (ρ n) (ρ a) h]} false) ρ h=B K (ρ b) (ρ d) (ρ f) (ρ i) (ρ i5) (ρ i6) (ρ j) (ρ l) (ρ n) (ρ a) h:=by intros;kernel_rfl):∀ρ:gg,ρ b=p->ρ d=q->ρ f=r->ρ i=t->ρ i5=u->ρ i6=v->ρ j=w->ρ l=x->ρ n=y->ρ a=o->WA C fn tb k ks Q ρ h:=by
 rintro ρ rfl rfl rfl rfl rfl rfl rfl rfl rfl rfl;exact WA.loop (λk ρ h=>I k (ρ b) (ρ d) (ρ f) (ρ i) (ρ i5) (ρ i6) (ρ j) (ρ l) (ρ n) (ρ a) h) hl z (λk ρ h hi=>LA.of (by grind) (s k (ρ b) (ρ d) (ρ f) (ρ i) (ρ i5) (ρ i6) (ρ j) (ρ l) (ρ n) (ρ a) h hi)) g
abbrev P11(I:Nat->As)(B:(As)->As):Prop:=∀(k:Nat) (c d e f g i j l m a b:V) (h:Hp),I k c d e f g i j l m a b h->B (λc d e f g i j l m a b h=>∃k',k' < k/\I k' c d e f g i j l m a b h) c d e f g i j l m a b h
theorem WA.l11{d f i j i5 i6 l n o a b:Nat}{r t u v w x y z A p q:V}(I:Nat->As)(B:(As)->As)(s:P11 I B)(g:I m r t u v w x y z A p q h)(hl:mA (fO C fn tb k ks Q).c=true:=by kernel_rfl)(D:(fO C fn tb k ks Q).ks=[]:=by kernel_rfl)
  (e:∀(K:As) (ρ:gg) (h:Hp),VA C fn.ntmps tb (lj C fn.ntmps tb {fO C fn tb k ks Q with ks:=[λρ h=>K (ρ d) (ρ f) (ρ i) (ρ j) (ρ i5) (ρ i6) (ρ l) (ρ n) (ρ o) (ρ a) (ρ b) h]} false) ρ h=B K (ρ d) (ρ f) (ρ i) (ρ j) (ρ i5) (ρ i6) (ρ l) (ρ n) (ρ o) (ρ a) (ρ b) h:=by intros;kernel_rfl):∀ρ:gg,ρ d=r->ρ f=t->ρ i=u->ρ j=v->ρ i5=w->ρ i6=x->ρ l=y->ρ n=z->ρ o=A->ρ a=p->ρ b=q->WA C fn tb k ks Q ρ h:=by
 rintro ρ rfl rfl rfl rfl rfl rfl rfl rfl rfl rfl rfl;exact WA.loop (λk ρ h=>I k (ρ d) (ρ f) (ρ i) (ρ j) (ρ i5) (ρ i6) (ρ l) (ρ n) (ρ o) (ρ a) (ρ b) h) hl D (λk ρ h hi=>LA.of (by grind) (s k (ρ d) (ρ f) (ρ i) (ρ j) (ρ i5) (ρ i6) (ρ l) (ρ n) (ρ o) (ρ a) (ρ b) h hi)) g
abbrev P13(I:Nat->Kk)(B:(Kk)->Kk):Prop:=∀(k:Nat) (e f g i j l m n o a b c d:V) (h:Hp),I k e f g i j l m n o a b c d h->B (λe f g i j l m n o a b c d h=>∃k',k' < k/\I k' e f g i j l m n o a b c d h) e f g i j l m n o a b c d h
theorem WA.l13{i j l n i5 i6 o p q a b d f:Nat}{w x y z A D E F G r t u v:V}(I:Nat->Kk)(B:(Kk)->Kk)(s:P13 I B)(g:I m w x y z A D E F G r t u v h)(hl:mA (fO C fn tb k ks Q).c=true:=by kernel_rfl)(H:(fO C fn tb k ks Q).ks=[]:=by kernel_rfl)
  (e:∀(K:Kk) (ρ:gg) (h:Hp),VA C fn.ntmps tb (lj C fn.ntmps tb {fO C fn tb k ks Q with ks:=[λρ h=>K (ρ i) (ρ j) (ρ l) (ρ n) (ρ i5) (ρ i6) (ρ o) (ρ p) (ρ q) (ρ a) (ρ b) (ρ d) (ρ f) h]} false) ρ h=B K (ρ i) (ρ j) (ρ l) (ρ n) (ρ i5) (ρ i6) (ρ o) (ρ p) (ρ q) (ρ a) (ρ b) (ρ d) (ρ f) h:=by intros;kernel_rfl):∀ρ:gg,ρ i=w->ρ j=x->ρ l=y->ρ n=z->ρ i5=A->ρ i6=D->ρ o=E->ρ p=F->ρ q=G->ρ a=r->ρ b=t->ρ d=u->ρ f=v->WA C fn tb k ks Q ρ h:=by
 rintro ρ rfl rfl rfl rfl rfl rfl rfl rfl rfl rfl rfl rfl rfl;exact WA.loop (λk ρ h=>I k (ρ i) (ρ j) (ρ l) (ρ n) (ρ i5) (ρ i6) (ρ o) (ρ p) (ρ q) (ρ a) (ρ b) (ρ d) (ρ f) h) hl H (λk ρ h hi=>LA.of (by grind) (s k (ρ i) (ρ j) (ρ l) (ρ n) (ρ i5) (ρ i6) (ρ o) (ρ p) (ρ q) (ρ a) (ρ b) (ρ d) (ρ f) h hi)) g
abbrev P14(I:Nat->OK)(B:(OK)->OK):Prop:=∀(k:Nat) (f g i j l m n o p a b c d e:V) (h:Hp),I k f g i j l m n o p a b c d e h->B (λf g i j l m n o p a b c d e h=>∃k',k' < k/\I k' f g i j l m n o p a b c d e h) f g i j l m n o p a b c d e h
theorem WA.l14{j l n o i5 i6 p q r a b d f i:Nat}{y z A D E F G H J t u v w x:V}(I:Nat->OK)(B:(OK)->OK)(s:P14 I B)(g:I m y z A D E F G H J t u v w x h)(hl:mA (fO C fn tb k ks Q).c=true:=by kernel_rfl)(L:(fO C fn tb k ks Q).ks=[]:=by kernel_rfl)
  (e:∀(K:OK) (ρ:gg) (h:Hp),VA C fn.ntmps tb (lj C fn.ntmps tb {fO C fn tb k ks Q with ks:=[λρ h=>K (ρ j) (ρ l) (ρ n) (ρ o) (ρ i5) (ρ i6) (ρ p) (ρ q) (ρ r) (ρ a) (ρ b) (ρ d) (ρ f) (ρ i) h]} false) ρ h=B K (ρ j) (ρ l) (ρ n) (ρ o) (ρ i5) (ρ i6) (ρ p) (ρ q) (ρ r) (ρ a) (ρ b) (ρ d) (ρ f) (ρ i) h:=by intros;kernel_rfl):∀ρ:gg,ρ j=y->ρ l=z->ρ n=A->ρ o=D->ρ i5=E->ρ i6=F->ρ p=G->ρ q=H->ρ r=J->ρ a=t->ρ b=u->ρ d=v->ρ f=w->ρ i=x->WA C fn tb k ks Q ρ h:=by
 rintro ρ rfl rfl rfl rfl rfl rfl rfl rfl rfl rfl rfl rfl rfl rfl;exact WA.loop (λk ρ h=>I k (ρ j) (ρ l) (ρ n) (ρ o) (ρ i5) (ρ i6) (ρ p) (ρ q) (ρ r) (ρ a) (ρ b) (ρ d) (ρ f) (ρ i) h) hl L (λk ρ h hi=>LA.of (by grind) (s k (ρ j) (ρ l) (ρ n) (ρ o) (ρ i5) (ρ i6) (ρ p) (ρ q) (ρ r) (ρ a) (ρ b) (ρ d) (ρ f) (ρ i) h hi)) g
end
