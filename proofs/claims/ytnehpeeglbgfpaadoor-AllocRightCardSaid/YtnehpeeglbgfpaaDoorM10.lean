/- Parts. -/
import Derived.Test.YtnehpeeglbgfpaaDoorM09
set_option maxHeartbeats 4000000
namespace Go.Proofs.YtnehpeeglbgfpaaDoor.Hx
abbrev XQ:=X->fN->Hp->Prop
abbrev fm:=V->Hp->Prop
abbrev YK:=V->V->Hp->Prop
abbrev JP:=V->V->V->Hp->Prop
abbrev Eu:=V->V->V->V->Hp->Prop
abbrev ly:=V->V->V->V->V->Hp->Prop
abbrev tg:=V->V->V->V->V->V->Hp->Prop
abbrev AH:=V->V->V->V->V->V->V->Hp->Prop
abbrev GX:=V->V->V->V->V->V->V->V->Hp->Prop
abbrev Ff:=V->V->V->V->V->V->V->V->V->Hp->Prop
abbrev vW:=V->V->V->V->V->V->V->V->V->V->Hp->Prop
abbrev qy:=V->V->V->V->V->V->V->V->V->V->V->Hp->Prop
abbrev GO:=V->V->V->V->V->V->V->V->V->V->V->V->Hp->Prop
abbrev DV:=V->V->V->V->V->V->V->V->V->V->V->V->V->Hp->Prop
abbrev I9:=V->V->V->V->V->V->V->V->V->V->V->V->V->V->Hp->Prop
abbrev Zs:=V->V->V->V->V->V->V->V->V->V->V->V->V->V->V->Hp->Prop
abbrev QK:=V->V->V->V->V->V->V->V->V->V->V->V->V->V->V->V->Hp->Prop
abbrev Zr:=V->V->V->V->V->V->V->V->V->V->V->V->V->V->V->V->V->Hp->Prop
abbrev Tp:=V->V->V->V->V->V->V->V->V->V->V->V->V->V->V->V->V->V->Hp->Prop
def isVal(o:Oper):Bool:=match o.op with
 | .move x| .assign x=>K6 x
 | .makeFunc _ _ _=>true
 | .makeInterface _ x=>K6 x
 |_=>false
theorem Po{o:Oper} (h:isVal o=true):cls o=0:=by
 grind[isVal,cls]
def YY(C:fg) (o:Oper) (K:V->fN->Hp->Prop):fN->Hp->Prop:=match isVal o with
 |true=>λρ h=>Option.rec (motive:=λ_=>Prop) False (λv=>K v ρ h) ((il o).f (.fn ρ []) h)
 |false=>K9 C o K
theorem V9(C:fg) (o:Oper) (K:V->fN->Hp->Prop):YY C o K=K9 C o K:=by
 unfold YY
 cases hv:isVal o with
 |false=>rfl
 | true=>
   unfold K9;rw[Po hv];rfl
def NV(C:fg) (n:Nat) (all:List Oper) (o:Oper) (K:fN->Hp->Prop):fN->Hp->Prop:=match uQ o with
 |some _=>λ_ _=>False
 | none=>match jB n all o with
   |none=>YY C o (mJ n o K)
   |some g=>λρ h=>oP (g.f (.fn ρ [])) λb=>SD C o b (mJ n o K) ρ h
noncomputable section
inductive Gs where
 |last (o:Oper) (d:Nat)
 |op (o:Oper) (d:Nat) (a:Gs)
 |nest (w:Bool) (d:Nat) (sub:Gs) (o:Oper) (b:Nat) (a:Gs)
 |Bj (w:Bool) (d:Nat) (sub:Gs) (o:Oper) (b:Nat)
def Gs.dst:Gs->Nat
 | .last _ d=>d
 | .op _ _ r=>r.dst
 | .nest _ _ _ _ _ r=>r.dst
 | .Bj _ _ _ _ a=>a
def Gs.ops:Gs->List Oper
 | .last o _=>[o]
 | .op o _ r=>o::r.ops
 | .nest _ _ s o _ r=>s.ops++o::r.ops
 | .Bj _ _ s o _=>s.ops++[o]
def gA(w:Bool) (c:V) (x:Option V):Option V:=match w with
 |true=>jq c x
 |false=>mh c x
def Ka(b:Bool)(x:Option V):V:=Bool.rec (motive:=λ_=>V) V.undef (Option.rec (motive:=λ_=>V) V.undef (λv=>v) x) b
def JA(w:Bool)(v:V):Bool:=Option.rec (motive:=λ_=>Bool) false (λb=>b) (gg w v)
noncomputable def xd(g:Gs):Bool->fN->Hp->fN:=Gs.rec (motive:=λ_=>Bool->fN->Hp->fN) (λo d b ρ h=>eC ρ d (Ka b ((il o).f (.fn ρ []) h))) (λo d _ c b ρ h=>c b (eC ρ d (Ka b ((il o).f (.fn ρ []) h))) h) (λw d _ o e _ a c b ρ h=>c b (eC (a (JA w (ρ d)) ρ h) e (Ka b ((il o).f (.fn (a (JA w (ρ d)) ρ h) []) h))) h) (λw d _ o e a b ρ h=>eC (a (JA w (ρ d)) ρ h) e (Ka b ((il o).f (.fn (a (JA w (ρ d)) ρ h) []) h))) g
noncomputable def gE(g:Gs):fN->Hp->Option V:=Gs.rec (motive:=λ_=>fN->Hp->Option V) (λo _ ρ h=>(il o).f (.fn ρ []) h) (λo d _ b ρ h=>oB ((il o).f (.fn ρ []) h) λv=>b (eC ρ d v) h) (λw d sub _ c _ a b ρ h=>oB (gA w (ρ d) (a ρ h)) λv=>b (eC (xd sub (JA w (ρ d)) ρ h) c v) h) (λw d _ _ _ a ρ h=>gA w (ρ d) (a ρ h)) g
def MH(x:Operand) (d:Nat):Bool:=match x with
 | .tmp i=>Nat.beq i d
 |_=>false
def TP(x:Operand) (b:Bool):Bool:=match x with
 | .const v=>match lh 8 v with
   |some (.bool c)=>c == b
   |_=>false
 |_=>false
def Lf(o:Oper) (w:Bool) (d x:Nat):Bool:=match o.op with
 | .pick c a b=>MH c d&&(match w with
   |true=>MH a x&&TP b false
   |false=>MH b x&&TP a true)
 |_=>false
def YT(n:Nat) (o:Oper) (d:Nat):Bool:=match o.dst with
 |some a=>Nat.beq a d&&Nat.blt d n
 |none=>false
def Ru(n:Nat) (all:List Oper) (o:Oper) (w:Bool) (d:Nat):Bool:=match o.guard with
 | some (j,w')=>(w' == w)&&(match all[j]? with
   |some a=>YT n a d
   |none=>false)
 |none=>false
def Kx(n:Nat)(all:List Oper)(av:List Nat)(w:Bool)(d:Nat)(o:Oper)(a:Nat):Bool:=Nat.beq (cls o) 0&&Ru n all o w d&&YT n o a&&av.all (λi=>!(Nat.beq i a))
def P2(n:Nat) (all:List Oper):List Nat->Bool->Nat->List Nat->Gs->Bool
 |av,w,d,_,.last o a=>Kx n all av w d o a
 |av,w,d,ins,.op o a r=>Kx n all av w d o a&&P2 n all av w d (a::ins) r
 |av,w,d,ins,.nest w' a s o b r=>ins.any (λi=>Nat.beq i a)&&P2 n all (a::av) w' a [] s&&Kx n all av w d o b&&Lf o w' a s.dst&&P2 n all av w d (b::ins) r
 |av,w,d,ins, .Bj w' a s o b=>ins.any (λi=>Nat.beq i a)&&P2 n all (a::av) w' a [] s&&Kx n all av w d o b&&Lf o w' a s.dst
def Ch(n:Nat) (all:List Oper) (h:Hp):List Oper->fN->fN->Prop
 |[],ρ,ρ'=>ρ' = ρ
 | o::os,ρ,ρ'=>cls o=0/\∃d v,o.dst=some d/\Nat.blt d n=true/\((jB n all o=none/\(il o).f (.fn ρ []) h=some v)\/
   ∃g b,jB n all o=some g/\g.f (.fn ρ [])=some b/\gV b ((il o).f (.fn ρ []) h)=some v)/\Ch n all h os (eC ρ d v) ρ'
theorem Ch.app{n:Nat} {all:List Oper} {h:Hp}:∀{os a:List Oper} {ρ e f:fN},Ch n all h os ρ e->Ch n all h a e f->Ch n all h (os++a) ρ f
 |[],_,_,_,_,b,c=>by cases b;exact c
 |_::_,_,_,_,_,⟨hc,d,v,b,c,g,i⟩,j=>⟨hc,d,v,b,c,g,i.app j⟩
theorem GW(ρ:fN)(d:Nat)(v:V):eC ρ d v d=v:=PW ρ d v
theorem QC{n:Nat} {all:List Oper} {o:Oper} {w:Bool} {d:Nat} (a:Ru n all o w d=true):∃g,jB n all o=some g/\∀ρ:fN,g.f (.fn ρ [])=gg w (ρ d):=by
 unfold Ru at a;split at a
 ·rename_i j w' b;simp only[qU,Jg]at a;obtain⟨c,a⟩:=a;subst c;split at a
  ·rename_i h e;unfold YT at a;split at a
   ·rename_i i hd;simp only[qU]at a;obtain⟨e1,e2⟩:=a;have e1:=uW e1;subst e1;refine⟨_,by simp only[jB,b,e,hd,e2];rfl,λρ=>rfl⟩
   simp_all
  simp_all
 simp_all
theorem N4{n:Nat} {all:List Oper} {av:List Nat} {w:Bool} {d:Nat} {o:Oper} {a:Nat} (b:Kx n all av w d o a=true) :
  cls o=0/\(∃g,jB n all o=some g/\∀ρ:fN,g.f (.fn ρ [])=gg w (ρ d))/\o.dst=some a/\Nat.blt a n=true/\∀i∈av,i≠a:=by
 unfold Kx at b;simp only[qU]at b;obtain⟨⟨⟨e,h⟩,c⟩,k⟩:=b;refine⟨uW e,QC h,?_⟩;unfold YT at c;split at c
 ·rename_i j hd;simp only[qU]at c
  grind[uW,K7,Qe,absurd]
 simp_all
theorem Hm{x:Operand} {d:Nat} (h:MH x d=true):x = .tmp d:=by
 unfold MH at h
 grind[uW,absurd]
theorem Oi{x:Operand} {b:Bool} (a:TP x b=true) (t:Tm) (h:Hp):(pI x).f t h=some (.bool b):=by
 unfold TP at a;split at a
 ·rename_i v;split at a
  ·rename_i c hc;have e:c=b:=by simpa using a
   subst e;show(IQ (.const v)).f t=_
   grind[IQ]
  simp_all
 simp_all
theorem Od{o:Oper} {w:Bool} {d x:Nat} (e:Lf o w d x=true) {ρ:fN} {h:Hp} {c:Bool} (hc:ρ d = .bool c):(il o).f (.fn ρ []) h=some (match w,c with
  |true,true=>ρ x
  |true,false=> .bool false
  |false,false=>ρ x
  |false,true=> .bool true)/\cls o=0:=by
 unfold Lf at e;split at e
 ·rename_i c' a b i;simp only[qU]at e;obtain⟨j,g⟩:=e;have e1:=Hm j;subst e1;refine⟨?_,by grind[cls]⟩;have e0:(pI (.tmp d)).f (.fn ρ []) h=some (.bool c):=by show some (ρ d)=_;rw[hc]
  unfold il;rw[i];simp only[Gz,e0,oB]
  cases w with
  | true=>
    simp only[qU]at g;have e2:=Hm g.1;subst e2
    cases c with
    |true=>rfl
    |false=>grind[Oi]
  | false=>
    simp only[qU]at g;have e2:=Hm g.1;subst e2
    cases c with
    |true=>grind[Oi]
    |false=>rfl
 simp_all
theorem Og{w:Bool} {c:V} {x:Option V} {v:V} (a:gA w c x=some v):∃b,c = .bool b/\gg w c=some (b == w)/\((b=w/\x=some v)\/(b≠w/\v = .bool (!w))):=by
 unfold gA at a
 cases w with
 | true=>
   simp only[jq]at a;split at a
   ·cases a;simp_all
   ·simp_all
   ·cases a
 | false=>
   simp only[mh]at a;split at a
   ·cases a;simp_all
   ·simp_all
   ·cases a
theorem LU(ρ:fN){d i:Nat}(v:V)(h:i≠d):eC ρ d v i=ρ i:=Tf ρ v h
theorem Ch.one{n:Nat} {all:List Oper} {av:List Nat} {w:Bool} {d:Nat} {o:Oper} {a:Nat} (c:Kx n all av w d o a=true) {ρ:fN} {h:Hp} {b:Bool} (k:gg w (ρ d)=some b) {v:V}
  (l:gV b ((il o).f (.fn ρ []) h)=some v):Ch n all h [o] ρ (eC ρ a v):=by
 obtain⟨e,⟨g,m,p⟩,i,j,q⟩:=N4 c;exact⟨e,a,v,i,j,by grind,rfl⟩
theorem G0{b:Bool} {x:Option V} {v:V} (h:gV b x=some v):Ka b x=v:=by
 cases b with
 |true=>have h':x=some v:=h;subst h';rfl
 |false=>cases h;rfl
def Lg(n:Nat) (all:List Oper) (av:List Nat) (os:List Oper) (b:Bool) (ρ a:fN) (h:Hp) (d:Nat) (x:V):Prop:=Ch n all h os ρ a/\a d=x/\(∀i∈av,a i=ρ i)/\(b=false->∀i,ρ i = .undef->a i = .undef)
theorem Lg.one{n:Nat} {all:List Oper} {av:List Nat} {w:Bool} {d:Nat} {o:Oper} {a:Nat} (c:Kx n all av w d o a=true) {ρ:fN} {h:Hp} {b:Bool} (j:gg w (ρ d)=some b) {v:V}
  (g:gV b ((il o).f (.fn ρ []) h)=some v):Lg n all av [o] b ρ (eC ρ a v) h a v:=by
 obtain⟨_,_,_,_,k⟩:=N4 c;refine⟨Ch.one c j g,GW _ _ _,by grind[LU],λe i hi=>?_⟩;subst e;cases g
 grind[GW,LU]
theorem Lg.trans{n:Nat} {all:List Oper} {av:List Nat} {os a:List Oper} {b:Bool} {ρ g j:fN} {h:Hp} {d k:Nat} {x l:V} (f:Lg n all av os b ρ g h d x) (c:Lg n all av a b g j h k l):Lg n all av (os++a) b ρ j h k l:=
 ⟨f.1.app c.1,c.2.1,λi hi=>(c.2.2.1 i hi).trans (f.2.2.1 i hi),λe i hi=>c.2.2.2 e i (f.2.2.2 e i hi)⟩
theorem Pf{n:Nat} {all:List Oper}:∀(g:Gs) {av:List Nat} {w:Bool} {d:Nat} {ins:List Nat},P2 n all av w d ins g=true->d∈av->∀{ρ:fN} {h:Hp} {b:Bool},gg w (ρ d)=some b->
  (b=false->∀i∈ins,ρ i = .undef)->∀{x:V},gV b (gE g ρ h)=some x->Lg n all av g.ops b ρ (xd g b ρ h) h g.dst x:=by
 have nest:∀(s:Gs),(∀{av:List Nat} {w:Bool} {d:Nat} {ins:List Nat},P2 n all av w d ins s=true->d∈av->∀{ρ:fN} {h:Hp} {b:Bool},gg w (ρ d)=some b->
    (b=false->∀i∈ins,ρ i = .undef)->∀{x:V},gV b (gE s ρ h)=some x->Lg n all av s.ops b ρ (xd s b ρ h) h s.dst x)->
   ∀{av:List Nat} {w w':Bool} {d k q:Nat} {ins:List Nat} {o:Oper},ins.any (λi=>Nat.beq i k)=true->P2 n all (k::av) w' k [] s=true->Kx n all av w d o q=true->Lf o w' k s.dst=true->d∈av->
   ∀{ρ:fN} {h:Hp} {b:Bool},gg w (ρ d)=some b->(b=false->∀i∈ins,ρ i = .undef)->∀{v:V},gV b (gA w' (ρ k) (gE s ρ h))=some v->
   gV b ((il o).f (.fn (xd s (JA w' (ρ k)) ρ h) []) h)=some v/\Lg n all av (s.ops++[o]) b ρ (eC (xd s (JA w' (ρ k)) ρ h) q v) h q v:=by
  intro s E av w w' d k q ins o H hc R W hd ρ h b m hi v u;obtain⟨i,X,I⟩:=List.any_eq_true.1 H;have e:=uW I;subst e
  cases b with
  | true=>
    obtain⟨c,e1,e2,S⟩:=Og (show gA w' (ρ i) (gE s ρ h)=some v from u);have J:JA w' (ρ i)=(c == w'):=by unfold JA;rw[e2]
    rw[J];obtain⟨y,Y⟩:∃y,gV (c == w') (gE s ρ h)=some y/\(c=w'->y=v):=by
      rcases S with⟨e4,K⟩|⟨e4,K⟩
      ·simp_all
      ·have:(c == w')=false:=by simp[e4]
       rw[this];simp_all
    obtain⟨L,T,M,k4⟩:=E hc (M9 ..) e2 (by simp_all) Y.1;have N:xd s (c == w') ρ h i = .bool c:=by rw[M i (M9 ..)];exact e1
    have O:=(Od W (h:=h) N).1;have t:(il o).f (.fn (xd s (c == w') ρ h) []) h=some v:=by
      rw[O,T];rcases S with⟨e4,K⟩|⟨e4,K⟩
      ·grind
      ·grind
    refine⟨t,?_⟩;have a:=Lg.one R (ρ:=xd s (c == w') ρ h) (h:=h) (b:=true) (by simp_all) (v:=v) t
    refine⟨L.app a.1,a.2.1,λj F=>(a.2.2.1 j F).trans (by simp_all),by simp_all⟩
  | false=>
    have e1:ρ i = .undef:=by simp_all
    have e2:gg w' (ρ i)=some false:=by rw[e1];rfl
    have J:JA w' (ρ i)=false:=by unfold JA;rw[e2]
    rw[J];cases u;obtain⟨L,T,M,k4⟩:=E hc (M9 ..) e2 (by simp_all) (x:= .undef) rfl;refine⟨rfl,?_⟩;have a:=Lg.one R (ρ:=xd s false ρ h) (h:=h) (b:=false) (by rw[M d (V4 _ hd)];exact m) (v:= .undef) rfl;exact⟨L.app a.1,a.2.1,λj F=>(a.2.2.1 j F).trans (by simp_all),λe j F=>a.2.2.2 e j (by simp_all)⟩
 intro g
 induction g with
 | last o k=>
   intro av w d ins p hd ρ h b m hi x z;have l:gV b ((il o).f (.fn ρ []) h)=some x:=z;show Lg n all av [o] b ρ (eC ρ k (Ka b ((il o).f (.fn ρ []) h))) h k x;rw[G0 l]
   exact Lg.one p m l
 | op o k r E=>
   intro av w d ins p hd ρ h b m hi x z;simp only[P2,qU]at p;obtain⟨v,u,l⟩:∃v,gV b ((il o).f (.fn ρ []) h)=some v/\gV b (gE r (eC ρ k v) h)=some x:=by
     cases b with
     | true=>
       obtain⟨v,A,B⟩:=eE.1 (show oB ((il o).f (.fn ρ []) h) _=some x from z)
       exact⟨v,A,B⟩
     |false=>simp_all
   have a:=Lg.one p.1 m u;show Lg n all av ([o]++r.ops) b ρ (xd r b (eC ρ k (Ka b ((il o).f (.fn ρ []) h))) h) h r.dst x;rw[G0 u];refine a.trans (E p.2 hd (by rw[a.2.2.1 d hd];exact m) ?_ l);intro e i C;rcases AJ.1 C with e'|e'
   ·simp_all[GW]
   ·exact a.2.2.2 e i (by simp_all)
 | nest w' k s o q r D E=>
   intro av w d ins p hd ρ h b m hi x z;simp only[P2,qU]at p;obtain⟨⟨⟨⟨A,B⟩,P⟩,Q⟩,Z⟩:=p;obtain⟨v,u,l⟩:∃v,gV b (gA w' (ρ k) (gE s ρ h))=some v/\gV b (gE r (eC (xd s (JA w' (ρ k)) ρ h) q v) h)=some x:=by
     cases b with
     | true=>
       obtain⟨v,A,B⟩:=eE.1 (show oB (gA w' (ρ k) (gE s ρ h)) _=some x from z)
       exact⟨v,A,B⟩
     |false=>simp_all
   obtain⟨U,G⟩:=nest s D A B P Q hd m hi u;show Lg n all av (s.ops++([o]++r.ops)) b ρ (xd r b (eC (xd s (JA w' (ρ k)) ρ h) q (Ka b ((il o).f (.fn (xd s (JA w' (ρ k)) ρ h) []) h))) h) h r.dst x;rw[G0 U,<-MQ];refine G.trans (E Z hd (by rw[G.2.2.1 d hd];exact m) ?_ l);intro e i C;rcases AJ.1 C with e'|e'
   ·simp_all[GW]
   ·exact G.2.2.2 e i (by simp_all)
 | Bj w' k s o q D=>
   intro av w d ins p hd ρ h b m hi x z;simp only[P2,qU]at p;obtain⟨⟨⟨A,B⟩,P⟩,Q⟩:=p;obtain⟨U,G⟩:=nest s D A B P Q hd m hi (show gV b (gA w' (ρ k) (gE s ρ h))=some x from z);show Lg n all av (s.ops++[o]) b ρ (eC (xd s (JA w' (ρ k)) ρ h) q (Ka b ((il o).f (.fn (xd s (JA w' (ρ k)) ρ h) []) h))) h q x
   grind[G0]
inductive M5 where
 |op (o:Oper) (d:Nat)
 |nest (w:Bool) (d:Nat) (sub:Gs) (o:Oper) (a:Nat)
def M5.dst:M5->Nat
 | .op _ d=>d
 | .nest _ _ _ _ a=>a
def M5.ops:M5->List Oper
 | .op o _=>[o]
 | .nest _ _ s o _=>s.ops++[o]
def M5.one:M5->Gs
 | .op o d=> .last o d
 | .nest w d s o a=> .Bj w d s o a
def M5.cons(r:Gs):M5->Gs
 | .op o d=> .op o d r
 | .nest w d s o a=> .nest w d s o a r
def ZE(all:List Oper) (o:Oper):Option (Bool×Nat):=match o.guard with
 | some (j,w)=>match all[j]? with
   | some a=>match a.dst with
     |some d=>some (w,d)
     |none=>none
   |none=>none
 |none=>none
def K2(n : Nat) (all:List Oper) (TJ:Bool->Nat->List Nat->List Oper->Option (Gs×List Oper)) (w:Bool) (d:Nat) (ins:List Nat) (os:List Oper):Option (M5×List Oper):=match os with
  |[]=>none
  | o ::os'=>match Ru n all o w d&&Nat.beq (cls o) 0,o.dst with
    |true,some d'=>some (.op o d',os')
    | _,_ => match ZE all o with
      |none=>none
      | some (w',d')=>match ins.any (λi=>Nat.beq i d')with
        |false=>none
        | true=>match TJ w' d' [] (o::os')with
          | some (s,p::os'')=>match Ru n all p w d&&Lf p w' d' s.dst,p.dst with
            |true,some dp=>some (.nest w' d' s p dp,os'')
            |_,_=>none
          |_=>none
noncomputable def TJ(n:Nat) (all:List Oper) (fuel:Nat):Bool->Nat->List Nat->List Oper->Option (Gs×List Oper):=
 Nat.rec (motive:=λ_=>Bool->Nat->List Nat->List Oper->Option (Gs×List Oper)) (λ_ _ _ _=>none) (λ_ a w d ins os=>match K2 n all a w d ins os with
  |none=>none
  | some (it,os')=>match a w d (it.dst::ins) os' with
    |some (g,r)=>some (it.cons g,r)
    |none=>some (it.one,os')) fuel
theorem MZ{n:Nat} {all:List Oper} {TJ:Bool->Nat->List Nat->List Oper->Option (Gs×List Oper)} (a:∀w d ins os g r,TJ w d ins os=some (g,r)->os=g.ops++r) {w:Bool} {d:Nat} {ins:List Nat} {os:List Oper} {it:M5} {r:List Oper}
  (h:K2 n all TJ w d ins os=some (it,r)):os=it.ops++r:=by
 unfold K2 at h;split at h
 ·cases h
 ·split at h
  ·cases h;rfl
  ·split at h
   ·cases h
   grind[M5.ops,MQ]
theorem KT{n:Nat} {all:List Oper}:∀(fuel:Nat) (w:Bool) (d:Nat) (ins:List Nat) (os:List Oper) (g:Gs) (r:List Oper),TJ n all fuel w d ins os=some (g,r)->os=g.ops++r
 |0,_,_,_,_,_,_,h=>by cases h
 | fuel+1,w,d,ins,os,g,r,h=>by
   have h':(match K2 n all (TJ n all fuel) w d ins os with
     |none=>none
     | some (it,a)=>match TJ n all fuel w d (it.dst::ins) a with
       |some (g,r)=>some (it.cons g,r)
       |none=>some (it.one,a))=some (g,r):=h
   split at h'
   ·cases h'
   ·rename_i it a b
    have e1:=MZ (λw d ins os g r c=>KT fuel w d ins os g r c) b;split at h'
    ·rename_i e r' c
     cases h';have e2:=KT fuel _ _ _ _ _ _ c;rw[e1,e2];cases it <;> simp[M5.ops,M5.cons,Gs.ops]
    ·cases h'
     rw[e1];cases it <;> simp[M5.ops,M5.one,Gs.ops]
noncomputable def R0(n:Nat) (all:List Oper) (os:List Oper):Option (Bool×Nat×Gs×Nat):=match os with
 |[]=>none
 | o ::_ => match o.guard with
   |none=>none
   | some (j,w)=>match all[j]? with
     |none=>none
     | some a=>match a.guard,a.dst,Nat.beq (cls o) 0 with
       | none,some d,true=>match TJ n all 60 w d [] os with
         | some (g,p::_)=>match p.guard,p.dst with
           | none,some dp=>match Lf p w d g.dst&&Nat.blt dp n&&P2 n all [d] w d [] g with
             |true=>some (w,d,g,dp)
             |false=>none
           |_,_=>none
         |_=>none
       |_,_,_=>none
theorem TN{n:Nat} {all os:List Oper} {w:Bool} {d:Nat} {g:Gs} {a:Nat} (h:R0 n all os=some (w,d,g,a)):∃p r,os=g.ops++p::r/\p.guard=none/\p.dst=some a/\Lf p w d g.dst=true/\Nat.blt a n=true/\P2 n all [d] w d [] g=true:=by
 unfold R0 at h;split at h
 ·cases h
 ·split at h
  ·cases h
  ·split at h
   ·cases h
   ·split at h
    ·split at h
     ·rename_i c;split at h
      ·rename_i e f;split at h
       ·rename_i b;cases h;simp only[qU]at b
        grind[KT]
       ·cases h
      ·cases h
     ·cases h
    ·cases h
theorem B3{n:Nat} {o:Oper} {K a:fN->Hp->Prop} (b:∀ρ h,K ρ h->a ρ h) {v:V} {ρ:fN} {h:Hp} (c:mJ n o K v ρ h):mJ n o a v ρ h:=by
 grind[mJ,Nat.blt]
theorem mZ{α:Type}{x:Option α}{k k':α->Prop}(h:oP x k)(f:∀a,k a->k' a):oP x k':=by grind[oM]
theorem RR{C:fg} {o:Oper} {K b:V->fN->Hp->Prop} (e:∀v ρ h,K v ρ h->b v ρ h) {ρ:fN} {h:Hp} (d:K9 C o K ρ h):K9 C o b ρ h:=by
 unfold K9 at d⊢;generalize cls o=c at d⊢;rcases c with _|_|c
 ·grind[mZ]
 ·grind[mZ]
 ·show Mc C o b ρ h;have a:Mc C o K ρ h:=d;unfold Mc at a⊢;cases hi:uS o
  all_goals rw[hi]at a
  ·grind[mZ]
  ·exact mZ a λx H=>H.mono (by simp_all)
theorem QJ{C:fg} {o:Oper} {b:Bool} {K d:V->fN->Hp->Prop} (e:∀v ρ h,K v ρ h->d v ρ h) {ρ:fN} {h:Hp} (a:SD C o b K ρ h):SD C o b d ρ h:=by
 unfold SD at a⊢;generalize cls o=c at a⊢;rcases c with _|_|c
 ·grind[mZ]
 ·grind[mZ]
 ·simp only at a⊢;cases hi:uS o
  all_goals rw[hi]at a
  ·grind[mZ]
  ·refine mZ a λx H=>?_
   cases x with
   |none=>simp_all
   |some y=>exact cP.mono H (by simp_all)
theorem No{C:fg} {n:Nat} {all:List Oper} {o:Oper} {K b:fN->Hp->Prop} (c:∀ρ h,K ρ h->b ρ h) {ρ:fN} {h:Hp} (a:wL C n all o K ρ h):wL C n all o b ρ h:=by
 unfold wL at a⊢
 cases hd:uQ o with
 |some q=>simp_all
 | none=>
   rw[hd]at a;simp only at a⊢
   cases hw:jB n all o with
   |none=>rw[hw]at a;grind[RR,B3]
   |some g=>grind[mZ,QJ,B3]
theorem Qo(C:fg) (n:Nat) (all:List Oper) (o:Oper) (K:fN->Hp->Prop):NV C n all o K=wL C n all o K:=by
 grind[NV,wL,V9]
theorem FH{o:Oper} (h:cls o=0):uQ o=none:=by
 grind[uQ,cls]
theorem Ch.vU{C:fg} {n:Nat} {all:List Oper} {h:Hp} {K:fN->Hp->Prop} {a:List Oper}:∀{os:List Oper} {ρ b:fN},Ch n all h os ρ b->vU C n all K a b h->vU C n all K (os++a) ρ h
 |[],_,_,hc,hk=>by cases hc;exact hk
 | o::os,ρ,b,⟨h0,d,v,c,e,i,f⟩,hk=>by
   have g:=f.vU (C:=C) (K:=K) hk;have hd:mJ n o (Hx.vU C n all K (os++a)) v ρ h:=by unfold mJ;rw[c];simp only[e];exact g
   show wL C n all o (Hx.vU C n all K (os++a)) ρ h
   grind[wL,FH,K9,ec,SD]
noncomputable def NC(C:fg) (n:Nat) (all:List Oper) (K:fN->Hp->Prop) (os:List Oper):Nat->fN->Hp->Prop:=
 List.rec (motive:=λ_=>Nat->fN->Hp->Prop) (λ_=>K) (λo os a b=>Nat.rec (motive:=λ_=>fN->Hp->Prop)
  (match R0 n all (o::os)with
   |some (w,d,g,dp)=>λρ h=>oP (gA w (ρ d) (gE g ρ h)) λv=>a g.ops.length (eC (xd g (JA w (ρ d)) ρ h) dp v) h
   |none=>NV C n all o (a 0)) (λk _=>a k) b) os
theorem Ea{C:fg} {n:Nat} {all:List Oper} {K:fN->Hp->Prop}:∀(os:List Oper) (b:Nat) {ρ:fN} {h:Hp},NC C n all K os b ρ h->vU C n all K (os.drop b) ρ h
 |[],b,ρ,h,hk=>by rw[List.drop_nil];exact hk
 |o::os,b+1,ρ,h,hk=>Ea os b hk
 | o ::os,0,ρ,h,hk=>by
   have a:(match R0 n all (o::os)with
     |some (w,d,g,j)=>λ(ρ:fN) (h:Hp)=>oP (gA w (ρ d) (gE g ρ h)) λv=>NC C n all K os g.ops.length (eC (xd g (JA w (ρ d)) ρ h) j v) h
     |none=>NV C n all o (NC C n all K os 0):fN->Hp->Prop) ρ h:=hk
   show vU C n all K (o::os) ρ h
   cases hg:R0 n all (o::os)with
   | some x=>
     obtain⟨w,d,g,j⟩:=x;rw[hg]at a;simp only at a;obtain⟨p,r,e1,e2,u,e4,e,z⟩:=TN hg;obtain⟨v,A,m⟩:=jY.1 a;obtain⟨c,B,c2,q⟩:=Og A;have D:JA w (ρ d)=(c == w):=by unfold JA;rw[c2]
     rw[D]at m;obtain⟨y,E⟩:∃y,gV (c == w) (gE g ρ h)=some y/\(c=w->y=v):=by
       rcases q with⟨e4,e⟩|⟨e4,e⟩
       ·simp_all
       ·have:(c == w)=false:=by simp[e4]
        rw[this];simp_all
     obtain⟨F,G,H,k4⟩:=Pf g z (M9 ..) c2 (by simp_all) E.1;have k:xd g (c == w) ρ h d = .bool c:=by rw[H d (M9 ..)];exact B
     have i:=Od e4 (h:=h) k;have s:(il p).f (.fn (xd g (c == w) ρ h) []) h=some v:=by
       rw[i.1,G];rcases q with⟨e4,e⟩|⟨e4,e⟩
       ·grind
       ·grind
     have l:Ch n all h [p] (xd g (c == w) ρ h) (eC (xd g (c == w) ρ h) j v):=⟨i.2,j,v,u,e,by grind[jB],rfl⟩
     have hlen:os.drop g.ops.length=r:=by
       have I:(o::os).drop (g.ops.length+1)=r:=by rw[e1,List.append_cons];exact by simp_all
       exact I
     have t:=Ea os _ m;rw[hlen]at t;rw[e1,List.append_cons]
     exact(F.app l).vU t
   | none=>
     rw[hg]at a;simp only[Qo]at a;exact No (λρ h J=>by have:=Ea os 0 J;exact this) a
def zg(o:Oper):Bool:=match o.op with
 | .move x| .assign x| .nilCheck x| .fieldAddr _ x _| .field _ x _| .unOp _ _ x| .extract x _=>K6 x
 | .pick c a b=>K6 c&&K6 a&&K6 b
 | .binOp _ _ x y _=>K6 x&&K6 y
 | .indexAddr _ x i| .index _ x i=>K6 x&&K6 i
 | .build _ _| .makeFunc _ _ _=>true
 | .makeInterface _ x=>K6 x
 | .call c=>match c.callee,c.args.toList,c.argTypes.toList with
   | .builtin .len,[x],ty::_=>match P0.underlying ty with
     |some (.slice _)=>K6 x
     |_=>false
   |_,_,_=>false
 |_=>false
theorem Rc{o:Oper} (a:zg o=true) (t:Tm) (h h':Hp):(il o).f t h=(il o).f t h':=by
 unfold zg at a;unfold il;split at a
 all_goals rename_i b
 all_goals try rw[b]
 all_goals try simp only[qU]at a
 ·grind[jR]
 ·grind[jR]
 ·grind[wb,jR]
 ·grind[nE,jR]
 ·grind[Db,jR]
 ·grind[jR]
 ·grind[Br,jR]
 ·grind[Gz,jR]
 ·grind[jR]
 ·grind[nY,jR]
 ·grind[Dh,jR]
 ·simp only[Dv];grind
 ·split <;> first|rfl|simp_all
 ·dsimp only;split <;> first|rfl|grind[jR]
 ·grind[hlen,jR,absurd]
 simp_all
abbrev RE:=Bool×Rec×Bool×Bool
def CD(k:Nat) (h:Hp) (rs:List RE) (K:Prop):Prop:=List.rec (motive:=λ_=>Prop) K (λr _ a=>Bool.rec (motive:=λ_=>Prop) (Option.rec (motive:=λ_=>Prop) (Bool.rec (motive:=λ_=>Prop) a (Bool.rec (motive:=λ_=>Prop) True (Ap h r.2.1) r.1/\a) r.2.2.2) (λ_=>Bool.rec (motive:=λ_=>Prop) True (Ap h r.2.1) r.1/\a) r.2.1.made) a (Nat.blt r.2.1.last k)) rs
def DW(rs:List RE):List RE:=rs.map λr=>(r.1,r.2.1,r.2.2.1,!r.2.2.1)
def qv(rs:List RE):List (Bool×Rec):=rs.map λr=>(r.1,r.2.1)
def YW(C:fg) (n:Nat) (all:List Oper) (ws:List It) (a:It) (d:Nat->fN->Hp->List RE->Prop) (k:Nat):fN->Hp->List RE->Prop:=match cls a.o with
  | 0 =>match jB n all a.o with
    | none=>match isVal a.o with
      |true=>λρ h rs=>Option.rec (motive:=λ_=>Prop) False (λv=>mJ n a.o (λc h=>d k c h ((true,{it:=a,t:= .fn ρ [],v,made:=none,last:=late ws a},zg a.o,false)::rs)) v ρ h) ((il a.o).f (.fn ρ []) h)
      |false=>λρ h rs=>oP ((il a.o).f (.fn ρ []) h) λv=>mJ n a.o (λc h=>d k c h ((true,{it:=a,t:= .fn ρ [],v,made:=none,last:=late ws a},zg a.o,false)::rs)) v ρ h
    |some g=>λρ h rs=>oP (g.f (.fn ρ [])) λb=>oP (gV b ((il a.o).f (.fn ρ []) h)) λv=>
       mJ n a.o (λc h=>d k c h ((b,{it:=a,t:= .fn ρ [],v,made:=none,last:=late ws a},zg a.o,false)::rs)) v ρ h
  | 1=>match jB n all a.o with
    |none=>λρ h rs=>oP ((nA a.o).f (.fn ρ [])) λr=>mJ n a.o (λc h'=>d k c h' ((true,{it:=a,t:= .fn ρ [],v:=r.2 h.next,made:=some (h.next,r.1),last:=late ws a},false,false)::DW rs)) (r.2 h.next) ρ (h.new r.1)
    |some _=>λ_ _ _=>False
  | _ =>match jB n all a.o with
    |none=>λρ h rs=>CD k h rs (Mc C a.o (λv ρ h'=>h.next<=h'.next/\mJ n a.o (λρ h=>d (Nat.succ k) ρ h (DW rs)) v ρ h') ρ h)
    | some g=>match uS a.o with
      |true=>λρ h rs=>CD k h rs (oP (g.f (.fn ρ [])) λb=>oP (gC b (oB ((iS a.o).f (.fn ρ []) h) ye)) λx=>xa C x h λv h'=>h.next<=h'.next/\mJ n a.o (λρ h=>d (Nat.succ k) ρ h (DW rs)) v ρ h')
      |false=>λ_ _ _=>False
def Di(l:List It):Bool:=l.all λa=>Nat.beq (cls a.o) 0
def M7(C:fg) (n:Nat) (all:List Oper) (ws:List It) (K:fN->Hp->Prop) (l:List It):Nat->fN->Hp->List RE->Prop:=
 List.rec (motive:=λ_=>Nat->fN->Hp->List RE->Prop) (λk ρ h rs=>CD k h rs (K ρ h)) (λa l b k=>match Di (a::l)with
  |true=>λρ h rs=>NC C n all (λρ h=>CD k h rs (K ρ h)) ((a::l).map (·.o)) 0 ρ h
  |false=>YW C n all ws a b k) l
def O6(h:Hp)(rs:List RE):Prop:=∀r∈rs,r.1=true->r.2.1.made=none->(r.2.2.1=true->∀h',Ap h' r.2.1)/\(r.2.2.2=false->Ap h r.2.1)
theorem O6.sP{h:Hp} {rs:List RE} (hi:O6 h rs) (h':Hp):O6 h' (DW rs):=by
 intro r b c d;obtain⟨r',a,e⟩:=Sy.1 b;subst e;obtain⟨f,_⟩:=hi r' a c d
 simp_all
theorem HY(rs:List RE):qv (DW rs)=qv rs:=by
 simp[qv,DW]
theorem tU{k:Nat} {h:Hp}:∀{rs:List RE} {K d:Prop},O6 h rs->(K->d)->CD k h rs K->sX k h (qv rs) d
 |[],_,_,_,hk,hh=>hk hh
 | (b,r,f,st)::rs,K,d,hi,hk,hh=>by
   have c:O6 h rs:=λr c=>hi r (V4 _ c);have h0:=hi _ (M9 ..)
   have a:Bool.rec (motive:=λ_=>Prop)
     (Option.rec (motive:=λ_=>Prop) (Bool.rec (motive:=λ_=>Prop) (CD k h rs K) (Bool.rec (motive:=λ_=>Prop) True (Ap h r) b/\CD k h rs K) st)
     (λ_=>Bool.rec (motive:=λ_=>Prop) True (Ap h r) b/\CD k h rs K) r.made) (CD k h rs K) (Nat.blt r.last k):=hh
   show Bool.rec (motive:=λ_=>Prop) (Bool.rec (motive:=λ_=>Prop) True (Ap h r) b/\sX k h (qv rs) d) (sX k h (qv rs) d) (Nat.blt r.last k)
   cases hb:Nat.blt r.last k with
   |true=>rw[hb]at a;exact tU c hk a
   | false=>
     rw[hb]at a
     cases hm:r.made with
     |some x=>rw[hm]at a;exact⟨a.1,tU c hk a.2⟩
     | none=>
       rw[hm]at a
       cases st with
       |true=>exact⟨a.1,tU c hk a.2⟩
       | false=>
         refine⟨?_,tU c hk a⟩;cases b <;> grind
theorem Rv{C:fg} {o:Oper} {K b:V->fN->Hp->Prop} (c:∀v ρ h,K v ρ h->b v ρ h) {ρ:fN} {h:Hp} (a:Mc C o K ρ h):Mc C o b ρ h:=by
 unfold Mc at a⊢;cases hi:uS o
 all_goals rw[hi]at a
 ·grind[mZ]
 ·exact mZ a λx H=>H.mono (by simp_all)
theorem Jo{k:Nat} {h:Hp} {K:Prop} {rs:List (Bool×Rec)}:∀{new:List (Bool×Rec)},(∀r∈new,r.1=true->Ap h r.2)->sX k h rs K->sX k h (new++rs) K
 |[],_,hh=>hh
 | r ::new,hn,hh=>by
   have a:=Jo (new:=new) (by simp_all) hh;show sX k h (r::(new++rs)) K;simp only[sX]
   cases hb:Nat.blt r.2.last k with
   |true=>exact a
   | false=>
     refine⟨?_,a⟩;cases hb:r.1 <;> grind
theorem Hf{C:fg} {n:Nat} {all:List Oper} {ws:List It} {K:fN->Hp->Prop} {k:Nat} {rs:List (Bool×Rec)}:∀{l:List It} {ρ:fN} {h:Hp} {new:List (Bool×Rec)},Di l=true->(∀r∈new,r.1=true->Ap h r.2)->
  vU C n all (λρ h=>sX k h rs (K ρ h)) (l.map (·.o)) ρ h->Df C n all ws K l k ρ h (new++rs)
 |[],_,_,_,_,hn,hk=>Jo hn hk
 | a ::l,ρ,h,new,j,hn,hk=>by
   simp only[Di,Th,qU]at j;obtain⟨hc,j⟩:=j;have hc:=uW hc;have c:wL C n all a.o (vU C n all (λρ h=>sX k h rs (K ρ h)) (l.map (·.o))) ρ h:=hk;show U9 C n all ws a (Df C n all ws K l) k ρ h (new++rs)
   have m:∀{b:Bool} {v:V},(b=true->(il a.o).f (.fn ρ []) h=some v)->mJ n a.o (vU C n all (λρ h=>sX k h rs (K ρ h)) (l.map (·.o))) v ρ h->
       mJ n a.o (λw h=>Df C n all ws K l k w h ((b,{it:=a,t:= .fn ρ [],v,made:=none,last:=late ws a})::(new++rs))) v ρ h:=by
     intro b v p hd;have i:∀r∈(b,({it:=a,t:= .fn ρ [],v,made:=none,last:=late ws a}:Rec))::new,r.1=true->Ap h r.2:=by
       intro r x q;rcases AJ.1 x with e|e
       ·subst e;exact p q
       ·grind
     unfold mJ at hd⊢
     cases ho:a.o.dst with
     |none=>rw[ho]at hd;exact Hf j i hd
     | some d=>
       rw[ho]at hd;simp only at hd⊢
       cases p:Nat.blt d n with
       |true=>rw[p]at hd;exact Hf j i hd
       |false=>simp_all
   unfold wL at c;rw[FH hc]at c;simp only at c;unfold U9;rw[hc];simp only
   cases hw:jB n all a.o with
   | none=>
     rw[hw]at c;simp only[K9,hc]at c;obtain⟨v,s,u⟩:=jY.1 c
     simp_all
   | some g=>
     rw[hw]at c;simp only[SD,hc]at c;obtain⟨b,h0,c⟩:=jY.1 c;obtain⟨v,s,u⟩:=jY.1 c;exact ec h0 (ec s (m (λe=>by simp_all) u))
theorem FG{C:fg} {n:Nat} {all:List Oper} {K e:fN->Hp->Prop} {h:Hp} (f:∀ρ,K ρ h->e ρ h):∀{l:List It} {ρ:fN},Di l=true->vU C n all K (l.map (·.o)) ρ h->vU C n all e (l.map (·.o)) ρ h
 |[],_,_,hk=>f _ hk
 | a ::l,ρ,c,hk=>by
   simp only[Di,Th,qU]at c;obtain⟨hc,c⟩:=c;have hc:=uW hc;have b:wL C n all a.o (vU C n all K (l.map (·.o))) ρ h:=hk;show wL C n all a.o (vU C n all e (l.map (·.o))) ρ h;have i:∀{v:V},mJ n a.o (vU C n all K (l.map (·.o))) v ρ h->mJ n a.o (vU C n all e (l.map (·.o))) v ρ h:=by
     intro v hd;unfold mJ at hd⊢
     cases ho:a.o.dst with
     |none=>rw[ho]at hd;exact FG f c hd
     | some d=>
       rw[ho]at hd;simp only at hd⊢
       cases hb:Nat.blt d n with
       |true=>rw[hb]at hd;exact FG f c hd
       |false=>simp_all
   unfold wL at b⊢;rw[FH hc]at b⊢;simp only at b⊢
   cases hw:jB n all a.o with
   | none=>
     grind[K9,jY,ec]
   | some g=>
     rw[hw]at b
     grind[SD,jY,ec]
theorem G8{C:fg} {n:Nat} {all:List Oper} {ws:List It} {K:fN->Hp->Prop}:∀(l:List It) {k:Nat} {ρ:fN} {h:Hp} {rs:List RE},O6 h rs->M7 C n all ws K l k ρ h rs->Df C n all ws K l k ρ h (qv rs)
 |[],_,_,_,_,hi,hk=>tU hi (λx=>x) hk
 | a ::l,k,ρ,h,rs,hi,hk=>by
   have i:(match Di (a::l)with
     |true=>λ(ρ:fN) (h:Hp) (rs:List RE)=>NC C n all (λρ h=>CD k h rs (K ρ h)) ((a::l).map (·.o)) 0 ρ h
     |false=>YW C n all ws a (M7 C n all ws K l) k:fN->Hp->List RE->Prop) ρ h rs:=hk
   cases hp:Di (a::l)with
   | true=>
     rw[hp]at i;have A:=Ea _ 0 i
     exact Hf (new:=[]) hp (by simp_all) (FG (λρ m=>tU hi (λx=>x) m) hp A)
   | false =>
     rw[hp]at i;simp only at i;show U9 C n all ws a (Df C n all ws K l) k ρ h (qv rs)
     have pure:∀{b:Bool} {v:V},gV b ((il a.o).f (.fn ρ []) h)=some v->∀{j:fN},M7 C n all ws K l k j h ((b,{it:=a,t:= .fn ρ [],v,made:=none,last:=late ws a},zg a.o,false)::rs)->
         Df C n all ws K l k j h ((b,{it:=a,t:= .fn ρ [],v,made:=none,last:=late ws a})::qv rs):=by
       intro b v p j m;refine G8 l (rs:=(b,{it:=a,t:= .fn ρ [],v,made:=none,last:=late ws a},zg a.o,false)::rs) ?_ m;intro r s q u;rcases AJ.1 s with e|e
       ·subst e
        have w:b=true:=q;subst w;refine⟨λB h'=>?_,λ_=>p⟩;show(il a.o).f (.fn ρ []) h' = some v;rw[Rc B _ h' h];exact p
       ·exact hi r e q u
     have dst:∀{b:Bool} {v:V},gV b ((il a.o).f (.fn ρ []) h)=some v->mJ n a.o (λj h=>M7 C n all ws K l k j h ((b,{it:=a,t:= .fn ρ [],v,made:=none,last:=late ws a},zg a.o,false)::rs)) v ρ h->
         mJ n a.o (λj h=>Df C n all ws K l k j h ((b,{it:=a,t:= .fn ρ [],v,made:=none,last:=late ws a})::qv rs)) v ρ h:=by
       intro b v p hd;unfold mJ at hd⊢
       cases ho:a.o.dst with
       |none=>grind
       | some d=>
         grind
     unfold YW at i;unfold U9;generalize hc:cls a.o=c at i;rcases c with _|_|c
     ·simp only at i⊢
      cases hw:jB n all a.o with
      | none=>
        rw[hw]at i;simp only at i⊢;have z:oP ((il a.o).f (.fn ρ []) h) λv=>mJ n a.o (λj h=>M7 C n all ws K l k j h ((true,{it:=a,t:= .fn ρ [],v,made:=none,last:=late ws a},zg a.o,false)::rs)) v ρ h:=by
          cases p:isVal a.o <;> (rw[p]at i;exact i)
        obtain⟨v,A,E⟩:=jY.1 z
        simp_all
      | some g=>
        grind[jY,ec]
     ·simp only at i⊢
      cases hw:jB n all a.o with
      | none=>
        rw[hw]at i;refine mZ i λr H=>B3 (λj h' m=>?_) H;have:=G8 l (rs:=(true,{it:=a,t:= .fn ρ [],v:=r.2 h.next,made:=some (h.next,r.1),last:=late ws a},false,false)::DW rs) (by
          intro r' s q u;rcases AJ.1 s with e|e
          ·simp_all
          ·exact hi.sP h' r' e q u) m
        grind[Df,qv,DW,HY]
      |some g=>simp_all
     ·simp only at i⊢
      have D:∀{v:V} {ρ:fN} {h':Hp},mJ n a.o (λρ h=>M7 C n all ws K l (Nat.succ k) ρ h (DW rs)) v ρ h'->mJ n a.o (λρ h=>Df C n all ws K l (Nat.succ k) ρ h (qv rs)) v ρ h':=λH=>
        B3 (λρ h m=>by have:=G8 l (hi.sP h) m;grind[HY]) H
      cases hw:jB n all a.o with
      | none=>
        grind[tU,Rv]
      | some g=>
        rw[hw]at i;simp only at i⊢
        cases hic:uS a.o with
        |false=>simp_all
        | true=>
          rw[hic]at i;refine tU hi (λH=>mZ H λb H=>mZ H λx H=>?_) i
          cases x with
          |none=>simp_all
          |some y=>exact cP.mono H (by simp_all)
def QD(C:fg) (n:Nat) (all:List Oper) (K:fN->Hp->Prop) (ρ:fN) (h:Hp):Prop:=M7 C n all (gj (items all 0 [])) K (order (items all 0 []) (gj (items all 0 [])) (gj (items all 0 [])) 0) 0 ρ h []
theorem Ri{C:fg}{n:Nat}{all:List Oper}{K:fN->Hp->Prop}{ρ:fN}{h:Hp}(a:QD C n all K ρ h):N6 C n all K ρ h:=G8 (rs:=[]) _ (by intro r b;cases b) a
end
noncomputable def II(tb:List (Nat×List Nat)) (k:Nat):Option (List Nat):=List.rec (motive:=λ_=>Option (List Nat)) none (λx _ a=>Bool.rec (motive:=λ_=>Option (List Nat)) a (some x.2) (Nat.beq x.1 k)) tb
noncomputable def jV(C:fg) (n:Nat) (live:List Nat) (c:Code) (s:XQ) (ρ:fN) (h:Hp):Prop:=∀a:fN,List.rec (motive:=λ_=>Prop) (Wp C n c s a h) (λi _ b=>a i=ρ i->b) live
theorem Sq{C:fg} {n:Nat} {live:List Nat} {c:Code} {s:XQ} {ρ:fN} {h:Hp} (a:jV C n live c s ρ h):Wp C n c s ρ h:=by
 have:=a ρ;clear a
 induction live <;> grind
noncomputable def Mu(C:fg) (n:Nat) (tb:List (Nat×List Nat)) (c:Code):Nat->Nat->XQ->XQ->fN->Hp->Prop:=
 Code.rec (motive:=λ_=>Nat->Nat->XQ->XQ->fN->Hp->Prop)
  (λ_ _ v _=>v .normal)
  (fun _ ops d _ _ v _=>match d with
   |false=>NC C n ops.toList (λρ h=>v .normal ρ h) ops.toList 0
   | true=>match ua ops.toList with
     |true=>QD C n ops.toList (λρ h=>v .normal ρ h)
     |false=>λ_ _=>False)
  (λ_ b a g p e v s=>a p (Nat.mul 2 e) (andThen (Option.rec (motive:=λ_=>fN->Hp->Prop) (g (Nat.add p e) (Nat.mul 2 e) v s) (λlive=>jV C n live b s) (II tb (Nat.mul 2 (Nat.add (Nat.add p e) (Nat.mul 2 e))))) v) (andThen (Wp C n b s) s))
  (λc _ _ a g p e v s ρ h=>Option.rec (motive:=λ_=>Prop) False (λx=>bP x (a p (Nat.mul 2 e) v s ρ h) (g (Nat.add p e) (Nat.mul 2 e) v s ρ h)) ((pI c).f (.fn ρ []) h))
  (λid _ i p e v s=>i p (Nat.mul 2 e) (pE id v) (pE id s))
  (λc _ p e _ s=>Option.rec (motive:=λ_=>fN->Hp->Prop) (λ_ _=>False) (λlive=>jV C n live (.loop c) s) (II tb (Nat.succ (Nat.mul 2 (Nat.add p e)))))
  (λ_ _ _ _ _ _ _ _ _ _ _ _=>False)
  (λid _ _ v _=>v (.exit id))
  (λ_ _ _ _ _ _ _ _=>False)
  (λ_ _ _ _ _ _ _=>False)
  (λ_ _ _ _ _ _ _=>False)
  (λ_ _ v _=>v .ret)
  (λ_ _ _ _ _ _ _=>False) c
theorem xH{k k':fN->Hp->Prop} {v s:XQ} (a:∀ρ h,k ρ h->k' ρ h) (hq:∀x ρ h,v x ρ h->s x ρ h):∀x ρ h,andThen k v x ρ h->andThen k' s x ρ h
 | .normal,_,_,hh=>a _ _ hh
 | .exit _,_,_,hh=>hq _ _ _ hh
 | .ret,_,_,hh=>hq _ _ _ hh
theorem HN{id:Nat} {v s:XQ} (hq:∀x ρ h,v x ρ h->s x ρ h):∀x ρ h,pE id v x ρ h->pE id s x ρ h
 | .normal,_,_,hh=>hq _ _ _ hh
 | .ret,_,_,hh=>hq _ _ _ hh
 | .exit i,ρ,h,hh=>by
   simp only[pE]at hh⊢;cases hb:Nat.beq i id <;> simp_all
theorem rK{C:fg} {n:Nat} {tb:List (Nat×List Nat)}:∀(c:Code) {p e:Nat} {v s:XQ} {ρ:fN} {h:Hp},(∀x ρ h,v x ρ h->s x ρ h)->Mu C n tb c p e v s ρ h->Wp C n c s ρ h
 | .skip,_,_,_,_,_,_,hq,hk=> .skip (hq _ _ _ hk)
 | .region _ ops false,_,_,v,_,ρ,h,hq,hk=>by
   have d:NC C n ops.toList (λρ h=>v .normal ρ h) ops.toList 0 ρ h:=hk
   exact(Wp.region (Ea _ 0 d)).mono hq
 | .region _ ops true,_,_,v,_,ρ,h,hq,hk=>by
   have d:(match ua ops.toList with
       |true=>QD C n ops.toList (λρ h=>v .normal ρ h)
       |false=>λ_ _=>False) ρ h:=hk
   cases hd:ua ops.toList with
   |true=>rw[hd]at d;exact(Wp.draw hd (Ri d)).mono hq
   |false=>simp_all
 | .seq a b,p,e,v,s,ρ,h,hq,hk=>by
   refine .seq (rK a (xH ?_ hq) hk);intro ρ h g
   cases hf:II tb (Nat.mul 2 (Nat.add (Nat.add p e) (Nat.mul 2 e)))with
   |none=>rw[hf]at g;exact rK b hq g
   |some live=>rw[hf]at g;exact Sq g
 | .cond c a b,p,e,v,s,ρ,h,hq,hk=>by
   have d:oP ((pI c).f (.fn ρ []) h) (λx=>bP x (Mu C n tb a p (Nat.mul 2 e) v s ρ h) (Mu C n tb b (Nat.add p e) (Nat.mul 2 e) v s ρ h)):=hk;obtain⟨x,i,d⟩:=jY.1 d
   exact .cond (ec i (bM d (rK a hq) (rK b hq)))
 | .block id c,_,_,_,_,_,_,hq,hk=> .block (rK c (HN hq) hk)
 | .loop c,p,e,v,s,ρ,h,hq,hk=>by
   have d:(Option.rec (motive:=λ_=>fN->Hp->Prop) (λ_ _=>False) (λlive=>jV C n live (.loop c) s) (II tb (Nat.succ (Nat.mul 2 (Nat.add p e)))):fN->Hp->Prop) ρ h:=hk
   cases hf:II tb (Nat.succ (Nat.mul 2 (Nat.add p e)))with
   |none=>simp_all
   |some live=>rw[hf]at d;grind[Sq]
 | .exit id,_,_,_,_,_,_,hq,hk=> .exit (hq _ _ _ hk)
 | .ret,_,_,_,_,_,_,hq,hk=> .ret (hq _ _ _ hk)
 | .rangeFunc ..,_,_,_,_,_,_,_,hk=>hk.elim
 | .scope _,_,_,_,_,_,_,_,hk=>hk.elim
 | .label _,_,_,_,_,_,_,_,hk=>hk.elim
 | .goto _,_,_,_,_,_,_,_,hk=>hk.elim
 | .refuse _,_,_,_,_,_,_,_,hk=>hk.elim
structure OU where
 c:Code
 v:XQ
 s:XQ
 p:Nat
 e:Nat
 ks:List (fN->Hp->Prop)
def UP(l:List (fN->Hp->Prop)):fN->Hp->Prop:=match l with
 |k::_=>k
 |[]=>λ_ _=>False
noncomputable def ka(C:fg) (n:Nat) (tb:List (Nat×List Nat)) (a:OU) (b:Bool):OU:=match a.c,b with
 | .seq x y,false=>{c:=x,v:=andThen (Option.rec (motive:=λ_=>fN->Hp->Prop) (Mu C n tb y (Nat.add a.p a.e) (Nat.mul 2 a.e) a.v a.s) (λlive=>jV C n live y a.s) (II tb (Nat.mul 2 (Nat.add (Nat.add a.p a.e) (Nat.mul 2 a.e))))) a.v,s:=andThen (Wp C n y a.s) a.s,p:=a.p,e:=Nat.mul 2 a.e,ks:=a.ks}
 | .seq _ y,true=>{c:=y,v:=a.v,s:=a.s,p:=Nat.add a.p a.e,e:=Nat.mul 2 a.e,ks:=a.ks}
 | .cond _ x _,false=>{c:=x,v:=a.v,s:=a.s,p:=a.p,e:=Nat.mul 2 a.e,ks:=a.ks}
 | .cond _ _ y,true=>{c:=y,v:=a.v,s:=a.s,p:=Nat.add a.p a.e,e:=Nat.mul 2 a.e,ks:=a.ks}
 | .block id x,false=>{c:=x,v:=pE id a.v,s:=pE id a.s,p:=a.p,e:=Nat.mul 2 a.e,ks:=a.ks}
 | .loop x,false=>{c:=x,v:=andThen (UP a.ks) a.v,s:=andThen (UP a.ks) a.s,p:=a.p,e:=Nat.mul 2 a.e,ks:=a.ks.tail}
 |_,_=>a
noncomputable def XS(C:fg) (n:Nat) (tb:List (Nat×List Nat)) (bs:List Bool):OU->OU:=List.rec (motive:=λ_=>OU->OU) (λa=>a) (λb _ c a=>c (ka C n tb a b)) bs
def Yg(k:Nat):List Bool:=(Nat.rec (motive:=λ_=>Nat->List Bool) (λ_=>[]) (λ_ a p=>match Nat.ble p 1 with
 |true=>[]
 |false=>Nat.beq (Nat.mod p 2) 1::a (Nat.div p 2)) 400:Nat->List Bool) k
def NL(Q:V->Hp->Prop) (ρ:fN) (h:Hp) (l:List ResultVar):List V->Prop:=
 List.rec (motive:=λ_=>List V->Prop) (λb=>Q (vT b.reverse) h) (λr _ c b=>match r with
  | .tmp i=>c (ρ i::b)
  | .cell a ty=>oP ((PK (.cell a ty)).f (.fn ρ []) h) λv=>c (v::b)) l
theorem GY{Q:V->Hp->Prop} {ρ:fN} {h:Hp}:∀{l:List ResultVar} {b:List V},NL Q ρ h l b->oP (wX (.fn ρ []) h l) λvs=>Q (vT (b.reverse++vs)) h
 | [],b,hh=>by
   grind[vT,wX,SO,oP,NL]
 | .tmp i::l,b,hh=>by
   have c:NL Q ρ h l (ρ i::b):=hh;obtain⟨vs,d,e⟩:=jY.1 (GY c);refine ec (show wX (.fn ρ []) h (.tmp i::l)=some (ρ i::vs) from ?_) ?_
   ·show oB (some (ρ i)) _=_
    simp_all
   simp_all
 | .cell a ty::l,b,hh=>by
   have c:oP ((PK (.cell a ty)).f (.fn ρ []) h) λv=>NL Q ρ h l (v::b):=hh;obtain⟨v,h0,c⟩:=jY.1 c;obtain⟨vs,d,e⟩:=jY.1 (GY c)
   simp_all[ec,wX,oB,PK]
def Of(l:List ResultVar) (Q:V->Hp->Prop):XQ
 | .exit _,_,_=>False
 |_,ρ,h=>NL Q ρ h l []
theorem Lt{l:List ResultVar} {Q:V->Hp->Prop}:∀x ρ h,Of l Q x ρ h->yM l Q x ρ h
 | .exit _,_,_,hh=>hh
 | .normal,_,_,hh=>by grind[GY,NL,yM,SY,Of]
 | .ret,_,_,hh=>by grind[GY,NL,yM,SY,Of]
noncomputable def Ry(fn:Func)(ks:List (fN->Hp->Prop))(Q:V->Hp->Prop):OU:={c:=Fe fn,v:=Of fn.results.toList Q,s:=yM fn.results.toList Q,p:=0,e:=1,ks}
noncomputable def fD(C:fg)(fn:Func)(tb:List (Nat×List Nat))(k:Nat)(ks:List (fN->Hp->Prop))(Q:V->Hp->Prop):OU:=XS C fn.ntmps tb (Yg k) (Ry fn ks Q)
noncomputable def WA(C:fg)(fn:Func)(tb:List (Nat×List Nat))(k:Nat)(ks:List (fN->Hp->Prop))(Q:V->Hp->Prop)(ρ:fN)(h:Hp):Prop:=Wp C fn.ntmps (fD C fn tb k ks Q).c (fD C fn tb k ks Q).s ρ h
noncomputable def VA(C:fg)(n:Nat)(tb:List (Nat×List Nat))(a:OU)(ρ:fN)(h:Hp):Prop:=Mu C n tb a.c a.p a.e a.v a.s ρ h
def OU.ok(a:OU):Prop:=∀x ρ h,a.v x ρ h->a.s x ρ h
theorem PH{C:fg} {n:Nat} {tb:List (Nat×List Nat)} {a:OU} (c:a.ok) (b:Bool):(ka C n tb a b).ok:=by
 unfold ka;split
 ·refine xH (λρ h d=>?_) c
  cases hf:II tb (Nat.mul 2 (Nat.add (Nat.add a.p a.e) (Nat.mul 2 a.e)))with
  |none=>rw[hf]at d;exact rK _ c d
  |some live=>rw[hf]at d;exact Sq d
 ·exact c
 ·exact c
 ·exact c
 ·exact HN c
 ·exact xH (by simp_all) c
 ·exact c
theorem Ob{C:fg} {n:Nat} {tb:List (Nat×List Nat)}:∀{bs:List Bool} {a:OU},a.ok->(XS C n tb bs a).ok
 |[],_,ha=>ha
 |b::bs,_,ha=>Ob (bs:=bs) (PH ha b)
theorem Fl{C:fg}{fn:Func}{tb:List (Nat×List Nat)}{k:Nat}{ks:List (fN->Hp->Prop)}{Q:V->Hp->Prop}:(fD C fn tb k ks Q).ok:=Ob Lt
theorem WA.of{C:fg} {fn:Func} {tb:List (Nat×List Nat)} {k:Nat} {ks:List (fN->Hp->Prop)} {Q:V->Hp->Prop} {ρ:fN} {h:Hp} {P:Prop}
  (e:VA C fn.ntmps tb (fD C fn tb k ks Q) ρ h=P) (H:P):WA C fn tb k ks Q ρ h:=rK _ Fl (e.mpr H)
def ND(c:Code):Bool:=match c with
 | .seq (.region _ r0 false) _=>match r0.toList with
   | o::_=>match o.op with
     | .next _ false=>false
     |_=>true
   |[]=>true
 |_=>true
theorem Mp{n:Nat} {c:Code} (h:ND c=true):uX n c=none:=by
 cases hf:uX n c with
 |none=>rfl
 | some F=>
   obtain⟨_,_,_,_,_,_,_,o1,_,_,_,_,_,_,_,rfl,e0,_,_,_,a,_⟩:=JD hf;obtain⟨b,_⟩:=UD a;simp only[ND,e0,b]at h;cases h
def lj(c:Code):Bool:=match c with
 | .loop c=>ND c
 |_=>false
noncomputable def MV(n:Nat) (c:Code):Option lF:=match c with
 | .loop c=>uX n c
 |_=>none
inductive LA (C:fg) (fn:Func) (tb:List (Nat×List Nat)) (k:Nat) (ks:List (fN->Hp->Prop)) (Q:V->Hp->Prop) (K:fN->Hp->Prop) (ρ:fN) (h:Hp):Prop
 |mk (a:VA C fn.ntmps tb (ka C fn.ntmps tb {fD C fn tb k ks Q with ks:=[K]} false) ρ h)
theorem LA.of{C:fg} {fn:Func} {tb:List (Nat×List Nat)} {k:Nat} {ks:List (fN->Hp->Prop)} {Q:V->Hp->Prop} {K:fN->Hp->Prop} {ρ:fN} {h:Hp} {P:Prop}
  (e:VA C fn.ntmps tb (ka C fn.ntmps tb {fD C fn tb k ks Q with ks:=[K]} false) ρ h=P) (H:P):LA C fn tb k ks Q K ρ h:=⟨e.mpr H⟩
theorem WA.loop{C:fg} {fn:Func} {tb:List (Nat×List Nat)} {k:Nat} {ks:List (fN->Hp->Prop)} {Q:V->Hp->Prop} {ρ:fN} {h:Hp} (I:Nat->fN->Hp->Prop) {m:Nat}
  (b:lj (fD C fn tb k ks Q).c=true) (n:(fD C fn tb k ks Q).ks=[])
  (d:∀m ρ h,I m ρ h->LA C fn tb k ks Q (λi h'=>∃g,g<m/\I g i h') ρ h) (h0:I m ρ h):WA C fn tb k ks Q ρ h:=by
 unfold WA;have d:=λm ρ h hi=>(d m ρ h hi).1;have f:(fD C fn tb k ks Q).ok:=Fl;generalize fD C fn tb k ks Q=a at*;obtain⟨c,v,s,p,e,j⟩:=a;cases c <;> simp only[lj]at b <;> try exact absurd b (by decide)
 rename_i c;refine Wp.QY I (λm ρ h hi=>?_) h0 (Mp b);have:=d m ρ h hi;exact rK c (xH (λ_ _ l=>l) f) this
theorem WA.fill{C:fg} {fn:Func} {tb:List (Nat×List Nat)} {k:Nat} {ks:List (fN->Hp->Prop)} {Q:V->Hp->Prop} {ρ f:fN} {h h':Hp} {F:lF} {x:X}
  (b:MV fn.ntmps (fD C fn tb k ks Q).c=some F) (g:Io F (.fn ρ []) h=some (x,.fn f [],h')) (H:(fD C fn tb k ks Q).v x f h'):WA C fn tb k ks Q ρ h:=by
 unfold WA;have d:(fD C fn tb k ks Q).ok:=Fl;generalize fD C fn tb k ks Q=a at*;obtain⟨c,v,s,p,e,i⟩:=a;cases c <;> simp only[MV]at b <;> try cases b
 exact Wp.fill b g (d _ _ _ H)
theorem cP.vc{C:fg} (b:C.start=fT) {f:Nat} {fn:Func} {tb:List (Nat×List Nat)} {args:List V} {h:Hp} {Q:V->Hp->Prop} {P:Prop} (c:P0.funcs[f]? =some fn) (d:fn.body=some (Fe fn))
  (g:C.K f args h=none) (a:Nat.ble args.length fn.ntmps=true) (e:VA C fn.ntmps tb (Ry fn [] Q) (GA args) h=P) (H:P):cP C f args h Q:=
 cP.func b c d g (FY a) (rK _ Lt (e.mpr H))
abbrev LP:=List V->Hp->Prop
def Zo(ρ:fN):List Nat->List V->Prop->Prop
 |i::is,x::xs,P=>ρ i=x->Zo ρ is xs P
 |_,_,P=>P
def kf(is:List Nat)(K:LP):fN->Hp->Prop:=λρ h=>K (is.map ρ) h
def JV(C:fg)(fn:Func)(tb:List (Nat×List Nat))(k:Nat)(is:List Nat)(ks:List (fN->Hp->Prop))(Q:fm):LP:=λl h=>∀ρ:fN,Zo ρ is l (WA C fn tb k ks Q ρ h)
theorem KP{ρ:fN}{P:Prop}:∀{is:List Nat}{l:List V},is.length=l.length->(is.map ρ=l->P)->Zo ρ is l P
 |[],[],_,h=>h rfl
 |[],_::_,e,_=>by cases e
 |_::_,[],e,_=>by cases e
 |i::is,x::l,e,h=>λa=>KP (is:=is) (l:=l) (by simp_all) (by simp_all)
def Tk:Nat->Type
 |0=>Hp->Prop
 |n+1=>V->Tk n
def Kc:(n:Nat)->Tk n->LP
 |0,f,[],h=>f h
 |n+1,f,x::l,h=>Kc n (f x) l h
 |_,_,_,_=>False
@[reducible] def IL (I:Nat->LP) (k:Nat):LP:=λl h=>∃k',k' < k/\I k' l h
section
variable{C:fg}{fn:Func}{tb:List (Nat×List Nat)}{k m:Nat}{is:List Nat}{ks:List (fN->Hp->Prop)}{Q:fm}{h:Hp}{l:List V}
theorem JV.mk(n:Nat)(B:Tk n)(e:∀(ρ:fN)(h:Hp),VA C fn.ntmps tb (fD C fn tb k ks Q) ρ h=Kc n B (is.map ρ) h)(a:is.length=l.length)(H:Kc n B l h):JV C fn tb k is ks Q l h:=λρ=>KP a λb=>by
 subst b;exact WA.of (e ρ h) H
theorem JV.loop(n:Nat)(I:Nat->LP)(B:LP->Tk n)(a:lj (fD C fn tb k ks Q).c=true)(b:(fD C fn tb k ks Q).ks=[])
  (e:∀(K:LP) (ρ:fN) (h:Hp),VA C fn.ntmps tb (ka C fn.ntmps tb {fD C fn tb k ks Q with ks:=[kf is K]} false) ρ h=Kc n (B K) (is.map ρ) h)
  (f:∀m l h,l.length=n->I m l h->Kc n (B (IL I m)) l h) (g:is.length=n) (hlen:is.length=l.length) (h0:I m l h):JV C fn tb k is ks Q l h:=λρ=>KP hlen λd=>by
 subst d;exact WA.loop (λm ρ h=>I m (is.map ρ) h) a b (λm ρ h hi=>LA.of (e (IL I m) ρ h) (by grind)) h0
noncomputable def Ii(k:IntKind) (it u:V) (h:Hp):Option Hp:=pN it λr off=>bB (Nat.beq off 0) (oB (h.get r) λo=>match o with
 | .iter (some m) since [] last=>wz h m λes a=>bB (Nat.beq since a&&Nat.beq last a) (oB (Gg k es) λks=>match u with
   | .map u=>bB (!(Nat.beq u m)) (wz h u λus _=>bB us.isEmpty (some ((h.put r .gone).put u (.IP k ks))))
   |_=>none)
 |_=>none)
theorem lF.ZB(F:lF)(u:Nat)(b:Bool)(ρ:fN):∃c,F.t u b (.fn ρ []) = .fn c []/\∀i,i ∉ F.all.drop 2->c i=ρ i:=by
 have a:∀i,i ∉ F.all.drop 2->gI (F.t u b (.fn ρ [])) i=ρ i:=λi hi=>by
  simp only[lF.all,List.drop,AJ,WL,or_false,not_or]at hi;unfold lF.t;cases b <;> simp only[hN] <;> (repeat' rw[if_neg (by grind)]) <;> rfl
 cases b <;> exact⟨_,rfl,a⟩
theorem SX{F:lF}{ρ:fN} {h h':Hp}(a:Ii F.k (ρ F.it) (ρ F.u) h=some h'):∃b,Io F (.fn ρ []) h=some (.exit F.x,.fn b [],h')/\∀i,i ∉ F.all.drop 2->b i=ρ i:=by
 unfold Ii at a;unfold Io;show ∃b,pN (ρ F.it) _=_/\_;rw[ny]at a;obtain⟨r,off,d,a⟩:=a;rw[fX,eE]at a;obtain⟨e,o,f,a⟩:=a;split at a
 ·simp only[sj,fX,eE]at a;obtain⟨es,c,g,j,ks,l,a⟩:=a;split at a
  ·rename_i u m;simp only[fX,sj]at a;obtain⟨n,us,s,p,q,a⟩:=a;cases a;obtain⟨b,e1,e2⟩:=F.ZB u es.isEmpty ρ;refine⟨b,?_,e2⟩;simp only[d,pN,e,bB,f,oB,wz,g,j,l];rw[show gI (.fn ρ []) F.u = .map u from m];simp only[n,p,q,e1]
  ·cases a
 ·cases a
theorem JV.fill{F:lF}{b:Nat}{a:List Nat}{l2:List V} {h':Hp}(d:MV fn.ntmps (fD C fn tb k ks Q).c=some F)
  (e:∀(ρ:fN) (h:Hp),(fD C fn tb k ks Q).v (.exit F.x) ρ h=JV C fn tb b a ks Q (a.map ρ) h) (hd:∀i∈a,i ∉ F.all.drop 2) (hlen:is.length=l.length)
  (f:∀ρ:fN,is.map ρ=l->a.map ρ=l2/\Ii F.k (ρ F.it) (ρ F.u) h=some h') (H:JV C fn tb b a ks Q l2 h'):JV C fn tb k is ks Q l h:=λρ=>KP hlen λg=>by
 obtain⟨j,m⟩:=f ρ g;obtain⟨n,o,p⟩:=SX m;refine WA.fill d o ?_;rw[e,show a.map n=l2 from j▸List.map_congr_left λi hi=>p i (hd i hi)];exact H
abbrev dF(k:Nat)(x:V)(h:Hp)(K:V->Prop):Prop:=oP (fI k x) λa=>oP (en a h) K
abbrev dN(k:Nat)(x:V)(h:Hp)(K:V->Prop):Prop:=oP (iu x) λa=>dF k a h K
abbrev dI(n:Nat)(x i:V)(k:Nat)(h:Hp)(K:V->Prop):Prop:=oP (gy n x i) λa=>dF k a h K
abbrev dX(n:Nat)(x i:V)(h:Hp)(K:V->Prop):Prop:=oP (gy n x i) λa=>oP (en a h) K
abbrev dG(k:Nat)(x:V)(h:Hp)(K:V->Prop):Prop:=dF k x h λa=>oP (fF a) K
abbrev dJ(k:Nat)(x:V)(n:Nat)(i:V)(j:Nat)(h:Hp)(K:V->Prop):Prop:=dF k x h λa=>dI n a i j h K
abbrev dY(k:Nat)(x:V)(n:Nat)(i:V)(h:Hp)(K:V->Prop):Prop:=dF k x h λa=>dX n a i h K
abbrev bO(o:BinOp)(t:Nat)(a b:V)(A B:Prop):Prop:=oP (ef o t a b) λv=>bP v A B
abbrev bN(a:V)(A B:Prop):Prop:=oP (tk .not a) λv=>bP v A B
theorem oF{k l o:Nat}{h:Hp}{v:V}{K:V->Prop}(a:en (.ptr l (o+k)) h=some v)(b:K v):dF k (.ptr l o) h K:=jY.2 ⟨_,fH _ _ _,jY.2 ⟨_,a,b⟩⟩
theorem oN{k l o:Nat}{h:Hp}{v:V}{K:V->Prop}(a:en (.ptr l (o+k)) h=some v)(b:K v):dN k (.ptr l o) h K:=jY.2 (by simp_all[fj,oF])
theorem cP.vd{C:fg}{f:Nat}{fn:Func}(tb:List (Nat×List Nat)){args:List V}{h:Hp}{Q:fm}{P:Prop}(b:C.start=fT)(c:P0.funcs[f]? =some fn)(d:C.K f args h=none)(H:P)
  (g:fn.body=some (Fe fn):=by kernel_rfl) (a:Nat.ble args.length fn.ntmps=true:=by kernel_rfl) (e:VA C fn.ntmps tb (Ry fn [] Q) (GA args) h=P:=by kernel_rfl):cP C f args h Q:=cP.vc b c g d a e H
abbrev S1(I:Nat->LP)(B:LP->fm):Prop:=∀(k:Nat) (a:V) (h:Hp),I k [a] h->B (IL I k) a h
abbrev R1(B:fm)(J:LP):Prop:=∀{a:V} {h:Hp},B a h->J [a] h
abbrev S2(I:Nat->LP)(B:LP->YK):Prop:=∀(k:Nat) (a b:V) (h:Hp),I k [a,b] h->B (IL I k) a b h
abbrev R2(B:YK)(J:LP):Prop:=∀{a b:V} {h:Hp},B a b h->J [a,b] h
theorem JV.l2(I:Nat->LP)(B:LP->YK)(s:S2 I B)(i:I m l h)(g:l.length=2)(b:lj (fD C fn tb k ks Q).c=true:=by kernel_rfl)(d:(fD C fn tb k ks Q).ks=[]:=by kernel_rfl)
  (e:∀(K:LP) (ρ:fN) (h:Hp),VA C fn.ntmps tb (ka C fn.ntmps tb {fD C fn tb k ks Q with ks:=[kf is K]} false) ρ h=Kc 2 (B K) (is.map ρ) h:=by intros;kernel_rfl) (a:is.length=2:=by rfl):JV C fn tb k is ks Q l h:=
 JV.loop 2 I B b d e (λk l h g i=>match l,g,i with|[f,j],_,i=>s k f j h i) a (a.trans g.symm) i
theorem JV.r2(B:YK)(e:∀(ρ:fN)(h:Hp),VA C fn.ntmps tb (fD C fn tb k ks Q) ρ h=Kc 2 B (is.map ρ) h:=by intros;kernel_rfl)(a:is.length=2:=by rfl):R2 B (JV C fn tb k is ks Q):=λH=>JV.mk 2 B e a H
abbrev S3(I:Nat->LP)(B:LP->JP):Prop:=∀(k:Nat) (a b c:V) (h:Hp),I k [a,b,c] h->B (IL I k) a b c h
abbrev R3(B:JP)(J:LP):Prop:=∀{a b c:V} {h:Hp},B a b c h->J [a,b,c] h
theorem JV.l3(I:Nat->LP)(B:LP->JP)(s:S3 I B)(i:I m l h)(g:l.length=3)(b:lj (fD C fn tb k ks Q).c=true:=by kernel_rfl)(d:(fD C fn tb k ks Q).ks=[]:=by kernel_rfl)
  (e:∀(K:LP) (ρ:fN) (h:Hp),VA C fn.ntmps tb (ka C fn.ntmps tb {fD C fn tb k ks Q with ks:=[kf is K]} false) ρ h=Kc 3 (B K) (is.map ρ) h:=by intros;kernel_rfl) (a:is.length=3:=by rfl):JV C fn tb k is ks Q l h:=
 JV.loop 3 I B b d e (λk l h g i=>match l,g,i with|[f,j,n],_,i=>s k f j n h i) a (a.trans g.symm) i
theorem JV.r3(B:JP)(e:∀(ρ:fN)(h:Hp),VA C fn.ntmps tb (fD C fn tb k ks Q) ρ h=Kc 3 B (is.map ρ) h:=by intros;kernel_rfl)(a:is.length=3:=by rfl):R3 B (JV C fn tb k is ks Q):=λH=>JV.mk 3 B e a H
abbrev S4(I:Nat->LP)(B:LP->Eu):Prop:=∀(k:Nat) (a b c d:V) (h:Hp),I k [a,b,c,d] h->B (IL I k) a b c d h
abbrev R4(B:Eu)(J:LP):Prop:=∀{a b c d:V} {h:Hp},B a b c d h->J [a,b,c,d] h
theorem JV.l4(I:Nat->LP)(B:LP->Eu)(s:S4 I B)(i:I m l h)(g:l.length=4)(b:lj (fD C fn tb k ks Q).c=true:=by kernel_rfl)(d:(fD C fn tb k ks Q).ks=[]:=by kernel_rfl)
  (e:∀(K:LP) (ρ:fN) (h:Hp),VA C fn.ntmps tb (ka C fn.ntmps tb {fD C fn tb k ks Q with ks:=[kf is K]} false) ρ h=Kc 4 (B K) (is.map ρ) h:=by intros;kernel_rfl) (a:is.length=4:=by rfl):JV C fn tb k is ks Q l h:=
 JV.loop 4 I B b d e (λk l h g i=>match l,g,i with|[f,j,n,o],_,i=>s k f j n o h i) a (a.trans g.symm) i
abbrev R5(B:ly)(J:LP):Prop:=∀{a b c d e:V} {h:Hp},B a b c d e h->J [a,b,c,d,e] h
theorem JV.r5(B:ly)(e:∀(ρ:fN)(h:Hp),VA C fn.ntmps tb (fD C fn tb k ks Q) ρ h=Kc 5 B (is.map ρ) h:=by intros;kernel_rfl)(a:is.length=5:=by rfl):R5 B (JV C fn tb k is ks Q):=λH=>JV.mk 5 B e a H
abbrev R6(B:tg)(J:LP):Prop:=∀{a b c d e f:V} {h:Hp},B a b c d e f h->J [a,b,c,d,e,f] h
abbrev S7(I:Nat->LP)(B:LP->AH):Prop:=∀(k:Nat) (a b c d e f g:V) (h:Hp),I k [a,b,c,d,e,f,g] h->B (IL I k) a b c d e f g h
abbrev R7(B:AH)(J:LP):Prop:=∀{a b c d e f g:V} {h:Hp},B a b c d e f g h->J [a,b,c,d,e,f,g] h
theorem JV.l7(I:Nat->LP)(B:LP->AH)(s:S7 I B)(i:I m l h)(g:l.length=7)(b:lj (fD C fn tb k ks Q).c=true:=by kernel_rfl)(d:(fD C fn tb k ks Q).ks=[]:=by kernel_rfl)
  (e:∀(K:LP) (ρ:fN) (h:Hp),VA C fn.ntmps tb (ka C fn.ntmps tb {fD C fn tb k ks Q with ks:=[kf is K]} false) ρ h=Kc 7 (B K) (is.map ρ) h:=by intros;kernel_rfl) (a:is.length=7:=by rfl):JV C fn tb k is ks Q l h:=
 JV.loop 7 I B b d e (λk l h g i=>match l,g,i with|[f,j,n,o,p,q,r],_,i=>s k f j n o p q r h i) a (a.trans g.symm) i
theorem JV.r7(B:AH)(e:∀(ρ:fN)(h:Hp),VA C fn.ntmps tb (fD C fn tb k ks Q) ρ h=Kc 7 B (is.map ρ) h:=by intros;kernel_rfl)(a:is.length=7:=by rfl):R7 B (JV C fn tb k is ks Q):=λH=>JV.mk 7 B e a H
abbrev S8(I:Nat->LP)(B:LP->GX):Prop:=∀(k:Nat) (a b c d e f g i:V) (h:Hp),I k [a,b,c,d,e,f,g,i] h->B (IL I k) a b c d e f g i h
abbrev R8(B:GX)(J:LP):Prop:=∀{a b c d e f g i:V} {h:Hp},B a b c d e f g i h->J [a,b,c,d,e,f,g,i] h
theorem JV.l8(I:Nat->LP)(B:LP->GX)(s:S8 I B)(i:I m l h)(g:l.length=8)(b:lj (fD C fn tb k ks Q).c=true:=by kernel_rfl)(d:(fD C fn tb k ks Q).ks=[]:=by kernel_rfl)
  (e:∀(K:LP) (ρ:fN) (h:Hp),VA C fn.ntmps tb (ka C fn.ntmps tb {fD C fn tb k ks Q with ks:=[kf is K]} false) ρ h=Kc 8 (B K) (is.map ρ) h:=by intros;kernel_rfl) (a:is.length=8:=by rfl):JV C fn tb k is ks Q l h:=
 JV.loop 8 I B b d e (λk l h g i=>match l,g,i with|[f,j,n,o,p,q,r,t],_,i=>s k f j n o p q r t h i) a (a.trans g.symm) i
abbrev S9(I:Nat->LP)(B:LP->Ff):Prop:=∀(k:Nat) (a b c d e f g i j:V) (h:Hp),I k [a,b,c,d,e,f,g,i,j] h->B (IL I k) a b c d e f g i j h
abbrev R9(B:Ff)(J:LP):Prop:=∀{a b c d e f g i j:V} {h:Hp},B a b c d e f g i j h->J [a,b,c,d,e,f,g,i,j] h
theorem JV.l9(I:Nat->LP)(B:LP->Ff)(s:S9 I B)(i:I m l h)(g:l.length=9)(b:lj (fD C fn tb k ks Q).c=true:=by kernel_rfl)(d:(fD C fn tb k ks Q).ks=[]:=by kernel_rfl)
  (e:∀(K:LP) (ρ:fN) (h:Hp),VA C fn.ntmps tb (ka C fn.ntmps tb {fD C fn tb k ks Q with ks:=[kf is K]} false) ρ h=Kc 9 (B K) (is.map ρ) h:=by intros;kernel_rfl) (a:is.length=9:=by rfl):JV C fn tb k is ks Q l h:=
 JV.loop 9 I B b d e (λk l h g i=>match l,g,i with|[f,j,n,o,p,q,r,t,u],_,i=>s k f j n o p q r t u h i) a (a.trans g.symm) i
abbrev DA(B:vW)(J:LP):Prop:=∀{b c d e f g i j k a:V} {h:Hp},B b c d e f g i j k a h->J [b,c,d,e,f,g,i,j,k,a] h
abbrev Z8(B:qy)(J:LP):Prop:=∀{c d e f g i j k l a b:V} {h:Hp},B c d e f g i j k l a b h->J [c,d,e,f,g,i,j,k,l,a,b] h
abbrev YC(B:GO)(J:LP):Prop:=∀{d e f g i j k l m a b c:V} {h:Hp},B d e f g i j k l m a b c h->J [d,e,f,g,i,j,k,l,m,a,b,c] h
abbrev Z7(I:Nat->LP)(B:LP->DV):Prop:=∀(k:Nat) (e f g i j l m n o a b c d:V) (h:Hp),I k [e,f,g,i,j,l,m,n,o,a,b,c,d] h->B (IL I k) e f g i j l m n o a b c d h
abbrev ZU(B:DV)(J:LP):Prop:=∀{e f g i j k l m n a b c d:V} {h:Hp},B e f g i j k l m n a b c d h->J [e,f,g,i,j,k,l,m,n,a,b,c,d] h
theorem JV.Wy(I:Nat->LP)(B:LP->DV)(s:Z7 I B)(i:I m l h)(g:l.length=13)(n:lj (fD C fn tb k ks Q).c=true:=by kernel_rfl)(o:(fD C fn tb k ks Q).ks=[]:=by kernel_rfl)
  (e:∀(K:LP) (ρ:fN) (h:Hp),VA C fn.ntmps tb (ka C fn.ntmps tb {fD C fn tb k ks Q with ks:=[kf is K]} false) ρ h=Kc 13 (B K) (is.map ρ) h:=by intros;kernel_rfl) (j:is.length=13:=by rfl):JV C fn tb k is ks Q l h:=
 JV.loop 13 I B n o e (λk l h g i=>match l,g,i with|[p,q,r,t,u,v,w,x,y,a,b,d,f],_,i=>s k p q r t u v w x y a b d f h i) j (j.trans g.symm) i
abbrev YR(B:I9)(J:LP):Prop:=∀{f g i j k l m n o a b c d e:V} {h:Hp},B f g i j k l m n o a b c d e h->J [f,g,i,j,k,l,m,n,o,a,b,c,d,e] h
theorem JV.r14(B:I9)(e:∀(ρ:fN)(h:Hp),VA C fn.ntmps tb (fD C fn tb k ks Q) ρ h=Kc 14 B (is.map ρ) h:=by intros;kernel_rfl)(a:is.length=14:=by rfl):YR B (JV C fn tb k is ks Q):=λH=>JV.mk 14 B e a H
abbrev R15(B:Zs)(J:LP):Prop:=∀{g i j k l m n o p a b c d e f:V} {h:Hp},B g i j k l m n o p a b c d e f h->J [g,i,j,k,l,m,n,o,p,a,b,c,d,e,f] h
abbrev Z3(B:Zr)(J:LP):Prop:=∀{j k l m n o p q r a b c d e f g i:V} {h:Hp},B j k l m n o p q r a b c d e f g i h->J [j,k,l,m,n,o,p,q,r,a,b,c,d,e,f,g,i] h
abbrev ZX(I:Nat->LP)(B:LP->Tp):Prop:=∀(k:Nat) (l m n o p q r s t a b c d e f g i j:V) (h:Hp),I k [l,m,n,o,p,q,r,s,t,a,b,c,d,e,f,g,i,j] h->B (IL I k) l m n o p q r s t a b c d e f g i j h
abbrev Xt(B:Tp)(J:LP):Prop:=∀{k l m n o p q r s a b c d e f g i j:V} {h:Hp},B k l m n o p q r s a b c d e f g i j h->J [k,l,m,n,o,p,q,r,s,a,b,c,d,e,f,g,i,j] h
theorem JV.Z6(I:Nat->LP)(B:LP->Tp)(s:ZX I B)(i:I m l h)(g:l.length=18)(t:lj (fD C fn tb k ks Q).c=true:=by kernel_rfl)(u:(fD C fn tb k ks Q).ks=[]:=by kernel_rfl)
  (e:∀(K:LP) (ρ:fN) (h:Hp),VA C fn.ntmps tb (ka C fn.ntmps tb {fD C fn tb k ks Q with ks:=[kf is K]} false) ρ h=Kc 18 (B K) (is.map ρ) h:=by intros;kernel_rfl) (r:is.length=18:=by rfl):JV C fn tb k is ks Q l h:=
 JV.loop 18 I B t u e (λk l h g i=>match l,g,i with|[v,w,x,y,z,A,D,E,F,a,b,d,f,j,n,o,p,q],_,i=>s k v w x y z A D E F a b d f j n o p q h i) r (r.trans g.symm) i
theorem JV.ZH(B:Tp)(e:∀(ρ:fN)(h:Hp),VA C fn.ntmps tb (fD C fn tb k ks Q) ρ h=Kc 18 B (is.map ρ) h:=by intros;kernel_rfl)(a:is.length=18:=by rfl):Xt B (JV C fn tb k is ks Q):=λH=>JV.mk 18 B e a H
abbrev nZ:V:= .int .i64 0
abbrev nO:V:= .int .i64 1
abbrev nS:V:= .ed
abbrev bT:V:= .bool true
abbrev bF:V:= .bool false
abbrev zC(T:Nat)(l:List V):Option (O×(Nat->V)):=some (.cells T 1 true false l,λl=> .ptr l 0)
abbrev P3(I:Nat->JP)(B:(JP)->JP):Prop:=∀(k:Nat) (a b c:V) (h:Hp),I k a b c h->B (λa b c h=>∃k',k' < k/\I k' a b c h) a b c h
theorem WA.l3{a b d:Nat}{f i j:V}(I:Nat->JP)(B:(JP)->JP)(s:P3 I B)(g:I m f i j h)(l:lj (fD C fn tb k ks Q).c=true:=by kernel_rfl)(n:(fD C fn tb k ks Q).ks=[]:=by kernel_rfl)
  (e:∀(K:JP) (ρ:fN) (h:Hp),VA C fn.ntmps tb (ka C fn.ntmps tb {fD C fn tb k ks Q with ks:=[λρ h=>K (ρ a) (ρ b) (ρ d) h]} false) ρ h=B K (ρ a) (ρ b) (ρ d) h:=by intros;kernel_rfl):∀ρ:fN,ρ a=f->ρ b=i->ρ d=j->WA C fn tb k ks Q ρ h:=by
 rintro ρ rfl rfl rfl;exact WA.loop (λk ρ h=>I k (ρ a) (ρ b) (ρ d) h) l n (λk ρ h hi=>LA.of (by grind) (s k (ρ a) (ρ b) (ρ d) h hi)) g
abbrev P4(I:Nat->Eu)(B:(Eu)->Eu):Prop:=∀(k:Nat) (a b c d:V) (h:Hp),I k a b c d h->B (λa b c d h=>∃k',k' < k/\I k' a b c d h) a b c d h
theorem WA.l4{a b d f:Nat}{i j l n:V}(I:Nat->Eu)(B:(Eu)->Eu)(s:P4 I B)(g:I m i j l n h)(o:lj (fD C fn tb k ks Q).c=true:=by kernel_rfl)(p:(fD C fn tb k ks Q).ks=[]:=by kernel_rfl)
  (e:∀(K:Eu) (ρ:fN) (h:Hp),VA C fn.ntmps tb (ka C fn.ntmps tb {fD C fn tb k ks Q with ks:=[λρ h=>K (ρ a) (ρ b) (ρ d) (ρ f) h]} false) ρ h=B K (ρ a) (ρ b) (ρ d) (ρ f) h:=by intros;kernel_rfl):∀ρ:fN,ρ a=i->ρ b=j->ρ d=l->ρ f=n->WA C fn tb k ks Q ρ h:=by
 rintro ρ rfl rfl rfl rfl;exact WA.loop (λk ρ h=>I k (ρ a) (ρ b) (ρ d) (ρ f) h) o p (λk ρ h hi=>LA.of (by grind) (s k (ρ a) (ρ b) (ρ d) (ρ f) h hi)) g
abbrev P5(I:Nat->ly)(B:(ly)->ly):Prop:=∀(k:Nat) (a b c d e:V) (h:Hp),I k a b c d e h->B (λa b c d e h=>∃k',k' < k/\I k' a b c d e h) a b c d e h
theorem WA.l5{a b d f i5:Nat}{i j l n o:V}(I:Nat->ly)(B:(ly)->ly)(s:P5 I B)(g:I m i j l n o h)(p:lj (fD C fn tb k ks Q).c=true:=by kernel_rfl)(q:(fD C fn tb k ks Q).ks=[]:=by kernel_rfl)
  (e:∀(K:ly) (ρ:fN) (h:Hp),VA C fn.ntmps tb (ka C fn.ntmps tb {fD C fn tb k ks Q with ks:=[λρ h=>K (ρ a) (ρ b) (ρ d) (ρ f) (ρ i5) h]} false) ρ h=B K (ρ a) (ρ b) (ρ d) (ρ f) (ρ i5) h:=by intros;kernel_rfl):∀ρ:fN,ρ a=i->ρ b=j->ρ d=l->ρ f=n->ρ i5=o->WA C fn tb k ks Q ρ h:=by
 rintro ρ rfl rfl rfl rfl rfl;exact WA.loop (λk ρ h=>I k (ρ a) (ρ b) (ρ d) (ρ f) (ρ i5) h) p q (λk ρ h hi=>LA.of (by grind) (s k (ρ a) (ρ b) (ρ d) (ρ f) (ρ i5) h hi)) g
abbrev P6(I:Nat->tg)(B:(tg)->tg):Prop:=∀(k:Nat) (a b c d e f:V) (h:Hp),I k a b c d e f h->B (λa b c d e f h=>∃k',k' < k/\I k' a b c d e f h) a b c d e f h
theorem WA.l6{a b d f i5 i6:Nat}{i j l n o p:V}(I:Nat->tg)(B:(tg)->tg)(s:P6 I B)(g:I m i j l n o p h)(q:lj (fD C fn tb k ks Q).c=true:=by kernel_rfl)(r:(fD C fn tb k ks Q).ks=[]:=by kernel_rfl)
  (e:∀(K:tg) (ρ:fN) (h:Hp),VA C fn.ntmps tb (ka C fn.ntmps tb {fD C fn tb k ks Q with ks:=[λρ h=>K (ρ a) (ρ b) (ρ d) (ρ f) (ρ i5) (ρ i6) h]} false) ρ h=B K (ρ a) (ρ b) (ρ d) (ρ f) (ρ i5) (ρ i6) h:=by intros;kernel_rfl):∀ρ:fN,ρ a=i->ρ b=j->ρ d=l->ρ f=n->ρ i5=o->ρ i6=p->WA C fn tb k ks Q ρ h:=by
 rintro ρ rfl rfl rfl rfl rfl rfl;exact WA.loop (λk ρ h=>I k (ρ a) (ρ b) (ρ d) (ρ f) (ρ i5) (ρ i6) h) q r (λk ρ h hi=>LA.of (by grind) (s k (ρ a) (ρ b) (ρ d) (ρ f) (ρ i5) (ρ i6) h hi)) g
abbrev P7(I:Nat->AH)(B:(AH)->AH):Prop:=∀(k:Nat) (a b c d e f g:V) (h:Hp),I k a b c d e f g h->B (λa b c d e f g h=>∃k',k' < k/\I k' a b c d e f g h) a b c d e f g h
theorem WA.l7{a b d f i5 i6 i:Nat}{j l n o p q r:V}(I:Nat->AH)(B:(AH)->AH)(s:P7 I B)(g:I m j l n o p q r h)(t:lj (fD C fn tb k ks Q).c=true:=by kernel_rfl)(u:(fD C fn tb k ks Q).ks=[]:=by kernel_rfl)
  (e:∀(K:AH) (ρ:fN) (h:Hp),VA C fn.ntmps tb (ka C fn.ntmps tb {fD C fn tb k ks Q with ks:=[λρ h=>K (ρ a) (ρ b) (ρ d) (ρ f) (ρ i5) (ρ i6) (ρ i) h]} false) ρ h=B K (ρ a) (ρ b) (ρ d) (ρ f) (ρ i5) (ρ i6) (ρ i) h:=by intros;kernel_rfl):∀ρ:fN,ρ a=j->ρ b=l->ρ d=n->ρ f=o->ρ i5=p->ρ i6=q->ρ i=r->WA C fn tb k ks Q ρ h:=by
 rintro ρ rfl rfl rfl rfl rfl rfl rfl;exact WA.loop (λk ρ h=>I k (ρ a) (ρ b) (ρ d) (ρ f) (ρ i5) (ρ i6) (ρ i) h) t u (λk ρ h hi=>LA.of (by grind) (s k (ρ a) (ρ b) (ρ d) (ρ f) (ρ i5) (ρ i6) (ρ i) h hi)) g
abbrev P8(I:Nat->GX)(B:(GX)->GX):Prop:=∀(k:Nat) (a b c d e f g i:V) (h:Hp),I k a b c d e f g i h->B (λa b c d e f g i h=>∃k',k' < k/\I k' a b c d e f g i h) a b c d e f g i h
theorem WA.l8{a b d f i5 i6 i j:Nat}{l n o p q r t u:V}(I:Nat->GX)(B:(GX)->GX)(s:P8 I B)(g:I m l n o p q r t u h)(v:lj (fD C fn tb k ks Q).c=true:=by kernel_rfl)(w:(fD C fn tb k ks Q).ks=[]:=by kernel_rfl)
  (e:∀(K:GX) (ρ:fN) (h:Hp),VA C fn.ntmps tb (ka C fn.ntmps tb {fD C fn tb k ks Q with ks:=[λρ h=>K (ρ a) (ρ b) (ρ d) (ρ f) (ρ i5) (ρ i6) (ρ i) (ρ j) h]} false) ρ h=B K (ρ a) (ρ b) (ρ d) (ρ f) (ρ i5) (ρ i6) (ρ i) (ρ j) h:=by intros;kernel_rfl):∀ρ:fN,ρ a=l->ρ b=n->ρ d=o->ρ f=p->ρ i5=q->ρ i6=r->ρ i=t->ρ j=u->WA C fn tb k ks Q ρ h:=by
 rintro ρ rfl rfl rfl rfl rfl rfl rfl rfl;exact WA.loop (λk ρ h=>I k (ρ a) (ρ b) (ρ d) (ρ f) (ρ i5) (ρ i6) (ρ i) (ρ j) h) v w (λk ρ h hi=>LA.of (by grind) (s k (ρ a) (ρ b) (ρ d) (ρ f) (ρ i5) (ρ i6) (ρ i) (ρ j) h hi)) g
abbrev P9(I:Nat->Ff)(B:(Ff)->Ff):Prop:=∀(k:Nat) (a b c d e f g i j:V) (h:Hp),I k a b c d e f g i j h->B (λa b c d e f g i j h=>∃k',k' < k/\I k' a b c d e f g i j h) a b c d e f g i j h
theorem WA.l9{a b d f i5 i6 i j l:Nat}{n o p q r t u v w:V}(I:Nat->Ff)(B:(Ff)->Ff)(s:P9 I B)(g:I m n o p q r t u v w h)(x:lj (fD C fn tb k ks Q).c=true:=by kernel_rfl)(y:(fD C fn tb k ks Q).ks=[]:=by kernel_rfl)
  (e:∀(K:Ff) (ρ:fN) (h:Hp),VA C fn.ntmps tb (ka C fn.ntmps tb {fD C fn tb k ks Q with ks:=[λρ h=>K (ρ a) (ρ b) (ρ d) (ρ f) (ρ i5) (ρ i6) (ρ i) (ρ j) (ρ l) h]} false) ρ h=B K (ρ a) (ρ b) (ρ d) (ρ f) (ρ i5) (ρ i6) (ρ i) (ρ j) (ρ l) h:=by intros;kernel_rfl):∀ρ:fN,ρ a=n->ρ b=o->ρ d=p->ρ f=q->ρ i5=r->ρ i6=t->ρ i=u->ρ j=v->ρ l=w->WA C fn tb k ks Q ρ h:=by
 rintro ρ rfl rfl rfl rfl rfl rfl rfl rfl rfl;exact WA.loop (λk ρ h=>I k (ρ a) (ρ b) (ρ d) (ρ f) (ρ i5) (ρ i6) (ρ i) (ρ j) (ρ l) h) x y (λk ρ h hi=>LA.of (by grind) (s k (ρ a) (ρ b) (ρ d) (ρ f) (ρ i5) (ρ i6) (ρ i) (ρ j) (ρ l) h hi)) g
abbrev Wv(I:Nat->vW)(B:(vW)->vW):Prop:=∀(k:Nat) (b c d e f g i j l a:V) (h:Hp),I k b c d e f g i j l a h->B (λb c d e f g i j l a h=>∃k',k' < k/\I k' b c d e f g i j l a h) b c d e f g i j l a h
theorem WA.MK{b d f i i5 i6 j l n a:Nat}{p q r t u v w x y o:V}(I:Nat->vW)(B:(vW)->vW)(s:Wv I B)(g:I m p q r t u v w x y o h)(z:lj (fD C fn tb k ks Q).c=true:=by kernel_rfl)(A:(fD C fn tb k ks Q).ks=[]:=by kernel_rfl)
  (e:∀(K:vW) (ρ:fN) (h:Hp),VA C fn.ntmps tb (ka C fn.ntmps tb {fD C fn tb k ks Q with ks:=[λρ h=>K (ρ b) (ρ d) (ρ f) (ρ i) (ρ i5) (ρ i6) (ρ j) (ρ l) (ρ n) (ρ a) h]} false) ρ h=B K (ρ b) (ρ d) (ρ f) (ρ i) (ρ i5) (ρ i6) (ρ j) (ρ l) (ρ n) (ρ a) h:=by intros;kernel_rfl):∀ρ:fN,ρ b=p->ρ d=q->ρ f=r->ρ i=t->ρ i5=u->ρ i6=v->ρ j=w->ρ l=x->ρ n=y->ρ a=o->WA C fn tb k ks Q ρ h:=by
 rintro ρ rfl rfl rfl rfl rfl rfl rfl rfl rfl rfl;exact WA.loop (λk ρ h=>I k (ρ b) (ρ d) (ρ f) (ρ i) (ρ i5) (ρ i6) (ρ j) (ρ l) (ρ n) (ρ a) h) z A (λk ρ h hi=>LA.of (by grind) (s k (ρ b) (ρ d) (ρ f) (ρ i) (ρ i5) (ρ i6) (ρ j) (ρ l) (ρ n) (ρ a) h hi)) g
abbrev Vu(I:Nat->qy)(B:(qy)->qy):Prop:=∀(k:Nat) (c d e f g i j l m a b:V) (h:Hp),I k c d e f g i j l m a b h->B (λc d e f g i j l m a b h=>∃k',k' < k/\I k' c d e f g i j l m a b h) c d e f g i j l m a b h
theorem WA.Ir{d f i j i5 i6 l n o a b:Nat}{r t u v w x y z A p q:V}(I:Nat->qy)(B:(qy)->qy)(s:Vu I B)(g:I m r t u v w x y z A p q h)(D:lj (fD C fn tb k ks Q).c=true:=by kernel_rfl)(E:(fD C fn tb k ks Q).ks=[]:=by kernel_rfl)
  (e:∀(K:qy) (ρ:fN) (h:Hp),VA C fn.ntmps tb (ka C fn.ntmps tb {fD C fn tb k ks Q with ks:=[λρ h=>K (ρ d) (ρ f) (ρ i) (ρ j) (ρ i5) (ρ i6) (ρ l) (ρ n) (ρ o) (ρ a) (ρ b) h]} false) ρ h=B K (ρ d) (ρ f) (ρ i) (ρ j) (ρ i5) (ρ i6) (ρ l) (ρ n) (ρ o) (ρ a) (ρ b) h:=by intros;kernel_rfl):∀ρ:fN,ρ d=r->ρ f=t->ρ i=u->ρ j=v->ρ i5=w->ρ i6=x->ρ l=y->ρ n=z->ρ o=A->ρ a=p->ρ b=q->WA C fn tb k ks Q ρ h:=by
 rintro ρ rfl rfl rfl rfl rfl rfl rfl rfl rfl rfl rfl;exact WA.loop (λk ρ h=>I k (ρ d) (ρ f) (ρ i) (ρ j) (ρ i5) (ρ i6) (ρ l) (ρ n) (ρ o) (ρ a) (ρ b) h) D E (λk ρ h hi=>LA.of (by grind) (s k (ρ d) (ρ f) (ρ i) (ρ j) (ρ i5) (ρ i6) (ρ l) (ρ n) (ρ o) (ρ a) (ρ b) h hi)) g
abbrev Z4(I:Nat->GO)(B:(GO)->GO):Prop:=∀(k:Nat) (d e f g i j l m n a b c:V) (h:Hp),I k d e f g i j l m n a b c h->B (λd e f g i j l m n a b c h=>∃k',k' < k/\I k' d e f g i j l m n a b c h) d e f g i j l m n a b c h
theorem WA.UR{f i j l i5 i6 n o p a b d:Nat}{u v w x y z A D E q r t:V}(I:Nat->GO)(B:(GO)->GO)(s:Z4 I B)(g:I m u v w x y z A D E q r t h)(F:lj (fD C fn tb k ks Q).c=true:=by kernel_rfl)(G:(fD C fn tb k ks Q).ks=[]:=by kernel_rfl)
  (e:∀(K:GO) (ρ:fN) (h:Hp),VA C fn.ntmps tb (ka C fn.ntmps tb {fD C fn tb k ks Q with ks:=[λρ h=>K (ρ f) (ρ i) (ρ j) (ρ l) (ρ i5) (ρ i6) (ρ n) (ρ o) (ρ p) (ρ a) (ρ b) (ρ d) h]} false) ρ h=B K (ρ f) (ρ i) (ρ j) (ρ l) (ρ i5) (ρ i6) (ρ n) (ρ o) (ρ p) (ρ a) (ρ b) (ρ d) h:=by intros;kernel_rfl):∀ρ:fN,ρ f=u->ρ i=v->ρ j=w->ρ l=x->ρ i5=y->ρ i6=z->ρ n=A->ρ o=D->ρ p=E->ρ a=q->ρ b=r->ρ d=t->WA C fn tb k ks Q ρ h:=by
 rintro ρ rfl rfl rfl rfl rfl rfl rfl rfl rfl rfl rfl rfl;exact WA.loop (λk ρ h=>I k (ρ f) (ρ i) (ρ j) (ρ l) (ρ i5) (ρ i6) (ρ n) (ρ o) (ρ p) (ρ a) (ρ b) (ρ d) h) F G (λk ρ h hi=>LA.of (by grind) (s k (ρ f) (ρ i) (ρ j) (ρ l) (ρ i5) (ρ i6) (ρ n) (ρ o) (ρ p) (ρ a) (ρ b) (ρ d) h hi)) g
abbrev P13(I:Nat->DV)(B:(DV)->DV):Prop:=∀(k:Nat) (e f g i j l m n o a b c d:V) (h:Hp),I k e f g i j l m n o a b c d h->B (λe f g i j l m n o a b c d h=>∃k',k' < k/\I k' e f g i j l m n o a b c d h) e f g i j l m n o a b c d h
theorem WA.Wy{i j l n i5 i6 o p q a b d f:Nat}{w x y z A D E F G r t u v:V}(I:Nat->DV)(B:(DV)->DV)(s:P13 I B)(g:I m w x y z A D E F G r t u v h)(H:lj (fD C fn tb k ks Q).c=true:=by kernel_rfl)(J:(fD C fn tb k ks Q).ks=[]:=by kernel_rfl)
  (e:∀(K:DV) (ρ:fN) (h:Hp),VA C fn.ntmps tb (ka C fn.ntmps tb {fD C fn tb k ks Q with ks:=[λρ h=>K (ρ i) (ρ j) (ρ l) (ρ n) (ρ i5) (ρ i6) (ρ o) (ρ p) (ρ q) (ρ a) (ρ b) (ρ d) (ρ f) h]} false) ρ h=B K (ρ i) (ρ j) (ρ l) (ρ n) (ρ i5) (ρ i6) (ρ o) (ρ p) (ρ q) (ρ a) (ρ b) (ρ d) (ρ f) h:=by intros;kernel_rfl):∀ρ:fN,ρ i=w->ρ j=x->ρ l=y->ρ n=z->ρ i5=A->ρ i6=D->ρ o=E->ρ p=F->ρ q=G->ρ a=r->ρ b=t->ρ d=u->ρ f=v->WA C fn tb k ks Q ρ h:=by
 rintro ρ rfl rfl rfl rfl rfl rfl rfl rfl rfl rfl rfl rfl rfl;exact WA.loop (λk ρ h=>I k (ρ i) (ρ j) (ρ l) (ρ n) (ρ i5) (ρ i6) (ρ o) (ρ p) (ρ q) (ρ a) (ρ b) (ρ d) (ρ f) h) H J (λk ρ h hi=>LA.of (by grind) (s k (ρ i) (ρ j) (ρ l) (ρ n) (ρ i5) (ρ i6) (ρ o) (ρ p) (ρ q) (ρ a) (ρ b) (ρ d) (ρ f) h hi)) g
abbrev Z1(I:Nat->I9)(B:(I9)->I9):Prop:=∀(k:Nat) (f g i j l m n o p a b c d e:V) (h:Hp),I k f g i j l m n o p a b c d e h->B (λf g i j l m n o p a b c d e h=>∃k',k' < k/\I k' f g i j l m n o p a b c d e h) f g i j l m n o p a b c d e h
theorem WA.Wh{j l n o i5 i6 p q r a b d f i:Nat}{y z A D E F G H J t u v w x:V}(I:Nat->I9)(B:(I9)->I9)(s:Z1 I B)(g:I m y z A D E F G H J t u v w x h)(L:lj (fD C fn tb k ks Q).c=true:=by kernel_rfl)(M:(fD C fn tb k ks Q).ks=[]:=by kernel_rfl)
  (e:∀(K:I9) (ρ:fN) (h:Hp),VA C fn.ntmps tb (ka C fn.ntmps tb {fD C fn tb k ks Q with ks:=[λρ h=>K (ρ j) (ρ l) (ρ n) (ρ o) (ρ i5) (ρ i6) (ρ p) (ρ q) (ρ r) (ρ a) (ρ b) (ρ d) (ρ f) (ρ i) h]} false) ρ h=B K (ρ j) (ρ l) (ρ n) (ρ o) (ρ i5) (ρ i6) (ρ p) (ρ q) (ρ r) (ρ a) (ρ b) (ρ d) (ρ f) (ρ i) h:=by intros;kernel_rfl):∀ρ:fN,ρ j=y->ρ l=z->ρ n=A->ρ o=D->ρ i5=E->ρ i6=F->ρ p=G->ρ q=H->ρ r=J->ρ a=t->ρ b=u->ρ d=v->ρ f=w->ρ i=x->WA C fn tb k ks Q ρ h:=by
 rintro ρ rfl rfl rfl rfl rfl rfl rfl rfl rfl rfl rfl rfl rfl rfl;exact WA.loop (λk ρ h=>I k (ρ j) (ρ l) (ρ n) (ρ o) (ρ i5) (ρ i6) (ρ p) (ρ q) (ρ r) (ρ a) (ρ b) (ρ d) (ρ f) (ρ i) h) L M (λk ρ h hi=>LA.of (by grind) (s k (ρ j) (ρ l) (ρ n) (ρ o) (ρ i5) (ρ i6) (ρ p) (ρ q) (ρ r) (ρ a) (ρ b) (ρ d) (ρ f) (ρ i) h hi)) g
end
