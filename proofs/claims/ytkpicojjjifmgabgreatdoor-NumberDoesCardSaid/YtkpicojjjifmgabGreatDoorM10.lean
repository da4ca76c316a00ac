/- Parts. -/
import Derived.Test.YtkpicojjjifmgabGreatDoorM09
set_option maxHeartbeats 4000000
namespace Go.Proofs.YtkpicojjjifmgabGreatDoor.Hx
abbrev XQ:=X->gO->Hp->Prop
abbrev fD:=V->Hp->Prop
abbrev QP2:=V->V->Hp->Prop
abbrev Tu:=V->V->V->Hp->Prop
abbrev Ml:=V->V->V->V->Hp->Prop
abbrev KH:=V->V->V->V->V->Hp->Prop
abbrev Q1:=V->V->V->V->V->V->Hp->Prop
abbrev Rm:=V->V->V->V->V->V->V->Hp->Prop
abbrev Mm:=V->V->V->V->V->V->V->V->Hp->Prop
abbrev QP9:=V->V->V->V->V->V->V->V->V->Hp->Prop
abbrev K7:=V->V->V->V->V->V->V->V->V->V->Hp->Prop
abbrev G7:=V->V->V->V->V->V->V->V->V->V->V->Hp->Prop
abbrev zaX:=V->V->V->V->V->V->V->V->V->V->V->V->Hp->Prop
abbrev Jc:=V->V->V->V->V->V->V->V->V->V->V->V->V->Hp->Prop
abbrev zaM:=V->V->V->V->V->V->V->V->V->V->V->V->V->V->Hp->Prop
abbrev zd6:=V->V->V->V->V->V->V->V->V->V->V->V->V->V->V->Hp->Prop
abbrev zcK:=V->V->V->V->V->V->V->V->V->V->V->V->V->V->V->V->V->Hp->Prop
abbrev zdk:=V->V->V->V->V->V->V->V->V->V->V->V->V->V->V->V->V->V->Hp->Prop
def isVal(o:Oper):Bool:=match o.op with
 | .move x| .assign x=>P9 x
 | .makeFunc _ _ _=>true
 | .makeInterface _ x=>P9 x
 |_=>false
theorem Wj{o:Oper} (h:isVal o=true):cls o=0:=by
 grind[isVal,cls]
def opV(C:fu) (o:Oper) (K:V->gO->Hp->Prop):gO->Hp->Prop:=match isVal o with
 |true=>λρ h=>Option.rec (motive:=λ_=>Prop) False (λv=>K v ρ h) ((jb o).f (.fn ρ []) h)
 |false=>Ro C o K
theorem zcN(C:fu) (o:Oper) (K:V->gO->Hp->Prop):opV C o K=Ro C o K:=by
 unfold opV
 cases hv:isVal o with
 |false=>rfl
 | true=>
   unfold Ro;rw[Wj hv];rfl
def VB(C:fu) (n:Nat) (all:List Oper) (o:Oper) (K:gO->Hp->Prop):gO->Hp->Prop:=match Bu o with
 |some _=>λ_ _=>False
 | none=>match lP n all o with
   |none=>opV C o (p7 n o K)
   |some g=>λρ h=>oP (g.f (.fn ρ [])) λb=>ZU C o b (p7 n o K) ρ h
noncomputable section
inductive Gs where
 |last (o:Oper) (d:Nat)
 |op (o:Oper) (d:Nat) (a:Gs)
 |nest (w:Bool) (d:Nat) (sub:Gs) (o:Oper) (b:Nat) (a:Gs)
 |GV (w:Bool) (d:Nat) (sub:Gs) (o:Oper) (b:Nat)
def Gs.dst:Gs->Nat
 | .last _ d=>d
 | .op _ _ r=>r.dst
 | .nest _ _ _ _ _ r=>r.dst
 | .GV _ _ _ _ a=>a
def Gs.ops:Gs->List Oper
 | .last o _=>[o]
 | .op o _ r=>o::r.ops
 | .nest _ _ s o _ r=>s.ops++o::r.ops
 | .GV _ _ s o _=>s.ops++[o]
def gA(w:Bool) (c:V) (x:Option V):Option V:=match w with
 |true=>kE c x
 |false=>og c x
def QC(b:Bool)(x:Option V):V:=Bool.rec (motive:=λ_=>V) V.undef (Option.rec (motive:=λ_=>V) V.undef (λv=>v) x) b
def O7(w:Bool)(v:V):Bool:=Option.rec (motive:=λ_=>Bool) false (λb=>b) (fF w v)
noncomputable def BL(g:Gs):Bool->gO->Hp->gO:=Gs.rec (motive:=λ_=>Bool->gO->Hp->gO) (λo d b ρ h=>fx ρ d (QC b ((jb o).f (.fn ρ []) h))) (λo d _ c b ρ h=>c b (fx ρ d (QC b ((jb o).f (.fn ρ []) h))) h) (λw d _ o e _ a c b ρ h=>c b (fx (a (O7 w (ρ d)) ρ h) e (QC b ((jb o).f (.fn (a (O7 w (ρ d)) ρ h) []) h))) h) (λw d _ o e a b ρ h=>fx (a (O7 w (ρ d)) ρ h) e (QC b ((jb o).f (.fn (a (O7 w (ρ d)) ρ h) []) h))) g
noncomputable def gE(g:Gs):gO->Hp->Option V:=Gs.rec (motive:=λ_=>gO->Hp->Option V) (λo _ ρ h=>(jb o).f (.fn ρ []) h) (λo d _ b ρ h=>oB ((jb o).f (.fn ρ []) h) λv=>b (fx ρ d v) h) (λw d sub _ c _ a b ρ h=>oB (gA w (ρ d) (a ρ h)) λv=>b (fx (BL sub (O7 w (ρ d)) ρ h) c v) h) (λw d _ _ _ a ρ h=>gA w (ρ d) (a ρ h)) g
def Sk(x:Operand) (d:Nat):Bool:=match x with
 | .tmp i=>Nat.beq i d
 |_=>false
def zaY(x:Operand) (b:Bool):Bool:=match x with
 | .const v=>match nN 8 v with
   |some (.bool c)=>c == b
   |_=>false
 |_=>false
def Tz(o:Oper) (w:Bool) (d x:Nat):Bool:=match o.op with
 | .pick c a b=>Sk c d&&(match w with
   |true=>Sk a x&&zaY b false
   |false=>Sk b x&&zaY a true)
 |_=>false
def dOk(n:Nat) (o:Oper) (d:Nat):Bool:=match o.dst with
 |some a=>Nat.beq a d&&Nat.blt d n
 |none=>false
def Yg(n:Nat) (all:List Oper) (o:Oper) (w:Bool) (d:Nat):Bool:=match o.guard with
 | some (j,w')=>(w' == w)&&(match all[j]? with
   |some a=>dOk n a d
   |none=>false)
 |none=>false
def Qr(n:Nat)(all:List Oper)(av:List Nat)(w:Bool)(d:Nat)(o:Oper)(a:Nat):Bool:=Nat.beq (cls o) 0&&Yg n all o w d&&dOk n o a&&av.all (λi=>!(Nat.beq i a))
def Xv(n:Nat) (all:List Oper):List Nat->Bool->Nat->List Nat->Gs->Bool
 |av,w,d,_,.last o a=>Qr n all av w d o a
 |av,w,d,ins,.op o a r=>Qr n all av w d o a&&Xv n all av w d (a::ins) r
 |av,w,d,ins,.nest w' a s o b r=>ins.any (λi=>Nat.beq i a)&&Xv n all (a::av) w' a [] s&&Qr n all av w d o b&&Tz o w' a s.dst&&Xv n all av w d (b::ins) r
 |av,w,d,ins, .GV w' a s o b=>ins.any (λi=>Nat.beq i a)&&Xv n all (a::av) w' a [] s&&Qr n all av w d o b&&Tz o w' a s.dst
def Ch(n:Nat) (all:List Oper) (h:Hp):List Oper->gO->gO->Prop
 |[],ρ,ρ'=>ρ' = ρ
 | o::os,ρ,ρ'=>cls o=0/\∃d v,o.dst=some d/\Nat.blt d n=true/\((lP n all o=none/\(jb o).f (.fn ρ []) h=some v)\/
   ∃g b,lP n all o=some g/\g.f (.fn ρ [])=some b/\gV b ((jb o).f (.fn ρ []) h)=some v)/\Ch n all h os (fx ρ d v) ρ'
theorem Ch.app{n:Nat} {all:List Oper} {h:Hp}:∀{os a:List Oper} {ρ e f:gO},Ch n all h os ρ e->Ch n all h a e f->Ch n all h (os++a) ρ f
 |[],_,_,_,_,b,c=>by cases b;exact c
 |_::_,_,_,_,_,⟨hc,d,v,b,c,g,i⟩,j=>⟨hc,d,v,b,c,g,i.app j⟩
theorem MG(ρ:gO)(d:Nat)(v:V):fx ρ d v d=v:=Wu ρ d v
theorem Y3{n:Nat} {all:List Oper} {o:Oper} {w:Bool} {d:Nat} (a:Yg n all o w d=true):∃g,lP n all o=some g/\∀ρ:gO,g.f (.fn ρ [])=fF w (ρ d):=by
 unfold Yg at a;split at a
 ·rename_i j w' b;simp only[vH,Cw]at a;obtain⟨e,a⟩:=a;subst e;split at a
  ·rename_i l h;unfold dOk at a;split at a
   ·rename_i m i;simp only[vH]at a;obtain⟨c,k⟩:=a;have c:=Cr c;subst c;refine⟨_,by simp only[lP,b,h,i,k];rfl,λρ=>rfl⟩
   simp_all
  simp_all
 simp_all
theorem VJ{n:Nat} {all:List Oper} {av:List Nat} {w:Bool} {d:Nat} {o:Oper} {a:Nat} (b:Qr n all av w d o a=true) :
  cls o=0/\(∃g,lP n all o=some g/\∀ρ:gO,g.f (.fn ρ [])=fF w (ρ d))/\o.dst=some a/\Nat.blt a n=true/\∀i∈av,i≠a:=by
 unfold Qr at b;simp only[vH]at b;obtain⟨⟨⟨e,h⟩,c⟩,k⟩:=b;refine⟨Cr e,Y3 h,?_⟩;unfold dOk at c;split at c
 ·rename_i j l;simp only[vH]at c
  grind[Cr,Rp,W8,absurd]
 simp_all
theorem On{x:Operand} {d:Nat} (h:Sk x d=true):x = .tmp d:=by
 unfold Sk at h
 grind[Cr,absurd]
theorem VR{x:Operand} {b:Bool} (hx:zaY x b=true) (t:Tm) (h:Hp):(ud x).f t h=some (.bool b):=by
 unfold zaY at hx;split at hx
 ·rename_i v;split at hx
  ·rename_i c hc;have e:c=b:=by simpa using hx
   subst e;show(OD (.const v)).f t=_
   grind[OD]
  simp_all
 simp_all
theorem U6{o:Oper} {w:Bool} {d x:Nat} (hp:Tz o w d x=true) {ρ:gO} {h:Hp} {c:Bool} (hc:ρ d = .bool c):(jb o).f (.fn ρ []) h=some (match w,c with
  |true,true=>ρ x
  |true,false=> .bool false
  |false,false=>ρ x
  |false,true=> .bool true)/\cls o=0:=by
 unfold Tz at hp;split at hp
 ·rename_i c' a b g;simp only[vH]at hp;obtain⟨j,e⟩:=hp;have k:=On j;subst k;refine⟨?_,by grind[cls]⟩;have e0:(ud (.tmp d)).f (.fn ρ []) h=some (.bool c):=by show some (ρ d)=_;rw[hc]
  unfold jb;rw[g];simp only[LO,e0,oB]
  cases w with
  | true=>
    simp only[vH]at e;have i:=On e.1;subst i
    cases c with
    |true=>rfl
    |false=>grind[VR]
  | false=>
    simp only[vH]at e;have i:=On e.1;subst i
    cases c with
    |true=>grind[VR]
    |false=>rfl
 simp_all
theorem Vg{w:Bool} {c:V} {x:Option V} {v:V} (a:gA w c x=some v):∃b,c = .bool b/\fF w c=some (b == w)/\((b=w/\x=some v)\/(b≠w/\v = .bool (!w))):=by
 unfold gA at a
 cases w with
 | true=>
   simp only[kE]at a;split at a
   ·cases a;simp_all
   ·simp_all
   ·cases a
 | false=>
   simp only[og]at a;split at a
   ·cases a;simp_all
   ·simp_all
   ·cases a
theorem Sr(ρ:gO){d i:Nat}(v:V)(h:i≠d):fx ρ d v i=ρ i:=zbg ρ v h
theorem Ch.one{n:Nat} {all:List Oper} {av:List Nat} {w:Bool} {d:Nat} {o:Oper} {a:Nat} (c:Qr n all av w d o a=true) {ρ:gO} {h:Hp} {b:Bool} (hb:fF w (ρ d)=some b) {v:V}
  (hv:gV b ((jb o).f (.fn ρ []) h)=some v):Ch n all h [o] ρ (fx ρ a v):=by
 obtain⟨e,⟨g,k,l⟩,i,j,m⟩:=VJ c;exact⟨e,a,v,i,j,by grind,rfl⟩
theorem Mw{b:Bool} {x:Option V} {v:V} (h:gV b x=some v):QC b x=v:=by
 cases b with
 |true=>have h':x=some v:=h;subst h';rfl
 |false=>cases h;rfl
def RL(n:Nat) (all:List Oper) (av:List Nat) (os:List Oper) (b:Bool) (ρ a:gO) (h:Hp) (d:Nat) (x:V):Prop:=Ch n all h os ρ a/\a d=x/\(∀i∈av,a i=ρ i)/\(b=false->∀i,ρ i = .undef->a i = .undef)
theorem RL.one{n:Nat} {all:List Oper} {av:List Nat} {w:Bool} {d:Nat} {o:Oper} {a:Nat} (c:Qr n all av w d o a=true) {ρ:gO} {h:Hp} {b:Bool} (hb:fF w (ρ d)=some b) {v:V}
  (hv:gV b ((jb o).f (.fn ρ []) h)=some v):RL n all av [o] b ρ (fx ρ a v) h a v:=by
 obtain⟨_,_,_,_,g⟩:=VJ c;refine⟨Ch.one c hb hv,MG _ _ _,by grind[Sr],λe i hi=>?_⟩;subst e;cases hv
 grind[MG,Sr]
theorem RL.trans{n:Nat} {all:List Oper} {av:List Nat} {os a:List Oper} {b:Bool} {ρ g j:gO} {h:Hp} {d k:Nat} {x l:V} (f:RL n all av os b ρ g h d x) (c:RL n all av a b g j h k l):RL n all av (os++a) b ρ j h k l:=
 ⟨f.1.app c.1,c.2.1,λi hi=>(c.2.2.1 i hi).trans (f.2.2.1 i hi),λe i hi=>c.2.2.2 e i (f.2.2.2 e i hi)⟩
theorem WB{n:Nat} {all:List Oper}:∀(g:Gs) {av:List Nat} {w:Bool} {d:Nat} {k:List Nat},Xv n all av w d k g=true->d∈av->∀{ρ:gO} {h:Hp} {b:Bool},fF w (ρ d)=some b->
  (b=false->∀i∈k,ρ i = .undef)->∀{x:V},gV b (gE g ρ h)=some x->RL n all av g.ops b ρ (BL g b ρ h) h g.dst x:=by
 have nest:∀(s:Gs),(∀{av:List Nat} {w:Bool} {d:Nat} {k:List Nat},Xv n all av w d k s=true->d∈av->∀{ρ:gO} {h:Hp} {b:Bool},fF w (ρ d)=some b->
    (b=false->∀i∈k,ρ i = .undef)->∀{x:V},gV b (gE s ρ h)=some x->RL n all av s.ops b ρ (BL s b ρ h) h s.dst x)->
   ∀{av:List Nat} {w w':Bool} {d l t:Nat} {k:List Nat} {o:Oper},k.any (λi=>Nat.beq i l)=true->Xv n all (l::av) w' l [] s=true->Qr n all av w d o t=true->Tz o w' l s.dst=true->d∈av->
   ∀{ρ:gO} {h:Hp} {b:Bool},fF w (ρ d)=some b->(b=false->∀i∈k,ρ i = .undef)->∀{v:V},gV b (gA w' (ρ l) (gE s ρ h))=some v->
   gV b ((jb o).f (.fn (BL s (O7 w' (ρ l)) ρ h) []) h)=some v/\RL n all av (s.ops++[o]) b ρ (fx (BL s (O7 w' (ρ l)) ρ h) t v) h t v:=by
  intro s D av w w' d l t k o I hc U hp p ρ h b hb hi v hv;obtain⟨i,Z,J⟩:=List.any_eq_true.1 I;have e:=Cr J;subst e
  cases b with
  | true=>
    obtain⟨c,K,E,W⟩:=Vg (show gA w' (ρ i) (gE s ρ h)=some v from hv);have L:O7 w' (ρ i)=(c == w'):=by unfold O7;rw[E]
    rw[L];obtain⟨y,hy⟩:∃y,gV (c == w') (gE s ρ h)=some y/\(c=w'->y=v):=by
      rcases W with⟨F,M⟩|⟨F,M⟩
      ·simp_all
      ·have:(c == w')=false:=by simp[F]
       rw[this];simp_all
    obtain⟨N,X,O,k4⟩:=D hc (ZP ..) E (by simp_all) hy.1;have P:BL s (c == w') ρ h i = .bool c:=by rw[O i (ZP ..)];exact K
    have Q:=(U6 hp (h:=h) P).1;have u:(jb o).f (.fn (BL s (c == w') ρ h) []) h=some v:=by
      rw[Q,X];rcases W with⟨F,M⟩|⟨F,M⟩
      ·grind
      ·grind
    refine⟨u,?_⟩;have a:=RL.one U (ρ:=BL s (c == w') ρ h) (h:=h) (b:=true) (by simp_all) (v:=v) u
    refine⟨N.app a.1,a.2.1,λj G=>(a.2.2.1 j G).trans (by simp_all),by simp_all⟩
  | false=>
    have K:ρ i = .undef:=by simp_all
    have E:fF w' (ρ i)=some false:=by rw[K];rfl
    have L:O7 w' (ρ i)=false:=by unfold O7;rw[E]
    rw[L];cases hv;obtain⟨N,X,O,k4⟩:=D hc (ZP ..) E (by simp_all) (x:= .undef) rfl;refine⟨rfl,?_⟩;have a:=RL.one U (ρ:=BL s false ρ h) (h:=h) (b:=false) (by rw[O d (wBX _ p)];exact hb) (v:= .undef) rfl;exact⟨N.app a.1,a.2.1,λj G=>(a.2.2.1 j G).trans (by simp_all),λe j G=>a.2.2.2 e j (by simp_all)⟩
 intro g
 induction g with
 | last o l=>
   intro av w d k q p ρ h b hb hi x hx;have m:gV b ((jb o).f (.fn ρ []) h)=some x:=hx;show RL n all av [o] b ρ (fx ρ l (QC b ((jb o).f (.fn ρ []) h))) h l x;rw[Mw m]
   exact RL.one q hb m
 | op o l r D=>
   intro av w d k q p ρ h b hb hi x hx;simp only[Xv,vH]at q;obtain⟨v,hv,m⟩:∃v,gV b ((jb o).f (.fn ρ []) h)=some v/\gV b (gE r (fx ρ l v) h)=some x:=by
     cases b with
     | true=>
       obtain⟨v,z,A⟩:=fy.1 (show oB ((jb o).f (.fn ρ []) h) _=some x from hx)
       exact⟨v,z,A⟩
     |false=>simp_all
   have a:=RL.one q.1 hb hv;show RL n all av ([o]++r.ops) b ρ (BL r b (fx ρ l (QC b ((jb o).f (.fn ρ []) h))) h) h r.dst x;rw[Mw hv];refine a.trans (D q.2 p (by rw[a.2.2.1 d p];exact hb) ?_ m);intro e i B;rcases IS.1 B with R|R
   ·simp_all[MG]
   ·exact a.2.2.2 e i (by simp_all)
 | nest w' l s o t r C D=>
   intro av w d k q p ρ h b hb hi x hx;simp only[Xv,vH]at q;obtain⟨⟨⟨⟨z,A⟩,S⟩,T⟩,h5⟩:=q;obtain⟨v,hv,m⟩:∃v,gV b (gA w' (ρ l) (gE s ρ h))=some v/\gV b (gE r (fx (BL s (O7 w' (ρ l)) ρ h) t v) h)=some x:=by
     cases b with
     | true=>
       obtain⟨v,z,A⟩:=fy.1 (show oB (gA w' (ρ l) (gE s ρ h)) _=some x from hx)
       exact⟨v,z,A⟩
     |false=>simp_all
   obtain⟨Y,H⟩:=nest s C z A S T p hb hi hv;show RL n all av (s.ops++([o]++r.ops)) b ρ (BL r b (fx (BL s (O7 w' (ρ l)) ρ h) t (QC b ((jb o).f (.fn (BL s (O7 w' (ρ l)) ρ h) []) h))) h) h r.dst x;rw[Mw Y,<-Lb];refine H.trans (D h5 p (by rw[H.2.2.1 d p];exact hb) ?_ m);intro e i B;rcases IS.1 B with R|R
   ·simp_all[MG]
   ·exact H.2.2.2 e i (by simp_all)
 | GV w' l s o t C=>
   intro av w d k q p ρ h b hb hi x hx;simp only[Xv,vH]at q;obtain⟨⟨⟨z,A⟩,S⟩,T⟩:=q;obtain⟨Y,H⟩:=nest s C z A S T p hb hi (show gV b (gA w' (ρ l) (gE s ρ h))=some x from hx);show RL n all av (s.ops++[o]) b ρ (fx (BL s (O7 w' (ρ l)) ρ h) t (QC b ((jb o).f (.fn (BL s (O7 w' (ρ l)) ρ h) []) h))) h t x
   grind[Mw]
inductive Uh where
 |op (o:Oper) (d:Nat)
 |nest (w:Bool) (d:Nat) (sub:Gs) (o:Oper) (a:Nat)
def Uh.dst:Uh->Nat
 | .op _ d=>d
 | .nest _ _ _ _ a=>a
def Uh.ops:Uh->List Oper
 | .op o _=>[o]
 | .nest _ _ s o _=>s.ops++[o]
def Uh.one:Uh->Gs
 | .op o d=> .last o d
 | .nest w d s o a=> .GV w d s o a
def Uh.cons(r:Gs):Uh->Gs
 | .op o d=> .op o d r
 | .nest w d s o a=> .nest w d s o a r
def zfn(all:List Oper) (o:Oper):Option (Bool×Nat):=match o.guard with
 | some (j,w)=>match all[j]? with
   | some a=>match a.dst with
     |some d=>some (w,d)
     |none=>none
   |none=>none
 |none=>none
def QR(n : Nat) (all:List Oper) (gpV:Bool->Nat->List Nat->List Oper->Option (Gs×List Oper)) (w:Bool) (d:Nat) (a:List Nat) (os:List Oper):Option (Uh×List Oper):=match os with
  |[]=>none
  | o ::os'=>match Yg n all o w d&&Nat.beq (cls o) 0,o.dst with
    |true,some d'=>some (.op o d',os')
    | _,_ => match zfn all o with
      |none=>none
      | some (w',d')=>match a.any (λi=>Nat.beq i d')with
        |false=>none
        | true=>match gpV w' d' [] (o::os')with
          | some (s,p::os'')=>match Yg n all p w d&&Tz p w' d' s.dst,p.dst with
            |true,some dp=>some (.nest w' d' s p dp,os'')
            |_,_=>none
          |_=>none
noncomputable def gpV(n:Nat) (all:List Oper) (fuel:Nat):Bool->Nat->List Nat->List Oper->Option (Gs×List Oper):=
 Nat.rec (motive:=λ_=>Bool->Nat->List Nat->List Oper->Option (Gs×List Oper)) (λ_ _ _ _=>none) (λ_ b w d a os=>match QR n all b w d a os with
  |none=>none
  | some (it,os')=>match b w d (it.dst::a) os' with
    |some (g,r)=>some (it.cons g,r)
    |none=>some (it.one,os')) fuel
theorem TY{n:Nat} {all:List Oper} {gpV:Bool->Nat->List Nat->List Oper->Option (Gs×List Oper)} (b:∀w d a os g r,gpV w d a os=some (g,r)->os=g.ops++r) {w:Bool} {d:Nat} {a:List Nat} {os:List Oper} {it:Uh} {r:List Oper}
  (h:QR n all gpV w d a os=some (it,r)):os=it.ops++r:=by
 unfold QR at h;split at h
 ·cases h
 ·split at h
  ·cases h;rfl
  ·split at h
   ·cases h
   grind[Uh.ops,Lb]
theorem Q5{n:Nat} {all:List Oper}:∀(fuel:Nat) (w:Bool) (d:Nat) (a:List Nat) (os:List Oper) (g:Gs) (r:List Oper),gpV n all fuel w d a os=some (g,r)->os=g.ops++r
 |0,_,_,_,_,_,_,h=>by cases h
 | fuel+1,w,d,a,os,g,r,h=>by
   have h':(match QR n all (gpV n all fuel) w d a os with
     |none=>none
     | some (it,b)=>match gpV n all fuel w d (it.dst::a) b with
       |some (g,r)=>some (it.cons g,r)
       |none=>some (it.one,b))=some (g,r):=h
   split at h'
   ·cases h'
   ·rename_i it b c
    have f:=TY (λw d a os g r e=>Q5 fuel w d a os g r e) c;split at h'
    ·rename_i j r' e
     cases h';have i:=Q5 fuel _ _ _ _ _ _ e;rw[f,i];cases it <;> simp[Uh.ops,Uh.cons,Gs.ops]
    ·cases h'
     rw[f];cases it <;> simp[Uh.ops,Uh.one,Gs.ops]
noncomputable def X5(n:Nat) (all:List Oper) (os:List Oper):Option (Bool×Nat×Gs×Nat):=match os with
 |[]=>none
 | o ::_ => match o.guard with
   |none=>none
   | some (j,w)=>match all[j]? with
     |none=>none
     | some a=>match a.guard,a.dst,Nat.beq (cls o) 0 with
       | none,some d,true=>match gpV n all 60 w d [] os with
         | some (g,p::_)=>match p.guard,p.dst with
           | none,some dp=>match Tz p w d g.dst&&Nat.blt dp n&&Xv n all [d] w d [] g with
             |true=>some (w,d,g,dp)
             |false=>none
           |_,_=>none
         |_=>none
       |_,_,_=>none
theorem za3{n:Nat} {all os:List Oper} {w:Bool} {d:Nat} {g:Gs} {a:Nat} (h:X5 n all os=some (w,d,g,a)):∃p r,os=g.ops++p::r/\p.guard=none/\p.dst=some a/\Tz p w d g.dst=true/\Nat.blt a n=true/\Xv n all [d] w d [] g=true:=by
 unfold X5 at h;split at h
 ·cases h
 ·split at h
  ·cases h
  ·split at h
   ·cases h
   ·split at h
    ·split at h
     ·rename_i c;split at h
      ·rename_i e f;split at h
       ·rename_i b;cases h;simp only[vH]at b
        grind[Q5]
       ·cases h
      ·cases h
     ·cases h
    ·cases h
theorem HS{n:Nat} {o:Oper} {K a:gO->Hp->Prop} (b:∀ρ h,K ρ h->a ρ h) {v:V} {ρ:gO} {h:Hp} (c:p7 n o K v ρ h):p7 n o a v ρ h:=by
 grind[p7,Nat.blt]
theorem qC{α:Type}{x:Option α}{k k':α->Prop}(h:oP x k)(f:∀a,k a->k' a):oP x k':=by grind[oM]
theorem Yd{C:fu} {o:Oper} {K b:V->gO->Hp->Prop} (e:∀v ρ h,K v ρ h->b v ρ h) {ρ:gO} {h:Hp} (d:Ro C o K ρ h):Ro C o b ρ h:=by
 unfold Ro at d⊢;generalize cls o=c at d⊢;rcases c with _|_|c
 ·grind[qC]
 ·grind[qC]
 ·show RU C o b ρ h;have a:RU C o K ρ h:=d;unfold RU at a⊢;cases hi:zP o
  all_goals rw[hi]at a
  ·grind[qC]
  ·exact qC a λx H=>H.mono (by simp_all)
theorem XN{C:fu} {o:Oper} {b:Bool} {K d:V->gO->Hp->Prop} (e:∀v ρ h,K v ρ h->d v ρ h) {ρ:gO} {h:Hp} (a:ZU C o b K ρ h):ZU C o b d ρ h:=by
 unfold ZU at a⊢;generalize cls o=c at a⊢;rcases c with _|_|c
 ·grind[qC]
 ·grind[qC]
 ·simp only at a⊢;cases hi:zP o
  all_goals rw[hi]at a
  ·grind[qC]
  ·refine qC a λx H=>?_
   cases x with
   |none=>simp_all
   |some y=>exact cP.mono H (by simp_all)
theorem TJ{C:fu} {n:Nat} {all:List Oper} {o:Oper} {K b:gO->Hp->Prop} (c:∀ρ h,K ρ h->b ρ h) {ρ:gO} {h:Hp} (a:Bo C n all o K ρ h):Bo C n all o b ρ h:=by
 unfold Bo at a⊢
 cases hd:Bu o with
 |some q=>simp_all
 | none=>
   rw[hd]at a;simp only at a⊢
   cases hw:lP n all o with
   |none=>rw[hw]at a;grind[Yd,HS]
   |some g=>grind[qC,XN,HS]
theorem XU(C:fu) (n:Nat) (all:List Oper) (o:Oper) (K:gO->Hp->Prop):VB C n all o K=Bo C n all o K:=by
 grind[VB,Bo,zcN]
theorem Lv{o:Oper} (h:cls o=0):Bu o=none:=by
 grind[Bu,cls]
theorem Ch.AE{C:fu} {n:Nat} {all:List Oper} {h:Hp} {K:gO->Hp->Prop} {a:List Oper}:∀{os:List Oper} {ρ b:gO},Ch n all h os ρ b->AE C n all K a b h->AE C n all K (os++a) ρ h
 |[],_,_,hc,hk=>by cases hc;exact hk
 | o::os,ρ,b,⟨h0,d,v,c,e,i,f⟩,hk=>by
   have g:=f.AE (C:=C) (K:=K) hk;have j:p7 n o (Hx.AE C n all K (os++a)) v ρ h:=by unfold p7;rw[c];simp only[e];exact g
   show Bo C n all o (Hx.AE C n all K (os++a)) ρ h
   grind[Bo,Lv,Ro,eh,ZU]
noncomputable def TO(C:fu) (n:Nat) (all:List Oper) (K:gO->Hp->Prop) (os:List Oper):Nat->gO->Hp->Prop:=
 List.rec (motive:=λ_=>Nat->gO->Hp->Prop) (λ_=>K) (λo os a b=>Nat.rec (motive:=λ_=>gO->Hp->Prop)
  (match X5 n all (o::os)with
   |some (w,d,g,dp)=>λρ h=>oP (gA w (ρ d) (gE g ρ h)) λv=>a g.ops.length (fx (BL g (O7 w (ρ d)) ρ h) dp v) h
   |none=>VB C n all o (a 0)) (λk _=>a k) b) os
theorem JP{C:fu} {n:Nat} {all:List Oper} {K:gO->Hp->Prop}:∀(os:List Oper) (e:Nat) {ρ:gO} {h:Hp},TO C n all K os e ρ h->AE C n all K (os.drop e) ρ h
 |[],e,ρ,h,hk=>by rw[List.drop_nil];exact hk
 |o::os,e+1,ρ,h,hk=>JP os e hk
 | o ::os,0,ρ,h,hk=>by
   have a:(match X5 n all (o::os)with
     |some (w,d,g,k)=>λ(ρ:gO) (h:Hp)=>oP (gA w (ρ d) (gE g ρ h)) λv=>TO C n all K os g.ops.length (fx (BL g (O7 w (ρ d)) ρ h) k v) h
     |none=>VB C n all o (TO C n all K os 0):gO->Hp->Prop) ρ h:=hk
   show AE C n all K (o::os) ρ h
   cases hg:X5 n all (o::os)with
   | some x=>
     obtain⟨w,d,g,k⟩:=x;rw[hg]at a;simp only at a;obtain⟨p,r,q,N,A,b,i,B⟩:=za3 hg;obtain⟨v,D,s⟩:=lL.1 a;obtain⟨c,E,c2,t⟩:=Vg D;have F:O7 w (ρ d)=(c == w):=by unfold O7;rw[c2]
     rw[F]at s;obtain⟨y,G⟩:∃y,gV (c == w) (gE g ρ h)=some y/\(c=w->y=v):=by
       rcases t with⟨b,i⟩|⟨b,i⟩
       ·simp_all
       ·have:(c == w)=false:=by simp[b]
        rw[this];simp_all
     obtain⟨H,I,J,O⟩:=WB g B (ZP ..) c2 (by simp_all) G.1;have l:BL g (c == w) ρ h d = .bool c:=by rw[J d (ZP ..)];exact E
     have j:=U6 b (h:=h) l;have u:(jb p).f (.fn (BL g (c == w) ρ h) []) h=some v:=by
       rw[j.1,I];rcases t with⟨b,i⟩|⟨b,i⟩
       ·grind
       ·grind
     have m:Ch n all h [p] (BL g (c == w) ρ h) (fx (BL g (c == w) ρ h) k v):=⟨j.2,k,v,A,i,by grind[lP],rfl⟩
     have hlen:os.drop g.ops.length=r:=by
       have L:(o::os).drop (g.ops.length+1)=r:=by rw[q,List.append_cons];exact by simp_all
       exact L
     have z:=JP os _ s;rw[hlen]at z;rw[q,List.append_cons]
     exact(H.app m).AE z
   | none=>
     rw[hg]at a;simp only[XU]at a;exact TJ (λρ h M=>by have:=JP os 0 M;exact this) a
def Ea(o:Oper):Bool:=match o.op with
 | .move x| .assign x| .nilCheck x| .fieldAddr _ x _| .field _ x _| .unOp _ _ x| .extract x _=>P9 x
 | .pick c a b=>P9 c&&P9 a&&P9 b
 | .binOp _ _ x y _=>P9 x&&P9 y
 | .indexAddr _ x i| .index _ x i=>P9 x&&P9 i
 | .build _ _| .makeFunc _ _ _=>true
 | .makeInterface _ x=>P9 x
 | .call c=>match c.callee,c.args.toList,c.argTypes.toList with
   | .builtin .len,[x],ty::_=>match P0.underlying ty with
     |some (.slice _)=>P9 x
     |_=>false
   |_,_,_=>false
 |_=>false
theorem XC{o:Oper} (a:Ea o=true) (t:Tm) (h h':Hp):(jb o).f t h=(jb o).f t h':=by
 unfold Ea at a;unfold jb;split at a
 all_goals rename_i b
 all_goals try rw[b]
 all_goals try simp only[vH]at a
 ·grind[lN]
 ·grind[lN]
 ·grind[AJ,lN]
 ·grind[qR,lN]
 ·grind[Jx,lN]
 ·grind[lN]
 ·grind[GW,lN]
 ·grind[LO,lN]
 ·grind[lN]
 ·grind[ry,lN]
 ·grind[JD,lN]
 ·simp only[I8];grind
 ·split <;> first|rfl|simp_all
 ·dsimp only;split <;> first|rfl|grind[lN]
 ·grind[hlen,lN,absurd]
 simp_all
abbrev RE:=Bool×Rec×Bool×Bool
def Iw(k:Nat) (h:Hp) (rs:List RE) (K:Prop):Prop:=List.rec (motive:=λ_=>Prop) K (λr _ a=>Bool.rec (motive:=λ_=>Prop) (Option.rec (motive:=λ_=>Prop) (Bool.rec (motive:=λ_=>Prop) a (Bool.rec (motive:=λ_=>Prop) True (FG h r.2.1) r.1/\a) r.2.2.2) (λ_=>Bool.rec (motive:=λ_=>Prop) True (FG h r.2.1) r.1/\a) r.2.1.made) a (Nat.blt r.2.1.last k)) rs
def JY(rs:List RE):List RE:=rs.map λr=>(r.1,r.2.1,r.2.2.1,!r.2.2.1)
def u0(rs:List RE):List (Bool×Rec):=rs.map λr=>(r.1,r.2.1)
def itV(C:fu) (n:Nat) (all:List Oper) (ws:List It) (a:It) (d:Nat->gO->Hp->List RE->Prop) (k:Nat):gO->Hp->List RE->Prop:=match cls a.o with
  | 0 =>match lP n all a.o with
    | none=>match isVal a.o with
      |true=>λρ h rs=>Option.rec (motive:=λ_=>Prop) False (λv=>p7 n a.o (λc h=>d k c h ((true,{it:=a,t:= .fn ρ [],v,made:=none,last:=late ws a},Ea a.o,false)::rs)) v ρ h) ((jb a.o).f (.fn ρ []) h)
      |false=>λρ h rs=>oP ((jb a.o).f (.fn ρ []) h) λv=>p7 n a.o (λc h=>d k c h ((true,{it:=a,t:= .fn ρ [],v,made:=none,last:=late ws a},Ea a.o,false)::rs)) v ρ h
    |some g=>λρ h rs=>oP (g.f (.fn ρ [])) λb=>oP (gV b ((jb a.o).f (.fn ρ []) h)) λv=>
       p7 n a.o (λc h=>d k c h ((b,{it:=a,t:= .fn ρ [],v,made:=none,last:=late ws a},Ea a.o,false)::rs)) v ρ h
  | 1=>match lP n all a.o with
    |none=>λρ h rs=>oP ((rj a.o).f (.fn ρ [])) λr=>p7 n a.o (λc h'=>d k c h' ((true,{it:=a,t:= .fn ρ [],v:=r.2 h.next,made:=some (h.next,r.1),last:=late ws a},false,false)::JY rs)) (r.2 h.next) ρ (h.new r.1)
    |some _=>λ_ _ _=>False
  | _ =>match lP n all a.o with
    |none=>λρ h rs=>Iw k h rs (RU C a.o (λv ρ h'=>h.next<=h'.next/\p7 n a.o (λρ h=>d (Nat.succ k) ρ h (JY rs)) v ρ h') ρ h)
    | some g=>match zP a.o with
      |true=>λρ h rs=>Iw k h rs (oP (g.f (.fn ρ [])) λb=>oP (gC b (oB ((kO a.o).f (.fn ρ []) h) JC)) λx=>qP C x h λv h'=>h.next<=h'.next/\p7 n a.o (λρ h=>d (Nat.succ k) ρ h (JY rs)) v ρ h')
      |false=>λ_ _ _=>False
def Jh(l:List It):Bool:=l.all λa=>Nat.beq (cls a.o) 0
def Uu(C:fu) (n:Nat) (all:List Oper) (ws:List It) (K:gO->Hp->Prop) (l:List It):Nat->gO->Hp->List RE->Prop:=
 List.rec (motive:=λ_=>Nat->gO->Hp->List RE->Prop) (λk ρ h rs=>Iw k h rs (K ρ h)) (λa l b k=>match Jh (a::l)with
  |true=>λρ h rs=>TO C n all (λρ h=>Iw k h rs (K ρ h)) ((a::l).map (·.o)) 0 ρ h
  |false=>itV C n all ws a b k) l
def Xd(h:Hp)(rs:List RE):Prop:=∀r∈rs,r.1=true->r.2.1.made=none->(r.2.2.1=true->∀h',FG h' r.2.1)/\(r.2.2.2=false->FG h r.2.1)
theorem Xd.y6{h:Hp} {rs:List RE} (hi:Xd h rs) (h':Hp):Xd h' (JY rs):=by
 intro r b hb c;obtain⟨r',a,e⟩:=MI.1 b;subst e;obtain⟨d,_⟩:=hi r' a hb c
 simp_all
theorem M9(rs:List RE):u0 (JY rs)=u0 rs:=by
 simp[u0,JY]
theorem zj{k:Nat} {h:Hp}:∀{rs:List RE} {K d:Prop},Xd h rs->(K->d)->Iw k h rs K->yz k h (u0 rs) d
 |[],_,_,_,hk,hh=>hk hh
 | (b,r,f,st)::rs,K,d,hi,hk,hh=>by
   have c:Xd h rs:=λr c=>hi r (wBX _ c);have h0:=hi _ (ZP ..)
   have a:Bool.rec (motive:=λ_=>Prop)
     (Option.rec (motive:=λ_=>Prop) (Bool.rec (motive:=λ_=>Prop) (Iw k h rs K) (Bool.rec (motive:=λ_=>Prop) True (FG h r) b/\Iw k h rs K) st)
     (λ_=>Bool.rec (motive:=λ_=>Prop) True (FG h r) b/\Iw k h rs K) r.made) (Iw k h rs K) (Nat.blt r.last k):=hh
   show Bool.rec (motive:=λ_=>Prop) (Bool.rec (motive:=λ_=>Prop) True (FG h r) b/\yz k h (u0 rs) d) (yz k h (u0 rs) d) (Nat.blt r.last k)
   cases hb:Nat.blt r.last k with
   |true=>rw[hb]at a;exact zj c hk a
   | false=>
     rw[hb]at a
     cases hm:r.made with
     |some x=>rw[hm]at a;exact⟨a.1,zj c hk a.2⟩
     | none=>
       rw[hm]at a
       cases st with
       |true=>exact⟨a.1,zj c hk a.2⟩
       | false=>
         refine⟨?_,zj c hk a⟩;cases b <;> grind
theorem Zy{C:fu} {o:Oper} {K b:V->gO->Hp->Prop} (c:∀v ρ h,K v ρ h->b v ρ h) {ρ:gO} {h:Hp} (a:RU C o K ρ h):RU C o b ρ h:=by
 unfold RU at a⊢;cases hi:zP o
 all_goals rw[hi]at a
 ·grind[qC]
 ·exact qC a λx H=>H.mono (by simp_all)
theorem PI{k:Nat} {h:Hp} {K:Prop} {rs:List (Bool×Rec)}:∀{new:List (Bool×Rec)},(∀r∈new,r.1=true->FG h r.2)->yz k h rs K->yz k h (new++rs) K
 |[],_,hh=>hh
 | r ::new,hn,hh=>by
   have a:=PI (new:=new) (by simp_all) hh;show yz k h (r::(new++rs)) K;simp only[yz]
   cases hb:Nat.blt r.2.last k with
   |true=>exact a
   | false=>
     refine⟨?_,a⟩;cases hb:r.1 <;> grind
theorem MS{C:fu} {n:Nat} {all:List Oper} {ws:List It} {K:gO->Hp->Prop} {k:Nat} {rs:List (Bool×Rec)}:∀{l:List It} {ρ:gO} {h:Hp} {new:List (Bool×Rec)},Jh l=true->(∀r∈new,r.1=true->FG h r.2)->
  AE C n all (λρ h=>yz k h rs (K ρ h)) (l.map (·.o)) ρ h->Jg C n all ws K l k ρ h (new++rs)
 |[],_,_,_,_,hn,hk=>PI hn hk
 | a ::l,ρ,h,new,hp,hn,hk=>by
   simp only[Jh,wBp,vH]at hp;obtain⟨hc,hp⟩:=hp;have hc:=Cr hc;have c:Bo C n all a.o (AE C n all (λρ h=>yz k h rs (K ρ h)) (l.map (·.o))) ρ h:=hk;show itR C n all ws a (Jg C n all ws K l) k ρ h (new++rs)
   have m:∀{b:Bool} {v:V},(b=true->(jb a.o).f (.fn ρ []) h=some v)->p7 n a.o (AE C n all (λρ h=>yz k h rs (K ρ h)) (l.map (·.o))) v ρ h->
       p7 n a.o (λu h=>Jg C n all ws K l k u h ((b,{it:=a,t:= .fn ρ [],v,made:=none,last:=late ws a})::(new++rs))) v ρ h:=by
     intro b v hb j;have i:∀r∈(b,({it:=a,t:= .fn ρ [],v,made:=none,last:=late ws a}:Rec))::new,r.1=true->FG h r.2:=by
       intro r w p;rcases IS.1 w with e|e
       ·subst e;exact hb p
       ·grind
     unfold p7 at j⊢
     cases ho:a.o.dst with
     |none=>rw[ho]at j;exact MS hp i j
     | some d=>
       rw[ho]at j;simp only at j⊢
       cases hb:Nat.blt d n with
       |true=>rw[hb]at j;exact MS hp i j
       |false=>simp_all
   unfold Bo at c;rw[Lv hc]at c;simp only at c;unfold itR;rw[hc];simp only
   cases hw:lP n all a.o with
   | none=>
     rw[hw]at c;simp only[Ro,hc]at c;obtain⟨v,q,s⟩:=lL.1 c
     simp_all
   | some g=>
     rw[hw]at c;simp only[ZU,hc]at c;obtain⟨b,h0,c⟩:=lL.1 c;obtain⟨v,q,s⟩:=lL.1 c;exact eh h0 (eh q (m (λe=>by simp_all) s))
theorem KV{C:fu} {n:Nat} {all:List Oper} {K e:gO->Hp->Prop} {h:Hp} (f:∀ρ,K ρ h->e ρ h):∀{l:List It} {ρ:gO},Jh l=true->AE C n all K (l.map (·.o)) ρ h->AE C n all e (l.map (·.o)) ρ h
 |[],_,_,hk=>f _ hk
 | a ::l,ρ,hp,hk=>by
   simp only[Jh,wBp,vH]at hp;obtain⟨hc,hp⟩:=hp;have hc:=Cr hc;have b:Bo C n all a.o (AE C n all K (l.map (·.o))) ρ h:=hk;show Bo C n all a.o (AE C n all e (l.map (·.o))) ρ h;have i:∀{v:V},p7 n a.o (AE C n all K (l.map (·.o))) v ρ h->p7 n a.o (AE C n all e (l.map (·.o))) v ρ h:=by
     intro v c;unfold p7 at c⊢
     cases ho:a.o.dst with
     |none=>rw[ho]at c;exact KV f hp c
     | some d=>
       rw[ho]at c;simp only at c⊢
       cases hb:Nat.blt d n with
       |true=>rw[hb]at c;exact KV f hp c
       |false=>simp_all
   unfold Bo at b⊢;rw[Lv hc]at b⊢;simp only at b⊢
   cases hw:lP n all a.o with
   | none=>
     grind[Ro,lL,eh]
   | some g=>
     rw[hw]at b
     grind[ZU,lL,eh]
theorem MJ{C:fu} {n:Nat} {all:List Oper} {ws:List It} {K:gO->Hp->Prop}:∀(l:List It) {k:Nat} {ρ:gO} {h:Hp} {rs:List RE},Xd h rs->Uu C n all ws K l k ρ h rs->Jg C n all ws K l k ρ h (u0 rs)
 |[],_,_,_,_,hi,hk=>zj hi (λx=>x) hk
 | a ::l,k,ρ,h,rs,hi,hk=>by
   have i:(match Jh (a::l)with
     |true=>λ(ρ:gO) (h:Hp) (rs:List RE)=>TO C n all (λρ h=>Iw k h rs (K ρ h)) ((a::l).map (·.o)) 0 ρ h
     |false=>itV C n all ws a (Uu C n all ws K l) k:gO->Hp->List RE->Prop) ρ h rs:=hk
   cases hp:Jh (a::l)with
   | true=>
     rw[hp]at i;have w:=JP _ 0 i
     exact MS (new:=[]) hp (by simp_all) (KV (λρ m=>zj hi (λx=>x) m) hp w)
   | false =>
     rw[hp]at i;simp only at i;show itR C n all ws a (Jg C n all ws K l) k ρ h (u0 rs)
     have pure:∀{b:Bool} {v:V},gV b ((jb a.o).f (.fn ρ []) h)=some v->∀{j:gO},Uu C n all ws K l k j h ((b,{it:=a,t:= .fn ρ [],v,made:=none,last:=late ws a},Ea a.o,false)::rs)->
         Jg C n all ws K l k j h ((b,{it:=a,t:= .fn ρ [],v,made:=none,last:=late ws a})::u0 rs):=by
       intro b v hv j m;refine MJ l (rs:=(b,{it:=a,t:= .fn ρ [],v,made:=none,last:=late ws a},Ea a.o,false)::rs) ?_ m;intro r p hb q;rcases IS.1 p with e|e
       ·subst e
        have s:b=true:=hb;subst s;refine⟨λz h'=>?_,λ_=>hv⟩;show(jb a.o).f (.fn ρ []) h' = some v;rw[XC z _ h' h];exact hv
       ·exact hi r e hb q
     have dst:∀{b:Bool} {v:V},gV b ((jb a.o).f (.fn ρ []) h)=some v->p7 n a.o (λj h=>Uu C n all ws K l k j h ((b,{it:=a,t:= .fn ρ [],v,made:=none,last:=late ws a},Ea a.o,false)::rs)) v ρ h->
         p7 n a.o (λj h=>Jg C n all ws K l k j h ((b,{it:=a,t:= .fn ρ [],v,made:=none,last:=late ws a})::u0 rs)) v ρ h:=by
       intro b v hv A;unfold p7 at A⊢
       cases ho:a.o.dst with
       |none=>grind
       | some d=>
         grind
     unfold itV at i;unfold itR;generalize hc:cls a.o=c at i;rcases c with _|_|c
     ·simp only at i⊢
      cases hw:lP n all a.o with
      | none=>
        rw[hw]at i;simp only at i⊢;have u:oP ((jb a.o).f (.fn ρ []) h) λv=>p7 n a.o (λj h=>Uu C n all ws K l k j h ((true,{it:=a,t:= .fn ρ [],v,made:=none,last:=late ws a},Ea a.o,false)::rs)) v ρ h:=by
          cases hv:isVal a.o <;> (rw[hv]at i;exact i)
        obtain⟨v,w,D⟩:=lL.1 u
        simp_all
      | some g=>
        grind[lL,eh]
     ·simp only at i⊢
      cases hw:lP n all a.o with
      | none=>
        rw[hw]at i;refine qC i λr H=>HS (λj h' m=>?_) H;have:=MJ l (rs:=(true,{it:=a,t:= .fn ρ [],v:=r.2 h.next,made:=some (h.next,r.1),last:=late ws a},false,false)::JY rs) (by
          intro r' p hb q;rcases IS.1 p with e|e
          ·simp_all
          ·exact hi.y6 h' r' e hb q) m
        grind[Jg,u0,JY,M9]
      |some g=>simp_all
     ·simp only at i⊢
      have B:∀{v:V} {ρ:gO} {h':Hp},p7 n a.o (λρ h=>Uu C n all ws K l (Nat.succ k) ρ h (JY rs)) v ρ h'->p7 n a.o (λρ h=>Jg C n all ws K l (Nat.succ k) ρ h (u0 rs)) v ρ h':=λH=>
        HS (λρ h m=>by have:=MJ l (hi.y6 h) m;grind[M9]) H
      cases hw:lP n all a.o with
      | none=>
        grind[zj,Zy]
      | some g=>
        rw[hw]at i;simp only at i⊢
        cases hic:zP a.o with
        |false=>simp_all
        | true=>
          rw[hic]at i;refine zj hi (λH=>qC H λb H=>qC H λx H=>?_) i
          cases x with
          |none=>simp_all
          |some y=>exact cP.mono H (by simp_all)
def Zs(C:fu) (n:Nat) (all:List Oper) (K:gO->Hp->Prop) (ρ:gO) (h:Hp):Prop:=Uu C n all (hZ (items all 0 [])) K (order (items all 0 []) (hZ (items all 0 [])) (hZ (items all 0 [])) 0) 0 ρ h []
theorem XA{C:fu}{n:Nat}{all:List Oper}{K:gO->Hp->Prop}{ρ:gO}{h:Hp}(a:Zs C n all K ρ h):Vn C n all K ρ h:=MJ (rs:=[]) _ (by intro r b;cases b) a
end
noncomputable def OB(tb:List (Nat×List Nat)) (k:Nat):Option (List Nat):=List.rec (motive:=λ_=>Option (List Nat)) none (λx _ a=>Bool.rec (motive:=λ_=>Option (List Nat)) a (some x.2) (Nat.beq x.1 k)) tb
noncomputable def jV(C:fu) (n:Nat) (live:List Nat) (c:Code) (s:XQ) (ρ:gO) (h:Hp):Prop:=∀a:gO,List.rec (motive:=λ_=>Prop) (Wp C n c s a h) (λi _ b=>a i=ρ i->b) live
theorem Yp{C:fu} {n:Nat} {live:List Nat} {c:Code} {s:XQ} {ρ:gO} {h:Hp} (a:jV C n live c s ρ h):Wp C n c s ρ h:=by
 have:=a ρ;clear a
 induction live <;> grind
noncomputable def SO(C:fu) (n:Nat) (tb:List (Nat×List Nat)) (c:Code):Nat->Nat->XQ->XQ->gO->Hp->Prop:=
 Code.rec (motive:=λ_=>Nat->Nat->XQ->XQ->gO->Hp->Prop)
  (λ_ _ v _=>v .normal)
  (fun _ ops d _ _ v _=>match d with
   |false=>TO C n ops.toList (λρ h=>v .normal ρ h) ops.toList 0
   | true=>match zH ops.toList with
     |true=>Zs C n ops.toList (λρ h=>v .normal ρ h)
     |false=>λ_ _=>False)
  (λ_ b a g p e v s=>a p (Nat.mul 2 e) (andThen (Option.rec (motive:=λ_=>gO->Hp->Prop) (g (Nat.add p e) (Nat.mul 2 e) v s) (λlive=>jV C n live b s) (OB tb (Nat.mul 2 (Nat.add (Nat.add p e) (Nat.mul 2 e))))) v) (andThen (Wp C n b s) s))
  (λc _ _ a g p e v s ρ h=>Option.rec (motive:=λ_=>Prop) False (λx=>bP x (a p (Nat.mul 2 e) v s ρ h) (g (Nat.add p e) (Nat.mul 2 e) v s ρ h)) ((ud c).f (.fn ρ []) h))
  (λid _ i p e v s=>i p (Nat.mul 2 e) (xU id v) (xU id s))
  (λc _ p e _ s=>Option.rec (motive:=λ_=>gO->Hp->Prop) (λ_ _=>False) (λlive=>jV C n live (.loop c) s) (OB tb (Nat.succ (Nat.mul 2 (Nat.add p e)))))
  (λ_ _ _ _ _ _ _ _ _ _ _ _=>False)
  (λid _ _ v _=>v (.exit id))
  (λ_ _ _ _ _ _ _ _=>False)
  (λ_ _ _ _ _ _ _=>False)
  (λ_ _ _ _ _ _ _=>False)
  (λ_ _ v _=>v .ret)
  (λ_ _ _ _ _ _ _=>False) c
theorem CC{k k':gO->Hp->Prop} {v s:XQ} (a:∀ρ h,k ρ h->k' ρ h) (hq:∀x ρ h,v x ρ h->s x ρ h):∀x ρ h,andThen k v x ρ h->andThen k' s x ρ h
 | .normal,_,_,hh=>a _ _ hh
 | .exit _,_,_,hh=>hq _ _ _ hh
 | .ret,_,_,hh=>hq _ _ _ hh
theorem Nd{id:Nat} {v s:XQ} (hq:∀x ρ h,v x ρ h->s x ρ h):∀x ρ h,xU id v x ρ h->xU id s x ρ h
 | .normal,_,_,hh=>hq _ _ _ hh
 | .ret,_,_,hh=>hq _ _ _ hh
 | .exit i,ρ,h,hh=>by
   simp only[xU]at hh⊢;cases hb:Nat.beq i id <;> simp_all
theorem ye{C:fu} {n:Nat} {tb:List (Nat×List Nat)}:∀(c:Code) {p e:Nat} {v s:XQ} {ρ:gO} {h:Hp},(∀x ρ h,v x ρ h->s x ρ h)->SO C n tb c p e v s ρ h->Wp C n c s ρ h
 | .skip,_,_,_,_,_,_,hq,hk=> .skip (hq _ _ _ hk)
 | .region _ ops false,_,_,v,_,ρ,h,hq,hk=>by
   have d:TO C n ops.toList (λρ h=>v .normal ρ h) ops.toList 0 ρ h:=hk
   exact(Wp.region (JP _ 0 d)).mono hq
 | .region _ ops true,_,_,v,_,ρ,h,hq,hk=>by
   have d:(match zH ops.toList with
       |true=>Zs C n ops.toList (λρ h=>v .normal ρ h)
       |false=>λ_ _=>False) ρ h:=hk
   cases hd:zH ops.toList with
   |true=>rw[hd]at d;exact(Wp.draw hd (XA d)).mono hq
   |false=>simp_all
 | .seq a b,p,e,v,s,ρ,h,hq,hk=>by
   refine .seq (ye a (CC ?_ hq) hk);intro ρ h g
   cases hf:OB tb (Nat.mul 2 (Nat.add (Nat.add p e) (Nat.mul 2 e)))with
   |none=>rw[hf]at g;exact ye b hq g
   |some live=>rw[hf]at g;exact Yp g
 | .cond c a b,p,e,v,s,ρ,h,hq,hk=>by
   have d:oP ((ud c).f (.fn ρ []) h) (λx=>bP x (SO C n tb a p (Nat.mul 2 e) v s ρ h) (SO C n tb b (Nat.add p e) (Nat.mul 2 e) v s ρ h)):=hk;obtain⟨x,hv,d⟩:=lL.1 d
   exact .cond (eh hv (bM d (ye a hq) (ye b hq)))
 | .block id c,_,_,_,_,_,_,hq,hk=> .block (ye c (Nd hq) hk)
 | .loop c,p,e,v,s,ρ,h,hq,hk=>by
   have d:(Option.rec (motive:=λ_=>gO->Hp->Prop) (λ_ _=>False) (λlive=>jV C n live (.loop c) s) (OB tb (Nat.succ (Nat.mul 2 (Nat.add p e)))):gO->Hp->Prop) ρ h:=hk
   cases hf:OB tb (Nat.succ (Nat.mul 2 (Nat.add p e)))with
   |none=>simp_all
   |some live=>rw[hf]at d;grind[Yp]
 | .exit id,_,_,_,_,_,_,hq,hk=> .exit (hq _ _ _ hk)
 | .ret,_,_,_,_,_,_,hq,hk=> .ret (hq _ _ _ hk)
 | .rangeFunc ..,_,_,_,_,_,_,_,hk=>hk.elim
 | .scope _,_,_,_,_,_,_,_,hk=>hk.elim
 | .label _,_,_,_,_,_,_,_,hk=>hk.elim
 | .goto _,_,_,_,_,_,_,_,hk=>hk.elim
 | .refuse _,_,_,_,_,_,_,_,hk=>hk.elim
structure V6 where
 c:Code
 v:XQ
 s:XQ
 p:Nat
 e:Nat
 ks:List (gO->Hp->Prop)
def zbR(l:List (gO->Hp->Prop)):gO->Hp->Prop:=match l with
 |k::_=>k
 |[]=>λ_ _=>False
noncomputable def kN(C:fu) (n:Nat) (tb:List (Nat×List Nat)) (a:V6) (b:Bool):V6:=match a.c,b with
 | .seq x y,false=>{c:=x,v:=andThen (Option.rec (motive:=λ_=>gO->Hp->Prop) (SO C n tb y (Nat.add a.p a.e) (Nat.mul 2 a.e) a.v a.s) (λlive=>jV C n live y a.s) (OB tb (Nat.mul 2 (Nat.add (Nat.add a.p a.e) (Nat.mul 2 a.e))))) a.v,s:=andThen (Wp C n y a.s) a.s,p:=a.p,e:=Nat.mul 2 a.e,ks:=a.ks}
 | .seq _ y,true=>{c:=y,v:=a.v,s:=a.s,p:=Nat.add a.p a.e,e:=Nat.mul 2 a.e,ks:=a.ks}
 | .cond _ x _,false=>{c:=x,v:=a.v,s:=a.s,p:=a.p,e:=Nat.mul 2 a.e,ks:=a.ks}
 | .cond _ _ y,true=>{c:=y,v:=a.v,s:=a.s,p:=Nat.add a.p a.e,e:=Nat.mul 2 a.e,ks:=a.ks}
 | .block id x,false=>{c:=x,v:=xU id a.v,s:=xU id a.s,p:=a.p,e:=Nat.mul 2 a.e,ks:=a.ks}
 | .loop x,false=>{c:=x,v:=andThen (zbR a.ks) a.v,s:=andThen (zbR a.ks) a.s,p:=a.p,e:=Nat.mul 2 a.e,ks:=a.ks.tail}
 |_,_=>a
noncomputable def zey(C:fu) (n:Nat) (tb:List (Nat×List Nat)) (bs:List Bool):V6->V6:=List.rec (motive:=λ_=>V6->V6) (λa=>a) (λb _ c a=>c (kN C n tb a b)) bs
def zeA(k:Nat):List Bool:=(Nat.rec (motive:=λ_=>Nat->List Bool) (λ_=>[]) (λ_ a p=>match Nat.ble p 1 with
 |true=>[]
 |false=>Nat.beq (Nat.mod p 2) 1::a (Nat.div p 2)) 400:Nat->List Bool) k
def UE(Q:V->Hp->Prop) (ρ:gO) (h:Hp) (l:List ResultVar):List V->Prop:=
 List.rec (motive:=λ_=>List V->Prop) (λb=>Q (Aq b.reverse) h) (λr _ c b=>match r with
  | .tmp i=>c (ρ i::b)
  | .cell a ty=>oP ((WV (.cell a ty)).f (.fn ρ []) h) λv=>c (v::b)) l
theorem MD{Q:V->Hp->Prop} {ρ:gO} {h:Hp}:∀{l:List ResultVar} {b:List V},UE Q ρ h l b->oP (A7 (.fn ρ []) h l) λvs=>Q (Aq (b.reverse++vs)) h
 | [],b,hh=>by
   grind[Aq,A7,VQ,oP,UE]
 | .tmp i::l,b,hh=>by
   have c:UE Q ρ h l (ρ i::b):=hh;obtain⟨vs,d,e⟩:=lL.1 (MD c);refine eh (show A7 (.fn ρ []) h (.tmp i::l)=some (ρ i::vs) from ?_) ?_
   ·show oB (some (ρ i)) _=_
    simp_all
   simp_all
 | .cell a ty::l,b,hh=>by
   have c:oP ((WV (.cell a ty)).f (.fn ρ []) h) λv=>UE Q ρ h l (v::b):=hh;obtain⟨v,h0,c⟩:=lL.1 c;obtain⟨vs,d,e⟩:=lL.1 (MD c)
   simp_all[eh,A7,oB,WV]
def Vb(l:List ResultVar) (Q:V->Hp->Prop):XQ
 | .exit _,_,_=>False
 |_,ρ,h=>UE Q ρ h l []
theorem RV{l:List ResultVar} {Q:V->Hp->Prop}:∀x ρ h,Vb l Q x ρ h->IZ l Q x ρ h
 | .exit _,_,_,hh=>hh
 | .normal,_,_,hh=>by grind[MD,UE,IZ,zai,Vb]
 | .ret,_,_,hh=>by grind[MD,UE,IZ,zai,Vb]
noncomputable def YE(fn:Func)(ks:List (gO->Hp->Prop))(Q:V->Hp->Prop):V6:={c:=K4 fn,v:=Vb fn.results.toList Q,s:=IZ fn.results.toList Q,p:=0,e:=1,ks}
noncomputable def fP(C:fu)(fn:Func)(tb:List (Nat×List Nat))(k:Nat)(ks:List (gO->Hp->Prop))(Q:V->Hp->Prop):V6:=zey C fn.ntmps tb (zeA k) (YE fn ks Q)
noncomputable def WA(C:fu)(fn:Func)(tb:List (Nat×List Nat))(k:Nat)(ks:List (gO->Hp->Prop))(Q:V->Hp->Prop)(ρ:gO)(h:Hp):Prop:=Wp C fn.ntmps (fP C fn tb k ks Q).c (fP C fn tb k ks Q).s ρ h
noncomputable def VA(C:fu)(n:Nat)(tb:List (Nat×List Nat))(a:V6)(ρ:gO)(h:Hp):Prop:=SO C n tb a.c a.p a.e a.v a.s ρ h
def V6.ok(a:V6):Prop:=∀x ρ h,a.v x ρ h->a.s x ρ h
theorem Xj{C:fu} {n:Nat} {tb:List (Nat×List Nat)} {a:V6} (c:a.ok) (b:Bool):(kN C n tb a b).ok:=by
 unfold kN;split
 ·refine CC (λρ h d=>?_) c
  cases hf:OB tb (Nat.mul 2 (Nat.add (Nat.add a.p a.e) (Nat.mul 2 a.e)))with
  |none=>rw[hf]at d;exact ye _ c d
  |some live=>rw[hf]at d;exact Yp d
 ·exact c
 ·exact c
 ·exact c
 ·exact Nd c
 ·exact CC (by simp_all) c
 ·exact c
theorem Vx{C:fu} {n:Nat} {tb:List (Nat×List Nat)}:∀{bs:List Bool} {a:V6},a.ok->(zey C n tb bs a).ok
 |[],_,ha=>ha
 |b::bs,_,ha=>Vx (bs:=bs) (Xj ha b)
theorem PL{C:fu}{fn:Func}{tb:List (Nat×List Nat)}{k:Nat}{ks:List (gO->Hp->Prop)}{Q:V->Hp->Prop}:(fP C fn tb k ks Q).ok:=Vx RV
theorem WA.of{C:fu} {fn:Func} {tb:List (Nat×List Nat)} {k:Nat} {ks:List (gO->Hp->Prop)} {Q:V->Hp->Prop} {ρ:gO} {h:Hp} {P:Prop}
  (e:VA C fn.ntmps tb (fP C fn tb k ks Q) ρ h=P) (H:P):WA C fn tb k ks Q ρ h:=ye _ PL (e.mpr H)
def lX(c:Code):Bool:=match c with
 | .loop _=>true
 |_=>false
inductive LA (C:fu) (fn:Func) (tb:List (Nat×List Nat)) (k:Nat) (ks:List (gO->Hp->Prop)) (Q:V->Hp->Prop) (K:gO->Hp->Prop) (ρ:gO) (h:Hp):Prop
 |mk (hv:VA C fn.ntmps tb (kN C fn.ntmps tb {fP C fn tb k ks Q with ks:=[K]} false) ρ h)
theorem LA.of{C:fu} {fn:Func} {tb:List (Nat×List Nat)} {k:Nat} {ks:List (gO->Hp->Prop)} {Q:V->Hp->Prop} {K:gO->Hp->Prop} {ρ:gO} {h:Hp} {P:Prop}
  (e:VA C fn.ntmps tb (kN C fn.ntmps tb {fP C fn tb k ks Q with ks:=[K]} false) ρ h=P) (H:P):LA C fn tb k ks Q K ρ h:=⟨e.mpr H⟩
theorem WA.loop{C:fu} {fn:Func} {tb:List (Nat×List Nat)} {k:Nat} {ks:List (gO->Hp->Prop)} {Q:V->Hp->Prop} {ρ:gO} {h:Hp} (I:Nat->gO->Hp->Prop) {m:Nat}
  (f:lX (fP C fn tb k ks Q).c=true) (n:(fP C fn tb k ks Q).ks=[])
  (b:∀m ρ h,I m ρ h->LA C fn tb k ks Q (λi h'=>∃g,g<m/\I g i h') ρ h) (h0:I m ρ h):WA C fn tb k ks Q ρ h:=by
 unfold WA;have b:=λm ρ h hi=>(b m ρ h hi).1;have d:(fP C fn tb k ks Q).ok:=PL;generalize fP C fn tb k ks Q=a at*;obtain⟨c,v,s,p,e,j⟩:=a;cases c <;> simp only[lX]at f <;> try exact absurd f (by decide)
 rename_i c;refine Wp.zbP I (λm ρ h hi=>?_) h0;have:=b m ρ h hi;exact ye c (CC (λ_ _ l=>l) d) this
theorem cP.vc{C:fu} (hs:C.start=fQ) {f:Nat} {fn:Func} {tb:List (Nat×List Nat)} {args:List V} {h:Hp} {Q:V->Hp->Prop} {P:Prop} (b:P0.funcs[f]? =some fn) (hb:fn.body=some (K4 fn))
  (c:C.K f args h=none) (a:Nat.ble args.length fn.ntmps=true) (e:VA C fn.ntmps tb (YE fn [] Q) (L0 args) h=P) (H:P):cP C f args h Q:=
 cP.func hs b hb c (KS a) (ye _ RV (e.mpr H))
abbrev LP:=List V->Hp->Prop
def chV(ρ:gO):List Nat->List V->Prop->Prop
 |i::is,x::xs,P=>ρ i=x->chV ρ is xs P
 |_,_,P=>P
def kf(is:List Nat)(K:LP):gO->Hp->Prop:=λρ h=>K (is.map ρ) h
def JV(C:fu)(fn:Func)(tb:List (Nat×List Nat))(k:Nat)(is:List Nat)(ks:List (gO->Hp->Prop))(Q:fD):LP:=λl h=>∀ρ:gO,chV ρ is l (WA C fn tb k ks Q ρ h)
theorem UG{ρ:gO}{P:Prop}:∀{is:List Nat}{l:List V},is.length=l.length->(is.map ρ=l->P)->chV ρ is l P
 |[],[],_,h=>h rfl
 |[],_::_,e,_=>by cases e
 |_::_,[],e,_=>by cases e
 |i::is,x::l,e,h=>λhx=>UG (is:=is) (l:=l) (by simp_all) (by simp_all)
def zas:Nat->Type
 |0=>Hp->Prop
 |n+1=>V->zas n
def Ir:(n:Nat)->zas n->LP
 |0,f,[],h=>f h
 |n+1,f,x::l,h=>Ir n (f x) l h
 |_,_,_,_=>False
@[reducible] def Ey (I:Nat->LP) (k:Nat):LP:=λl h=>∃k',k' < k/\I k' l h
section
variable{C:fu}{fn:Func}{tb:List (Nat×List Nat)}{k m:Nat}{is:List Nat}{ks:List (gO->Hp->Prop)}{Q:fD}{h:Hp}{l:List V}
theorem JV.mk(n:Nat)(B:zas n)(e:∀(ρ:gO)(h:Hp),VA C fn.ntmps tb (fP C fn tb k ks Q) ρ h=Ir n B (is.map ρ) h)(a:is.length=l.length)(H:Ir n B l h):JV C fn tb k is ks Q l h:=λρ=>UG a λb=>by
 subst b;exact WA.of (e ρ h) H
theorem JV.loop(n:Nat)(I:Nat->LP)(B:LP->zas n)(a:lX (fP C fn tb k ks Q).c=true)(b:(fP C fn tb k ks Q).ks=[])
  (e:∀(K:LP) (ρ:gO) (h:Hp),VA C fn.ntmps tb (kN C fn.ntmps tb {fP C fn tb k ks Q with ks:=[kf is K]} false) ρ h=Ir n (B K) (is.map ρ) h)
  (f:∀m l h,l.length=n->I m l h->Ir n (B (Ey I m)) l h) (g:is.length=n) (hlen:is.length=l.length) (h0:I m l h):JV C fn tb k is ks Q l h:=λρ=>UG hlen λd=>by
 subst d;exact WA.loop (λm ρ h=>I m (is.map ρ) h) a b (λm ρ h hi=>LA.of (e (Ey I m) ρ h) (by grind)) h0
abbrev dF(k:Nat)(x:V)(h:Hp)(K:V->Prop):Prop:=oP (fJ k x) λa=>oP (fe a h) K
abbrev dN(k:Nat)(x:V)(h:Hp)(K:V->Prop):Prop:=oP (iL x) λa=>dF k a h K
abbrev dI(n:Nat)(x i:V)(k:Nat)(h:Hp)(K:V->Prop):Prop:=oP (gB n x i) λa=>dF k a h K
abbrev dX(n:Nat)(x i:V)(h:Hp)(K:V->Prop):Prop:=oP (gB n x i) λa=>oP (fe a h) K
abbrev dG(k:Nat)(x:V)(h:Hp)(K:V->Prop):Prop:=dF k x h λa=>oP (fI a) K
abbrev dJ(k:Nat)(x:V)(n:Nat)(i:V)(j:Nat)(h:Hp)(K:V->Prop):Prop:=dF k x h λa=>dI n a i j h K
abbrev dY(k:Nat)(x:V)(n:Nat)(i:V)(h:Hp)(K:V->Prop):Prop:=dF k x h λa=>dX n a i h K
abbrev bO(o:BinOp)(t:Nat)(a b:V)(A B:Prop):Prop:=oP (ez o t a b) λv=>bP v A B
abbrev bN(a:V)(A B:Prop):Prop:=oP (qf .not a) λv=>bP v A B
theorem oF{k l o:Nat}{h:Hp}{v:V}{K:V->Prop}(a:fe (.ptr l (o+k)) h=some v)(b:K v):dF k (.ptr l o) h K:=lL.2 ⟨_,fM _ _ _,lL.2 ⟨_,a,b⟩⟩
theorem oN{k l o:Nat}{h:Hp}{v:V}{K:V->Prop}(a:fe (.ptr l (o+k)) h=some v)(b:K v):dN k (.ptr l o) h K:=lL.2 (by simp_all[fZ,oF])
theorem cP.vd{C:fu}{f:Nat}{fn:Func}(tb:List (Nat×List Nat)){args:List V}{h:Hp}{Q:fD}{P:Prop}(hs:C.start=fQ)(b:P0.funcs[f]? =some fn)(c:C.K f args h=none)(H:P)
  (hb:fn.body=some (K4 fn):=by kernel_rfl) (a:Nat.ble args.length fn.ntmps=true:=by kernel_rfl) (e:VA C fn.ntmps tb (YE fn [] Q) (L0 args) h=P:=by kernel_rfl):cP C f args h Q:=cP.vc hs b hb c a e H
abbrev S1(I:Nat->LP)(B:LP->fD):Prop:=∀(k:Nat) (a:V) (h:Hp),I k [a] h->B (Ey I k) a h
abbrev R1(B:fD)(J:LP):Prop:=∀{a:V} {h:Hp},B a h->J [a] h
theorem JV.r1(B:fD)(e:∀(ρ:gO)(h:Hp),VA C fn.ntmps tb (fP C fn tb k ks Q) ρ h=Ir 1 B (is.map ρ) h:=by intros;kernel_rfl)(a:is.length=1:=by rfl):R1 B (JV C fn tb k is ks Q):=λH=>JV.mk 1 B e a H
abbrev S2(I:Nat->LP)(B:LP->QP2):Prop:=∀(k:Nat) (a b:V) (h:Hp),I k [a,b] h->B (Ey I k) a b h
abbrev R2(B:QP2)(J:LP):Prop:=∀{a b:V} {h:Hp},B a b h->J [a,b] h
theorem JV.l2(I:Nat->LP)(B:LP->QP2)(s:S2 I B)(i:I m l h)(g:l.length=2)(b:lX (fP C fn tb k ks Q).c=true:=by kernel_rfl)(d:(fP C fn tb k ks Q).ks=[]:=by kernel_rfl)
  (e:∀(K:LP) (ρ:gO) (h:Hp),VA C fn.ntmps tb (kN C fn.ntmps tb {fP C fn tb k ks Q with ks:=[kf is K]} false) ρ h=Ir 2 (B K) (is.map ρ) h:=by intros;kernel_rfl) (a:is.length=2:=by rfl):JV C fn tb k is ks Q l h:=
 JV.loop 2 I B b d e (λk l h g i=>match l,g,i with|[f,j],_,i=>s k f j h i) a (a.trans g.symm) i
theorem JV.r2(B:QP2)(e:∀(ρ:gO)(h:Hp),VA C fn.ntmps tb (fP C fn tb k ks Q) ρ h=Ir 2 B (is.map ρ) h:=by intros;kernel_rfl)(a:is.length=2:=by rfl):R2 B (JV C fn tb k is ks Q):=λH=>JV.mk 2 B e a H
abbrev S3(I:Nat->LP)(B:LP->Tu):Prop:=∀(k:Nat) (a b c:V) (h:Hp),I k [a,b,c] h->B (Ey I k) a b c h
abbrev R3(B:Tu)(J:LP):Prop:=∀{a b c:V} {h:Hp},B a b c h->J [a,b,c] h
theorem JV.l3(I:Nat->LP)(B:LP->Tu)(s:S3 I B)(i:I m l h)(g:l.length=3)(b:lX (fP C fn tb k ks Q).c=true:=by kernel_rfl)(d:(fP C fn tb k ks Q).ks=[]:=by kernel_rfl)
  (e:∀(K:LP) (ρ:gO) (h:Hp),VA C fn.ntmps tb (kN C fn.ntmps tb {fP C fn tb k ks Q with ks:=[kf is K]} false) ρ h=Ir 3 (B K) (is.map ρ) h:=by intros;kernel_rfl) (a:is.length=3:=by rfl):JV C fn tb k is ks Q l h:=
 JV.loop 3 I B b d e (λk l h g i=>match l,g,i with|[f,j,n],_,i=>s k f j n h i) a (a.trans g.symm) i
theorem JV.r3(B:Tu)(e:∀(ρ:gO)(h:Hp),VA C fn.ntmps tb (fP C fn tb k ks Q) ρ h=Ir 3 B (is.map ρ) h:=by intros;kernel_rfl)(a:is.length=3:=by rfl):R3 B (JV C fn tb k is ks Q):=λH=>JV.mk 3 B e a H
abbrev S4(I:Nat->LP)(B:LP->Ml):Prop:=∀(k:Nat) (a b c d:V) (h:Hp),I k [a,b,c,d] h->B (Ey I k) a b c d h
abbrev R4(B:Ml)(J:LP):Prop:=∀{a b c d:V} {h:Hp},B a b c d h->J [a,b,c,d] h
theorem JV.l4(I:Nat->LP)(B:LP->Ml)(s:S4 I B)(i:I m l h)(g:l.length=4)(b:lX (fP C fn tb k ks Q).c=true:=by kernel_rfl)(d:(fP C fn tb k ks Q).ks=[]:=by kernel_rfl)
  (e:∀(K:LP) (ρ:gO) (h:Hp),VA C fn.ntmps tb (kN C fn.ntmps tb {fP C fn tb k ks Q with ks:=[kf is K]} false) ρ h=Ir 4 (B K) (is.map ρ) h:=by intros;kernel_rfl) (a:is.length=4:=by rfl):JV C fn tb k is ks Q l h:=
 JV.loop 4 I B b d e (λk l h g i=>match l,g,i with|[f,j,n,o],_,i=>s k f j n o h i) a (a.trans g.symm) i
abbrev S5(I:Nat->LP)(B:LP->KH):Prop:=∀(k:Nat) (a b c d e:V) (h:Hp),I k [a,b,c,d,e] h->B (Ey I k) a b c d e h
abbrev R5(B:KH)(J:LP):Prop:=∀{a b c d e:V} {h:Hp},B a b c d e h->J [a,b,c,d,e] h
theorem JV.l5(I:Nat->LP)(B:LP->KH)(s:S5 I B)(i:I m l h)(g:l.length=5)(b:lX (fP C fn tb k ks Q).c=true:=by kernel_rfl)(d:(fP C fn tb k ks Q).ks=[]:=by kernel_rfl)
  (e:∀(K:LP) (ρ:gO) (h:Hp),VA C fn.ntmps tb (kN C fn.ntmps tb {fP C fn tb k ks Q with ks:=[kf is K]} false) ρ h=Ir 5 (B K) (is.map ρ) h:=by intros;kernel_rfl) (a:is.length=5:=by rfl):JV C fn tb k is ks Q l h:=
 JV.loop 5 I B b d e (λk l h g i=>match l,g,i with|[f,j,n,o,p],_,i=>s k f j n o p h i) a (a.trans g.symm) i
theorem JV.r5(B:KH)(e:∀(ρ:gO)(h:Hp),VA C fn.ntmps tb (fP C fn tb k ks Q) ρ h=Ir 5 B (is.map ρ) h:=by intros;kernel_rfl)(a:is.length=5:=by rfl):R5 B (JV C fn tb k is ks Q):=λH=>JV.mk 5 B e a H
abbrev S6(I:Nat->LP)(B:LP->Q1):Prop:=∀(k:Nat) (a b c d e f:V) (h:Hp),I k [a,b,c,d,e,f] h->B (Ey I k) a b c d e f h
abbrev R6(B:Q1)(J:LP):Prop:=∀{a b c d e f:V} {h:Hp},B a b c d e f h->J [a,b,c,d,e,f] h
theorem JV.l6(I:Nat->LP)(B:LP->Q1)(s:S6 I B)(i:I m l h)(g:l.length=6)(b:lX (fP C fn tb k ks Q).c=true:=by kernel_rfl)(d:(fP C fn tb k ks Q).ks=[]:=by kernel_rfl)
  (e:∀(K:LP) (ρ:gO) (h:Hp),VA C fn.ntmps tb (kN C fn.ntmps tb {fP C fn tb k ks Q with ks:=[kf is K]} false) ρ h=Ir 6 (B K) (is.map ρ) h:=by intros;kernel_rfl) (a:is.length=6:=by rfl):JV C fn tb k is ks Q l h:=
 JV.loop 6 I B b d e (λk l h g i=>match l,g,i with|[f,j,n,o,p,q],_,i=>s k f j n o p q h i) a (a.trans g.symm) i
theorem JV.r6(B:Q1)(e:∀(ρ:gO)(h:Hp),VA C fn.ntmps tb (fP C fn tb k ks Q) ρ h=Ir 6 B (is.map ρ) h:=by intros;kernel_rfl)(a:is.length=6:=by rfl):R6 B (JV C fn tb k is ks Q):=λH=>JV.mk 6 B e a H
abbrev S7(I:Nat->LP)(B:LP->Rm):Prop:=∀(k:Nat) (a b c d e f g:V) (h:Hp),I k [a,b,c,d,e,f,g] h->B (Ey I k) a b c d e f g h
abbrev R7(B:Rm)(J:LP):Prop:=∀{a b c d e f g:V} {h:Hp},B a b c d e f g h->J [a,b,c,d,e,f,g] h
theorem JV.l7(I:Nat->LP)(B:LP->Rm)(s:S7 I B)(i:I m l h)(g:l.length=7)(b:lX (fP C fn tb k ks Q).c=true:=by kernel_rfl)(d:(fP C fn tb k ks Q).ks=[]:=by kernel_rfl)
  (e:∀(K:LP) (ρ:gO) (h:Hp),VA C fn.ntmps tb (kN C fn.ntmps tb {fP C fn tb k ks Q with ks:=[kf is K]} false) ρ h=Ir 7 (B K) (is.map ρ) h:=by intros;kernel_rfl) (a:is.length=7:=by rfl):JV C fn tb k is ks Q l h:=
 JV.loop 7 I B b d e (λk l h g i=>match l,g,i with|[f,j,n,o,p,q,r],_,i=>s k f j n o p q r h i) a (a.trans g.symm) i
theorem JV.r7(B:Rm)(e:∀(ρ:gO)(h:Hp),VA C fn.ntmps tb (fP C fn tb k ks Q) ρ h=Ir 7 B (is.map ρ) h:=by intros;kernel_rfl)(a:is.length=7:=by rfl):R7 B (JV C fn tb k is ks Q):=λH=>JV.mk 7 B e a H
abbrev S8(I:Nat->LP)(B:LP->Mm):Prop:=∀(k:Nat) (a b c d e f g i:V) (h:Hp),I k [a,b,c,d,e,f,g,i] h->B (Ey I k) a b c d e f g i h
abbrev R8(B:Mm)(J:LP):Prop:=∀{a b c d e f g i:V} {h:Hp},B a b c d e f g i h->J [a,b,c,d,e,f,g,i] h
theorem JV.l8(I:Nat->LP)(B:LP->Mm)(s:S8 I B)(i:I m l h)(g:l.length=8)(b:lX (fP C fn tb k ks Q).c=true:=by kernel_rfl)(d:(fP C fn tb k ks Q).ks=[]:=by kernel_rfl)
  (e:∀(K:LP) (ρ:gO) (h:Hp),VA C fn.ntmps tb (kN C fn.ntmps tb {fP C fn tb k ks Q with ks:=[kf is K]} false) ρ h=Ir 8 (B K) (is.map ρ) h:=by intros;kernel_rfl) (a:is.length=8:=by rfl):JV C fn tb k is ks Q l h:=
 JV.loop 8 I B b d e (λk l h g i=>match l,g,i with|[f,j,n,o,p,q,r,t],_,i=>s k f j n o p q r t h i) a (a.trans g.symm) i
theorem JV.r8(B:Mm)(e:∀(ρ:gO)(h:Hp),VA C fn.ntmps tb (fP C fn tb k ks Q) ρ h=Ir 8 B (is.map ρ) h:=by intros;kernel_rfl)(a:is.length=8:=by rfl):R8 B (JV C fn tb k is ks Q):=λH=>JV.mk 8 B e a H
abbrev S9(I:Nat->LP)(B:LP->QP9):Prop:=∀(k:Nat) (a b c d e f g i j:V) (h:Hp),I k [a,b,c,d,e,f,g,i,j] h->B (Ey I k) a b c d e f g i j h
abbrev R9(B:QP9)(J:LP):Prop:=∀{a b c d e f g i j:V} {h:Hp},B a b c d e f g i j h->J [a,b,c,d,e,f,g,i,j] h
theorem JV.l9(I:Nat->LP)(B:LP->QP9)(s:S9 I B)(i:I m l h)(g:l.length=9)(b:lX (fP C fn tb k ks Q).c=true:=by kernel_rfl)(d:(fP C fn tb k ks Q).ks=[]:=by kernel_rfl)
  (e:∀(K:LP) (ρ:gO) (h:Hp),VA C fn.ntmps tb (kN C fn.ntmps tb {fP C fn tb k ks Q with ks:=[kf is K]} false) ρ h=Ir 9 (B K) (is.map ρ) h:=by intros;kernel_rfl) (a:is.length=9:=by rfl):JV C fn tb k is ks Q l h:=
 JV.loop 9 I B b d e (λk l h g i=>match l,g,i with|[f,j,n,o,p,q,r,t,u],_,i=>s k f j n o p q r t u h i) a (a.trans g.symm) i
theorem JV.r9(B:QP9)(e:∀(ρ:gO)(h:Hp),VA C fn.ntmps tb (fP C fn tb k ks Q) ρ h=Ir 9 B (is.map ρ) h:=by intros;kernel_rfl)(a:is.length=9:=by rfl):R9 B (JV C fn tb k is ks Q):=λH=>JV.mk 9 B e a H
abbrev S10(I:Nat->LP)(B:LP->K7):Prop:=∀(k:Nat) (b c d e f g i j l a:V) (h:Hp),I k [b,c,d,e,f,g,i,j,l,a] h->B (Ey I k) b c d e f g i j l a h
abbrev FN(B:K7)(J:LP):Prop:=∀{b c d e f g i j k a:V} {h:Hp},B b c d e f g i j k a h->J [b,c,d,e,f,g,i,j,k,a] h
theorem JV.l10(I:Nat->LP)(B:LP->K7)(s:S10 I B)(i:I m l h)(g:l.length=10)(d:lX (fP C fn tb k ks Q).c=true:=by kernel_rfl)(f:(fP C fn tb k ks Q).ks=[]:=by kernel_rfl)
  (e:∀(K:LP) (ρ:gO) (h:Hp),VA C fn.ntmps tb (kN C fn.ntmps tb {fP C fn tb k ks Q with ks:=[kf is K]} false) ρ h=Ir 10 (B K) (is.map ρ) h:=by intros;kernel_rfl) (b:is.length=10:=by rfl):JV C fn tb k is ks Q l h:=
 JV.loop 10 I B d f e (λk l h g i=>match l,g,i with|[j,n,o,p,q,r,t,u,v,a],_,i=>s k j n o p q r t u v a h i) b (b.trans g.symm) i
theorem JV.Zx(B:K7)(e:∀(ρ:gO)(h:Hp),VA C fn.ntmps tb (fP C fn tb k ks Q) ρ h=Ir 10 B (is.map ρ) h:=by intros;kernel_rfl)(a:is.length=10:=by rfl):FN B (JV C fn tb k is ks Q):=λH=>JV.mk 10 B e a H
abbrev S11(I:Nat->LP)(B:LP->G7):Prop:=∀(k:Nat) (c d e f g i j l m a b:V) (h:Hp),I k [c,d,e,f,g,i,j,l,m,a,b] h->B (Ey I k) c d e f g i j l m a b h
abbrev R11(B:G7)(J:LP):Prop:=∀{c d e f g i j k l a b:V} {h:Hp},B c d e f g i j k l a b h->J [c,d,e,f,g,i,j,k,l,a,b] h
theorem JV.l11(I:Nat->LP)(B:LP->G7)(s:S11 I B)(i:I m l h)(g:l.length=11)(f:lX (fP C fn tb k ks Q).c=true:=by kernel_rfl)(j:(fP C fn tb k ks Q).ks=[]:=by kernel_rfl)
  (e:∀(K:LP) (ρ:gO) (h:Hp),VA C fn.ntmps tb (kN C fn.ntmps tb {fP C fn tb k ks Q with ks:=[kf is K]} false) ρ h=Ir 11 (B K) (is.map ρ) h:=by intros;kernel_rfl) (d:is.length=11:=by rfl):JV C fn tb k is ks Q l h:=
 JV.loop 11 I B f j e (λk l h g i=>match l,g,i with|[n,o,p,q,r,t,u,v,w,a,b],_,i=>s k n o p q r t u v w a b h i) d (d.trans g.symm) i
abbrev S12(I:Nat->LP)(B:LP->zaX):Prop:=∀(k:Nat) (d e f g i j l m n a b c:V) (h:Hp),I k [d,e,f,g,i,j,l,m,n,a,b,c] h->B (Ey I k) d e f g i j l m n a b c h
abbrev R12(B:zaX)(J:LP):Prop:=∀{d e f g i j k l m a b c:V} {h:Hp},B d e f g i j k l m a b c h->J [d,e,f,g,i,j,k,l,m,a,b,c] h
theorem JV.l12(I:Nat->LP)(B:LP->zaX)(s:S12 I B)(i:I m l h)(g:l.length=12)(j:lX (fP C fn tb k ks Q).c=true:=by kernel_rfl)(n:(fP C fn tb k ks Q).ks=[]:=by kernel_rfl)
  (e:∀(K:LP) (ρ:gO) (h:Hp),VA C fn.ntmps tb (kN C fn.ntmps tb {fP C fn tb k ks Q with ks:=[kf is K]} false) ρ h=Ir 12 (B K) (is.map ρ) h:=by intros;kernel_rfl) (f:is.length=12:=by rfl):JV C fn tb k is ks Q l h:=
 JV.loop 12 I B j n e (λk l h g i=>match l,g,i with|[o,p,q,r,t,u,v,w,x,a,b,d],_,i=>s k o p q r t u v w x a b d h i) f (f.trans g.symm) i
theorem JV.r12(B:zaX)(e:∀(ρ:gO)(h:Hp),VA C fn.ntmps tb (fP C fn tb k ks Q) ρ h=Ir 12 B (is.map ρ) h:=by intros;kernel_rfl)(a:is.length=12:=by rfl):R12 B (JV C fn tb k is ks Q):=λH=>JV.mk 12 B e a H
abbrev S13(I:Nat->LP)(B:LP->Jc):Prop:=∀(k:Nat) (e f g i j l m n o a b c d:V) (h:Hp),I k [e,f,g,i,j,l,m,n,o,a,b,c,d] h->B (Ey I k) e f g i j l m n o a b c d h
abbrev R13(B:Jc)(J:LP):Prop:=∀{e f g i j k l m n a b c d:V} {h:Hp},B e f g i j k l m n a b c d h->J [e,f,g,i,j,k,l,m,n,a,b,c,d] h
theorem JV.l13(I:Nat->LP)(B:LP->Jc)(s:S13 I B)(i:I m l h)(g:l.length=13)(n:lX (fP C fn tb k ks Q).c=true:=by kernel_rfl)(o:(fP C fn tb k ks Q).ks=[]:=by kernel_rfl)
  (e:∀(K:LP) (ρ:gO) (h:Hp),VA C fn.ntmps tb (kN C fn.ntmps tb {fP C fn tb k ks Q with ks:=[kf is K]} false) ρ h=Ir 13 (B K) (is.map ρ) h:=by intros;kernel_rfl) (j:is.length=13:=by rfl):JV C fn tb k is ks Q l h:=
 JV.loop 13 I B n o e (λk l h g i=>match l,g,i with|[p,q,r,t,u,v,w,x,y,a,b,d,f],_,i=>s k p q r t u v w x y a b d f h i) j (j.trans g.symm) i
theorem JV.r13(B:Jc)(e:∀(ρ:gO)(h:Hp),VA C fn.ntmps tb (fP C fn tb k ks Q) ρ h=Ir 13 B (is.map ρ) h:=by intros;kernel_rfl)(a:is.length=13:=by rfl):R13 B (JV C fn tb k is ks Q):=λH=>JV.mk 13 B e a H
abbrev S14(I:Nat->LP)(B:LP->zaM):Prop:=∀(k:Nat) (f g i j l m n o p a b c d e:V) (h:Hp),I k [f,g,i,j,l,m,n,o,p,a,b,c,d,e] h->B (Ey I k) f g i j l m n o p a b c d e h
abbrev R14(B:zaM)(J:LP):Prop:=∀{f g i j k l m n o a b c d e:V} {h:Hp},B f g i j k l m n o a b c d e h->J [f,g,i,j,k,l,m,n,o,a,b,c,d,e] h
theorem JV.l14(I:Nat->LP)(B:LP->zaM)(s:S14 I B)(i:I m l h)(g:l.length=14)(o:lX (fP C fn tb k ks Q).c=true:=by kernel_rfl)(p:(fP C fn tb k ks Q).ks=[]:=by kernel_rfl)
  (e:∀(K:LP) (ρ:gO) (h:Hp),VA C fn.ntmps tb (kN C fn.ntmps tb {fP C fn tb k ks Q with ks:=[kf is K]} false) ρ h=Ir 14 (B K) (is.map ρ) h:=by intros;kernel_rfl) (n:is.length=14:=by rfl):JV C fn tb k is ks Q l h:=
 JV.loop 14 I B o p e (λk l h g i=>match l,g,i with|[q,r,t,u,v,w,x,y,z,a,b,d,f,j],_,i=>s k q r t u v w x y z a b d f j h i) n (n.trans g.symm) i
theorem JV.r14(B:zaM)(e:∀(ρ:gO)(h:Hp),VA C fn.ntmps tb (fP C fn tb k ks Q) ρ h=Ir 14 B (is.map ρ) h:=by intros;kernel_rfl)(a:is.length=14:=by rfl):R14 B (JV C fn tb k is ks Q):=λH=>JV.mk 14 B e a H
abbrev R15(B:zd6)(J:LP):Prop:=∀{g i j k l m n o p a b c d e f:V} {h:Hp},B g i j k l m n o p a b c d e f h->J [g,i,j,k,l,m,n,o,p,a,b,c,d,e,f] h
theorem JV.r15(B:zd6)(e:∀(ρ:gO)(h:Hp),VA C fn.ntmps tb (fP C fn tb k ks Q) ρ h=Ir 15 B (is.map ρ) h:=by intros;kernel_rfl)(a:is.length=15:=by rfl):R15 B (JV C fn tb k is ks Q):=λH=>JV.mk 15 B e a H
abbrev S17(I:Nat->LP)(B:LP->zcK):Prop:=∀(k:Nat) (j l m n o p q r s a b c d e f g i:V) (h:Hp),I k [j,l,m,n,o,p,q,r,s,a,b,c,d,e,f,g,i] h->B (Ey I k) j l m n o p q r s a b c d e f g i h
abbrev R17(B:zcK)(J:LP):Prop:=∀{j k l m n o p q r a b c d e f g i:V} {h:Hp},B j k l m n o p q r a b c d e f g i h->J [j,k,l,m,n,o,p,q,r,a,b,c,d,e,f,g,i] h
theorem JV.l17(I:Nat->LP)(B:LP->zcK)(s:S17 I B)(i:I m l h)(g:l.length=17)(r:lX (fP C fn tb k ks Q).c=true:=by kernel_rfl)(t:(fP C fn tb k ks Q).ks=[]:=by kernel_rfl)
  (e:∀(K:LP) (ρ:gO) (h:Hp),VA C fn.ntmps tb (kN C fn.ntmps tb {fP C fn tb k ks Q with ks:=[kf is K]} false) ρ h=Ir 17 (B K) (is.map ρ) h:=by intros;kernel_rfl) (q:is.length=17:=by rfl):JV C fn tb k is ks Q l h:=
 JV.loop 17 I B r t e (λk l h g i=>match l,g,i with|[u,v,w,x,y,z,A,D,E,a,b,d,f,j,n,o,p],_,i=>s k u v w x y z A D E a b d f j n o p h i) q (q.trans g.symm) i
abbrev S18(I:Nat->LP)(B:LP->zdk):Prop:=∀(k:Nat) (l m n o p q r s t a b c d e f g i j:V) (h:Hp),I k [l,m,n,o,p,q,r,s,t,a,b,c,d,e,f,g,i,j] h->B (Ey I k) l m n o p q r s t a b c d e f g i j h
abbrev R18(B:zdk)(J:LP):Prop:=∀{k l m n o p q r s a b c d e f g i j:V} {h:Hp},B k l m n o p q r s a b c d e f g i j h->J [k,l,m,n,o,p,q,r,s,a,b,c,d,e,f,g,i,j] h
theorem JV.l18(I:Nat->LP)(B:LP->zdk)(s:S18 I B)(i:I m l h)(g:l.length=18)(t:lX (fP C fn tb k ks Q).c=true:=by kernel_rfl)(u:(fP C fn tb k ks Q).ks=[]:=by kernel_rfl)
  (e:∀(K:LP) (ρ:gO) (h:Hp),VA C fn.ntmps tb (kN C fn.ntmps tb {fP C fn tb k ks Q with ks:=[kf is K]} false) ρ h=Ir 18 (B K) (is.map ρ) h:=by intros;kernel_rfl) (r:is.length=18:=by rfl):JV C fn tb k is ks Q l h:=
 JV.loop 18 I B t u e (λk l h g i=>match l,g,i with|[v,w,x,y,z,A,D,E,F,a,b,d,f,j,n,o,p,q],_,i=>s k v w x y z A D E F a b d f j n o p q h i) r (r.trans g.symm) i
abbrev nZ:V:= .int .i64 0
abbrev nO:V:= .int .i64 1
abbrev nS:V:= .ei
abbrev bT:V:= .bool true
abbrev bF:V:= .bool false
abbrev zC(T:Nat)(l:List V):Option (O×(Nat->V)):=some (.cells T 1 true false l,λl=> .ptr l 0)
abbrev P2(I:Nat->QP2)(B:(QP2)->QP2):Prop:=∀(k:Nat) (a b:V) (h:Hp),I k a b h->B (λa b h=>∃k',k' < k/\I k' a b h) a b h
abbrev P3(I:Nat->Tu)(B:(Tu)->Tu):Prop:=∀(k:Nat) (a b c:V) (h:Hp),I k a b c h->B (λa b c h=>∃k',k' < k/\I k' a b c h) a b c h
theorem WA.l3{a b d:Nat}{f i j:V}(I:Nat->Tu)(B:(Tu)->Tu)(s:P3 I B)(g:I m f i j h)(l:lX (fP C fn tb k ks Q).c=true:=by kernel_rfl)(n:(fP C fn tb k ks Q).ks=[]:=by kernel_rfl)
  (e:∀(K:Tu) (ρ:gO) (h:Hp),VA C fn.ntmps tb (kN C fn.ntmps tb {fP C fn tb k ks Q with ks:=[λρ h=>K (ρ a) (ρ b) (ρ d) h]} false) ρ h=B K (ρ a) (ρ b) (ρ d) h:=by intros;kernel_rfl):∀ρ:gO,ρ a=f->ρ b=i->ρ d=j->WA C fn tb k ks Q ρ h:=by
 rintro ρ rfl rfl rfl;exact WA.loop (λk ρ h=>I k (ρ a) (ρ b) (ρ d) h) l n (λk ρ h hi=>LA.of (by grind) (s k (ρ a) (ρ b) (ρ d) h hi)) g
abbrev P4(I:Nat->Ml)(B:(Ml)->Ml):Prop:=∀(k:Nat) (a b c d:V) (h:Hp),I k a b c d h->B (λa b c d h=>∃k',k' < k/\I k' a b c d h) a b c d h
theorem WA.l4{a b d f:Nat}{i j l n:V}(I:Nat->Ml)(B:(Ml)->Ml)(s:P4 I B)(g:I m i j l n h)(o:lX (fP C fn tb k ks Q).c=true:=by kernel_rfl)(p:(fP C fn tb k ks Q).ks=[]:=by kernel_rfl)
  (e:∀(K:Ml) (ρ:gO) (h:Hp),VA C fn.ntmps tb (kN C fn.ntmps tb {fP C fn tb k ks Q with ks:=[λρ h=>K (ρ a) (ρ b) (ρ d) (ρ f) h]} false) ρ h=B K (ρ a) (ρ b) (ρ d) (ρ f) h:=by intros;kernel_rfl):∀ρ:gO,ρ a=i->ρ b=j->ρ d=l->ρ f=n->WA C fn tb k ks Q ρ h:=by
 rintro ρ rfl rfl rfl rfl;exact WA.loop (λk ρ h=>I k (ρ a) (ρ b) (ρ d) (ρ f) h) o p (λk ρ h hi=>LA.of (by grind) (s k (ρ a) (ρ b) (ρ d) (ρ f) h hi)) g
abbrev P5(I:Nat->KH)(B:(KH)->KH):Prop:=∀(k:Nat) (a b c d e:V) (h:Hp),I k a b c d e h->B (λa b c d e h=>∃k',k' < k/\I k' a b c d e h) a b c d e h
theorem WA.l5{a b d f i5:Nat}{i j l n o:V}(I:Nat->KH)(B:(KH)->KH)(s:P5 I B)(g:I m i j l n o h)(p:lX (fP C fn tb k ks Q).c=true:=by kernel_rfl)(q:(fP C fn tb k ks Q).ks=[]:=by kernel_rfl)
  (e:∀(K:KH) (ρ:gO) (h:Hp),VA C fn.ntmps tb (kN C fn.ntmps tb {fP C fn tb k ks Q with ks:=[λρ h=>K (ρ a) (ρ b) (ρ d) (ρ f) (ρ i5) h]} false) ρ h=B K (ρ a) (ρ b) (ρ d) (ρ f) (ρ i5) h:=by intros;kernel_rfl):∀ρ:gO,ρ a=i->ρ b=j->ρ d=l->ρ f=n->ρ i5=o->WA C fn tb k ks Q ρ h:=by
 rintro ρ rfl rfl rfl rfl rfl;exact WA.loop (λk ρ h=>I k (ρ a) (ρ b) (ρ d) (ρ f) (ρ i5) h) p q (λk ρ h hi=>LA.of (by grind) (s k (ρ a) (ρ b) (ρ d) (ρ f) (ρ i5) h hi)) g
abbrev P6(I:Nat->Q1)(B:(Q1)->Q1):Prop:=∀(k:Nat) (a b c d e f:V) (h:Hp),I k a b c d e f h->B (λa b c d e f h=>∃k',k' < k/\I k' a b c d e f h) a b c d e f h
theorem WA.l6{a b d f i5 i6:Nat}{i j l n o p:V}(I:Nat->Q1)(B:(Q1)->Q1)(s:P6 I B)(g:I m i j l n o p h)(q:lX (fP C fn tb k ks Q).c=true:=by kernel_rfl)(r:(fP C fn tb k ks Q).ks=[]:=by kernel_rfl)
  (e:∀(K:Q1) (ρ:gO) (h:Hp),VA C fn.ntmps tb (kN C fn.ntmps tb {fP C fn tb k ks Q with ks:=[λρ h=>K (ρ a) (ρ b) (ρ d) (ρ f) (ρ i5) (ρ i6) h]} false) ρ h=B K (ρ a) (ρ b) (ρ d) (ρ f) (ρ i5) (ρ i6) h:=by intros;kernel_rfl):∀ρ:gO,ρ a=i->ρ b=j->ρ d=l->ρ f=n->ρ i5=o->ρ i6=p->WA C fn tb k ks Q ρ h:=by
 rintro ρ rfl rfl rfl rfl rfl rfl;exact WA.loop (λk ρ h=>I k (ρ a) (ρ b) (ρ d) (ρ f) (ρ i5) (ρ i6) h) q r (λk ρ h hi=>LA.of (by grind) (s k (ρ a) (ρ b) (ρ d) (ρ f) (ρ i5) (ρ i6) h hi)) g
abbrev P7(I:Nat->Rm)(B:(Rm)->Rm):Prop:=∀(k:Nat) (a b c d e f g:V) (h:Hp),I k a b c d e f g h->B (λa b c d e f g h=>∃k',k' < k/\I k' a b c d e f g h) a b c d e f g h
theorem WA.l7{a b d f i5 i6 i:Nat}{j l n o p q r:V}(I:Nat->Rm)(B:(Rm)->Rm)(s:P7 I B)(g:I m j l n o p q r h)(t:lX (fP C fn tb k ks Q).c=true:=by kernel_rfl)(u:(fP C fn tb k ks Q).ks=[]:=by kernel_rfl)
  (e:∀(K:Rm) (ρ:gO) (h:Hp),VA C fn.ntmps tb (kN C fn.ntmps tb {fP C fn tb k ks Q with ks:=[λρ h=>K (ρ a) (ρ b) (ρ d) (ρ f) (ρ i5) (ρ i6) (ρ i) h]} false) ρ h=B K (ρ a) (ρ b) (ρ d) (ρ f) (ρ i5) (ρ i6) (ρ i) h:=by intros;kernel_rfl):∀ρ:gO,ρ a=j->ρ b=l->ρ d=n->ρ f=o->ρ i5=p->ρ i6=q->ρ i=r->WA C fn tb k ks Q ρ h:=by
 rintro ρ rfl rfl rfl rfl rfl rfl rfl;exact WA.loop (λk ρ h=>I k (ρ a) (ρ b) (ρ d) (ρ f) (ρ i5) (ρ i6) (ρ i) h) t u (λk ρ h hi=>LA.of (by grind) (s k (ρ a) (ρ b) (ρ d) (ρ f) (ρ i5) (ρ i6) (ρ i) h hi)) g
abbrev P8(I:Nat->Mm)(B:(Mm)->Mm):Prop:=∀(k:Nat) (a b c d e f g i:V) (h:Hp),I k a b c d e f g i h->B (λa b c d e f g i h=>∃k',k' < k/\I k' a b c d e f g i h) a b c d e f g i h
theorem WA.l8{a b d f i5 i6 i j:Nat}{l n o p q r t u:V}(I:Nat->Mm)(B:(Mm)->Mm)(s:P8 I B)(g:I m l n o p q r t u h)(v:lX (fP C fn tb k ks Q).c=true:=by kernel_rfl)(w:(fP C fn tb k ks Q).ks=[]:=by kernel_rfl)
  (e:∀(K:Mm) (ρ:gO) (h:Hp),VA C fn.ntmps tb (kN C fn.ntmps tb {fP C fn tb k ks Q with ks:=[λρ h=>K (ρ a) (ρ b) (ρ d) (ρ f) (ρ i5) (ρ i6) (ρ i) (ρ j) h]} false) ρ h=B K (ρ a) (ρ b) (ρ d) (ρ f) (ρ i5) (ρ i6) (ρ i) (ρ j) h:=by intros;kernel_rfl):∀ρ:gO,ρ a=l->ρ b=n->ρ d=o->ρ f=p->ρ i5=q->ρ i6=r->ρ i=t->ρ j=u->WA C fn tb k ks Q ρ h:=by
 rintro ρ rfl rfl rfl rfl rfl rfl rfl rfl;exact WA.loop (λk ρ h=>I k (ρ a) (ρ b) (ρ d) (ρ f) (ρ i5) (ρ i6) (ρ i) (ρ j) h) v w (λk ρ h hi=>LA.of (by grind) (s k (ρ a) (ρ b) (ρ d) (ρ f) (ρ i5) (ρ i6) (ρ i) (ρ j) h hi)) g
abbrev P10(I:Nat->K7)(B:(K7)->K7):Prop:=∀(k:Nat) (b c d e f g i j l a:V) (h:Hp),I k b c d e f g i j l a h->B (λb c d e f g i j l a h=>∃k',k' < k/\I k' b c d e f g i j l a h) b c d e f g i j l a h
theorem WA.l10{b d f i i5 i6 j l n a:Nat}{p q r t u v w x y o:V}(I:Nat->K7)(B:(K7)->K7)(s:P10 I B)(g:I m p q r t u v w x y o h)(z:lX (fP C fn tb k ks Q).c=true:=by kernel_rfl)(A:(fP C fn tb k ks Q).ks=[]:=by kernel_rfl)
  (e:∀(K:K7) (ρ:gO) (h:Hp),VA C fn.ntmps tb (kN C fn.ntmps tb {fP C fn tb k ks Q with ks:=[λρ h=>K (ρ b) (ρ d) (ρ f) (ρ i) (ρ i5) (ρ i6) (ρ j) (ρ l) (ρ n) (ρ a) h]} false) ρ h=B K (ρ b) (ρ d) (ρ f) (ρ i) (ρ i5) (ρ i6) (ρ j) (ρ l) (ρ n) (ρ a) h:=by intros;kernel_rfl):∀ρ:gO,ρ b=p->ρ d=q->ρ f=r->ρ i=t->ρ i5=u->ρ i6=v->ρ j=w->ρ l=x->ρ n=y->ρ a=o->WA C fn tb k ks Q ρ h:=by
 rintro ρ rfl rfl rfl rfl rfl rfl rfl rfl rfl rfl;exact WA.loop (λk ρ h=>I k (ρ b) (ρ d) (ρ f) (ρ i) (ρ i5) (ρ i6) (ρ j) (ρ l) (ρ n) (ρ a) h) z A (λk ρ h hi=>LA.of (by grind) (s k (ρ b) (ρ d) (ρ f) (ρ i) (ρ i5) (ρ i6) (ρ j) (ρ l) (ρ n) (ρ a) h hi)) g
abbrev P11(I:Nat->G7)(B:(G7)->G7):Prop:=∀(k:Nat) (c d e f g i j l m a b:V) (h:Hp),I k c d e f g i j l m a b h->B (λc d e f g i j l m a b h=>∃k',k' < k/\I k' c d e f g i j l m a b h) c d e f g i j l m a b h
theorem WA.l11{d f i j i5 i6 l n o a b:Nat}{r t u v w x y z A p q:V}(I:Nat->G7)(B:(G7)->G7)(s:P11 I B)(g:I m r t u v w x y z A p q h)(D:lX (fP C fn tb k ks Q).c=true:=by kernel_rfl)(E:(fP C fn tb k ks Q).ks=[]:=by kernel_rfl)
  (e:∀(K:G7) (ρ:gO) (h:Hp),VA C fn.ntmps tb (kN C fn.ntmps tb {fP C fn tb k ks Q with ks:=[λρ h=>K (ρ d) (ρ f) (ρ i) (ρ j) (ρ i5) (ρ i6) (ρ l) (ρ n) (ρ o) (ρ a) (ρ b) h]} false) ρ h=B K (ρ d) (ρ f) (ρ i) (ρ j) (ρ i5) (ρ i6) (ρ l) (ρ n) (ρ o) (ρ a) (ρ b) h:=by intros;kernel_rfl):∀ρ:gO,ρ d=r->ρ f=t->ρ i=u->ρ j=v->ρ i5=w->ρ i6=x->ρ l=y->ρ n=z->ρ o=A->ρ a=p->ρ b=q->WA C fn tb k ks Q ρ h:=by
 rintro ρ rfl rfl rfl rfl rfl rfl rfl rfl rfl rfl rfl;exact WA.loop (λk ρ h=>I k (ρ d) (ρ f) (ρ i) (ρ j) (ρ i5) (ρ i6) (ρ l) (ρ n) (ρ o) (ρ a) (ρ b) h) D E (λk ρ h hi=>LA.of (by grind) (s k (ρ d) (ρ f) (ρ i) (ρ j) (ρ i5) (ρ i6) (ρ l) (ρ n) (ρ o) (ρ a) (ρ b) h hi)) g
abbrev P13(I:Nat->Jc)(B:(Jc)->Jc):Prop:=∀(k:Nat) (e f g i j l m n o a b c d:V) (h:Hp),I k e f g i j l m n o a b c d h->B (λe f g i j l m n o a b c d h=>∃k',k' < k/\I k' e f g i j l m n o a b c d h) e f g i j l m n o a b c d h
theorem WA.l13{i j l n i5 i6 o p q a b d f:Nat}{w x y z A D E F G r t u v:V}(I:Nat->Jc)(B:(Jc)->Jc)(s:P13 I B)(g:I m w x y z A D E F G r t u v h)(H:lX (fP C fn tb k ks Q).c=true:=by kernel_rfl)(J:(fP C fn tb k ks Q).ks=[]:=by kernel_rfl)
  (e:∀(K:Jc) (ρ:gO) (h:Hp),VA C fn.ntmps tb (kN C fn.ntmps tb {fP C fn tb k ks Q with ks:=[λρ h=>K (ρ i) (ρ j) (ρ l) (ρ n) (ρ i5) (ρ i6) (ρ o) (ρ p) (ρ q) (ρ a) (ρ b) (ρ d) (ρ f) h]} false) ρ h=B K (ρ i) (ρ j) (ρ l) (ρ n) (ρ i5) (ρ i6) (ρ o) (ρ p) (ρ q) (ρ a) (ρ b) (ρ d) (ρ f) h:=by intros;kernel_rfl):∀ρ:gO,ρ i=w->ρ j=x->ρ l=y->ρ n=z->ρ i5=A->ρ i6=D->ρ o=E->ρ p=F->ρ q=G->ρ a=r->ρ b=t->ρ d=u->ρ f=v->WA C fn tb k ks Q ρ h:=by
 rintro ρ rfl rfl rfl rfl rfl rfl rfl rfl rfl rfl rfl rfl rfl;exact WA.loop (λk ρ h=>I k (ρ i) (ρ j) (ρ l) (ρ n) (ρ i5) (ρ i6) (ρ o) (ρ p) (ρ q) (ρ a) (ρ b) (ρ d) (ρ f) h) H J (λk ρ h hi=>LA.of (by grind) (s k (ρ i) (ρ j) (ρ l) (ρ n) (ρ i5) (ρ i6) (ρ o) (ρ p) (ρ q) (ρ a) (ρ b) (ρ d) (ρ f) h hi)) g
end
