/- Parts. -/
import Derived.Test.YtkpicojjjifmgaaGreatDoorM09
namespace Go.Proofs.YtkpicojjjifmgaaGreatDoor.Hx
abbrev XQ:=X->gK->Hp->Prop
abbrev fy:=V->Hp->Prop
abbrev QP2:=V->V->Hp->Prop
abbrev RU:=V->V->V->Hp->Prop
abbrev KS:=V->V->V->V->Hp->Prop
abbrev JG:=V->V->V->V->V->Hp->Prop
abbrev PS:=V->V->V->V->V->V->Hp->Prop
abbrev PZ:=V->V->V->V->V->V->V->Hp->Prop
abbrev K9:=V->V->V->V->V->V->V->V->Hp->Prop
abbrev QP9:=V->V->V->V->V->V->V->V->V->Hp->Prop
abbrev Kk:=V->V->V->V->V->V->V->V->V->V->Hp->Prop
abbrev EW:=V->V->V->V->V->V->V->V->V->V->V->Hp->Prop
abbrev Zp:=V->V->V->V->V->V->V->V->V->V->V->V->Hp->Prop
abbrev HW:=V->V->V->V->V->V->V->V->V->V->V->V->V->Hp->Prop
abbrev Y7:=V->V->V->V->V->V->V->V->V->V->V->V->V->V->Hp->Prop
abbrev zc8:=V->V->V->V->V->V->V->V->V->V->V->V->V->V->V->Hp->Prop
abbrev zbu:=V->V->V->V->V->V->V->V->V->V->V->V->V->V->V->V->V->Hp->Prop
abbrev za8:=V->V->V->V->V->V->V->V->V->V->V->V->V->V->V->V->V->V->Hp->Prop
def isVal(o:Oper):Bool:=match o.op with
 | .move x| .assign x=>OP x
 | .makeFunc _ _ _=>true
 | .makeInterface _ x=>OP x
 |_=>false
theorem Vf{o:Oper} (h:isVal o=true):cls o=0:=by
 grind[isVal,cls]
def opV(C:ft) (o:Oper) (K:V->gK->Hp->Prop):gK->Hp->Prop:=match isVal o with
 |true=>λρ h=>Option.rec (motive:=λ_=>Prop) False (λv=>K v ρ h) ((iV o).f (.fn ρ []) h)
 |false=>PW C o K
theorem zbP(C:ft) (o:Oper) (K:V->gK->Hp->Prop):opV C o K=PW C o K:=by
 unfold opV
 cases hv:isVal o with
 |false=>rfl
 | true=>
   unfold PW;rw[Vf hv];rfl
def Uy(C:ft) (n:Nat) (all:List Oper) (o:Oper) (K:gK->Hp->Prop):gK->Hp->Prop:=match Aj o with
 |some _=>λ_ _=>False
 | none=>match lC n all o with
   |none=>opV C o (pB n o K)
   |some g=>λρ h=>oP (g.f (.fn ρ [])) λb=>Yx C o b (pB n o K) ρ h
noncomputable section
inductive Gs where
 |last (o:Oper) (d:Nat)
 |op (o:Oper) (d:Nat) (a:Gs)
 |nest (w:Bool) (d:Nat) (sub:Gs) (o:Oper) (b:Nat) (a:Gs)
 |FY (w:Bool) (d:Nat) (sub:Gs) (o:Oper) (b:Nat)
def Gs.dst:Gs->Nat
 | .last _ d=>d
 | .op _ _ r=>r.dst
 | .nest _ _ _ _ _ r=>r.dst
 | .FY _ _ _ _ a=>a
def Gs.ops:Gs->List Oper
 | .last o _=>[o]
 | .op o _ r=>o::r.ops
 | .nest _ _ s o _ r=>s.ops++o::r.ops
 | .FY _ _ s o _=>s.ops++[o]
def gA(w:Bool) (c:V) (x:Option V):Option V:=match w with
 |true=>kv c x
 |false=>nt c x
def Py(b:Bool)(x:Option V):V:=Bool.rec (motive:=λ_=>V) V.undef (Option.rec (motive:=λ_=>V) V.undef (λv=>v) x) b
def Ou(w:Bool)(v:V):Bool:=Option.rec (motive:=λ_=>Bool) false (λb=>b) (fD w v)
noncomputable def AM(g:Gs):Bool->gK->Hp->gK:=Gs.rec (motive:=λ_=>Bool->gK->Hp->gK) (λo d b ρ h=>fu ρ d (Py b ((iV o).f (.fn ρ []) h))) (λo d _ c b ρ h=>c b (fu ρ d (Py b ((iV o).f (.fn ρ []) h))) h) (λw d _ o e _ a c b ρ h=>c b (fu (a (Ou w (ρ d)) ρ h) e (Py b ((iV o).f (.fn (a (Ou w (ρ d)) ρ h) []) h))) h) (λw d _ o e a b ρ h=>fu (a (Ou w (ρ d)) ρ h) e (Py b ((iV o).f (.fn (a (Ou w (ρ d)) ρ h) []) h))) g
noncomputable def gE(g:Gs):gK->Hp->Option V:=Gs.rec (motive:=λ_=>gK->Hp->Option V) (λo _ ρ h=>(iV o).f (.fn ρ []) h) (λo d _ b ρ h=>oB ((iV o).f (.fn ρ []) h) λv=>b (fu ρ d v) h) (λw d sub _ c _ a b ρ h=>oB (gA w (ρ d) (a ρ h)) λv=>b (fu (AM sub (Ou w (ρ d)) ρ h) c v) h) (λw d _ _ _ a ρ h=>gA w (ρ d) (a ρ h)) g
def QZ(x:Operand) (d:Nat):Bool:=match x with
 | .tmp i=>Nat.beq i d
 |_=>false
def Z7(x:Operand) (b:Bool):Bool:=match x with
 | .const v=>match nf 8 v with
   |some (.bool c)=>c == b
   |_=>false
 |_=>false
def Rq(o:Oper) (w:Bool) (d x:Nat):Bool:=match o.op with
 | .pick c a b=>QZ c d&&(match w with
   |true=>QZ a x&&Z7 b false
   |false=>QZ b x&&Z7 a true)
 |_=>false
def dOk(n:Nat) (o:Oper) (d:Nat):Bool:=match o.dst with
 |some a=>Nat.beq a d&&Nat.blt d n
 |none=>false
def Xh(n:Nat) (all:List Oper) (o:Oper) (w:Bool) (d:Nat):Bool:=match o.guard with
 | some (j,w')=>(w' == w)&&(match all[j]? with
   |some a=>dOk n a d
   |none=>false)
 |none=>false
def OJ(n:Nat)(all:List Oper)(av:List Nat)(w:Bool)(d:Nat)(o:Oper)(a:Nat):Bool:=Nat.beq (cls o) 0&&Xh n all o w d&&dOk n o a&&av.all (λi=>!(Nat.beq i a))
def V0(n:Nat) (all:List Oper):List Nat->Bool->Nat->List Nat->Gs->Bool
 |av,w,d,_,.last o a=>OJ n all av w d o a
 |av,w,d,ins,.op o a r=>OJ n all av w d o a&&V0 n all av w d (a::ins) r
 |av,w,d,ins,.nest w' a s o b r=>ins.any (λi=>Nat.beq i a)&&V0 n all (a::av) w' a [] s&&OJ n all av w d o b&&Rq o w' a s.dst&&V0 n all av w d (b::ins) r
 |av,w,d,ins, .FY w' a s o b=>ins.any (λi=>Nat.beq i a)&&V0 n all (a::av) w' a [] s&&OJ n all av w d o b&&Rq o w' a s.dst
def Ch(n:Nat) (all:List Oper) (h:Hp):List Oper->gK->gK->Prop
 |[],ρ,ρ'=>ρ' = ρ
 | o::os,ρ,ρ'=>cls o=0/\∃d v,o.dst=some d/\Nat.blt d n=true/\((lC n all o=none/\(iV o).f (.fn ρ []) h=some v)\/
   ∃g b,lC n all o=some g/\g.f (.fn ρ [])=some b/\gV b ((iV o).f (.fn ρ []) h)=some v)/\Ch n all h os (fu ρ d v) ρ'
theorem Ch.app{n:Nat} {all:List Oper} {h:Hp}:∀{os a:List Oper} {ρ e f:gK},Ch n all h os ρ e->Ch n all h a e f->Ch n all h (os++a) ρ f
 |[],_,_,_,_,b,c=>by cases b;exact c
 |_::_,_,_,_,_,⟨hc,d,v,b,c,g,i⟩,j=>⟨hc,d,v,b,c,g,i.app j⟩
theorem Lz(ρ:gK)(d:Nat)(v:V):fu ρ d v d=v:=U2 ρ d v
theorem WY{n:Nat} {all:List Oper} {o:Oper} {w:Bool} {d:Nat} (a:Xh n all o w d=true):∃g,lC n all o=some g/\∀ρ:gK,g.f (.fn ρ [])=fD w (ρ d):=by
 unfold Xh at a;split at a
 ·rename_i j w' b;simp only[vR,C9]at a;obtain⟨e,a⟩:=a;subst e;split at a
  ·rename_i l h;unfold dOk at a;split at a
   ·rename_i m i;simp only[vR]at a;obtain⟨c,k⟩:=a;have c:=AG c;subst c;refine⟨_,by simp only[lC,b,h,i,k];rfl,λρ=>rfl⟩
   simp_all
  simp_all
 simp_all
theorem UK{n:Nat} {all:List Oper} {av:List Nat} {w:Bool} {d:Nat} {o:Oper} {a:Nat} (b:OJ n all av w d o a=true) :
  cls o=0/\(∃g,lC n all o=some g/\∀ρ:gK,g.f (.fn ρ [])=fD w (ρ d))/\o.dst=some a/\Nat.blt a n=true/\∀i∈av,i≠a:=by
 unfold OJ at b;simp only[vR]at b;obtain⟨⟨⟨e,h⟩,c⟩,k⟩:=b;refine⟨AG e,WY h,?_⟩;unfold dOk at c;split at c
 ·rename_i j l;simp only[vR]at c
  grind[AG,Qk,Tn,absurd]
 simp_all
theorem MA{x:Operand} {d:Nat} (h:QZ x d=true):x = .tmp d:=by
 unfold QZ at h
 grind[AG,absurd]
theorem Ud{x:Operand} {b:Bool} (a:Z7 x b=true) (t:Tm) (h:Hp):(tx x).f t h=some (.bool b):=by
 unfold Z7 at a;split at a
 ·rename_i v;split at a
  ·rename_i c hc;have e:c=b:=by simpa using a
   subst e;show(Ni (.const v)).f t=_
   grind[Ni]
  simp_all
 simp_all
theorem UA{o:Oper} {w:Bool} {d x:Nat} (hp:Rq o w d x=true) {ρ:gK} {h:Hp} {c:Bool} (hc:ρ d = .bool c):(iV o).f (.fn ρ []) h=some (match w,c with
  |true,true=>ρ x
  |true,false=> .bool false
  |false,false=>ρ x
  |false,true=> .bool true)/\cls o=0:=by
 unfold Rq at hp;split at hp
 ·rename_i c' a b g;simp only[vR]at hp;obtain⟨j,e⟩:=hp;have k:=MA j;subst k;refine⟨?_,by grind[cls]⟩;have e0:(tx (.tmp d)).f (.fn ρ []) h=some (.bool c):=by show some (ρ d)=_;rw[hc]
  unfold iV;rw[g];simp only[KU,e0,oB]
  cases w with
  | true=>
    simp only[vR]at e;have i:=MA e.1;subst i
    cases c with
    |true=>rfl
    |false=>grind[Ud]
  | false=>
    simp only[vR]at e;have i:=MA e.1;subst i
    cases c with
    |true=>grind[Ud]
    |false=>rfl
 simp_all
theorem TI{w:Bool} {c:V} {x:Option V} {v:V} (a:gA w c x=some v):∃b,c = .bool b/\fD w c=some (b == w)/\((b=w/\x=some v)\/(b≠w/\v = .bool (!w))):=by
 unfold gA at a
 cases w with
 | true=>
   simp only[kv]at a;split at a
   ·cases a;simp_all
   ·simp_all
   ·cases a
 | false=>
   simp only[nt]at a;split at a
   ·cases a;simp_all
   ·simp_all
   ·cases a
theorem Q8(ρ:gK){d i:Nat}(v:V)(h:i≠d):fu ρ d v i=ρ i:=Zg ρ v h
theorem Ch.one{n:Nat} {all:List Oper} {av:List Nat} {w:Bool} {d:Nat} {o:Oper} {a:Nat} (c:OJ n all av w d o a=true) {ρ:gK} {h:Hp} {b:Bool} (k:fD w (ρ d)=some b) {v:V}
  (hv:gV b ((iV o).f (.fn ρ []) h)=some v):Ch n all h [o] ρ (fu ρ a v):=by
 obtain⟨e,⟨g,l,m⟩,i,j,p⟩:=UK c;exact⟨e,a,v,i,j,by grind,rfl⟩
theorem Ln{b:Bool} {x:Option V} {v:V} (h:gV b x=some v):Py b x=v:=by
 cases b with
 |true=>have h':x=some v:=h;subst h';rfl
 |false=>cases h;rfl
def QO(n:Nat) (all:List Oper) (av:List Nat) (os:List Oper) (b:Bool) (ρ a:gK) (h:Hp) (d:Nat) (x:V):Prop:=Ch n all h os ρ a/\a d=x/\(∀i∈av,a i=ρ i)/\(b=false->∀i,ρ i = .undef->a i = .undef)
theorem QO.one{n:Nat} {all:List Oper} {av:List Nat} {w:Bool} {d:Nat} {o:Oper} {a:Nat} (c:OJ n all av w d o a=true) {ρ:gK} {h:Hp} {b:Bool} (g:fD w (ρ d)=some b) {v:V}
  (hv:gV b ((iV o).f (.fn ρ []) h)=some v):QO n all av [o] b ρ (fu ρ a v) h a v:=by
 obtain⟨_,_,_,_,j⟩:=UK c;refine⟨Ch.one c g hv,Lz _ _ _,by grind[Q8],λe i hi=>?_⟩;subst e;cases hv
 grind[Lz,Q8]
theorem QO.trans{n:Nat} {all:List Oper} {av:List Nat} {os a:List Oper} {b:Bool} {ρ g j:gK} {h:Hp} {d k:Nat} {x l:V} (f:QO n all av os b ρ g h d x) (c:QO n all av a b g j h k l):QO n all av (os++a) b ρ j h k l:=
 ⟨f.1.app c.1,c.2.1,λi hi=>(c.2.2.1 i hi).trans (f.2.2.1 i hi),λe i hi=>c.2.2.2 e i (f.2.2.2 e i hi)⟩
theorem Vc{n:Nat} {all:List Oper}:∀(g:Gs) {av:List Nat} {w:Bool} {d:Nat} {k:List Nat},V0 n all av w d k g=true->d∈av->∀{ρ:gK} {h:Hp} {b:Bool},fD w (ρ d)=some b->
  (b=false->∀i∈k,ρ i = .undef)->∀{x:V},gV b (gE g ρ h)=some x->QO n all av g.ops b ρ (AM g b ρ h) h g.dst x:=by
 have nest:∀(s:Gs),(∀{av:List Nat} {w:Bool} {d:Nat} {k:List Nat},V0 n all av w d k s=true->d∈av->∀{ρ:gK} {h:Hp} {b:Bool},fD w (ρ d)=some b->
    (b=false->∀i∈k,ρ i = .undef)->∀{x:V},gV b (gE s ρ h)=some x->QO n all av s.ops b ρ (AM s b ρ h) h s.dst x)->
   ∀{av:List Nat} {w w':Bool} {d l u:Nat} {k:List Nat} {o:Oper},k.any (λi=>Nat.beq i l)=true->V0 n all (l::av) w' l [] s=true->OJ n all av w d o u=true->Rq o w' l s.dst=true->d∈av->
   ∀{ρ:gK} {h:Hp} {b:Bool},fD w (ρ d)=some b->(b=false->∀i∈k,ρ i = .undef)->∀{v:V},gV b (gA w' (ρ l) (gE s ρ h))=some v->
   gV b ((iV o).f (.fn (AM s (Ou w' (ρ l)) ρ h) []) h)=some v/\QO n all av (s.ops++[o]) b ρ (fu (AM s (Ou w' (ρ l)) ρ h) u v) h u v:=by
  intro s F av w w' d l u k o K hc X hp p ρ h b q hi v hv;obtain⟨i,aa,L⟩:=List.any_eq_true.1 K;have e:=AG L;subst e
  cases b with
  | true=>
    obtain⟨c,M,G,Y⟩:=TI (show gA w' (ρ i) (gE s ρ h)=some v from hv);have N:Ou w' (ρ i)=(c == w'):=by unfold Ou;rw[G]
    rw[N];obtain⟨y,hy⟩:∃y,gV (c == w') (gE s ρ h)=some y/\(c=w'->y=v):=by
      rcases Y with⟨H,O⟩|⟨H,O⟩
      ·simp_all
      ·have:(c == w')=false:=by simp[H]
       rw[this];simp_all
    obtain⟨P,Z,Q,k4⟩:=F hc (WD ..) G (by simp_all) hy.1;have R:AM s (c == w') ρ h i = .bool c:=by rw[Q i (WD ..)];exact M
    have S:=(UA hp (h:=h) R).1;have z:(iV o).f (.fn (AM s (c == w') ρ h) []) h=some v:=by
      rw[S,Z];rcases Y with⟨H,O⟩|⟨H,O⟩
      ·grind
      ·grind
    refine⟨z,?_⟩;have a:=QO.one X (ρ:=AM s (c == w') ρ h) (h:=h) (b:=true) (by simp_all) (v:=v) z
    refine⟨P.app a.1,a.2.1,λj I=>(a.2.2.1 j I).trans (by simp_all),by simp_all⟩
  | false=>
    have M:ρ i = .undef:=by simp_all
    have G:fD w' (ρ i)=some false:=by rw[M];rfl
    have N:Ou w' (ρ i)=false:=by unfold Ou;rw[G]
    rw[N];cases hv;obtain⟨P,Z,Q,k4⟩:=F hc (WD ..) G (by simp_all) (x:= .undef) rfl;refine⟨rfl,?_⟩;have a:=QO.one X (ρ:=AM s false ρ h) (h:=h) (b:=false) (by rw[Q d (wBy _ p)];exact q) (v:= .undef) rfl;exact⟨P.app a.1,a.2.1,λj I=>(a.2.2.1 j I).trans (by simp_all),λe j I=>a.2.2.2 e j (by simp_all)⟩
 intro g
 induction g with
 | last o l=>
   intro av w d k t p ρ h b q hi x A;have m:gV b ((iV o).f (.fn ρ []) h)=some x:=A;show QO n all av [o] b ρ (fu ρ l (Py b ((iV o).f (.fn ρ []) h))) h l x;rw[Ln m]
   exact QO.one t q m
 | op o l r F=>
   intro av w d k t p ρ h b q hi x A;simp only[V0,vR]at t;obtain⟨v,hv,m⟩:∃v,gV b ((iV o).f (.fn ρ []) h)=some v/\gV b (gE r (fu ρ l v) h)=some x:=by
     cases b with
     | true=>
       obtain⟨v,B,C⟩:=fx.1 (show oB ((iV o).f (.fn ρ []) h) _=some x from A)
       exact⟨v,B,C⟩
     |false=>simp_all
   have a:=QO.one t.1 q hv;show QO n all av ([o]++r.ops) b ρ (AM r b (fu ρ l (Py b ((iV o).f (.fn ρ []) h))) h) h r.dst x;rw[Ln hv];refine a.trans (F t.2 p (by rw[a.2.2.1 d p];exact q) ?_ m);intro e i D;rcases Ng.1 D with T|T
   ·simp_all[Lz]
   ·exact a.2.2.2 e i (by simp_all)
 | nest w' l s o u r E F=>
   intro av w d k t p ρ h b q hi x A;simp only[V0,vR]at t;obtain⟨⟨⟨⟨B,C⟩,U⟩,W⟩,h5⟩:=t;obtain⟨v,hv,m⟩:∃v,gV b (gA w' (ρ l) (gE s ρ h))=some v/\gV b (gE r (fu (AM s (Ou w' (ρ l)) ρ h) u v) h)=some x:=by
     cases b with
     | true=>
       obtain⟨v,B,C⟩:=fx.1 (show oB (gA w' (ρ l) (gE s ρ h)) _=some x from A)
       exact⟨v,B,C⟩
     |false=>simp_all
   obtain⟨n1,J⟩:=nest s E B C U W p q hi hv;show QO n all av (s.ops++([o]++r.ops)) b ρ (AM r b (fu (AM s (Ou w' (ρ l)) ρ h) u (Py b ((iV o).f (.fn (AM s (Ou w' (ρ l)) ρ h) []) h))) h) h r.dst x;rw[Ln n1,<-Ii];refine J.trans (F h5 p (by rw[J.2.2.1 d p];exact q) ?_ m);intro e i D;rcases Ng.1 D with T|T
   ·simp_all[Lz]
   ·exact J.2.2.2 e i (by simp_all)
 | FY w' l s o u E=>
   intro av w d k t p ρ h b q hi x A;simp only[V0,vR]at t;obtain⟨⟨⟨B,C⟩,U⟩,W⟩:=t;obtain⟨n1,J⟩:=nest s E B C U W p q hi (show gV b (gA w' (ρ l) (gE s ρ h))=some x from A);show QO n all av (s.ops++[o]) b ρ (fu (AM s (Ou w' (ρ l)) ρ h) u (Py b ((iV o).f (.fn (AM s (Ou w' (ρ l)) ρ h) []) h))) h u x
   grind[Ln]
inductive SU where
 |op (o:Oper) (d:Nat)
 |nest (w:Bool) (d:Nat) (sub:Gs) (o:Oper) (a:Nat)
def SU.dst:SU->Nat
 | .op _ d=>d
 | .nest _ _ _ _ a=>a
def SU.ops:SU->List Oper
 | .op o _=>[o]
 | .nest _ _ s o _=>s.ops++[o]
def SU.one:SU->Gs
 | .op o d=> .last o d
 | .nest w d s o a=> .FY w d s o a
def SU.cons(r:Gs):SU->Gs
 | .op o d=> .op o d r
 | .nest w d s o a=> .nest w d s o a r
def zd7(all:List Oper) (o:Oper):Option (Bool×Nat):=match o.guard with
 | some (j,w)=>match all[j]? with
   | some a=>match a.dst with
     |some d=>some (w,d)
     |none=>none
   |none=>none
 |none=>none
def O0(n : Nat) (all:List Oper) (Zy:Bool->Nat->List Nat->List Oper->Option (Gs×List Oper)) (w:Bool) (d:Nat) (a:List Nat) (os:List Oper):Option (SU×List Oper):=match os with
  |[]=>none
  | o ::os'=>match Xh n all o w d&&Nat.beq (cls o) 0,o.dst with
    |true,some d'=>some (.op o d',os')
    | _,_ => match zd7 all o with
      |none=>none
      | some (w',d')=>match a.any (λi=>Nat.beq i d')with
        |false=>none
        | true=>match Zy w' d' [] (o::os')with
          | some (s,p::os'')=>match Xh n all p w d&&Rq p w' d' s.dst,p.dst with
            |true,some dp=>some (.nest w' d' s p dp,os'')
            |_,_=>none
          |_=>none
noncomputable def Zy(n:Nat) (all:List Oper) (fuel:Nat):Bool->Nat->List Nat->List Oper->Option (Gs×List Oper):=
 Nat.rec (motive:=λ_=>Bool->Nat->List Nat->List Oper->Option (Gs×List Oper)) (λ_ _ _ _=>none) (λ_ b w d a os=>match O0 n all b w d a os with
  |none=>none
  | some (it,os')=>match b w d (it.dst::a) os' with
    |some (g,r)=>some (it.cons g,r)
    |none=>some (it.one,os')) fuel
theorem SI{n:Nat} {all:List Oper} {Zy:Bool->Nat->List Nat->List Oper->Option (Gs×List Oper)} (b:∀w d a os g r,Zy w d a os=some (g,r)->os=g.ops++r) {w:Bool} {d:Nat} {a:List Nat} {os:List Oper} {it:SU} {r:List Oper}
  (h:O0 n all Zy w d a os=some (it,r)):os=it.ops++r:=by
 unfold O0 at h;split at h
 ·cases h
 ·split at h
  ·cases h;rfl
  ·split at h
   ·cases h
   grind[SU.ops,Ii]
theorem Pu{n:Nat} {all:List Oper}:∀(fuel:Nat) (w:Bool) (d:Nat) (a:List Nat) (os:List Oper) (g:Gs) (r:List Oper),Zy n all fuel w d a os=some (g,r)->os=g.ops++r
 |0,_,_,_,_,_,_,h=>by cases h
 | fuel+1,w,d,a,os,g,r,h=>by
   have h':(match O0 n all (Zy n all fuel) w d a os with
     |none=>none
     | some (it,b)=>match Zy n all fuel w d (it.dst::a) b with
       |some (g,r)=>some (it.cons g,r)
       |none=>some (it.one,b))=some (g,r):=h
   split at h'
   ·cases h'
   ·rename_i it b c
    have f:=SI (λw d a os g r e=>Pu fuel w d a os g r e) c;split at h'
    ·rename_i j r' e
     cases h';have i:=Pu fuel _ _ _ _ _ _ e;rw[f,i];cases it <;> simp[SU.ops,SU.cons,Gs.ops]
    ·cases h'
     rw[f];cases it <;> simp[SU.ops,SU.one,Gs.ops]
noncomputable def W9(n:Nat) (all:List Oper) (os:List Oper):Option (Bool×Nat×Gs×Nat):=match os with
 |[]=>none
 | o ::_ => match o.guard with
   |none=>none
   | some (j,w)=>match all[j]? with
     |none=>none
     | some a=>match a.guard,a.dst,Nat.beq (cls o) 0 with
       | none,some d,true=>match Zy n all 60 w d [] os with
         | some (g,p::_)=>match p.guard,p.dst with
           | none,some dp=>match Rq p w d g.dst&&Nat.blt dp n&&V0 n all [d] w d [] g with
             |true=>some (w,d,g,dp)
             |false=>none
           |_,_=>none
         |_=>none
       |_,_,_=>none
theorem YA{n:Nat} {all os:List Oper} {w:Bool} {d:Nat} {g:Gs} {a:Nat} (h:W9 n all os=some (w,d,g,a)):∃p r,os=g.ops++p::r/\p.guard=none/\p.dst=some a/\Rq p w d g.dst=true/\Nat.blt a n=true/\V0 n all [d] w d [] g=true:=by
 unfold W9 at h;split at h
 ·cases h
 ·split at h
  ·cases h
  ·split at h
   ·cases h
   ·split at h
    ·split at h
     ·rename_i c;split at h
      ·rename_i e f;split at h
       ·rename_i b;cases h;simp only[vR]at b
        grind[Pu]
       ·cases h
      ·cases h
     ·cases h
    ·cases h
theorem GA{n:Nat} {o:Oper} {K a:gK->Hp->Prop} (b:∀ρ h,K ρ h->a ρ h) {v:V} {ρ:gK} {h:Hp} (c:pB n o K v ρ h):pB n o a v ρ h:=by
 grind[pB,Nat.blt]
theorem qc{α:Type}{x:Option α}{k k':α->Prop}(h:oP x k)(f:∀a,k a->k' a):oP x k':=by grind[oM]
theorem WH{C:ft} {o:Oper} {K b:V->gK->Hp->Prop} (e:∀v ρ h,K v ρ h->b v ρ h) {ρ:gK} {h:Hp} (d:PW C o K ρ h):PW C o b ρ h:=by
 unfold PW at d⊢;generalize cls o=c at d⊢;rcases c with _|_|c
 ·grind[qc]
 ·grind[qc]
 ·show Q1 C o b ρ h;have a:Q1 C o K ρ h:=d;unfold Q1 at a⊢;cases hi:yU o
  all_goals rw[hi]at a
  ·grind[qc]
  ·exact qc a λx H=>H.mono (by simp_all)
theorem XS{C:ft} {o:Oper} {b:Bool} {K d:V->gK->Hp->Prop} (e:∀v ρ h,K v ρ h->d v ρ h) {ρ:gK} {h:Hp} (a:Yx C o b K ρ h):Yx C o b d ρ h:=by
 unfold Yx at a⊢;generalize cls o=c at a⊢;rcases c with _|_|c
 ·grind[qc]
 ·grind[qc]
 ·simp only at a⊢;cases hi:yU o
  all_goals rw[hi]at a
  ·grind[qc]
  ·refine qc a λx H=>?_
   cases x with
   |none=>simp_all
   |some y=>exact cP.mono H (by simp_all)
theorem SO{C:ft} {n:Nat} {all:List Oper} {o:Oper} {K b:gK->Hp->Prop} (c:∀ρ h,K ρ h->b ρ h) {ρ:gK} {h:Hp} (a:Ak C n all o K ρ h):Ak C n all o b ρ h:=by
 unfold Ak at a⊢
 cases hd:Aj o with
 |some q=>simp_all
 | none=>
   rw[hd]at a;simp only at a⊢
   cases hw:lC n all o with
   |none=>rw[hw]at a;grind[WH,GA]
   |some g=>grind[qc,XS,GA]
theorem Wh(C:ft) (n:Nat) (all:List Oper) (o:Oper) (K:gK->Hp->Prop):Uy C n all o K=Ak C n all o K:=by
 grind[Uy,Ak,zbP]
theorem J3{o:Oper} (h:cls o=0):Aj o=none:=by
 grind[Aj,cls]
theorem Ch.zz{C:ft} {n:Nat} {all:List Oper} {h:Hp} {K:gK->Hp->Prop} {a:List Oper}:∀{os:List Oper} {ρ b:gK},Ch n all h os ρ b->zz C n all K a b h->zz C n all K (os++a) ρ h
 |[],_,_,hc,hk=>by cases hc;exact hk
 | o::os,ρ,b,⟨h0,d,v,c,e,i,f⟩,hk=>by
   have g:=f.zz (C:=C) (K:=K) hk;have j:pB n o (Hx.zz C n all K (os++a)) v ρ h:=by unfold pB;rw[c];simp only[e];exact g
   show Ak C n all o (Hx.zz C n all K (os++a)) ρ h
   grind[Ak,J3,PW,ee,Yx]
noncomputable def SN(C:ft) (n:Nat) (all:List Oper) (K:gK->Hp->Prop) (os:List Oper):Nat->gK->Hp->Prop:=
 List.rec (motive:=λ_=>Nat->gK->Hp->Prop) (λ_=>K) (λo os a b=>Nat.rec (motive:=λ_=>gK->Hp->Prop)
  (match W9 n all (o::os)with
   |some (w,d,g,dp)=>λρ h=>oP (gA w (ρ d) (gE g ρ h)) λv=>a g.ops.length (fu (AM g (Ou w (ρ d)) ρ h) dp v) h
   |none=>Uy C n all o (a 0)) (λk _=>a k) b) os
theorem I8{C:ft} {n:Nat} {all:List Oper} {K:gK->Hp->Prop}:∀(os:List Oper) (e:Nat) {ρ:gK} {h:Hp},SN C n all K os e ρ h->zz C n all K (os.drop e) ρ h
 |[],e,ρ,h,hk=>by rw[List.drop_nil];exact hk
 |o::os,e+1,ρ,h,hk=>I8 os e hk
 | o ::os,0,ρ,h,hk=>by
   have a:(match W9 n all (o::os)with
     |some (w,d,g,k)=>λ(ρ:gK) (h:Hp)=>oP (gA w (ρ d) (gE g ρ h)) λv=>SN C n all K os g.ops.length (fu (AM g (Ou w (ρ d)) ρ h) k v) h
     |none=>Uy C n all o (SN C n all K os 0):gK->Hp->Prop) ρ h:=hk
   show zz C n all K (o::os) ρ h
   cases hg:W9 n all (o::os)with
   | some x=>
     obtain⟨w,d,g,k⟩:=x;rw[hg]at a;simp only at a;obtain⟨p,r,q,N,A,b,i,B⟩:=YA hg;obtain⟨v,D,s⟩:=lB.1 a;obtain⟨c,E,c2,t⟩:=TI D;have F:Ou w (ρ d)=(c == w):=by unfold Ou;rw[c2]
     rw[F]at s;obtain⟨y,G⟩:∃y,gV (c == w) (gE g ρ h)=some y/\(c=w->y=v):=by
       rcases t with⟨b,i⟩|⟨b,i⟩
       ·simp_all
       ·have:(c == w)=false:=by simp[b]
        rw[this];simp_all
     obtain⟨H,I,J,O⟩:=Vc g B (WD ..) c2 (by simp_all) G.1;have l:AM g (c == w) ρ h d = .bool c:=by rw[J d (WD ..)];exact E
     have j:=UA b (h:=h) l;have u:(iV p).f (.fn (AM g (c == w) ρ h) []) h=some v:=by
       rw[j.1,I];rcases t with⟨b,i⟩|⟨b,i⟩
       ·grind
       ·grind
     have m:Ch n all h [p] (AM g (c == w) ρ h) (fu (AM g (c == w) ρ h) k v):=⟨j.2,k,v,A,i,by grind[lC],rfl⟩
     have hlen:os.drop g.ops.length=r:=by
       have L:(o::os).drop (g.ops.length+1)=r:=by rw[q,List.append_cons];exact by simp_all
       exact L
     have z:=I8 os _ s;rw[hlen]at z;rw[q,List.append_cons]
     exact(H.app m).zz z
   | none=>
     rw[hg]at a;simp only[Wh]at a;exact SO (λρ h M=>by have:=I8 os 0 M;exact this) a
def Cr(o:Oper):Bool:=match o.op with
 | .move x| .assign x| .nilCheck x| .fieldAddr _ x _| .field _ x _| .unOp _ _ x| .extract x _=>OP x
 | .pick c a b=>OP c&&OP a&&OP b
 | .binOp _ _ x y _=>OP x&&OP y
 | .indexAddr _ x i| .index _ x i=>OP x&&OP i
 | .build _ _| .makeFunc _ _ _=>true
 | .makeInterface _ x=>OP x
 | .call c=>match c.callee,c.args.toList,c.argTypes.toList with
   | .builtin .len,[x],ty::_=>match P0.underlying ty with
     |some (.slice _)=>OP x
     |_=>false
   |_,_,_=>false
 |_=>false
theorem Xv{o:Oper} (a:Cr o=true) (t:Tm) (h h':Hp):(iV o).f t h=(iV o).f t h':=by
 unfold Cr at a;unfold iV;split at a
 all_goals rename_i b
 all_goals try rw[b]
 all_goals try simp only[vR]at a
 ·grind[j5]
 ·grind[j5]
 ·grind[uS,j5]
 ·grind[ot,j5]
 ·grind[HZ,j5]
 ·grind[j5]
 ·grind[Fa,j5]
 ·grind[KU,j5]
 ·grind[j5]
 ·grind[oH,j5]
 ·grind[HR,j5]
 ·simp only[HH];grind
 ·split <;> first|rfl|simp_all
 ·dsimp only;split <;> first|rfl|grind[j5]
 ·grind[hlen,j5,absurd]
 simp_all
abbrev RE:=Bool×Rec×Bool×Bool
def Hm(k:Nat) (h:Hp) (rs:List RE) (K:Prop):Prop:=List.rec (motive:=λ_=>Prop) K (λr _ a=>Bool.rec (motive:=λ_=>Prop) (Option.rec (motive:=λ_=>Prop) (Bool.rec (motive:=λ_=>Prop) a (Bool.rec (motive:=λ_=>Prop) True (Er h r.2.1) r.1/\a) r.2.2.2) (λ_=>Bool.rec (motive:=λ_=>Prop) True (Er h r.2.1) r.1/\a) r.2.1.made) a (Nat.blt r.2.1.last k)) rs
def Jy(rs:List RE):List RE:=rs.map λr=>(r.1,r.2.1,r.2.2.1,!r.2.2.1)
def ur(rs:List RE):List (Bool×Rec):=rs.map λr=>(r.1,r.2.1)
def itV(C:ft) (n:Nat) (all:List Oper) (ws:List It) (a:It) (d:Nat->gK->Hp->List RE->Prop) (k:Nat):gK->Hp->List RE->Prop:=match cls a.o with
  | 0 =>match lC n all a.o with
    | none=>match isVal a.o with
      |true=>λρ h rs=>Option.rec (motive:=λ_=>Prop) False (λv=>pB n a.o (λc h=>d k c h ((true,{it:=a,t:= .fn ρ [],v,made:=none,last:=late ws a},Cr a.o,false)::rs)) v ρ h) ((iV a.o).f (.fn ρ []) h)
      |false=>λρ h rs=>oP ((iV a.o).f (.fn ρ []) h) λv=>pB n a.o (λc h=>d k c h ((true,{it:=a,t:= .fn ρ [],v,made:=none,last:=late ws a},Cr a.o,false)::rs)) v ρ h
    |some g=>λρ h rs=>oP (g.f (.fn ρ [])) λb=>oP (gV b ((iV a.o).f (.fn ρ []) h)) λv=>
       pB n a.o (λc h=>d k c h ((b,{it:=a,t:= .fn ρ [],v,made:=none,last:=late ws a},Cr a.o,false)::rs)) v ρ h
  | 1=>match lC n all a.o with
    |none=>λρ h rs=>oP ((qy a.o).f (.fn ρ [])) λr=>pB n a.o (λc h'=>d k c h' ((true,{it:=a,t:= .fn ρ [],v:=r.2 h.next,made:=some (h.next,r.1),last:=late ws a},false,false)::Jy rs)) (r.2 h.next) ρ (h.new r.1)
    |some _=>λ_ _ _=>False
  | _ =>match lC n all a.o with
    |none=>λρ h rs=>Hm k h rs (Q1 C a.o (λv ρ h'=>h.next<=h'.next/\pB n a.o (λρ h=>d (Nat.succ k) ρ h (Jy rs)) v ρ h') ρ h)
    | some g=>match yU a.o with
      |true=>λρ h rs=>Hm k h rs (oP (g.f (.fn ρ [])) λb=>oP (gC b (oB ((ku a.o).f (.fn ρ []) h) HS)) λx=>qo C x h λv h'=>h.next<=h'.next/\pB n a.o (λρ h=>d (Nat.succ k) ρ h (Jy rs)) v ρ h')
      |false=>λ_ _ _=>False
def HL(l:List It):Bool:=l.all λa=>Nat.beq (cls a.o) 0
def R0(C:ft) (n:Nat) (all:List Oper) (ws:List It) (K:gK->Hp->Prop) (l:List It):Nat->gK->Hp->List RE->Prop:=
 List.rec (motive:=λ_=>Nat->gK->Hp->List RE->Prop) (λk ρ h rs=>Hm k h rs (K ρ h)) (λa l b k=>match HL (a::l)with
  |true=>λρ h rs=>SN C n all (λρ h=>Hm k h rs (K ρ h)) ((a::l).map (·.o)) 0 ρ h
  |false=>itV C n all ws a b k) l
def VQ(h:Hp)(rs:List RE):Prop:=∀r∈rs,r.1=true->r.2.1.made=none->(r.2.2.1=true->∀h',Er h' r.2.1)/\(r.2.2.2=false->Er h r.2.1)
theorem VQ.yO{h:Hp} {rs:List RE} (hi:VQ h rs) (h':Hp):VQ h' (Jy rs):=by
 intro r b c d;obtain⟨r',a,e⟩:=LN.1 b;subst e;obtain⟨f,_⟩:=hi r' a c d
 simp_all
theorem MB(rs:List RE):ur (Jy rs)=ur rs:=by
 simp[ur,Jy]
theorem yr{k:Nat} {h:Hp}:∀{rs:List RE} {K d:Prop},VQ h rs->(K->d)->Hm k h rs K->xQ k h (ur rs) d
 |[],_,_,_,hk,hh=>hk hh
 | (b,r,f,st)::rs,K,d,hi,hk,hh=>by
   have c:VQ h rs:=λr c=>hi r (wBy _ c);have h0:=hi _ (WD ..)
   have a:Bool.rec (motive:=λ_=>Prop)
     (Option.rec (motive:=λ_=>Prop) (Bool.rec (motive:=λ_=>Prop) (Hm k h rs K) (Bool.rec (motive:=λ_=>Prop) True (Er h r) b/\Hm k h rs K) st)
     (λ_=>Bool.rec (motive:=λ_=>Prop) True (Er h r) b/\Hm k h rs K) r.made) (Hm k h rs K) (Nat.blt r.last k):=hh
   show Bool.rec (motive:=λ_=>Prop) (Bool.rec (motive:=λ_=>Prop) True (Er h r) b/\xQ k h (ur rs) d) (xQ k h (ur rs) d) (Nat.blt r.last k)
   cases hb:Nat.blt r.last k with
   |true=>rw[hb]at a;exact yr c hk a
   | false=>
     rw[hb]at a
     cases hm:r.made with
     |some x=>rw[hm]at a;exact⟨a.1,yr c hk a.2⟩
     | none=>
       rw[hm]at a
       cases st with
       |true=>exact⟨a.1,yr c hk a.2⟩
       | false=>
         refine⟨?_,yr c hk a⟩;cases b <;> grind
theorem XV{C:ft} {o:Oper} {K b:V->gK->Hp->Prop} (c:∀v ρ h,K v ρ h->b v ρ h) {ρ:gK} {h:Hp} (a:Q1 C o K ρ h):Q1 C o b ρ h:=by
 unfold Q1 at a⊢;cases hi:yU o
 all_goals rw[hi]at a
 ·grind[qc]
 ·exact qc a λx H=>H.mono (by simp_all)
theorem N7{k:Nat} {h:Hp} {K:Prop} {rs:List (Bool×Rec)}:∀{new:List (Bool×Rec)},(∀r∈new,r.1=true->Er h r.2)->xQ k h rs K->xQ k h (new++rs) K
 |[],_,hh=>hh
 | r ::new,hn,hh=>by
   have a:=N7 (new:=new) (by simp_all) hh;show xQ k h (r::(new++rs)) K;simp only[xQ]
   cases hb:Nat.blt r.2.last k with
   |true=>exact a
   | false=>
     refine⟨?_,a⟩;cases hb:r.1 <;> grind
theorem L2{C:ft} {n:Nat} {all:List Oper} {ws:List It} {K:gK->Hp->Prop} {k:Nat} {rs:List (Bool×Rec)}:∀{l:List It} {ρ:gK} {h:Hp} {new:List (Bool×Rec)},HL l=true->(∀r∈new,r.1=true->Er h r.2)->
  zz C n all (λρ h=>xQ k h rs (K ρ h)) (l.map (·.o)) ρ h->IF C n all ws K l k ρ h (new++rs)
 |[],_,_,_,_,hn,hk=>N7 hn hk
 | a ::l,ρ,h,new,hp,hn,hk=>by
   simp only[HL,wB6,vR]at hp;obtain⟨hc,hp⟩:=hp;have hc:=AG hc;have c:Ak C n all a.o (zz C n all (λρ h=>xQ k h rs (K ρ h)) (l.map (·.o))) ρ h:=hk;show itR C n all ws a (IF C n all ws K l) k ρ h (new++rs)
   have m:∀{b:Bool} {v:V},(b=true->(iV a.o).f (.fn ρ []) h=some v)->pB n a.o (zz C n all (λρ h=>xQ k h rs (K ρ h)) (l.map (·.o))) v ρ h->
       pB n a.o (λw h=>IF C n all ws K l k w h ((b,{it:=a,t:= .fn ρ [],v,made:=none,last:=late ws a})::(new++rs))) v ρ h:=by
     intro b v p j;have i:∀r∈(b,({it:=a,t:= .fn ρ [],v,made:=none,last:=late ws a}:Rec))::new,r.1=true->Er h r.2:=by
       intro r x q;rcases Ng.1 x with e|e
       ·subst e;exact p q
       ·grind
     unfold pB at j⊢
     cases ho:a.o.dst with
     |none=>rw[ho]at j;exact L2 hp i j
     | some d=>
       rw[ho]at j;simp only at j⊢
       cases p:Nat.blt d n with
       |true=>rw[p]at j;exact L2 hp i j
       |false=>simp_all
   unfold Ak at c;rw[J3 hc]at c;simp only at c;unfold itR;rw[hc];simp only
   cases hw:lC n all a.o with
   | none=>
     rw[hw]at c;simp only[PW,hc]at c;obtain⟨v,s,u⟩:=lB.1 c
     simp_all
   | some g=>
     rw[hw]at c;simp only[Yx,hc]at c;obtain⟨b,h0,c⟩:=lB.1 c;obtain⟨v,s,u⟩:=lB.1 c;exact ee h0 (ee s (m (λe=>by simp_all) u))
theorem Kf{C:ft} {n:Nat} {all:List Oper} {K e:gK->Hp->Prop} {h:Hp} (f:∀ρ,K ρ h->e ρ h):∀{l:List It} {ρ:gK},HL l=true->zz C n all K (l.map (·.o)) ρ h->zz C n all e (l.map (·.o)) ρ h
 |[],_,_,hk=>f _ hk
 | a ::l,ρ,hp,hk=>by
   simp only[HL,wB6,vR]at hp;obtain⟨hc,hp⟩:=hp;have hc:=AG hc;have b:Ak C n all a.o (zz C n all K (l.map (·.o))) ρ h:=hk;show Ak C n all a.o (zz C n all e (l.map (·.o))) ρ h;have i:∀{v:V},pB n a.o (zz C n all K (l.map (·.o))) v ρ h->pB n a.o (zz C n all e (l.map (·.o))) v ρ h:=by
     intro v c;unfold pB at c⊢
     cases ho:a.o.dst with
     |none=>rw[ho]at c;exact Kf f hp c
     | some d=>
       rw[ho]at c;simp only at c⊢
       cases hb:Nat.blt d n with
       |true=>rw[hb]at c;exact Kf f hp c
       |false=>simp_all
   unfold Ak at b⊢;rw[J3 hc]at b⊢;simp only at b⊢
   cases hw:lC n all a.o with
   | none=>
     grind[PW,lB,ee]
   | some g=>
     rw[hw]at b
     grind[Yx,lB,ee]
theorem Lu{C:ft} {n:Nat} {all:List Oper} {ws:List It} {K:gK->Hp->Prop}:∀(l:List It) {k:Nat} {ρ:gK} {h:Hp} {rs:List RE},VQ h rs->R0 C n all ws K l k ρ h rs->IF C n all ws K l k ρ h (ur rs)
 |[],_,_,_,_,hi,hk=>yr hi (λx=>x) hk
 | a ::l,k,ρ,h,rs,hi,hk=>by
   have i:(match HL (a::l)with
     |true=>λ(ρ:gK) (h:Hp) (rs:List RE)=>SN C n all (λρ h=>Hm k h rs (K ρ h)) ((a::l).map (·.o)) 0 ρ h
     |false=>itV C n all ws a (R0 C n all ws K l) k:gK->Hp->List RE->Prop) ρ h rs:=hk
   cases hp:HL (a::l)with
   | true=>
     rw[hp]at i;have z:=I8 _ 0 i
     exact L2 (new:=[]) hp (by simp_all) (Kf (λρ m=>yr hi (λx=>x) m) hp z)
   | false =>
     rw[hp]at i;simp only at i;show itR C n all ws a (IF C n all ws K l) k ρ h (ur rs)
     have pure:∀{b:Bool} {v:V},gV b ((iV a.o).f (.fn ρ []) h)=some v->∀{j:gK},R0 C n all ws K l k j h ((b,{it:=a,t:= .fn ρ [],v,made:=none,last:=late ws a},Cr a.o,false)::rs)->
         IF C n all ws K l k j h ((b,{it:=a,t:= .fn ρ [],v,made:=none,last:=late ws a})::ur rs):=by
       intro b v hv j m;refine Lu l (rs:=(b,{it:=a,t:= .fn ρ [],v,made:=none,last:=late ws a},Cr a.o,false)::rs) ?_ m;intro r q p s;rcases Ng.1 q with e|e
       ·subst e
        have u:b=true:=p;subst u;refine⟨λA h'=>?_,λ_=>hv⟩;show(iV a.o).f (.fn ρ []) h' = some v;rw[Xv A _ h' h];exact hv
       ·exact hi r e p s
     have dst:∀{b:Bool} {v:V},gV b ((iV a.o).f (.fn ρ []) h)=some v->pB n a.o (λj h=>R0 C n all ws K l k j h ((b,{it:=a,t:= .fn ρ [],v,made:=none,last:=late ws a},Cr a.o,false)::rs)) v ρ h->
         pB n a.o (λj h=>IF C n all ws K l k j h ((b,{it:=a,t:= .fn ρ [],v,made:=none,last:=late ws a})::ur rs)) v ρ h:=by
       intro b v hv B;unfold pB at B⊢
       cases ho:a.o.dst with
       |none=>grind
       | some d=>
         grind
     unfold itV at i;unfold itR;generalize hc:cls a.o=c at i;rcases c with _|_|c
     ·simp only at i⊢
      cases hw:lC n all a.o with
      | none=>
        rw[hw]at i;simp only at i⊢;have w:oP ((iV a.o).f (.fn ρ []) h) λv=>pB n a.o (λj h=>R0 C n all ws K l k j h ((true,{it:=a,t:= .fn ρ [],v,made:=none,last:=late ws a},Cr a.o,false)::rs)) v ρ h:=by
          cases hv:isVal a.o <;> (rw[hv]at i;exact i)
        obtain⟨v,z,E⟩:=lB.1 w
        simp_all
      | some g=>
        grind[lB,ee]
     ·simp only at i⊢
      cases hw:lC n all a.o with
      | none=>
        rw[hw]at i;refine qc i λr H=>GA (λj h' m=>?_) H;have:=Lu l (rs:=(true,{it:=a,t:= .fn ρ [],v:=r.2 h.next,made:=some (h.next,r.1),last:=late ws a},false,false)::Jy rs) (by
          intro r' q p s;rcases Ng.1 q with e|e
          ·simp_all
          ·exact hi.yO h' r' e p s) m
        grind[IF,ur,Jy,MB]
      |some g=>simp_all
     ·simp only at i⊢
      have D:∀{v:V} {ρ:gK} {h':Hp},pB n a.o (λρ h=>R0 C n all ws K l (Nat.succ k) ρ h (Jy rs)) v ρ h'->pB n a.o (λρ h=>IF C n all ws K l (Nat.succ k) ρ h (ur rs)) v ρ h':=λH=>
        GA (λρ h m=>by have:=Lu l (hi.yO h) m;grind[MB]) H
      cases hw:lC n all a.o with
      | none=>
        grind[yr,XV]
      | some g=>
        rw[hw]at i;simp only at i⊢
        cases hic:yU a.o with
        |false=>simp_all
        | true=>
          rw[hic]at i;refine yr hi (λH=>qc H λb H=>qc H λx H=>?_) i
          cases x with
          |none=>simp_all
          |some y=>exact cP.mono H (by simp_all)
def XO(C:ft) (n:Nat) (all:List Oper) (K:gK->Hp->Prop) (ρ:gK) (h:Hp):Prop:=R0 C n all (hH (items all 0 [])) K (order (items all 0 []) (hH (items all 0 [])) (hH (items all 0 [])) 0) 0 ρ h []
theorem X8{C:ft}{n:Nat}{all:List Oper}{K:gK->Hp->Prop}{ρ:gK}{h:Hp}(a:XO C n all K ρ h):Us C n all K ρ h:=Lu (rs:=[]) _ (by intro r b;cases b) a
end
noncomputable def Ml(tb:List (Nat×List Nat)) (k:Nat):Option (List Nat):=List.rec (motive:=λ_=>Option (List Nat)) none (λx _ a=>Bool.rec (motive:=λ_=>Option (List Nat)) a (some x.2) (Nat.beq x.1 k)) tb
noncomputable def jV(C:ft) (n:Nat) (live:List Nat) (c:Code) (s:XQ) (ρ:gK) (h:Hp):Prop:=∀a:gK,List.rec (motive:=λ_=>Prop) (Wp C n c s a h) (λi _ b=>a i=ρ i->b) live
theorem W5{C:ft} {n:Nat} {live:List Nat} {c:Code} {s:XQ} {ρ:gK} {h:Hp} (a:jV C n live c s ρ h):Wp C n c s ρ h:=by
 have:=a ρ;clear a
 induction live <;> grind
noncomputable def Ri(C:ft) (n:Nat) (tb:List (Nat×List Nat)) (c:Code):Nat->Nat->XQ->XQ->gK->Hp->Prop:=
 Code.rec (motive:=λ_=>Nat->Nat->XQ->XQ->gK->Hp->Prop)
  (λ_ _ v _=>v .normal)
  (fun _ ops d _ _ v _=>match d with
   |false=>SN C n ops.toList (λρ h=>v .normal ρ h) ops.toList 0
   | true=>match yJ ops.toList with
     |true=>XO C n ops.toList (λρ h=>v .normal ρ h)
     |false=>λ_ _=>False)
  (λ_ b a g p e v s=>a p (Nat.mul 2 e) (andThen (Option.rec (motive:=λ_=>gK->Hp->Prop) (g (Nat.add p e) (Nat.mul 2 e) v s) (λlive=>jV C n live b s) (Ml tb (Nat.mul 2 (Nat.add (Nat.add p e) (Nat.mul 2 e))))) v) (andThen (Wp C n b s) s))
  (λc _ _ a g p e v s ρ h=>Option.rec (motive:=λ_=>Prop) False (λx=>bP x (a p (Nat.mul 2 e) v s ρ h) (g (Nat.add p e) (Nat.mul 2 e) v s ρ h)) ((tx c).f (.fn ρ []) h))
  (λid _ i p e v s=>i p (Nat.mul 2 e) (wH id v) (wH id s))
  (λc _ p e _ s=>Option.rec (motive:=λ_=>gK->Hp->Prop) (λ_ _=>False) (λlive=>jV C n live (.loop c) s) (Ml tb (Nat.succ (Nat.mul 2 (Nat.add p e)))))
  (λ_ _ _ _ _ _ _ _ _ _ _ _=>False)
  (λid _ _ v _=>v (.exit id))
  (λ_ _ _ _ _ _ _ _=>False)
  (λ_ _ _ _ _ _ _=>False)
  (λ_ _ _ _ _ _ _=>False)
  (λ_ _ v _=>v .ret)
  (λ_ _ _ _ _ _ _=>False) c
theorem Bw{k k':gK->Hp->Prop} {v s:XQ} (a:∀ρ h,k ρ h->k' ρ h) (hq:∀x ρ h,v x ρ h->s x ρ h):∀x ρ h,andThen k v x ρ h->andThen k' s x ρ h
 | .normal,_,_,hh=>a _ _ hh
 | .exit _,_,_,hh=>hq _ _ _ hh
 | .ret,_,_,hh=>hq _ _ _ hh
theorem MF{id:Nat} {v s:XQ} (hq:∀x ρ h,v x ρ h->s x ρ h):∀x ρ h,wH id v x ρ h->wH id s x ρ h
 | .normal,_,_,hh=>hq _ _ _ hh
 | .ret,_,_,hh=>hq _ _ _ hh
 | .exit i,ρ,h,hh=>by
   simp only[wH]at hh⊢;cases hb:Nat.beq i id <;> simp_all
theorem xd{C:ft} {n:Nat} {tb:List (Nat×List Nat)}:∀(c:Code) {p e:Nat} {v s:XQ} {ρ:gK} {h:Hp},(∀x ρ h,v x ρ h->s x ρ h)->Ri C n tb c p e v s ρ h->Wp C n c s ρ h
 | .skip,_,_,_,_,_,_,hq,hk=> .skip (hq _ _ _ hk)
 | .region _ ops false,_,_,v,_,ρ,h,hq,hk=>by
   have d:SN C n ops.toList (λρ h=>v .normal ρ h) ops.toList 0 ρ h:=hk
   exact(Wp.region (I8 _ 0 d)).mono hq
 | .region _ ops true,_,_,v,_,ρ,h,hq,hk=>by
   have d:(match yJ ops.toList with
       |true=>XO C n ops.toList (λρ h=>v .normal ρ h)
       |false=>λ_ _=>False) ρ h:=hk
   cases hd:yJ ops.toList with
   |true=>rw[hd]at d;exact(Wp.draw hd (X8 d)).mono hq
   |false=>simp_all
 | .seq a b,p,e,v,s,ρ,h,hq,hk=>by
   refine .seq (xd a (Bw ?_ hq) hk);intro ρ h g
   cases hf:Ml tb (Nat.mul 2 (Nat.add (Nat.add p e) (Nat.mul 2 e)))with
   |none=>rw[hf]at g;exact xd b hq g
   |some live=>rw[hf]at g;exact W5 g
 | .cond c a b,p,e,v,s,ρ,h,hq,hk=>by
   have d:oP ((tx c).f (.fn ρ []) h) (λx=>bP x (Ri C n tb a p (Nat.mul 2 e) v s ρ h) (Ri C n tb b (Nat.add p e) (Nat.mul 2 e) v s ρ h)):=hk;obtain⟨x,hv,d⟩:=lB.1 d
   exact .cond (ee hv (bM d (xd a hq) (xd b hq)))
 | .block id c,_,_,_,_,_,_,hq,hk=> .block (xd c (MF hq) hk)
 | .loop c,p,e,v,s,ρ,h,hq,hk=>by
   have d:(Option.rec (motive:=λ_=>gK->Hp->Prop) (λ_ _=>False) (λlive=>jV C n live (.loop c) s) (Ml tb (Nat.succ (Nat.mul 2 (Nat.add p e)))):gK->Hp->Prop) ρ h:=hk
   cases hf:Ml tb (Nat.succ (Nat.mul 2 (Nat.add p e)))with
   |none=>simp_all
   |some live=>rw[hf]at d;grind[W5]
 | .exit id,_,_,_,_,_,_,hq,hk=> .exit (hq _ _ _ hk)
 | .ret,_,_,_,_,_,_,hq,hk=> .ret (hq _ _ _ hk)
 | .rangeFunc ..,_,_,_,_,_,_,_,hk=>hk.elim
 | .scope _,_,_,_,_,_,_,_,hk=>hk.elim
 | .label _,_,_,_,_,_,_,_,hk=>hk.elim
 | .goto _,_,_,_,_,_,_,_,hk=>hk.elim
 | .refuse _,_,_,_,_,_,_,_,hk=>hk.elim
structure Vq where
 c:Code
 v:XQ
 s:XQ
 p:Nat
 e:Nat
 ks:List (gK->Hp->Prop)
def zak(l:List (gK->Hp->Prop)):gK->Hp->Prop:=match l with
 |k::_=>k
 |[]=>λ_ _=>False
noncomputable def kr(C:ft) (n:Nat) (tb:List (Nat×List Nat)) (a:Vq) (b:Bool):Vq:=match a.c,b with
 | .seq x y,false=>{c:=x,v:=andThen (Option.rec (motive:=λ_=>gK->Hp->Prop) (Ri C n tb y (Nat.add a.p a.e) (Nat.mul 2 a.e) a.v a.s) (λlive=>jV C n live y a.s) (Ml tb (Nat.mul 2 (Nat.add (Nat.add a.p a.e) (Nat.mul 2 a.e))))) a.v,s:=andThen (Wp C n y a.s) a.s,p:=a.p,e:=Nat.mul 2 a.e,ks:=a.ks}
 | .seq _ y,true=>{c:=y,v:=a.v,s:=a.s,p:=Nat.add a.p a.e,e:=Nat.mul 2 a.e,ks:=a.ks}
 | .cond _ x _,false=>{c:=x,v:=a.v,s:=a.s,p:=a.p,e:=Nat.mul 2 a.e,ks:=a.ks}
 | .cond _ _ y,true=>{c:=y,v:=a.v,s:=a.s,p:=Nat.add a.p a.e,e:=Nat.mul 2 a.e,ks:=a.ks}
 | .block id x,false=>{c:=x,v:=wH id a.v,s:=wH id a.s,p:=a.p,e:=Nat.mul 2 a.e,ks:=a.ks}
 | .loop x,false=>{c:=x,v:=andThen (zak a.ks) a.v,s:=andThen (zak a.ks) a.s,p:=a.p,e:=Nat.mul 2 a.e,ks:=a.ks.tail}
 |_,_=>a
noncomputable def zc0(C:ft) (n:Nat) (tb:List (Nat×List Nat)) (bs:List Bool):Vq->Vq:=List.rec (motive:=λ_=>Vq->Vq) (λa=>a) (λb _ c a=>c (kr C n tb a b)) bs
def zcz(k:Nat):List Bool:=(Nat.rec (motive:=λ_=>Nat->List Bool) (λ_=>[]) (λ_ a p=>match Nat.ble p 1 with
 |true=>[]
 |false=>Nat.beq (Nat.mod p 2) 1::a (Nat.div p 2)) 400:Nat->List Bool) k
def SB(Q:V->Hp->Prop) (ρ:gK) (h:Hp) (l:List ResultVar):List V->Prop:=
 List.rec (motive:=λ_=>List V->Prop) (λb=>Q (zF b.reverse) h) (λr _ c b=>match r with
  | .tmp i=>c (ρ i::b)
  | .cell a ty=>oP ((Vd (.cell a ty)).f (.fn ρ []) h) λv=>c (v::b)) l
theorem Lm{Q:V->Hp->Prop} {ρ:gK} {h:Hp}:∀{l:List ResultVar} {b:List V},SB Q ρ h l b->oP (Ao (.fn ρ []) h l) λvs=>Q (zF (b.reverse++vs)) h
 | [],b,hh=>by
   grind[zF,Ao,Uo,oP,SB]
 | .tmp i::l,b,hh=>by
   have c:SB Q ρ h l (ρ i::b):=hh;obtain⟨vs,d,e⟩:=lB.1 (Lm c);refine ee (show Ao (.fn ρ []) h (.tmp i::l)=some (ρ i::vs) from ?_) ?_
   ·show oB (some (ρ i)) _=_
    simp_all
   simp_all
 | .cell a ty::l,b,hh=>by
   have c:oP ((Vd (.cell a ty)).f (.fn ρ []) h) λv=>SB Q ρ h l (v::b):=hh;obtain⟨v,h0,c⟩:=lB.1 c;obtain⟨vs,d,e⟩:=lB.1 (Lm c)
   simp_all[ee,Ao,oB,Vd]
def T0(l:List ResultVar) (Q:V->Hp->Prop):XQ
 | .exit _,_,_=>False
 |_,ρ,h=>SB Q ρ h l []
theorem Ra{l:List ResultVar} {Q:V->Hp->Prop}:∀x ρ h,T0 l Q x ρ h->Hc l Q x ρ h
 | .exit _,_,_,hh=>hh
 | .normal,_,_,hh=>by grind[Lm,SB,Hc,Y1,T0]
 | .ret,_,_,hh=>by grind[Lm,SB,Hc,Y1,T0]
noncomputable def Xu(fn:Func)(ks:List (gK->Hp->Prop))(Q:V->Hp->Prop):Vq:={c:=JL fn,v:=T0 fn.results.toList Q,s:=Hc fn.results.toList Q,p:=0,e:=1,ks}
noncomputable def fN(C:ft)(fn:Func)(tb:List (Nat×List Nat))(k:Nat)(ks:List (gK->Hp->Prop))(Q:V->Hp->Prop):Vq:=zc0 C fn.ntmps tb (zcz k) (Xu fn ks Q)
noncomputable def WA(C:ft)(fn:Func)(tb:List (Nat×List Nat))(k:Nat)(ks:List (gK->Hp->Prop))(Q:V->Hp->Prop)(ρ:gK)(h:Hp):Prop:=Wp C fn.ntmps (fN C fn tb k ks Q).c (fN C fn tb k ks Q).s ρ h
noncomputable def VA(C:ft)(n:Nat)(tb:List (Nat×List Nat))(a:Vq)(ρ:gK)(h:Hp):Prop:=Ri C n tb a.c a.p a.e a.v a.s ρ h
def Vq.ok(a:Vq):Prop:=∀x ρ h,a.v x ρ h->a.s x ρ h
theorem Vp{C:ft} {n:Nat} {tb:List (Nat×List Nat)} {a:Vq} (c:a.ok) (b:Bool):(kr C n tb a b).ok:=by
 unfold kr;split
 ·refine Bw (λρ h d=>?_) c
  cases hf:Ml tb (Nat.mul 2 (Nat.add (Nat.add a.p a.e) (Nat.mul 2 a.e)))with
  |none=>rw[hf]at d;exact xd _ c d
  |some live=>rw[hf]at d;exact W5 d
 ·exact c
 ·exact c
 ·exact c
 ·exact MF c
 ·exact Bw (by simp_all) c
 ·exact c
theorem UB{C:ft} {n:Nat} {tb:List (Nat×List Nat)}:∀{bs:List Bool} {a:Vq},a.ok->(zc0 C n tb bs a).ok
 |[],_,ha=>ha
 |b::bs,_,ha=>UB (bs:=bs) (Vp ha b)
theorem NP{C:ft}{fn:Func}{tb:List (Nat×List Nat)}{k:Nat}{ks:List (gK->Hp->Prop)}{Q:V->Hp->Prop}:(fN C fn tb k ks Q).ok:=UB Ra
theorem WA.of{C:ft} {fn:Func} {tb:List (Nat×List Nat)} {k:Nat} {ks:List (gK->Hp->Prop)} {Q:V->Hp->Prop} {ρ:gK} {h:Hp} {P:Prop}
  (e:VA C fn.ntmps tb (fN C fn tb k ks Q) ρ h=P) (H:P):WA C fn tb k ks Q ρ h:=xd _ NP (e.mpr H)
def lG(c:Code):Bool:=match c with
 | .loop _=>true
 |_=>false
inductive LA (C:ft) (fn:Func) (tb:List (Nat×List Nat)) (k:Nat) (ks:List (gK->Hp->Prop)) (Q:V->Hp->Prop) (K:gK->Hp->Prop) (ρ:gK) (h:Hp):Prop
 |mk (hv:VA C fn.ntmps tb (kr C fn.ntmps tb {fN C fn tb k ks Q with ks:=[K]} false) ρ h)
theorem LA.of{C:ft} {fn:Func} {tb:List (Nat×List Nat)} {k:Nat} {ks:List (gK->Hp->Prop)} {Q:V->Hp->Prop} {K:gK->Hp->Prop} {ρ:gK} {h:Hp} {P:Prop}
  (e:VA C fn.ntmps tb (kr C fn.ntmps tb {fN C fn tb k ks Q with ks:=[K]} false) ρ h=P) (H:P):LA C fn tb k ks Q K ρ h:=⟨e.mpr H⟩
theorem WA.loop{C:ft} {fn:Func} {tb:List (Nat×List Nat)} {k:Nat} {ks:List (gK->Hp->Prop)} {Q:V->Hp->Prop} {ρ:gK} {h:Hp} (I:Nat->gK->Hp->Prop) {m:Nat}
  (f:lG (fN C fn tb k ks Q).c=true) (n:(fN C fn tb k ks Q).ks=[])
  (b:∀m ρ h,I m ρ h->LA C fn tb k ks Q (λi h'=>∃g,g<m/\I g i h') ρ h) (h0:I m ρ h):WA C fn tb k ks Q ρ h:=by
 unfold WA;have b:=λm ρ h hi=>(b m ρ h hi).1;have d:(fN C fn tb k ks Q).ok:=NP;generalize fN C fn tb k ks Q=a at*;obtain⟨c,v,s,p,e,j⟩:=a;cases c <;> simp only[lG]at f <;> try exact absurd f (by decide)
 rename_i c;refine Wp.zav I (λm ρ h hi=>?_) h0;have:=b m ρ h hi;exact xd c (Bw (λ_ _ l=>l) d) this
theorem cP.vc{C:ft} (hs:C.start=fO) {f:Nat} {fn:Func} {tb:List (Nat×List Nat)} {args:List V} {h:Hp} {Q:V->Hp->Prop} {P:Prop} (b:P0.funcs[f]? =some fn) (c:fn.body=some (JL fn))
  (d:C.K f args h=none) (a:Nat.ble args.length fn.ntmps=true) (e:VA C fn.ntmps tb (Xu fn [] Q) (Kv args) h=P) (H:P):cP C f args h Q:=
 cP.func hs b c d (JE a) (xd _ Ra (e.mpr H))
abbrev LP:=List V->Hp->Prop
def chV(ρ:gK):List Nat->List V->Prop->Prop
 |i::is,x::xs,P=>ρ i=x->chV ρ is xs P
 |_,_,P=>P
def kf(is:List Nat)(K:LP):gK->Hp->Prop:=λρ h=>K (is.map ρ) h
def JV(C:ft)(fn:Func)(tb:List (Nat×List Nat))(k:Nat)(is:List Nat)(ks:List (gK->Hp->Prop))(Q:fy):LP:=λl h=>∀ρ:gK,chV ρ is l (WA C fn tb k ks Q ρ h)
theorem Se{ρ:gK}{P:Prop}:∀{is:List Nat}{l:List V},is.length=l.length->(is.map ρ=l->P)->chV ρ is l P
 |[],[],_,h=>h rfl
 |[],_::_,e,_=>by cases e
 |_::_,[],e,_=>by cases e
 |i::is,x::l,e,h=>λa=>Se (is:=is) (l:=l) (by simp_all) (by simp_all)
def ZC:Nat->Type
 |0=>Hp->Prop
 |n+1=>V->ZC n
def Iv:(n:Nat)->ZC n->LP
 |0,f,[],h=>f h
 |n+1,f,x::l,h=>Iv n (f x) l h
 |_,_,_,_=>False
@[reducible] def Db (I:Nat->LP) (k:Nat):LP:=λl h=>∃k',k' < k/\I k' l h
section
variable{C:ft}{fn:Func}{tb:List (Nat×List Nat)}{k m:Nat}{is:List Nat}{ks:List (gK->Hp->Prop)}{Q:fy}{h:Hp}{l:List V}
theorem JV.mk(n:Nat)(B:ZC n)(e:∀(ρ:gK)(h:Hp),VA C fn.ntmps tb (fN C fn tb k ks Q) ρ h=Iv n B (is.map ρ) h)(a:is.length=l.length)(H:Iv n B l h):JV C fn tb k is ks Q l h:=λρ=>Se a λb=>by
 subst b;exact WA.of (e ρ h) H
theorem JV.loop(n:Nat)(I:Nat->LP)(B:LP->ZC n)(a:lG (fN C fn tb k ks Q).c=true)(b:(fN C fn tb k ks Q).ks=[])
  (e:∀(K:LP) (ρ:gK) (h:Hp),VA C fn.ntmps tb (kr C fn.ntmps tb {fN C fn tb k ks Q with ks:=[kf is K]} false) ρ h=Iv n (B K) (is.map ρ) h)
  (f:∀m l h,l.length=n->I m l h->Iv n (B (Db I m)) l h) (g:is.length=n) (hlen:is.length=l.length) (h0:I m l h):JV C fn tb k is ks Q l h:=λρ=>Se hlen λd=>by
 subst d;exact WA.loop (λm ρ h=>I m (is.map ρ) h) a b (λm ρ h hi=>LA.of (e (Db I m) ρ h) (by grind)) h0
abbrev dF(k:Nat)(x:V)(h:Hp)(K:V->Prop):Prop:=oP (fI k x) λa=>oP (eQ a h) K
abbrev dN(k:Nat)(x:V)(h:Hp)(K:V->Prop):Prop:=oP (iF x) λa=>dF k a h K
abbrev dI(n:Nat)(x i:V)(k:Nat)(h:Hp)(K:V->Prop):Prop:=oP (gJ n x i) λa=>dF k a h K
abbrev dX(n:Nat)(x i:V)(h:Hp)(K:V->Prop):Prop:=oP (gJ n x i) λa=>oP (eQ a h) K
abbrev dG(k:Nat)(x:V)(h:Hp)(K:V->Prop):Prop:=dF k x h λa=>oP (fH a) K
abbrev dJ(k:Nat)(x:V)(n:Nat)(i:V)(j:Nat)(h:Hp)(K:V->Prop):Prop:=dF k x h λa=>dI n a i j h K
abbrev dY(k:Nat)(x:V)(n:Nat)(i:V)(h:Hp)(K:V->Prop):Prop:=dF k x h λa=>dX n a i h K
abbrev bO(o:BinOp)(t:Nat)(a b:V)(A B:Prop):Prop:=oP (ev o t a b) λv=>bP v A B
abbrev bN(a:V)(A B:Prop):Prop:=oP (pI .not a) λv=>bP v A B
theorem oF{k l o:Nat}{h:Hp}{v:V}{K:V->Prop}(a:eQ (.ptr l (o+k)) h=some v)(b:K v):dF k (.ptr l o) h K:=lB.2 ⟨_,fe _ _ _,lB.2 ⟨_,a,b⟩⟩
theorem oN{k l o:Nat}{h:Hp}{v:V}{K:V->Prop}(a:eQ (.ptr l (o+k)) h=some v)(b:K v):dN k (.ptr l o) h K:=lB.2 (by simp_all[gj,oF])
theorem cP.vd{C:ft}{f:Nat}{fn:Func}(tb:List (Nat×List Nat)){args:List V}{h:Hp}{Q:fy}{P:Prop}(hs:C.start=fO)(b:P0.funcs[f]? =some fn)(c:C.K f args h=none)(H:P)
  (d:fn.body=some (JL fn):=by kernel_rfl) (a:Nat.ble args.length fn.ntmps=true:=by kernel_rfl) (e:VA C fn.ntmps tb (Xu fn [] Q) (Kv args) h=P:=by kernel_rfl):cP C f args h Q:=cP.vc hs b d c a e H
abbrev S1(I:Nat->LP)(B:LP->fy):Prop:=∀(k:Nat) (a:V) (h:Hp),I k [a] h->B (Db I k) a h
abbrev R1(B:fy)(J:LP):Prop:=∀{a:V} {h:Hp},B a h->J [a] h
theorem JV.r1(B:fy)(e:∀(ρ:gK)(h:Hp),VA C fn.ntmps tb (fN C fn tb k ks Q) ρ h=Iv 1 B (is.map ρ) h:=by intros;kernel_rfl)(a:is.length=1:=by rfl):R1 B (JV C fn tb k is ks Q):=λH=>JV.mk 1 B e a H
abbrev S2(I:Nat->LP)(B:LP->QP2):Prop:=∀(k:Nat) (a b:V) (h:Hp),I k [a,b] h->B (Db I k) a b h
abbrev R2(B:QP2)(J:LP):Prop:=∀{a b:V} {h:Hp},B a b h->J [a,b] h
theorem JV.l2(I:Nat->LP)(B:LP->QP2)(s:S2 I B)(i:I m l h)(g:l.length=2)(b:lG (fN C fn tb k ks Q).c=true:=by kernel_rfl)(d:(fN C fn tb k ks Q).ks=[]:=by kernel_rfl)
  (e:∀(K:LP) (ρ:gK) (h:Hp),VA C fn.ntmps tb (kr C fn.ntmps tb {fN C fn tb k ks Q with ks:=[kf is K]} false) ρ h=Iv 2 (B K) (is.map ρ) h:=by intros;kernel_rfl) (a:is.length=2:=by rfl):JV C fn tb k is ks Q l h:=
 JV.loop 2 I B b d e (λk l h g i=>match l,g,i with|[f,j],_,i=>s k f j h i) a (a.trans g.symm) i
abbrev S3(I:Nat->LP)(B:LP->RU):Prop:=∀(k:Nat) (a b c:V) (h:Hp),I k [a,b,c] h->B (Db I k) a b c h
abbrev R3(B:RU)(J:LP):Prop:=∀{a b c:V} {h:Hp},B a b c h->J [a,b,c] h
theorem JV.l3(I:Nat->LP)(B:LP->RU)(s:S3 I B)(i:I m l h)(g:l.length=3)(b:lG (fN C fn tb k ks Q).c=true:=by kernel_rfl)(d:(fN C fn tb k ks Q).ks=[]:=by kernel_rfl)
  (e:∀(K:LP) (ρ:gK) (h:Hp),VA C fn.ntmps tb (kr C fn.ntmps tb {fN C fn tb k ks Q with ks:=[kf is K]} false) ρ h=Iv 3 (B K) (is.map ρ) h:=by intros;kernel_rfl) (a:is.length=3:=by rfl):JV C fn tb k is ks Q l h:=
 JV.loop 3 I B b d e (λk l h g i=>match l,g,i with|[f,j,n],_,i=>s k f j n h i) a (a.trans g.symm) i
abbrev S4(I:Nat->LP)(B:LP->KS):Prop:=∀(k:Nat) (a b c d:V) (h:Hp),I k [a,b,c,d] h->B (Db I k) a b c d h
abbrev R4(B:KS)(J:LP):Prop:=∀{a b c d:V} {h:Hp},B a b c d h->J [a,b,c,d] h
theorem JV.l4(I:Nat->LP)(B:LP->KS)(s:S4 I B)(i:I m l h)(g:l.length=4)(b:lG (fN C fn tb k ks Q).c=true:=by kernel_rfl)(d:(fN C fn tb k ks Q).ks=[]:=by kernel_rfl)
  (e:∀(K:LP) (ρ:gK) (h:Hp),VA C fn.ntmps tb (kr C fn.ntmps tb {fN C fn tb k ks Q with ks:=[kf is K]} false) ρ h=Iv 4 (B K) (is.map ρ) h:=by intros;kernel_rfl) (a:is.length=4:=by rfl):JV C fn tb k is ks Q l h:=
 JV.loop 4 I B b d e (λk l h g i=>match l,g,i with|[f,j,n,o],_,i=>s k f j n o h i) a (a.trans g.symm) i
theorem JV.r4(B:KS)(e:∀(ρ:gK)(h:Hp),VA C fn.ntmps tb (fN C fn tb k ks Q) ρ h=Iv 4 B (is.map ρ) h:=by intros;kernel_rfl)(a:is.length=4:=by rfl):R4 B (JV C fn tb k is ks Q):=λH=>JV.mk 4 B e a H
abbrev S5(I:Nat->LP)(B:LP->JG):Prop:=∀(k:Nat) (a b c d e:V) (h:Hp),I k [a,b,c,d,e] h->B (Db I k) a b c d e h
abbrev R5(B:JG)(J:LP):Prop:=∀{a b c d e:V} {h:Hp},B a b c d e h->J [a,b,c,d,e] h
theorem JV.l5(I:Nat->LP)(B:LP->JG)(s:S5 I B)(i:I m l h)(g:l.length=5)(b:lG (fN C fn tb k ks Q).c=true:=by kernel_rfl)(d:(fN C fn tb k ks Q).ks=[]:=by kernel_rfl)
  (e:∀(K:LP) (ρ:gK) (h:Hp),VA C fn.ntmps tb (kr C fn.ntmps tb {fN C fn tb k ks Q with ks:=[kf is K]} false) ρ h=Iv 5 (B K) (is.map ρ) h:=by intros;kernel_rfl) (a:is.length=5:=by rfl):JV C fn tb k is ks Q l h:=
 JV.loop 5 I B b d e (λk l h g i=>match l,g,i with|[f,j,n,o,p],_,i=>s k f j n o p h i) a (a.trans g.symm) i
abbrev S6(I:Nat->LP)(B:LP->PS):Prop:=∀(k:Nat) (a b c d e f:V) (h:Hp),I k [a,b,c,d,e,f] h->B (Db I k) a b c d e f h
abbrev R6(B:PS)(J:LP):Prop:=∀{a b c d e f:V} {h:Hp},B a b c d e f h->J [a,b,c,d,e,f] h
theorem JV.l6(I:Nat->LP)(B:LP->PS)(s:S6 I B)(i:I m l h)(g:l.length=6)(b:lG (fN C fn tb k ks Q).c=true:=by kernel_rfl)(d:(fN C fn tb k ks Q).ks=[]:=by kernel_rfl)
  (e:∀(K:LP) (ρ:gK) (h:Hp),VA C fn.ntmps tb (kr C fn.ntmps tb {fN C fn tb k ks Q with ks:=[kf is K]} false) ρ h=Iv 6 (B K) (is.map ρ) h:=by intros;kernel_rfl) (a:is.length=6:=by rfl):JV C fn tb k is ks Q l h:=
 JV.loop 6 I B b d e (λk l h g i=>match l,g,i with|[f,j,n,o,p,q],_,i=>s k f j n o p q h i) a (a.trans g.symm) i
theorem JV.r6(B:PS)(e:∀(ρ:gK)(h:Hp),VA C fn.ntmps tb (fN C fn tb k ks Q) ρ h=Iv 6 B (is.map ρ) h:=by intros;kernel_rfl)(a:is.length=6:=by rfl):R6 B (JV C fn tb k is ks Q):=λH=>JV.mk 6 B e a H
abbrev S7(I:Nat->LP)(B:LP->PZ):Prop:=∀(k:Nat) (a b c d e f g:V) (h:Hp),I k [a,b,c,d,e,f,g] h->B (Db I k) a b c d e f g h
abbrev R7(B:PZ)(J:LP):Prop:=∀{a b c d e f g:V} {h:Hp},B a b c d e f g h->J [a,b,c,d,e,f,g] h
theorem JV.l7(I:Nat->LP)(B:LP->PZ)(s:S7 I B)(i:I m l h)(g:l.length=7)(b:lG (fN C fn tb k ks Q).c=true:=by kernel_rfl)(d:(fN C fn tb k ks Q).ks=[]:=by kernel_rfl)
  (e:∀(K:LP) (ρ:gK) (h:Hp),VA C fn.ntmps tb (kr C fn.ntmps tb {fN C fn tb k ks Q with ks:=[kf is K]} false) ρ h=Iv 7 (B K) (is.map ρ) h:=by intros;kernel_rfl) (a:is.length=7:=by rfl):JV C fn tb k is ks Q l h:=
 JV.loop 7 I B b d e (λk l h g i=>match l,g,i with|[f,j,n,o,p,q,r],_,i=>s k f j n o p q r h i) a (a.trans g.symm) i
theorem JV.r7(B:PZ)(e:∀(ρ:gK)(h:Hp),VA C fn.ntmps tb (fN C fn tb k ks Q) ρ h=Iv 7 B (is.map ρ) h:=by intros;kernel_rfl)(a:is.length=7:=by rfl):R7 B (JV C fn tb k is ks Q):=λH=>JV.mk 7 B e a H
abbrev S8(I:Nat->LP)(B:LP->K9):Prop:=∀(k:Nat) (a b c d e f g i:V) (h:Hp),I k [a,b,c,d,e,f,g,i] h->B (Db I k) a b c d e f g i h
abbrev R8(B:K9)(J:LP):Prop:=∀{a b c d e f g i:V} {h:Hp},B a b c d e f g i h->J [a,b,c,d,e,f,g,i] h
theorem JV.l8(I:Nat->LP)(B:LP->K9)(s:S8 I B)(i:I m l h)(g:l.length=8)(b:lG (fN C fn tb k ks Q).c=true:=by kernel_rfl)(d:(fN C fn tb k ks Q).ks=[]:=by kernel_rfl)
  (e:∀(K:LP) (ρ:gK) (h:Hp),VA C fn.ntmps tb (kr C fn.ntmps tb {fN C fn tb k ks Q with ks:=[kf is K]} false) ρ h=Iv 8 (B K) (is.map ρ) h:=by intros;kernel_rfl) (a:is.length=8:=by rfl):JV C fn tb k is ks Q l h:=
 JV.loop 8 I B b d e (λk l h g i=>match l,g,i with|[f,j,n,o,p,q,r,t],_,i=>s k f j n o p q r t h i) a (a.trans g.symm) i
theorem JV.r8(B:K9)(e:∀(ρ:gK)(h:Hp),VA C fn.ntmps tb (fN C fn tb k ks Q) ρ h=Iv 8 B (is.map ρ) h:=by intros;kernel_rfl)(a:is.length=8:=by rfl):R8 B (JV C fn tb k is ks Q):=λH=>JV.mk 8 B e a H
abbrev S9(I:Nat->LP)(B:LP->QP9):Prop:=∀(k:Nat) (a b c d e f g i j:V) (h:Hp),I k [a,b,c,d,e,f,g,i,j] h->B (Db I k) a b c d e f g i j h
abbrev R9(B:QP9)(J:LP):Prop:=∀{a b c d e f g i j:V} {h:Hp},B a b c d e f g i j h->J [a,b,c,d,e,f,g,i,j] h
theorem JV.l9(I:Nat->LP)(B:LP->QP9)(s:S9 I B)(i:I m l h)(g:l.length=9)(b:lG (fN C fn tb k ks Q).c=true:=by kernel_rfl)(d:(fN C fn tb k ks Q).ks=[]:=by kernel_rfl)
  (e:∀(K:LP) (ρ:gK) (h:Hp),VA C fn.ntmps tb (kr C fn.ntmps tb {fN C fn tb k ks Q with ks:=[kf is K]} false) ρ h=Iv 9 (B K) (is.map ρ) h:=by intros;kernel_rfl) (a:is.length=9:=by rfl):JV C fn tb k is ks Q l h:=
 JV.loop 9 I B b d e (λk l h g i=>match l,g,i with|[f,j,n,o,p,q,r,t,u],_,i=>s k f j n o p q r t u h i) a (a.trans g.symm) i
theorem JV.r9(B:QP9)(e:∀(ρ:gK)(h:Hp),VA C fn.ntmps tb (fN C fn tb k ks Q) ρ h=Iv 9 B (is.map ρ) h:=by intros;kernel_rfl)(a:is.length=9:=by rfl):R9 B (JV C fn tb k is ks Q):=λH=>JV.mk 9 B e a H
abbrev S10(I:Nat->LP)(B:LP->Kk):Prop:=∀(k:Nat) (b c d e f g i j l a:V) (h:Hp),I k [b,c,d,e,f,g,i,j,l,a] h->B (Db I k) b c d e f g i j l a h
abbrev DU(B:Kk)(J:LP):Prop:=∀{b c d e f g i j k a:V} {h:Hp},B b c d e f g i j k a h->J [b,c,d,e,f,g,i,j,k,a] h
theorem JV.l10(I:Nat->LP)(B:LP->Kk)(s:S10 I B)(i:I m l h)(g:l.length=10)(d:lG (fN C fn tb k ks Q).c=true:=by kernel_rfl)(f:(fN C fn tb k ks Q).ks=[]:=by kernel_rfl)
  (e:∀(K:LP) (ρ:gK) (h:Hp),VA C fn.ntmps tb (kr C fn.ntmps tb {fN C fn tb k ks Q with ks:=[kf is K]} false) ρ h=Iv 10 (B K) (is.map ρ) h:=by intros;kernel_rfl) (b:is.length=10:=by rfl):JV C fn tb k is ks Q l h:=
 JV.loop 10 I B d f e (λk l h g i=>match l,g,i with|[j,n,o,p,q,r,t,u,v,a],_,i=>s k j n o p q r t u v a h i) b (b.trans g.symm) i
theorem JV.V6(B:Kk)(e:∀(ρ:gK)(h:Hp),VA C fn.ntmps tb (fN C fn tb k ks Q) ρ h=Iv 10 B (is.map ρ) h:=by intros;kernel_rfl)(a:is.length=10:=by rfl):DU B (JV C fn tb k is ks Q):=λH=>JV.mk 10 B e a H
abbrev S11(I:Nat->LP)(B:LP->EW):Prop:=∀(k:Nat) (c d e f g i j l m a b:V) (h:Hp),I k [c,d,e,f,g,i,j,l,m,a,b] h->B (Db I k) c d e f g i j l m a b h
abbrev R11(B:EW)(J:LP):Prop:=∀{c d e f g i j k l a b:V} {h:Hp},B c d e f g i j k l a b h->J [c,d,e,f,g,i,j,k,l,a,b] h
theorem JV.l11(I:Nat->LP)(B:LP->EW)(s:S11 I B)(i:I m l h)(g:l.length=11)(f:lG (fN C fn tb k ks Q).c=true:=by kernel_rfl)(j:(fN C fn tb k ks Q).ks=[]:=by kernel_rfl)
  (e:∀(K:LP) (ρ:gK) (h:Hp),VA C fn.ntmps tb (kr C fn.ntmps tb {fN C fn tb k ks Q with ks:=[kf is K]} false) ρ h=Iv 11 (B K) (is.map ρ) h:=by intros;kernel_rfl) (d:is.length=11:=by rfl):JV C fn tb k is ks Q l h:=
 JV.loop 11 I B f j e (λk l h g i=>match l,g,i with|[n,o,p,q,r,t,u,v,w,a,b],_,i=>s k n o p q r t u v w a b h i) d (d.trans g.symm) i
abbrev S12(I:Nat->LP)(B:LP->Zp):Prop:=∀(k:Nat) (d e f g i j l m n a b c:V) (h:Hp),I k [d,e,f,g,i,j,l,m,n,a,b,c] h->B (Db I k) d e f g i j l m n a b c h
abbrev R12(B:Zp)(J:LP):Prop:=∀{d e f g i j k l m a b c:V} {h:Hp},B d e f g i j k l m a b c h->J [d,e,f,g,i,j,k,l,m,a,b,c] h
theorem JV.l12(I:Nat->LP)(B:LP->Zp)(s:S12 I B)(i:I m l h)(g:l.length=12)(j:lG (fN C fn tb k ks Q).c=true:=by kernel_rfl)(n:(fN C fn tb k ks Q).ks=[]:=by kernel_rfl)
  (e:∀(K:LP) (ρ:gK) (h:Hp),VA C fn.ntmps tb (kr C fn.ntmps tb {fN C fn tb k ks Q with ks:=[kf is K]} false) ρ h=Iv 12 (B K) (is.map ρ) h:=by intros;kernel_rfl) (f:is.length=12:=by rfl):JV C fn tb k is ks Q l h:=
 JV.loop 12 I B j n e (λk l h g i=>match l,g,i with|[o,p,q,r,t,u,v,w,x,a,b,d],_,i=>s k o p q r t u v w x a b d h i) f (f.trans g.symm) i
theorem JV.r12(B:Zp)(e:∀(ρ:gK)(h:Hp),VA C fn.ntmps tb (fN C fn tb k ks Q) ρ h=Iv 12 B (is.map ρ) h:=by intros;kernel_rfl)(a:is.length=12:=by rfl):R12 B (JV C fn tb k is ks Q):=λH=>JV.mk 12 B e a H
abbrev S13(I:Nat->LP)(B:LP->HW):Prop:=∀(k:Nat) (e f g i j l m n o a b c d:V) (h:Hp),I k [e,f,g,i,j,l,m,n,o,a,b,c,d] h->B (Db I k) e f g i j l m n o a b c d h
abbrev R13(B:HW)(J:LP):Prop:=∀{e f g i j k l m n a b c d:V} {h:Hp},B e f g i j k l m n a b c d h->J [e,f,g,i,j,k,l,m,n,a,b,c,d] h
theorem JV.l13(I:Nat->LP)(B:LP->HW)(s:S13 I B)(i:I m l h)(g:l.length=13)(n:lG (fN C fn tb k ks Q).c=true:=by kernel_rfl)(o:(fN C fn tb k ks Q).ks=[]:=by kernel_rfl)
  (e:∀(K:LP) (ρ:gK) (h:Hp),VA C fn.ntmps tb (kr C fn.ntmps tb {fN C fn tb k ks Q with ks:=[kf is K]} false) ρ h=Iv 13 (B K) (is.map ρ) h:=by intros;kernel_rfl) (j:is.length=13:=by rfl):JV C fn tb k is ks Q l h:=
 JV.loop 13 I B n o e (λk l h g i=>match l,g,i with|[p,q,r,t,u,v,w,x,y,a,b,d,f],_,i=>s k p q r t u v w x y a b d f h i) j (j.trans g.symm) i
theorem JV.r13(B:HW)(e:∀(ρ:gK)(h:Hp),VA C fn.ntmps tb (fN C fn tb k ks Q) ρ h=Iv 13 B (is.map ρ) h:=by intros;kernel_rfl)(a:is.length=13:=by rfl):R13 B (JV C fn tb k is ks Q):=λH=>JV.mk 13 B e a H
abbrev S14(I:Nat->LP)(B:LP->Y7):Prop:=∀(k:Nat) (f g i j l m n o p a b c d e:V) (h:Hp),I k [f,g,i,j,l,m,n,o,p,a,b,c,d,e] h->B (Db I k) f g i j l m n o p a b c d e h
abbrev R14(B:Y7)(J:LP):Prop:=∀{f g i j k l m n o a b c d e:V} {h:Hp},B f g i j k l m n o a b c d e h->J [f,g,i,j,k,l,m,n,o,a,b,c,d,e] h
theorem JV.l14(I:Nat->LP)(B:LP->Y7)(s:S14 I B)(i:I m l h)(g:l.length=14)(o:lG (fN C fn tb k ks Q).c=true:=by kernel_rfl)(p:(fN C fn tb k ks Q).ks=[]:=by kernel_rfl)
  (e:∀(K:LP) (ρ:gK) (h:Hp),VA C fn.ntmps tb (kr C fn.ntmps tb {fN C fn tb k ks Q with ks:=[kf is K]} false) ρ h=Iv 14 (B K) (is.map ρ) h:=by intros;kernel_rfl) (n:is.length=14:=by rfl):JV C fn tb k is ks Q l h:=
 JV.loop 14 I B o p e (λk l h g i=>match l,g,i with|[q,r,t,u,v,w,x,y,z,a,b,d,f,j],_,i=>s k q r t u v w x y z a b d f j h i) n (n.trans g.symm) i
theorem JV.r14(B:Y7)(e:∀(ρ:gK)(h:Hp),VA C fn.ntmps tb (fN C fn tb k ks Q) ρ h=Iv 14 B (is.map ρ) h:=by intros;kernel_rfl)(a:is.length=14:=by rfl):R14 B (JV C fn tb k is ks Q):=λH=>JV.mk 14 B e a H
abbrev R15(B:zc8)(J:LP):Prop:=∀{g i j k l m n o p a b c d e f:V} {h:Hp},B g i j k l m n o p a b c d e f h->J [g,i,j,k,l,m,n,o,p,a,b,c,d,e,f] h
theorem JV.r15(B:zc8)(e:∀(ρ:gK)(h:Hp),VA C fn.ntmps tb (fN C fn tb k ks Q) ρ h=Iv 15 B (is.map ρ) h:=by intros;kernel_rfl)(a:is.length=15:=by rfl):R15 B (JV C fn tb k is ks Q):=λH=>JV.mk 15 B e a H
abbrev S17(I:Nat->LP)(B:LP->zbu):Prop:=∀(k:Nat) (j l m n o p q r s a b c d e f g i:V) (h:Hp),I k [j,l,m,n,o,p,q,r,s,a,b,c,d,e,f,g,i] h->B (Db I k) j l m n o p q r s a b c d e f g i h
abbrev R17(B:zbu)(J:LP):Prop:=∀{j k l m n o p q r a b c d e f g i:V} {h:Hp},B j k l m n o p q r a b c d e f g i h->J [j,k,l,m,n,o,p,q,r,a,b,c,d,e,f,g,i] h
theorem JV.l17(I:Nat->LP)(B:LP->zbu)(s:S17 I B)(i:I m l h)(g:l.length=17)(r:lG (fN C fn tb k ks Q).c=true:=by kernel_rfl)(t:(fN C fn tb k ks Q).ks=[]:=by kernel_rfl)
  (e:∀(K:LP) (ρ:gK) (h:Hp),VA C fn.ntmps tb (kr C fn.ntmps tb {fN C fn tb k ks Q with ks:=[kf is K]} false) ρ h=Iv 17 (B K) (is.map ρ) h:=by intros;kernel_rfl) (q:is.length=17:=by rfl):JV C fn tb k is ks Q l h:=
 JV.loop 17 I B r t e (λk l h g i=>match l,g,i with|[u,v,w,x,y,z,A,D,E,a,b,d,f,j,n,o,p],_,i=>s k u v w x y z A D E a b d f j n o p h i) q (q.trans g.symm) i
abbrev S18(I:Nat->LP)(B:LP->za8):Prop:=∀(k:Nat) (l m n o p q r s t a b c d e f g i j:V) (h:Hp),I k [l,m,n,o,p,q,r,s,t,a,b,c,d,e,f,g,i,j] h->B (Db I k) l m n o p q r s t a b c d e f g i j h
abbrev R18(B:za8)(J:LP):Prop:=∀{k l m n o p q r s a b c d e f g i j:V} {h:Hp},B k l m n o p q r s a b c d e f g i j h->J [k,l,m,n,o,p,q,r,s,a,b,c,d,e,f,g,i,j] h
theorem JV.l18(I:Nat->LP)(B:LP->za8)(s:S18 I B)(i:I m l h)(g:l.length=18)(t:lG (fN C fn tb k ks Q).c=true:=by kernel_rfl)(u:(fN C fn tb k ks Q).ks=[]:=by kernel_rfl)
  (e:∀(K:LP) (ρ:gK) (h:Hp),VA C fn.ntmps tb (kr C fn.ntmps tb {fN C fn tb k ks Q with ks:=[kf is K]} false) ρ h=Iv 18 (B K) (is.map ρ) h:=by intros;kernel_rfl) (r:is.length=18:=by rfl):JV C fn tb k is ks Q l h:=
 JV.loop 18 I B t u e (λk l h g i=>match l,g,i with|[v,w,x,y,z,A,D,E,F,a,b,d,f,j,n,o,p,q],_,i=>s k v w x y z A D E F a b d f j n o p q h i) r (r.trans g.symm) i
abbrev nZ:V:= .int .i64 0
abbrev nO:V:= .int .i64 1
abbrev nS:V:= .ef
abbrev bT:V:= .bool true
abbrev bF:V:= .bool false
abbrev zC(T:Nat)(l:List V):Option (O×(Nat->V)):=some (.cells T 1 true false l,λl=> .ptr l 0)
abbrev P2(I:Nat->QP2)(B:(QP2)->QP2):Prop:=∀(k:Nat) (a b:V) (h:Hp),I k a b h->B (λa b h=>∃k',k' < k/\I k' a b h) a b h
abbrev P3(I:Nat->RU)(B:(RU)->RU):Prop:=∀(k:Nat) (a b c:V) (h:Hp),I k a b c h->B (λa b c h=>∃k',k' < k/\I k' a b c h) a b c h
theorem WA.l3{a b d:Nat}{f i j:V}(I:Nat->RU)(B:(RU)->RU)(s:P3 I B)(g:I m f i j h)(l:lG (fN C fn tb k ks Q).c=true:=by kernel_rfl)(n:(fN C fn tb k ks Q).ks=[]:=by kernel_rfl)
  (e:∀(K:RU) (ρ:gK) (h:Hp),VA C fn.ntmps tb (kr C fn.ntmps tb {fN C fn tb k ks Q with ks:=[λρ h=>K (ρ a) (ρ b) (ρ d) h]} false) ρ h=B K (ρ a) (ρ b) (ρ d) h:=by intros;kernel_rfl):∀ρ:gK,ρ a=f->ρ b=i->ρ d=j->WA C fn tb k ks Q ρ h:=by
 rintro ρ rfl rfl rfl;exact WA.loop (λk ρ h=>I k (ρ a) (ρ b) (ρ d) h) l n (λk ρ h hi=>LA.of (by grind) (s k (ρ a) (ρ b) (ρ d) h hi)) g
abbrev P4(I:Nat->KS)(B:(KS)->KS):Prop:=∀(k:Nat) (a b c d:V) (h:Hp),I k a b c d h->B (λa b c d h=>∃k',k' < k/\I k' a b c d h) a b c d h
theorem WA.l4{a b d f:Nat}{i j l n:V}(I:Nat->KS)(B:(KS)->KS)(s:P4 I B)(g:I m i j l n h)(o:lG (fN C fn tb k ks Q).c=true:=by kernel_rfl)(p:(fN C fn tb k ks Q).ks=[]:=by kernel_rfl)
  (e:∀(K:KS) (ρ:gK) (h:Hp),VA C fn.ntmps tb (kr C fn.ntmps tb {fN C fn tb k ks Q with ks:=[λρ h=>K (ρ a) (ρ b) (ρ d) (ρ f) h]} false) ρ h=B K (ρ a) (ρ b) (ρ d) (ρ f) h:=by intros;kernel_rfl):∀ρ:gK,ρ a=i->ρ b=j->ρ d=l->ρ f=n->WA C fn tb k ks Q ρ h:=by
 rintro ρ rfl rfl rfl rfl;exact WA.loop (λk ρ h=>I k (ρ a) (ρ b) (ρ d) (ρ f) h) o p (λk ρ h hi=>LA.of (by grind) (s k (ρ a) (ρ b) (ρ d) (ρ f) h hi)) g
abbrev P5(I:Nat->JG)(B:(JG)->JG):Prop:=∀(k:Nat) (a b c d e:V) (h:Hp),I k a b c d e h->B (λa b c d e h=>∃k',k' < k/\I k' a b c d e h) a b c d e h
theorem WA.l5{a b d f i5:Nat}{i j l n o:V}(I:Nat->JG)(B:(JG)->JG)(s:P5 I B)(g:I m i j l n o h)(p:lG (fN C fn tb k ks Q).c=true:=by kernel_rfl)(q:(fN C fn tb k ks Q).ks=[]:=by kernel_rfl)
  (e:∀(K:JG) (ρ:gK) (h:Hp),VA C fn.ntmps tb (kr C fn.ntmps tb {fN C fn tb k ks Q with ks:=[λρ h=>K (ρ a) (ρ b) (ρ d) (ρ f) (ρ i5) h]} false) ρ h=B K (ρ a) (ρ b) (ρ d) (ρ f) (ρ i5) h:=by intros;kernel_rfl):∀ρ:gK,ρ a=i->ρ b=j->ρ d=l->ρ f=n->ρ i5=o->WA C fn tb k ks Q ρ h:=by
 rintro ρ rfl rfl rfl rfl rfl;exact WA.loop (λk ρ h=>I k (ρ a) (ρ b) (ρ d) (ρ f) (ρ i5) h) p q (λk ρ h hi=>LA.of (by grind) (s k (ρ a) (ρ b) (ρ d) (ρ f) (ρ i5) h hi)) g
abbrev P6(I:Nat->PS)(B:(PS)->PS):Prop:=∀(k:Nat) (a b c d e f:V) (h:Hp),I k a b c d e f h->B (λa b c d e f h=>∃k',k' < k/\I k' a b c d e f h) a b c d e f h
theorem WA.l6{a b d f i5 i6:Nat}{i j l n o p:V}(I:Nat->PS)(B:(PS)->PS)(s:P6 I B)(g:I m i j l n o p h)(q:lG (fN C fn tb k ks Q).c=true:=by kernel_rfl)(r:(fN C fn tb k ks Q).ks=[]:=by kernel_rfl)
  (e:∀(K:PS) (ρ:gK) (h:Hp),VA C fn.ntmps tb (kr C fn.ntmps tb {fN C fn tb k ks Q with ks:=[λρ h=>K (ρ a) (ρ b) (ρ d) (ρ f) (ρ i5) (ρ i6) h]} false) ρ h=B K (ρ a) (ρ b) (ρ d) (ρ f) (ρ i5) (ρ i6) h:=by intros;kernel_rfl):∀ρ:gK,ρ a=i->ρ b=j->ρ d=l->ρ f=n->ρ i5=o->ρ i6=p->WA C fn tb k ks Q ρ h:=by
 rintro ρ rfl rfl rfl rfl rfl rfl;exact WA.loop (λk ρ h=>I k (ρ a) (ρ b) (ρ d) (ρ f) (ρ i5) (ρ i6) h) q r (λk ρ h hi=>LA.of (by grind) (s k (ρ a) (ρ b) (ρ d) (ρ f) (ρ i5) (ρ i6) h hi)) g
abbrev P7(I:Nat->PZ)(B:(PZ)->PZ):Prop:=∀(k:Nat) (a b c d e f g:V) (h:Hp),I k a b c d e f g h->B (λa b c d e f g h=>∃k',k' < k/\I k' a b c d e f g h) a b c d e f g h
theorem WA.l7{a b d f i5 i6 i:Nat}{j l n o p q r:V}(I:Nat->PZ)(B:(PZ)->PZ)(s:P7 I B)(g:I m j l n o p q r h)(t:lG (fN C fn tb k ks Q).c=true:=by kernel_rfl)(u:(fN C fn tb k ks Q).ks=[]:=by kernel_rfl)
  (e:∀(K:PZ) (ρ:gK) (h:Hp),VA C fn.ntmps tb (kr C fn.ntmps tb {fN C fn tb k ks Q with ks:=[λρ h=>K (ρ a) (ρ b) (ρ d) (ρ f) (ρ i5) (ρ i6) (ρ i) h]} false) ρ h=B K (ρ a) (ρ b) (ρ d) (ρ f) (ρ i5) (ρ i6) (ρ i) h:=by intros;kernel_rfl):∀ρ:gK,ρ a=j->ρ b=l->ρ d=n->ρ f=o->ρ i5=p->ρ i6=q->ρ i=r->WA C fn tb k ks Q ρ h:=by
 rintro ρ rfl rfl rfl rfl rfl rfl rfl;exact WA.loop (λk ρ h=>I k (ρ a) (ρ b) (ρ d) (ρ f) (ρ i5) (ρ i6) (ρ i) h) t u (λk ρ h hi=>LA.of (by grind) (s k (ρ a) (ρ b) (ρ d) (ρ f) (ρ i5) (ρ i6) (ρ i) h hi)) g
abbrev P8(I:Nat->K9)(B:(K9)->K9):Prop:=∀(k:Nat) (a b c d e f g i:V) (h:Hp),I k a b c d e f g i h->B (λa b c d e f g i h=>∃k',k' < k/\I k' a b c d e f g i h) a b c d e f g i h
theorem WA.l8{a b d f i5 i6 i j:Nat}{l n o p q r t u:V}(I:Nat->K9)(B:(K9)->K9)(s:P8 I B)(g:I m l n o p q r t u h)(v:lG (fN C fn tb k ks Q).c=true:=by kernel_rfl)(w:(fN C fn tb k ks Q).ks=[]:=by kernel_rfl)
  (e:∀(K:K9) (ρ:gK) (h:Hp),VA C fn.ntmps tb (kr C fn.ntmps tb {fN C fn tb k ks Q with ks:=[λρ h=>K (ρ a) (ρ b) (ρ d) (ρ f) (ρ i5) (ρ i6) (ρ i) (ρ j) h]} false) ρ h=B K (ρ a) (ρ b) (ρ d) (ρ f) (ρ i5) (ρ i6) (ρ i) (ρ j) h:=by intros;kernel_rfl):∀ρ:gK,ρ a=l->ρ b=n->ρ d=o->ρ f=p->ρ i5=q->ρ i6=r->ρ i=t->ρ j=u->WA C fn tb k ks Q ρ h:=by
 rintro ρ rfl rfl rfl rfl rfl rfl rfl rfl;exact WA.loop (λk ρ h=>I k (ρ a) (ρ b) (ρ d) (ρ f) (ρ i5) (ρ i6) (ρ i) (ρ j) h) v w (λk ρ h hi=>LA.of (by grind) (s k (ρ a) (ρ b) (ρ d) (ρ f) (ρ i5) (ρ i6) (ρ i) (ρ j) h hi)) g
abbrev P10(I:Nat->Kk)(B:(Kk)->Kk):Prop:=∀(k:Nat) (b c d e f g i j l a:V) (h:Hp),I k b c d e f g i j l a h->B (λb c d e f g i j l a h=>∃k',k' < k/\I k' b c d e f g i j l a h) b c d e f g i j l a h
theorem WA.l10{b d f i i5 i6 j l n a:Nat}{p q r t u v w x y o:V}(I:Nat->Kk)(B:(Kk)->Kk)(s:P10 I B)(g:I m p q r t u v w x y o h)(z:lG (fN C fn tb k ks Q).c=true:=by kernel_rfl)(A:(fN C fn tb k ks Q).ks=[]:=by kernel_rfl)
  (e:∀(K:Kk) (ρ:gK) (h:Hp),VA C fn.ntmps tb (kr C fn.ntmps tb {fN C fn tb k ks Q with ks:=[λρ h=>K (ρ b) (ρ d) (ρ f) (ρ i) (ρ i5) (ρ i6) (ρ j) (ρ l) (ρ n) (ρ a) h]} false) ρ h=B K (ρ b) (ρ d) (ρ f) (ρ i) (ρ i5) (ρ i6) (ρ j) (ρ l) (ρ n) (ρ a) h:=by intros;kernel_rfl):∀ρ:gK,ρ b=p->ρ d=q->ρ f=r->ρ i=t->ρ i5=u->ρ i6=v->ρ j=w->ρ l=x->ρ n=y->ρ a=o->WA C fn tb k ks Q ρ h:=by
 rintro ρ rfl rfl rfl rfl rfl rfl rfl rfl rfl rfl;exact WA.loop (λk ρ h=>I k (ρ b) (ρ d) (ρ f) (ρ i) (ρ i5) (ρ i6) (ρ j) (ρ l) (ρ n) (ρ a) h) z A (λk ρ h hi=>LA.of (by grind) (s k (ρ b) (ρ d) (ρ f) (ρ i) (ρ i5) (ρ i6) (ρ j) (ρ l) (ρ n) (ρ a) h hi)) g
abbrev P11(I:Nat->EW)(B:(EW)->EW):Prop:=∀(k:Nat) (c d e f g i j l m a b:V) (h:Hp),I k c d e f g i j l m a b h->B (λc d e f g i j l m a b h=>∃k',k' < k/\I k' c d e f g i j l m a b h) c d e f g i j l m a b h
theorem WA.l11{d f i j i5 i6 l n o a b:Nat}{r t u v w x y z A p q:V}(I:Nat->EW)(B:(EW)->EW)(s:P11 I B)(g:I m r t u v w x y z A p q h)(D:lG (fN C fn tb k ks Q).c=true:=by kernel_rfl)(E:(fN C fn tb k ks Q).ks=[]:=by kernel_rfl)
  (e:∀(K:EW) (ρ:gK) (h:Hp),VA C fn.ntmps tb (kr C fn.ntmps tb {fN C fn tb k ks Q with ks:=[λρ h=>K (ρ d) (ρ f) (ρ i) (ρ j) (ρ i5) (ρ i6) (ρ l) (ρ n) (ρ o) (ρ a) (ρ b) h]} false) ρ h=B K (ρ d) (ρ f) (ρ i) (ρ j) (ρ i5) (ρ i6) (ρ l) (ρ n) (ρ o) (ρ a) (ρ b) h:=by intros;kernel_rfl):∀ρ:gK,ρ d=r->ρ f=t->ρ i=u->ρ j=v->ρ i5=w->ρ i6=x->ρ l=y->ρ n=z->ρ o=A->ρ a=p->ρ b=q->WA C fn tb k ks Q ρ h:=by
 rintro ρ rfl rfl rfl rfl rfl rfl rfl rfl rfl rfl rfl;exact WA.loop (λk ρ h=>I k (ρ d) (ρ f) (ρ i) (ρ j) (ρ i5) (ρ i6) (ρ l) (ρ n) (ρ o) (ρ a) (ρ b) h) D E (λk ρ h hi=>LA.of (by grind) (s k (ρ d) (ρ f) (ρ i) (ρ j) (ρ i5) (ρ i6) (ρ l) (ρ n) (ρ o) (ρ a) (ρ b) h hi)) g
abbrev P13(I:Nat->HW)(B:(HW)->HW):Prop:=∀(k:Nat) (e f g i j l m n o a b c d:V) (h:Hp),I k e f g i j l m n o a b c d h->B (λe f g i j l m n o a b c d h=>∃k',k' < k/\I k' e f g i j l m n o a b c d h) e f g i j l m n o a b c d h
theorem WA.l13{i j l n i5 i6 o p q a b d f:Nat}{w x y z A D E F G r t u v:V}(I:Nat->HW)(B:(HW)->HW)(s:P13 I B)(g:I m w x y z A D E F G r t u v h)(H:lG (fN C fn tb k ks Q).c=true:=by kernel_rfl)(J:(fN C fn tb k ks Q).ks=[]:=by kernel_rfl)
  (e:∀(K:HW) (ρ:gK) (h:Hp),VA C fn.ntmps tb (kr C fn.ntmps tb {fN C fn tb k ks Q with ks:=[λρ h=>K (ρ i) (ρ j) (ρ l) (ρ n) (ρ i5) (ρ i6) (ρ o) (ρ p) (ρ q) (ρ a) (ρ b) (ρ d) (ρ f) h]} false) ρ h=B K (ρ i) (ρ j) (ρ l) (ρ n) (ρ i5) (ρ i6) (ρ o) (ρ p) (ρ q) (ρ a) (ρ b) (ρ d) (ρ f) h:=by intros;kernel_rfl):∀ρ:gK,ρ i=w->ρ j=x->ρ l=y->ρ n=z->ρ i5=A->ρ i6=D->ρ o=E->ρ p=F->ρ q=G->ρ a=r->ρ b=t->ρ d=u->ρ f=v->WA C fn tb k ks Q ρ h:=by
 rintro ρ rfl rfl rfl rfl rfl rfl rfl rfl rfl rfl rfl rfl rfl;exact WA.loop (λk ρ h=>I k (ρ i) (ρ j) (ρ l) (ρ n) (ρ i5) (ρ i6) (ρ o) (ρ p) (ρ q) (ρ a) (ρ b) (ρ d) (ρ f) h) H J (λk ρ h hi=>LA.of (by grind) (s k (ρ i) (ρ j) (ρ l) (ρ n) (ρ i5) (ρ i6) (ρ o) (ρ p) (ρ q) (ρ a) (ρ b) (ρ d) (ρ f) h hi)) g
end
