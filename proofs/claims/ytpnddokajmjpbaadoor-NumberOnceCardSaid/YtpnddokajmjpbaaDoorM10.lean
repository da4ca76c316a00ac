/- Parts. -/
import Derived.Test.YtpnddokajmjpbaaDoorM09
namespace Go.Proofs.YtpnddokajmjpbaaDoor.Hx
abbrev XQ:=X->fZ->Hp->Prop
abbrev fx:=V->Hp->Prop
abbrev TN:=V->V->Hp->Prop
abbrev QB:=V->V->V->Hp->Prop
abbrev Ix:=V->V->V->V->Hp->Prop
abbrev GR:=V->V->V->V->V->Hp->Prop
abbrev Mq:=V->V->V->V->V->V->Hp->Prop
abbrev NB:=V->V->V->V->V->V->V->Hp->Prop
abbrev IV:=V->V->V->V->V->V->V->V->Hp->Prop
abbrev U5:=V->V->V->V->V->V->V->V->V->Hp->Prop
abbrev HY:=V->V->V->V->V->V->V->V->V->V->Hp->Prop
abbrev CA:=V->V->V->V->V->V->V->V->V->V->V->Hp->Prop
abbrev JT:=V->V->V->V->V->V->V->V->V->V->V->V->Hp->Prop
abbrev Fv:=V->V->V->V->V->V->V->V->V->V->V->V->V->Hp->Prop
abbrev J9:=V->V->V->V->V->V->V->V->V->V->V->V->V->V->Hp->Prop
abbrev WE:=V->V->V->V->V->V->V->V->V->V->V->V->V->V->V->V->V->V->Hp->Prop
def isVal (o:Oper):Bool:=match o.op with
 | .move x| .assign x=>Mz x
 | .makeFunc _ _ _=>true
 | .makeInterface _ x=>Mz x
 |_=>false
theorem Td {o:Oper} (h:isVal o=true):cls o=0:=by
 unfold isVal at h;unfold cls;split at h <;> simp_all
def opV (C:fu) (o:Oper) (K:V->fZ->Hp->Prop):fZ->Hp->Prop:=match isVal o with
 |true=>λρ h=>Option.rec (motive:=λ_=>Prop) False (λv=>K v ρ h) ((ir o).f (.fn ρ []) h)
 |false=>Nz C o K
theorem ZB (C:fu) (o:Oper) (K:V->fZ->Hp->Prop):opV C o K=Nz C o K:=by
 unfold opV
 cases hv:isVal o with
 |false=>rfl
 | true=>
   unfold Nz;rw[Td hv];rfl
def Ra (C:fu) (n:Nat) (all:List Oper) (o:Oper) (K:fZ->Hp->Prop):fZ->Hp->Prop:=match yx o with
 |some _=>λ_ _=>False
 | none=>match jX n all o with
   |none=>opV C o (nW n o K)
   |some g=>λρ h=>oP (g.f (.fn ρ [])) λb=>VK C o b (nW n o K) ρ h
noncomputable section
inductive Gs where
 |last (o:Oper) (d:Nat)
 |op (o:Oper) (d:Nat) (a:Gs)
 |nest (w:Bool) (d:Nat) (sub:Gs) (o:Oper) (b:Nat) (a:Gs)
 |Dl (w:Bool) (d:Nat) (sub:Gs) (o:Oper) (b:Nat)
def Gs.dst:Gs->Nat
 | .last _ d=>d
 | .op _ _ r=>r.dst
 | .nest _ _ _ _ _ r=>r.dst
 | .Dl _ _ _ _ a=>a
def Gs.ops:Gs->List Oper
 | .last o _=>[o]
 | .op o _ r=>o::r.ops
 | .nest _ _ s o _ r=>s.ops++o::r.ops
 | .Dl _ _ s o _=>s.ops++[o]
def gA (w:Bool) (c:V) (x:Option V):Option V:=match w with
 |true=>jK c x
 |false=>pN c x
def MB (b:Bool)(x:Option V):V:=Bool.rec (motive:=λ_=>V) V.undef (Option.rec (motive:=λ_=>V) V.undef (λv=>v) x) b
def Ly (w:Bool)(v:V):Bool:=Option.rec (motive:=λ_=>Bool) false (λb=>b) (fO w v)
noncomputable def zv (g:Gs):Bool->fZ->Hp->fZ:=Gs.rec (motive:=λ_=>Bool->fZ->Hp->fZ)
 (λo d b ρ h=>gv ρ d (MB b ((ir o).f (.fn ρ []) h)))
 (λo d _ c b ρ h=>c b (gv ρ d (MB b ((ir o).f (.fn ρ []) h))) h)
 (λw d _ o e _ a c b ρ h=>c b (gv (a (Ly w (ρ d)) ρ h) e (MB b ((ir o).f (.fn (a (Ly w (ρ d)) ρ h) []) h))) h)
 (λw d _ o e a b ρ h=>gv (a (Ly w (ρ d)) ρ h) e (MB b ((ir o).f (.fn (a (Ly w (ρ d)) ρ h) []) h))) g
noncomputable def gE (g:Gs):fZ->Hp->Option V:=Gs.rec (motive:=λ_=>fZ->Hp->Option V)
 (λo _ ρ h=>(ir o).f (.fn ρ []) h)
 (λo d _ b ρ h=>oB ((ir o).f (.fn ρ []) h) λv=>b (gv ρ d v) h)
 (λw d sub _ c _ a b ρ h=>oB (gA w (ρ d) (a ρ h)) λv=>b (gv (zv sub (Ly w (ρ d)) ρ h) c v) h)
 (λw d _ _ _ a ρ h=>gA w (ρ d) (a ρ h)) g
def OS (x:Operand) (d:Nat):Bool:=match x with
 | .tmp i=>Nat.beq i d
 |_=>false
def WB (x:Operand) (b:Bool):Bool:=match x with
 | .const v=>match lK 8 v with
   |some (.bool c)=>c == b
   |_=>false
 |_=>false
def Oa (o:Oper) (w:Bool) (d x:Nat):Bool:=match o.op with
 | .pick c a b=>OS c d&&(match w with
   |true=>OS a x&&WB b false
   |false=>OS b x&&WB a true)
 |_=>false
def dOk (n:Nat) (o:Oper) (d:Nat):Bool:=match o.dst with
 |some a=>Nat.beq a d&&Nat.blt d n
 |none=>false
def TC (n:Nat) (all:List Oper) (o:Oper) (w:Bool) (d:Nat):Bool:=match o.guard with
 | some (j,w')=>(w' == w)&&(match all[j]? with
   |some a=>dOk n a d
   |none=>false)
 |none=>false
def MW (n:Nat)(all:List Oper)(av:List Nat)(w:Bool)(d:Nat)(o:Oper)(a:Nat):Bool:=Nat.beq (cls o) 0&&TC n all o w d&&dOk n o a&&av.all (λi=>!(Nat.beq i a))
def Tk (n:Nat) (all:List Oper):List Nat->Bool->Nat->List Nat->Gs->Bool
 |av,w,d,_,.last o a=>MW n all av w d o a
 |av,w,d,ins,.op o a r=>MW n all av w d o a&&Tk n all av w d (a::ins) r
 |av,w,d,ins,.nest w' a s o b r=>ins.any (λi=>Nat.beq i a)&&Tk n all (a::av) w' a [] s&&MW n all av w d o b&&Oa o w' a s.dst&&Tk n all av w d (b::ins) r
 |av,w,d,ins, .Dl w' a s o b=>ins.any (λi=>Nat.beq i a)&&Tk n all (a::av) w' a [] s&&MW n all av w d o b&&Oa o w' a s.dst
def Ch (n:Nat) (all:List Oper) (h:Hp):List Oper->fZ->fZ->Prop
 |[],ρ,ρ'=>ρ' = ρ
 | o::os,ρ,ρ'=>cls o=0/\∃d v,o.dst=some d/\Nat.blt d n=true/\((jX n all o=none/\(ir o).f (.fn ρ []) h=some v)\/
   ∃g b,jX n all o=some g/\g.f (.fn ρ [])=some b/\gV b ((ir o).f (.fn ρ []) h)=some v)/\Ch n all h os (gv ρ d v) ρ'
theorem Ch.app {n:Nat} {all:List Oper} {h:Hp}:∀{os a:List Oper} {ρ e f:fZ},Ch n all h os ρ e->Ch n all h a e f->Ch n all h (os++a) ρ f
 |[],_,_,_,_,b,c=>by cases b;exact c
 |_::_,_,_,_,_,⟨hc,d,v,b,c,g,i⟩,j=>⟨hc,d,v,b,c,g,i.app j⟩
theorem I5 (ρ:fZ)(d:Nat)(v:V):gv ρ d v d=v:=St ρ d v
theorem Ua {n:Nat} {all:List Oper} {o:Oper} {w:Bool} {d:Nat} (a:TC n all o w d=true):∃g,jX n all o=some g/\∀ρ:fZ,g.f (.fn ρ [])=fO w (ρ d):=by
 unfold TC at a;split at a
 ·rename_i j w' b;simp only[tN,CN]at a;obtain⟨e,a⟩:=a;subst e;split at a
  ·rename_i l h;unfold dOk at a;split at a
   ·rename_i m i;simp only[tN]at a;obtain⟨c,k⟩:=a;have c:=tU c;subst c;refine⟨_,by simp only[jX,b,h,i,k];rfl,λρ=>rfl⟩
   ·exact absurd a (by decide)
  ·exact absurd a (by decide)
 ·exact absurd a (by decide)
theorem RB {n:Nat} {all:List Oper} {av:List Nat} {w:Bool} {d:Nat} {o:Oper} {b:Nat} (c:MW n all av w d o b=true) :
  cls o=0/\(∃g,jX n all o=some g/\∀ρ:fZ,g.f (.fn ρ [])=fO w (ρ d))/\o.dst=some b/\Nat.blt b n=true/\∀i∈av,i≠b:=by
 unfold MW at c;simp only[tN]at c;obtain⟨⟨⟨h,j⟩,a⟩,k⟩:=c;refine⟨tU h,Ua j,?_⟩;unfold dOk at a;split at a
 ·rename_i l m;simp only[tN]at a;have e:=tU a.1;subst e;refine⟨m,a.2,λi hi e=>?_⟩;have:=KQ.1 k i hi;rw[e,MV]at this;exact absurd this (by decide)
 ·exact absurd a (by decide)
theorem J6 {x:Operand} {d:Nat} (h:OS x d=true):x = .tmp d:=by
 unfold OS at h;split at h
 ·rw[tU h]
 ·exact absurd h (by decide)
theorem Q1 {x:Operand} {b:Bool} (hx:WB x b=true) (t:Tm) (h:Hp):(rB x).f t h=some (.bool b):=by
 unfold WB at hx;split at hx
 ·rename_i v;split at hx
  ·rename_i c hc;have e:c=b:=by simpa using hx
   subst e;show(K5 (.const v)).f t=_;simp only[K5,hc]
  ·exact absurd hx (by decide)
 ·exact absurd hx (by decide)
theorem Rj {o:Oper} {w:Bool} {d x:Nat} (g:Oa o w d x=true) {ρ:fZ} {h:Hp} {c:Bool} (hc:ρ d = .bool c):(ir o).f (.fn ρ []) h=some (match w,c with
  |true,true=>ρ x
  |true,false=> .bool false
  |false,false=>ρ x
  |false,true=> .bool true)/\cls o=0:=by
 unfold Oa at g;split at g
 ·rename_i c' a b i;simp only[tN]at g;obtain⟨k,e⟩:=g;have l:=J6 k;subst l;refine⟨?_,by unfold cls;rw[i]⟩;have e0:(rB (.tmp d)).f (.fn ρ []) h=some (.bool c):=by show some (ρ d)=_;rw[hc]
  unfold ir;rw[i];simp only[IG,e0,oB]
  cases w with
  | true=>
    simp only[tN]at e;have j:=J6 e.1;subst j
    cases c with
    |true=>rfl
    |false=>exact Q1 e.2 _ _
  | false=>
    simp only[tN]at e;have j:=J6 e.1;subst j
    cases c with
    |true=>exact Q1 e.2 _ _
    |false=>rfl
 ·exact absurd g (by decide)
theorem Rv {w:Bool} {c:V} {x:Option V} {v:V} (a:gA w c x=some v):∃b,c = .bool b/\fO w c=some (b == w)/\((b=w/\x=some v)\/(b≠w/\v = .bool (!w))):=by
 unfold gA at a
 cases w with
 | true=>
   simp only[jK]at a;split at a
   ·cases a;exact⟨false,rfl,rfl,.inr ⟨by decide,rfl⟩⟩
   ·exact⟨true,rfl,rfl,.inl ⟨rfl,a⟩⟩
   ·cases a
 | false=>
   simp only[pN]at a;split at a
   ·cases a;exact⟨true,rfl,rfl,.inr ⟨by decide,rfl⟩⟩
   ·exact⟨false,rfl,rfl,.inl ⟨rfl,a⟩⟩
   ·cases a
theorem NO (ρ:fZ){d i:Nat}(v:V)(h:i≠d):gv ρ d v i=ρ i:=Xw ρ v h
theorem Ch.one {n:Nat} {all:List Oper} {av:List Nat} {w:Bool} {d:Nat} {o:Oper} {a:Nat} (c:MW n all av w d o a=true) {ρ:fZ} {h:Hp} {b:Bool} (hb:fO w (ρ d)=some b) {v:V}
  (hv:gV b ((ir o).f (.fn ρ []) h)=some v):Ch n all h [o] ρ (gv ρ a v):=by
 obtain⟨e,⟨g,i,j⟩,k,l,m⟩:=RB c;exact⟨e,a,v,k,l,.inr ⟨g,b,i,by rw[j,hb],hv⟩,rfl⟩
theorem Jm {b:Bool} {x:Option V} {v:V} (h:gV b x=some v):MB b x=v:=by
 cases b with
 |true=>have h':x=some v:=h;subst h';rfl
 |false=>cases h;rfl
def N9 (n:Nat) (all:List Oper) (av:List Nat) (os:List Oper) (b:Bool) (ρ a:fZ) (h:Hp) (d:Nat) (x:V):Prop:=
 Ch n all h os ρ a/\a d=x/\(∀i∈av,a i=ρ i)/\(b=false->∀i,ρ i = .undef->a i = .undef)
theorem N9.one {n:Nat} {all:List Oper} {av:List Nat} {w:Bool} {d:Nat} {o:Oper} {a:Nat} (c:MW n all av w d o a=true) {ρ:fZ} {h:Hp} {b:Bool} (hb:fO w (ρ d)=some b) {v:V}
  (hv:gV b ((ir o).f (.fn ρ []) h)=some v):N9 n all av [o] b ρ (gv ρ a v) h a v:=by
 obtain⟨_,_,_,_,g⟩:=RB c;refine⟨Ch.one c hb hv,I5 _ _ _,λi hi=>NO _ _ (g i hi),λe i hi=>?_⟩;subst e;cases hv;by_cases e:i=a
 ·subst e;exact I5 _ _ _
 ·rw[NO _ _ e];exact hi
theorem N9.trans {n:Nat} {all:List Oper} {av:List Nat} {os a:List Oper} {b:Bool} {ρ g j:fZ} {h:Hp} {d k:Nat} {x l:V} (f:N9 n all av os b ρ g h d x) (c:N9 n all av a b g j h k l):N9 n all av (os++a) b ρ j h k l:=
 ⟨f.1.app c.1,c.2.1,λi hi=>(c.2.2.1 i hi).trans (f.2.2.1 i hi),λe i hi=>c.2.2.2 e i (f.2.2.2 e i hi)⟩
theorem Sj {n:Nat} {all:List Oper}:∀(g:Gs) {av:List Nat} {w:Bool} {d:Nat} {k:List Nat},Tk n all av w d k g=true->d∈av->∀{ρ:fZ} {h:Hp} {b:Bool},fO w (ρ d)=some b->
  (b=false->∀i∈k,ρ i = .undef)->∀{x:V},gV b (gE g ρ h)=some x->N9 n all av g.ops b ρ (zv g b ρ h) h g.dst x:=by
 have nest:∀(s:Gs),(∀{av:List Nat} {w:Bool} {d:Nat} {k:List Nat},Tk n all av w d k s=true->d∈av->∀{ρ:fZ} {h:Hp} {b:Bool},fO w (ρ d)=some b->
    (b=false->∀i∈k,ρ i = .undef)->∀{x:V},gV b (gE s ρ h)=some x->N9 n all av s.ops b ρ (zv s b ρ h) h s.dst x)->
   ∀{av:List Nat} {w w':Bool} {d l u:Nat} {k:List Nat} {o:Oper},k.any (λi=>Nat.beq i l)=true->Tk n all (l::av) w' l [] s=true->MW n all av w d o u=true->Oa o w' l s.dst=true->d∈av->
   ∀{ρ:fZ} {h:Hp} {b:Bool},fO w (ρ d)=some b->(b=false->∀i∈k,ρ i = .undef)->∀{v:V},gV b (gA w' (ρ l) (gE s ρ h))=some v->
   gV b ((ir o).f (.fn (zv s (Ly w' (ρ l)) ρ h) []) h)=some v/\N9 n all av (s.ops++[o]) b ρ (gv (zv s (Ly w' (ρ l)) ρ h) u v) h u v:=by
  intro s G av w w' d l u k o L hc X hp p ρ h b hb hi v hv;obtain⟨i,M,N⟩:=List.any_eq_true.1 L;have e:=tU N;subst e
  cases b with
  | true=>
    obtain⟨c,O,I,Y⟩:=Rv (show gA w' (ρ i) (gE s ρ h)=some v from hv);have P:Ly w' (ρ i)=(c == w'):=by unfold Ly;rw[I]
    rw[P];obtain⟨y,Z⟩:∃y,gV (c == w') (gE s ρ h)=some y/\(c=w'->y=v):=by
      rcases Y with⟨z,J⟩|⟨z,J⟩
      ·subst z;rw[beq_self_eq_true];exact⟨v,J,λ_=>rfl⟩
      ·have:(c == w')=false:=by simp[z]
       rw[this];exact⟨.undef,rfl,λe=>absurd e z⟩
    obtain⟨Q,k2,H,k4⟩:=G hc (Sk ..) I (λ_ j q=>nomatch q) Z.1;have R:zv s (c == w') ρ h i = .bool c:=by rw[H i (Sk ..)];exact O
    have S:=(Rj hp (h:=h) R).1;have A:(ir o).f (.fn (zv s (c == w') ρ h) []) h=some v:=by
      rw[S,k2];rcases Y with⟨z,J⟩|⟨z,J⟩
      ·subst z;rw[Z.2 rfl];cases c <;> rfl
      ·subst J;cases c <;> cases w' <;> first|rfl|exact absurd rfl z
    refine⟨A,?_⟩;have a:=N9.one X (ρ:=zv s (c == w') ρ h) (h:=h) (b:=true) (by rw[H d (Mh _ p)];exact hb) (v:=v) A
    refine⟨Q.app a.1,a.2.1,λj q=>(a.2.2.1 j q).trans (H j (Mh _ q)),λe=>nomatch e⟩
  | false=>
    have O:ρ i = .undef:=hi rfl i M;have I:fO w' (ρ i)=some false:=by rw[O];rfl
    have P:Ly w' (ρ i)=false:=by unfold Ly;rw[I]
    rw[P];cases hv;obtain⟨Q,k2,H,k4⟩:=G hc (Sk ..) I (λ_ j q=>nomatch q) (x:= .undef) rfl;refine⟨rfl,?_⟩;have a:=N9.one X (ρ:=zv s false ρ h) (h:=h) (b:=false) (by rw[H d (Mh _ p)];exact hb) (v:= .undef) rfl;exact⟨Q.app a.1,a.2.1,λj q=>(a.2.2.1 j q).trans (H j (Mh _ q)),λe j q=>a.2.2.2 e j (k4 rfl j q)⟩
 intro g
 induction g with
 | last o l=>
   intro av w d k t p ρ h b hb hi x hx;have m:gV b ((ir o).f (.fn ρ []) h)=some x:=hx;show N9 n all av [o] b ρ (gv ρ l (MB b ((ir o).f (.fn ρ []) h))) h l x;rw[Jm m]
   exact N9.one t hb m
 | op o l r G=>
   intro av w d k t p ρ h b hb hi x hx;simp only[Tk,tN]at t;obtain⟨v,hv,m⟩:∃v,gV b ((ir o).f (.fn ρ []) h)=some v/\gV b (gE r (gv ρ l v) h)=some x:=by
     cases b with
     | true=>
       obtain⟨v,B,C⟩:=fj.1 (show oB ((ir o).f (.fn ρ []) h) _=some x from hx)
       exact⟨v,B,C⟩
     |false=>cases hx;exact⟨.undef,rfl,rfl⟩
   have a:=N9.one t.1 hb hv;show N9 n all av ([o]++r.ops) b ρ (zv r b (gv ρ l (MB b ((ir o).f (.fn ρ []) h))) h) h r.dst x;rw[Jm hv];refine a.trans (G t.2 p (by rw[a.2.2.1 d p];exact hb) ?_ m);intro e i D;rcases CL.1 D with E|E
   ·subst E;subst e;cases hv;exact I5 _ _ _
   ·exact a.2.2.2 e i (hi e i E)
 | nest w' l s o u r F G=>
   intro av w d k t p ρ h b hb hi x hx;simp only[Tk,tN]at t;obtain⟨⟨⟨⟨B,C⟩,T⟩,U⟩,h5⟩:=t;obtain⟨v,hv,m⟩:∃v,gV b (gA w' (ρ l) (gE s ρ h))=some v/\gV b (gE r (gv (zv s (Ly w' (ρ l)) ρ h) u v) h)=some x:=by
     cases b with
     | true=>
       obtain⟨v,B,C⟩:=fj.1 (show oB (gA w' (ρ l) (gE s ρ h)) _=some x from hx)
       exact⟨v,B,C⟩
     |false=>cases hx;exact⟨.undef,rfl,rfl⟩
   obtain⟨W,K⟩:=nest s F B C T U p hb hi hv;show N9 n all av (s.ops++([o]++r.ops)) b ρ (zv r b (gv (zv s (Ly w' (ρ l)) ρ h) u (MB b ((ir o).f (.fn (zv s (Ly w' (ρ l)) ρ h) []) h))) h) h r.dst x;rw[Jm W,<-Cy];refine K.trans (G h5 p (by rw[K.2.2.1 d p];exact hb) ?_ m);intro e i D;rcases CL.1 D with E|E
   ·subst E;subst e;cases hv;exact I5 _ _ _
   ·exact K.2.2.2 e i (hi e i E)
 | Dl w' l s o u F=>
   intro av w d k t p ρ h b hb hi x hx;simp only[Tk,tN]at t;obtain⟨⟨⟨B,C⟩,T⟩,U⟩:=t;obtain⟨W,K⟩:=nest s F B C T U p hb hi (show gV b (gA w' (ρ l) (gE s ρ h))=some x from hx);show N9 n all av (s.ops++[o]) b ρ (gv (zv s (Ly w' (ρ l)) ρ h) u (MB b ((ir o).f (.fn (zv s (Ly w' (ρ l)) ρ h) []) h))) h u x;rw[Jm W];exact K
inductive PM where
 |op (o:Oper) (d:Nat)
 |nest (w:Bool) (d:Nat) (sub:Gs) (o:Oper) (a:Nat)
def PM.dst:PM->Nat
 | .op _ d=>d
 | .nest _ _ _ _ a=>a
def PM.ops:PM->List Oper
 | .op o _=>[o]
 | .nest _ _ s o _=>s.ops++[o]
def PM.one:PM->Gs
 | .op o d=> .last o d
 | .nest w d s o a=> .Dl w d s o a
def PM.cons (r:Gs):PM->Gs
 | .op o d=> .op o d r
 | .nest w d s o a=> .nest w d s o a r
def zbf (all:List Oper) (o:Oper):Option (Bool×Nat):=match o.guard with
 | some (j,w)=>match all[j]? with
   | some a=>match a.dst with
     |some d=>some (w,d)
     |none=>none
   |none=>none
 |none=>none
def MC (n : Nat) (all:List Oper) (Xn:Bool->Nat->List Nat->List Oper->Option (Gs×List Oper)) (w:Bool) (d:Nat) (a:List Nat) (os:List Oper):Option (PM×List Oper):=match os with
  |[]=>none
  | o ::os'=>match TC n all o w d&&Nat.beq (cls o) 0,o.dst with
    |true,some d'=>some (.op o d',os')
    | _,_ => match zbf all o with
      |none=>none
      | some (w',d')=>match a.any (λi=>Nat.beq i d')with
        |false=>none
        | true=>match Xn w' d' [] (o::os')with
          | some (s,p::os'')=>match TC n all p w d&&Oa p w' d' s.dst,p.dst with
            |true,some dp=>some (.nest w' d' s p dp,os'')
            |_,_=>none
          |_=>none
noncomputable def Xn (n:Nat) (all:List Oper) (fuel:Nat):Bool->Nat->List Nat->List Oper->Option (Gs×List Oper):=
 Nat.rec (motive:=λ_=>Bool->Nat->List Nat->List Oper->Option (Gs×List Oper)) (λ_ _ _ _=>none) (λ_ b w d a os=>match MC n all b w d a os with
  |none=>none
  | some (it,os')=>match b w d (it.dst::a) os' with
    |some (g,r)=>some (it.cons g,r)
    |none=>some (it.one,os')) fuel
theorem Qp {n:Nat} {all:List Oper} {Xn:Bool->Nat->List Nat->List Oper->Option (Gs×List Oper)} (b:∀w d a os g r,Xn w d a os=some (g,r)->os=g.ops++r) {w:Bool} {d:Nat} {a:List Nat} {os:List Oper} {it:PM} {r:List Oper}
  (h:MC n all Xn w d a os=some (it,r)):os=it.ops++r:=by
 unfold MC at h;split at h
 ·cases h
 ·split at h
  ·cases h;rfl
  ·split at h
   ·cases h
   ·split at h
    ·cases h
    ·split at h
     ·rename_i hq;split at h
      ·cases h;have:=b _ _ _ _ _ _ hq;simp only[PM.ops,Cy,YO,LG];exact this
      ·cases h
     ·cases h
theorem Nd {n:Nat} {all:List Oper}:∀(fuel:Nat) (w:Bool) (d:Nat) (a:List Nat) (os:List Oper) (g:Gs) (r:List Oper),Xn n all fuel w d a os=some (g,r)->os=g.ops++r
 |0,_,_,_,_,_,_,h=>by cases h
 | fuel+1,w,d,a,os,g,r,h=>by
   have h':(match MC n all (Xn n all fuel) w d a os with
     |none=>none
     | some (it,b)=>match Xn n all fuel w d (it.dst::a) b with
       |some (g,r)=>some (it.cons g,r)
       |none=>some (it.one,b))=some (g,r):=h
   split at h'
   ·cases h'
   ·rename_i it b c
    have f:=Qp (λw d a os g r e=>Nd fuel w d a os g r e) c;split at h'
    ·rename_i j r' e
     cases h';have i:=Nd fuel _ _ _ _ _ _ e;rw[f,i];cases it <;> simp[PM.ops,PM.cons,Gs.ops]
    ·cases h'
     rw[f];cases it <;> simp[PM.ops,PM.one,Gs.ops]
noncomputable def UZ (n:Nat) (all:List Oper) (os:List Oper):Option (Bool×Nat×Gs×Nat):=match os with
 |[]=>none
 | o ::_ => match o.guard with
   |none=>none
   | some (j,w)=>match all[j]? with
     |none=>none
     | some a=>match a.guard,a.dst,Nat.beq (cls o) 0 with
       | none,some d,true=>match Xn n all 60 w d [] os with
         | some (g,p::_)=>match p.guard,p.dst with
           | none,some dp=>match Oa p w d g.dst&&Nat.blt dp n&&Tk n all [d] w d [] g with
             |true=>some (w,d,g,dp)
             |false=>none
           |_,_=>none
         |_=>none
       |_,_,_=>none
theorem VU {n:Nat} {all os:List Oper} {w:Bool} {d:Nat} {g:Gs} {b:Nat} (h:UZ n all os=some (w,d,g,b)):∃p r,os=g.ops++p::r/\p.guard=none/\p.dst=some b/\Oa p w d g.dst=true/\Nat.blt b n=true/\Tk n all [d] w d [] g=true:=by
 unfold UZ at h;split at h
 ·cases h
 ·split at h
  ·cases h
  ·split at h
   ·cases h
   ·split at h
    ·split at h
     ·rename_i c;split at h
      ·rename_i e f;split at h
       ·rename_i a;cases h;simp only[tN]at a;exact⟨_,_,Nd _ _ _ _ _ _ _ c,e,f,a.1.1,a.1.2,a.2⟩
       ·cases h
      ·cases h
     ·cases h
    ·cases h
theorem Ee {n:Nat} {o:Oper} {K b:fZ->Hp->Prop} (c:∀ρ h,K ρ h->b ρ h) {v:V} {ρ:fZ} {h:Hp} (a:nW n o K v ρ h):nW n o b v ρ h:=by
 unfold nW at a⊢
 cases ho:o.dst with
 |none=>rw[ho]at a;exact c _ _ a
 | some d=>
   rw[ho]at a;simp only at a⊢
   cases hb:Nat.blt d n with
   |true=>rw[hb]at a;exact c _ _ a
   |false=>rw[hb]at a;exact a.elim
theorem oR{α:Type}{x:Option α}{k k':α->Prop}(h:oP x k)(f:∀a,k a->k' a):oP x k':=oM h λa _ H=>f a H
theorem Vy {C:fu} {o:Oper} {K e:V->fZ->Hp->Prop} (d:∀v ρ h,K v ρ h->e v ρ h) {ρ:fZ} {h:Hp} (b:Nz C o K ρ h):Nz C o e ρ h:=by
 unfold Nz at b⊢;generalize cls o=c at b⊢;rcases c with _|_|c
 ·exact oR b λv H=>d _ _ _ H
 ·exact oR b λv H=>d _ _ _ H
 ·show O2 C o e ρ h;have a:O2 C o K ρ h:=b;unfold O2 at a⊢;cases hi:wZ o
  all_goals rw[hi]at a
  ·exact oR a λx H=>d _ _ _ H
  ·exact oR a λx H=>H.mono λv h' H=>d _ _ _ H
theorem Vo {C:fu} {o:Oper} {b:Bool} {K e:V->fZ->Hp->Prop} (d:∀v ρ h,K v ρ h->e v ρ h) {ρ:fZ} {h:Hp} (a:VK C o b K ρ h):VK C o b e ρ h:=by
 unfold VK at a⊢;generalize cls o=c at a⊢;rcases c with _|_|c
 ·exact oR a λv H=>d _ _ _ H
 ·exact oR a λv H=>d _ _ _ H
 ·simp only at a⊢;cases hi:wZ o
  all_goals rw[hi]at a
  ·exact oR a λx H=>d _ _ _ H
  ·refine oR a λx H=>?_
   cases x with
   |none=>exact d _ _ _ H
   |some y=>exact cP.mono H λv h' H=>d _ _ _ H
theorem PN {C:fu} {n:Nat} {all:List Oper} {o:Oper} {K c:fZ->Hp->Prop} (d:∀ρ h,K ρ h->c ρ h) {ρ:fZ} {h:Hp} (a:yB C n all o K ρ h):yB C n all o c ρ h:=by
 unfold yB at a⊢
 cases hd:yx o with
 |some q=>rw[hd]at a;exact a.elim
 | none=>
   rw[hd]at a;simp only at a⊢
   cases hw:jX n all o with
   |none=>rw[hw]at a;exact Vy (λv ρ h H=>Ee d H) a
   |some g=>rw[hw]at a;exact oR a λb H=>Vo (λv ρ h H=>Ee d H) H
theorem T8 (C:fu) (n:Nat) (all:List Oper) (o:Oper) (K:fZ->Hp->Prop):Ra C n all o K=yB C n all o K:=by
 unfold Ra yB;simp only[ZB];rfl
theorem Hl {o:Oper} (h:cls o=0):yx o=none:=by
 unfold yx;unfold cls at h;split
 ·rename_i c hc;rw[hc]at h;cases h
 ·rfl
theorem Ch.xY {C:fu} {n:Nat} {all:List Oper} {h:Hp} {K:fZ->Hp->Prop} {a:List Oper}:∀{os:List Oper} {ρ c:fZ},Ch n all h os ρ c->xY C n all K a c h->xY C n all K (os++a) ρ h
 |[],_,_,hc,hk=>by cases hc;exact hk
 | o ::os,ρ,c,⟨h0,d,v,j,k,l,m⟩,hk=>by
   have p:=m.xY (C:=C) (K:=K) hk;have i:nW n o (Hx.xY C n all K (os++a)) v ρ h:=by unfold nW;rw[j];simp only[k];exact p
   show yB C n all o (Hx.xY C n all K (os++a)) ρ h;unfold yB;rw[Hl h0];simp only;rcases l with⟨e,f⟩|⟨g,b,e,f,q⟩
   ·rw[e]
    simp only[Nz,h0];exact ed f i
   ·rw[e]
    simp only[VK,h0];exact ed f (ed q i)
noncomputable def PS (C:fu) (n:Nat) (all:List Oper) (K:fZ->Hp->Prop) (os:List Oper):Nat->fZ->Hp->Prop:=
 List.rec (motive:=λ_=>Nat->fZ->Hp->Prop) (λ_=>K) (λo os a b=>Nat.rec (motive:=λ_=>fZ->Hp->Prop)
  (match UZ n all (o::os)with
   |some (w,d,g,dp)=>λρ h=>oP (gA w (ρ d) (gE g ρ h)) λv=>a g.ops.length (gv (zv g (Ly w (ρ d)) ρ h) dp v) h
   |none=>Ra C n all o (a 0)) (λk _=>a k) b) os
theorem GL {C:fu} {n:Nat} {all:List Oper} {K:fZ->Hp->Prop}:∀(os:List Oper) (k:Nat) {ρ:fZ} {h:Hp},PS C n all K os k ρ h->xY C n all K (os.drop k) ρ h
 |[],k,ρ,h,hk=>by rw[List.drop_nil];exact hk
 |o::os,k+1,ρ,h,hk=>GL os k hk
 | o ::os,0,ρ,h,hk=>by
   have a:(match UZ n all (o::os)with
     |some (w,d,g,q)=>λ(ρ:fZ) (h:Hp)=>oP (gA w (ρ d) (gE g ρ h)) λv=>PS C n all K os g.ops.length (gv (zv g (Ly w (ρ d)) ρ h) q v) h
     |none=>Ra C n all o (PS C n all K os 0):fZ->Hp->Prop) ρ h:=hk
   show xY C n all K (o::os) ρ h
   cases hg:UZ n all (o::os)with
   | some x=>
     obtain⟨w,d,g,q⟩:=x;rw[hg]at a;simp only at a;obtain⟨p,r,u,E,F,b,i,G⟩:=VU hg;obtain⟨v,H,z⟩:=jC.1 a;obtain⟨c,I,c2,A⟩:=Rv H;have J:Ly w (ρ d)=(c == w):=by unfold Ly;rw[c2]
     rw[J]at z;obtain⟨y,B⟩:∃y,gV (c == w) (gE g ρ h)=some y/\(c=w->y=v):=by
       rcases A with⟨b,i⟩|⟨b,i⟩
       ·subst b;rw[beq_self_eq_true];exact⟨v,i,λ_=>rfl⟩
       ·have:(c == w)=false:=by simp[b]
        rw[this];exact⟨.undef,rfl,λe=>absurd e b⟩
     obtain⟨L,M,N,R⟩:=Sj g G (Sk ..) c2 (λ_ j O=>nomatch O) B.1;have s:zv g (c == w) ρ h d = .bool c:=by rw[N d (Sk ..)];exact I
     have l:=Rj b (h:=h) s;have m:(ir p).f (.fn (zv g (c == w) ρ h) []) h=some v:=by
       rw[l.1,M];rcases A with⟨b,i⟩|⟨b,i⟩
       ·subst b;rw[B.2 rfl];cases c <;> rfl
       ·subst i;cases c <;> cases w <;> first|rfl|exact absurd rfl b
     have t:Ch n all h [p] (zv g (c == w) ρ h) (gv (zv g (c == w) ρ h) q v):=⟨l.2,q,v,F,i,.inl ⟨by unfold jX;rw[E],m⟩,rfl⟩
     have hlen:os.drop g.ops.length=r:=by
       have P:(o::os).drop (g.ops.length+1)=r:=by rw[u,List.append_cons];exact List.drop_left' (by simp)
       exact P
     have D:=GL os _ z;rw[hlen]at D;rw[u,List.append_cons]
     exact(L.app t).xY D
   | none=>
     rw[hg]at a;simp only[T8]at a;exact PN (λρ h Q=>by have:=GL os 0 Q;exact this) a
def A6 (o:Oper):Bool:=match o.op with
 | .move x| .assign x| .nilCheck x| .fieldAddr _ x _| .field _ x _| .unOp _ _ x| .extract x _=>Mz x
 | .pick c a b=>Mz c&&Mz a&&Mz b
 | .binOp _ _ x y _=>Mz x&&Mz y
 | .indexAddr _ x i| .index _ x i=>Mz x&&Mz i
 | .build _ _| .makeFunc _ _ _=>true
 | .makeInterface _ x=>Mz x
 | .call c=>match c.callee,c.args.toList,c.argTypes.toList with
   | .builtin .len,[x],ty::_=>match P0.underlying ty with
     |some (.slice _)=>Mz x
     |_=>false
   |_,_,_=>false
 |_=>false
theorem TM {o:Oper} (a:A6 o=true) (t:Tm) (h h':Hp):(ir o).f t h=(ir o).f t h':=by
 unfold A6 at a;unfold ir;split at a
 all_goals rename_i b
 all_goals try rw[b]
 all_goals try simp only[tN]at a
 ·exact iE a t h h'
 ·exact iE a t h h'
 ·simp only[tj,iE a t h h']
 ·simp only[mI];split <;> (try split) <;> simp only[iE a t h h']
 ·simp only[FT];split <;> simp only[iE a t h h']
 ·simp only[iE a t h h']
 ·simp only[Dy,iE a t h h']
 ·simp only[IG,iE a.1.1 t h h',iE a.1.2 t h h',iE a.2 t h h']
 ·simp only[iE a.1 t h h',iE a.2 t h h']
 ·simp only[mF];split <;> (try split) <;> simp only[iE a.1 t h h',iE a.2 t h h']
 ·simp only[FA];split <;> (try split) <;> simp only[iE a.1 t h h',iE a.2 t h h']
 ·simp only[FL];repeat' split
  all_goals rfl
 ·split <;> first|rfl|(rename_i c;cases c)
 ·dsimp only;split <;> first|rfl|simp only[iE a t h h']
 ·split at a
  ·rename_i d e g;split at a
   ·rename_i i;simp only[d,e,g,hlen,i,iE a t h h']
   ·exact absurd a (by decide)
  ·exact absurd a (by decide)
 ·exact absurd a (by decide)
abbrev RE:=Bool×Rec×Bool×Bool
def Fa (k:Nat) (h:Hp) (rs:List RE) (K:Prop):Prop:=
 List.rec (motive:=λ_=>Prop) K (λr _ a=>Bool.rec (motive:=λ_=>Prop)
  (Option.rec (motive:=λ_=>Prop) (Bool.rec (motive:=λ_=>Prop) a (Bool.rec (motive:=λ_=>Prop) True (AZ h r.2.1) r.1/\a) r.2.2.2)
   (λ_=>Bool.rec (motive:=λ_=>Prop) True (AZ h r.2.1) r.1/\a) r.2.1.made) a (Nat.blt r.2.1.last k)) rs
def FZ (rs:List RE):List RE:=rs.map λr=>(r.1,r.2.1,r.2.2.1,!r.2.2.1)
def sq (rs:List RE):List (Bool×Rec):=rs.map λr=>(r.1,r.2.1)
def itV (C:fu) (n:Nat) (all:List Oper) (ws:List It) (a:It) (d:Nat->fZ->Hp->List RE->Prop) (k:Nat):fZ->Hp->List RE->Prop:=match cls a.o with
  | 0 =>match jX n all a.o with
    | none=>match isVal a.o with
      |true=>λρ h rs=>Option.rec (motive:=λ_=>Prop) False (λv=>nW n a.o (λc h=>d k c h ((true,{it:=a,t:= .fn ρ [],v,made:=none,last:=late ws a},A6 a.o,false)::rs)) v ρ h) ((ir a.o).f (.fn ρ []) h)
      |false=>λρ h rs=>oP ((ir a.o).f (.fn ρ []) h) λv=>nW n a.o (λc h=>d k c h ((true,{it:=a,t:= .fn ρ [],v,made:=none,last:=late ws a},A6 a.o,false)::rs)) v ρ h
    |some g=>λρ h rs=>oP (g.f (.fn ρ [])) λb=>oP (gV b ((ir a.o).f (.fn ρ []) h)) λv=>
       nW n a.o (λc h=>d k c h ((b,{it:=a,t:= .fn ρ [],v,made:=none,last:=late ws a},A6 a.o,false)::rs)) v ρ h
  | 1=>match jX n all a.o with
    |none=>λρ h rs=>oP ((pd a.o).f (.fn ρ [])) λr=>nW n a.o (λc h'=>d k c h' ((true,{it:=a,t:= .fn ρ [],v:=r.2 h.next,made:=some (h.next,r.1),last:=late ws a},false,false)::FZ rs)) (r.2 h.next) ρ (h.new r.1)
    |some _=>λ_ _ _=>False
  | _ =>match jX n all a.o with
    |none=>λρ h rs=>Fa k h rs (O2 C a.o (λv ρ h'=>h.next<=h'.next/\nW n a.o (λρ h=>d (Nat.succ k) ρ h (FZ rs)) v ρ h') ρ h)
    | some g=>match wZ a.o with
      |true=>λρ h rs=>Fa k h rs (oP (g.f (.fn ρ [])) λb=>oP (gC b (oB ((jz a.o).f (.fn ρ []) h) Fq)) λx=>wR C x h λv h'=>h.next<=h'.next/\nW n a.o (λρ h=>d (Nat.succ k) ρ h (FZ rs)) v ρ h')
      |false=>λ_ _ _=>False
def Fx (l:List It):Bool:=l.all λa=>Nat.beq (cls a.o) 0
def PL (C:fu) (n:Nat) (all:List Oper) (ws:List It) (K:fZ->Hp->Prop) (l:List It):Nat->fZ->Hp->List RE->Prop:=
 List.rec (motive:=λ_=>Nat->fZ->Hp->List RE->Prop) (λk ρ h rs=>Fa k h rs (K ρ h)) (λa l b k=>match Fx (a::l)with
  |true=>λρ h rs=>PS C n all (λρ h=>Fa k h rs (K ρ h)) ((a::l).map (·.o)) 0 ρ h
  |false=>itV C n all ws a b k) l
def RM (h:Hp)(rs:List RE):Prop:=∀r∈rs,r.1=true->r.2.1.made=none->(r.2.2.1=true->∀h',AZ h' r.2.1)/\(r.2.2.2=false->AZ h r.2.1)
theorem RM.vR {h:Hp} {rs:List RE} (hi:RM h rs) (h':Hp):RM h' (FZ rs):=by
 intro r c hb d;obtain⟨r',a,e⟩:=K2.1 c;subst e;obtain⟨b,_⟩:=hi r' a hb d;refine⟨b,λe=>b ?_ h'⟩;simpa using e
theorem K1 (rs:List RE):sq (FZ rs)=sq rs:=by
 simp[sq,FZ]
theorem wc {k:Nat} {h:Hp}:∀{rs:List RE} {K d:Prop},RM h rs->(K->d)->Fa k h rs K->vh k h (sq rs) d
 |[],_,_,_,hk,hh=>hk hh
 | (b,r,f,st)::rs,K,d,hi,hk,hh=>by
   have c:RM h rs:=λr c=>hi r (Mh _ c);have h0:=hi _ (Sk ..)
   have a:Bool.rec (motive:=λ_=>Prop)
     (Option.rec (motive:=λ_=>Prop) (Bool.rec (motive:=λ_=>Prop) (Fa k h rs K) (Bool.rec (motive:=λ_=>Prop) True (AZ h r) b/\Fa k h rs K) st)
     (λ_=>Bool.rec (motive:=λ_=>Prop) True (AZ h r) b/\Fa k h rs K) r.made) (Fa k h rs K) (Nat.blt r.last k):=hh
   show Bool.rec (motive:=λ_=>Prop) (Bool.rec (motive:=λ_=>Prop) True (AZ h r) b/\vh k h (sq rs) d) (vh k h (sq rs) d) (Nat.blt r.last k)
   cases hb:Nat.blt r.last k with
   |true=>rw[hb]at a;exact wc c hk a
   | false=>
     rw[hb]at a
     cases hm:r.made with
     |some x=>rw[hm]at a;exact⟨a.1,wc c hk a.2⟩
     | none=>
       rw[hm]at a
       cases st with
       |true=>exact⟨a.1,wc c hk a.2⟩
       | false=>
         refine⟨?_,wc c hk a⟩
         cases b with
         |false=>exact trivial
         |true=>exact(h0 rfl hm).2 rfl
theorem Uf {C:fu} {o:Oper} {K b:V->fZ->Hp->Prop} (c:∀v ρ h,K v ρ h->b v ρ h) {ρ:fZ} {h:Hp} (a:O2 C o K ρ h):O2 C o b ρ h:=by
 unfold O2 at a⊢;cases hi:wZ o
 all_goals rw[hi]at a
 ·exact oR a λx H=>c _ _ _ H
 ·exact oR a λx H=>H.mono λv h' H=>c _ _ _ H
theorem Lz {k:Nat} {h:Hp} {K:Prop} {rs:List (Bool×Rec)}:∀{new:List (Bool×Rec)},(∀r∈new,r.1=true->AZ h r.2)->vh k h rs K->vh k h (new++rs) K
 |[],_,hh=>hh
 | r ::new,hn,hh=>by
   have a:=Lz (new:=new) (λr b=>hn r (Mh _ b)) hh;show vh k h (r::(new++rs)) K;simp only[vh]
   cases hb:Nat.blt r.2.last k with
   |true=>exact a
   | false=>
     refine⟨?_,a⟩
     cases hb:r.1 with
     |false=>exact trivial
     |true=>exact hn r (Sk ..) hb
theorem JB {C:fu} {n:Nat} {all:List Oper} {ws:List It} {K:fZ->Hp->Prop} {k:Nat} {rs:List (Bool×Rec)}:∀{l:List It} {ρ:fZ} {h:Hp} {new:List (Bool×Rec)},Fx l=true->(∀r∈new,r.1=true->AZ h r.2)->
  xY C n all (λρ h=>vh k h rs (K ρ h)) (l.map (·.o)) ρ h->FJ C n all ws K l k ρ h (new++rs)
 |[],_,_,_,_,hn,hk=>Lz hn hk
 | a ::l,ρ,h,new,m,hn,hk=>by
   simp only[Fx,W7,tN]at m;obtain⟨hc,m⟩:=m;have hc:=tU hc;have c:yB C n all a.o (xY C n all (λρ h=>vh k h rs (K ρ h)) (l.map (·.o))) ρ h:=hk;show YP C n all ws a (FJ C n all ws K l) k ρ h (new++rs)
   have p:∀{b:Bool} {v:V},(b=true->(ir a.o).f (.fn ρ []) h=some v)->nW n a.o (xY C n all (λρ h=>vh k h rs (K ρ h)) (l.map (·.o))) v ρ h->
       nW n a.o (λw h=>FJ C n all ws K l k w h ((b,{it:=a,t:= .fn ρ [],v,made:=none,last:=late ws a})::(new++rs))) v ρ h:=by
     intro b v hb i;have j:∀r∈(b,({it:=a,t:= .fn ρ [],v,made:=none,last:=late ws a}:Rec))::new,r.1=true->AZ h r.2:=by
       intro r x q;rcases CL.1 x with e|e
       ·subst e;exact hb q
       ·exact hn r e q
     unfold nW at i⊢
     cases ho:a.o.dst with
     |none=>rw[ho]at i;exact JB m j i
     | some d=>
       rw[ho]at i;simp only at i⊢
       cases hb:Nat.blt d n with
       |true=>rw[hb]at i;exact JB m j i
       |false=>rw[hb]at i;exact i.elim
   unfold yB at c;rw[Hl hc]at c;simp only at c;unfold YP;rw[hc];simp only
   cases hw:jX n all a.o with
   | none=>
     rw[hw]at c;simp only[Nz,hc]at c;obtain⟨v,s,u⟩:=jC.1 c
     exact ed s (p (λ_=>s) u)
   | some g=>
     rw[hw]at c;simp only[VK,hc]at c;obtain⟨b,h0,c⟩:=jC.1 c;obtain⟨v,s,u⟩:=jC.1 c;exact ed h0 (ed s (p (λe=>by subst e;exact s) u))
theorem Ie {C:fu} {n:Nat} {all:List Oper} {K j:fZ->Hp->Prop} {h:Hp} (k:∀ρ,K ρ h->j ρ h):∀{l:List It} {ρ:fZ},Fx l=true->xY C n all K (l.map (·.o)) ρ h->xY C n all j (l.map (·.o)) ρ h
 |[],_,_,hk=>k _ hk
 | a ::l,ρ,f,hk=>by
   simp only[Fx,W7,tN]at f;obtain⟨hc,f⟩:=f;have hc:=tU hc;have c:yB C n all a.o (xY C n all K (l.map (·.o))) ρ h:=hk;show yB C n all a.o (xY C n all j (l.map (·.o))) ρ h;have i:∀{v:V},nW n a.o (xY C n all K (l.map (·.o))) v ρ h->nW n a.o (xY C n all j (l.map (·.o))) v ρ h:=by
     intro v e;unfold nW at e⊢
     cases ho:a.o.dst with
     |none=>rw[ho]at e;exact Ie k f e
     | some d=>
       rw[ho]at e;simp only at e⊢
       cases hb:Nat.blt d n with
       |true=>rw[hb]at e;exact Ie k f e
       |false=>rw[hb]at e;exact e.elim
   unfold yB at c⊢;rw[Hl hc]at c⊢;simp only at c⊢
   cases hw:jX n all a.o with
   | none=>
     rw[hw]at c;simp only[Nz,hc]at c⊢;obtain⟨v,m,p⟩:=jC.1 c
     exact ed m (i p)
   | some g=>
     rw[hw]at c;simp only[VK,hc]at c⊢;obtain⟨b,h0,c⟩:=jC.1 c;obtain⟨v,m,p⟩:=jC.1 c;exact ed h0 (ed m (i p))
theorem Jj {C:fu} {n:Nat} {all:List Oper} {ws:List It} {K:fZ->Hp->Prop}:∀(l:List It) {k:Nat} {ρ:fZ} {h:Hp} {rs:List RE},RM h rs->PL C n all ws K l k ρ h rs->FJ C n all ws K l k ρ h (sq rs)
 |[],_,_,_,_,hi,hk=>wc hi (λx=>x) hk
 | a ::l,k,ρ,h,rs,hi,hk=>by
   have i:(match Fx (a::l)with
     |true=>λ(ρ:fZ) (h:Hp) (rs:List RE)=>PS C n all (λρ h=>Fa k h rs (K ρ h)) ((a::l).map (·.o)) 0 ρ h
     |false=>itV C n all ws a (PL C n all ws K l) k:fZ->Hp->List RE->Prop) ρ h rs:=hk
   cases hp:Fx (a::l)with
   | true=>
     rw[hp]at i;have p:=GL _ 0 i
     exact JB (new:=[]) hp (λ_ u=>nomatch u) (Ie (λρ q=>wc hi (λx=>x) q) hp p)
   | false =>
     rw[hp]at i;simp only at i;show YP C n all ws a (FJ C n all ws K l) k ρ h (sq rs)
     have pure:∀{b:Bool} {v:V},gV b ((ir a.o).f (.fn ρ []) h)=some v->∀{j:fZ},PL C n all ws K l k j h ((b,{it:=a,t:= .fn ρ [],v,made:=none,last:=late ws a},A6 a.o,false)::rs)->
         FJ C n all ws K l k j h ((b,{it:=a,t:= .fn ρ [],v,made:=none,last:=late ws a})::sq rs):=by
       intro b v hv j q;refine Jj l (rs:=(b,{it:=a,t:= .fn ρ [],v,made:=none,last:=late ws a},A6 a.o,false)::rs) ?_ q;intro r u hb w;rcases CL.1 u with e|e
       ·subst e
        have z:b=true:=hb;subst z;refine⟨λD h'=>?_,λ_=>hv⟩;show(ir a.o).f (.fn ρ []) h' = some v;rw[TM D _ h' h];exact hv
       ·exact hi r e hb w
     have dst:∀{b:Bool} {v:V},gV b ((ir a.o).f (.fn ρ []) h)=some v->nW n a.o (λj h=>PL C n all ws K l k j h ((b,{it:=a,t:= .fn ρ [],v,made:=none,last:=late ws a},A6 a.o,false)::rs)) v ρ h->
         nW n a.o (λj h=>FJ C n all ws K l k j h ((b,{it:=a,t:= .fn ρ [],v,made:=none,last:=late ws a})::sq rs)) v ρ h:=by
       intro b v hv m;unfold nW at m⊢
       cases ho:a.o.dst with
       |none=>rw[ho]at m;exact pure hv m
       | some d=>
         rw[ho]at m;simp only at m⊢
         cases hb:Nat.blt d n with
         |true=>rw[hb]at m;exact pure hv m
         |false=>rw[hb]at m;exact m.elim
     unfold itV at i;unfold YP;generalize hc:cls a.o=c at i;rcases c with _|_|c
     ·simp only at i⊢
      cases hw:jX n all a.o with
      | none=>
        rw[hw]at i;simp only at i⊢;have A:oP ((ir a.o).f (.fn ρ []) h) λv=>nW n a.o (λj h=>PL C n all ws K l k j h ((true,{it:=a,t:= .fn ρ [],v,made:=none,last:=late ws a},A6 a.o,false)::rs)) v ρ h:=by
          cases hv:isVal a.o <;> (rw[hv]at i;exact i)
        obtain⟨v,p,B⟩:=jC.1 A
        exact ed p (dst (b:=true) p B)
      | some g=>
        rw[hw]at i;obtain⟨b,h0,i⟩:=jC.1 i;obtain⟨v,p,B⟩:=jC.1 i;exact ed h0 (ed p (dst p B))
     ·simp only at i⊢
      cases hw:jX n all a.o with
      | none=>
        rw[hw]at i;refine oR i λr H=>Ee (λj h' q=>?_) H;have:=Jj l (rs:=(true,{it:=a,t:= .fn ρ [],v:=r.2 h.next,made:=some (h.next,r.1),last:=late ws a},false,false)::FZ rs) (by
          intro r' u hb w;rcases CL.1 u with e|e
          ·subst e;cases w
          ·exact hi.vR h' r' e hb w) q
        change FJ C n all ws K l k j h' (_::sq (FZ rs))at this
        rw[K1]at this
        exact this
      |some g=>rw[hw]at i;exact i.elim
     ·simp only at i⊢
      have s:∀{v:V} {ρ:fZ} {h':Hp},nW n a.o (λρ h=>PL C n all ws K l (Nat.succ k) ρ h (FZ rs)) v ρ h'->nW n a.o (λρ h=>FJ C n all ws K l (Nat.succ k) ρ h (sq rs)) v ρ h':=λH=>
        Ee (λρ h q=>by have:=Jj l (hi.vR h) q;rwa [K1]at this) H
      cases hw:jX n all a.o with
      | none=>
        rw[hw]at i
        exact wc hi (λH=>Uf (λv ρ h' H=>⟨H.1,s H.2⟩) H) i
      | some g=>
        rw[hw]at i;simp only at i⊢
        cases hic:wZ a.o with
        |false=>rw[hic]at i;exact i.elim
        | true=>
          rw[hic]at i;refine wc hi (λH=>oR H λb H=>oR H λx H=>?_) i
          cases x with
          |none=>exact⟨H.1,s H.2⟩
          |some y=>exact cP.mono H λv h' H=>⟨H.1,s H.2⟩
def UK (C:fu) (n:Nat) (all:List Oper) (K:fZ->Hp->Prop) (ρ:fZ) (h:Hp):Prop:=
 PL C n all (gK (items all 0 [])) K (order (items all 0 []) (gK (items all 0 [])) (gK (items all 0 [])) 0) 0 ρ h []
theorem U3{C:fu}{n:Nat}{all:List Oper}{K:fZ->Hp->Prop}{ρ:fZ}{h:Hp}(a:UK C n all K ρ h):RC C n all K ρ h:=Jj (rs:=[]) _ (by intro r b;cases b) a
end
noncomputable def Kt (tb:List (Nat×List Nat)) (k:Nat):Option (List Nat):=
 List.rec (motive:=λ_=>Option (List Nat)) none (λx _ a=>Bool.rec (motive:=λ_=>Option (List Nat)) a (some x.2) (Nat.beq x.1 k)) tb
noncomputable def jV (C:fu) (n:Nat) (live:List Nat) (c:Code) (s:XQ) (ρ:fZ) (h:Hp):Prop:=
 ∀a:fZ,List.rec (motive:=λ_=>Prop) (Wp C n c s a h) (λi _ b=>a i=ρ i->b) live
theorem UM {C:fu} {n:Nat} {live:List Nat} {c:Code} {s:XQ} {ρ:fZ} {h:Hp} (a:jV C n live c s ρ h):Wp C n c s ρ h:=by
 have:=a ρ;clear a
 induction live with
 |nil=>exact this
 |cons i l b=>exact b (this rfl)
noncomputable def Od (C:fu) (n:Nat) (tb:List (Nat×List Nat)) (c:Code):Nat->Nat->XQ->XQ->fZ->Hp->Prop:=
 Code.rec (motive:=λ_=>Nat->Nat->XQ->XQ->fZ->Hp->Prop)
  (λ_ _ v _=>v .normal)
  (fun _ ops d _ _ v _=>match d with
   |false=>PS C n ops.toList (λρ h=>v .normal ρ h) ops.toList 0
   | true=>match wN ops.toList with
     |true=>UK C n ops.toList (λρ h=>v .normal ρ h)
     |false=>λ_ _=>False)
  (λ_ b a g p e v s=>a p (Nat.mul 2 e) (andThen (Option.rec (motive:=λ_=>fZ->Hp->Prop) (g (Nat.add p e) (Nat.mul 2 e) v s) (λlive=>jV C n live b s) (Kt tb (Nat.mul 2 (Nat.add (Nat.add p e) (Nat.mul 2 e))))) v) (andThen (Wp C n b s) s))
  (λc _ _ a g p e v s ρ h=>Option.rec (motive:=λ_=>Prop) False (λx=>bP x (a p (Nat.mul 2 e) v s ρ h) (g (Nat.add p e) (Nat.mul 2 e) v s ρ h)) ((rB c).f (.fn ρ []) h))
  (λid _ i p e v s=>i p (Nat.mul 2 e) (yv id v) (yv id s))
  (λc _ p e _ s=>Option.rec (motive:=λ_=>fZ->Hp->Prop) (λ_ _=>False) (λlive=>jV C n live (.loop c) s) (Kt tb (Nat.succ (Nat.mul 2 (Nat.add p e)))))
  (λ_ _ _ _ _ _ _ _ _ _ _ _=>False)
  (λid _ _ v _=>v (.exit id))
  (λ_ _ _ _ _ _ _ _=>False)
  (λ_ _ _ _ _ _ _=>False)
  (λ_ _ _ _ _ _ _=>False)
  (λ_ _ v _=>v .ret)
  (λ_ _ _ _ _ _ _=>False) c
theorem zS {k k':fZ->Hp->Prop} {v s:XQ} (a:∀ρ h,k ρ h->k' ρ h) (hq:∀x ρ h,v x ρ h->s x ρ h):∀x ρ h,andThen k v x ρ h->andThen k' s x ρ h
 | .normal,_,_,hh=>a _ _ hh
 | .exit _,_,_,hh=>hq _ _ _ hh
 | .ret,_,_,hh=>hq _ _ _ hh
theorem Ko {id:Nat} {v s:XQ} (hq:∀x ρ h,v x ρ h->s x ρ h):∀x ρ h,yv id v x ρ h->yv id s x ρ h
 | .normal,_,_,hh=>hq _ _ _ hh
 | .ret,_,_,hh=>hq _ _ _ hh
 | .exit i,ρ,h,hh=>by
   simp only[yv]at hh⊢
   cases hb:Nat.beq i id with
   |true=>rw[hb]at hh;exact hq _ _ _ hh
   |false=>rw[hb]at hh;exact hq _ _ _ hh
theorem uO {C:fu} {n:Nat} {tb:List (Nat×List Nat)}:∀(c:Code) {p e:Nat} {v s:XQ} {ρ:fZ} {h:Hp},(∀x ρ h,v x ρ h->s x ρ h)->Od C n tb c p e v s ρ h->Wp C n c s ρ h
 | .skip,_,_,_,_,_,_,hq,hk=> .skip (hq _ _ _ hk)
 | .region _ ops false,_,_,v,_,ρ,h,hq,hk=>by
   have d:PS C n ops.toList (λρ h=>v .normal ρ h) ops.toList 0 ρ h:=hk
   exact(Wp.region (GL _ 0 d)).mono hq
 | .region _ ops true,_,_,v,_,ρ,h,hq,hk=>by
   have d:(match wN ops.toList with
       |true=>UK C n ops.toList (λρ h=>v .normal ρ h)
       |false=>λ_ _=>False) ρ h:=hk
   cases hd:wN ops.toList with
   |true=>rw[hd]at d;exact(Wp.draw hd (U3 d)).mono hq
   |false=>rw[hd]at d;exact d.elim
 | .seq a b,p,e,v,s,ρ,h,hq,hk=>by
   refine .seq (uO a (zS ?_ hq) hk);intro ρ h g
   cases hf:Kt tb (Nat.mul 2 (Nat.add (Nat.add p e) (Nat.mul 2 e)))with
   |none=>rw[hf]at g;exact uO b hq g
   |some live=>rw[hf]at g;exact UM g
 | .cond c a b,p,e,v,s,ρ,h,hq,hk=>by
   have d:oP ((rB c).f (.fn ρ []) h) (λx=>bP x (Od C n tb a p (Nat.mul 2 e) v s ρ h) (Od C n tb b (Nat.add p e) (Nat.mul 2 e) v s ρ h)):=hk;obtain⟨x,hv,d⟩:=jC.1 d
   exact .cond (ed hv (bM d (uO a hq) (uO b hq)))
 | .block id c,_,_,_,_,_,_,hq,hk=> .block (uO c (Ko hq) hk)
 | .loop c,p,e,v,s,ρ,h,hq,hk=>by
   have d:(Option.rec (motive:=λ_=>fZ->Hp->Prop) (λ_ _=>False) (λlive=>jV C n live (.loop c) s) (Kt tb (Nat.succ (Nat.mul 2 (Nat.add p e)))):fZ->Hp->Prop) ρ h:=hk
   cases hf:Kt tb (Nat.succ (Nat.mul 2 (Nat.add p e)))with
   |none=>rw[hf]at d;exact d.elim
   |some live=>rw[hf]at d;exact UM d
 | .exit id,_,_,_,_,_,_,hq,hk=> .exit (hq _ _ _ hk)
 | .ret,_,_,_,_,_,_,hq,hk=> .ret (hq _ _ _ hk)
 | .rangeFunc ..,_,_,_,_,_,_,_,hk=>hk.elim
 | .scope _,_,_,_,_,_,_,_,hk=>hk.elim
 | .label _,_,_,_,_,_,_,_,hk=>hk.elim
 | .goto _,_,_,_,_,_,_,_,hk=>hk.elim
 | .refuse _,_,_,_,_,_,_,_,hk=>hk.elim
structure RO where
 c:Code
 v:XQ
 s:XQ
 p:Nat
 e:Nat
 ks:List (fZ->Hp->Prop)
def XR (l:List (fZ->Hp->Prop)):fZ->Hp->Prop:=match l with
 |k::_=>k
 |[]=>λ_ _=>False
noncomputable def jb (C:fu) (n:Nat) (tb:List (Nat×List Nat)) (a:RO) (b:Bool):RO:=match a.c,b with
 | .seq x y,false=>{c:=x,v:=andThen (Option.rec (motive:=λ_=>fZ->Hp->Prop) (Od C n tb y (Nat.add a.p a.e) (Nat.mul 2 a.e) a.v a.s) (λlive=>jV C n live y a.s) (Kt tb (Nat.mul 2 (Nat.add (Nat.add a.p a.e) (Nat.mul 2 a.e))))) a.v,s:=andThen (Wp C n y a.s) a.s,p:=a.p,e:=Nat.mul 2 a.e,ks:=a.ks}
 | .seq _ y,true=>{c:=y,v:=a.v,s:=a.s,p:=Nat.add a.p a.e,e:=Nat.mul 2 a.e,ks:=a.ks}
 | .cond _ x _,false=>{c:=x,v:=a.v,s:=a.s,p:=a.p,e:=Nat.mul 2 a.e,ks:=a.ks}
 | .cond _ _ y,true=>{c:=y,v:=a.v,s:=a.s,p:=Nat.add a.p a.e,e:=Nat.mul 2 a.e,ks:=a.ks}
 | .block id x,false=>{c:=x,v:=yv id a.v,s:=yv id a.s,p:=a.p,e:=Nat.mul 2 a.e,ks:=a.ks}
 | .loop x,false=>{c:=x,v:=andThen (XR a.ks) a.v,s:=andThen (XR a.ks) a.s,p:=a.p,e:=Nat.mul 2 a.e,ks:=a.ks.tail}
 |_,_=>a
noncomputable def za3 (C:fu) (n:Nat) (tb:List (Nat×List Nat)) (bs:List Bool):RO->RO:=
 List.rec (motive:=λ_=>RO->RO) (λa=>a) (λb _ c a=>c (jb C n tb a b)) bs
def zar (k:Nat):List Bool:=(Nat.rec (motive:=λ_=>Nat->List Bool) (λ_=>[]) (λ_ a p=>match Nat.ble p 1 with
 |true=>[]
 |false=>Nat.beq (Nat.mod p 2) 1::a (Nat.div p 2)) 400:Nat->List Bool) k
def RT (Q:V->Hp->Prop) (ρ:fZ) (h:Hp) (l:List ResultVar):List V->Prop:=
 List.rec (motive:=λ_=>List V->Prop) (λb=>Q (xS b.reverse) h) (λr _ c b=>match r with
  | .tmp i=>c (ρ i::b)
  | .cell a ty=>oP ((Ta (.cell a ty)).f (.fn ρ []) h) λv=>c (v::b)) l
theorem Je {Q:V->Hp->Prop} {ρ:fZ} {h:Hp}:∀{l:List ResultVar} {b:List V},RT Q ρ h l b->oP (yL (.fn ρ []) h l) λvs=>Q (xS (b.reverse++vs)) h
 | [],b,hh=>by
   have c:Q (xS b.reverse) h:=hh
   simpa[yL,WT]using c
 | .tmp i::l,b,hh=>by
   have c:RT Q ρ h l (ρ i::b):=hh;obtain⟨vs,d,e⟩:=jC.1 (Je c);refine ed (show yL (.fn ρ []) h (.tmp i::l)=some (ρ i::vs) from ?_) ?_
   ·show oB (some (ρ i)) _=_
    simp only[oB,d]
   ·simpa using e
 | .cell a ty::l,b,hh=>by
   have c:oP ((Ta (.cell a ty)).f (.fn ρ []) h) λv=>RT Q ρ h l (v::b):=hh;obtain⟨v,h0,c⟩:=jC.1 c;obtain⟨vs,d,e⟩:=jC.1 (Je c);refine ed (show yL (.fn ρ []) h (.cell a ty::l)=some (v::vs) from ?_) ?_
   ·show oB ((Ta (.cell a ty)).f (.fn ρ []) h) _=_
    simp only[h0,oB,d]
   ·simpa using e
def XG (l:List ResultVar) (Q:V->Hp->Prop):XQ
 | .exit _,_,_=>False
 |_,ρ,h=>RT Q ρ h l []
theorem NG {l:List ResultVar} {Q:V->Hp->Prop}:∀x ρ h,XG l Q x ρ h->Ky l Q x ρ h
 | .exit _,_,_,hh=>hh
 | .normal,_,_,hh=>by have:=Je (show RT Q _ _ l [] from hh);simpa[Ky,Wa]using this
 | .ret,_,_,hh=>by have:=Je (show RT Q _ _ l [] from hh);simpa[Ky,Wa]using this
noncomputable def Ul (fn:Func)(ks:List (fZ->Hp->Prop))(Q:V->Hp->Prop):RO:={c:=Mu fn,v:=XG fn.results.toList Q,s:=Ky fn.results.toList Q,p:=0,e:=1,ks}
noncomputable def ft (C:fu)(fn:Func)(tb:List (Nat×List Nat))(k:Nat)(ks:List (fZ->Hp->Prop))(Q:V->Hp->Prop):RO:=za3 C fn.ntmps tb (zar k) (Ul fn ks Q)
noncomputable def WA (C:fu)(fn:Func)(tb:List (Nat×List Nat))(k:Nat)(ks:List (fZ->Hp->Prop))(Q:V->Hp->Prop)(ρ:fZ)(h:Hp):Prop:=Wp C fn.ntmps (ft C fn tb k ks Q).c (ft C fn tb k ks Q).s ρ h
noncomputable def VA (C:fu)(n:Nat)(tb:List (Nat×List Nat))(a:RO)(ρ:fZ)(h:Hp):Prop:=Od C n tb a.c a.p a.e a.v a.s ρ h
def RO.ok (a:RO):Prop:=∀x ρ h,a.v x ρ h->a.s x ρ h
theorem SR {C:fu} {n:Nat} {tb:List (Nat×List Nat)} {a:RO} (c:a.ok) (b:Bool):(jb C n tb a b).ok:=by
 unfold jb;split
 ·refine zS (λρ h d=>?_) c
  cases hf:Kt tb (Nat.mul 2 (Nat.add (Nat.add a.p a.e) (Nat.mul 2 a.e)))with
  |none=>rw[hf]at d;exact uO _ c d
  |some live=>rw[hf]at d;exact UM d
 ·exact c
 ·exact c
 ·exact c
 ·exact Ko c
 ·exact zS (λ_ _ d=>d) c
 ·exact c
theorem Rc {C:fu} {n:Nat} {tb:List (Nat×List Nat)}:∀{bs:List Bool} {a:RO},a.ok->(za3 C n tb bs a).ok
 |[],_,ha=>ha
 |b::bs,_,ha=>Rc (bs:=bs) (SR ha b)
theorem LQ{C:fu}{fn:Func}{tb:List (Nat×List Nat)}{k:Nat}{ks:List (fZ->Hp->Prop)}{Q:V->Hp->Prop}:(ft C fn tb k ks Q).ok:=Rc NG
theorem WA.of {C:fu} {fn:Func} {tb:List (Nat×List Nat)} {k:Nat} {ks:List (fZ->Hp->Prop)} {Q:V->Hp->Prop} {ρ:fZ} {h:Hp} {P:Prop}
  (e:VA C fn.ntmps tb (ft C fn tb k ks Q) ρ h=P) (H:P):WA C fn tb k ks Q ρ h:=uO _ LQ (e.mpr H)
def jt (c:Code):Bool:=match c with
 | .loop _=>true
 |_=>false
inductive LA (C:fu) (fn:Func) (tb:List (Nat×List Nat)) (k:Nat) (ks:List (fZ->Hp->Prop)) (Q:V->Hp->Prop) (K:fZ->Hp->Prop) (ρ:fZ) (h:Hp):Prop
 |mk (hv:VA C fn.ntmps tb (jb C fn.ntmps tb {ft C fn tb k ks Q with ks:=[K]} false) ρ h)
theorem LA.of {C:fu} {fn:Func} {tb:List (Nat×List Nat)} {k:Nat} {ks:List (fZ->Hp->Prop)} {Q:V->Hp->Prop} {K:fZ->Hp->Prop} {ρ:fZ} {h:Hp} {P:Prop}
  (e:VA C fn.ntmps tb (jb C fn.ntmps tb {ft C fn tb k ks Q with ks:=[K]} false) ρ h=P) (H:P):LA C fn tb k ks Q K ρ h:=⟨e.mpr H⟩
theorem WA.loop {C:fu} {fn:Func} {tb:List (Nat×List Nat)} {k:Nat} {ks:List (fZ->Hp->Prop)} {Q:V->Hp->Prop} {ρ:fZ} {h:Hp} (I:Nat->fZ->Hp->Prop) {m:Nat}
  (f:jt (ft C fn tb k ks Q).c=true) (n:(ft C fn tb k ks Q).ks=[])
  (b:∀m ρ h,I m ρ h->LA C fn tb k ks Q (λi h'=>∃g,g<m/\I g i h') ρ h) (h0:I m ρ h):WA C fn tb k ks Q ρ h:=by
 unfold WA;have b:=λm ρ h hi=>(b m ρ h hi).1;have d:(ft C fn tb k ks Q).ok:=LQ;generalize ft C fn tb k ks Q=a at*;obtain⟨c,v,s,p,e,j⟩:=a;cases c <;> simp only[jt]at f <;> try exact absurd f (by decide)
 rename_i c;refine Wp.zaG I (λm ρ h hi=>?_) h0;have:=b m ρ h hi;exact uO c (zS (λ_ _ l=>l) d) this
theorem cP.vc {C:fu} (hs:C.start=fW) {f:Nat} {fn:Func} {tb:List (Nat×List Nat)} {args:List V} {h:Hp} {Q:V->Hp->Prop} {P:Prop} (b:P0.funcs[f]? =some fn) (hb:fn.body=some (Mu fn))
  (c:C.K f args h=none) (a:Nat.ble args.length fn.ntmps=true) (e:VA C fn.ntmps tb (Ul fn [] Q) (Md args) h=P) (H:P):cP C f args h Q:=
 cP.func hs b hb c (G9 a) (uO _ NG (e.mpr H))
abbrev LP:=List V->Hp->Prop
def chV (ρ:fZ):List Nat->List V->Prop->Prop
 |i::is,x::xs,P=>ρ i=x->chV ρ is xs P
 |_,_,P=>P
def kf (is:List Nat)(K:LP):fZ->Hp->Prop:=λρ h=>K (is.map ρ) h
def JV (C:fu)(fn:Func)(tb:List (Nat×List Nat))(k:Nat)(is:List Nat)(ks:List (fZ->Hp->Prop))(Q:fx):LP:=λl h=>∀ρ:fZ,chV ρ is l (WA C fn tb k ks Q ρ h)
theorem Pu {ρ:fZ}{P:Prop}:∀{is:List Nat}{l:List V},is.length=l.length->(is.map ρ=l->P)->chV ρ is l P
 |[],[],_,h=>h rfl
 |[],_::_,e,_=>by cases e
 |_::_,[],e,_=>by cases e
 |i::is,x::l,e,h=>λhx=>Pu (is:=is) (l:=l) (by simpa using e) λa=>h (by rw[PW,hx,a])
def W3:Nat->Type
 |0=>Hp->Prop
 |n+1=>V->W3 n
def Dg:(n:Nat)->W3 n->LP
 |0,f,[],h=>f h
 |n+1,f,x::l,h=>Dg n (f x) l h
 |_,_,_,_=>False
@[reducible] def Cs (I:Nat->LP) (k:Nat):LP:=λl h=>∃k',k' < k/\I k' l h
section
variable{C:fu}{fn:Func}{tb:List (Nat×List Nat)}{k m:Nat}{is:List Nat}{ks:List (fZ->Hp->Prop)}{Q:fx}{h:Hp}{l:List V}
theorem JV.mk (n:Nat)(B:W3 n)(e:∀(ρ:fZ)(h:Hp),VA C fn.ntmps tb (ft C fn tb k ks Q) ρ h=Dg n B (is.map ρ) h)(a:is.length=l.length)(H:Dg n B l h):JV C fn tb k is ks Q l h:=λρ=>Pu a λb=>by
 subst b;exact WA.of (e ρ h) H
theorem JV.loop (n:Nat)(I:Nat->LP)(B:LP->W3 n)(a:jt (ft C fn tb k ks Q).c=true)(b:(ft C fn tb k ks Q).ks=[])
  (e:∀(K:LP) (ρ:fZ) (h:Hp),VA C fn.ntmps tb (jb C fn.ntmps tb {ft C fn tb k ks Q with ks:=[kf is K]} false) ρ h=Dg n (B K) (is.map ρ) h)
  (d:∀m l h,l.length=n->I m l h->Dg n (B (Cs I m)) l h) (f:is.length=n) (hlen:is.length=l.length) (h0:I m l h):JV C fn tb k is ks Q l h:=λρ=>Pu hlen λg=>by
 subst g;exact WA.loop (λm ρ h=>I m (is.map ρ) h) a b (λm ρ h hi=>LA.of (e (Cs I m) ρ h) (d m _ h (by rw[Fk];exact f) hi)) h0
abbrev dF (k:Nat)(x:V)(h:Hp)(K:V->Prop):Prop:=oP (fH k x) λa=>oP (ev a h) K
abbrev dN (k:Nat)(x:V)(h:Hp)(K:V->Prop):Prop:=oP (iq x) λa=>dF k a h K
abbrev dI (n:Nat)(x i:V)(k:Nat)(h:Hp)(K:V->Prop):Prop:=oP (gD n x i) λa=>dF k a h K
abbrev dX (n:Nat)(x i:V)(h:Hp)(K:V->Prop):Prop:=oP (gD n x i) λa=>oP (ev a h) K
abbrev dG (k:Nat)(x:V)(h:Hp)(K:V->Prop):Prop:=dF k x h λa=>oP (fD a) K
abbrev dJ (k:Nat)(x:V)(n:Nat)(i:V)(j:Nat)(h:Hp)(K:V->Prop):Prop:=dF k x h λa=>dI n a i j h K
abbrev dY (k:Nat)(x:V)(n:Nat)(i:V)(h:Hp)(K:V->Prop):Prop:=dF k x h λa=>dX n a i h K
abbrev bO (o:BinOp)(t:Nat)(a b:V)(A B:Prop):Prop:=oP (er o t a b) λv=>bP v A B
abbrev bN (a:V)(A B:Prop):Prop:=oP (sr .not a) λv=>bP v A B
theorem oF{k l o:Nat}{h:Hp}{v:V}{K:V->Prop}(a:ev (.ptr l (o+k)) h=some v)(b:K v):dF k (.ptr l o) h K:=jC.2 ⟨_,ez _ _ _,jC.2 ⟨_,a,b⟩⟩
theorem oN{k l o:Nat}{h:Hp}{v:V}{K:V->Prop}(a:ev (.ptr l (o+k)) h=some v)(b:K v):dN k (.ptr l o) h K:=jC.2 ⟨_,fT _ _,oF a b⟩
theorem cP.vd {C:fu}{f:Nat}{fn:Func}(tb:List (Nat×List Nat)){args:List V}{h:Hp}{Q:fx}{P:Prop}(hs:C.start=fW)(b:P0.funcs[f]? =some fn)(c:C.K f args h=none)(H:P)
  (hb:fn.body=some (Mu fn):=by kernel_rfl) (a:Nat.ble args.length fn.ntmps=true:=by kernel_rfl) (e:VA C fn.ntmps tb (Ul fn [] Q) (Md args) h=P:=by kernel_rfl):cP C f args h Q:=cP.vc hs b hb c a e H
abbrev S1 (I:Nat->LP)(B:LP->fx):Prop:=∀(k:Nat) (a:V) (h:Hp),I k [a] h->B (Cs I k) a h
abbrev R1 (B:fx)(J:LP):Prop:=∀{a:V} {h:Hp},B a h->J [a] h
theorem JV.l1 (I:Nat->LP)(B:LP->fx)(s:S1 I B)(i:I m l h)(g:l.length=1)(b:jt (ft C fn tb k ks Q).c=true:=by kernel_rfl)(d:(ft C fn tb k ks Q).ks=[]:=by kernel_rfl)
  (e:∀(K:LP) (ρ:fZ) (h:Hp),VA C fn.ntmps tb (jb C fn.ntmps tb {ft C fn tb k ks Q with ks:=[kf is K]} false) ρ h=Dg 1 (B K) (is.map ρ) h:=by intros;kernel_rfl) (a:is.length=1:=by rfl):JV C fn tb k is ks Q l h:=
 JV.loop 1 I B b d e (λk l h g i=>match l,g,i with|[f],_,i=>s k f h i) a (a.trans g.symm) i
theorem JV.r1 (B:fx)(e:∀(ρ:fZ)(h:Hp),VA C fn.ntmps tb (ft C fn tb k ks Q) ρ h=Dg 1 B (is.map ρ) h:=by intros;kernel_rfl)(a:is.length=1:=by rfl):R1 B (JV C fn tb k is ks Q):=λH=>JV.mk 1 B e a H
abbrev S2 (I:Nat->LP)(B:LP->TN):Prop:=∀(k:Nat) (a b:V) (h:Hp),I k [a,b] h->B (Cs I k) a b h
abbrev R2 (B:TN)(J:LP):Prop:=∀{a b:V} {h:Hp},B a b h->J [a,b] h
theorem JV.l2 (I:Nat->LP)(B:LP->TN)(s:S2 I B)(i:I m l h)(g:l.length=2)(b:jt (ft C fn tb k ks Q).c=true:=by kernel_rfl)(d:(ft C fn tb k ks Q).ks=[]:=by kernel_rfl)
  (e:∀(K:LP) (ρ:fZ) (h:Hp),VA C fn.ntmps tb (jb C fn.ntmps tb {ft C fn tb k ks Q with ks:=[kf is K]} false) ρ h=Dg 2 (B K) (is.map ρ) h:=by intros;kernel_rfl) (a:is.length=2:=by rfl):JV C fn tb k is ks Q l h:=
 JV.loop 2 I B b d e (λk l h g i=>match l,g,i with|[f,j],_,i=>s k f j h i) a (a.trans g.symm) i
theorem JV.r2 (B:TN)(e:∀(ρ:fZ)(h:Hp),VA C fn.ntmps tb (ft C fn tb k ks Q) ρ h=Dg 2 B (is.map ρ) h:=by intros;kernel_rfl)(a:is.length=2:=by rfl):R2 B (JV C fn tb k is ks Q):=λH=>JV.mk 2 B e a H
abbrev S3 (I:Nat->LP)(B:LP->QB):Prop:=∀(k:Nat) (a b c:V) (h:Hp),I k [a,b,c] h->B (Cs I k) a b c h
abbrev R3 (B:QB)(J:LP):Prop:=∀{a b c:V} {h:Hp},B a b c h->J [a,b,c] h
theorem JV.l3 (I:Nat->LP)(B:LP->QB)(s:S3 I B)(i:I m l h)(g:l.length=3)(b:jt (ft C fn tb k ks Q).c=true:=by kernel_rfl)(d:(ft C fn tb k ks Q).ks=[]:=by kernel_rfl)
  (e:∀(K:LP) (ρ:fZ) (h:Hp),VA C fn.ntmps tb (jb C fn.ntmps tb {ft C fn tb k ks Q with ks:=[kf is K]} false) ρ h=Dg 3 (B K) (is.map ρ) h:=by intros;kernel_rfl) (a:is.length=3:=by rfl):JV C fn tb k is ks Q l h:=
 JV.loop 3 I B b d e (λk l h g i=>match l,g,i with|[f,j,n],_,i=>s k f j n h i) a (a.trans g.symm) i
theorem JV.r3 (B:QB)(e:∀(ρ:fZ)(h:Hp),VA C fn.ntmps tb (ft C fn tb k ks Q) ρ h=Dg 3 B (is.map ρ) h:=by intros;kernel_rfl)(a:is.length=3:=by rfl):R3 B (JV C fn tb k is ks Q):=λH=>JV.mk 3 B e a H
abbrev S4 (I:Nat->LP)(B:LP->Ix):Prop:=∀(k:Nat) (a b c d:V) (h:Hp),I k [a,b,c,d] h->B (Cs I k) a b c d h
abbrev R4 (B:Ix)(J:LP):Prop:=∀{a b c d:V} {h:Hp},B a b c d h->J [a,b,c,d] h
theorem JV.l4 (I:Nat->LP)(B:LP->Ix)(s:S4 I B)(i:I m l h)(g:l.length=4)(b:jt (ft C fn tb k ks Q).c=true:=by kernel_rfl)(d:(ft C fn tb k ks Q).ks=[]:=by kernel_rfl)
  (e:∀(K:LP) (ρ:fZ) (h:Hp),VA C fn.ntmps tb (jb C fn.ntmps tb {ft C fn tb k ks Q with ks:=[kf is K]} false) ρ h=Dg 4 (B K) (is.map ρ) h:=by intros;kernel_rfl) (a:is.length=4:=by rfl):JV C fn tb k is ks Q l h:=
 JV.loop 4 I B b d e (λk l h g i=>match l,g,i with|[f,j,n,o],_,i=>s k f j n o h i) a (a.trans g.symm) i
theorem JV.r4 (B:Ix)(e:∀(ρ:fZ)(h:Hp),VA C fn.ntmps tb (ft C fn tb k ks Q) ρ h=Dg 4 B (is.map ρ) h:=by intros;kernel_rfl)(a:is.length=4:=by rfl):R4 B (JV C fn tb k is ks Q):=λH=>JV.mk 4 B e a H
abbrev S5 (I:Nat->LP)(B:LP->GR):Prop:=∀(k:Nat) (a b c d e:V) (h:Hp),I k [a,b,c,d,e] h->B (Cs I k) a b c d e h
abbrev R5 (B:GR)(J:LP):Prop:=∀{a b c d e:V} {h:Hp},B a b c d e h->J [a,b,c,d,e] h
theorem JV.l5 (I:Nat->LP)(B:LP->GR)(s:S5 I B)(i:I m l h)(g:l.length=5)(b:jt (ft C fn tb k ks Q).c=true:=by kernel_rfl)(d:(ft C fn tb k ks Q).ks=[]:=by kernel_rfl)
  (e:∀(K:LP) (ρ:fZ) (h:Hp),VA C fn.ntmps tb (jb C fn.ntmps tb {ft C fn tb k ks Q with ks:=[kf is K]} false) ρ h=Dg 5 (B K) (is.map ρ) h:=by intros;kernel_rfl) (a:is.length=5:=by rfl):JV C fn tb k is ks Q l h:=
 JV.loop 5 I B b d e (λk l h g i=>match l,g,i with|[f,j,n,o,p],_,i=>s k f j n o p h i) a (a.trans g.symm) i
theorem JV.r5 (B:GR)(e:∀(ρ:fZ)(h:Hp),VA C fn.ntmps tb (ft C fn tb k ks Q) ρ h=Dg 5 B (is.map ρ) h:=by intros;kernel_rfl)(a:is.length=5:=by rfl):R5 B (JV C fn tb k is ks Q):=λH=>JV.mk 5 B e a H
abbrev S6 (I:Nat->LP)(B:LP->Mq):Prop:=∀(k:Nat) (a b c d e f:V) (h:Hp),I k [a,b,c,d,e,f] h->B (Cs I k) a b c d e f h
abbrev R6 (B:Mq)(J:LP):Prop:=∀{a b c d e f:V} {h:Hp},B a b c d e f h->J [a,b,c,d,e,f] h
theorem JV.l6 (I:Nat->LP)(B:LP->Mq)(s:S6 I B)(i:I m l h)(g:l.length=6)(b:jt (ft C fn tb k ks Q).c=true:=by kernel_rfl)(d:(ft C fn tb k ks Q).ks=[]:=by kernel_rfl)
  (e:∀(K:LP) (ρ:fZ) (h:Hp),VA C fn.ntmps tb (jb C fn.ntmps tb {ft C fn tb k ks Q with ks:=[kf is K]} false) ρ h=Dg 6 (B K) (is.map ρ) h:=by intros;kernel_rfl) (a:is.length=6:=by rfl):JV C fn tb k is ks Q l h:=
 JV.loop 6 I B b d e (λk l h g i=>match l,g,i with|[f,j,n,o,p,q],_,i=>s k f j n o p q h i) a (a.trans g.symm) i
theorem JV.r6 (B:Mq)(e:∀(ρ:fZ)(h:Hp),VA C fn.ntmps tb (ft C fn tb k ks Q) ρ h=Dg 6 B (is.map ρ) h:=by intros;kernel_rfl)(a:is.length=6:=by rfl):R6 B (JV C fn tb k is ks Q):=λH=>JV.mk 6 B e a H
abbrev S7 (I:Nat->LP)(B:LP->NB):Prop:=∀(k:Nat) (a b c d e f g:V) (h:Hp),I k [a,b,c,d,e,f,g] h->B (Cs I k) a b c d e f g h
abbrev R7 (B:NB)(J:LP):Prop:=∀{a b c d e f g:V} {h:Hp},B a b c d e f g h->J [a,b,c,d,e,f,g] h
theorem JV.l7 (I:Nat->LP)(B:LP->NB)(s:S7 I B)(i:I m l h)(g:l.length=7)(b:jt (ft C fn tb k ks Q).c=true:=by kernel_rfl)(d:(ft C fn tb k ks Q).ks=[]:=by kernel_rfl)
  (e:∀(K:LP) (ρ:fZ) (h:Hp),VA C fn.ntmps tb (jb C fn.ntmps tb {ft C fn tb k ks Q with ks:=[kf is K]} false) ρ h=Dg 7 (B K) (is.map ρ) h:=by intros;kernel_rfl) (a:is.length=7:=by rfl):JV C fn tb k is ks Q l h:=
 JV.loop 7 I B b d e (λk l h g i=>match l,g,i with|[f,j,n,o,p,q,r],_,i=>s k f j n o p q r h i) a (a.trans g.symm) i
theorem JV.r7 (B:NB)(e:∀(ρ:fZ)(h:Hp),VA C fn.ntmps tb (ft C fn tb k ks Q) ρ h=Dg 7 B (is.map ρ) h:=by intros;kernel_rfl)(a:is.length=7:=by rfl):R7 B (JV C fn tb k is ks Q):=λH=>JV.mk 7 B e a H
abbrev S8 (I:Nat->LP)(B:LP->IV):Prop:=∀(k:Nat) (a b c d e f g i:V) (h:Hp),I k [a,b,c,d,e,f,g,i] h->B (Cs I k) a b c d e f g i h
abbrev R8 (B:IV)(J:LP):Prop:=∀{a b c d e f g i:V} {h:Hp},B a b c d e f g i h->J [a,b,c,d,e,f,g,i] h
theorem JV.l8 (I:Nat->LP)(B:LP->IV)(s:S8 I B)(i:I m l h)(g:l.length=8)(b:jt (ft C fn tb k ks Q).c=true:=by kernel_rfl)(d:(ft C fn tb k ks Q).ks=[]:=by kernel_rfl)
  (e:∀(K:LP) (ρ:fZ) (h:Hp),VA C fn.ntmps tb (jb C fn.ntmps tb {ft C fn tb k ks Q with ks:=[kf is K]} false) ρ h=Dg 8 (B K) (is.map ρ) h:=by intros;kernel_rfl) (a:is.length=8:=by rfl):JV C fn tb k is ks Q l h:=
 JV.loop 8 I B b d e (λk l h g i=>match l,g,i with|[f,j,n,o,p,q,r,t],_,i=>s k f j n o p q r t h i) a (a.trans g.symm) i
theorem JV.r8 (B:IV)(e:∀(ρ:fZ)(h:Hp),VA C fn.ntmps tb (ft C fn tb k ks Q) ρ h=Dg 8 B (is.map ρ) h:=by intros;kernel_rfl)(a:is.length=8:=by rfl):R8 B (JV C fn tb k is ks Q):=λH=>JV.mk 8 B e a H
abbrev S9 (I:Nat->LP)(B:LP->U5):Prop:=∀(k:Nat) (a b c d e f g i j:V) (h:Hp),I k [a,b,c,d,e,f,g,i,j] h->B (Cs I k) a b c d e f g i j h
abbrev R9 (B:U5)(J:LP):Prop:=∀{a b c d e f g i j:V} {h:Hp},B a b c d e f g i j h->J [a,b,c,d,e,f,g,i,j] h
theorem JV.l9 (I:Nat->LP)(B:LP->U5)(s:S9 I B)(i:I m l h)(g:l.length=9)(b:jt (ft C fn tb k ks Q).c=true:=by kernel_rfl)(d:(ft C fn tb k ks Q).ks=[]:=by kernel_rfl)
  (e:∀(K:LP) (ρ:fZ) (h:Hp),VA C fn.ntmps tb (jb C fn.ntmps tb {ft C fn tb k ks Q with ks:=[kf is K]} false) ρ h=Dg 9 (B K) (is.map ρ) h:=by intros;kernel_rfl) (a:is.length=9:=by rfl):JV C fn tb k is ks Q l h:=
 JV.loop 9 I B b d e (λk l h g i=>match l,g,i with|[f,j,n,o,p,q,r,t,u],_,i=>s k f j n o p q r t u h i) a (a.trans g.symm) i
theorem JV.r9 (B:U5)(e:∀(ρ:fZ)(h:Hp),VA C fn.ntmps tb (ft C fn tb k ks Q) ρ h=Dg 9 B (is.map ρ) h:=by intros;kernel_rfl)(a:is.length=9:=by rfl):R9 B (JV C fn tb k is ks Q):=λH=>JV.mk 9 B e a H
abbrev S10 (I:Nat->LP)(B:LP->HY):Prop:=∀(k:Nat) (b c d e f g i j l a:V) (h:Hp),I k [b,c,d,e,f,g,i,j,l,a] h->B (Cs I k) b c d e f g i j l a h
abbrev Cl (B:HY)(J:LP):Prop:=∀{b c d e f g i j k a:V} {h:Hp},B b c d e f g i j k a h->J [b,c,d,e,f,g,i,j,k,a] h
theorem JV.Zl (I:Nat->LP)(B:LP->HY)(s:S10 I B)(i:I m l h)(g:l.length=10)(d:jt (ft C fn tb k ks Q).c=true:=by kernel_rfl)(f:(ft C fn tb k ks Q).ks=[]:=by kernel_rfl)
  (e:∀(K:LP) (ρ:fZ) (h:Hp),VA C fn.ntmps tb (jb C fn.ntmps tb {ft C fn tb k ks Q with ks:=[kf is K]} false) ρ h=Dg 10 (B K) (is.map ρ) h:=by intros;kernel_rfl) (b:is.length=10:=by rfl):JV C fn tb k is ks Q l h:=
 JV.loop 10 I B d f e (λk l h g i=>match l,g,i with|[j,n,o,p,q,r,t,u,v,a],_,i=>s k j n o p q r t u v a h i) b (b.trans g.symm) i
theorem JV.ZU (B:HY)(e:∀(ρ:fZ)(h:Hp),VA C fn.ntmps tb (ft C fn tb k ks Q) ρ h=Dg 10 B (is.map ρ) h:=by intros;kernel_rfl)(a:is.length=10:=by rfl):Cl B (JV C fn tb k is ks Q):=λH=>JV.mk 10 B e a H
abbrev S11 (I:Nat->LP)(B:LP->CA):Prop:=∀(k:Nat) (c d e f g i j l m a b:V) (h:Hp),I k [c,d,e,f,g,i,j,l,m,a,b] h->B (Cs I k) c d e f g i j l m a b h
abbrev R11 (B:CA)(J:LP):Prop:=∀{c d e f g i j k l a b:V} {h:Hp},B c d e f g i j k l a b h->J [c,d,e,f,g,i,j,k,l,a,b] h
theorem JV.l11 (I:Nat->LP)(B:LP->CA)(s:S11 I B)(i:I m l h)(g:l.length=11)(f:jt (ft C fn tb k ks Q).c=true:=by kernel_rfl)(j:(ft C fn tb k ks Q).ks=[]:=by kernel_rfl)
  (e:∀(K:LP) (ρ:fZ) (h:Hp),VA C fn.ntmps tb (jb C fn.ntmps tb {ft C fn tb k ks Q with ks:=[kf is K]} false) ρ h=Dg 11 (B K) (is.map ρ) h:=by intros;kernel_rfl) (d:is.length=11:=by rfl):JV C fn tb k is ks Q l h:=
 JV.loop 11 I B f j e (λk l h g i=>match l,g,i with|[n,o,p,q,r,t,u,v,w,a,b],_,i=>s k n o p q r t u v w a b h i) d (d.trans g.symm) i
theorem JV.r11 (B:CA)(e:∀(ρ:fZ)(h:Hp),VA C fn.ntmps tb (ft C fn tb k ks Q) ρ h=Dg 11 B (is.map ρ) h:=by intros;kernel_rfl)(a:is.length=11:=by rfl):R11 B (JV C fn tb k is ks Q):=λH=>JV.mk 11 B e a H
abbrev S12 (I:Nat->LP)(B:LP->JT):Prop:=∀(k:Nat) (d e f g i j l m n a b c:V) (h:Hp),I k [d,e,f,g,i,j,l,m,n,a,b,c] h->B (Cs I k) d e f g i j l m n a b c h
abbrev Y7 (B:JT)(J:LP):Prop:=∀{d e f g i j k l m a b c:V} {h:Hp},B d e f g i j k l m a b c h->J [d,e,f,g,i,j,k,l,m,a,b,c] h
theorem JV.l12 (I:Nat->LP)(B:LP->JT)(s:S12 I B)(i:I m l h)(g:l.length=12)(j:jt (ft C fn tb k ks Q).c=true:=by kernel_rfl)(n:(ft C fn tb k ks Q).ks=[]:=by kernel_rfl)
  (e:∀(K:LP) (ρ:fZ) (h:Hp),VA C fn.ntmps tb (jb C fn.ntmps tb {ft C fn tb k ks Q with ks:=[kf is K]} false) ρ h=Dg 12 (B K) (is.map ρ) h:=by intros;kernel_rfl) (f:is.length=12:=by rfl):JV C fn tb k is ks Q l h:=
 JV.loop 12 I B j n e (λk l h g i=>match l,g,i with|[o,p,q,r,t,u,v,w,x,a,b,d],_,i=>s k o p q r t u v w x a b d h i) f (f.trans g.symm) i
theorem JV.r12 (B:JT)(e:∀(ρ:fZ)(h:Hp),VA C fn.ntmps tb (ft C fn tb k ks Q) ρ h=Dg 12 B (is.map ρ) h:=by intros;kernel_rfl)(a:is.length=12:=by rfl):Y7 B (JV C fn tb k is ks Q):=λH=>JV.mk 12 B e a H
abbrev S13 (I:Nat->LP)(B:LP->Fv):Prop:=∀(k:Nat) (e f g i j l m n o a b c d:V) (h:Hp),I k [e,f,g,i,j,l,m,n,o,a,b,c,d] h->B (Cs I k) e f g i j l m n o a b c d h
abbrev R13 (B:Fv)(J:LP):Prop:=∀{e f g i j k l m n a b c d:V} {h:Hp},B e f g i j k l m n a b c d h->J [e,f,g,i,j,k,l,m,n,a,b,c,d] h
theorem JV.l13 (I:Nat->LP)(B:LP->Fv)(s:S13 I B)(i:I m l h)(g:l.length=13)(n:jt (ft C fn tb k ks Q).c=true:=by kernel_rfl)(o:(ft C fn tb k ks Q).ks=[]:=by kernel_rfl)
  (e:∀(K:LP) (ρ:fZ) (h:Hp),VA C fn.ntmps tb (jb C fn.ntmps tb {ft C fn tb k ks Q with ks:=[kf is K]} false) ρ h=Dg 13 (B K) (is.map ρ) h:=by intros;kernel_rfl) (j:is.length=13:=by rfl):JV C fn tb k is ks Q l h:=
 JV.loop 13 I B n o e (λk l h g i=>match l,g,i with|[p,q,r,t,u,v,w,x,y,a,b,d,f],_,i=>s k p q r t u v w x y a b d f h i) j (j.trans g.symm) i
theorem JV.r13 (B:Fv)(e:∀(ρ:fZ)(h:Hp),VA C fn.ntmps tb (ft C fn tb k ks Q) ρ h=Dg 13 B (is.map ρ) h:=by intros;kernel_rfl)(a:is.length=13:=by rfl):R13 B (JV C fn tb k is ks Q):=λH=>JV.mk 13 B e a H
abbrev S14 (I:Nat->LP)(B:LP->J9):Prop:=∀(k:Nat) (f g i j l m n o p a b c d e:V) (h:Hp),I k [f,g,i,j,l,m,n,o,p,a,b,c,d,e] h->B (Cs I k) f g i j l m n o p a b c d e h
abbrev R14 (B:J9)(J:LP):Prop:=∀{f g i j k l m n o a b c d e:V} {h:Hp},B f g i j k l m n o a b c d e h->J [f,g,i,j,k,l,m,n,o,a,b,c,d,e] h
theorem JV.l14 (I:Nat->LP)(B:LP->J9)(s:S14 I B)(i:I m l h)(g:l.length=14)(o:jt (ft C fn tb k ks Q).c=true:=by kernel_rfl)(p:(ft C fn tb k ks Q).ks=[]:=by kernel_rfl)
  (e:∀(K:LP) (ρ:fZ) (h:Hp),VA C fn.ntmps tb (jb C fn.ntmps tb {ft C fn tb k ks Q with ks:=[kf is K]} false) ρ h=Dg 14 (B K) (is.map ρ) h:=by intros;kernel_rfl) (n:is.length=14:=by rfl):JV C fn tb k is ks Q l h:=
 JV.loop 14 I B o p e (λk l h g i=>match l,g,i with|[q,r,t,u,v,w,x,y,z,a,b,d,f,j],_,i=>s k q r t u v w x y z a b d f j h i) n (n.trans g.symm) i
theorem JV.r14 (B:J9)(e:∀(ρ:fZ)(h:Hp),VA C fn.ntmps tb (ft C fn tb k ks Q) ρ h=Dg 14 B (is.map ρ) h:=by intros;kernel_rfl)(a:is.length=14:=by rfl):R14 B (JV C fn tb k is ks Q):=λH=>JV.mk 14 B e a H
abbrev S18 (I:Nat->LP)(B:LP->WE):Prop:=∀(k:Nat) (l m n o p q r s t a b c d e f g i j:V) (h:Hp),I k [l,m,n,o,p,q,r,s,t,a,b,c,d,e,f,g,i,j] h->B (Cs I k) l m n o p q r s t a b c d e f g i j h
abbrev R18 (B:WE)(J:LP):Prop:=∀{k l m n o p q r s a b c d e f g i j:V} {h:Hp},B k l m n o p q r s a b c d e f g i j h->J [k,l,m,n,o,p,q,r,s,a,b,c,d,e,f,g,i,j] h
theorem JV.l18 (I:Nat->LP)(B:LP->WE)(s:S18 I B)(i:I m l h)(g:l.length=18)(t:jt (ft C fn tb k ks Q).c=true:=by kernel_rfl)(u:(ft C fn tb k ks Q).ks=[]:=by kernel_rfl)
  (e:∀(K:LP) (ρ:fZ) (h:Hp),VA C fn.ntmps tb (jb C fn.ntmps tb {ft C fn tb k ks Q with ks:=[kf is K]} false) ρ h=Dg 18 (B K) (is.map ρ) h:=by intros;kernel_rfl) (r:is.length=18:=by rfl):JV C fn tb k is ks Q l h:=
 JV.loop 18 I B t u e (λk l h g i=>match l,g,i with|[v,w,x,y,z,A,D,E,F,a,b,d,f,j,n,o,p,q],_,i=>s k v w x y z A D E F a b d f j n o p q h i) r (r.trans g.symm) i
theorem JV.r18 (B:WE)(e:∀(ρ:fZ)(h:Hp),VA C fn.ntmps tb (ft C fn tb k ks Q) ρ h=Dg 18 B (is.map ρ) h:=by intros;kernel_rfl)(a:is.length=18:=by rfl):R18 B (JV C fn tb k is ks Q):=λH=>JV.mk 18 B e a H
abbrev nZ:V:= .int .i64 0
abbrev nO:V:= .int .i64 1
abbrev nS:V:= .ec
abbrev bT:V:= .bool true
abbrev bF:V:= .bool false
abbrev zC (T:Nat)(l:List V):Option (O×(Nat->V)):=some (.cells T 1 true false l,λl=> .ptr l 0)
abbrev P2 (I:Nat->TN)(B:(TN)->TN):Prop:=∀(k:Nat) (a b:V) (h:Hp),I k a b h->B (λa b h=>∃k',k' < k/\I k' a b h) a b h
theorem WA.l2 {a b:Nat}{d f:V}(I:Nat->TN)(B:(TN)->TN)(s:P2 I B)(g:I m d f h)(i:jt (ft C fn tb k ks Q).c=true:=by kernel_rfl)(j:(ft C fn tb k ks Q).ks=[]:=by kernel_rfl)
  (e:∀(K:TN) (ρ:fZ) (h:Hp),VA C fn.ntmps tb (jb C fn.ntmps tb {ft C fn tb k ks Q with ks:=[λρ h=>K (ρ a) (ρ b) h]} false) ρ h=B K (ρ a) (ρ b) h:=by intros;kernel_rfl):∀ρ:fZ,ρ a=d->ρ b=f->WA C fn tb k ks Q ρ h:=by
 rintro ρ rfl rfl;exact WA.loop (λk ρ h=>I k (ρ a) (ρ b) h) i j (λk ρ h hi=>LA.of (e (λd f h=>∃k',k' < k/\I k' d f h) ρ h) (s k (ρ a) (ρ b) h hi)) g
abbrev P3 (I:Nat->QB)(B:(QB)->QB):Prop:=∀(k:Nat) (a b c:V) (h:Hp),I k a b c h->B (λa b c h=>∃k',k' < k/\I k' a b c h) a b c h
theorem WA.l3 {a b d:Nat}{f i j:V}(I:Nat->QB)(B:(QB)->QB)(s:P3 I B)(g:I m f i j h)(l:jt (ft C fn tb k ks Q).c=true:=by kernel_rfl)(n:(ft C fn tb k ks Q).ks=[]:=by kernel_rfl)
  (e:∀(K:QB) (ρ:fZ) (h:Hp),VA C fn.ntmps tb (jb C fn.ntmps tb {ft C fn tb k ks Q with ks:=[λρ h=>K (ρ a) (ρ b) (ρ d) h]} false) ρ h=B K (ρ a) (ρ b) (ρ d) h:=by intros;kernel_rfl):∀ρ:fZ,ρ a=f->ρ b=i->ρ d=j->WA C fn tb k ks Q ρ h:=by
 rintro ρ rfl rfl rfl;exact WA.loop (λk ρ h=>I k (ρ a) (ρ b) (ρ d) h) l n (λk ρ h hi=>LA.of (e (λf i j h=>∃k',k' < k/\I k' f i j h) ρ h) (s k (ρ a) (ρ b) (ρ d) h hi)) g
abbrev P4 (I:Nat->Ix)(B:(Ix)->Ix):Prop:=∀(k:Nat) (a b c d:V) (h:Hp),I k a b c d h->B (λa b c d h=>∃k',k' < k/\I k' a b c d h) a b c d h
theorem WA.l4 {a b d f:Nat}{i j l n:V}(I:Nat->Ix)(B:(Ix)->Ix)(s:P4 I B)(g:I m i j l n h)(o:jt (ft C fn tb k ks Q).c=true:=by kernel_rfl)(p:(ft C fn tb k ks Q).ks=[]:=by kernel_rfl)
  (e:∀(K:Ix) (ρ:fZ) (h:Hp),VA C fn.ntmps tb (jb C fn.ntmps tb {ft C fn tb k ks Q with ks:=[λρ h=>K (ρ a) (ρ b) (ρ d) (ρ f) h]} false) ρ h=B K (ρ a) (ρ b) (ρ d) (ρ f) h:=by intros;kernel_rfl):∀ρ:fZ,ρ a=i->ρ b=j->ρ d=l->ρ f=n->WA C fn tb k ks Q ρ h:=by
 rintro ρ rfl rfl rfl rfl;exact WA.loop (λk ρ h=>I k (ρ a) (ρ b) (ρ d) (ρ f) h) o p (λk ρ h hi=>LA.of (e (λi j l n h=>∃k',k' < k/\I k' i j l n h) ρ h) (s k (ρ a) (ρ b) (ρ d) (ρ f) h hi)) g
abbrev P5 (I:Nat->GR)(B:(GR)->GR):Prop:=∀(k:Nat) (a b c d e:V) (h:Hp),I k a b c d e h->B (λa b c d e h=>∃k',k' < k/\I k' a b c d e h) a b c d e h
theorem WA.l5 {a b d f i5:Nat}{i j l n o:V}(I:Nat->GR)(B:(GR)->GR)(s:P5 I B)(g:I m i j l n o h)(p:jt (ft C fn tb k ks Q).c=true:=by kernel_rfl)(q:(ft C fn tb k ks Q).ks=[]:=by kernel_rfl)
  (e:∀(K:GR) (ρ:fZ) (h:Hp),VA C fn.ntmps tb (jb C fn.ntmps tb {ft C fn tb k ks Q with ks:=[λρ h=>K (ρ a) (ρ b) (ρ d) (ρ f) (ρ i5) h]} false) ρ h=B K (ρ a) (ρ b) (ρ d) (ρ f) (ρ i5) h:=by intros;kernel_rfl):∀ρ:fZ,ρ a=i->ρ b=j->ρ d=l->ρ f=n->ρ i5=o->WA C fn tb k ks Q ρ h:=by
 rintro ρ rfl rfl rfl rfl rfl;exact WA.loop (λk ρ h=>I k (ρ a) (ρ b) (ρ d) (ρ f) (ρ i5) h) p q (λk ρ h hi=>LA.of (e (λi j l n o h=>∃k',k' < k/\I k' i j l n o h) ρ h) (s k (ρ a) (ρ b) (ρ d) (ρ f) (ρ i5) h hi)) g
abbrev P6 (I:Nat->Mq)(B:(Mq)->Mq):Prop:=∀(k:Nat) (a b c d e f:V) (h:Hp),I k a b c d e f h->B (λa b c d e f h=>∃k',k' < k/\I k' a b c d e f h) a b c d e f h
theorem WA.l6 {a b d f i5 i6:Nat}{i j l n o p:V}(I:Nat->Mq)(B:(Mq)->Mq)(s:P6 I B)(g:I m i j l n o p h)(q:jt (ft C fn tb k ks Q).c=true:=by kernel_rfl)(r:(ft C fn tb k ks Q).ks=[]:=by kernel_rfl)
  (e:∀(K:Mq) (ρ:fZ) (h:Hp),VA C fn.ntmps tb (jb C fn.ntmps tb {ft C fn tb k ks Q with ks:=[λρ h=>K (ρ a) (ρ b) (ρ d) (ρ f) (ρ i5) (ρ i6) h]} false) ρ h=B K (ρ a) (ρ b) (ρ d) (ρ f) (ρ i5) (ρ i6) h:=by intros;kernel_rfl):∀ρ:fZ,ρ a=i->ρ b=j->ρ d=l->ρ f=n->ρ i5=o->ρ i6=p->WA C fn tb k ks Q ρ h:=by
 rintro ρ rfl rfl rfl rfl rfl rfl;exact WA.loop (λk ρ h=>I k (ρ a) (ρ b) (ρ d) (ρ f) (ρ i5) (ρ i6) h) q r (λk ρ h hi=>LA.of (e (λi j l n o p h=>∃k',k' < k/\I k' i j l n o p h) ρ h) (s k (ρ a) (ρ b) (ρ d) (ρ f) (ρ i5) (ρ i6) h hi)) g
abbrev P7 (I:Nat->NB)(B:(NB)->NB):Prop:=∀(k:Nat) (a b c d e f g:V) (h:Hp),I k a b c d e f g h->B (λa b c d e f g h=>∃k',k' < k/\I k' a b c d e f g h) a b c d e f g h
theorem WA.l7 {a b d f i5 i6 i:Nat}{j l n o p q r:V}(I:Nat->NB)(B:(NB)->NB)(s:P7 I B)(g:I m j l n o p q r h)(t:jt (ft C fn tb k ks Q).c=true:=by kernel_rfl)(u:(ft C fn tb k ks Q).ks=[]:=by kernel_rfl)
  (e:∀(K:NB) (ρ:fZ) (h:Hp),VA C fn.ntmps tb (jb C fn.ntmps tb {ft C fn tb k ks Q with ks:=[λρ h=>K (ρ a) (ρ b) (ρ d) (ρ f) (ρ i5) (ρ i6) (ρ i) h]} false) ρ h=B K (ρ a) (ρ b) (ρ d) (ρ f) (ρ i5) (ρ i6) (ρ i) h:=by intros;kernel_rfl):∀ρ:fZ,ρ a=j->ρ b=l->ρ d=n->ρ f=o->ρ i5=p->ρ i6=q->ρ i=r->WA C fn tb k ks Q ρ h:=by
 rintro ρ rfl rfl rfl rfl rfl rfl rfl;exact WA.loop (λk ρ h=>I k (ρ a) (ρ b) (ρ d) (ρ f) (ρ i5) (ρ i6) (ρ i) h) t u (λk ρ h hi=>LA.of (e (λj l n o p q r h=>∃k',k' < k/\I k' j l n o p q r h) ρ h) (s k (ρ a) (ρ b) (ρ d) (ρ f) (ρ i5) (ρ i6) (ρ i) h hi)) g
abbrev P8 (I:Nat->IV)(B:(IV)->IV):Prop:=∀(k:Nat) (a b c d e f g i:V) (h:Hp),I k a b c d e f g i h->B (λa b c d e f g i h=>∃k',k' < k/\I k' a b c d e f g i h) a b c d e f g i h
theorem WA.l8 {a b d f i5 i6 i j:Nat}{l n o p q r t u:V}(I:Nat->IV)(B:(IV)->IV)(s:P8 I B)(g:I m l n o p q r t u h)(v:jt (ft C fn tb k ks Q).c=true:=by kernel_rfl)(w:(ft C fn tb k ks Q).ks=[]:=by kernel_rfl)
  (e:∀(K:IV) (ρ:fZ) (h:Hp),VA C fn.ntmps tb (jb C fn.ntmps tb {ft C fn tb k ks Q with ks:=[λρ h=>K (ρ a) (ρ b) (ρ d) (ρ f) (ρ i5) (ρ i6) (ρ i) (ρ j) h]} false) ρ h=B K (ρ a) (ρ b) (ρ d) (ρ f) (ρ i5) (ρ i6) (ρ i) (ρ j) h:=by intros;kernel_rfl):∀ρ:fZ,ρ a=l->ρ b=n->ρ d=o->ρ f=p->ρ i5=q->ρ i6=r->ρ i=t->ρ j=u->WA C fn tb k ks Q ρ h:=by
 rintro ρ rfl rfl rfl rfl rfl rfl rfl rfl;exact WA.loop (λk ρ h=>I k (ρ a) (ρ b) (ρ d) (ρ f) (ρ i5) (ρ i6) (ρ i) (ρ j) h) v w (λk ρ h hi=>LA.of (e (λl n o p q r t u h=>∃k',k' < k/\I k' l n o p q r t u h) ρ h) (s k (ρ a) (ρ b) (ρ d) (ρ f) (ρ i5) (ρ i6) (ρ i) (ρ j) h hi)) g
abbrev P9 (I:Nat->U5)(B:(U5)->U5):Prop:=∀(k:Nat) (a b c d e f g i j:V) (h:Hp),I k a b c d e f g i j h->B (λa b c d e f g i j h=>∃k',k' < k/\I k' a b c d e f g i j h) a b c d e f g i j h
theorem WA.l9 {a b d f i5 i6 i j l:Nat}{n o p q r t u v w:V}(I:Nat->U5)(B:(U5)->U5)(s:P9 I B)(g:I m n o p q r t u v w h)(x:jt (ft C fn tb k ks Q).c=true:=by kernel_rfl)(y:(ft C fn tb k ks Q).ks=[]:=by kernel_rfl)
  (e:∀(K:U5) (ρ:fZ) (h:Hp),VA C fn.ntmps tb (jb C fn.ntmps tb {ft C fn tb k ks Q with ks:=[λρ h=>K (ρ a) (ρ b) (ρ d) (ρ f) (ρ i5) (ρ i6) (ρ i) (ρ j) (ρ l) h]} false) ρ h=B K (ρ a) (ρ b) (ρ d) (ρ f) (ρ i5) (ρ i6) (ρ i) (ρ j) (ρ l) h:=by intros;kernel_rfl):∀ρ:fZ,ρ a=n->ρ b=o->ρ d=p->ρ f=q->ρ i5=r->ρ i6=t->ρ i=u->ρ j=v->ρ l=w->WA C fn tb k ks Q ρ h:=by
 rintro ρ rfl rfl rfl rfl rfl rfl rfl rfl rfl;exact WA.loop (λk ρ h=>I k (ρ a) (ρ b) (ρ d) (ρ f) (ρ i5) (ρ i6) (ρ i) (ρ j) (ρ l) h) x y (λk ρ h hi=>LA.of (e (λn o p q r t u v w h=>∃k',k' < k/\I k' n o p q r t u v w h) ρ h) (s k (ρ a) (ρ b) (ρ d) (ρ f) (ρ i5) (ρ i6) (ρ i) (ρ j) (ρ l) h hi)) g
abbrev P10 (I:Nat->HY)(B:(HY)->HY):Prop:=∀(k:Nat) (b c d e f g i j l a:V) (h:Hp),I k b c d e f g i j l a h->B (λb c d e f g i j l a h=>∃k',k' < k/\I k' b c d e f g i j l a h) b c d e f g i j l a h
theorem WA.Zl {d f i j i5 i6 l n o a:Nat}{p q r t u v w x y b:V}(I:Nat->HY)(B:(HY)->HY)(s:P10 I B)(g:I m p q r t u v w x y b h)(z:jt (ft C fn tb k ks Q).c=true:=by kernel_rfl)(A:(ft C fn tb k ks Q).ks=[]:=by kernel_rfl)
  (e:∀(K:HY) (ρ:fZ) (h:Hp),VA C fn.ntmps tb (jb C fn.ntmps tb {ft C fn tb k ks Q with ks:=[λρ h=>K (ρ d) (ρ f) (ρ i) (ρ j) (ρ i5) (ρ i6) (ρ l) (ρ n) (ρ o) (ρ a) h]} false) ρ h=B K (ρ d) (ρ f) (ρ i) (ρ j) (ρ i5) (ρ i6) (ρ l) (ρ n) (ρ o) (ρ a) h:=by intros;kernel_rfl):∀ρ:fZ,ρ d=p->ρ f=q->ρ i=r->ρ j=t->ρ i5=u->ρ i6=v->ρ l=w->ρ n=x->ρ o=y->ρ a=b->WA C fn tb k ks Q ρ h:=by
 rintro ρ rfl rfl rfl rfl rfl rfl rfl rfl rfl rfl;exact WA.loop (λk ρ h=>I k (ρ d) (ρ f) (ρ i) (ρ j) (ρ i5) (ρ i6) (ρ l) (ρ n) (ρ o) (ρ a) h) z A (λk ρ h hi=>LA.of (e (λp q r t u v w x y b h=>∃k',k' < k/\I k' p q r t u v w x y b h) ρ h) (s k (ρ d) (ρ f) (ρ i) (ρ j) (ρ i5) (ρ i6) (ρ l) (ρ n) (ρ o) (ρ a) h hi)) g
abbrev P11 (I:Nat->CA)(B:(CA)->CA):Prop:=∀(k:Nat) (c d e f g i j l m a b:V) (h:Hp),I k c d e f g i j l m a b h->B (λc d e f g i j l m a b h=>∃k',k' < k/\I k' c d e f g i j l m a b h) c d e f g i j l m a b h
theorem WA.l11 {i j l n i5 i6 o p q a b:Nat}{r t u v w x y z A d f:V}(I:Nat->CA)(B:(CA)->CA)(s:P11 I B)(g:I m r t u v w x y z A d f h)(D:jt (ft C fn tb k ks Q).c=true:=by kernel_rfl)(E:(ft C fn tb k ks Q).ks=[]:=by kernel_rfl)
  (e:∀(K:CA) (ρ:fZ) (h:Hp),VA C fn.ntmps tb (jb C fn.ntmps tb {ft C fn tb k ks Q with ks:=[λρ h=>K (ρ i) (ρ j) (ρ l) (ρ n) (ρ i5) (ρ i6) (ρ o) (ρ p) (ρ q) (ρ a) (ρ b) h]} false) ρ h=B K (ρ i) (ρ j) (ρ l) (ρ n) (ρ i5) (ρ i6) (ρ o) (ρ p) (ρ q) (ρ a) (ρ b) h:=by intros;kernel_rfl):∀ρ:fZ,ρ i=r->ρ j=t->ρ l=u->ρ n=v->ρ i5=w->ρ i6=x->ρ o=y->ρ p=z->ρ q=A->ρ a=d->ρ b=f->WA C fn tb k ks Q ρ h:=by
 rintro ρ rfl rfl rfl rfl rfl rfl rfl rfl rfl rfl rfl;exact WA.loop (λk ρ h=>I k (ρ i) (ρ j) (ρ l) (ρ n) (ρ i5) (ρ i6) (ρ o) (ρ p) (ρ q) (ρ a) (ρ b) h) D E (λk ρ h hi=>LA.of (e (λr t u v w x y z A d f h=>∃k',k' < k/\I k' r t u v w x y z A d f h) ρ h) (s k (ρ i) (ρ j) (ρ l) (ρ n) (ρ i5) (ρ i6) (ρ o) (ρ p) (ρ q) (ρ a) (ρ b) h hi)) g
abbrev P12 (I:Nat->JT)(B:(JT)->JT):Prop:=∀(k:Nat) (d e f g i j l m n a b c:V) (h:Hp),I k d e f g i j l m n a b c h->B (λd e f g i j l m n a b c h=>∃k',k' < k/\I k' d e f g i j l m n a b c h) d e f g i j l m n a b c h
theorem WA.l12 {l n o p i5 i6 q r t a b d:Nat}{u v w x y z A D E f i j:V}(I:Nat->JT)(B:(JT)->JT)(s:P12 I B)(g:I m u v w x y z A D E f i j h)(F:jt (ft C fn tb k ks Q).c=true:=by kernel_rfl)(G:(ft C fn tb k ks Q).ks=[]:=by kernel_rfl)
  (e:∀(K:JT) (ρ:fZ) (h:Hp),VA C fn.ntmps tb (jb C fn.ntmps tb {ft C fn tb k ks Q with ks:=[λρ h=>K (ρ l) (ρ n) (ρ o) (ρ p) (ρ i5) (ρ i6) (ρ q) (ρ r) (ρ t) (ρ a) (ρ b) (ρ d) h]} false) ρ h=B K (ρ l) (ρ n) (ρ o) (ρ p) (ρ i5) (ρ i6) (ρ q) (ρ r) (ρ t) (ρ a) (ρ b) (ρ d) h:=by intros;kernel_rfl):∀ρ:fZ,ρ l=u->ρ n=v->ρ o=w->ρ p=x->ρ i5=y->ρ i6=z->ρ q=A->ρ r=D->ρ t=E->ρ a=f->ρ b=i->ρ d=j->WA C fn tb k ks Q ρ h:=by
 rintro ρ rfl rfl rfl rfl rfl rfl rfl rfl rfl rfl rfl rfl;exact WA.loop (λk ρ h=>I k (ρ l) (ρ n) (ρ o) (ρ p) (ρ i5) (ρ i6) (ρ q) (ρ r) (ρ t) (ρ a) (ρ b) (ρ d) h) F G (λk ρ h hi=>LA.of (e (λu v w x y z A D E f i j h=>∃k',k' < k/\I k' u v w x y z A D E f i j h) ρ h) (s k (ρ l) (ρ n) (ρ o) (ρ p) (ρ i5) (ρ i6) (ρ q) (ρ r) (ρ t) (ρ a) (ρ b) (ρ d) h hi)) g
abbrev P13 (I:Nat->Fv)(B:(Fv)->Fv):Prop:=∀(k:Nat) (e f g i j l m n o a b c d:V) (h:Hp),I k e f g i j l m n o a b c d h->B (λe f g i j l m n o a b c d h=>∃k',k' < k/\I k' e f g i j l m n o a b c d h) e f g i j l m n o a b c d h
theorem WA.l13 {o p q r i5 i6 t u v a b d f:Nat}{w x y z A D E F G i j l n:V}(I:Nat->Fv)(B:(Fv)->Fv)(s:P13 I B)(g:I m w x y z A D E F G i j l n h)(H:jt (ft C fn tb k ks Q).c=true:=by kernel_rfl)(J:(ft C fn tb k ks Q).ks=[]:=by kernel_rfl)
  (e:∀(K:Fv) (ρ:fZ) (h:Hp),VA C fn.ntmps tb (jb C fn.ntmps tb {ft C fn tb k ks Q with ks:=[λρ h=>K (ρ o) (ρ p) (ρ q) (ρ r) (ρ i5) (ρ i6) (ρ t) (ρ u) (ρ v) (ρ a) (ρ b) (ρ d) (ρ f) h]} false) ρ h=B K (ρ o) (ρ p) (ρ q) (ρ r) (ρ i5) (ρ i6) (ρ t) (ρ u) (ρ v) (ρ a) (ρ b) (ρ d) (ρ f) h:=by intros;kernel_rfl):∀ρ:fZ,ρ o=w->ρ p=x->ρ q=y->ρ r=z->ρ i5=A->ρ i6=D->ρ t=E->ρ u=F->ρ v=G->ρ a=i->ρ b=j->ρ d=l->ρ f=n->WA C fn tb k ks Q ρ h:=by
 rintro ρ rfl rfl rfl rfl rfl rfl rfl rfl rfl rfl rfl rfl rfl;exact WA.loop (λk ρ h=>I k (ρ o) (ρ p) (ρ q) (ρ r) (ρ i5) (ρ i6) (ρ t) (ρ u) (ρ v) (ρ a) (ρ b) (ρ d) (ρ f) h) H J (λk ρ h hi=>LA.of (e (λw x y z A D E F G i j l n h=>∃k',k' < k/\I k' w x y z A D E F G i j l n h) ρ h) (s k (ρ o) (ρ p) (ρ q) (ρ r) (ρ i5) (ρ i6) (ρ t) (ρ u) (ρ v) (ρ a) (ρ b) (ρ d) (ρ f) h hi)) g
abbrev P14 (I:Nat->J9)(B:(J9)->J9):Prop:=∀(k:Nat) (f g i j l m n o p a b c d e:V) (h:Hp),I k f g i j l m n o p a b c d e h->B (λf g i j l m n o p a b c d e h=>∃k',k' < k/\I k' f g i j l m n o p a b c d e h) f g i j l m n o p a b c d e h
theorem WA.l14 {q r t u i5 i6 v w x a b d f i:Nat}{y z A D E F G H J j l n o p:V}(I:Nat->J9)(B:(J9)->J9)(s:P14 I B)(g:I m y z A D E F G H J j l n o p h)(L:jt (ft C fn tb k ks Q).c=true:=by kernel_rfl)(M:(ft C fn tb k ks Q).ks=[]:=by kernel_rfl)
  (e:∀(K:J9) (ρ:fZ) (h:Hp),VA C fn.ntmps tb (jb C fn.ntmps tb {ft C fn tb k ks Q with ks:=[λρ h=>K (ρ q) (ρ r) (ρ t) (ρ u) (ρ i5) (ρ i6) (ρ v) (ρ w) (ρ x) (ρ a) (ρ b) (ρ d) (ρ f) (ρ i) h]} false) ρ h=B K (ρ q) (ρ r) (ρ t) (ρ u) (ρ i5) (ρ i6) (ρ v) (ρ w) (ρ x) (ρ a) (ρ b) (ρ d) (ρ f) (ρ i) h:=by intros;kernel_rfl):∀ρ:fZ,ρ q=y->ρ r=z->ρ t=A->ρ u=D->ρ i5=E->ρ i6=F->ρ v=G->ρ w=H->ρ x=J->ρ a=j->ρ b=l->ρ d=n->ρ f=o->ρ i=p->WA C fn tb k ks Q ρ h:=by
 rintro ρ rfl rfl rfl rfl rfl rfl rfl rfl rfl rfl rfl rfl rfl rfl;exact WA.loop (λk ρ h=>I k (ρ q) (ρ r) (ρ t) (ρ u) (ρ i5) (ρ i6) (ρ v) (ρ w) (ρ x) (ρ a) (ρ b) (ρ d) (ρ f) (ρ i) h) L M (λk ρ h hi=>LA.of (e (λy z A D E F G H J j l n o p h=>∃k',k' < k/\I k' y z A D E F G H J j l n o p h) ρ h) (s k (ρ q) (ρ r) (ρ t) (ρ u) (ρ i5) (ρ i6) (ρ v) (ρ w) (ρ x) (ρ a) (ρ b) (ρ d) (ρ f) (ρ i) h hi)) g
end
