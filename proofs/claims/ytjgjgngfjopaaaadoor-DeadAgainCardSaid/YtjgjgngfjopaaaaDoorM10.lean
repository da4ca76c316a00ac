/- Parts. -/
import Derived.Test.YtjgjgngfjopaaaaDoorM09
namespace Go.Proofs.YtjgjgngfjopaaaaDoor.Hx
abbrev XQ:=X->gB->Hp->Prop
abbrev fy:=V->Hp->Prop
abbrev QP2:=V->V->Hp->Prop
abbrev Rj:=V->V->V->Hp->Prop
abbrev Ku:=V->V->V->V->Hp->Prop
abbrev Jg:=V->V->V->V->V->Hp->Prop
abbrev Pd:=V->V->V->V->V->V->Hp->Prop
abbrev Pk:=V->V->V->V->V->V->V->Hp->Prop
abbrev KP:=V->V->V->V->V->V->V->V->Hp->Prop
abbrev QP9:=V->V->V->V->V->V->V->V->V->Hp->Prop
abbrev JX:=V->V->V->V->V->V->V->V->V->V->Hp->Prop
abbrev EO:=V->V->V->V->V->V->V->V->V->V->V->Hp->Prop
abbrev Zk:=V->V->V->V->V->V->V->V->V->V->V->V->Hp->Prop
abbrev Hn:=V->V->V->V->V->V->V->V->V->V->V->V->V->Hp->Prop
abbrev ZF:=V->V->V->V->V->V->V->V->V->V->V->V->V->V->Hp->Prop
abbrev zcp:=V->V->V->V->V->V->V->V->V->V->V->V->V->V->V->Hp->Prop
abbrev zaT:=V->V->V->V->V->V->V->V->V->V->V->V->V->V->V->V->V->Hp->Prop
abbrev za5:=V->V->V->V->V->V->V->V->V->V->V->V->V->V->V->V->V->V->Hp->Prop
def isVal(o:Oper):Bool:=match o.op with
 | .move x| .assign x=>OJ x
 | .makeFunc _ _ _=>true
 | .makeInterface _ x=>OJ x
 |_=>false
theorem Uu{o:Oper} (h:isVal o=true):cls o=0:=by
 unfold isVal at h;unfold cls;split at h <;> simp_all
def opV(C:fu) (o:Oper) (K:V->gB->Hp->Prop):gB->Hp->Prop:=match isVal o with
 |true=>λρ h=>Option.rec (motive:=λ_=>Prop) False (λv=>K v ρ h) ((iK o).f (.fn ρ []) h)
 |false=>Po C o K
theorem zaW(C:fu) (o:Oper) (K:V->gB->Hp->Prop):opV C o K=Po C o K:=by
 unfold opV
 cases hv:isVal o with
 |false=>rfl
 | true=>
   unfold Po;rw[Uu hv];rfl
def SY(C:fu) (n:Nat) (all:List Oper) (o:Oper) (K:gB->Hp->Prop):gB->Hp->Prop:=match zB o with
 |some _=>λ_ _=>False
 | none=>match kO n all o with
   |none=>opV C o (oR n o K)
   |some g=>λρ h=>oP (g.f (.fn ρ [])) λb=>X7 C o b (oR n o K) ρ h
noncomputable section
inductive Gs where
 |last (o:Oper) (d:Nat)
 |op (o:Oper) (d:Nat) (a:Gs)
 |nest (w:Bool) (d:Nat) (sub:Gs) (o:Oper) (b:Nat) (a:Gs)
 |E4 (w:Bool) (d:Nat) (sub:Gs) (o:Oper) (b:Nat)
def Gs.dst:Gs->Nat
 | .last _ d=>d
 | .op _ _ r=>r.dst
 | .nest _ _ _ _ _ r=>r.dst
 | .E4 _ _ _ _ a=>a
def Gs.ops:Gs->List Oper
 | .last o _=>[o]
 | .op o _ r=>o::r.ops
 | .nest _ _ s o _ r=>s.ops++o::r.ops
 | .E4 _ _ s o _=>s.ops++[o]
def gA(w:Bool) (c:V) (x:Option V):Option V:=match w with
 |true=>jZ c x
 |false=>oD c x
def O9(b:Bool)(x:Option V):V:=Bool.rec (motive:=λ_=>V) V.undef (Option.rec (motive:=λ_=>V) V.undef (λv=>v) x) b
def Ob(w:Bool)(v:V):Bool:=Option.rec (motive:=λ_=>Bool) false (λb=>b) (fx w v)
noncomputable def AJ(g:Gs):Bool->gB->Hp->gB:=Gs.rec (motive:=λ_=>Bool->gB->Hp->gB) (λo d b ρ h=>fh ρ d (O9 b ((iK o).f (.fn ρ []) h))) (λo d _ c b ρ h=>c b (fh ρ d (O9 b ((iK o).f (.fn ρ []) h))) h) (λw d _ o e _ a c b ρ h=>c b (fh (a (Ob w (ρ d)) ρ h) e (O9 b ((iK o).f (.fn (a (Ob w (ρ d)) ρ h) []) h))) h) (λw d _ o e a b ρ h=>fh (a (Ob w (ρ d)) ρ h) e (O9 b ((iK o).f (.fn (a (Ob w (ρ d)) ρ h) []) h))) g
noncomputable def gE(g:Gs):gB->Hp->Option V:=Gs.rec (motive:=λ_=>gB->Hp->Option V) (λo _ ρ h=>(iK o).f (.fn ρ []) h) (λo d _ b ρ h=>oB ((iK o).f (.fn ρ []) h) λv=>b (fh ρ d v) h) (λw d sub _ c _ a b ρ h=>oB (gA w (ρ d) (a ρ h)) λv=>b (fh (AJ sub (Ob w (ρ d)) ρ h) c v) h) (λw d _ _ _ a ρ h=>gA w (ρ d) (a ρ h)) g
def Qw(x:Operand) (d:Nat):Bool:=match x with
 | .tmp i=>Nat.beq i d
 |_=>false
def Y7(x:Operand) (b:Bool):Bool:=match x with
 | .const v=>match mr 8 v with
   |some (.bool c)=>c == b
   |_=>false
 |_=>false
def PG(o:Oper) (w:Bool) (d x:Nat):Bool:=match o.op with
 | .pick c a b=>Qw c d&&(match w with
   |true=>Qw a x&&Y7 b false
   |false=>Qw b x&&Y7 a true)
 |_=>false
def dOk(n:Nat) (o:Oper) (d:Nat):Bool:=match o.dst with
 |some a=>Nat.beq a d&&Nat.blt d n
 |none=>false
def Wx(n:Nat) (all:List Oper) (o:Oper) (w:Bool) (d:Nat):Bool:=match o.guard with
 | some (j,w')=>(w' == w)&&(match all[j]? with
   |some a=>dOk n a d
   |none=>false)
 |none=>false
def Ox(n:Nat)(all:List Oper)(av:List Nat)(w:Bool)(d:Nat)(o:Oper)(a:Nat):Bool:=Nat.beq (cls o) 0&&Wx n all o w d&&dOk n o a&&av.all (λi=>!(Nat.beq i a))
def Vy(n:Nat) (all:List Oper):List Nat->Bool->Nat->List Nat->Gs->Bool
 |av,w,d,_,.last o a=>Ox n all av w d o a
 |av,w,d,ins,.op o a r=>Ox n all av w d o a&&Vy n all av w d (a::ins) r
 |av,w,d,ins,.nest w' a s o b r=>ins.any (λi=>Nat.beq i a)&&Vy n all (a::av) w' a [] s&&Ox n all av w d o b&&PG o w' a s.dst&&Vy n all av w d (b::ins) r
 |av,w,d,ins, .E4 w' a s o b=>ins.any (λi=>Nat.beq i a)&&Vy n all (a::av) w' a [] s&&Ox n all av w d o b&&PG o w' a s.dst
def Ch(n:Nat) (all:List Oper) (h:Hp):List Oper->gB->gB->Prop
 |[],ρ,ρ'=>ρ' = ρ
 | o::os,ρ,ρ'=>cls o=0/\∃d v,o.dst=some d/\Nat.blt d n=true/\((kO n all o=none/\(iK o).f (.fn ρ []) h=some v)\/
   ∃g b,kO n all o=some g/\g.f (.fn ρ [])=some b/\gV b ((iK o).f (.fn ρ []) h)=some v)/\Ch n all h os (fh ρ d v) ρ'
theorem Ch.app{n:Nat} {all:List Oper} {h:Hp}:∀{os a:List Oper} {ρ e f:gB},Ch n all h os ρ e->Ch n all h a e f->Ch n all h (os++a) ρ f
 |[],_,_,_,_,b,c=>by cases b;exact c
 |_::_,_,_,_,_,⟨hc,d,v,b,c,g,i⟩,j=>⟨hc,d,v,b,c,g,i.app j⟩
theorem K0(ρ:gB)(d:Nat)(v:V):fh ρ d v d=v:=Uo ρ d v
theorem WG{n:Nat} {all:List Oper} {o:Oper} {w:Bool} {d:Nat} (a:Wx n all o w d=true):∃g,kO n all o=some g/\∀ρ:gB,g.f (.fn ρ [])=fx w (ρ d):=by
 unfold Wx at a;split at a
 ·rename_i j w' b;simp only[uZ,z8]at a;obtain⟨e,a⟩:=a;subst e;split at a
  ·rename_i l h;unfold dOk at a;split at a
   ·rename_i m i;simp only[uZ]at a;obtain⟨c,k⟩:=a;have c:=vK c;subst c;refine⟨_,by simp only[kO,b,h,i,k];rfl,λρ=>rfl⟩
   ·exact absurd a (by decide)
  ·exact absurd a (by decide)
 ·exact absurd a (by decide)
theorem Ti{n:Nat} {all:List Oper} {av:List Nat} {w:Bool} {d:Nat} {o:Oper} {b:Nat} (c:Ox n all av w d o b=true) :
  cls o=0/\(∃g,kO n all o=some g/\∀ρ:gB,g.f (.fn ρ [])=fx w (ρ d))/\o.dst=some b/\Nat.blt b n=true/\∀i∈av,i≠b:=by
 unfold Ox at c;simp only[uZ]at c;obtain⟨⟨⟨h,j⟩,a⟩,k⟩:=c;refine⟨vK h,WG j,?_⟩;unfold dOk at a;split at a
 ·rename_i l m;simp only[uZ]at a;have e:=vK a.1;subst e;refine⟨m,a.2,λi hi e=>?_⟩;have:=MT.1 k i hi;rw[e,QN]at this;exact absurd this (by decide)
 ·exact absurd a (by decide)
theorem L4{x:Operand} {d:Nat} (h:Qw x d=true):x = .tmp d:=by
 unfold Qw at h;split at h
 ·rw[vK h]
 ·exact absurd h (by decide)
theorem Te{x:Operand} {b:Bool} (a:Y7 x b=true) (t:Tm) (h:Hp):(sR x).f t h=some (.bool b):=by
 unfold Y7 at a;split at a
 ·rename_i v;split at a
  ·rename_i c hc;have e:c=b:=by simpa using a
   subst e;show(MV (.const v)).f t=_;simp only[MV,hc]
  ·exact absurd a (by decide)
 ·exact absurd a (by decide)
theorem TX{o:Oper} {w:Bool} {d x:Nat} (hp:PG o w d x=true) {ρ:gB} {h:Hp} {c:Bool} (hc:ρ d = .bool c):(iK o).f (.fn ρ []) h=some (match w,c with
  |true,true=>ρ x
  |true,false=> .bool false
  |false,false=>ρ x
  |false,true=> .bool true)/\cls o=0:=by
 unfold PG at hp;split at hp
 ·rename_i c' a b g;simp only[uZ]at hp;obtain⟨j,e⟩:=hp;have k:=L4 j;subst k;refine⟨?_,by unfold cls;rw[g]⟩;have e0:(sR (.tmp d)).f (.fn ρ []) h=some (.bool c):=by show some (ρ d)=_;rw[hc]
  unfold iK;rw[g];simp only[Kv,e0,oB]
  cases w with
  | true=>
    simp only[uZ]at e;have i:=L4 e.1;subst i
    cases c with
    |true=>rfl
    |false=>exact Te e.2 _ _
  | false=>
    simp only[uZ]at e;have i:=L4 e.1;subst i
    cases c with
    |true=>exact Te e.2 _ _
    |false=>rfl
 ·exact absurd hp (by decide)
theorem TU{w:Bool} {c:V} {x:Option V} {v:V} (a:gA w c x=some v):∃b,c = .bool b/\fx w c=some (b == w)/\((b=w/\x=some v)\/(b≠w/\v = .bool (!w))):=by
 unfold gA at a
 cases w with
 | true=>
   simp only[jZ]at a;split at a
   ·cases a;exact⟨false,rfl,rfl,.inr ⟨by decide,rfl⟩⟩
   ·exact⟨true,rfl,rfl,.inl ⟨rfl,a⟩⟩
   ·cases a
 | false=>
   simp only[oD]at a;split at a
   ·cases a;exact⟨true,rfl,rfl,.inr ⟨by decide,rfl⟩⟩
   ·exact⟨false,rfl,rfl,.inl ⟨rfl,a⟩⟩
   ·cases a
theorem Qf(ρ:gB){d i:Nat}(v:V)(h:i≠d):fh ρ d v i=ρ i:=YF ρ v h
theorem Ch.one{n:Nat} {all:List Oper} {av:List Nat} {w:Bool} {d:Nat} {o:Oper} {a:Nat} (c:Ox n all av w d o a=true) {ρ:gB} {h:Hp} {b:Bool} (e:fx w (ρ d)=some b) {v:V}
  (hv:gV b ((iK o).f (.fn ρ []) h)=some v):Ch n all h [o] ρ (fh ρ a v):=by
 obtain⟨i,⟨g,j,k⟩,l,m,p⟩:=Ti c;exact⟨i,a,v,l,m,.inr ⟨g,b,j,by rw[k,e],hv⟩,rfl⟩
theorem K6{b:Bool} {x:Option V} {v:V} (h:gV b x=some v):O9 b x=v:=by
 cases b with
 |true=>have h':x=some v:=h;subst h';rfl
 |false=>cases h;rfl
def Qk(n:Nat) (all:List Oper) (av:List Nat) (os:List Oper) (b:Bool) (ρ a:gB) (h:Hp) (d:Nat) (x:V):Prop:=Ch n all h os ρ a/\a d=x/\(∀i∈av,a i=ρ i)/\(b=false->∀i,ρ i = .undef->a i = .undef)
theorem Qk.one{n:Nat} {all:List Oper} {av:List Nat} {w:Bool} {d:Nat} {o:Oper} {a:Nat} (c:Ox n all av w d o a=true) {ρ:gB} {h:Hp} {b:Bool} (g:fx w (ρ d)=some b) {v:V}
  (hv:gV b ((iK o).f (.fn ρ []) h)=some v):Qk n all av [o] b ρ (fh ρ a v) h a v:=by
 obtain⟨_,_,_,_,j⟩:=Ti c;refine⟨Ch.one c g hv,K0 _ _ _,λi hi=>Qf _ _ (j i hi),λe i hi=>?_⟩;subst e;cases hv;by_cases e:i=a
 ·subst e;exact K0 _ _ _
 ·rw[Qf _ _ e];exact hi
theorem Qk.trans{n:Nat} {all:List Oper} {av:List Nat} {os a:List Oper} {b:Bool} {ρ g j:gB} {h:Hp} {d k:Nat} {x l:V} (f:Qk n all av os b ρ g h d x) (c:Qk n all av a b g j h k l):Qk n all av (os++a) b ρ j h k l:=
 ⟨f.1.app c.1,c.2.1,λi hi=>(c.2.2.1 i hi).trans (f.2.2.1 i hi),λe i hi=>c.2.2.2 e i (f.2.2.2 e i hi)⟩
theorem UT{n:Nat} {all:List Oper}:∀(g:Gs) {av:List Nat} {w:Bool} {d:Nat} {k:List Nat},Vy n all av w d k g=true->d∈av->∀{ρ:gB} {h:Hp} {b:Bool},fx w (ρ d)=some b->
  (b=false->∀i∈k,ρ i = .undef)->∀{x:V},gV b (gE g ρ h)=some x->Qk n all av g.ops b ρ (AJ g b ρ h) h g.dst x:=by
 have nest:∀(s:Gs),(∀{av:List Nat} {w:Bool} {d:Nat} {k:List Nat},Vy n all av w d k s=true->d∈av->∀{ρ:gB} {h:Hp} {b:Bool},fx w (ρ d)=some b->
    (b=false->∀i∈k,ρ i = .undef)->∀{x:V},gV b (gE s ρ h)=some x->Qk n all av s.ops b ρ (AJ s b ρ h) h s.dst x)->
   ∀{av:List Nat} {w w':Bool} {d l z:Nat} {k:List Nat} {o:Oper},k.any (λi=>Nat.beq i l)=true->Vy n all (l::av) w' l [] s=true->Ox n all av w d o z=true->PG o w' l s.dst=true->d∈av->
   ∀{ρ:gB} {h:Hp} {b:Bool},fx w (ρ d)=some b->(b=false->∀i∈k,ρ i = .undef)->∀{v:V},gV b (gA w' (ρ l) (gE s ρ h))=some v->
   gV b ((iK o).f (.fn (AJ s (Ob w' (ρ l)) ρ h) []) h)=some v/\Qk n all av (s.ops++[o]) b ρ (fh (AJ s (Ob w' (ρ l)) ρ h) z v) h z v:=by
  intro s I av w w' d l z k o M hc Y hp p ρ h b q hi v hv;obtain⟨i,N,O⟩:=List.any_eq_true.1 M;have e:=vK O;subst e
  cases b with
  | true=>
    obtain⟨c,P,J,e3⟩:=TU (show gA w' (ρ i) (gE s ρ h)=some v from hv);have Q:Ob w' (ρ i)=(c == w'):=by unfold Ob;rw[J]
    rw[Q];obtain⟨y,Z⟩:∃y,gV (c == w') (gE s ρ h)=some y/\(c=w'->y=v):=by
      rcases e3 with⟨B,K⟩|⟨B,K⟩
      ·subst B;rw[beq_self_eq_true];exact⟨v,K,λ_=>rfl⟩
      ·have:(c == w')=false:=by simp[B]
       rw[this];exact⟨.undef,rfl,λe=>absurd e B⟩
    obtain⟨R,k2,k3,k4⟩:=I hc (US ..) J (λ_ j t=>nomatch t) Z.1;have S:AJ s (c == w') ρ h i = .bool c:=by rw[k3 i (US ..)];exact P
    have T:=(TX hp (h:=h) S).1;have C:(iK o).f (.fn (AJ s (c == w') ρ h) []) h=some v:=by
      rw[T,k2];rcases e3 with⟨B,K⟩|⟨B,K⟩
      ·subst B;rw[Z.2 rfl];cases c <;> rfl
      ·subst K;cases c <;> cases w' <;> first|rfl|exact absurd rfl B
    refine⟨C,?_⟩;have a:=Qk.one Y (ρ:=AJ s (c == w') ρ h) (h:=h) (b:=true) (by rw[k3 d (Ud _ p)];exact q) (v:=v) C
    refine⟨R.app a.1,a.2.1,λj t=>(a.2.2.1 j t).trans (k3 j (Ud _ t)),λe=>nomatch e⟩
  | false=>
    have P:ρ i = .undef:=hi rfl i N;have J:fx w' (ρ i)=some false:=by rw[P];rfl
    have Q:Ob w' (ρ i)=false:=by unfold Ob;rw[J]
    rw[Q];cases hv;obtain⟨R,k2,k3,k4⟩:=I hc (US ..) J (λ_ j t=>nomatch t) (x:= .undef) rfl;refine⟨rfl,?_⟩;have a:=Qk.one Y (ρ:=AJ s false ρ h) (h:=h) (b:=false) (by rw[k3 d (Ud _ p)];exact q) (v:= .undef) rfl;exact⟨R.app a.1,a.2.1,λj t=>(a.2.2.1 j t).trans (k3 j (Ud _ t)),λe j t=>a.2.2.2 e j (k4 rfl j t)⟩
 intro g
 induction g with
 | last o l=>
   intro av w d k u p ρ h b q hi x A;have m:gV b ((iK o).f (.fn ρ []) h)=some x:=A;show Qk n all av [o] b ρ (fh ρ l (O9 b ((iK o).f (.fn ρ []) h))) h l x;rw[K6 m]
   exact Qk.one u q m
 | op o l r I=>
   intro av w d k u p ρ h b q hi x A;simp only[Vy,uZ]at u;obtain⟨v,hv,m⟩:∃v,gV b ((iK o).f (.fn ρ []) h)=some v/\gV b (gE r (fh ρ l v) h)=some x:=by
     cases b with
     | true=>
       obtain⟨v,D,E⟩:=ft.1 (show oB ((iK o).f (.fn ρ []) h) _=some x from A)
       exact⟨v,D,E⟩
     |false=>cases A;exact⟨.undef,rfl,rfl⟩
   have a:=Qk.one u.1 q hv;show Qk n all av ([o]++r.ops) b ρ (AJ r b (fh ρ l (O9 b ((iK o).f (.fn ρ []) h))) h) h r.dst x;rw[K6 hv];refine a.trans (I u.2 p (by rw[a.2.2.1 d p];exact q) ?_ m);intro e i F;rcases Jq.1 F with G|G
   ·subst G;subst e;cases hv;exact K0 _ _ _
   ·exact a.2.2.2 e i (hi e i G)
 | nest w' l s o z r H I=>
   intro av w d k u p ρ h b q hi x A;simp only[Vy,uZ]at u;obtain⟨⟨⟨⟨D,E⟩,U⟩,W⟩,h5⟩:=u;obtain⟨v,hv,m⟩:∃v,gV b (gA w' (ρ l) (gE s ρ h))=some v/\gV b (gE r (fh (AJ s (Ob w' (ρ l)) ρ h) z v) h)=some x:=by
     cases b with
     | true=>
       obtain⟨v,D,E⟩:=ft.1 (show oB (gA w' (ρ l) (gE s ρ h)) _=some x from A)
       exact⟨v,D,E⟩
     |false=>cases A;exact⟨.undef,rfl,rfl⟩
   obtain⟨X,L⟩:=nest s H D E U W p q hi hv;show Qk n all av (s.ops++([o]++r.ops)) b ρ (AJ r b (fh (AJ s (Ob w' (ρ l)) ρ h) z (O9 b ((iK o).f (.fn (AJ s (Ob w' (ρ l)) ρ h) []) h))) h) h r.dst x;rw[K6 X,<-Ek];refine L.trans (I h5 p (by rw[L.2.2.1 d p];exact q) ?_ m);intro e i F;rcases Jq.1 F with G|G
   ·subst G;subst e;cases hv;exact K0 _ _ _
   ·exact L.2.2.2 e i (hi e i G)
 | E4 w' l s o z H=>
   intro av w d k u p ρ h b q hi x A;simp only[Vy,uZ]at u;obtain⟨⟨⟨D,E⟩,U⟩,W⟩:=u;obtain⟨X,L⟩:=nest s H D E U W p q hi (show gV b (gA w' (ρ l) (gE s ρ h))=some x from A);show Qk n all av (s.ops++[o]) b ρ (fh (AJ s (Ob w' (ρ l)) ρ h) z (O9 b ((iK o).f (.fn (AJ s (Ob w' (ρ l)) ρ h) []) h))) h z x;rw[K6 X];exact L
inductive RC where
 |op (o:Oper) (d:Nat)
 |nest (w:Bool) (d:Nat) (sub:Gs) (o:Oper) (a:Nat)
def RC.dst:RC->Nat
 | .op _ d=>d
 | .nest _ _ _ _ a=>a
def RC.ops:RC->List Oper
 | .op o _=>[o]
 | .nest _ _ s o _=>s.ops++[o]
def RC.one:RC->Gs
 | .op o d=> .last o d
 | .nest w d s o a=> .E4 w d s o a
def RC.cons(r:Gs):RC->Gs
 | .op o d=> .op o d r
 | .nest w d s o a=> .nest w d s o a r
def zdu(all:List Oper) (o:Oper):Option (Bool×Nat):=match o.guard with
 | some (j,w)=>match all[j]? with
   | some a=>match a.dst with
     |some d=>some (w,d)
     |none=>none
   |none=>none
 |none=>none
def OW(n : Nat) (all:List Oper) (Yn:Bool->Nat->List Nat->List Oper->Option (Gs×List Oper)) (w:Bool) (d:Nat) (a:List Nat) (os:List Oper):Option (RC×List Oper):=match os with
  |[]=>none
  | o ::os'=>match Wx n all o w d&&Nat.beq (cls o) 0,o.dst with
    |true,some d'=>some (.op o d',os')
    | _,_ => match zdu all o with
      |none=>none
      | some (w',d')=>match a.any (λi=>Nat.beq i d')with
        |false=>none
        | true=>match Yn w' d' [] (o::os')with
          | some (s,p::os'')=>match Wx n all p w d&&PG p w' d' s.dst,p.dst with
            |true,some dp=>some (.nest w' d' s p dp,os'')
            |_,_=>none
          |_=>none
noncomputable def Yn(n:Nat) (all:List Oper) (fuel:Nat):Bool->Nat->List Nat->List Oper->Option (Gs×List Oper):=
 Nat.rec (motive:=λ_=>Bool->Nat->List Nat->List Oper->Option (Gs×List Oper)) (λ_ _ _ _=>none) (λ_ b w d a os=>match OW n all b w d a os with
  |none=>none
  | some (it,os')=>match b w d (it.dst::a) os' with
    |some (g,r)=>some (it.cons g,r)
    |none=>some (it.one,os')) fuel
theorem Rr{n:Nat} {all:List Oper} {Yn:Bool->Nat->List Nat->List Oper->Option (Gs×List Oper)} (b:∀w d a os g r,Yn w d a os=some (g,r)->os=g.ops++r) {w:Bool} {d:Nat} {a:List Nat} {os:List Oper} {it:RC} {r:List Oper}
  (h:OW n all Yn w d a os=some (it,r)):os=it.ops++r:=by
 unfold OW at h;split at h
 ·cases h
 ·split at h
  ·cases h;rfl
  ·split at h
   ·cases h
   ·split at h
    ·cases h
    ·split at h
     ·rename_i hq;split at h
      ·cases h;have:=b _ _ _ _ _ _ hq;simp only[RC.ops,Ek,wB1,OO];exact this
      ·cases h
     ·cases h
theorem OY{n:Nat} {all:List Oper}:∀(fuel:Nat) (w:Bool) (d:Nat) (a:List Nat) (os:List Oper) (g:Gs) (r:List Oper),Yn n all fuel w d a os=some (g,r)->os=g.ops++r
 |0,_,_,_,_,_,_,h=>by cases h
 | fuel+1,w,d,a,os,g,r,h=>by
   have h':(match OW n all (Yn n all fuel) w d a os with
     |none=>none
     | some (it,b)=>match Yn n all fuel w d (it.dst::a) b with
       |some (g,r)=>some (it.cons g,r)
       |none=>some (it.one,b))=some (g,r):=h
   split at h'
   ·cases h'
   ·rename_i it b c
    have f:=Rr (λw d a os g r e=>OY fuel w d a os g r e) c;split at h'
    ·rename_i j r' e
     cases h';have i:=OY fuel _ _ _ _ _ _ e;rw[f,i];cases it <;> simp[RC.ops,RC.cons,Gs.ops]
    ·cases h'
     rw[f];cases it <;> simp[RC.ops,RC.one,Gs.ops]
noncomputable def XD(n:Nat) (all:List Oper) (os:List Oper):Option (Bool×Nat×Gs×Nat):=match os with
 |[]=>none
 | o ::_ => match o.guard with
   |none=>none
   | some (j,w)=>match all[j]? with
     |none=>none
     | some a=>match a.guard,a.dst,Nat.beq (cls o) 0 with
       | none,some d,true=>match Yn n all 60 w d [] os with
         | some (g,p::_)=>match p.guard,p.dst with
           | none,some dp=>match PG p w d g.dst&&Nat.blt dp n&&Vy n all [d] w d [] g with
             |true=>some (w,d,g,dp)
             |false=>none
           |_,_=>none
         |_=>none
       |_,_,_=>none
theorem Zr{n:Nat} {all os:List Oper} {w:Bool} {d:Nat} {g:Gs} {b:Nat} (h:XD n all os=some (w,d,g,b)):∃p r,os=g.ops++p::r/\p.guard=none/\p.dst=some b/\PG p w d g.dst=true/\Nat.blt b n=true/\Vy n all [d] w d [] g=true:=by
 unfold XD at h;split at h
 ·cases h
 ·split at h
  ·cases h
  ·split at h
   ·cases h
   ·split at h
    ·split at h
     ·rename_i c;split at h
      ·rename_i e f;split at h
       ·rename_i a;cases h;simp only[uZ]at a;exact⟨_,_,OY _ _ _ _ _ _ _ c,e,f,a.1.1,a.1.2,a.2⟩
       ·cases h
      ·cases h
     ·cases h
    ·cases h
theorem FT{n:Nat} {o:Oper} {K b:gB->Hp->Prop} (c:∀ρ h,K ρ h->b ρ h) {v:V} {ρ:gB} {h:Hp} (a:oR n o K v ρ h):oR n o b v ρ h:=by
 unfold oR at a⊢
 cases ho:o.dst with
 |none=>rw[ho]at a;exact c _ _ a
 | some d=>
   rw[ho]at a;simp only at a⊢
   cases hb:Nat.blt d n with
   |true=>rw[hb]at a;exact c _ _ a
   |false=>rw[hb]at a;exact a.elim
theorem pO{α:Type}{x:Option α}{k k':α->Prop}(h:oP x k)(f:∀a,k a->k' a):oP x k':=oM h λa _ H=>f a H
theorem Xh{C:fu} {o:Oper} {K e:V->gB->Hp->Prop} (d:∀v ρ h,K v ρ h->e v ρ h) {ρ:gB} {h:Hp} (b:Po C o K ρ h):Po C o e ρ h:=by
 unfold Po at b⊢;generalize cls o=c at b⊢;rcases c with _|_|c
 ·exact pO b λv H=>d _ _ _ H
 ·exact pO b λv H=>d _ _ _ H
 ·show Qm C o e ρ h;have a:Qm C o K ρ h:=b;unfold Qm at a⊢;cases hi:yw o
  all_goals rw[hi]at a
  ·exact pO a λx H=>d _ _ _ H
  ·exact pO a λx H=>H.mono λv h' H=>d _ _ _ H
theorem WV{C:fu} {o:Oper} {b:Bool} {K e:V->gB->Hp->Prop} (d:∀v ρ h,K v ρ h->e v ρ h) {ρ:gB} {h:Hp} (a:X7 C o b K ρ h):X7 C o b e ρ h:=by
 unfold X7 at a⊢;generalize cls o=c at a⊢;rcases c with _|_|c
 ·exact pO a λv H=>d _ _ _ H
 ·exact pO a λv H=>d _ _ _ H
 ·simp only at a⊢;cases hi:yw o
  all_goals rw[hi]at a
  ·exact pO a λx H=>d _ _ _ H
  ·refine pO a λx H=>?_
   cases x with
   |none=>exact d _ _ _ H
   |some y=>exact cP.mono H λv h' H=>d _ _ _ H
theorem RG{C:fu} {n:Nat} {all:List Oper} {o:Oper} {K c:gB->Hp->Prop} (d:∀ρ h,K ρ h->c ρ h) {ρ:gB} {h:Hp} (a:zD C n all o K ρ h):zD C n all o c ρ h:=by
 unfold zD at a⊢
 cases hd:zB o with
 |some q=>rw[hd]at a;exact a.elim
 | none=>
   rw[hd]at a;simp only at a⊢
   cases hw:kO n all o with
   |none=>rw[hw]at a;exact Xh (λv ρ h H=>FT d H) a
   |some g=>rw[hw]at a;exact pO a λb H=>WV (λv ρ h H=>FT d H) H
theorem WD(C:fu) (n:Nat) (all:List Oper) (o:Oper) (K:gB->Hp->Prop):SY C n all o K=zD C n all o K:=by
 unfold SY zD;simp only[zaW];rfl
theorem JQ{o:Oper} (h:cls o=0):zB o=none:=by
 unfold zB;unfold cls at h;split
 ·rename_i c hc;rw[hc]at h;cases h
 ·rfl
theorem Ch.zh{C:fu} {n:Nat} {all:List Oper} {h:Hp} {K:gB->Hp->Prop} {a:List Oper}:∀{os:List Oper} {ρ c:gB},Ch n all h os ρ c->zh C n all K a c h->zh C n all K (os++a) ρ h
 |[],_,_,hc,hk=>by cases hc;exact hk
 | o ::os,ρ,c,⟨h0,d,v,j,k,l,m⟩,hk=>by
   have p:=m.zh (C:=C) (K:=K) hk;have i:oR n o (Hx.zh C n all K (os++a)) v ρ h:=by unfold oR;rw[j];simp only[k];exact p
   show zD C n all o (Hx.zh C n all K (os++a)) ρ h;unfold zD;rw[JQ h0];simp only;rcases l with⟨e,f⟩|⟨g,b,e,f,e3⟩
   ·rw[e]
    simp only[Po,h0];exact ed f i
   ·rw[e]
    simp only[X7,h0];exact ed f (ed e3 i)
noncomputable def Rz(C:fu) (n:Nat) (all:List Oper) (K:gB->Hp->Prop) (os:List Oper):Nat->gB->Hp->Prop:=
 List.rec (motive:=λ_=>Nat->gB->Hp->Prop) (λ_=>K) (λo os a b=>Nat.rec (motive:=λ_=>gB->Hp->Prop)
  (match XD n all (o::os)with
   |some (w,d,g,dp)=>λρ h=>oP (gA w (ρ d) (gE g ρ h)) λv=>a g.ops.length (fh (AJ g (Ob w (ρ d)) ρ h) dp v) h
   |none=>SY C n all o (a 0)) (λk _=>a k) b) os
theorem IU{C:fu} {n:Nat} {all:List Oper} {K:gB->Hp->Prop}:∀(os:List Oper) (k:Nat) {ρ:gB} {h:Hp},Rz C n all K os k ρ h->zh C n all K (os.drop k) ρ h
 |[],k,ρ,h,hk=>by rw[List.drop_nil];exact hk
 |o::os,k+1,ρ,h,hk=>IU os k hk
 | o ::os,0,ρ,h,hk=>by
   have a:(match XD n all (o::os)with
     |some (w,d,g,q)=>λ(ρ:gB) (h:Hp)=>oP (gA w (ρ d) (gE g ρ h)) λv=>Rz C n all K os g.ops.length (fh (AJ g (Ob w (ρ d)) ρ h) q v) h
     |none=>SY C n all o (Rz C n all K os 0):gB->Hp->Prop) ρ h:=hk
   show zh C n all K (o::os) ρ h
   cases hg:XD n all (o::os)with
   | some x=>
     obtain⟨w,d,g,q⟩:=x;rw[hg]at a;simp only at a;obtain⟨p,r,u,E,e3,b,i,F⟩:=Zr hg;obtain⟨v,G,z⟩:=j6.1 a;obtain⟨c,H,c2,A⟩:=TU G;have I:Ob w (ρ d)=(c == w):=by unfold Ob;rw[c2]
     rw[I]at z;obtain⟨y,B⟩:∃y,gV (c == w) (gE g ρ h)=some y/\(c=w->y=v):=by
       rcases A with⟨b,i⟩|⟨b,i⟩
       ·subst b;rw[beq_self_eq_true];exact⟨v,i,λ_=>rfl⟩
       ·have:(c == w)=false:=by simp[b]
        rw[this];exact⟨.undef,rfl,λe=>absurd e b⟩
     obtain⟨J,L,k3,P⟩:=UT g F (US ..) c2 (λ_ j M=>nomatch M) B.1;have s:AJ g (c == w) ρ h d = .bool c:=by rw[k3 d (US ..)];exact H
     have l:=TX b (h:=h) s;have m:(iK p).f (.fn (AJ g (c == w) ρ h) []) h=some v:=by
       rw[l.1,L];rcases A with⟨b,i⟩|⟨b,i⟩
       ·subst b;rw[B.2 rfl];cases c <;> rfl
       ·subst i;cases c <;> cases w <;> first|rfl|exact absurd rfl b
     have t:Ch n all h [p] (AJ g (c == w) ρ h) (fh (AJ g (c == w) ρ h) q v):=⟨l.2,q,v,e3,i,.inl ⟨by unfold kO;rw[E],m⟩,rfl⟩
     have hlen:os.drop g.ops.length=r:=by
       have N:(o::os).drop (g.ops.length+1)=r:=by rw[u,List.append_cons];exact List.drop_left' (by simp)
       exact N
     have D:=IU os _ z;rw[hlen]at D;rw[u,List.append_cons]
     exact(J.app t).zh D
   | none=>
     rw[hg]at a;simp only[WD]at a;exact RG (λρ h O=>by have:=IU os 0 O;exact this) a
def BP(o:Oper):Bool:=match o.op with
 | .move x| .assign x| .nilCheck x| .fieldAddr _ x _| .field _ x _| .unOp _ _ x| .extract x _=>OJ x
 | .pick c a b=>OJ c&&OJ a&&OJ b
 | .binOp _ _ x y _=>OJ x&&OJ y
 | .indexAddr _ x i| .index _ x i=>OJ x&&OJ i
 | .build _ _| .makeFunc _ _ _=>true
 | .makeInterface _ x=>OJ x
 | .call c=>match c.callee,c.args.toList,c.argTypes.toList with
   | .builtin .len,[x],ty::_=>match P0.underlying ty with
     |some (.slice _)=>OJ x
     |_=>false
   |_,_,_=>false
 |_=>false
theorem V4{o:Oper} (a:BP o=true) (t:Tm) (h h':Hp):(iK o).f t h=(iK o).f t h':=by
 unfold BP at a;unfold iK;split at a
 all_goals rename_i b
 all_goals try rw[b]
 all_goals try simp only[uZ]at a
 ·exact iQ a t h h'
 ·exact iQ a t h h'
 ·simp only[uh,iQ a t h h']
 ·simp only[nw];split <;> (try split) <;> simp only[iQ a t h h']
 ·simp only[Ia];split <;> simp only[iQ a t h h']
 ·simp only[iQ a t h h']
 ·simp only[EG,iQ a t h h']
 ·simp only[Kv,iQ a.1.1 t h h',iQ a.1.2 t h h',iQ a.2 t h h']
 ·simp only[iQ a.1 t h h',iQ a.2 t h h']
 ·simp only[nj];split <;> (try split) <;> simp only[iQ a.1 t h h',iQ a.2 t h h']
 ·simp only[HX];split <;> (try split) <;> simp only[iQ a.1 t h h',iQ a.2 t h h']
 ·simp only[Hq];repeat' split
  all_goals rfl
 ·split <;> first|rfl|(rename_i c;cases c)
 ·dsimp only;split <;> first|rfl|simp only[iQ a t h h']
 ·split at a
  ·rename_i d e g;split at a
   ·rename_i i;simp only[d,e,g,hlen,i,iQ a t h h']
   ·exact absurd a (by decide)
  ·exact absurd a (by decide)
 ·exact absurd a (by decide)
abbrev RE:=Bool×Rec×Bool×Bool
def G3(k:Nat) (h:Hp) (rs:List RE) (K:Prop):Prop:=List.rec (motive:=λ_=>Prop) K (λr _ a=>Bool.rec (motive:=λ_=>Prop) (Option.rec (motive:=λ_=>Prop) (Bool.rec (motive:=λ_=>Prop) a (Bool.rec (motive:=λ_=>Prop) True (Ce h r.2.1) r.1/\a) r.2.2.2) (λ_=>Bool.rec (motive:=λ_=>Prop) True (Ce h r.2.1) r.1/\a) r.2.1.made) a (Nat.blt r.2.1.last k)) rs
def IM(rs:List RE):List RE:=rs.map λr=>(r.1,r.2.1,r.2.2.1,!r.2.2.1)
def tP(rs:List RE):List (Bool×Rec):=rs.map λr=>(r.1,r.2.1)
def itV(C:fu) (n:Nat) (all:List Oper) (ws:List It) (a:It) (d:Nat->gB->Hp->List RE->Prop) (k:Nat):gB->Hp->List RE->Prop:=match cls a.o with
  | 0 =>match kO n all a.o with
    | none=>match isVal a.o with
      |true=>λρ h rs=>Option.rec (motive:=λ_=>Prop) False (λv=>oR n a.o (λc h=>d k c h ((true,{it:=a,t:= .fn ρ [],v,made:=none,last:=late ws a},BP a.o,false)::rs)) v ρ h) ((iK a.o).f (.fn ρ []) h)
      |false=>λρ h rs=>oP ((iK a.o).f (.fn ρ []) h) λv=>oR n a.o (λc h=>d k c h ((true,{it:=a,t:= .fn ρ [],v,made:=none,last:=late ws a},BP a.o,false)::rs)) v ρ h
    |some g=>λρ h rs=>oP (g.f (.fn ρ [])) λb=>oP (gV b ((iK a.o).f (.fn ρ []) h)) λv=>
       oR n a.o (λc h=>d k c h ((b,{it:=a,t:= .fn ρ [],v,made:=none,last:=late ws a},BP a.o,false)::rs)) v ρ h
  | 1=>match kO n all a.o with
    |none=>λρ h rs=>oP ((qf a.o).f (.fn ρ [])) λr=>oR n a.o (λc h'=>d k c h' ((true,{it:=a,t:= .fn ρ [],v:=r.2 h.next,made:=some (h.next,r.1),last:=late ws a},false,false)::IM rs)) (r.2 h.next) ρ (h.new r.1)
    |some _=>λ_ _ _=>False
  | _ =>match kO n all a.o with
    |none=>λρ h rs=>G3 k h rs (Qm C a.o (λv ρ h'=>h.next<=h'.next/\oR n a.o (λρ h=>d (Nat.succ k) ρ h (IM rs)) v ρ h') ρ h)
    | some g=>match yw a.o with
      |true=>λρ h rs=>G3 k h rs (oP (g.f (.fn ρ [])) λb=>oP (gC b (oB ((jW a.o).f (.fn ρ []) h) Hm)) λx=>qB C x h λv h'=>h.next<=h'.next/\oR n a.o (λρ h=>d (Nat.succ k) ρ h (IM rs)) v ρ h')
      |false=>λ_ _ _=>False
def He(l:List It):Bool:=l.all λa=>Nat.beq (cls a.o) 0
def Sw(C:fu) (n:Nat) (all:List Oper) (ws:List It) (K:gB->Hp->Prop) (l:List It):Nat->gB->Hp->List RE->Prop:=
 List.rec (motive:=λ_=>Nat->gB->Hp->List RE->Prop) (λk ρ h rs=>G3 k h rs (K ρ h)) (λa l b k=>match He (a::l)with
  |true=>λρ h rs=>Rz C n all (λρ h=>G3 k h rs (K ρ h)) ((a::l).map (·.o)) 0 ρ h
  |false=>itV C n all ws a b k) l
def Va(h:Hp)(rs:List RE):Prop:=∀r∈rs,r.1=true->r.2.1.made=none->(r.2.2.1=true->∀h',Ce h' r.2.1)/\(r.2.2.2=false->Ce h r.2.1)
theorem Va.xB{h:Hp} {rs:List RE} (hi:Va h rs) (h':Hp):Va h' (IM rs):=by
 intro r c d f;obtain⟨r',a,e⟩:=K4.1 c;subst e;obtain⟨b,_⟩:=hi r' a d f;refine⟨b,λe=>b ?_ h'⟩;simpa using e
theorem LM(rs:List RE):tP (IM rs)=tP rs:=by
 simp[tP,IM]
theorem ym{k:Nat} {h:Hp}:∀{rs:List RE} {K d:Prop},Va h rs->(K->d)->G3 k h rs K->xh k h (tP rs) d
 |[],_,_,_,hk,hh=>hk hh
 | (b,r,f,st)::rs,K,d,hi,hk,hh=>by
   have c:Va h rs:=λr c=>hi r (Ud _ c);have h0:=hi _ (US ..)
   have a:Bool.rec (motive:=λ_=>Prop)
     (Option.rec (motive:=λ_=>Prop) (Bool.rec (motive:=λ_=>Prop) (G3 k h rs K) (Bool.rec (motive:=λ_=>Prop) True (Ce h r) b/\G3 k h rs K) st)
     (λ_=>Bool.rec (motive:=λ_=>Prop) True (Ce h r) b/\G3 k h rs K) r.made) (G3 k h rs K) (Nat.blt r.last k):=hh
   show Bool.rec (motive:=λ_=>Prop) (Bool.rec (motive:=λ_=>Prop) True (Ce h r) b/\xh k h (tP rs) d) (xh k h (tP rs) d) (Nat.blt r.last k)
   cases hb:Nat.blt r.last k with
   |true=>rw[hb]at a;exact ym c hk a
   | false=>
     rw[hb]at a
     cases hm:r.made with
     |some x=>rw[hm]at a;exact⟨a.1,ym c hk a.2⟩
     | none=>
       rw[hm]at a
       cases st with
       |true=>exact⟨a.1,ym c hk a.2⟩
       | false=>
         refine⟨?_,ym c hk a⟩
         cases b with
         |false=>exact trivial
         |true=>exact(h0 rfl hm).2 rfl
theorem Wk{C:fu} {o:Oper} {K b:V->gB->Hp->Prop} (c:∀v ρ h,K v ρ h->b v ρ h) {ρ:gB} {h:Hp} (a:Qm C o K ρ h):Qm C o b ρ h:=by
 unfold Qm at a⊢;cases hi:yw o
 all_goals rw[hi]at a
 ·exact pO a λx H=>c _ _ _ H
 ·exact pO a λx H=>H.mono λv h' H=>c _ _ _ H
theorem N8{k:Nat} {h:Hp} {K:Prop} {rs:List (Bool×Rec)}:∀{new:List (Bool×Rec)},(∀r∈new,r.1=true->Ce h r.2)->xh k h rs K->xh k h (new++rs) K
 |[],_,hh=>hh
 | r ::new,hn,hh=>by
   have a:=N8 (new:=new) (λr b=>hn r (Ud _ b)) hh;show xh k h (r::(new++rs)) K;simp only[xh]
   cases hb:Nat.blt r.2.last k with
   |true=>exact a
   | false=>
     refine⟨?_,a⟩
     cases hb:r.1 with
     |false=>exact trivial
     |true=>exact hn r (US ..) hb
theorem LL{C:fu} {n:Nat} {all:List Oper} {ws:List It} {K:gB->Hp->Prop} {k:Nat} {rs:List (Bool×Rec)}:∀{l:List It} {ρ:gB} {h:Hp} {new:List (Bool×Rec)},He l=true->(∀r∈new,r.1=true->Ce h r.2)->
  zh C n all (λρ h=>xh k h rs (K ρ h)) (l.map (·.o)) ρ h->Ht C n all ws K l k ρ h (new++rs)
 |[],_,_,_,_,hn,hk=>N8 hn hk
 | a ::l,ρ,h,new,hp,hn,hk=>by
   simp only[He,wCH,uZ]at hp;obtain⟨hc,hp⟩:=hp;have hc:=vK hc;have c:zD C n all a.o (zh C n all (λρ h=>xh k h rs (K ρ h)) (l.map (·.o))) ρ h:=hk;show itR C n all ws a (Ht C n all ws K l) k ρ h (new++rs)
   have m:∀{b:Bool} {v:V},(b=true->(iK a.o).f (.fn ρ []) h=some v)->oR n a.o (zh C n all (λρ h=>xh k h rs (K ρ h)) (l.map (·.o))) v ρ h->
       oR n a.o (λw h=>Ht C n all ws K l k w h ((b,{it:=a,t:= .fn ρ [],v,made:=none,last:=late ws a})::(new++rs))) v ρ h:=by
     intro b v s i;have j:∀r∈(b,({it:=a,t:= .fn ρ [],v,made:=none,last:=late ws a}:Rec))::new,r.1=true->Ce h r.2:=by
       intro r x p;rcases Jq.1 x with e|e
       ·subst e;exact s p
       ·exact hn r e p
     unfold oR at i⊢
     cases ho:a.o.dst with
     |none=>rw[ho]at i;exact LL hp j i
     | some d=>
       rw[ho]at i;simp only at i⊢
       cases s:Nat.blt d n with
       |true=>rw[s]at i;exact LL hp j i
       |false=>rw[s]at i;exact i.elim
   unfold zD at c;rw[JQ hc]at c;simp only at c;unfold itR;rw[hc];simp only
   cases hw:kO n all a.o with
   | none=>
     rw[hw]at c;simp only[Po,hc]at c;obtain⟨v,q,u⟩:=j6.1 c
     exact ed q (m (λ_=>q) u)
   | some g=>
     rw[hw]at c;simp only[X7,hc]at c;obtain⟨b,h0,c⟩:=j6.1 c;obtain⟨v,q,u⟩:=j6.1 c;exact ed h0 (ed q (m (λe=>by subst e;exact q) u))
theorem J0{C:fu} {n:Nat} {all:List Oper} {K i:gB->Hp->Prop} {h:Hp} (j:∀ρ,K ρ h->i ρ h):∀{l:List It} {ρ:gB},He l=true->zh C n all K (l.map (·.o)) ρ h->zh C n all i (l.map (·.o)) ρ h
 |[],_,_,hk=>j _ hk
 | a ::l,ρ,hp,hk=>by
   simp only[He,wCH,uZ]at hp;obtain⟨hc,hp⟩:=hp;have hc:=vK hc;have c:zD C n all a.o (zh C n all K (l.map (·.o))) ρ h:=hk;show zD C n all a.o (zh C n all i (l.map (·.o))) ρ h;have f:∀{v:V},oR n a.o (zh C n all K (l.map (·.o))) v ρ h->oR n a.o (zh C n all i (l.map (·.o))) v ρ h:=by
     intro v e;unfold oR at e⊢
     cases ho:a.o.dst with
     |none=>rw[ho]at e;exact J0 j hp e
     | some d=>
       rw[ho]at e;simp only at e⊢
       cases hb:Nat.blt d n with
       |true=>rw[hb]at e;exact J0 j hp e
       |false=>rw[hb]at e;exact e.elim
   unfold zD at c⊢;rw[JQ hc]at c⊢;simp only at c⊢
   cases hw:kO n all a.o with
   | none=>
     rw[hw]at c;simp only[Po,hc]at c⊢;obtain⟨v,k,m⟩:=j6.1 c
     exact ed k (f m)
   | some g=>
     rw[hw]at c;simp only[X7,hc]at c⊢;obtain⟨b,h0,c⟩:=j6.1 c;obtain⟨v,k,m⟩:=j6.1 c;exact ed h0 (ed k (f m))
theorem K9{C:fu} {n:Nat} {all:List Oper} {ws:List It} {K:gB->Hp->Prop}:∀(l:List It) {k:Nat} {ρ:gB} {h:Hp} {rs:List RE},Va h rs->Sw C n all ws K l k ρ h rs->Ht C n all ws K l k ρ h (tP rs)
 |[],_,_,_,_,hi,hk=>ym hi (λx=>x) hk
 | a ::l,k,ρ,h,rs,hi,hk=>by
   have i:(match He (a::l)with
     |true=>λ(ρ:gB) (h:Hp) (rs:List RE)=>Rz C n all (λρ h=>G3 k h rs (K ρ h)) ((a::l).map (·.o)) 0 ρ h
     |false=>itV C n all ws a (Sw C n all ws K l) k:gB->Hp->List RE->Prop) ρ h rs:=hk
   cases hp:He (a::l)with
   | true=>
     rw[hp]at i;have p:=IU _ 0 i
     exact LL (new:=[]) hp (λ_ w=>nomatch w) (J0 (λρ q=>ym hi (λx=>x) q) hp p)
   | false =>
     rw[hp]at i;simp only at i;show itR C n all ws a (Ht C n all ws K l) k ρ h (tP rs)
     have pure:∀{b:Bool} {v:V},gV b ((iK a.o).f (.fn ρ []) h)=some v->∀{j:gB},Sw C n all ws K l k j h ((b,{it:=a,t:= .fn ρ [],v,made:=none,last:=late ws a},BP a.o,false)::rs)->
         Ht C n all ws K l k j h ((b,{it:=a,t:= .fn ρ [],v,made:=none,last:=late ws a})::tP rs):=by
       intro b v hv j q;refine K9 l (rs:=(b,{it:=a,t:= .fn ρ [],v,made:=none,last:=late ws a},BP a.o,false)::rs) ?_ q;intro r w s z;rcases Jq.1 w with e|e
       ·subst e
        have A:b=true:=s;subst A;refine⟨λE h'=>?_,λ_=>hv⟩;show(iK a.o).f (.fn ρ []) h' = some v;rw[V4 E _ h' h];exact hv
       ·exact hi r e s z
     have dst:∀{b:Bool} {v:V},gV b ((iK a.o).f (.fn ρ []) h)=some v->oR n a.o (λj h=>Sw C n all ws K l k j h ((b,{it:=a,t:= .fn ρ [],v,made:=none,last:=late ws a},BP a.o,false)::rs)) v ρ h->
         oR n a.o (λj h=>Ht C n all ws K l k j h ((b,{it:=a,t:= .fn ρ [],v,made:=none,last:=late ws a})::tP rs)) v ρ h:=by
       intro b v hv m;unfold oR at m⊢
       cases ho:a.o.dst with
       |none=>rw[ho]at m;exact pure hv m
       | some d=>
         rw[ho]at m;simp only at m⊢
         cases s:Nat.blt d n with
         |true=>rw[s]at m;exact pure hv m
         |false=>rw[s]at m;exact m.elim
     unfold itV at i;unfold itR;generalize hc:cls a.o=c at i;rcases c with _|_|c
     ·simp only at i⊢
      cases hw:kO n all a.o with
      | none=>
        rw[hw]at i;simp only at i⊢;have B:oP ((iK a.o).f (.fn ρ []) h) λv=>oR n a.o (λj h=>Sw C n all ws K l k j h ((true,{it:=a,t:= .fn ρ [],v,made:=none,last:=late ws a},BP a.o,false)::rs)) v ρ h:=by
          cases hv:isVal a.o <;> (rw[hv]at i;exact i)
        obtain⟨v,p,D⟩:=j6.1 B
        exact ed p (dst (b:=true) p D)
      | some g=>
        rw[hw]at i;obtain⟨b,h0,i⟩:=j6.1 i;obtain⟨v,p,D⟩:=j6.1 i;exact ed h0 (ed p (dst p D))
     ·simp only at i⊢
      cases hw:kO n all a.o with
      | none=>
        rw[hw]at i;refine pO i λr H=>FT (λj h' q=>?_) H;have:=K9 l (rs:=(true,{it:=a,t:= .fn ρ [],v:=r.2 h.next,made:=some (h.next,r.1),last:=late ws a},false,false)::IM rs) (by
          intro r' w s z;rcases Jq.1 w with e|e
          ·subst e;cases z
          ·exact hi.xB h' r' e s z) q
        change Ht C n all ws K l k j h' (_::tP (IM rs))at this
        rw[LM]at this
        exact this
      |some g=>rw[hw]at i;exact i.elim
     ·simp only at i⊢
      have u:∀{v:V} {ρ:gB} {h':Hp},oR n a.o (λρ h=>Sw C n all ws K l (Nat.succ k) ρ h (IM rs)) v ρ h'->oR n a.o (λρ h=>Ht C n all ws K l (Nat.succ k) ρ h (tP rs)) v ρ h':=λH=>
        FT (λρ h q=>by have:=K9 l (hi.xB h) q;rwa [LM]at this) H
      cases hw:kO n all a.o with
      | none=>
        rw[hw]at i
        exact ym hi (λH=>Wk (λv ρ h' H=>⟨H.1,u H.2⟩) H) i
      | some g=>
        rw[hw]at i;simp only at i⊢
        cases hic:yw a.o with
        |false=>rw[hic]at i;exact i.elim
        | true=>
          rw[hic]at i;refine ym hi (λH=>pO H λb H=>pO H λx H=>?_) i
          cases x with
          |none=>exact⟨H.1,u H.2⟩
          |some y=>exact cP.mono H λv h' H=>⟨H.1,u H.2⟩
def Wf(C:fu) (n:Nat) (all:List Oper) (K:gB->Hp->Prop) (ρ:gB) (h:Hp):Prop:=Sw C n all (gX (items all 0 [])) K (order (items all 0 []) (gX (items all 0 [])) (gX (items all 0 [])) 0) 0 ρ h []
theorem Wa{C:fu}{n:Nat}{all:List Oper}{K:gB->Hp->Prop}{ρ:gB}{h:Hp}(a:Wf C n all K ρ h):TQ C n all K ρ h:=K9 (rs:=[]) _ (by intro r b;cases b) a
end
noncomputable def Ll(tb:List (Nat×List Nat)) (k:Nat):Option (List Nat):=List.rec (motive:=λ_=>Option (List Nat)) none (λx _ a=>Bool.rec (motive:=λ_=>Option (List Nat)) a (some x.2) (Nat.beq x.1 k)) tb
noncomputable def jV(C:fu) (n:Nat) (live:List Nat) (c:Code) (s:XQ) (ρ:gB) (h:Hp):Prop:=∀a:gB,List.rec (motive:=λ_=>Prop) (Wp C n c s a h) (λi _ b=>a i=ρ i->b) live
theorem XI{C:fu} {n:Nat} {live:List Nat} {c:Code} {s:XQ} {ρ:gB} {h:Hp} (a:jV C n live c s ρ h):Wp C n c s ρ h:=by
 have:=a ρ;clear a
 induction live with
 |nil=>exact this
 |cons i l b=>exact b (this rfl)
noncomputable def QR(C:fu) (n:Nat) (tb:List (Nat×List Nat)) (c:Code):Nat->Nat->XQ->XQ->gB->Hp->Prop:=
 Code.rec (motive:=λ_=>Nat->Nat->XQ->XQ->gB->Hp->Prop)
  (λ_ _ v _=>v .normal)
  (fun _ ops d _ _ v _=>match d with
   |false=>Rz C n ops.toList (λρ h=>v .normal ρ h) ops.toList 0
   | true=>match xY ops.toList with
     |true=>Wf C n ops.toList (λρ h=>v .normal ρ h)
     |false=>λ_ _=>False)
  (λ_ b a g p e v s=>a p (Nat.mul 2 e) (andThen (Option.rec (motive:=λ_=>gB->Hp->Prop) (g (Nat.add p e) (Nat.mul 2 e) v s) (λlive=>jV C n live b s) (Ll tb (Nat.mul 2 (Nat.add (Nat.add p e) (Nat.mul 2 e))))) v) (andThen (Wp C n b s) s))
  (λc _ _ a g p e v s ρ h=>Option.rec (motive:=λ_=>Prop) False (λx=>bP x (a p (Nat.mul 2 e) v s ρ h) (g (Nat.add p e) (Nat.mul 2 e) v s ρ h)) ((sR c).f (.fn ρ []) h))
  (λid _ i p e v s=>i p (Nat.mul 2 e) (vX id v) (vX id s))
  (λc _ p e _ s=>Option.rec (motive:=λ_=>gB->Hp->Prop) (λ_ _=>False) (λlive=>jV C n live (.loop c) s) (Ll tb (Nat.succ (Nat.mul 2 (Nat.add p e)))))
  (λ_ _ _ _ _ _ _ _ _ _ _ _=>False)
  (λid _ _ v _=>v (.exit id))
  (λ_ _ _ _ _ _ _ _=>False)
  (λ_ _ _ _ _ _ _=>False)
  (λ_ _ _ _ _ _ _=>False)
  (λ_ _ v _=>v .ret)
  (λ_ _ _ _ _ _ _=>False) c
theorem A5{k k':gB->Hp->Prop} {v s:XQ} (a:∀ρ h,k ρ h->k' ρ h) (hq:∀x ρ h,v x ρ h->s x ρ h):∀x ρ h,andThen k v x ρ h->andThen k' s x ρ h
 | .normal,_,_,hh=>a _ _ hh
 | .exit _,_,_,hh=>hq _ _ _ hh
 | .ret,_,_,hh=>hq _ _ _ hh
theorem LV{id:Nat} {v s:XQ} (hq:∀x ρ h,v x ρ h->s x ρ h):∀x ρ h,vX id v x ρ h->vX id s x ρ h
 | .normal,_,_,hh=>hq _ _ _ hh
 | .ret,_,_,hh=>hq _ _ _ hh
 | .exit i,ρ,h,hh=>by
   simp only[vX]at hh⊢
   cases hb:Nat.beq i id with
   |true=>rw[hb]at hh;exact hq _ _ _ hh
   |false=>rw[hb]at hh;exact hq _ _ _ hh
theorem vB{C:fu} {n:Nat} {tb:List (Nat×List Nat)}:∀(c:Code) {p e:Nat} {v s:XQ} {ρ:gB} {h:Hp},(∀x ρ h,v x ρ h->s x ρ h)->QR C n tb c p e v s ρ h->Wp C n c s ρ h
 | .skip,_,_,_,_,_,_,hq,hk=> .skip (hq _ _ _ hk)
 | .region _ ops false,_,_,v,_,ρ,h,hq,hk=>by
   have d:Rz C n ops.toList (λρ h=>v .normal ρ h) ops.toList 0 ρ h:=hk
   exact(Wp.region (IU _ 0 d)).mono hq
 | .region _ ops true,_,_,v,_,ρ,h,hq,hk=>by
   have d:(match xY ops.toList with
       |true=>Wf C n ops.toList (λρ h=>v .normal ρ h)
       |false=>λ_ _=>False) ρ h:=hk
   cases hd:xY ops.toList with
   |true=>rw[hd]at d;exact(Wp.draw hd (Wa d)).mono hq
   |false=>rw[hd]at d;exact d.elim
 | .seq a b,p,e,v,s,ρ,h,hq,hk=>by
   refine .seq (vB a (A5 ?_ hq) hk);intro ρ h g
   cases hf:Ll tb (Nat.mul 2 (Nat.add (Nat.add p e) (Nat.mul 2 e)))with
   |none=>rw[hf]at g;exact vB b hq g
   |some live=>rw[hf]at g;exact XI g
 | .cond c a b,p,e,v,s,ρ,h,hq,hk=>by
   have d:oP ((sR c).f (.fn ρ []) h) (λx=>bP x (QR C n tb a p (Nat.mul 2 e) v s ρ h) (QR C n tb b (Nat.add p e) (Nat.mul 2 e) v s ρ h)):=hk;obtain⟨x,hv,d⟩:=j6.1 d
   exact .cond (ed hv (bM d (vB a hq) (vB b hq)))
 | .block id c,_,_,_,_,_,_,hq,hk=> .block (vB c (LV hq) hk)
 | .loop c,p,e,v,s,ρ,h,hq,hk=>by
   have d:(Option.rec (motive:=λ_=>gB->Hp->Prop) (λ_ _=>False) (λlive=>jV C n live (.loop c) s) (Ll tb (Nat.succ (Nat.mul 2 (Nat.add p e)))):gB->Hp->Prop) ρ h:=hk
   cases hf:Ll tb (Nat.succ (Nat.mul 2 (Nat.add p e)))with
   |none=>rw[hf]at d;exact d.elim
   |some live=>rw[hf]at d;exact XI d
 | .exit id,_,_,_,_,_,_,hq,hk=> .exit (hq _ _ _ hk)
 | .ret,_,_,_,_,_,_,hq,hk=> .ret (hq _ _ _ hk)
 | .rangeFunc ..,_,_,_,_,_,_,_,hk=>hk.elim
 | .scope _,_,_,_,_,_,_,_,hk=>hk.elim
 | .label _,_,_,_,_,_,_,_,hk=>hk.elim
 | .goto _,_,_,_,_,_,_,_,hk=>hk.elim
 | .refuse _,_,_,_,_,_,_,_,hk=>hk.elim
structure Us where
 c:Code
 v:XQ
 s:XQ
 p:Nat
 e:Nat
 ks:List (gB->Hp->Prop)
def Z2(l:List (gB->Hp->Prop)):gB->Hp->Prop:=match l with
 |k::_=>k
 |[]=>λ_ _=>False
noncomputable def jX(C:fu) (n:Nat) (tb:List (Nat×List Nat)) (a:Us) (b:Bool):Us:=match a.c,b with
 | .seq x y,false=>{c:=x,v:=andThen (Option.rec (motive:=λ_=>gB->Hp->Prop) (QR C n tb y (Nat.add a.p a.e) (Nat.mul 2 a.e) a.v a.s) (λlive=>jV C n live y a.s) (Ll tb (Nat.mul 2 (Nat.add (Nat.add a.p a.e) (Nat.mul 2 a.e))))) a.v,s:=andThen (Wp C n y a.s) a.s,p:=a.p,e:=Nat.mul 2 a.e,ks:=a.ks}
 | .seq _ y,true=>{c:=y,v:=a.v,s:=a.s,p:=Nat.add a.p a.e,e:=Nat.mul 2 a.e,ks:=a.ks}
 | .cond _ x _,false=>{c:=x,v:=a.v,s:=a.s,p:=a.p,e:=Nat.mul 2 a.e,ks:=a.ks}
 | .cond _ _ y,true=>{c:=y,v:=a.v,s:=a.s,p:=Nat.add a.p a.e,e:=Nat.mul 2 a.e,ks:=a.ks}
 | .block id x,false=>{c:=x,v:=vX id a.v,s:=vX id a.s,p:=a.p,e:=Nat.mul 2 a.e,ks:=a.ks}
 | .loop x,false=>{c:=x,v:=andThen (Z2 a.ks) a.v,s:=andThen (Z2 a.ks) a.s,p:=a.p,e:=Nat.mul 2 a.e,ks:=a.ks.tail}
 |_,_=>a
noncomputable def zcZ(C:fu) (n:Nat) (tb:List (Nat×List Nat)) (bs:List Bool):Us->Us:=List.rec (motive:=λ_=>Us->Us) (λa=>a) (λb _ c a=>c (jX C n tb a b)) bs
def zcP(k:Nat):List Bool:=(Nat.rec (motive:=λ_=>Nat->List Bool) (λ_=>[]) (λ_ a p=>match Nat.ble p 1 with
 |true=>[]
 |false=>Nat.beq (Nat.mod p 2) 1::a (Nat.div p 2)) 400:Nat->List Bool) k
def Uq(Q:V->Hp->Prop) (ρ:gB) (h:Hp) (l:List ResultVar):List V->Prop:=
 List.rec (motive:=λ_=>List V->Prop) (λb=>Q (zt b.reverse) h) (λr _ c b=>match r with
  | .tmp i=>c (ρ i::b)
  | .cell a ty=>oP ((Vj (.cell a ty)).f (.fn ρ []) h) λv=>c (v::b)) l
theorem Lh{Q:V->Hp->Prop} {ρ:gB} {h:Hp}:∀{l:List ResultVar} {b:List V},Uq Q ρ h l b->oP (Ae (.fn ρ []) h l) λvs=>Q (zt (b.reverse++vs)) h
 | [],b,hh=>by
   have c:Q (zt b.reverse) h:=hh
   simpa[Ae,YV]using c
 | .tmp i::l,b,hh=>by
   have c:Uq Q ρ h l (ρ i::b):=hh;obtain⟨vs,d,e⟩:=j6.1 (Lh c);refine ed (show Ae (.fn ρ []) h (.tmp i::l)=some (ρ i::vs) from ?_) ?_
   ·show oB (some (ρ i)) _=_
    simp only[oB,d]
   ·simpa using e
 | .cell a ty::l,b,hh=>by
   have c:oP ((Vj (.cell a ty)).f (.fn ρ []) h) λv=>Uq Q ρ h l (v::b):=hh;obtain⟨v,h0,c⟩:=j6.1 c;obtain⟨vs,d,e⟩:=j6.1 (Lh c);refine ed (show Ae (.fn ρ []) h (.cell a ty::l)=some (v::vs) from ?_) ?_
   ·show oB ((Vj (.cell a ty)).f (.fn ρ []) h) _=_
    simp only[h0,oB,d]
   ·simpa using e
def zaa(l:List ResultVar) (Q:V->Hp->Prop):XQ
 | .exit _,_,_=>False
 |_,ρ,h=>Uq Q ρ h l []
theorem PY{l:List ResultVar} {Q:V->Hp->Prop}:∀x ρ h,zaa l Q x ρ h->EJ l Q x ρ h
 | .exit _,_,_,hh=>hh
 | .normal,_,_,hh=>by have:=Lh (show Uq Q _ _ l [] from hh);simpa[EJ,Yi]using this
 | .ret,_,_,hh=>by have:=Lh (show Uq Q _ _ l [] from hh);simpa[EJ,Yi]using this
noncomputable def Wg(fn:Func)(ks:List (gB->Hp->Prop))(Q:V->Hp->Prop):Us:={c:=HT fn,v:=zaa fn.results.toList Q,s:=EJ fn.results.toList Q,p:=0,e:=1,ks}
noncomputable def fL(C:fu)(fn:Func)(tb:List (Nat×List Nat))(k:Nat)(ks:List (gB->Hp->Prop))(Q:V->Hp->Prop):Us:=zcZ C fn.ntmps tb (zcP k) (Wg fn ks Q)
noncomputable def WA(C:fu)(fn:Func)(tb:List (Nat×List Nat))(k:Nat)(ks:List (gB->Hp->Prop))(Q:V->Hp->Prop)(ρ:gB)(h:Hp):Prop:=Wp C fn.ntmps (fL C fn tb k ks Q).c (fL C fn tb k ks Q).s ρ h
noncomputable def VA(C:fu)(n:Nat)(tb:List (Nat×List Nat))(a:Us)(ρ:gB)(h:Hp):Prop:=QR C n tb a.c a.p a.e a.v a.s ρ h
def Us.ok(a:Us):Prop:=∀x ρ h,a.v x ρ h->a.s x ρ h
theorem UF{C:fu} {n:Nat} {tb:List (Nat×List Nat)} {a:Us} (c:a.ok) (b:Bool):(jX C n tb a b).ok:=by
 unfold jX;split
 ·refine A5 (λρ h d=>?_) c
  cases hf:Ll tb (Nat.mul 2 (Nat.add (Nat.add a.p a.e) (Nat.mul 2 a.e)))with
  |none=>rw[hf]at d;exact vB _ c d
  |some live=>rw[hf]at d;exact XI d
 ·exact c
 ·exact c
 ·exact c
 ·exact LV c
 ·exact A5 (λ_ _ d=>d) c
 ·exact c
theorem TV{C:fu} {n:Nat} {tb:List (Nat×List Nat)}:∀{bs:List Bool} {a:Us},a.ok->(zcZ C n tb bs a).ok
 |[],_,ha=>ha
 |b::bs,_,ha=>TV (bs:=bs) (UF ha b)
theorem Nz{C:fu}{fn:Func}{tb:List (Nat×List Nat)}{k:Nat}{ks:List (gB->Hp->Prop)}{Q:V->Hp->Prop}:(fL C fn tb k ks Q).ok:=TV PY
theorem WA.of{C:fu} {fn:Func} {tb:List (Nat×List Nat)} {k:Nat} {ks:List (gB->Hp->Prop)} {Q:V->Hp->Prop} {ρ:gB} {h:Hp} {P:Prop}
  (e:VA C fn.ntmps tb (fL C fn tb k ks Q) ρ h=P) (H:P):WA C fn tb k ks Q ρ h:=vB _ Nz (e.mpr H)
def kR(c:Code):Bool:=match c with
 | .loop _=>true
 |_=>false
inductive LA (C:fu) (fn:Func) (tb:List (Nat×List Nat)) (k:Nat) (ks:List (gB->Hp->Prop)) (Q:V->Hp->Prop) (K:gB->Hp->Prop) (ρ:gB) (h:Hp):Prop
 |mk (hv:VA C fn.ntmps tb (jX C fn.ntmps tb {fL C fn tb k ks Q with ks:=[K]} false) ρ h)
theorem LA.of{C:fu} {fn:Func} {tb:List (Nat×List Nat)} {k:Nat} {ks:List (gB->Hp->Prop)} {Q:V->Hp->Prop} {K:gB->Hp->Prop} {ρ:gB} {h:Hp} {P:Prop}
  (e:VA C fn.ntmps tb (jX C fn.ntmps tb {fL C fn tb k ks Q with ks:=[K]} false) ρ h=P) (H:P):LA C fn tb k ks Q K ρ h:=⟨e.mpr H⟩
theorem WA.loop{C:fu} {fn:Func} {tb:List (Nat×List Nat)} {k:Nat} {ks:List (gB->Hp->Prop)} {Q:V->Hp->Prop} {ρ:gB} {h:Hp} (I:Nat->gB->Hp->Prop) {m:Nat}
  (f:kR (fL C fn tb k ks Q).c=true) (n:(fL C fn tb k ks Q).ks=[])
  (b:∀m ρ h,I m ρ h->LA C fn tb k ks Q (λi h'=>∃g,g<m/\I g i h') ρ h) (h0:I m ρ h):WA C fn tb k ks Q ρ h:=by
 unfold WA;have b:=λm ρ h hi=>(b m ρ h hi).1;have d:(fL C fn tb k ks Q).ok:=Nz;generalize fL C fn tb k ks Q=a at*;obtain⟨c,v,s,p,e,j⟩:=a;cases c <;> simp only[kR]at f <;> try exact absurd f (by decide)
 rename_i c;refine Wp.zaj I (λm ρ h hi=>?_) h0;have:=b m ρ h hi;exact vB c (A5 (λ_ _ l=>l) d) this
theorem cP.vc{C:fu} (hs:C.start=fR) {f:Nat} {fn:Func} {tb:List (Nat×List Nat)} {args:List V} {h:Hp} {Q:V->Hp->Prop} {P:Prop} (b:P0.funcs[f]? =some fn) (c:fn.body=some (HT fn))
  (d:C.K f args h=none) (a:Nat.ble args.length fn.ntmps=true) (e:VA C fn.ntmps tb (Wg fn [] Q) (IV args) h=P) (H:P):cP C f args h Q:=
 cP.func hs b c d (Iu a) (vB _ PY (e.mpr H))
abbrev LP:=List V->Hp->Prop
def chV(ρ:gB):List Nat->List V->Prop->Prop
 |i::is,x::xs,P=>ρ i=x->chV ρ is xs P
 |_,_,P=>P
def kf(is:List Nat)(K:LP):gB->Hp->Prop:=λρ h=>K (is.map ρ) h
def JV(C:fu)(fn:Func)(tb:List (Nat×List Nat))(k:Nat)(is:List Nat)(ks:List (gB->Hp->Prop))(Q:fy):LP:=λl h=>∀ρ:gB,chV ρ is l (WA C fn tb k ks Q ρ h)
theorem Ro{ρ:gB}{P:Prop}:∀{is:List Nat}{l:List V},is.length=l.length->(is.map ρ=l->P)->chV ρ is l P
 |[],[],_,h=>h rfl
 |[],_::_,e,_=>by cases e
 |_::_,[],e,_=>by cases e
 |i::is,x::l,e,h=>λa=>Ro (is:=is) (l:=l) (by simpa using e) λb=>h (by rw[Sp,a,b])
def YK:Nat->Type
 |0=>Hp->Prop
 |n+1=>V->YK n
def HC:(n:Nat)->YK n->LP
 |0,f,[],h=>f h
 |n+1,f,x::l,h=>HC n (f x) l h
 |_,_,_,_=>False
@[reducible] def CE (I:Nat->LP) (k:Nat):LP:=λl h=>∃k',k' < k/\I k' l h
section
variable{C:fu}{fn:Func}{tb:List (Nat×List Nat)}{k m:Nat}{is:List Nat}{ks:List (gB->Hp->Prop)}{Q:fy}{h:Hp}{l:List V}
theorem JV.mk(n:Nat)(B:YK n)(e:∀(ρ:gB)(h:Hp),VA C fn.ntmps tb (fL C fn tb k ks Q) ρ h=HC n B (is.map ρ) h)(a:is.length=l.length)(H:HC n B l h):JV C fn tb k is ks Q l h:=λρ=>Ro a λb=>by
 subst b;exact WA.of (e ρ h) H
theorem JV.loop(n:Nat)(I:Nat->LP)(B:LP->YK n)(a:kR (fL C fn tb k ks Q).c=true)(b:(fL C fn tb k ks Q).ks=[])
  (e:∀(K:LP) (ρ:gB) (h:Hp),VA C fn.ntmps tb (jX C fn.ntmps tb {fL C fn tb k ks Q with ks:=[kf is K]} false) ρ h=HC n (B K) (is.map ρ) h)
  (d:∀m l h,l.length=n->I m l h->HC n (B (CE I m)) l h) (f:is.length=n) (hlen:is.length=l.length) (h0:I m l h):JV C fn tb k is ks Q l h:=λρ=>Ro hlen λg=>by
 subst g;exact WA.loop (λm ρ h=>I m (is.map ρ) h) a b (λm ρ h hi=>LA.of (e (CE I m) ρ h) (d m _ h (by rw[CD];exact f) hi)) h0
abbrev dF(k:Nat)(x:V)(h:Hp)(K:V->Prop):Prop:=oP (fH k x) λa=>oP (ez a h) K
abbrev dN(k:Nat)(x:V)(h:Hp)(K:V->Prop):Prop:=oP (ij x) λa=>dF k a h K
abbrev dI(n:Nat)(x i:V)(k:Nat)(h:Hp)(K:V->Prop):Prop:=oP (gD n x i) λa=>dF k a h K
abbrev dX(n:Nat)(x i:V)(h:Hp)(K:V->Prop):Prop:=oP (gD n x i) λa=>oP (ez a h) K
abbrev dG(k:Nat)(x:V)(h:Hp)(K:V->Prop):Prop:=dF k x h λa=>oP (fF a) K
abbrev dJ(k:Nat)(x:V)(n:Nat)(i:V)(j:Nat)(h:Hp)(K:V->Prop):Prop:=dF k x h λa=>dI n a i j h K
abbrev dY(k:Nat)(x:V)(n:Nat)(i:V)(h:Hp)(K:V->Prop):Prop:=dF k x h λa=>dX n a i h K
abbrev bO(o:BinOp)(t:Nat)(a b:V)(A B:Prop):Prop:=oP (eo o t a b) λv=>bP v A B
abbrev bN(a:V)(A B:Prop):Prop:=oP (qz .not a) λv=>bP v A B
theorem oF{k l o:Nat}{h:Hp}{v:V}{K:V->Prop}(a:ez (.ptr l (o+k)) h=some v)(b:K v):dF k (.ptr l o) h K:=j6.2 ⟨_,eJ _ _ _,j6.2 ⟨_,a,b⟩⟩
theorem oN{k l o:Nat}{h:Hp}{v:V}{K:V->Prop}(a:ez (.ptr l (o+k)) h=some v)(b:K v):dN k (.ptr l o) h K:=j6.2 ⟨_,fX _ _,oF a b⟩
theorem cP.vd{C:fu}{f:Nat}{fn:Func}(tb:List (Nat×List Nat)){args:List V}{h:Hp}{Q:fy}{P:Prop}(hs:C.start=fR)(b:P0.funcs[f]? =some fn)(c:C.K f args h=none)(H:P)
  (d:fn.body=some (HT fn):=by kernel_rfl) (a:Nat.ble args.length fn.ntmps=true:=by kernel_rfl) (e:VA C fn.ntmps tb (Wg fn [] Q) (IV args) h=P:=by kernel_rfl):cP C f args h Q:=cP.vc hs b d c a e H
abbrev S1(I:Nat->LP)(B:LP->fy):Prop:=∀(k:Nat) (a:V) (h:Hp),I k [a] h->B (CE I k) a h
abbrev R1(B:fy)(J:LP):Prop:=∀{a:V} {h:Hp},B a h->J [a] h
theorem JV.r1(B:fy)(e:∀(ρ:gB)(h:Hp),VA C fn.ntmps tb (fL C fn tb k ks Q) ρ h=HC 1 B (is.map ρ) h:=by intros;kernel_rfl)(a:is.length=1:=by rfl):R1 B (JV C fn tb k is ks Q):=λH=>JV.mk 1 B e a H
abbrev S2(I:Nat->LP)(B:LP->QP2):Prop:=∀(k:Nat) (a b:V) (h:Hp),I k [a,b] h->B (CE I k) a b h
abbrev R2(B:QP2)(J:LP):Prop:=∀{a b:V} {h:Hp},B a b h->J [a,b] h
theorem JV.l2(I:Nat->LP)(B:LP->QP2)(s:S2 I B)(i:I m l h)(g:l.length=2)(b:kR (fL C fn tb k ks Q).c=true:=by kernel_rfl)(d:(fL C fn tb k ks Q).ks=[]:=by kernel_rfl)
  (e:∀(K:LP) (ρ:gB) (h:Hp),VA C fn.ntmps tb (jX C fn.ntmps tb {fL C fn tb k ks Q with ks:=[kf is K]} false) ρ h=HC 2 (B K) (is.map ρ) h:=by intros;kernel_rfl) (a:is.length=2:=by rfl):JV C fn tb k is ks Q l h:=
 JV.loop 2 I B b d e (λk l h g i=>match l,g,i with|[f,j],_,i=>s k f j h i) a (a.trans g.symm) i
abbrev S3(I:Nat->LP)(B:LP->Rj):Prop:=∀(k:Nat) (a b c:V) (h:Hp),I k [a,b,c] h->B (CE I k) a b c h
abbrev R3(B:Rj)(J:LP):Prop:=∀{a b c:V} {h:Hp},B a b c h->J [a,b,c] h
theorem JV.l3(I:Nat->LP)(B:LP->Rj)(s:S3 I B)(i:I m l h)(g:l.length=3)(b:kR (fL C fn tb k ks Q).c=true:=by kernel_rfl)(d:(fL C fn tb k ks Q).ks=[]:=by kernel_rfl)
  (e:∀(K:LP) (ρ:gB) (h:Hp),VA C fn.ntmps tb (jX C fn.ntmps tb {fL C fn tb k ks Q with ks:=[kf is K]} false) ρ h=HC 3 (B K) (is.map ρ) h:=by intros;kernel_rfl) (a:is.length=3:=by rfl):JV C fn tb k is ks Q l h:=
 JV.loop 3 I B b d e (λk l h g i=>match l,g,i with|[f,j,n],_,i=>s k f j n h i) a (a.trans g.symm) i
abbrev S4(I:Nat->LP)(B:LP->Ku):Prop:=∀(k:Nat) (a b c d:V) (h:Hp),I k [a,b,c,d] h->B (CE I k) a b c d h
abbrev R4(B:Ku)(J:LP):Prop:=∀{a b c d:V} {h:Hp},B a b c d h->J [a,b,c,d] h
theorem JV.l4(I:Nat->LP)(B:LP->Ku)(s:S4 I B)(i:I m l h)(g:l.length=4)(b:kR (fL C fn tb k ks Q).c=true:=by kernel_rfl)(d:(fL C fn tb k ks Q).ks=[]:=by kernel_rfl)
  (e:∀(K:LP) (ρ:gB) (h:Hp),VA C fn.ntmps tb (jX C fn.ntmps tb {fL C fn tb k ks Q with ks:=[kf is K]} false) ρ h=HC 4 (B K) (is.map ρ) h:=by intros;kernel_rfl) (a:is.length=4:=by rfl):JV C fn tb k is ks Q l h:=
 JV.loop 4 I B b d e (λk l h g i=>match l,g,i with|[f,j,n,o],_,i=>s k f j n o h i) a (a.trans g.symm) i
theorem JV.r4(B:Ku)(e:∀(ρ:gB)(h:Hp),VA C fn.ntmps tb (fL C fn tb k ks Q) ρ h=HC 4 B (is.map ρ) h:=by intros;kernel_rfl)(a:is.length=4:=by rfl):R4 B (JV C fn tb k is ks Q):=λH=>JV.mk 4 B e a H
abbrev S5(I:Nat->LP)(B:LP->Jg):Prop:=∀(k:Nat) (a b c d e:V) (h:Hp),I k [a,b,c,d,e] h->B (CE I k) a b c d e h
abbrev R5(B:Jg)(J:LP):Prop:=∀{a b c d e:V} {h:Hp},B a b c d e h->J [a,b,c,d,e] h
theorem JV.l5(I:Nat->LP)(B:LP->Jg)(s:S5 I B)(i:I m l h)(g:l.length=5)(b:kR (fL C fn tb k ks Q).c=true:=by kernel_rfl)(d:(fL C fn tb k ks Q).ks=[]:=by kernel_rfl)
  (e:∀(K:LP) (ρ:gB) (h:Hp),VA C fn.ntmps tb (jX C fn.ntmps tb {fL C fn tb k ks Q with ks:=[kf is K]} false) ρ h=HC 5 (B K) (is.map ρ) h:=by intros;kernel_rfl) (a:is.length=5:=by rfl):JV C fn tb k is ks Q l h:=
 JV.loop 5 I B b d e (λk l h g i=>match l,g,i with|[f,j,n,o,p],_,i=>s k f j n o p h i) a (a.trans g.symm) i
abbrev S6(I:Nat->LP)(B:LP->Pd):Prop:=∀(k:Nat) (a b c d e f:V) (h:Hp),I k [a,b,c,d,e,f] h->B (CE I k) a b c d e f h
abbrev R6(B:Pd)(J:LP):Prop:=∀{a b c d e f:V} {h:Hp},B a b c d e f h->J [a,b,c,d,e,f] h
theorem JV.l6(I:Nat->LP)(B:LP->Pd)(s:S6 I B)(i:I m l h)(g:l.length=6)(b:kR (fL C fn tb k ks Q).c=true:=by kernel_rfl)(d:(fL C fn tb k ks Q).ks=[]:=by kernel_rfl)
  (e:∀(K:LP) (ρ:gB) (h:Hp),VA C fn.ntmps tb (jX C fn.ntmps tb {fL C fn tb k ks Q with ks:=[kf is K]} false) ρ h=HC 6 (B K) (is.map ρ) h:=by intros;kernel_rfl) (a:is.length=6:=by rfl):JV C fn tb k is ks Q l h:=
 JV.loop 6 I B b d e (λk l h g i=>match l,g,i with|[f,j,n,o,p,q],_,i=>s k f j n o p q h i) a (a.trans g.symm) i
theorem JV.r6(B:Pd)(e:∀(ρ:gB)(h:Hp),VA C fn.ntmps tb (fL C fn tb k ks Q) ρ h=HC 6 B (is.map ρ) h:=by intros;kernel_rfl)(a:is.length=6:=by rfl):R6 B (JV C fn tb k is ks Q):=λH=>JV.mk 6 B e a H
abbrev S7(I:Nat->LP)(B:LP->Pk):Prop:=∀(k:Nat) (a b c d e f g:V) (h:Hp),I k [a,b,c,d,e,f,g] h->B (CE I k) a b c d e f g h
abbrev R7(B:Pk)(J:LP):Prop:=∀{a b c d e f g:V} {h:Hp},B a b c d e f g h->J [a,b,c,d,e,f,g] h
theorem JV.l7(I:Nat->LP)(B:LP->Pk)(s:S7 I B)(i:I m l h)(g:l.length=7)(b:kR (fL C fn tb k ks Q).c=true:=by kernel_rfl)(d:(fL C fn tb k ks Q).ks=[]:=by kernel_rfl)
  (e:∀(K:LP) (ρ:gB) (h:Hp),VA C fn.ntmps tb (jX C fn.ntmps tb {fL C fn tb k ks Q with ks:=[kf is K]} false) ρ h=HC 7 (B K) (is.map ρ) h:=by intros;kernel_rfl) (a:is.length=7:=by rfl):JV C fn tb k is ks Q l h:=
 JV.loop 7 I B b d e (λk l h g i=>match l,g,i with|[f,j,n,o,p,q,r],_,i=>s k f j n o p q r h i) a (a.trans g.symm) i
theorem JV.r7(B:Pk)(e:∀(ρ:gB)(h:Hp),VA C fn.ntmps tb (fL C fn tb k ks Q) ρ h=HC 7 B (is.map ρ) h:=by intros;kernel_rfl)(a:is.length=7:=by rfl):R7 B (JV C fn tb k is ks Q):=λH=>JV.mk 7 B e a H
abbrev S8(I:Nat->LP)(B:LP->KP):Prop:=∀(k:Nat) (a b c d e f g i:V) (h:Hp),I k [a,b,c,d,e,f,g,i] h->B (CE I k) a b c d e f g i h
abbrev R8(B:KP)(J:LP):Prop:=∀{a b c d e f g i:V} {h:Hp},B a b c d e f g i h->J [a,b,c,d,e,f,g,i] h
theorem JV.l8(I:Nat->LP)(B:LP->KP)(s:S8 I B)(i:I m l h)(g:l.length=8)(b:kR (fL C fn tb k ks Q).c=true:=by kernel_rfl)(d:(fL C fn tb k ks Q).ks=[]:=by kernel_rfl)
  (e:∀(K:LP) (ρ:gB) (h:Hp),VA C fn.ntmps tb (jX C fn.ntmps tb {fL C fn tb k ks Q with ks:=[kf is K]} false) ρ h=HC 8 (B K) (is.map ρ) h:=by intros;kernel_rfl) (a:is.length=8:=by rfl):JV C fn tb k is ks Q l h:=
 JV.loop 8 I B b d e (λk l h g i=>match l,g,i with|[f,j,n,o,p,q,r,t],_,i=>s k f j n o p q r t h i) a (a.trans g.symm) i
theorem JV.r8(B:KP)(e:∀(ρ:gB)(h:Hp),VA C fn.ntmps tb (fL C fn tb k ks Q) ρ h=HC 8 B (is.map ρ) h:=by intros;kernel_rfl)(a:is.length=8:=by rfl):R8 B (JV C fn tb k is ks Q):=λH=>JV.mk 8 B e a H
abbrev S9(I:Nat->LP)(B:LP->QP9):Prop:=∀(k:Nat) (a b c d e f g i j:V) (h:Hp),I k [a,b,c,d,e,f,g,i,j] h->B (CE I k) a b c d e f g i j h
abbrev R9(B:QP9)(J:LP):Prop:=∀{a b c d e f g i j:V} {h:Hp},B a b c d e f g i j h->J [a,b,c,d,e,f,g,i,j] h
theorem JV.l9(I:Nat->LP)(B:LP->QP9)(s:S9 I B)(i:I m l h)(g:l.length=9)(b:kR (fL C fn tb k ks Q).c=true:=by kernel_rfl)(d:(fL C fn tb k ks Q).ks=[]:=by kernel_rfl)
  (e:∀(K:LP) (ρ:gB) (h:Hp),VA C fn.ntmps tb (jX C fn.ntmps tb {fL C fn tb k ks Q with ks:=[kf is K]} false) ρ h=HC 9 (B K) (is.map ρ) h:=by intros;kernel_rfl) (a:is.length=9:=by rfl):JV C fn tb k is ks Q l h:=
 JV.loop 9 I B b d e (λk l h g i=>match l,g,i with|[f,j,n,o,p,q,r,t,u],_,i=>s k f j n o p q r t u h i) a (a.trans g.symm) i
theorem JV.r9(B:QP9)(e:∀(ρ:gB)(h:Hp),VA C fn.ntmps tb (fL C fn tb k ks Q) ρ h=HC 9 B (is.map ρ) h:=by intros;kernel_rfl)(a:is.length=9:=by rfl):R9 B (JV C fn tb k is ks Q):=λH=>JV.mk 9 B e a H
abbrev S10(I:Nat->LP)(B:LP->JX):Prop:=∀(k:Nat) (b c d e f g i j l a:V) (h:Hp),I k [b,c,d,e,f,g,i,j,l,a] h->B (CE I k) b c d e f g i j l a h
abbrev DL(B:JX)(J:LP):Prop:=∀{b c d e f g i j k a:V} {h:Hp},B b c d e f g i j k a h->J [b,c,d,e,f,g,i,j,k,a] h
theorem JV.l10(I:Nat->LP)(B:LP->JX)(s:S10 I B)(i:I m l h)(g:l.length=10)(d:kR (fL C fn tb k ks Q).c=true:=by kernel_rfl)(f:(fL C fn tb k ks Q).ks=[]:=by kernel_rfl)
  (e:∀(K:LP) (ρ:gB) (h:Hp),VA C fn.ntmps tb (jX C fn.ntmps tb {fL C fn tb k ks Q with ks:=[kf is K]} false) ρ h=HC 10 (B K) (is.map ρ) h:=by intros;kernel_rfl) (b:is.length=10:=by rfl):JV C fn tb k is ks Q l h:=
 JV.loop 10 I B d f e (λk l h g i=>match l,g,i with|[j,n,o,p,q,r,t,u,v,a],_,i=>s k j n o p q r t u v a h i) b (b.trans g.symm) i
theorem JV.Vs(B:JX)(e:∀(ρ:gB)(h:Hp),VA C fn.ntmps tb (fL C fn tb k ks Q) ρ h=HC 10 B (is.map ρ) h:=by intros;kernel_rfl)(a:is.length=10:=by rfl):DL B (JV C fn tb k is ks Q):=λH=>JV.mk 10 B e a H
abbrev S11(I:Nat->LP)(B:LP->EO):Prop:=∀(k:Nat) (c d e f g i j l m a b:V) (h:Hp),I k [c,d,e,f,g,i,j,l,m,a,b] h->B (CE I k) c d e f g i j l m a b h
abbrev R11(B:EO)(J:LP):Prop:=∀{c d e f g i j k l a b:V} {h:Hp},B c d e f g i j k l a b h->J [c,d,e,f,g,i,j,k,l,a,b] h
theorem JV.l11(I:Nat->LP)(B:LP->EO)(s:S11 I B)(i:I m l h)(g:l.length=11)(f:kR (fL C fn tb k ks Q).c=true:=by kernel_rfl)(j:(fL C fn tb k ks Q).ks=[]:=by kernel_rfl)
  (e:∀(K:LP) (ρ:gB) (h:Hp),VA C fn.ntmps tb (jX C fn.ntmps tb {fL C fn tb k ks Q with ks:=[kf is K]} false) ρ h=HC 11 (B K) (is.map ρ) h:=by intros;kernel_rfl) (d:is.length=11:=by rfl):JV C fn tb k is ks Q l h:=
 JV.loop 11 I B f j e (λk l h g i=>match l,g,i with|[n,o,p,q,r,t,u,v,w,a,b],_,i=>s k n o p q r t u v w a b h i) d (d.trans g.symm) i
abbrev S12(I:Nat->LP)(B:LP->Zk):Prop:=∀(k:Nat) (d e f g i j l m n a b c:V) (h:Hp),I k [d,e,f,g,i,j,l,m,n,a,b,c] h->B (CE I k) d e f g i j l m n a b c h
abbrev R12(B:Zk)(J:LP):Prop:=∀{d e f g i j k l m a b c:V} {h:Hp},B d e f g i j k l m a b c h->J [d,e,f,g,i,j,k,l,m,a,b,c] h
theorem JV.l12(I:Nat->LP)(B:LP->Zk)(s:S12 I B)(i:I m l h)(g:l.length=12)(j:kR (fL C fn tb k ks Q).c=true:=by kernel_rfl)(n:(fL C fn tb k ks Q).ks=[]:=by kernel_rfl)
  (e:∀(K:LP) (ρ:gB) (h:Hp),VA C fn.ntmps tb (jX C fn.ntmps tb {fL C fn tb k ks Q with ks:=[kf is K]} false) ρ h=HC 12 (B K) (is.map ρ) h:=by intros;kernel_rfl) (f:is.length=12:=by rfl):JV C fn tb k is ks Q l h:=
 JV.loop 12 I B j n e (λk l h g i=>match l,g,i with|[o,p,q,r,t,u,v,w,x,a,b,d],_,i=>s k o p q r t u v w x a b d h i) f (f.trans g.symm) i
theorem JV.r12(B:Zk)(e:∀(ρ:gB)(h:Hp),VA C fn.ntmps tb (fL C fn tb k ks Q) ρ h=HC 12 B (is.map ρ) h:=by intros;kernel_rfl)(a:is.length=12:=by rfl):R12 B (JV C fn tb k is ks Q):=λH=>JV.mk 12 B e a H
abbrev S13(I:Nat->LP)(B:LP->Hn):Prop:=∀(k:Nat) (e f g i j l m n o a b c d:V) (h:Hp),I k [e,f,g,i,j,l,m,n,o,a,b,c,d] h->B (CE I k) e f g i j l m n o a b c d h
abbrev R13(B:Hn)(J:LP):Prop:=∀{e f g i j k l m n a b c d:V} {h:Hp},B e f g i j k l m n a b c d h->J [e,f,g,i,j,k,l,m,n,a,b,c,d] h
theorem JV.l13(I:Nat->LP)(B:LP->Hn)(s:S13 I B)(i:I m l h)(g:l.length=13)(n:kR (fL C fn tb k ks Q).c=true:=by kernel_rfl)(o:(fL C fn tb k ks Q).ks=[]:=by kernel_rfl)
  (e:∀(K:LP) (ρ:gB) (h:Hp),VA C fn.ntmps tb (jX C fn.ntmps tb {fL C fn tb k ks Q with ks:=[kf is K]} false) ρ h=HC 13 (B K) (is.map ρ) h:=by intros;kernel_rfl) (j:is.length=13:=by rfl):JV C fn tb k is ks Q l h:=
 JV.loop 13 I B n o e (λk l h g i=>match l,g,i with|[p,q,r,t,u,v,w,x,y,a,b,d,f],_,i=>s k p q r t u v w x y a b d f h i) j (j.trans g.symm) i
theorem JV.r13(B:Hn)(e:∀(ρ:gB)(h:Hp),VA C fn.ntmps tb (fL C fn tb k ks Q) ρ h=HC 13 B (is.map ρ) h:=by intros;kernel_rfl)(a:is.length=13:=by rfl):R13 B (JV C fn tb k is ks Q):=λH=>JV.mk 13 B e a H
abbrev S14(I:Nat->LP)(B:LP->ZF):Prop:=∀(k:Nat) (f g i j l m n o p a b c d e:V) (h:Hp),I k [f,g,i,j,l,m,n,o,p,a,b,c,d,e] h->B (CE I k) f g i j l m n o p a b c d e h
abbrev R14(B:ZF)(J:LP):Prop:=∀{f g i j k l m n o a b c d e:V} {h:Hp},B f g i j k l m n o a b c d e h->J [f,g,i,j,k,l,m,n,o,a,b,c,d,e] h
theorem JV.l14(I:Nat->LP)(B:LP->ZF)(s:S14 I B)(i:I m l h)(g:l.length=14)(o:kR (fL C fn tb k ks Q).c=true:=by kernel_rfl)(p:(fL C fn tb k ks Q).ks=[]:=by kernel_rfl)
  (e:∀(K:LP) (ρ:gB) (h:Hp),VA C fn.ntmps tb (jX C fn.ntmps tb {fL C fn tb k ks Q with ks:=[kf is K]} false) ρ h=HC 14 (B K) (is.map ρ) h:=by intros;kernel_rfl) (n:is.length=14:=by rfl):JV C fn tb k is ks Q l h:=
 JV.loop 14 I B o p e (λk l h g i=>match l,g,i with|[q,r,t,u,v,w,x,y,z,a,b,d,f,j],_,i=>s k q r t u v w x y z a b d f j h i) n (n.trans g.symm) i
theorem JV.r14(B:ZF)(e:∀(ρ:gB)(h:Hp),VA C fn.ntmps tb (fL C fn tb k ks Q) ρ h=HC 14 B (is.map ρ) h:=by intros;kernel_rfl)(a:is.length=14:=by rfl):R14 B (JV C fn tb k is ks Q):=λH=>JV.mk 14 B e a H
abbrev R15(B:zcp)(J:LP):Prop:=∀{g i j k l m n o p a b c d e f:V} {h:Hp},B g i j k l m n o p a b c d e f h->J [g,i,j,k,l,m,n,o,p,a,b,c,d,e,f] h
theorem JV.r15(B:zcp)(e:∀(ρ:gB)(h:Hp),VA C fn.ntmps tb (fL C fn tb k ks Q) ρ h=HC 15 B (is.map ρ) h:=by intros;kernel_rfl)(a:is.length=15:=by rfl):R15 B (JV C fn tb k is ks Q):=λH=>JV.mk 15 B e a H
abbrev S17(I:Nat->LP)(B:LP->zaT):Prop:=∀(k:Nat) (j l m n o p q r s a b c d e f g i:V) (h:Hp),I k [j,l,m,n,o,p,q,r,s,a,b,c,d,e,f,g,i] h->B (CE I k) j l m n o p q r s a b c d e f g i h
abbrev R17(B:zaT)(J:LP):Prop:=∀{j k l m n o p q r a b c d e f g i:V} {h:Hp},B j k l m n o p q r a b c d e f g i h->J [j,k,l,m,n,o,p,q,r,a,b,c,d,e,f,g,i] h
theorem JV.l17(I:Nat->LP)(B:LP->zaT)(s:S17 I B)(i:I m l h)(g:l.length=17)(r:kR (fL C fn tb k ks Q).c=true:=by kernel_rfl)(t:(fL C fn tb k ks Q).ks=[]:=by kernel_rfl)
  (e:∀(K:LP) (ρ:gB) (h:Hp),VA C fn.ntmps tb (jX C fn.ntmps tb {fL C fn tb k ks Q with ks:=[kf is K]} false) ρ h=HC 17 (B K) (is.map ρ) h:=by intros;kernel_rfl) (q:is.length=17:=by rfl):JV C fn tb k is ks Q l h:=
 JV.loop 17 I B r t e (λk l h g i=>match l,g,i with|[u,v,w,x,y,z,A,D,E,a,b,d,f,j,n,o,p],_,i=>s k u v w x y z A D E a b d f j n o p h i) q (q.trans g.symm) i
abbrev S18(I:Nat->LP)(B:LP->za5):Prop:=∀(k:Nat) (l m n o p q r s t a b c d e f g i j:V) (h:Hp),I k [l,m,n,o,p,q,r,s,t,a,b,c,d,e,f,g,i,j] h->B (CE I k) l m n o p q r s t a b c d e f g i j h
abbrev R18(B:za5)(J:LP):Prop:=∀{k l m n o p q r s a b c d e f g i j:V} {h:Hp},B k l m n o p q r s a b c d e f g i j h->J [k,l,m,n,o,p,q,r,s,a,b,c,d,e,f,g,i,j] h
theorem JV.l18(I:Nat->LP)(B:LP->za5)(s:S18 I B)(i:I m l h)(g:l.length=18)(t:kR (fL C fn tb k ks Q).c=true:=by kernel_rfl)(u:(fL C fn tb k ks Q).ks=[]:=by kernel_rfl)
  (e:∀(K:LP) (ρ:gB) (h:Hp),VA C fn.ntmps tb (jX C fn.ntmps tb {fL C fn tb k ks Q with ks:=[kf is K]} false) ρ h=HC 18 (B K) (is.map ρ) h:=by intros;kernel_rfl) (r:is.length=18:=by rfl):JV C fn tb k is ks Q l h:=
 JV.loop 18 I B t u e (λk l h g i=>match l,g,i with|[v,w,x,y,z,A,D,E,F,a,b,d,f,j,n,o,p,q],_,i=>s k v w x y z A D E F a b d f j n o p q h i) r (r.trans g.symm) i
abbrev nZ:V:= .int .i64 0
abbrev nO:V:= .int .i64 1
abbrev nS:V:= .ee
abbrev bT:V:= .bool true
abbrev bF:V:= .bool false
abbrev zC(T:Nat)(l:List V):Option (O×(Nat->V)):=some (.cells T 1 true false l,λl=> .ptr l 0)
abbrev P2(I:Nat->QP2)(B:(QP2)->QP2):Prop:=∀(k:Nat) (a b:V) (h:Hp),I k a b h->B (λa b h=>∃k',k' < k/\I k' a b h) a b h
abbrev P3(I:Nat->Rj)(B:(Rj)->Rj):Prop:=∀(k:Nat) (a b c:V) (h:Hp),I k a b c h->B (λa b c h=>∃k',k' < k/\I k' a b c h) a b c h
theorem WA.l3{a b d:Nat}{f i j:V}(I:Nat->Rj)(B:(Rj)->Rj)(s:P3 I B)(g:I m f i j h)(l:kR (fL C fn tb k ks Q).c=true:=by kernel_rfl)(n:(fL C fn tb k ks Q).ks=[]:=by kernel_rfl)
  (e:∀(K:Rj) (ρ:gB) (h:Hp),VA C fn.ntmps tb (jX C fn.ntmps tb {fL C fn tb k ks Q with ks:=[λρ h=>K (ρ a) (ρ b) (ρ d) h]} false) ρ h=B K (ρ a) (ρ b) (ρ d) h:=by intros;kernel_rfl):∀ρ:gB,ρ a=f->ρ b=i->ρ d=j->WA C fn tb k ks Q ρ h:=by
 rintro ρ rfl rfl rfl;exact WA.loop (λk ρ h=>I k (ρ a) (ρ b) (ρ d) h) l n (λk ρ h hi=>LA.of (e (λf i j h=>∃k',k' < k/\I k' f i j h) ρ h) (s k (ρ a) (ρ b) (ρ d) h hi)) g
abbrev P4(I:Nat->Ku)(B:(Ku)->Ku):Prop:=∀(k:Nat) (a b c d:V) (h:Hp),I k a b c d h->B (λa b c d h=>∃k',k' < k/\I k' a b c d h) a b c d h
theorem WA.l4{a b d f:Nat}{i j l n:V}(I:Nat->Ku)(B:(Ku)->Ku)(s:P4 I B)(g:I m i j l n h)(o:kR (fL C fn tb k ks Q).c=true:=by kernel_rfl)(p:(fL C fn tb k ks Q).ks=[]:=by kernel_rfl)
  (e:∀(K:Ku) (ρ:gB) (h:Hp),VA C fn.ntmps tb (jX C fn.ntmps tb {fL C fn tb k ks Q with ks:=[λρ h=>K (ρ a) (ρ b) (ρ d) (ρ f) h]} false) ρ h=B K (ρ a) (ρ b) (ρ d) (ρ f) h:=by intros;kernel_rfl):∀ρ:gB,ρ a=i->ρ b=j->ρ d=l->ρ f=n->WA C fn tb k ks Q ρ h:=by
 rintro ρ rfl rfl rfl rfl;exact WA.loop (λk ρ h=>I k (ρ a) (ρ b) (ρ d) (ρ f) h) o p (λk ρ h hi=>LA.of (e (λi j l n h=>∃k',k' < k/\I k' i j l n h) ρ h) (s k (ρ a) (ρ b) (ρ d) (ρ f) h hi)) g
abbrev P5(I:Nat->Jg)(B:(Jg)->Jg):Prop:=∀(k:Nat) (a b c d e:V) (h:Hp),I k a b c d e h->B (λa b c d e h=>∃k',k' < k/\I k' a b c d e h) a b c d e h
theorem WA.l5{a b d f i5:Nat}{i j l n o:V}(I:Nat->Jg)(B:(Jg)->Jg)(s:P5 I B)(g:I m i j l n o h)(p:kR (fL C fn tb k ks Q).c=true:=by kernel_rfl)(q:(fL C fn tb k ks Q).ks=[]:=by kernel_rfl)
  (e:∀(K:Jg) (ρ:gB) (h:Hp),VA C fn.ntmps tb (jX C fn.ntmps tb {fL C fn tb k ks Q with ks:=[λρ h=>K (ρ a) (ρ b) (ρ d) (ρ f) (ρ i5) h]} false) ρ h=B K (ρ a) (ρ b) (ρ d) (ρ f) (ρ i5) h:=by intros;kernel_rfl):∀ρ:gB,ρ a=i->ρ b=j->ρ d=l->ρ f=n->ρ i5=o->WA C fn tb k ks Q ρ h:=by
 rintro ρ rfl rfl rfl rfl rfl;exact WA.loop (λk ρ h=>I k (ρ a) (ρ b) (ρ d) (ρ f) (ρ i5) h) p q (λk ρ h hi=>LA.of (e (λi j l n o h=>∃k',k' < k/\I k' i j l n o h) ρ h) (s k (ρ a) (ρ b) (ρ d) (ρ f) (ρ i5) h hi)) g
abbrev P6(I:Nat->Pd)(B:(Pd)->Pd):Prop:=∀(k:Nat) (a b c d e f:V) (h:Hp),I k a b c d e f h->B (λa b c d e f h=>∃k',k' < k/\I k' a b c d e f h) a b c d e f h
theorem WA.l6{a b d f i5 i6:Nat}{i j l n o p:V}(I:Nat->Pd)(B:(Pd)->Pd)(s:P6 I B)(g:I m i j l n o p h)(q:kR (fL C fn tb k ks Q).c=true:=by kernel_rfl)(r:(fL C fn tb k ks Q).ks=[]:=by kernel_rfl)
  (e:∀(K:Pd) (ρ:gB) (h:Hp),VA C fn.ntmps tb (jX C fn.ntmps tb {fL C fn tb k ks Q with ks:=[λρ h=>K (ρ a) (ρ b) (ρ d) (ρ f) (ρ i5) (ρ i6) h]} false) ρ h=B K (ρ a) (ρ b) (ρ d) (ρ f) (ρ i5) (ρ i6) h:=by intros;kernel_rfl):∀ρ:gB,ρ a=i->ρ b=j->ρ d=l->ρ f=n->ρ i5=o->ρ i6=p->WA C fn tb k ks Q ρ h:=by
 rintro ρ rfl rfl rfl rfl rfl rfl;exact WA.loop (λk ρ h=>I k (ρ a) (ρ b) (ρ d) (ρ f) (ρ i5) (ρ i6) h) q r (λk ρ h hi=>LA.of (e (λi j l n o p h=>∃k',k' < k/\I k' i j l n o p h) ρ h) (s k (ρ a) (ρ b) (ρ d) (ρ f) (ρ i5) (ρ i6) h hi)) g
abbrev P7(I:Nat->Pk)(B:(Pk)->Pk):Prop:=∀(k:Nat) (a b c d e f g:V) (h:Hp),I k a b c d e f g h->B (λa b c d e f g h=>∃k',k' < k/\I k' a b c d e f g h) a b c d e f g h
theorem WA.l7{a b d f i5 i6 i:Nat}{j l n o p q r:V}(I:Nat->Pk)(B:(Pk)->Pk)(s:P7 I B)(g:I m j l n o p q r h)(t:kR (fL C fn tb k ks Q).c=true:=by kernel_rfl)(u:(fL C fn tb k ks Q).ks=[]:=by kernel_rfl)
  (e:∀(K:Pk) (ρ:gB) (h:Hp),VA C fn.ntmps tb (jX C fn.ntmps tb {fL C fn tb k ks Q with ks:=[λρ h=>K (ρ a) (ρ b) (ρ d) (ρ f) (ρ i5) (ρ i6) (ρ i) h]} false) ρ h=B K (ρ a) (ρ b) (ρ d) (ρ f) (ρ i5) (ρ i6) (ρ i) h:=by intros;kernel_rfl):∀ρ:gB,ρ a=j->ρ b=l->ρ d=n->ρ f=o->ρ i5=p->ρ i6=q->ρ i=r->WA C fn tb k ks Q ρ h:=by
 rintro ρ rfl rfl rfl rfl rfl rfl rfl;exact WA.loop (λk ρ h=>I k (ρ a) (ρ b) (ρ d) (ρ f) (ρ i5) (ρ i6) (ρ i) h) t u (λk ρ h hi=>LA.of (e (λj l n o p q r h=>∃k',k' < k/\I k' j l n o p q r h) ρ h) (s k (ρ a) (ρ b) (ρ d) (ρ f) (ρ i5) (ρ i6) (ρ i) h hi)) g
abbrev P8(I:Nat->KP)(B:(KP)->KP):Prop:=∀(k:Nat) (a b c d e f g i:V) (h:Hp),I k a b c d e f g i h->B (λa b c d e f g i h=>∃k',k' < k/\I k' a b c d e f g i h) a b c d e f g i h
theorem WA.l8{a b d f i5 i6 i j:Nat}{l n o p q r t u:V}(I:Nat->KP)(B:(KP)->KP)(s:P8 I B)(g:I m l n o p q r t u h)(v:kR (fL C fn tb k ks Q).c=true:=by kernel_rfl)(w:(fL C fn tb k ks Q).ks=[]:=by kernel_rfl)
  (e:∀(K:KP) (ρ:gB) (h:Hp),VA C fn.ntmps tb (jX C fn.ntmps tb {fL C fn tb k ks Q with ks:=[λρ h=>K (ρ a) (ρ b) (ρ d) (ρ f) (ρ i5) (ρ i6) (ρ i) (ρ j) h]} false) ρ h=B K (ρ a) (ρ b) (ρ d) (ρ f) (ρ i5) (ρ i6) (ρ i) (ρ j) h:=by intros;kernel_rfl):∀ρ:gB,ρ a=l->ρ b=n->ρ d=o->ρ f=p->ρ i5=q->ρ i6=r->ρ i=t->ρ j=u->WA C fn tb k ks Q ρ h:=by
 rintro ρ rfl rfl rfl rfl rfl rfl rfl rfl;exact WA.loop (λk ρ h=>I k (ρ a) (ρ b) (ρ d) (ρ f) (ρ i5) (ρ i6) (ρ i) (ρ j) h) v w (λk ρ h hi=>LA.of (e (λl n o p q r t u h=>∃k',k' < k/\I k' l n o p q r t u h) ρ h) (s k (ρ a) (ρ b) (ρ d) (ρ f) (ρ i5) (ρ i6) (ρ i) (ρ j) h hi)) g
abbrev P10(I:Nat->JX)(B:(JX)->JX):Prop:=∀(k:Nat) (b c d e f g i j l a:V) (h:Hp),I k b c d e f g i j l a h->B (λb c d e f g i j l a h=>∃k',k' < k/\I k' b c d e f g i j l a h) b c d e f g i j l a h
theorem WA.l10{d f i j i5 i6 l n o a:Nat}{p q r t u v w x y b:V}(I:Nat->JX)(B:(JX)->JX)(s:P10 I B)(g:I m p q r t u v w x y b h)(z:kR (fL C fn tb k ks Q).c=true:=by kernel_rfl)(A:(fL C fn tb k ks Q).ks=[]:=by kernel_rfl)
  (e:∀(K:JX) (ρ:gB) (h:Hp),VA C fn.ntmps tb (jX C fn.ntmps tb {fL C fn tb k ks Q with ks:=[λρ h=>K (ρ d) (ρ f) (ρ i) (ρ j) (ρ i5) (ρ i6) (ρ l) (ρ n) (ρ o) (ρ a) h]} false) ρ h=B K (ρ d) (ρ f) (ρ i) (ρ j) (ρ i5) (ρ i6) (ρ l) (ρ n) (ρ o) (ρ a) h:=by intros;kernel_rfl):∀ρ:gB,ρ d=p->ρ f=q->ρ i=r->ρ j=t->ρ i5=u->ρ i6=v->ρ l=w->ρ n=x->ρ o=y->ρ a=b->WA C fn tb k ks Q ρ h:=by
 rintro ρ rfl rfl rfl rfl rfl rfl rfl rfl rfl rfl;exact WA.loop (λk ρ h=>I k (ρ d) (ρ f) (ρ i) (ρ j) (ρ i5) (ρ i6) (ρ l) (ρ n) (ρ o) (ρ a) h) z A (λk ρ h hi=>LA.of (e (λp q r t u v w x y b h=>∃k',k' < k/\I k' p q r t u v w x y b h) ρ h) (s k (ρ d) (ρ f) (ρ i) (ρ j) (ρ i5) (ρ i6) (ρ l) (ρ n) (ρ o) (ρ a) h hi)) g
abbrev P11(I:Nat->EO)(B:(EO)->EO):Prop:=∀(k:Nat) (c d e f g i j l m a b:V) (h:Hp),I k c d e f g i j l m a b h->B (λc d e f g i j l m a b h=>∃k',k' < k/\I k' c d e f g i j l m a b h) c d e f g i j l m a b h
theorem WA.l11{i j l n i5 i6 o p q a b:Nat}{r t u v w x y z A d f:V}(I:Nat->EO)(B:(EO)->EO)(s:P11 I B)(g:I m r t u v w x y z A d f h)(D:kR (fL C fn tb k ks Q).c=true:=by kernel_rfl)(E:(fL C fn tb k ks Q).ks=[]:=by kernel_rfl)
  (e:∀(K:EO) (ρ:gB) (h:Hp),VA C fn.ntmps tb (jX C fn.ntmps tb {fL C fn tb k ks Q with ks:=[λρ h=>K (ρ i) (ρ j) (ρ l) (ρ n) (ρ i5) (ρ i6) (ρ o) (ρ p) (ρ q) (ρ a) (ρ b) h]} false) ρ h=B K (ρ i) (ρ j) (ρ l) (ρ n) (ρ i5) (ρ i6) (ρ o) (ρ p) (ρ q) (ρ a) (ρ b) h:=by intros;kernel_rfl):∀ρ:gB,ρ i=r->ρ j=t->ρ l=u->ρ n=v->ρ i5=w->ρ i6=x->ρ o=y->ρ p=z->ρ q=A->ρ a=d->ρ b=f->WA C fn tb k ks Q ρ h:=by
 rintro ρ rfl rfl rfl rfl rfl rfl rfl rfl rfl rfl rfl;exact WA.loop (λk ρ h=>I k (ρ i) (ρ j) (ρ l) (ρ n) (ρ i5) (ρ i6) (ρ o) (ρ p) (ρ q) (ρ a) (ρ b) h) D E (λk ρ h hi=>LA.of (e (λr t u v w x y z A d f h=>∃k',k' < k/\I k' r t u v w x y z A d f h) ρ h) (s k (ρ i) (ρ j) (ρ l) (ρ n) (ρ i5) (ρ i6) (ρ o) (ρ p) (ρ q) (ρ a) (ρ b) h hi)) g
abbrev P13(I:Nat->Hn)(B:(Hn)->Hn):Prop:=∀(k:Nat) (e f g i j l m n o a b c d:V) (h:Hp),I k e f g i j l m n o a b c d h->B (λe f g i j l m n o a b c d h=>∃k',k' < k/\I k' e f g i j l m n o a b c d h) e f g i j l m n o a b c d h
theorem WA.l13{o p q r i5 i6 t u v a b d f:Nat}{w x y z A D E F G i j l n:V}(I:Nat->Hn)(B:(Hn)->Hn)(s:P13 I B)(g:I m w x y z A D E F G i j l n h)(H:kR (fL C fn tb k ks Q).c=true:=by kernel_rfl)(J:(fL C fn tb k ks Q).ks=[]:=by kernel_rfl)
  (e:∀(K:Hn) (ρ:gB) (h:Hp),VA C fn.ntmps tb (jX C fn.ntmps tb {fL C fn tb k ks Q with ks:=[λρ h=>K (ρ o) (ρ p) (ρ q) (ρ r) (ρ i5) (ρ i6) (ρ t) (ρ u) (ρ v) (ρ a) (ρ b) (ρ d) (ρ f) h]} false) ρ h=B K (ρ o) (ρ p) (ρ q) (ρ r) (ρ i5) (ρ i6) (ρ t) (ρ u) (ρ v) (ρ a) (ρ b) (ρ d) (ρ f) h:=by intros;kernel_rfl):∀ρ:gB,ρ o=w->ρ p=x->ρ q=y->ρ r=z->ρ i5=A->ρ i6=D->ρ t=E->ρ u=F->ρ v=G->ρ a=i->ρ b=j->ρ d=l->ρ f=n->WA C fn tb k ks Q ρ h:=by
 rintro ρ rfl rfl rfl rfl rfl rfl rfl rfl rfl rfl rfl rfl rfl;exact WA.loop (λk ρ h=>I k (ρ o) (ρ p) (ρ q) (ρ r) (ρ i5) (ρ i6) (ρ t) (ρ u) (ρ v) (ρ a) (ρ b) (ρ d) (ρ f) h) H J (λk ρ h hi=>LA.of (e (λw x y z A D E F G i j l n h=>∃k',k' < k/\I k' w x y z A D E F G i j l n h) ρ h) (s k (ρ o) (ρ p) (ρ q) (ρ r) (ρ i5) (ρ i6) (ρ t) (ρ u) (ρ v) (ρ a) (ρ b) (ρ d) (ρ f) h hi)) g
end
