/- Parts. -/
import Derived.Test.YtflkbfabonggkaaGreatDoorM09
set_option maxHeartbeats 4000000
namespace Go.Proofs.YtflkbfabonggkaaGreatDoor.Hx
abbrev XQ:=X->gD->Hp->Prop
abbrev ft:=V->Hp->Prop
abbrev QP2:=V->V->Hp->Prop
abbrev Rk:=V->V->V->Hp->Prop
abbrev LX:=V->V->V->V->Hp->Prop
abbrev J0:=V->V->V->V->V->Hp->Prop
abbrev Qg:=V->V->V->V->V->V->Hp->Prop
abbrev Q0:=V->V->V->V->V->V->V->Hp->Prop
abbrev L0:=V->V->V->V->V->V->V->V->Hp->Prop
abbrev QP9:=V->V->V->V->V->V->V->V->V->Hp->Prop
abbrev K9:=V->V->V->V->V->V->V->V->V->V->Hp->Prop
abbrev Fx:=V->V->V->V->V->V->V->V->V->V->V->Hp->Prop
abbrev za6:=V->V->V->V->V->V->V->V->V->V->V->V->Hp->Prop
abbrev IP:=V->V->V->V->V->V->V->V->V->V->V->V->V->Hp->Prop
abbrev Z5:=V->V->V->V->V->V->V->V->V->V->V->V->V->V->Hp->Prop
abbrev zeb:=V->V->V->V->V->V->V->V->V->V->V->V->V->V->V->Hp->Prop
abbrev zcn:=V->V->V->V->V->V->V->V->V->V->V->V->V->V->V->V->V->Hp->Prop
abbrev zcQ:=V->V->V->V->V->V->V->V->V->V->V->V->V->V->V->V->V->V->Hp->Prop
def isVal(o:Oper):Bool:=match o.op with
 | .move x| .assign x=>Qk x
 | .makeFunc _ _ _=>true
 | .makeInterface _ x=>Qk x
 |_=>false
theorem WC{o:Oper} (h:isVal o=true):cls o=0:=by
 grind[isVal,cls]
def opV(C:fm) (o:Oper) (K:V->gD->Hp->Prop):gD->Hp->Prop:=match isVal o with
 |true=>λρ h=>Option.rec (motive:=λ_=>Prop) False (λv=>K v ρ h) ((iL o).f (.fn ρ []) h)
 |false=>QZ C o K
theorem zdf(C:fm) (o:Oper) (K:V->gD->Hp->Prop):opV C o K=QZ C o K:=by
 unfold opV
 cases hv:isVal o with
 |false=>rfl
 | true=>
   unfold QZ;rw[WC hv];rfl
def Vy(C:fm) (n:Nat) (all:List Oper) (o:Oper) (K:gD->Hp->Prop):gD->Hp->Prop:=match AX o with
 |some _=>λ_ _=>False
 | none=>match kU n all o with
   |none=>opV C o (po n o K)
   |some g=>λρ h=>oP (g.f (.fn ρ [])) λb=>ZO C o b (po n o K) ρ h
noncomputable section
inductive Gs where
 |last (o:Oper) (d:Nat)
 |op (o:Oper) (d:Nat) (a:Gs)
 |nest (w:Bool) (d:Nat) (sub:Gs) (o:Oper) (b:Nat) (a:Gs)
 |FP (w:Bool) (d:Nat) (sub:Gs) (o:Oper) (b:Nat)
def Gs.dst:Gs->Nat
 | .last _ d=>d
 | .op _ _ r=>r.dst
 | .nest _ _ _ _ _ r=>r.dst
 | .FP _ _ _ _ a=>a
def Gs.ops:Gs->List Oper
 | .last o _=>[o]
 | .op o _ r=>o::r.ops
 | .nest _ _ s o _ r=>s.ops++o::r.ops
 | .FP _ _ s o _=>s.ops++[o]
def gA(w:Bool) (c:V) (x:Option V):Option V:=match w with
 |true=>jO c x
 |false=>nP c x
def Qh(b:Bool)(x:Option V):V:=Bool.rec (motive:=λ_=>V) V.undef (Option.rec (motive:=λ_=>V) V.undef (λv=>v) x) b
def ON(w:Bool)(v:V):Bool:=Option.rec (motive:=λ_=>Bool) false (λb=>b) (fy w v)
noncomputable def BD(g:Gs):Bool->gD->Hp->gD:=Gs.rec (motive:=λ_=>Bool->gD->Hp->gD) (λo d b ρ h=>fo ρ d (Qh b ((iL o).f (.fn ρ []) h))) (λo d _ c b ρ h=>c b (fo ρ d (Qh b ((iL o).f (.fn ρ []) h))) h) (λw d _ o e _ a c b ρ h=>c b (fo (a (ON w (ρ d)) ρ h) e (Qh b ((iL o).f (.fn (a (ON w (ρ d)) ρ h) []) h))) h) (λw d _ o e a b ρ h=>fo (a (ON w (ρ d)) ρ h) e (Qh b ((iL o).f (.fn (a (ON w (ρ d)) ρ h) []) h))) g
noncomputable def gE(g:Gs):gD->Hp->Option V:=Gs.rec (motive:=λ_=>gD->Hp->Option V) (λo _ ρ h=>(iL o).f (.fn ρ []) h) (λo d _ b ρ h=>oB ((iL o).f (.fn ρ []) h) λv=>b (fo ρ d v) h) (λw d sub _ c _ a b ρ h=>oB (gA w (ρ d) (a ρ h)) λv=>b (fo (BD sub (ON w (ρ d)) ρ h) c v) h) (λw d _ _ _ a ρ h=>gA w (ρ d) (a ρ h)) g
def Sh(x:Operand) (d:Nat):Bool:=match x with
 | .tmp i=>Nat.beq i d
 |_=>false
def zac(x:Operand) (b:Bool):Bool:=match x with
 | .const v=>match mJ 8 v with
   |some (.bool c)=>c == b
   |_=>false
 |_=>false
def SZ(o:Oper) (w:Bool) (d x:Nat):Bool:=match o.op with
 | .pick c a b=>Sh c d&&(match w with
   |true=>Sh a x&&zac b false
   |false=>Sh b x&&zac a true)
 |_=>false
def dOk(n:Nat) (o:Oper) (d:Nat):Bool:=match o.dst with
 |some d'=>Nat.beq d' d&&Nat.blt d n
 |none=>false
def Zh(n:Nat) (all:List Oper) (o:Oper) (w:Bool) (d:Nat):Bool:=match o.guard with
 | some (j,w')=>(w' == w)&&(match all[j]? with
   |some a=>dOk n a d
   |none=>false)
 |none=>false
def Qs(n:Nat)(all:List Oper)(av:List Nat)(w:Bool)(d:Nat)(o:Oper)(d':Nat):Bool:=Nat.beq (cls o) 0&&Zh n all o w d&&dOk n o d'&&av.all (λi=>!(Nat.beq i d'))
def Xr(n:Nat) (all:List Oper):List Nat->Bool->Nat->List Nat->Gs->Bool
 |av,w,d,_,.last o d'=>Qs n all av w d o d'
 |av,w,d,ins,.op o d' r=>Qs n all av w d o d'&&Xr n all av w d (d'::ins) r
 |av,w,d,ins,.nest w' d' s o a r=>ins.any (λi=>Nat.beq i d')&&Xr n all (d'::av) w' d' [] s&&Qs n all av w d o a&&SZ o w' d' s.dst&&Xr n all av w d (a::ins) r
 |av,w,d,ins, .FP w' d' s o a=>ins.any (λi=>Nat.beq i d')&&Xr n all (d'::av) w' d' [] s&&Qs n all av w d o a&&SZ o w' d' s.dst
def Ch(n:Nat) (all:List Oper) (h:Hp):List Oper->gD->gD->Prop
 |[],ρ,ρ'=>ρ' = ρ
 | o::os,ρ,ρ'=>cls o=0/\∃d v,o.dst=some d/\Nat.blt d n=true/\((kU n all o=none/\(iL o).f (.fn ρ []) h=some v)\/
   ∃g b,kU n all o=some g/\g.f (.fn ρ [])=some b/\gV b ((iL o).f (.fn ρ []) h)=some v)/\Ch n all h os (fo ρ d v) ρ'
theorem Ch.app{n:Nat} {all:List Oper} {h:Hp}:∀{os a:List Oper} {ρ e f:gD},Ch n all h os ρ e->Ch n all h a e f->Ch n all h (os++a) ρ f
 |[],_,_,_,_,b,c=>by cases b;exact c
 |_::_,_,_,_,_,⟨hc,d,v,b,c,g,i⟩,j=>⟨hc,d,v,b,c,g,i.app j⟩
theorem Md(ρ:gD)(d:Nat)(v:V):fo ρ d v d=v:=Wt ρ d v
theorem YK{n:Nat} {all:List Oper} {o:Oper} {w:Bool} {d:Nat} (a:Zh n all o w d=true):∃g,kU n all o=some g/\∀ρ:gD,g.f (.fn ρ [])=fy w (ρ d):=by
 unfold Zh at a;split at a
 ·rename_i j w' b;simp only[xg,HR]at a;obtain⟨e,a⟩:=a;subst e;split at a
  ·rename_i l h;unfold dOk at a;split at a
   ·rename_i d' i;simp only[xg]at a;obtain⟨c,k⟩:=a;have c:=BT c;subst c;refine⟨_,by simp only[kU,b,h,i,k];rfl,λρ=>rfl⟩
   simp_all
  simp_all
 simp_all
theorem Vi{n:Nat} {all:List Oper} {av:List Nat} {w:Bool} {d:Nat} {o:Oper} {d':Nat} (hk:Qs n all av w d o d' = true) :
  cls o=0/\(∃g,kU n all o=some g/\∀ρ:gD,g.f (.fn ρ [])=fy w (ρ d))/\o.dst=some d'/\Nat.blt d' n=true/\∀i∈av,i≠d':=by
 unfold Qs at hk;simp only[xg]at hk;obtain⟨⟨⟨b,c⟩,a⟩,h⟩:=hk;refine⟨BT b,YK c,?_⟩;unfold dOk at a;split at a
 ·rename_i e j;simp only[xg]at a
  grind[BT,Q1,WG,absurd]
 simp_all
theorem Np{x:Operand} {d:Nat} (h:Sh x d=true):x = .tmp d:=by
 unfold Sh at h
 grind[BT,absurd]
theorem VD{x:Operand} {b:Bool} (a:zac x b=true) (t:Tm) (h:Hp):(tq x).f t h=some (.bool b):=by
 unfold zac at a;split at a
 ·rename_i v;split at a
  ·rename_i c hc;have e:c=b:=by simpa using a
   subst e;show(N8 (.const v)).f t=_
   grind[N8]
  simp_all
 simp_all
theorem U4{o:Oper} {w:Bool} {d x:Nat} (hp:SZ o w d x=true) {ρ:gD} {h:Hp} {c:Bool} (hc:ρ d = .bool c):(iL o).f (.fn ρ []) h=some (match w,c with
  |true,true=>ρ x
  |true,false=> .bool false
  |false,false=>ρ x
  |false,true=> .bool true)/\cls o=0:=by
 unfold SZ at hp;split at hp
 ·rename_i c' a b g;simp only[xg]at hp;obtain⟨j,e⟩:=hp;have k:=Np j;subst k;refine⟨?_,by grind[cls]⟩;have e0:(tq (.tmp d)).f (.fn ρ []) h=some (.bool c):=by show some (ρ d)=_;rw[hc]
  unfold iL;rw[g];simp only[Lu,e0,oB]
  cases w with
  | true=>
    simp only[xg]at e;have i:=Np e.1;subst i
    cases c with
    |true=>rfl
    |false=>grind[VD]
  | false=>
    simp only[xg]at e;have i:=Np e.1;subst i
    cases c with
    |true=>grind[VD]
    |false=>rfl
 simp_all
theorem UT{w:Bool} {c:V} {x:Option V} {v:V} (a:gA w c x=some v):∃b,c = .bool b/\fy w c=some (b == w)/\((b=w/\x=some v)\/(b≠w/\v = .bool (!w))):=by
 unfold gA at a
 cases w with
 | true=>
   simp only[jO]at a;split at a
   ·cases a;simp_all
   ·simp_all
   ·cases a
 | false=>
   simp only[nP]at a;split at a
   ·cases a;simp_all
   ·simp_all
   ·cases a
theorem Ra(ρ:gD){d i:Nat}(v:V)(h:i≠d):fo ρ d v i=ρ i:=zag ρ v h
theorem Ch.one{n:Nat} {all:List Oper} {av:List Nat} {w:Bool} {d:Nat} {o:Oper} {d':Nat} (hk:Qs n all av w d o d' = true) {ρ:gD} {h:Hp} {b:Bool} (i:fy w (ρ d)=some b) {v:V}
  (hv:gV b ((iL o).f (.fn ρ []) h)=some v):Ch n all h [o] ρ (fo ρ d' v):=by
 obtain⟨a,⟨g,j,k⟩,c,e,l⟩:=Vi hk;exact⟨a,d',v,c,e,by grind,rfl⟩
theorem Mi{b:Bool} {x:Option V} {v:V} (h:gV b x=some v):Qh b x=v:=by
 cases b with
 |true=>have h':x=some v:=h;subst h';rfl
 |false=>cases h;rfl
def SP(n:Nat) (all:List Oper) (av:List Nat) (os:List Oper) (b:Bool) (ρ a:gD) (h:Hp) (d:Nat) (x:V):Prop:=Ch n all h os ρ a/\a d=x/\(∀i∈av,a i=ρ i)/\(b=false->∀i,ρ i = .undef->a i = .undef)
theorem SP.one{n:Nat} {all:List Oper} {av:List Nat} {w:Bool} {d:Nat} {o:Oper} {d':Nat} (hk:Qs n all av w d o d' = true) {ρ:gD} {h:Hp} {b:Bool} (a:fy w (ρ d)=some b) {v:V}
  (hv:gV b ((iL o).f (.fn ρ []) h)=some v):SP n all av [o] b ρ (fo ρ d' v) h d' v:=by
 obtain⟨_,_,_,_,c⟩:=Vi hk;refine⟨Ch.one hk a hv,Md _ _ _,by grind[Ra],λe i hi=>?_⟩;subst e;cases hv
 grind[Md,Ra]
theorem SP.trans{n:Nat} {all:List Oper} {av:List Nat} {os a:List Oper} {b:Bool} {ρ g j:gD} {h:Hp} {d d':Nat} {x k:V} (f:SP n all av os b ρ g h d x) (c:SP n all av a b g j h d' k):SP n all av (os++a) b ρ j h d' k:=
 ⟨f.1.app c.1,c.2.1,λi hi=>(c.2.2.1 i hi).trans (f.2.2.1 i hi),λe i hi=>c.2.2.2 e i (f.2.2.2 e i hi)⟩
theorem W0{n:Nat} {all:List Oper}:∀(g:Gs) {av:List Nat} {w:Bool} {d:Nat} {k:List Nat},Xr n all av w d k g=true->d∈av->∀{ρ:gD} {h:Hp} {b:Bool},fy w (ρ d)=some b->
  (b=false->∀i∈k,ρ i = .undef)->∀{x:V},gV b (gE g ρ h)=some x->SP n all av g.ops b ρ (BD g b ρ h) h g.dst x:=by
 have nest:∀(s:Gs),(∀{av:List Nat} {w:Bool} {d:Nat} {k:List Nat},Xr n all av w d k s=true->d∈av->∀{ρ:gD} {h:Hp} {b:Bool},fy w (ρ d)=some b->
    (b=false->∀i∈k,ρ i = .undef)->∀{x:V},gV b (gE s ρ h)=some x->SP n all av s.ops b ρ (BD s b ρ h) h s.dst x)->
   ∀{av:List Nat} {w w':Bool} {d d' q:Nat} {k:List Nat} {o:Oper},k.any (λi=>Nat.beq i d')=true->Xr n all (d'::av) w' d' [] s=true->Qs n all av w d o q=true->SZ o w' d' s.dst=true->d∈av->
   ∀{ρ:gD} {h:Hp} {b:Bool},fy w (ρ d)=some b->(b=false->∀i∈k,ρ i = .undef)->∀{v:V},gV b (gA w' (ρ d') (gE s ρ h))=some v->
   gV b ((iL o).f (.fn (BD s (ON w' (ρ d')) ρ h) []) h)=some v/\SP n all av (s.ops++[o]) b ρ (fo (BD s (ON w' (ρ d')) ρ h) q v) h q v:=by
  intro s D av w w' d d' q k o I hc T hp m ρ h b p hi v hv;obtain⟨i,Y,J⟩:=List.any_eq_true.1 I;have e:=BT J;subst e
  cases b with
  | true=>
    obtain⟨c,K,E,U⟩:=UT (show gA w' (ρ i) (gE s ρ h)=some v from hv);have L:ON w' (ρ i)=(c == w'):=by unfold ON;rw[E]
    rw[L];obtain⟨y,Z⟩:∃y,gV (c == w') (gE s ρ h)=some y/\(c=w'->y=v):=by
      rcases U with⟨F,M⟩|⟨F,M⟩
      ·simp_all
      ·have:(c == w')=false:=by simp[F]
       rw[this];simp_all
    obtain⟨N,W,O,k4⟩:=D hc (ZP ..) E (by simp_all) Z.1;have P:BD s (c == w') ρ h i = .bool c:=by rw[O i (ZP ..)];exact K
    have Q:=(U4 hp (h:=h) P).1;have t:(iL o).f (.fn (BD s (c == w') ρ h) []) h=some v:=by
      rw[Q,W];rcases U with⟨F,M⟩|⟨F,M⟩
      ·grind
      ·grind
    refine⟨t,?_⟩;have a:=SP.one T (ρ:=BD s (c == w') ρ h) (h:=h) (b:=true) (by simp_all) (v:=v) t
    refine⟨N.app a.1,a.2.1,λj G=>(a.2.2.1 j G).trans (by simp_all),by simp_all⟩
  | false=>
    have K:ρ i = .undef:=by simp_all
    have E:fy w' (ρ i)=some false:=by rw[K];rfl
    have L:ON w' (ρ i)=false:=by unfold ON;rw[E]
    rw[L];cases hv;obtain⟨N,W,O,k4⟩:=D hc (ZP ..) E (by simp_all) (x:= .undef) rfl;refine⟨rfl,?_⟩;have a:=SP.one T (ρ:=BD s false ρ h) (h:=h) (b:=false) (by rw[O d (List.mem_cons_of_mem _ m)];exact p) (v:= .undef) rfl;exact⟨N.app a.1,a.2.1,λj G=>(a.2.2.1 j G).trans (by simp_all),λe j G=>a.2.2.2 e j (by simp_all)⟩
 intro g
 induction g with
 | last o d'=>
   intro av w d k hk m ρ h b p hi x u;have l:gV b ((iL o).f (.fn ρ []) h)=some x:=u;show SP n all av [o] b ρ (fo ρ d' (Qh b ((iL o).f (.fn ρ []) h))) h d' x;rw[Mi l]
   exact SP.one hk p l
 | op o d' r D=>
   intro av w d k hk m ρ h b p hi x u;simp only[Xr,xg]at hk;obtain⟨v,hv,l⟩:∃v,gV b ((iL o).f (.fn ρ []) h)=some v/\gV b (gE r (fo ρ d' v) h)=some x:=by
     cases b with
     | true=>
       obtain⟨v,z,A⟩:=fq.1 (show oB ((iL o).f (.fn ρ []) h) _=some x from u)
       exact⟨v,z,A⟩
     |false=>simp_all
   have a:=SP.one hk.1 p hv;show SP n all av ([o]++r.ops) b ρ (BD r b (fo ρ d' (Qh b ((iL o).f (.fn ρ []) h))) h) h r.dst x;rw[Mi hv];refine a.trans (D hk.2 m (by rw[a.2.2.1 d m];exact p) ?_ l);intro e i B;rcases OC.1 B with e'|e'
   ·simp_all[Md]
   ·exact a.2.2.2 e i (by simp_all)
 | nest w' d' s o q r C D=>
   intro av w d k hk m ρ h b p hi x u;simp only[Xr,xg]at hk;obtain⟨⟨⟨⟨z,A⟩,R⟩,S⟩,h5⟩:=hk;obtain⟨v,hv,l⟩:∃v,gV b (gA w' (ρ d') (gE s ρ h))=some v/\gV b (gE r (fo (BD s (ON w' (ρ d')) ρ h) q v) h)=some x:=by
     cases b with
     | true=>
       obtain⟨v,z,A⟩:=fq.1 (show oB (gA w' (ρ d') (gE s ρ h)) _=some x from u)
       exact⟨v,z,A⟩
     |false=>simp_all
   obtain⟨X,H⟩:=nest s C z A R S m p hi hv;show SP n all av (s.ops++([o]++r.ops)) b ρ (BD r b (fo (BD s (ON w' (ρ d')) ρ h) q (Qh b ((iL o).f (.fn (BD s (ON w' (ρ d')) ρ h) []) h))) h) h r.dst x;rw[Mi X,<-LY];refine H.trans (D h5 m (by rw[H.2.2.1 d m];exact p) ?_ l);intro e i B;rcases OC.1 B with e'|e'
   ·simp_all[Md]
   ·exact H.2.2.2 e i (by simp_all)
 | FP w' d' s o q C=>
   intro av w d k hk m ρ h b p hi x u;simp only[Xr,xg]at hk;obtain⟨⟨⟨z,A⟩,R⟩,S⟩:=hk;obtain⟨X,H⟩:=nest s C z A R S m p hi (show gV b (gA w' (ρ d') (gE s ρ h))=some x from u);show SP n all av (s.ops++[o]) b ρ (fo (BD s (ON w' (ρ d')) ρ h) q (Qh b ((iL o).f (.fn (BD s (ON w' (ρ d')) ρ h) []) h))) h q x
   grind[Mi]
inductive Tl where
 |op (o:Oper) (d:Nat)
 |nest (w:Bool) (d:Nat) (sub:Gs) (o:Oper) (a:Nat)
def Tl.dst:Tl->Nat
 | .op _ d=>d
 | .nest _ _ _ _ a=>a
def Tl.ops:Tl->List Oper
 | .op o _=>[o]
 | .nest _ _ s o _=>s.ops++[o]
def Tl.one:Tl->Gs
 | .op o d=> .last o d
 | .nest w d s o a=> .FP w d s o a
def Tl.cons(r:Gs):Tl->Gs
 | .op o d=> .op o d r
 | .nest w d s o a=> .nest w d s o a r
def zfi(all:List Oper) (o:Oper):Option (Bool×Nat):=match o.guard with
 | some (j,w)=>match all[j]? with
   | some a=>match a.dst with
     |some d=>some (w,d)
     |none=>none
   |none=>none
 |none=>none
def Qa(n : Nat) (all:List Oper) (gpV:Bool->Nat->List Nat->List Oper->Option (Gs×List Oper)) (w:Bool) (d:Nat) (a:List Nat) (os:List Oper):Option (Tl×List Oper):=match os with
  |[]=>none
  | o ::os'=>match Zh n all o w d&&Nat.beq (cls o) 0,o.dst with
    |true,some d'=>some (.op o d',os')
    | _,_ => match zfi all o with
      |none=>none
      | some (w',d')=>match a.any (λi=>Nat.beq i d')with
        |false=>none
        | true=>match gpV w' d' [] (o::os')with
          | some (s,p::os'')=>match Zh n all p w d&&SZ p w' d' s.dst,p.dst with
            |true,some dp=>some (.nest w' d' s p dp,os'')
            |_,_=>none
          |_=>none
noncomputable def gpV(n:Nat) (all:List Oper) (fuel:Nat):Bool->Nat->List Nat->List Oper->Option (Gs×List Oper):=
 Nat.rec (motive:=λ_=>Bool->Nat->List Nat->List Oper->Option (Gs×List Oper)) (λ_ _ _ _=>none) (λ_ b w d a os=>match Qa n all b w d a os with
  |none=>none
  | some (it,os')=>match b w d (it.dst::a) os' with
    |some (g,r)=>some (it.cons g,r)
    |none=>some (it.one,os')) fuel
theorem Uj{n:Nat} {all:List Oper} {gpV:Bool->Nat->List Nat->List Oper->Option (Gs×List Oper)} (b:∀w d a os g r,gpV w d a os=some (g,r)->os=g.ops++r) {w:Bool} {d:Nat} {a:List Nat} {os:List Oper} {it:Tl} {r:List Oper}
  (h:Qa n all gpV w d a os=some (it,r)):os=it.ops++r:=by
 unfold Qa at h;split at h
 ·cases h
 ·split at h
  ·cases h;rfl
  ·split at h
   ·cases h
   grind[Tl.ops,LY]
theorem PT{n:Nat} {all:List Oper}:∀(fuel:Nat) (w:Bool) (d:Nat) (a:List Nat) (os:List Oper) (g:Gs) (r:List Oper),gpV n all fuel w d a os=some (g,r)->os=g.ops++r
 |0,_,_,_,_,_,_,h=>by cases h
 | fuel+1,w,d,a,os,g,r,h=>by
   have h':(match Qa n all (gpV n all fuel) w d a os with
     |none=>none
     | some (it,b)=>match gpV n all fuel w d (it.dst::a) b with
       |some (g,r)=>some (it.cons g,r)
       |none=>some (it.one,b))=some (g,r):=h
   split at h'
   ·cases h'
   ·rename_i it b c
    have f:=Uj (λw d a os g r e=>PT fuel w d a os g r e) c;split at h'
    ·rename_i j r' e
     cases h';have i:=PT fuel _ _ _ _ _ _ e;rw[f,i];cases it <;> simp[Tl.ops,Tl.cons,Gs.ops]
    ·cases h'
     rw[f];cases it <;> simp[Tl.ops,Tl.one,Gs.ops]
noncomputable def Zf(n:Nat) (all:List Oper) (os:List Oper):Option (Bool×Nat×Gs×Nat):=match os with
 |[]=>none
 | o ::_ => match o.guard with
   |none=>none
   | some (j,w)=>match all[j]? with
     |none=>none
     | some a=>match a.guard,a.dst,Nat.beq (cls o) 0 with
       | none,some d,true=>match gpV n all 60 w d [] os with
         | some (g,p::_)=>match p.guard,p.dst with
           | none,some dp=>match SZ p w d g.dst&&Nat.blt dp n&&Xr n all [d] w d [] g with
             |true=>some (w,d,g,dp)
             |false=>none
           |_,_=>none
         |_=>none
       |_,_,_=>none
theorem zae{n:Nat} {all os:List Oper} {w:Bool} {d:Nat} {g:Gs} {a:Nat} (h:Zf n all os=some (w,d,g,a)):∃p r,os=g.ops++p::r/\p.guard=none/\p.dst=some a/\SZ p w d g.dst=true/\Nat.blt a n=true/\Xr n all [d] w d [] g=true:=by
 unfold Zf at h;split at h
 ·cases h
 ·split at h
  ·cases h
  ·split at h
   ·cases h
   ·split at h
    ·split at h
     ·rename_i c;split at h
      ·rename_i e f;split at h
       ·rename_i b;cases h;simp only[xg]at b
        grind[PT]
       ·cases h
      ·cases h
     ·cases h
    ·cases h
theorem Ha{n:Nat} {o:Oper} {K a:gD->Hp->Prop} (b:∀ρ h,K ρ h->a ρ h) {v:V} {ρ:gD} {h:Hp} (hk:po n o K v ρ h):po n o a v ρ h:=by
 grind[po,Nat.blt]
theorem pS{α:Type}{x:Option α}{k k':α->Prop}(h:oP x k)(f:∀a,k a->k' a):oP x k':=by grind[oM]
theorem ZH{C:fm} {o:Oper} {K b:V->gD->Hp->Prop} (d:∀v ρ h,K v ρ h->b v ρ h) {ρ:gD} {h:Hp} (hk:QZ C o K ρ h):QZ C o b ρ h:=by
 unfold QZ at hk⊢;generalize cls o=c at hk⊢;rcases c with _|_|c
 ·grind[pS]
 ·grind[pS]
 ·show Sf C o b ρ h;have a:Sf C o K ρ h:=hk;unfold Sf at a⊢;cases hi:zf o
  all_goals rw[hi]at a
  ·grind[pS]
  ·exact pS a λx H=>H.mono (by simp_all)
theorem XR{C:fm} {o:Oper} {b:Bool} {K a:V->gD->Hp->Prop} (d:∀v ρ h,K v ρ h->a v ρ h) {ρ:gD} {h:Hp} (hk:ZO C o b K ρ h):ZO C o b a ρ h:=by
 unfold ZO at hk⊢;generalize cls o=c at hk⊢;rcases c with _|_|c
 ·grind[pS]
 ·grind[pS]
 ·simp only at hk⊢;cases hi:zf o
  all_goals rw[hi]at hk
  ·grind[pS]
  ·refine pS hk λx H=>?_
   cases x with
   |none=>simp_all
   |some y=>exact cP.mono H (by simp_all)
theorem Tn{C:fm} {n:Nat} {all:List Oper} {o:Oper} {K a:gD->Hp->Prop} (b:∀ρ h,K ρ h->a ρ h) {ρ:gD} {h:Hp} (hk:AG C n all o K ρ h):AG C n all o a ρ h:=by
 unfold AG at hk⊢
 cases hd:AX o with
 |some q=>simp_all
 | none=>
   rw[hd]at hk;simp only at hk⊢
   cases hw:kU n all o with
   |none=>rw[hw]at hk;grind[ZH,Ha]
   |some g=>grind[pS,XR,Ha]
theorem Yw(C:fm) (n:Nat) (all:List Oper) (o:Oper) (K:gD->Hp->Prop):Vy C n all o K=AG C n all o K:=by
 grind[Vy,AG,zdf]
theorem Kx{o:Oper} (h:cls o=0):AX o=none:=by
 grind[AX,cls]
theorem Ch.zW{C:fm} {n:Nat} {all:List Oper} {h:Hp} {K:gD->Hp->Prop} {a:List Oper}:∀{os:List Oper} {ρ b:gD},Ch n all h os ρ b->zW C n all K a b h->zW C n all K (os++a) ρ h
 |[],_,_,hc,hk=>by cases hc;exact hk
 | o::os,ρ,b,⟨h0,d,v,c,e,i,f⟩,hk=>by
   have g:=f.zW (C:=C) (K:=K) hk;have j:po n o (Hx.zW C n all K (os++a)) v ρ h:=by unfold po;rw[c];simp only[e];exact g
   show AG C n all o (Hx.zW C n all K (os++a)) ρ h
   grind[AG,Kx,QZ,ed,ZO]
noncomputable def Ui(C:fm) (n:Nat) (all:List Oper) (K:gD->Hp->Prop) (os:List Oper):Nat->gD->Hp->Prop:=
 List.rec (motive:=λ_=>Nat->gD->Hp->Prop) (λ_=>K) (λo os a b=>Nat.rec (motive:=λ_=>gD->Hp->Prop)
  (match Zf n all (o::os)with
   |some (w,d,g,dp)=>λρ h=>oP (gA w (ρ d) (gE g ρ h)) λv=>a g.ops.length (fo (BD g (ON w (ρ d)) ρ h) dp v) h
   |none=>Vy C n all o (a 0)) (λk _=>a k) b) os
theorem JO{C:fm} {n:Nat} {all:List Oper} {K:gD->Hp->Prop}:∀(os:List Oper) (e:Nat) {ρ:gD} {h:Hp},Ui C n all K os e ρ h->zW C n all K (os.drop e) ρ h
 |[],e,ρ,h,hk=>by rw[List.drop_nil];exact hk
 |o::os,e+1,ρ,h,hk=>JO os e hk
 | o ::os,0,ρ,h,hk=>by
   have a:(match Zf n all (o::os)with
     |some (w,d,g,k)=>λ(ρ:gD) (h:Hp)=>oP (gA w (ρ d) (gE g ρ h)) λv=>Ui C n all K os g.ops.length (fo (BD g (ON w (ρ d)) ρ h) k v) h
     |none=>Vy C n all o (Ui C n all K os 0):gD->Hp->Prop) ρ h:=hk
   show zW C n all K (o::os) ρ h
   cases hg:Zf n all (o::os)with
   | some x=>
     obtain⟨w,d,g,k⟩:=x;rw[hg]at a;simp only at a;obtain⟨p,r,q,N,A,b,i,B⟩:=zae hg;obtain⟨v,D,s⟩:=kS.1 a;obtain⟨c,E,c2,t⟩:=UT D;have F:ON w (ρ d)=(c == w):=by unfold ON;rw[c2]
     rw[F]at s;obtain⟨y,G⟩:∃y,gV (c == w) (gE g ρ h)=some y/\(c=w->y=v):=by
       rcases t with⟨b,i⟩|⟨b,i⟩
       ·simp_all
       ·have:(c == w)=false:=by simp[b]
        rw[this];simp_all
     obtain⟨H,I,J,O⟩:=W0 g B (ZP ..) c2 (by simp_all) G.1;have l:BD g (c == w) ρ h d = .bool c:=by rw[J d (ZP ..)];exact E
     have j:=U4 b (h:=h) l;have u:(iL p).f (.fn (BD g (c == w) ρ h) []) h=some v:=by
       rw[j.1,I];rcases t with⟨b,i⟩|⟨b,i⟩
       ·grind
       ·grind
     have m:Ch n all h [p] (BD g (c == w) ρ h) (fo (BD g (c == w) ρ h) k v):=⟨j.2,k,v,A,i,by grind[kU],rfl⟩
     have hlen:os.drop g.ops.length=r:=by
       have L:(o::os).drop (g.ops.length+1)=r:=by rw[q,List.append_cons];exact by simp_all
       exact L
     have z:=JO os _ s;rw[hlen]at z;rw[q,List.append_cons]
     exact(H.app m).zW z
   | none=>
     rw[hg]at a;simp only[Yw]at a;exact Tn (λρ h M=>by have:=JO os 0 M;exact this) a
def CQ(o:Oper):Bool:=match o.op with
 | .move x| .assign x| .nilCheck x| .fieldAddr _ x _| .field _ x _| .unOp _ _ x| .extract x _=>Qk x
 | .pick c a b=>Qk c&&Qk a&&Qk b
 | .binOp _ _ x y _=>Qk x&&Qk y
 | .indexAddr _ x i| .index _ x i=>Qk x&&Qk i
 | .build _ _| .makeFunc _ _ _=>true
 | .makeInterface _ x=>Qk x
 | .call c=>match c.callee,c.args.toList,c.argTypes.toList with
   | .builtin .len,[x],ty::_=>match P0.underlying ty with
     |some (.slice _)=>Qk x
     |_=>false
   |_,_,_=>false
 |_=>false
theorem Ya{o:Oper} (a:CQ o=true) (t:Tm) (h h':Hp):(iL o).f t h=(iL o).f t h':=by
 unfold CQ at a;unfold iL;split at a
 all_goals rename_i b
 all_goals try rw[b]
 all_goals try simp only[xg]at a
 ·grind[kR]
 ·grind[kR]
 ·grind[Ah,kR]
 ·grind[qE,kR]
 ·grind[Jb,kR]
 ·grind[kR]
 ·grind[Gm,kR]
 ·grind[Lu,kR]
 ·grind[kR]
 ·grind[qj,kR]
 ·grind[IM,kR]
 ·simp only[IW];grind
 ·split <;> first|rfl|simp_all
 ·dsimp only;split <;> first|rfl|grind[kR]
 ·grind[hlen,kR,absurd]
 simp_all
abbrev RE:=Bool×Rec×Bool×Bool
def Ib(k:Nat) (h:Hp) (rs:List RE) (K:Prop):Prop:=List.rec (motive:=λ_=>Prop) K (λr _ a=>Bool.rec (motive:=λ_=>Prop) (Option.rec (motive:=λ_=>Prop) (Bool.rec (motive:=λ_=>Prop) a (Bool.rec (motive:=λ_=>Prop) True (Fj h r.2.1) r.1/\a) r.2.2.2) (λ_=>Bool.rec (motive:=λ_=>Prop) True (Fj h r.2.1) r.1/\a) r.2.1.made) a (Nat.blt r.2.1.last k)) rs
def JB(rs:List RE):List RE:=rs.map λr=>(r.1,r.2.1,r.2.2.1,!r.2.2.1)
def uh(rs:List RE):List (Bool×Rec):=rs.map λr=>(r.1,r.2.1)
def itV(C:fm) (n:Nat) (all:List Oper) (ws:List It) (a:It) (d:Nat->gD->Hp->List RE->Prop) (k:Nat):gD->Hp->List RE->Prop:=match cls a.o with
  | 0 =>match kU n all a.o with
    | none=>match isVal a.o with
      |true=>λρ h rs=>Option.rec (motive:=λ_=>Prop) False (λv=>po n a.o (λc h=>d k c h ((true,{it:=a,t:= .fn ρ [],v,made:=none,last:=late ws a},CQ a.o,false)::rs)) v ρ h) ((iL a.o).f (.fn ρ []) h)
      |false=>λρ h rs=>oP ((iL a.o).f (.fn ρ []) h) λv=>po n a.o (λc h=>d k c h ((true,{it:=a,t:= .fn ρ [],v,made:=none,last:=late ws a},CQ a.o,false)::rs)) v ρ h
    |some g=>λρ h rs=>oP (g.f (.fn ρ [])) λb=>oP (gV b ((iL a.o).f (.fn ρ []) h)) λv=>
       po n a.o (λc h=>d k c h ((b,{it:=a,t:= .fn ρ [],v,made:=none,last:=late ws a},CQ a.o,false)::rs)) v ρ h
  | 1=>match kU n all a.o with
    |none=>λρ h rs=>oP ((qw a.o).f (.fn ρ [])) λr=>po n a.o (λc h'=>d k c h' ((true,{it:=a,t:= .fn ρ [],v:=r.2 h.next,made:=some (h.next,r.1),last:=late ws a},false,false)::JB rs)) (r.2 h.next) ρ (h.new r.1)
    |some _=>λ_ _ _=>False
  | _ =>match kU n all a.o with
    |none=>λρ h rs=>Ib k h rs (Sf C a.o (λv ρ h'=>h.next<=h'.next/\po n a.o (λρ h=>d (Nat.succ k) ρ h (JB rs)) v ρ h') ρ h)
    | some g=>match zf a.o with
      |true=>λρ h rs=>Ib k h rs (oP (g.f (.fn ρ [])) λb=>oP (gC b (oB ((j7 a.o).f (.fn ρ []) h) IF)) λx=>uj C x h λv h'=>h.next<=h'.next/\po n a.o (λρ h=>d (Nat.succ k) ρ h (JB rs)) v ρ h')
      |false=>λ_ _ _=>False
def Jg(l:List It):Bool:=l.all λa=>Nat.beq (cls a.o) 0
def Tq(C:fm) (n:Nat) (all:List Oper) (ws:List It) (K:gD->Hp->Prop) (l:List It):Nat->gD->Hp->List RE->Prop:=
 List.rec (motive:=λ_=>Nat->gD->Hp->List RE->Prop) (λk ρ h rs=>Ib k h rs (K ρ h)) (λa l b k=>match Jg (a::l)with
  |true=>λρ h rs=>Ui C n all (λρ h=>Ib k h rs (K ρ h)) ((a::l).map (·.o)) 0 ρ h
  |false=>itV C n all ws a b k) l
def WY(h:Hp)(rs:List RE):Prop:=∀r∈rs,r.1=true->r.2.1.made=none->(r.2.2.1=true->∀h',Fj h' r.2.1)/\(r.2.2.2=false->Fj h r.2.1)
theorem WY.zZ{h:Hp} {rs:List RE} (hi:WY h rs) (h':Hp):WY h' (JB rs):=by
 intro r b c d;obtain⟨r',a,e⟩:=LB.1 b;subst e;obtain⟨f,_⟩:=hi r' a c d
 simp_all
theorem My(rs:List RE):uh (JB rs)=uh rs:=by
 simp[uh,JB]
theorem yI{k:Nat} {h:Hp}:∀{rs:List RE} {K d:Prop},WY h rs->(K->d)->Ib k h rs K->xK k h (uh rs) d
 |[],_,_,_,hk,hh=>hk hh
 | (b,r,f,st)::rs,K,d,hi,hk,hh=>by
   have c:WY h rs:=λr c=>hi r (List.mem_cons_of_mem _ c);have h0:=hi _ (ZP ..)
   have a:Bool.rec (motive:=λ_=>Prop)
     (Option.rec (motive:=λ_=>Prop) (Bool.rec (motive:=λ_=>Prop) (Ib k h rs K) (Bool.rec (motive:=λ_=>Prop) True (Fj h r) b/\Ib k h rs K) st)
     (λ_=>Bool.rec (motive:=λ_=>Prop) True (Fj h r) b/\Ib k h rs K) r.made) (Ib k h rs K) (Nat.blt r.last k):=hh
   show Bool.rec (motive:=λ_=>Prop) (Bool.rec (motive:=λ_=>Prop) True (Fj h r) b/\xK k h (uh rs) d) (xK k h (uh rs) d) (Nat.blt r.last k)
   cases hb:Nat.blt r.last k with
   |true=>rw[hb]at a;exact yI c hk a
   | false=>
     rw[hb]at a
     cases hm:r.made with
     |some x=>rw[hm]at a;exact⟨a.1,yI c hk a.2⟩
     | none=>
       rw[hm]at a
       cases st with
       |true=>exact⟨a.1,yI c hk a.2⟩
       | false=>
         refine⟨?_,yI c hk a⟩;cases b <;> grind
theorem Yf{C:fm} {o:Oper} {K a:V->gD->Hp->Prop} (b:∀v ρ h,K v ρ h->a v ρ h) {ρ:gD} {h:Hp} (hk:Sf C o K ρ h):Sf C o a ρ h:=by
 unfold Sf at hk⊢;cases hi:zf o
 all_goals rw[hi]at hk
 ·grind[pS]
 ·exact pS hk λx H=>H.mono (by simp_all)
theorem OG{k:Nat} {h:Hp} {K:Prop} {rs:List (Bool×Rec)}:∀{new:List (Bool×Rec)},(∀r∈new,r.1=true->Fj h r.2)->xK k h rs K->xK k h (new++rs) K
 |[],_,hh=>hh
 | r ::new,hn,hh=>by
   have a:=OG (new:=new) (by simp_all) hh;show xK k h (r::(new++rs)) K;simp only[xK]
   cases hb:Nat.blt r.2.last k with
   |true=>exact a
   | false=>
     refine⟨?_,a⟩;cases hb:r.1 <;> grind
theorem NB{C:fm} {n:Nat} {all:List Oper} {ws:List It} {K:gD->Hp->Prop} {k:Nat} {rs:List (Bool×Rec)}:∀{l:List It} {ρ:gD} {h:Hp} {new:List (Bool×Rec)},Jg l=true->(∀r∈new,r.1=true->Fj h r.2)->
  zW C n all (λρ h=>xK k h rs (K ρ h)) (l.map (·.o)) ρ h->Jh C n all ws K l k ρ h (new++rs)
 |[],_,_,_,_,hn,hk=>OG hn hk
 | a ::l,ρ,h,new,hp,hn,hk=>by
   simp only[Jg,wBy,xg]at hp;obtain⟨hc,hp⟩:=hp;have hc:=BT hc;have c:AG C n all a.o (zW C n all (λρ h=>xK k h rs (K ρ h)) (l.map (·.o))) ρ h:=hk;show itR C n all ws a (Jh C n all ws K l) k ρ h (new++rs)
   have m:∀{b:Bool} {v:V},(b=true->(iL a.o).f (.fn ρ []) h=some v)->po n a.o (zW C n all (λρ h=>xK k h rs (K ρ h)) (l.map (·.o))) v ρ h->
       po n a.o (λw h=>Jh C n all ws K l k w h ((b,{it:=a,t:= .fn ρ [],v,made:=none,last:=late ws a})::(new++rs))) v ρ h:=by
     intro b v p j;have i:∀r∈(b,({it:=a,t:= .fn ρ [],v,made:=none,last:=late ws a}:Rec))::new,r.1=true->Fj h r.2:=by
       intro r x q;rcases OC.1 x with e|e
       ·subst e;exact p q
       ·grind
     unfold po at j⊢
     cases ho:a.o.dst with
     |none=>rw[ho]at j;exact NB hp i j
     | some d=>
       rw[ho]at j;simp only at j⊢
       cases p:Nat.blt d n with
       |true=>rw[p]at j;exact NB hp i j
       |false=>simp_all
   unfold AG at c;rw[Kx hc]at c;simp only at c;unfold itR;rw[hc];simp only
   cases hw:kU n all a.o with
   | none=>
     rw[hw]at c;simp only[QZ,hc]at c;obtain⟨v,s,u⟩:=kS.1 c
     simp_all
   | some g=>
     rw[hw]at c;simp only[ZO,hc]at c;obtain⟨b,h0,c⟩:=kS.1 c;obtain⟨v,s,u⟩:=kS.1 c;exact ed h0 (ed s (m (λe=>by simp_all) u))
theorem KX{C:fm} {n:Nat} {all:List Oper} {K e:gD->Hp->Prop} {h:Hp} (f:∀ρ,K ρ h->e ρ h):∀{l:List It} {ρ:gD},Jg l=true->zW C n all K (l.map (·.o)) ρ h->zW C n all e (l.map (·.o)) ρ h
 |[],_,_,hk=>f _ hk
 | a ::l,ρ,hp,hk=>by
   simp only[Jg,wBy,xg]at hp;obtain⟨hc,hp⟩:=hp;have hc:=BT hc;have b:AG C n all a.o (zW C n all K (l.map (·.o))) ρ h:=hk;show AG C n all a.o (zW C n all e (l.map (·.o))) ρ h;have i:∀{v:V},po n a.o (zW C n all K (l.map (·.o))) v ρ h->po n a.o (zW C n all e (l.map (·.o))) v ρ h:=by
     intro v c;unfold po at c⊢
     cases ho:a.o.dst with
     |none=>rw[ho]at c;exact KX f hp c
     | some d=>
       rw[ho]at c;simp only at c⊢
       cases hb:Nat.blt d n with
       |true=>rw[hb]at c;exact KX f hp c
       |false=>simp_all
   unfold AG at b⊢;rw[Kx hc]at b⊢;simp only at b⊢
   cases hw:kU n all a.o with
   | none=>
     grind[QZ,kS,ed]
   | some g=>
     rw[hw]at b
     grind[ZO,kS,ed]
theorem Mn{C:fm} {n:Nat} {all:List Oper} {ws:List It} {K:gD->Hp->Prop}:∀(l:List It) {k:Nat} {ρ:gD} {h:Hp} {rs:List RE},WY h rs->Tq C n all ws K l k ρ h rs->Jh C n all ws K l k ρ h (uh rs)
 |[],_,_,_,_,hi,hk=>yI hi (λx=>x) hk
 | a ::l,k,ρ,h,rs,hi,hk=>by
   have i:(match Jg (a::l)with
     |true=>λ(ρ:gD) (h:Hp) (rs:List RE)=>Ui C n all (λρ h=>Ib k h rs (K ρ h)) ((a::l).map (·.o)) 0 ρ h
     |false=>itV C n all ws a (Tq C n all ws K l) k:gD->Hp->List RE->Prop) ρ h rs:=hk
   cases hp:Jg (a::l)with
   | true=>
     rw[hp]at i;have z:=JO _ 0 i
     exact NB (new:=[]) hp (by simp_all) (KX (λρ m=>yI hi (λx=>x) m) hp z)
   | false =>
     rw[hp]at i;simp only at i;show itR C n all ws a (Jh C n all ws K l) k ρ h (uh rs)
     have pure:∀{b:Bool} {v:V},gV b ((iL a.o).f (.fn ρ []) h)=some v->∀{j:gD},Tq C n all ws K l k j h ((b,{it:=a,t:= .fn ρ [],v,made:=none,last:=late ws a},CQ a.o,false)::rs)->
         Jh C n all ws K l k j h ((b,{it:=a,t:= .fn ρ [],v,made:=none,last:=late ws a})::uh rs):=by
       intro b v hv j m;refine Mn l (rs:=(b,{it:=a,t:= .fn ρ [],v,made:=none,last:=late ws a},CQ a.o,false)::rs) ?_ m;intro r q p s;rcases OC.1 q with e|e
       ·subst e
        have u:b=true:=p;subst u;refine⟨λA h'=>?_,λ_=>hv⟩;show(iL a.o).f (.fn ρ []) h' = some v;rw[Ya A _ h' h];exact hv
       ·exact hi r e p s
     have dst:∀{b:Bool} {v:V},gV b ((iL a.o).f (.fn ρ []) h)=some v->po n a.o (λj h=>Tq C n all ws K l k j h ((b,{it:=a,t:= .fn ρ [],v,made:=none,last:=late ws a},CQ a.o,false)::rs)) v ρ h->
         po n a.o (λj h=>Jh C n all ws K l k j h ((b,{it:=a,t:= .fn ρ [],v,made:=none,last:=late ws a})::uh rs)) v ρ h:=by
       intro b v hv B;unfold po at B⊢
       cases ho:a.o.dst with
       |none=>grind
       | some d=>
         grind
     unfold itV at i;unfold itR;generalize hc:cls a.o=c at i;rcases c with _|_|c
     ·simp only at i⊢
      cases hw:kU n all a.o with
      | none=>
        rw[hw]at i;simp only at i⊢;have w:oP ((iL a.o).f (.fn ρ []) h) λv=>po n a.o (λj h=>Tq C n all ws K l k j h ((true,{it:=a,t:= .fn ρ [],v,made:=none,last:=late ws a},CQ a.o,false)::rs)) v ρ h:=by
          cases hv:isVal a.o <;> (rw[hv]at i;exact i)
        obtain⟨v,z,E⟩:=kS.1 w
        simp_all
      | some g=>
        grind[kS,ed]
     ·simp only at i⊢
      cases hw:kU n all a.o with
      | none=>
        rw[hw]at i;refine pS i λr H=>Ha (λj h' m=>?_) H;have:=Mn l (rs:=(true,{it:=a,t:= .fn ρ [],v:=r.2 h.next,made:=some (h.next,r.1),last:=late ws a},false,false)::JB rs) (by
          intro r' q p s;rcases OC.1 q with e|e
          ·simp_all
          ·exact hi.zZ h' r' e p s) m
        grind[Jh,uh,JB,My]
      |some g=>simp_all
     ·simp only at i⊢
      have D:∀{v:V} {ρ:gD} {h':Hp},po n a.o (λρ h=>Tq C n all ws K l (Nat.succ k) ρ h (JB rs)) v ρ h'->po n a.o (λρ h=>Jh C n all ws K l (Nat.succ k) ρ h (uh rs)) v ρ h':=λH=>
        Ha (λρ h m=>by have:=Mn l (hi.zZ h) m;grind[My]) H
      cases hw:kU n all a.o with
      | none=>
        grind[yI,Yf]
      | some g=>
        rw[hw]at i;simp only at i⊢
        cases hic:zf a.o with
        |false=>simp_all
        | true=>
          rw[hic]at i;refine yI hi (λH=>pS H λb H=>pS H λx H=>?_) i
          cases x with
          |none=>simp_all
          |some y=>exact cP.mono H (by simp_all)
def Yk(C:fm) (n:Nat) (all:List Oper) (K:gD->Hp->Prop) (ρ:gD) (h:Hp):Prop:=Tq C n all (gQ (items all 0 [])) K (order (items all 0 []) (gQ (items all 0 [])) (gQ (items all 0 [])) 0) 0 ρ h []
theorem YP{C:fm}{n:Nat}{all:List Oper}{K:gD->Hp->Prop}{ρ:gD}{h:Hp}(hk:Yk C n all K ρ h):Vn C n all K ρ h:=Mn (rs:=[]) _ (by intro r a;cases a) hk
end
noncomputable def Nc(tb:List (Nat×List Nat)) (k:Nat):Option (List Nat):=List.rec (motive:=λ_=>Option (List Nat)) none (λx _ a=>Bool.rec (motive:=λ_=>Option (List Nat)) a (some x.2) (Nat.beq x.1 k)) tb
noncomputable def jV(C:fm) (n:Nat) (live:List Nat) (c:Code) (s:XQ) (ρ:gD) (h:Hp):Prop:=∀a:gD,List.rec (motive:=λ_=>Prop) (Wp C n c s a h) (λi _ b=>a i=ρ i->b) live
theorem Y9{C:fm} {n:Nat} {live:List Nat} {c:Code} {s:XQ} {ρ:gD} {h:Hp} (a:jV C n live c s ρ h):Wp C n c s ρ h:=by
 have:=a ρ;clear a
 induction live <;> grind
noncomputable def Rb(C:fm) (n:Nat) (tb:List (Nat×List Nat)) (c:Code):Nat->Nat->XQ->XQ->gD->Hp->Prop:=
 Code.rec (motive:=λ_=>Nat->Nat->XQ->XQ->gD->Hp->Prop)
  (λ_ _ v _=>v .normal)
  (fun _ ops d _ _ v _=>match d with
   |false=>Ui C n ops.toList (λρ h=>v .normal ρ h) ops.toList 0
   | true=>match yG ops.toList with
     |true=>Yk C n ops.toList (λρ h=>v .normal ρ h)
     |false=>λ_ _=>False)
  (λ_ b a g p e v s=>a p (Nat.mul 2 e) (andThen (Option.rec (motive:=λ_=>gD->Hp->Prop) (g (Nat.add p e) (Nat.mul 2 e) v s) (λlive=>jV C n live b s) (Nc tb (Nat.mul 2 (Nat.add (Nat.add p e) (Nat.mul 2 e))))) v) (andThen (Wp C n b s) s))
  (λc _ _ a g p e v s ρ h=>Option.rec (motive:=λ_=>Prop) False (λx=>bP x (a p (Nat.mul 2 e) v s ρ h) (g (Nat.add p e) (Nat.mul 2 e) v s ρ h)) ((tq c).f (.fn ρ []) h))
  (λid _ i p e v s=>i p (Nat.mul 2 e) (xm id v) (xm id s))
  (λc _ p e _ s=>Option.rec (motive:=λ_=>gD->Hp->Prop) (λ_ _=>False) (λlive=>jV C n live (.loop c) s) (Nc tb (Nat.succ (Nat.mul 2 (Nat.add p e)))))
  (λ_ _ _ _ _ _ _ _ _ _ _ _=>False)
  (λid _ _ v _=>v (.exit id))
  (λ_ _ _ _ _ _ _ _=>False)
  (λ_ _ _ _ _ _ _=>False)
  (λ_ _ _ _ _ _ _=>False)
  (λ_ _ v _=>v .ret)
  (λ_ _ _ _ _ _ _=>False) c
theorem B6{k k':gD->Hp->Prop} {v s:XQ} (hk:∀ρ h,k ρ h->k' ρ h) (hq:∀x ρ h,v x ρ h->s x ρ h):∀x ρ h,andThen k v x ρ h->andThen k' s x ρ h
 | .normal,_,_,hh=>hk _ _ hh
 | .exit _,_,_,hh=>hq _ _ _ hh
 | .ret,_,_,hh=>hq _ _ _ hh
theorem NQ{id:Nat} {v s:XQ} (hq:∀x ρ h,v x ρ h->s x ρ h):∀x ρ h,xm id v x ρ h->xm id s x ρ h
 | .normal,_,_,hh=>hq _ _ _ hh
 | .ret,_,_,hh=>hq _ _ _ hh
 | .exit i,ρ,h,hh=>by
   simp only[xm]at hh⊢;cases hb:Nat.beq i id <;> simp_all
theorem wi{C:fm} {n:Nat} {tb:List (Nat×List Nat)}:∀(c:Code) {p e:Nat} {v s:XQ} {ρ:gD} {h:Hp},(∀x ρ h,v x ρ h->s x ρ h)->Rb C n tb c p e v s ρ h->Wp C n c s ρ h
 | .skip,_,_,_,_,_,_,hq,hk=> .skip (hq _ _ _ hk)
 | .region _ ops false,_,_,v,_,ρ,h,hq,hk=>by
   have d:Ui C n ops.toList (λρ h=>v .normal ρ h) ops.toList 0 ρ h:=hk
   exact(Wp.region (JO _ 0 d)).mono hq
 | .region _ ops true,_,_,v,_,ρ,h,hq,hk=>by
   have d:(match yG ops.toList with
       |true=>Yk C n ops.toList (λρ h=>v .normal ρ h)
       |false=>λ_ _=>False) ρ h:=hk
   cases hd:yG ops.toList with
   |true=>rw[hd]at d;exact(Wp.draw hd (YP d)).mono hq
   |false=>simp_all
 | .seq a b,p,e,v,s,ρ,h,hq,hk=>by
   refine .seq (wi a (B6 ?_ hq) hk);intro ρ h g
   cases hf:Nc tb (Nat.mul 2 (Nat.add (Nat.add p e) (Nat.mul 2 e)))with
   |none=>rw[hf]at g;exact wi b hq g
   |some live=>rw[hf]at g;exact Y9 g
 | .cond c a b,p,e,v,s,ρ,h,hq,hk=>by
   have d:oP ((tq c).f (.fn ρ []) h) (λx=>bP x (Rb C n tb a p (Nat.mul 2 e) v s ρ h) (Rb C n tb b (Nat.add p e) (Nat.mul 2 e) v s ρ h)):=hk;obtain⟨x,hv,d⟩:=kS.1 d
   exact .cond (ed hv (bM d (wi a hq) (wi b hq)))
 | .block id c,_,_,_,_,_,_,hq,hk=> .block (wi c (NQ hq) hk)
 | .loop c,p,e,v,s,ρ,h,hq,hk=>by
   have d:(Option.rec (motive:=λ_=>gD->Hp->Prop) (λ_ _=>False) (λlive=>jV C n live (.loop c) s) (Nc tb (Nat.succ (Nat.mul 2 (Nat.add p e)))):gD->Hp->Prop) ρ h:=hk
   cases hf:Nc tb (Nat.succ (Nat.mul 2 (Nat.add p e)))with
   |none=>simp_all
   |some live=>rw[hf]at d;grind[Y9]
 | .exit id,_,_,_,_,_,_,hq,hk=> .exit (hq _ _ _ hk)
 | .ret,_,_,_,_,_,_,hq,hk=> .ret (hq _ _ _ hk)
 | .rangeFunc ..,_,_,_,_,_,_,_,hk=>hk.elim
 | .scope _,_,_,_,_,_,_,_,hk=>hk.elim
 | .label _,_,_,_,_,_,_,_,hk=>hk.elim
 | .goto _,_,_,_,_,_,_,_,hk=>hk.elim
 | .refuse _,_,_,_,_,_,_,_,hk=>hk.elim
structure WQ where
 c:Code
 v:XQ
 s:XQ
 p:Nat
 e:Nat
 ks:List (gD->Hp->Prop)
def zb6(l:List (gD->Hp->Prop)):gD->Hp->Prop:=match l with
 |k::_=>k
 |[]=>λ_ _=>False
noncomputable def j8(C:fm) (n:Nat) (tb:List (Nat×List Nat)) (a:WQ) (b:Bool):WQ:=match a.c,b with
 | .seq x y,false=>{c:=x,v:=andThen (Option.rec (motive:=λ_=>gD->Hp->Prop) (Rb C n tb y (Nat.add a.p a.e) (Nat.mul 2 a.e) a.v a.s) (λlive=>jV C n live y a.s) (Nc tb (Nat.mul 2 (Nat.add (Nat.add a.p a.e) (Nat.mul 2 a.e))))) a.v,s:=andThen (Wp C n y a.s) a.s,p:=a.p,e:=Nat.mul 2 a.e,ks:=a.ks}
 | .seq _ y,true=>{c:=y,v:=a.v,s:=a.s,p:=Nat.add a.p a.e,e:=Nat.mul 2 a.e,ks:=a.ks}
 | .cond _ x _,false=>{c:=x,v:=a.v,s:=a.s,p:=a.p,e:=Nat.mul 2 a.e,ks:=a.ks}
 | .cond _ _ y,true=>{c:=y,v:=a.v,s:=a.s,p:=Nat.add a.p a.e,e:=Nat.mul 2 a.e,ks:=a.ks}
 | .block id x,false=>{c:=x,v:=xm id a.v,s:=xm id a.s,p:=a.p,e:=Nat.mul 2 a.e,ks:=a.ks}
 | .loop x,false=>{c:=x,v:=andThen (zb6 a.ks) a.v,s:=andThen (zb6 a.ks) a.s,p:=a.p,e:=Nat.mul 2 a.e,ks:=a.ks.tail}
 |_,_=>a
noncomputable def zeM(C:fm) (n:Nat) (tb:List (Nat×List Nat)) (bs:List Bool):WQ->WQ:=List.rec (motive:=λ_=>WQ->WQ) (λa=>a) (λb _ c a=>c (j8 C n tb a b)) bs
def zew(k:Nat):List Bool:=(Nat.rec (motive:=λ_=>Nat->List Bool) (λ_=>[]) (λ_ a p=>match Nat.ble p 1 with
 |true=>[]
 |false=>Nat.beq (Nat.mod p 2) 1::a (Nat.div p 2)) 400:Nat->List Bool) k
def Ub(Q:V->Hp->Prop) (ρ:gD) (h:Hp) (l:List ResultVar):List V->Prop:=
 List.rec (motive:=λ_=>List V->Prop) (λb=>Q (zP b.reverse) h) (λr _ c b=>match r with
  | .tmp i=>c (ρ i::b)
  | .cell a ty=>oP ((Wf (.cell a ty)).f (.fn ρ []) h) λv=>c (v::b)) l
theorem L8{Q:V->Hp->Prop} {ρ:gD} {h:Hp}:∀{l:List ResultVar} {b:List V},Ub Q ρ h l b->oP (Ap (.fn ρ []) h l) λvs=>Q (zP (b.reverse++vs)) h
 | [],b,hh=>by
   grind[zP,Ap,zap,oP,Ub]
 | .tmp i::l,b,hh=>by
   have c:Ub Q ρ h l (ρ i::b):=hh;obtain⟨vs,d,e⟩:=kS.1 (L8 c);refine ed (show Ap (.fn ρ []) h (.tmp i::l)=some (ρ i::vs) from ?_) ?_
   ·show oB (some (ρ i)) _=_
    simp_all
   simp_all
 | .cell a ty::l,b,hh=>by
   have c:oP ((Wf (.cell a ty)).f (.fn ρ []) h) λv=>Ub Q ρ h l (v::b):=hh;obtain⟨v,h0,c⟩:=kS.1 c;obtain⟨vs,d,e⟩:=kS.1 (L8 c)
   simp_all[ed,Ap,oB,Wf]
def U7(l:List ResultVar) (Q:V->Hp->Prop):XQ
 | .exit _,_,_=>False
 |_,ρ,h=>Ub Q ρ h l []
theorem Su{l:List ResultVar} {Q:V->Hp->Prop}:∀x ρ h,U7 l Q x ρ h->ID l Q x ρ h
 | .exit _,_,_,hh=>hh
 | .normal,_,_,hh=>by grind[L8,Ub,ID,zas,U7]
 | .ret,_,_,hh=>by grind[L8,Ub,ID,zas,U7]
noncomputable def Zg(fn:Func)(ks:List (gD->Hp->Prop))(Q:V->Hp->Prop):WQ:={c:=KA fn,v:=U7 fn.results.toList Q,s:=ID fn.results.toList Q,p:=0,e:=1,ks}
noncomputable def fK(C:fm)(fn:Func)(tb:List (Nat×List Nat))(k:Nat)(ks:List (gD->Hp->Prop))(Q:V->Hp->Prop):WQ:=zeM C fn.ntmps tb (zew k) (Zg fn ks Q)
noncomputable def WA(C:fm)(fn:Func)(tb:List (Nat×List Nat))(k:Nat)(ks:List (gD->Hp->Prop))(Q:V->Hp->Prop)(ρ:gD)(h:Hp):Prop:=Wp C fn.ntmps (fK C fn tb k ks Q).c (fK C fn tb k ks Q).s ρ h
noncomputable def VA(C:fm)(n:Nat)(tb:List (Nat×List Nat))(a:WQ)(ρ:gD)(h:Hp):Prop:=Rb C n tb a.c a.p a.e a.v a.s ρ h
def WQ.ok(a:WQ):Prop:=∀x ρ h,a.v x ρ h->a.s x ρ h
theorem WZ{C:fm} {n:Nat} {tb:List (Nat×List Nat)} {a:WQ} (c:a.ok) (b:Bool):(j8 C n tb a b).ok:=by
 unfold j8;split
 ·refine B6 (λρ h d=>?_) c
  cases hf:Nc tb (Nat.mul 2 (Nat.add (Nat.add a.p a.e) (Nat.mul 2 a.e)))with
  |none=>rw[hf]at d;exact wi _ c d
  |some live=>rw[hf]at d;exact Y9 d
 ·exact c
 ·exact c
 ·exact c
 ·exact NQ c
 ·exact B6 (by simp_all) c
 ·exact c
theorem Vs{C:fm} {n:Nat} {tb:List (Nat×List Nat)}:∀{bs:List Bool} {a:WQ},a.ok->(zeM C n tb bs a).ok
 |[],_,ha=>ha
 |b::bs,_,ha=>Vs (bs:=bs) (WZ ha b)
theorem OW{C:fm}{fn:Func}{tb:List (Nat×List Nat)}{k:Nat}{ks:List (gD->Hp->Prop)}{Q:V->Hp->Prop}:(fK C fn tb k ks Q).ok:=Vs Su
theorem WA.of{C:fm} {fn:Func} {tb:List (Nat×List Nat)} {k:Nat} {ks:List (gD->Hp->Prop)} {Q:V->Hp->Prop} {ρ:gD} {h:Hp} {P:Prop}
  (e:VA C fn.ntmps tb (fK C fn tb k ks Q) ρ h=P) (H:P):WA C fn tb k ks Q ρ h:=wi _ OW (e.mpr H)
def kX(c:Code):Bool:=match c with
 | .loop _=>true
 |_=>false
inductive LA (C:fm) (fn:Func) (tb:List (Nat×List Nat)) (k:Nat) (ks:List (gD->Hp->Prop)) (Q:V->Hp->Prop) (K:gD->Hp->Prop) (ρ:gD) (h:Hp):Prop
 |mk (hv:VA C fn.ntmps tb (j8 C fn.ntmps tb {fK C fn tb k ks Q with ks:=[K]} false) ρ h)
theorem LA.of{C:fm} {fn:Func} {tb:List (Nat×List Nat)} {k:Nat} {ks:List (gD->Hp->Prop)} {Q:V->Hp->Prop} {K:gD->Hp->Prop} {ρ:gD} {h:Hp} {P:Prop}
  (e:VA C fn.ntmps tb (j8 C fn.ntmps tb {fK C fn tb k ks Q with ks:=[K]} false) ρ h=P) (H:P):LA C fn tb k ks Q K ρ h:=⟨e.mpr H⟩
theorem WA.loop{C:fm} {fn:Func} {tb:List (Nat×List Nat)} {k:Nat} {ks:List (gD->Hp->Prop)} {Q:V->Hp->Prop} {ρ:gD} {h:Hp} (I:Nat->gD->Hp->Prop) {m:Nat}
  (f:kX (fK C fn tb k ks Q).c=true) (hk:(fK C fn tb k ks Q).ks=[])
  (b:∀m ρ h,I m ρ h->LA C fn tb k ks Q (λi h'=>∃g,g<m/\I g i h') ρ h) (h0:I m ρ h):WA C fn tb k ks Q ρ h:=by
 unfold WA;have b:=λm ρ h hi=>(b m ρ h hi).1;have d:(fK C fn tb k ks Q).ok:=OW;generalize fK C fn tb k ks Q=a at*;obtain⟨c,v,s,p,e,j⟩:=a;cases c <;> simp only[kX]at f <;> try exact absurd f (by decide)
 rename_i c;refine Wp.zbK I (λm ρ h hi=>?_) h0;have:=b m ρ h hi;exact wi c (B6 (λ_ _ l=>l) d) this
theorem cP.vc{C:fm} (hs:C.start=fN) {f:Nat} {fn:Func} {tb:List (Nat×List Nat)} {args:List V} {h:Hp} {Q:V->Hp->Prop} {P:Prop} (b:P0.funcs[f]? =some fn) (c:fn.body=some (KA fn))
  (hk:C.K f args h=none) (a:Nat.ble args.length fn.ntmps=true) (e:VA C fn.ntmps tb (Zg fn [] Q) (Lv args) h=P) (H:P):cP C f args h Q:=
 cP.func hs b c hk (Kj a) (wi _ Su (e.mpr H))
abbrev LP:=List V->Hp->Prop
def chV(ρ:gD):List Nat->List V->Prop->Prop
 |i::is,x::xs,P=>ρ i=x->chV ρ is xs P
 |_,_,P=>P
def kf(is:List Nat)(K:LP):gD->Hp->Prop:=λρ h=>K (is.map ρ) h
def JV(C:fm)(fn:Func)(tb:List (Nat×List Nat))(k:Nat)(is:List Nat)(ks:List (gD->Hp->Prop))(Q:ft):LP:=λl h=>∀ρ:gD,chV ρ is l (WA C fn tb k ks Q ρ h)
theorem Tu{ρ:gD}{P:Prop}:∀{is:List Nat}{l:List V},is.length=l.length->(is.map ρ=l->P)->chV ρ is l P
 |[],[],_,h=>h rfl
 |[],_::_,e,_=>by cases e
 |_::_,[],e,_=>by cases e
 |i::is,x::l,e,h=>λa=>Tu (is:=is) (l:=l) (by simp_all) (by simp_all)
def zah:Nat->Type
 |0=>Hp->Prop
 |n+1=>V->zah n
def HX:(n:Nat)->zah n->LP
 |0,f,[],h=>f h
 |n+1,f,x::l,h=>HX n (f x) l h
 |_,_,_,_=>False
@[reducible] def BK (I:Nat->LP) (k:Nat):LP:=λl h=>∃k',k' < k/\I k' l h
section
variable{C:fm}{fn:Func}{tb:List (Nat×List Nat)}{k m:Nat}{is:List Nat}{ks:List (gD->Hp->Prop)}{Q:ft}{h:Hp}{l:List V}
theorem JV.mk(n:Nat)(B:zah n)(e:∀(ρ:gD)(h:Hp),VA C fn.ntmps tb (fK C fn tb k ks Q) ρ h=HX n B (is.map ρ) h)(a:is.length=l.length)(H:HX n B l h):JV C fn tb k is ks Q l h:=λρ=>Tu a λb=>by
 subst b;exact WA.of (e ρ h) H
theorem JV.loop(n:Nat)(I:Nat->LP)(B:LP->zah n)(a:kX (fK C fn tb k ks Q).c=true)(hk:(fK C fn tb k ks Q).ks=[])
  (e:∀(K:LP) (ρ:gD) (h:Hp),VA C fn.ntmps tb (j8 C fn.ntmps tb {fK C fn tb k ks Q with ks:=[kf is K]} false) ρ h=HX n (B K) (is.map ρ) h)
  (d:∀m l h,l.length=n->I m l h->HX n (B (BK I m)) l h) (f:is.length=n) (hlen:is.length=l.length) (h0:I m l h):JV C fn tb k is ks Q l h:=λρ=>Tu hlen λb=>by
 subst b;exact WA.loop (λm ρ h=>I m (is.map ρ) h) a hk (λm ρ h hi=>LA.of (e (BK I m) ρ h) (by grind)) h0
abbrev dF(k:Nat)(x:V)(h:Hp)(K:V->Prop):Prop:=oP (fH k x) λa=>oP (ez a h) K
abbrev dN(k:Nat)(x:V)(h:Hp)(K:V->Prop):Prop:=oP (gY x) λa=>dF k a h K
abbrev dI(n:Nat)(x i:V)(k:Nat)(h:Hp)(K:V->Prop):Prop:=oP (gz n x i) λa=>dF k a h K
abbrev dX(n:Nat)(x i:V)(h:Hp)(K:V->Prop):Prop:=oP (gz n x i) λa=>oP (ez a h) K
abbrev dG(k:Nat)(x:V)(h:Hp)(K:V->Prop):Prop:=dF k x h λa=>oP (fE a) K
abbrev dJ(k:Nat)(x:V)(n:Nat)(i:V)(j:Nat)(h:Hp)(K:V->Prop):Prop:=dF k x h λa=>dI n a i j h K
abbrev dY(k:Nat)(x:V)(n:Nat)(i:V)(h:Hp)(K:V->Prop):Prop:=dF k x h λa=>dX n a i h K
abbrev bO(o:BinOp)(t:Nat)(a b:V)(A B:Prop):Prop:=oP (en o t a b) λv=>bP v A B
abbrev bN(a:V)(A B:Prop):Prop:=oP (pt .not a) λv=>bP v A B
theorem oF{k l o:Nat}{h:Hp}{v:V}{K:V->Prop}(a:ez (.ptr l (o+k)) h=some v)(b:K v):dF k (.ptr l o) h K:=kS.2 ⟨_,fT _ _ _,kS.2 ⟨_,a,b⟩⟩
theorem oN{k l o:Nat}{h:Hp}{v:V}{K:V->Prop}(a:ez (.ptr l (o+k)) h=some v)(b:K v):dN k (.ptr l o) h K:=kS.2 (by simp_all[fQ,oF])
theorem cP.vd{C:fm}{f:Nat}{fn:Func}(tb:List (Nat×List Nat)){args:List V}{h:Hp}{Q:ft}{P:Prop}(hs:C.start=fN)(b:P0.funcs[f]? =some fn)(hk:C.K f args h=none)(H:P)
  (c:fn.body=some (KA fn):=by kernel_rfl) (a:Nat.ble args.length fn.ntmps=true:=by kernel_rfl) (e:VA C fn.ntmps tb (Zg fn [] Q) (Lv args) h=P:=by kernel_rfl):cP C f args h Q:=cP.vc hs b c hk a e H
abbrev S1(I:Nat->LP)(B:LP->ft):Prop:=∀(k:Nat) (a:V) (h:Hp),I k [a] h->B (BK I k) a h
abbrev R1(B:ft)(J:LP):Prop:=∀{a:V} {h:Hp},B a h->J [a] h
theorem JV.r1(B:ft)(e:∀(ρ:gD)(h:Hp),VA C fn.ntmps tb (fK C fn tb k ks Q) ρ h=HX 1 B (is.map ρ) h:=by intros;kernel_rfl)(a:is.length=1:=by rfl):R1 B (JV C fn tb k is ks Q):=λH=>JV.mk 1 B e a H
abbrev S2(I:Nat->LP)(B:LP->QP2):Prop:=∀(k:Nat) (a b:V) (h:Hp),I k [a,b] h->B (BK I k) a b h
abbrev R2(B:QP2)(J:LP):Prop:=∀{a b:V} {h:Hp},B a b h->J [a,b] h
theorem JV.l2(I:Nat->LP)(B:LP->QP2)(s:S2 I B)(i:I m l h)(g:l.length=2)(b:kX (fK C fn tb k ks Q).c=true:=by kernel_rfl)(hk:(fK C fn tb k ks Q).ks=[]:=by kernel_rfl)
  (e:∀(K:LP) (ρ:gD) (h:Hp),VA C fn.ntmps tb (j8 C fn.ntmps tb {fK C fn tb k ks Q with ks:=[kf is K]} false) ρ h=HX 2 (B K) (is.map ρ) h:=by intros;kernel_rfl) (a:is.length=2:=by rfl):JV C fn tb k is ks Q l h:=
 JV.loop 2 I B b hk e (λk l h g i=>match l,g,i with|[d,f],_,i=>s k d f h i) a (a.trans g.symm) i
abbrev S3(I:Nat->LP)(B:LP->Rk):Prop:=∀(k:Nat) (a b c:V) (h:Hp),I k [a,b,c] h->B (BK I k) a b c h
abbrev R3(B:Rk)(J:LP):Prop:=∀{a b c:V} {h:Hp},B a b c h->J [a,b,c] h
theorem JV.l3(I:Nat->LP)(B:LP->Rk)(s:S3 I B)(i:I m l h)(g:l.length=3)(b:kX (fK C fn tb k ks Q).c=true:=by kernel_rfl)(hk:(fK C fn tb k ks Q).ks=[]:=by kernel_rfl)
  (e:∀(K:LP) (ρ:gD) (h:Hp),VA C fn.ntmps tb (j8 C fn.ntmps tb {fK C fn tb k ks Q with ks:=[kf is K]} false) ρ h=HX 3 (B K) (is.map ρ) h:=by intros;kernel_rfl) (a:is.length=3:=by rfl):JV C fn tb k is ks Q l h:=
 JV.loop 3 I B b hk e (λk l h g i=>match l,g,i with|[d,f,j],_,i=>s k d f j h i) a (a.trans g.symm) i
theorem JV.r3(B:Rk)(e:∀(ρ:gD)(h:Hp),VA C fn.ntmps tb (fK C fn tb k ks Q) ρ h=HX 3 B (is.map ρ) h:=by intros;kernel_rfl)(a:is.length=3:=by rfl):R3 B (JV C fn tb k is ks Q):=λH=>JV.mk 3 B e a H
abbrev S4(I:Nat->LP)(B:LP->LX):Prop:=∀(k:Nat) (a b c d:V) (h:Hp),I k [a,b,c,d] h->B (BK I k) a b c d h
abbrev R4(B:LX)(J:LP):Prop:=∀{a b c d:V} {h:Hp},B a b c d h->J [a,b,c,d] h
theorem JV.l4(I:Nat->LP)(B:LP->LX)(s:S4 I B)(i:I m l h)(g:l.length=4)(b:kX (fK C fn tb k ks Q).c=true:=by kernel_rfl)(hk:(fK C fn tb k ks Q).ks=[]:=by kernel_rfl)
  (e:∀(K:LP) (ρ:gD) (h:Hp),VA C fn.ntmps tb (j8 C fn.ntmps tb {fK C fn tb k ks Q with ks:=[kf is K]} false) ρ h=HX 4 (B K) (is.map ρ) h:=by intros;kernel_rfl) (a:is.length=4:=by rfl):JV C fn tb k is ks Q l h:=
 JV.loop 4 I B b hk e (λk l h g i=>match l,g,i with|[d,f,j,n],_,i=>s k d f j n h i) a (a.trans g.symm) i
abbrev S5(I:Nat->LP)(B:LP->J0):Prop:=∀(k:Nat) (a b c d e:V) (h:Hp),I k [a,b,c,d,e] h->B (BK I k) a b c d e h
abbrev R5(B:J0)(J:LP):Prop:=∀{a b c d e:V} {h:Hp},B a b c d e h->J [a,b,c,d,e] h
theorem JV.l5(I:Nat->LP)(B:LP->J0)(s:S5 I B)(i:I m l h)(g:l.length=5)(b:kX (fK C fn tb k ks Q).c=true:=by kernel_rfl)(hk:(fK C fn tb k ks Q).ks=[]:=by kernel_rfl)
  (e:∀(K:LP) (ρ:gD) (h:Hp),VA C fn.ntmps tb (j8 C fn.ntmps tb {fK C fn tb k ks Q with ks:=[kf is K]} false) ρ h=HX 5 (B K) (is.map ρ) h:=by intros;kernel_rfl) (a:is.length=5:=by rfl):JV C fn tb k is ks Q l h:=
 JV.loop 5 I B b hk e (λk l h g i=>match l,g,i with|[d,f,j,n,o],_,i=>s k d f j n o h i) a (a.trans g.symm) i
theorem JV.r5(B:J0)(e:∀(ρ:gD)(h:Hp),VA C fn.ntmps tb (fK C fn tb k ks Q) ρ h=HX 5 B (is.map ρ) h:=by intros;kernel_rfl)(a:is.length=5:=by rfl):R5 B (JV C fn tb k is ks Q):=λH=>JV.mk 5 B e a H
abbrev S6(I:Nat->LP)(B:LP->Qg):Prop:=∀(k:Nat) (a b c d e f:V) (h:Hp),I k [a,b,c,d,e,f] h->B (BK I k) a b c d e f h
abbrev R6(B:Qg)(J:LP):Prop:=∀{a b c d e f:V} {h:Hp},B a b c d e f h->J [a,b,c,d,e,f] h
theorem JV.l6(I:Nat->LP)(B:LP->Qg)(s:S6 I B)(i:I m l h)(g:l.length=6)(b:kX (fK C fn tb k ks Q).c=true:=by kernel_rfl)(hk:(fK C fn tb k ks Q).ks=[]:=by kernel_rfl)
  (e:∀(K:LP) (ρ:gD) (h:Hp),VA C fn.ntmps tb (j8 C fn.ntmps tb {fK C fn tb k ks Q with ks:=[kf is K]} false) ρ h=HX 6 (B K) (is.map ρ) h:=by intros;kernel_rfl) (a:is.length=6:=by rfl):JV C fn tb k is ks Q l h:=
 JV.loop 6 I B b hk e (λk l h g i=>match l,g,i with|[d,f,j,n,o,p],_,i=>s k d f j n o p h i) a (a.trans g.symm) i
theorem JV.r6(B:Qg)(e:∀(ρ:gD)(h:Hp),VA C fn.ntmps tb (fK C fn tb k ks Q) ρ h=HX 6 B (is.map ρ) h:=by intros;kernel_rfl)(a:is.length=6:=by rfl):R6 B (JV C fn tb k is ks Q):=λH=>JV.mk 6 B e a H
abbrev S7(I:Nat->LP)(B:LP->Q0):Prop:=∀(k:Nat) (a b c d e f g:V) (h:Hp),I k [a,b,c,d,e,f,g] h->B (BK I k) a b c d e f g h
abbrev R7(B:Q0)(J:LP):Prop:=∀{a b c d e f g:V} {h:Hp},B a b c d e f g h->J [a,b,c,d,e,f,g] h
theorem JV.l7(I:Nat->LP)(B:LP->Q0)(s:S7 I B)(i:I m l h)(g:l.length=7)(b:kX (fK C fn tb k ks Q).c=true:=by kernel_rfl)(hk:(fK C fn tb k ks Q).ks=[]:=by kernel_rfl)
  (e:∀(K:LP) (ρ:gD) (h:Hp),VA C fn.ntmps tb (j8 C fn.ntmps tb {fK C fn tb k ks Q with ks:=[kf is K]} false) ρ h=HX 7 (B K) (is.map ρ) h:=by intros;kernel_rfl) (a:is.length=7:=by rfl):JV C fn tb k is ks Q l h:=
 JV.loop 7 I B b hk e (λk l h g i=>match l,g,i with|[d,f,j,n,o,p,q],_,i=>s k d f j n o p q h i) a (a.trans g.symm) i
theorem JV.r7(B:Q0)(e:∀(ρ:gD)(h:Hp),VA C fn.ntmps tb (fK C fn tb k ks Q) ρ h=HX 7 B (is.map ρ) h:=by intros;kernel_rfl)(a:is.length=7:=by rfl):R7 B (JV C fn tb k is ks Q):=λH=>JV.mk 7 B e a H
abbrev S8(I:Nat->LP)(B:LP->L0):Prop:=∀(k:Nat) (a b c d e f g i:V) (h:Hp),I k [a,b,c,d,e,f,g,i] h->B (BK I k) a b c d e f g i h
abbrev R8(B:L0)(J:LP):Prop:=∀{a b c d e f g i:V} {h:Hp},B a b c d e f g i h->J [a,b,c,d,e,f,g,i] h
theorem JV.l8(I:Nat->LP)(B:LP->L0)(s:S8 I B)(i:I m l h)(g:l.length=8)(b:kX (fK C fn tb k ks Q).c=true:=by kernel_rfl)(hk:(fK C fn tb k ks Q).ks=[]:=by kernel_rfl)
  (e:∀(K:LP) (ρ:gD) (h:Hp),VA C fn.ntmps tb (j8 C fn.ntmps tb {fK C fn tb k ks Q with ks:=[kf is K]} false) ρ h=HX 8 (B K) (is.map ρ) h:=by intros;kernel_rfl) (a:is.length=8:=by rfl):JV C fn tb k is ks Q l h:=
 JV.loop 8 I B b hk e (λk l h g i=>match l,g,i with|[d,f,j,n,o,p,q,r],_,i=>s k d f j n o p q r h i) a (a.trans g.symm) i
theorem JV.r8(B:L0)(e:∀(ρ:gD)(h:Hp),VA C fn.ntmps tb (fK C fn tb k ks Q) ρ h=HX 8 B (is.map ρ) h:=by intros;kernel_rfl)(a:is.length=8:=by rfl):R8 B (JV C fn tb k is ks Q):=λH=>JV.mk 8 B e a H
abbrev S9(I:Nat->LP)(B:LP->QP9):Prop:=∀(k:Nat) (a b c d e f g i j:V) (h:Hp),I k [a,b,c,d,e,f,g,i,j] h->B (BK I k) a b c d e f g i j h
abbrev R9(B:QP9)(J:LP):Prop:=∀{a b c d e f g i j:V} {h:Hp},B a b c d e f g i j h->J [a,b,c,d,e,f,g,i,j] h
theorem JV.l9(I:Nat->LP)(B:LP->QP9)(s:S9 I B)(i:I m l h)(g:l.length=9)(b:kX (fK C fn tb k ks Q).c=true:=by kernel_rfl)(hk:(fK C fn tb k ks Q).ks=[]:=by kernel_rfl)
  (e:∀(K:LP) (ρ:gD) (h:Hp),VA C fn.ntmps tb (j8 C fn.ntmps tb {fK C fn tb k ks Q with ks:=[kf is K]} false) ρ h=HX 9 (B K) (is.map ρ) h:=by intros;kernel_rfl) (a:is.length=9:=by rfl):JV C fn tb k is ks Q l h:=
 JV.loop 9 I B b hk e (λk l h g i=>match l,g,i with|[d,f,j,n,o,p,q,r,t],_,i=>s k d f j n o p q r t h i) a (a.trans g.symm) i
theorem JV.r9(B:QP9)(e:∀(ρ:gD)(h:Hp),VA C fn.ntmps tb (fK C fn tb k ks Q) ρ h=HX 9 B (is.map ρ) h:=by intros;kernel_rfl)(a:is.length=9:=by rfl):R9 B (JV C fn tb k is ks Q):=λH=>JV.mk 9 B e a H
abbrev S10(I:Nat->LP)(B:LP->K9):Prop:=∀(k:Nat) (b c d e f g i j l a:V) (h:Hp),I k [b,c,d,e,f,g,i,j,l,a] h->B (BK I k) b c d e f g i j l a h
abbrev Fc(B:K9)(J:LP):Prop:=∀{b c d e f g i j k a:V} {h:Hp},B b c d e f g i j k a h->J [b,c,d,e,f,g,i,j,k,a] h
theorem JV.l10(I:Nat->LP)(B:LP->K9)(s:S10 I B)(i:I m l h)(g:l.length=10)(d:kX (fK C fn tb k ks Q).c=true:=by kernel_rfl)(hk:(fK C fn tb k ks Q).ks=[]:=by kernel_rfl)
  (e:∀(K:LP) (ρ:gD) (h:Hp),VA C fn.ntmps tb (j8 C fn.ntmps tb {fK C fn tb k ks Q with ks:=[kf is K]} false) ρ h=HX 10 (B K) (is.map ρ) h:=by intros;kernel_rfl) (b:is.length=10:=by rfl):JV C fn tb k is ks Q l h:=
 JV.loop 10 I B d hk e (λk l h g i=>match l,g,i with|[f,j,n,o,p,q,r,t,u,a],_,i=>s k f j n o p q r t u a h i) b (b.trans g.symm) i
theorem JV.YE(B:K9)(e:∀(ρ:gD)(h:Hp),VA C fn.ntmps tb (fK C fn tb k ks Q) ρ h=HX 10 B (is.map ρ) h:=by intros;kernel_rfl)(a:is.length=10:=by rfl):Fc B (JV C fn tb k is ks Q):=λH=>JV.mk 10 B e a H
abbrev S11(I:Nat->LP)(B:LP->Fx):Prop:=∀(k:Nat) (c d e f g i j l m a b:V) (h:Hp),I k [c,d,e,f,g,i,j,l,m,a,b] h->B (BK I k) c d e f g i j l m a b h
abbrev R11(B:Fx)(J:LP):Prop:=∀{c d e f g i j k l a b:V} {h:Hp},B c d e f g i j k l a b h->J [c,d,e,f,g,i,j,k,l,a,b] h
theorem JV.l11(I:Nat->LP)(B:LP->Fx)(s:S11 I B)(i:I m l h)(g:l.length=11)(f:kX (fK C fn tb k ks Q).c=true:=by kernel_rfl)(hk:(fK C fn tb k ks Q).ks=[]:=by kernel_rfl)
  (e:∀(K:LP) (ρ:gD) (h:Hp),VA C fn.ntmps tb (j8 C fn.ntmps tb {fK C fn tb k ks Q with ks:=[kf is K]} false) ρ h=HX 11 (B K) (is.map ρ) h:=by intros;kernel_rfl) (d:is.length=11:=by rfl):JV C fn tb k is ks Q l h:=
 JV.loop 11 I B f hk e (λk l h g i=>match l,g,i with|[j,n,o,p,q,r,t,u,v,a,b],_,i=>s k j n o p q r t u v a b h i) d (d.trans g.symm) i
theorem JV.r11(B:Fx)(e:∀(ρ:gD)(h:Hp),VA C fn.ntmps tb (fK C fn tb k ks Q) ρ h=HX 11 B (is.map ρ) h:=by intros;kernel_rfl)(a:is.length=11:=by rfl):R11 B (JV C fn tb k is ks Q):=λH=>JV.mk 11 B e a H
abbrev S12(I:Nat->LP)(B:LP->za6):Prop:=∀(k:Nat) (d e f g i j l m n a b c:V) (h:Hp),I k [d,e,f,g,i,j,l,m,n,a,b,c] h->B (BK I k) d e f g i j l m n a b c h
abbrev R12(B:za6)(J:LP):Prop:=∀{d e f g i j k l m a b c:V} {h:Hp},B d e f g i j k l m a b c h->J [d,e,f,g,i,j,k,l,m,a,b,c] h
theorem JV.l12(I:Nat->LP)(B:LP->za6)(s:S12 I B)(i:I m l h)(g:l.length=12)(j:kX (fK C fn tb k ks Q).c=true:=by kernel_rfl)(hk:(fK C fn tb k ks Q).ks=[]:=by kernel_rfl)
  (e:∀(K:LP) (ρ:gD) (h:Hp),VA C fn.ntmps tb (j8 C fn.ntmps tb {fK C fn tb k ks Q with ks:=[kf is K]} false) ρ h=HX 12 (B K) (is.map ρ) h:=by intros;kernel_rfl) (f:is.length=12:=by rfl):JV C fn tb k is ks Q l h:=
 JV.loop 12 I B j hk e (λk l h g i=>match l,g,i with|[n,o,p,q,r,t,u,v,w,a,b,d],_,i=>s k n o p q r t u v w a b d h i) f (f.trans g.symm) i
theorem JV.r12(B:za6)(e:∀(ρ:gD)(h:Hp),VA C fn.ntmps tb (fK C fn tb k ks Q) ρ h=HX 12 B (is.map ρ) h:=by intros;kernel_rfl)(a:is.length=12:=by rfl):R12 B (JV C fn tb k is ks Q):=λH=>JV.mk 12 B e a H
abbrev S13(I:Nat->LP)(B:LP->IP):Prop:=∀(k:Nat) (e f g i j l m n o a b c d:V) (h:Hp),I k [e,f,g,i,j,l,m,n,o,a,b,c,d] h->B (BK I k) e f g i j l m n o a b c d h
abbrev R13(B:IP)(J:LP):Prop:=∀{e f g i j k l m n a b c d:V} {h:Hp},B e f g i j k l m n a b c d h->J [e,f,g,i,j,k,l,m,n,a,b,c,d] h
theorem JV.l13(I:Nat->LP)(B:LP->IP)(s:S13 I B)(i:I m l h)(g:l.length=13)(n:kX (fK C fn tb k ks Q).c=true:=by kernel_rfl)(hk:(fK C fn tb k ks Q).ks=[]:=by kernel_rfl)
  (e:∀(K:LP) (ρ:gD) (h:Hp),VA C fn.ntmps tb (j8 C fn.ntmps tb {fK C fn tb k ks Q with ks:=[kf is K]} false) ρ h=HX 13 (B K) (is.map ρ) h:=by intros;kernel_rfl) (j:is.length=13:=by rfl):JV C fn tb k is ks Q l h:=
 JV.loop 13 I B n hk e (λk l h g i=>match l,g,i with|[o,p,q,r,t,u,v,w,x,a,b,d,f],_,i=>s k o p q r t u v w x a b d f h i) j (j.trans g.symm) i
theorem JV.r13(B:IP)(e:∀(ρ:gD)(h:Hp),VA C fn.ntmps tb (fK C fn tb k ks Q) ρ h=HX 13 B (is.map ρ) h:=by intros;kernel_rfl)(a:is.length=13:=by rfl):R13 B (JV C fn tb k is ks Q):=λH=>JV.mk 13 B e a H
abbrev S14(I:Nat->LP)(B:LP->Z5):Prop:=∀(k:Nat) (f g i j l m n o p a b c d e:V) (h:Hp),I k [f,g,i,j,l,m,n,o,p,a,b,c,d,e] h->B (BK I k) f g i j l m n o p a b c d e h
abbrev R14(B:Z5)(J:LP):Prop:=∀{f g i j k l m n o a b c d e:V} {h:Hp},B f g i j k l m n o a b c d e h->J [f,g,i,j,k,l,m,n,o,a,b,c,d,e] h
theorem JV.l14(I:Nat->LP)(B:LP->Z5)(s:S14 I B)(i:I m l h)(g:l.length=14)(o:kX (fK C fn tb k ks Q).c=true:=by kernel_rfl)(hk:(fK C fn tb k ks Q).ks=[]:=by kernel_rfl)
  (e:∀(K:LP) (ρ:gD) (h:Hp),VA C fn.ntmps tb (j8 C fn.ntmps tb {fK C fn tb k ks Q with ks:=[kf is K]} false) ρ h=HX 14 (B K) (is.map ρ) h:=by intros;kernel_rfl) (n:is.length=14:=by rfl):JV C fn tb k is ks Q l h:=
 JV.loop 14 I B o hk e (λk l h g i=>match l,g,i with|[p,q,r,t,u,v,w,x,y,a,b,d,f,j],_,i=>s k p q r t u v w x y a b d f j h i) n (n.trans g.symm) i
theorem JV.r14(B:Z5)(e:∀(ρ:gD)(h:Hp),VA C fn.ntmps tb (fK C fn tb k ks Q) ρ h=HX 14 B (is.map ρ) h:=by intros;kernel_rfl)(a:is.length=14:=by rfl):R14 B (JV C fn tb k is ks Q):=λH=>JV.mk 14 B e a H
abbrev R15(B:zeb)(J:LP):Prop:=∀{g i j k l m n o p a b c d e f:V} {h:Hp},B g i j k l m n o p a b c d e f h->J [g,i,j,k,l,m,n,o,p,a,b,c,d,e,f] h
theorem JV.r15(B:zeb)(e:∀(ρ:gD)(h:Hp),VA C fn.ntmps tb (fK C fn tb k ks Q) ρ h=HX 15 B (is.map ρ) h:=by intros;kernel_rfl)(a:is.length=15:=by rfl):R15 B (JV C fn tb k is ks Q):=λH=>JV.mk 15 B e a H
abbrev S17(I:Nat->LP)(B:LP->zcn):Prop:=∀(k:Nat) (j l m n o p q r s a b c d e f g i:V) (h:Hp),I k [j,l,m,n,o,p,q,r,s,a,b,c,d,e,f,g,i] h->B (BK I k) j l m n o p q r s a b c d e f g i h
abbrev R17(B:zcn)(J:LP):Prop:=∀{j k l m n o p q r a b c d e f g i:V} {h:Hp},B j k l m n o p q r a b c d e f g i h->J [j,k,l,m,n,o,p,q,r,a,b,c,d,e,f,g,i] h
theorem JV.l17(I:Nat->LP)(B:LP->zcn)(s:S17 I B)(i:I m l h)(g:l.length=17)(r:kX (fK C fn tb k ks Q).c=true:=by kernel_rfl)(hk:(fK C fn tb k ks Q).ks=[]:=by kernel_rfl)
  (e:∀(K:LP) (ρ:gD) (h:Hp),VA C fn.ntmps tb (j8 C fn.ntmps tb {fK C fn tb k ks Q with ks:=[kf is K]} false) ρ h=HX 17 (B K) (is.map ρ) h:=by intros;kernel_rfl) (q:is.length=17:=by rfl):JV C fn tb k is ks Q l h:=
 JV.loop 17 I B r hk e (λk l h g i=>match l,g,i with|[t,u,v,w,x,y,z,A,D,a,b,d,f,j,n,o,p],_,i=>s k t u v w x y z A D a b d f j n o p h i) q (q.trans g.symm) i
abbrev S18(I:Nat->LP)(B:LP->zcQ):Prop:=∀(k:Nat) (l m n o p q r s t a b c d e f g i j:V) (h:Hp),I k [l,m,n,o,p,q,r,s,t,a,b,c,d,e,f,g,i,j] h->B (BK I k) l m n o p q r s t a b c d e f g i j h
abbrev R18(B:zcQ)(J:LP):Prop:=∀{k l m n o p q r s a b c d e f g i j:V} {h:Hp},B k l m n o p q r s a b c d e f g i j h->J [k,l,m,n,o,p,q,r,s,a,b,c,d,e,f,g,i,j] h
theorem JV.l18(I:Nat->LP)(B:LP->zcQ)(s:S18 I B)(i:I m l h)(g:l.length=18)(t:kX (fK C fn tb k ks Q).c=true:=by kernel_rfl)(hk:(fK C fn tb k ks Q).ks=[]:=by kernel_rfl)
  (e:∀(K:LP) (ρ:gD) (h:Hp),VA C fn.ntmps tb (j8 C fn.ntmps tb {fK C fn tb k ks Q with ks:=[kf is K]} false) ρ h=HX 18 (B K) (is.map ρ) h:=by intros;kernel_rfl) (r:is.length=18:=by rfl):JV C fn tb k is ks Q l h:=
 JV.loop 18 I B t hk e (λk l h g i=>match l,g,i with|[u,v,w,x,y,z,A,D,E,a,b,d,f,j,n,o,p,q],_,i=>s k u v w x y z A D E a b d f j n o p q h i) r (r.trans g.symm) i
abbrev nZ:V:= .int .i64 0
abbrev nO:V:= .int .i64 1
abbrev nS:V:= .ee
abbrev bT:V:= .bool true
abbrev bF:V:= .bool false
abbrev zC(T:Nat)(l:List V):Option (O×(Nat->V)):=some (.cells T 1 true false l,λl=> .ptr l 0)
abbrev P2(I:Nat->QP2)(B:(QP2)->QP2):Prop:=∀(k:Nat) (a b:V) (h:Hp),I k a b h->B (λa b h=>∃k',k' < k/\I k' a b h) a b h
abbrev P3(I:Nat->Rk)(B:(Rk)->Rk):Prop:=∀(k:Nat) (a b c:V) (h:Hp),I k a b c h->B (λa b c h=>∃k',k' < k/\I k' a b c h) a b c h
theorem WA.l3{a b d:Nat}{f i j:V}(I:Nat->Rk)(B:(Rk)->Rk)(s:P3 I B)(g:I m f i j h)(l:kX (fK C fn tb k ks Q).c=true:=by kernel_rfl)(hk:(fK C fn tb k ks Q).ks=[]:=by kernel_rfl)
  (e:∀(K:Rk) (ρ:gD) (h:Hp),VA C fn.ntmps tb (j8 C fn.ntmps tb {fK C fn tb k ks Q with ks:=[λρ h=>K (ρ a) (ρ b) (ρ d) h]} false) ρ h=B K (ρ a) (ρ b) (ρ d) h:=by intros;kernel_rfl):∀ρ:gD,ρ a=f->ρ b=i->ρ d=j->WA C fn tb k ks Q ρ h:=by
 rintro ρ rfl rfl rfl;exact WA.loop (λk ρ h=>I k (ρ a) (ρ b) (ρ d) h) l hk (λk ρ h hi=>LA.of (by grind) (s k (ρ a) (ρ b) (ρ d) h hi)) g
abbrev P4(I:Nat->LX)(B:(LX)->LX):Prop:=∀(k:Nat) (a b c d:V) (h:Hp),I k a b c d h->B (λa b c d h=>∃k',k' < k/\I k' a b c d h) a b c d h
theorem WA.l4{a b d f:Nat}{i j l n:V}(I:Nat->LX)(B:(LX)->LX)(s:P4 I B)(g:I m i j l n h)(o:kX (fK C fn tb k ks Q).c=true:=by kernel_rfl)(hk:(fK C fn tb k ks Q).ks=[]:=by kernel_rfl)
  (e:∀(K:LX) (ρ:gD) (h:Hp),VA C fn.ntmps tb (j8 C fn.ntmps tb {fK C fn tb k ks Q with ks:=[λρ h=>K (ρ a) (ρ b) (ρ d) (ρ f) h]} false) ρ h=B K (ρ a) (ρ b) (ρ d) (ρ f) h:=by intros;kernel_rfl):∀ρ:gD,ρ a=i->ρ b=j->ρ d=l->ρ f=n->WA C fn tb k ks Q ρ h:=by
 rintro ρ rfl rfl rfl rfl;exact WA.loop (λk ρ h=>I k (ρ a) (ρ b) (ρ d) (ρ f) h) o hk (λk ρ h hi=>LA.of (by grind) (s k (ρ a) (ρ b) (ρ d) (ρ f) h hi)) g
abbrev P5(I:Nat->J0)(B:(J0)->J0):Prop:=∀(k:Nat) (a b c d e:V) (h:Hp),I k a b c d e h->B (λa b c d e h=>∃k',k' < k/\I k' a b c d e h) a b c d e h
theorem WA.l5{a b d f i5:Nat}{i j l n o:V}(I:Nat->J0)(B:(J0)->J0)(s:P5 I B)(g:I m i j l n o h)(p:kX (fK C fn tb k ks Q).c=true:=by kernel_rfl)(hk:(fK C fn tb k ks Q).ks=[]:=by kernel_rfl)
  (e:∀(K:J0) (ρ:gD) (h:Hp),VA C fn.ntmps tb (j8 C fn.ntmps tb {fK C fn tb k ks Q with ks:=[λρ h=>K (ρ a) (ρ b) (ρ d) (ρ f) (ρ i5) h]} false) ρ h=B K (ρ a) (ρ b) (ρ d) (ρ f) (ρ i5) h:=by intros;kernel_rfl):∀ρ:gD,ρ a=i->ρ b=j->ρ d=l->ρ f=n->ρ i5=o->WA C fn tb k ks Q ρ h:=by
 rintro ρ rfl rfl rfl rfl rfl;exact WA.loop (λk ρ h=>I k (ρ a) (ρ b) (ρ d) (ρ f) (ρ i5) h) p hk (λk ρ h hi=>LA.of (by grind) (s k (ρ a) (ρ b) (ρ d) (ρ f) (ρ i5) h hi)) g
abbrev P6(I:Nat->Qg)(B:(Qg)->Qg):Prop:=∀(k:Nat) (a b c d e f:V) (h:Hp),I k a b c d e f h->B (λa b c d e f h=>∃k',k' < k/\I k' a b c d e f h) a b c d e f h
theorem WA.l6{a b d f i5 i6:Nat}{i j l n o p:V}(I:Nat->Qg)(B:(Qg)->Qg)(s:P6 I B)(g:I m i j l n o p h)(q:kX (fK C fn tb k ks Q).c=true:=by kernel_rfl)(hk:(fK C fn tb k ks Q).ks=[]:=by kernel_rfl)
  (e:∀(K:Qg) (ρ:gD) (h:Hp),VA C fn.ntmps tb (j8 C fn.ntmps tb {fK C fn tb k ks Q with ks:=[λρ h=>K (ρ a) (ρ b) (ρ d) (ρ f) (ρ i5) (ρ i6) h]} false) ρ h=B K (ρ a) (ρ b) (ρ d) (ρ f) (ρ i5) (ρ i6) h:=by intros;kernel_rfl):∀ρ:gD,ρ a=i->ρ b=j->ρ d=l->ρ f=n->ρ i5=o->ρ i6=p->WA C fn tb k ks Q ρ h:=by
 rintro ρ rfl rfl rfl rfl rfl rfl;exact WA.loop (λk ρ h=>I k (ρ a) (ρ b) (ρ d) (ρ f) (ρ i5) (ρ i6) h) q hk (λk ρ h hi=>LA.of (by grind) (s k (ρ a) (ρ b) (ρ d) (ρ f) (ρ i5) (ρ i6) h hi)) g
abbrev P7(I:Nat->Q0)(B:(Q0)->Q0):Prop:=∀(k:Nat) (a b c d e f g:V) (h:Hp),I k a b c d e f g h->B (λa b c d e f g h=>∃k',k' < k/\I k' a b c d e f g h) a b c d e f g h
theorem WA.l7{a b d f i5 i6 i:Nat}{j l n o p q r:V}(I:Nat->Q0)(B:(Q0)->Q0)(s:P7 I B)(g:I m j l n o p q r h)(t:kX (fK C fn tb k ks Q).c=true:=by kernel_rfl)(hk:(fK C fn tb k ks Q).ks=[]:=by kernel_rfl)
  (e:∀(K:Q0) (ρ:gD) (h:Hp),VA C fn.ntmps tb (j8 C fn.ntmps tb {fK C fn tb k ks Q with ks:=[λρ h=>K (ρ a) (ρ b) (ρ d) (ρ f) (ρ i5) (ρ i6) (ρ i) h]} false) ρ h=B K (ρ a) (ρ b) (ρ d) (ρ f) (ρ i5) (ρ i6) (ρ i) h:=by intros;kernel_rfl):∀ρ:gD,ρ a=j->ρ b=l->ρ d=n->ρ f=o->ρ i5=p->ρ i6=q->ρ i=r->WA C fn tb k ks Q ρ h:=by
 rintro ρ rfl rfl rfl rfl rfl rfl rfl;exact WA.loop (λk ρ h=>I k (ρ a) (ρ b) (ρ d) (ρ f) (ρ i5) (ρ i6) (ρ i) h) t hk (λk ρ h hi=>LA.of (by grind) (s k (ρ a) (ρ b) (ρ d) (ρ f) (ρ i5) (ρ i6) (ρ i) h hi)) g
abbrev P8(I:Nat->L0)(B:(L0)->L0):Prop:=∀(k:Nat) (a b c d e f g i:V) (h:Hp),I k a b c d e f g i h->B (λa b c d e f g i h=>∃k',k' < k/\I k' a b c d e f g i h) a b c d e f g i h
theorem WA.l8{a b d f i5 i6 i j:Nat}{l n o p q r t u:V}(I:Nat->L0)(B:(L0)->L0)(s:P8 I B)(g:I m l n o p q r t u h)(v:kX (fK C fn tb k ks Q).c=true:=by kernel_rfl)(hk:(fK C fn tb k ks Q).ks=[]:=by kernel_rfl)
  (e:∀(K:L0) (ρ:gD) (h:Hp),VA C fn.ntmps tb (j8 C fn.ntmps tb {fK C fn tb k ks Q with ks:=[λρ h=>K (ρ a) (ρ b) (ρ d) (ρ f) (ρ i5) (ρ i6) (ρ i) (ρ j) h]} false) ρ h=B K (ρ a) (ρ b) (ρ d) (ρ f) (ρ i5) (ρ i6) (ρ i) (ρ j) h:=by intros;kernel_rfl):∀ρ:gD,ρ a=l->ρ b=n->ρ d=o->ρ f=p->ρ i5=q->ρ i6=r->ρ i=t->ρ j=u->WA C fn tb k ks Q ρ h:=by
 rintro ρ rfl rfl rfl rfl rfl rfl rfl rfl;exact WA.loop (λk ρ h=>I k (ρ a) (ρ b) (ρ d) (ρ f) (ρ i5) (ρ i6) (ρ i) (ρ j) h) v hk (λk ρ h hi=>LA.of (by grind) (s k (ρ a) (ρ b) (ρ d) (ρ f) (ρ i5) (ρ i6) (ρ i) (ρ j) h hi)) g
abbrev P10(I:Nat->K9)(B:(K9)->K9):Prop:=∀(k:Nat) (b c d e f g i j l a:V) (h:Hp),I k b c d e f g i j l a h->B (λb c d e f g i j l a h=>∃k',k' < k/\I k' b c d e f g i j l a h) b c d e f g i j l a h
theorem WA.l10{b d f i i5 i6 j l n a:Nat}{p q r t u v w x y o:V}(I:Nat->K9)(B:(K9)->K9)(s:P10 I B)(g:I m p q r t u v w x y o h)(z:kX (fK C fn tb k ks Q).c=true:=by kernel_rfl)(hk:(fK C fn tb k ks Q).ks=[]:=by kernel_rfl)
  (e:∀(K:K9) (ρ:gD) (h:Hp),VA C fn.ntmps tb (j8 C fn.ntmps tb {fK C fn tb k ks Q with ks:=[λρ h=>K (ρ b) (ρ d) (ρ f) (ρ i) (ρ i5) (ρ i6) (ρ j) (ρ l) (ρ n) (ρ a) h]} false) ρ h=B K (ρ b) (ρ d) (ρ f) (ρ i) (ρ i5) (ρ i6) (ρ j) (ρ l) (ρ n) (ρ a) h:=by intros;kernel_rfl):∀ρ:gD,ρ b=p->ρ d=q->ρ f=r->ρ i=t->ρ i5=u->ρ i6=v->ρ j=w->ρ l=x->ρ n=y->ρ a=o->WA C fn tb k ks Q ρ h:=by
 rintro ρ rfl rfl rfl rfl rfl rfl rfl rfl rfl rfl;exact WA.loop (λk ρ h=>I k (ρ b) (ρ d) (ρ f) (ρ i) (ρ i5) (ρ i6) (ρ j) (ρ l) (ρ n) (ρ a) h) z hk (λk ρ h hi=>LA.of (by grind) (s k (ρ b) (ρ d) (ρ f) (ρ i) (ρ i5) (ρ i6) (ρ j) (ρ l) (ρ n) (ρ a) h hi)) g
abbrev P11(I:Nat->Fx)(B:(Fx)->Fx):Prop:=∀(k:Nat) (c d e f g i j l m a b:V) (h:Hp),I k c d e f g i j l m a b h->B (λc d e f g i j l m a b h=>∃k',k' < k/\I k' c d e f g i j l m a b h) c d e f g i j l m a b h
theorem WA.l11{d f i j i5 i6 l n o a b:Nat}{r t u v w x y z A p q:V}(I:Nat->Fx)(B:(Fx)->Fx)(s:P11 I B)(g:I m r t u v w x y z A p q h)(D:kX (fK C fn tb k ks Q).c=true:=by kernel_rfl)(hk:(fK C fn tb k ks Q).ks=[]:=by kernel_rfl)
  (e:∀(K:Fx) (ρ:gD) (h:Hp),VA C fn.ntmps tb (j8 C fn.ntmps tb {fK C fn tb k ks Q with ks:=[λρ h=>K (ρ d) (ρ f) (ρ i) (ρ j) (ρ i5) (ρ i6) (ρ l) (ρ n) (ρ o) (ρ a) (ρ b) h]} false) ρ h=B K (ρ d) (ρ f) (ρ i) (ρ j) (ρ i5) (ρ i6) (ρ l) (ρ n) (ρ o) (ρ a) (ρ b) h:=by intros;kernel_rfl):∀ρ:gD,ρ d=r->ρ f=t->ρ i=u->ρ j=v->ρ i5=w->ρ i6=x->ρ l=y->ρ n=z->ρ o=A->ρ a=p->ρ b=q->WA C fn tb k ks Q ρ h:=by
 rintro ρ rfl rfl rfl rfl rfl rfl rfl rfl rfl rfl rfl;exact WA.loop (λk ρ h=>I k (ρ d) (ρ f) (ρ i) (ρ j) (ρ i5) (ρ i6) (ρ l) (ρ n) (ρ o) (ρ a) (ρ b) h) D hk (λk ρ h hi=>LA.of (by grind) (s k (ρ d) (ρ f) (ρ i) (ρ j) (ρ i5) (ρ i6) (ρ l) (ρ n) (ρ o) (ρ a) (ρ b) h hi)) g
abbrev P13(I:Nat->IP)(B:(IP)->IP):Prop:=∀(k:Nat) (e f g i j l m n o a b c d:V) (h:Hp),I k e f g i j l m n o a b c d h->B (λe f g i j l m n o a b c d h=>∃k',k' < k/\I k' e f g i j l m n o a b c d h) e f g i j l m n o a b c d h
theorem WA.l13{i j l n i5 i6 o p q a b d f:Nat}{w x y z A D E F G r t u v:V}(I:Nat->IP)(B:(IP)->IP)(s:P13 I B)(g:I m w x y z A D E F G r t u v h)(H:kX (fK C fn tb k ks Q).c=true:=by kernel_rfl)(hk:(fK C fn tb k ks Q).ks=[]:=by kernel_rfl)
  (e:∀(K:IP) (ρ:gD) (h:Hp),VA C fn.ntmps tb (j8 C fn.ntmps tb {fK C fn tb k ks Q with ks:=[λρ h=>K (ρ i) (ρ j) (ρ l) (ρ n) (ρ i5) (ρ i6) (ρ o) (ρ p) (ρ q) (ρ a) (ρ b) (ρ d) (ρ f) h]} false) ρ h=B K (ρ i) (ρ j) (ρ l) (ρ n) (ρ i5) (ρ i6) (ρ o) (ρ p) (ρ q) (ρ a) (ρ b) (ρ d) (ρ f) h:=by intros;kernel_rfl):∀ρ:gD,ρ i=w->ρ j=x->ρ l=y->ρ n=z->ρ i5=A->ρ i6=D->ρ o=E->ρ p=F->ρ q=G->ρ a=r->ρ b=t->ρ d=u->ρ f=v->WA C fn tb k ks Q ρ h:=by
 rintro ρ rfl rfl rfl rfl rfl rfl rfl rfl rfl rfl rfl rfl rfl;exact WA.loop (λk ρ h=>I k (ρ i) (ρ j) (ρ l) (ρ n) (ρ i5) (ρ i6) (ρ o) (ρ p) (ρ q) (ρ a) (ρ b) (ρ d) (ρ f) h) H hk (λk ρ h hi=>LA.of (by grind) (s k (ρ i) (ρ j) (ρ l) (ρ n) (ρ i5) (ρ i6) (ρ o) (ρ p) (ρ q) (ρ a) (ρ b) (ρ d) (ρ f) h hi)) g
end
