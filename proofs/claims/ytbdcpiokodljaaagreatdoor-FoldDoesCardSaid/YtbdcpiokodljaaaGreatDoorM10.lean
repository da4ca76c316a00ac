/- Parts. -/
import Derived.Test.YtbdcpiokodljaaaGreatDoorM09
set_option maxHeartbeats 4000000
namespace Go.Proofs.YtbdcpiokodljaaaGreatDoor.Hx
abbrev XQ:=X->gL->Hp->Prop
abbrev fo:=V->Hp->Prop
abbrev QP2:=V->V->Hp->Prop
abbrev SJ:=V->V->V->Hp->Prop
abbrev ML:=V->V->V->V->Hp->Prop
abbrev Kf:=V->V->V->V->V->Hp->Prop
abbrev QR:=V->V->V->V->V->V->Hp->Prop
abbrev RV:=V->V->V->V->V->V->V->Hp->Prop
abbrev MJ:=V->V->V->V->V->V->V->V->Hp->Prop
abbrev QP9:=V->V->V->V->V->V->V->V->V->Hp->Prop
abbrev L1:=V->V->V->V->V->V->V->V->V->V->Hp->Prop
abbrev Gf:=V->V->V->V->V->V->V->V->V->V->V->Hp->Prop
abbrev zbK:=V->V->V->V->V->V->V->V->V->V->V->V->Hp->Prop
abbrev JQ:=V->V->V->V->V->V->V->V->V->V->V->V->V->Hp->Prop
abbrev zbJ:=V->V->V->V->V->V->V->V->V->V->V->V->V->V->Hp->Prop
abbrev zeH:=V->V->V->V->V->V->V->V->V->V->V->V->V->V->V->Hp->Prop
abbrev zdn:=V->V->V->V->V->V->V->V->V->V->V->V->V->V->V->V->V->Hp->Prop
abbrev zdH:=V->V->V->V->V->V->V->V->V->V->V->V->V->V->V->V->V->V->Hp->Prop
def isVal(o:Oper):Bool:=match o.op with
 | .move x| .assign x=>RI x
 | .makeFunc _ _ _=>true
 | .makeInterface _ x=>RI x
 |_=>false
theorem Xt{o:Oper} (h:isVal o=true):cls o=0:=by
 grind[isVal,cls]
def opV(C:fk) (o:Oper) (K:V->gL->Hp->Prop):gL->Hp->Prop:=match isVal o with
 |true=>λρ h=>Option.rec (motive:=λ_=>Prop) False (λv=>K v ρ h) ((iY o).f (.fn ρ []) h)
 |false=>RX C o K
theorem zdQ(C:fk) (o:Oper) (K:V->gL->Hp->Prop):opV C o K=RX C o K:=by
 unfold opV
 cases hv:isVal o with
 |false=>rfl
 | true=>
   unfold RX;rw[Xt hv];rfl
def V4(C:fk) (n:Nat) (all:List Oper) (o:Oper) (K:gL->Hp->Prop):gL->Hp->Prop:=match A2 o with
 |some _=>λ_ _=>False
 | none=>match lL n all o with
   |none=>opV C o (qa n o K)
   |some g=>λρ h=>oP (g.f (.fn ρ [])) λb=>gdR C o b (qa n o K) ρ h
noncomputable section
inductive Gs where
 |last (o:Oper) (d:Nat)
 |op (o:Oper) (d:Nat) (a:Gs)
 |nest (w:Bool) (d:Nat) (sub:Gs) (o:Oper) (b:Nat) (a:Gs)
 |G8 (w:Bool) (d:Nat) (sub:Gs) (o:Oper) (b:Nat)
def Gs.dst:Gs->Nat
 | .last _ d=>d
 | .op _ _ r=>r.dst
 | .nest _ _ _ _ _ r=>r.dst
 | .G8 _ _ _ _ a=>a
def Gs.ops:Gs->List Oper
 | .last o _=>[o]
 | .op o _ r=>o::r.ops
 | .nest _ _ s o _ r=>s.ops++o::r.ops
 | .G8 _ _ s o _=>s.ops++[o]
def gA(w:Bool) (c:V) (x:Option V):Option V:=match w with
 |true=>jX c x
 |false=>nt c x
def RP(b:Bool)(x:Option V):V:=Bool.rec (motive:=λ_=>V) V.undef (Option.rec (motive:=λ_=>V) V.undef (λv=>v) x) b
def PI(w:Bool)(v:V):Bool:=Option.rec (motive:=λ_=>Bool) false (λb=>b) (fu w v)
noncomputable def Cd(g:Gs):Bool->gL->Hp->gL:=Gs.rec (motive:=λ_=>Bool->gL->Hp->gL) (λo d b ρ h=>fq ρ d (RP b ((iY o).f (.fn ρ []) h))) (λo d _ c b ρ h=>c b (fq ρ d (RP b ((iY o).f (.fn ρ []) h))) h) (λw d _ o e _ a c b ρ h=>c b (fq (a (PI w (ρ d)) ρ h) e (RP b ((iY o).f (.fn (a (PI w (ρ d)) ρ h) []) h))) h) (λw d _ o e a b ρ h=>fq (a (PI w (ρ d)) ρ h) e (RP b ((iY o).f (.fn (a (PI w (ρ d)) ρ h) []) h))) g
noncomputable def gE(g:Gs):gL->Hp->Option V:=Gs.rec (motive:=λ_=>gL->Hp->Option V) (λo _ ρ h=>(iY o).f (.fn ρ []) h) (λo d _ b ρ h=>oB ((iY o).f (.fn ρ []) h) λv=>b (fq ρ d v) h) (λw d sub _ c _ a b ρ h=>oB (gA w (ρ d) (a ρ h)) λv=>b (fq (Cd sub (PI w (ρ d)) ρ h) c v) h) (λw d _ _ _ a ρ h=>gA w (ρ d) (a ρ h)) g
def TJ(x:Operand) (d:Nat):Bool:=match x with
 | .tmp i=>Nat.beq i d
 |_=>false
def zaY(x:Operand) (b:Bool):Bool:=match x with
 | .const v=>match nP 8 v with
   |some (.bool c)=>c == b
   |_=>false
 |_=>false
def T0(o:Oper) (w:Bool) (d x:Nat):Bool:=match o.op with
 | .pick c a b=>TJ c d&&(match w with
   |true=>TJ a x&&zaY b false
   |false=>TJ b x&&zaY a true)
 |_=>false
def dOk(n:Nat) (o:Oper) (d:Nat):Bool:=match o.dst with
 |some d'=>Nat.beq d' d&&Nat.blt d n
 |none=>false
def YY(n:Nat) (all:List Oper) (o:Oper) (w:Bool) (d:Nat):Bool:=match o.guard with
 | some (j,w')=>(w' == w)&&(match all[j]? with
   |some a=>dOk n a d
   |none=>false)
 |none=>false
def RS(n:Nat)(all:List Oper)(av:List Nat)(w:Bool)(d:Nat)(o:Oper)(d':Nat):Bool:=Nat.beq (cls o) 0&&YY n all o w d&&dOk n o d'&&av.all (λi=>!(Nat.beq i d'))
def Ym(n:Nat) (all:List Oper):List Nat->Bool->Nat->List Nat->Gs->Bool
 |av,w,d,_,.last o d'=>RS n all av w d o d'
 |av,w,d,ins,.op o d' r=>RS n all av w d o d'&&Ym n all av w d (d'::ins) r
 |av,w,d,ins,.nest w' d' s o a r=>ins.any (λi=>Nat.beq i d')&&Ym n all (d'::av) w' d' [] s&&RS n all av w d o a&&T0 o w' d' s.dst&&Ym n all av w d (a::ins) r
 |av,w,d,ins, .G8 w' d' s o a=>ins.any (λi=>Nat.beq i d')&&Ym n all (d'::av) w' d' [] s&&RS n all av w d o a&&T0 o w' d' s.dst
def Ch(n:Nat) (all:List Oper) (h:Hp):List Oper->gL->gL->Prop
 |[],ρ,ρ'=>ρ' = ρ
 | o::os,ρ,ρ'=>cls o=0/\∃d v,o.dst=some d/\Nat.blt d n=true/\((lL n all o=none/\(iY o).f (.fn ρ []) h=some v)\/
   ∃g b,lL n all o=some g/\g.f (.fn ρ [])=some b/\gV b ((iY o).f (.fn ρ []) h)=some v)/\Ch n all h os (fq ρ d v) ρ'
theorem Ch.app{n:Nat} {all:List Oper} {h:Hp}:∀{os a:List Oper} {ρ e f:gL},Ch n all h os ρ e->Ch n all h a e f->Ch n all h (os++a) ρ f
 |[],_,_,_,_,b,c=>by cases b;exact c
 |_::_,_,_,_,_,⟨hc,d,v,b,c,g,i⟩,j=>⟨hc,d,v,b,c,g,i.app j⟩
theorem Nd(ρ:gL)(d:Nat)(v:V):fq ρ d v d=v:=Xw ρ d v
theorem Y5{n:Nat} {all:List Oper} {o:Oper} {w:Bool} {d:Nat} (a:YY n all o w d=true):∃g,lL n all o=some g/\∀ρ:gL,g.f (.fn ρ [])=fu w (ρ d):=by
 unfold YY at a;split at a
 ·rename_i j w' b;simp only[yl,IE]at a;obtain⟨e,a⟩:=a;subst e;split at a
  ·rename_i l h;unfold dOk at a;split at a
   ·rename_i d' i;simp only[yl]at a;obtain⟨c,k⟩:=a;have c:=CI c;subst c;refine⟨_,by simp only[lL,b,h,i,k];rfl,λρ=>rfl⟩
   simp_all
  simp_all
 simp_all
theorem VY{n:Nat} {all:List Oper} {av:List Nat} {w:Bool} {d:Nat} {o:Oper} {d':Nat} (hk:RS n all av w d o d' = true) :
  cls o=0/\(∃g,lL n all o=some g/\∀ρ:gL,g.f (.fn ρ [])=fu w (ρ d))/\o.dst=some d'/\Nat.blt d' n=true/\∀i∈av,i≠d':=by
 unfold RS at hk;simp only[yl]at hk;obtain⟨⟨⟨b,c⟩,a⟩,h⟩:=hk;refine⟨CI b,Y5 c,?_⟩;unfold dOk at a;split at a
 ·rename_i e j;simp only[yl]at a
  grind[CI,RU,Xn,absurd]
 simp_all
theorem NJ{x:Operand} {d:Nat} (h:TJ x d=true):x = .tmp d:=by
 unfold TJ at h
 grind[CI,absurd]
theorem WW{x:Operand} {b:Bool} (a:zaY x b=true) (t:Tm) (h:Hp):(uf x).f t h=some (.bool b):=by
 unfold zaY at a;split at a
 ·rename_i v;split at a
  ·rename_i c hc;have e:c=b:=by simpa using a
   subst e;show(OY (.const v)).f t=_
   grind[OY]
  simp_all
 simp_all
theorem Wa{o:Oper} {w:Bool} {d x:Nat} (hp:T0 o w d x=true) {ρ:gL} {h:Hp} {c:Bool} (hc:ρ d = .bool c):(iY o).f (.fn ρ []) h=some (match w,c with
  |true,true=>ρ x
  |true,false=> .bool false
  |false,false=>ρ x
  |false,true=> .bool true)/\cls o=0:=by
 unfold T0 at hp;split at hp
 ·rename_i c' a b g;simp only[yl]at hp;obtain⟨j,e⟩:=hp;have k:=NJ j;subst k;refine⟨?_,by grind[cls]⟩;have e0:(uf (.tmp d)).f (.fn ρ []) h=some (.bool c):=by show some (ρ d)=_;rw[hc]
  unfold iY;rw[g];simp only[Mf,e0,oB]
  cases w with
  | true=>
    simp only[yl]at e;have i:=NJ e.1;subst i
    cases c with
    |true=>rfl
    |false=>grind[WW]
  | false=>
    simp only[yl]at e;have i:=NJ e.1;subst i
    cases c with
    |true=>grind[WW]
    |false=>rfl
 simp_all
theorem WK{w:Bool} {c:V} {x:Option V} {v:V} (a:gA w c x=some v):∃b,c = .bool b/\fu w c=some (b == w)/\((b=w/\x=some v)\/(b≠w/\v = .bool (!w))):=by
 unfold gA at a
 cases w with
 | true=>
   simp only[jX]at a;split at a
   ·cases a;simp_all
   ·simp_all
   ·cases a
 | false=>
   simp only[nt]at a;split at a
   ·cases a;simp_all
   ·simp_all
   ·cases a
theorem Tg(ρ:gL){d i:Nat}(v:V)(h:i≠d):fq ρ d v i=ρ i:=za0 ρ v h
theorem Ch.one{n:Nat} {all:List Oper} {av:List Nat} {w:Bool} {d:Nat} {o:Oper} {d':Nat} (hk:RS n all av w d o d' = true) {ρ:gL} {h:Hp} {b:Bool} (i:fu w (ρ d)=some b) {v:V}
  (hv:gV b ((iY o).f (.fn ρ []) h)=some v):Ch n all h [o] ρ (fq ρ d' v):=by
 obtain⟨a,⟨g,j,k⟩,c,e,l⟩:=VY hk;exact⟨a,d',v,c,e,by grind,rfl⟩
theorem MQ{b:Bool} {x:Option V} {v:V} (h:gV b x=some v):RP b x=v:=by
 cases b with
 |true=>have h':x=some v:=h;subst h';rfl
 |false=>cases h;rfl
def Ta(n:Nat) (all:List Oper) (av:List Nat) (os:List Oper) (b:Bool) (ρ a:gL) (h:Hp) (d:Nat) (x:V):Prop:=Ch n all h os ρ a/\a d=x/\(∀i∈av,a i=ρ i)/\(b=false->∀i,ρ i = .undef->a i = .undef)
theorem Ta.one{n:Nat} {all:List Oper} {av:List Nat} {w:Bool} {d:Nat} {o:Oper} {d':Nat} (hk:RS n all av w d o d' = true) {ρ:gL} {h:Hp} {b:Bool} (a:fu w (ρ d)=some b) {v:V}
  (hv:gV b ((iY o).f (.fn ρ []) h)=some v):Ta n all av [o] b ρ (fq ρ d' v) h d' v:=by
 obtain⟨_,_,_,_,c⟩:=VY hk;refine⟨Ch.one hk a hv,Nd _ _ _,by grind[Tg],λe i hi=>?_⟩;subst e;cases hv
 grind[Nd,Tg]
theorem Ta.trans{n:Nat} {all:List Oper} {av:List Nat} {os a:List Oper} {b:Bool} {ρ g j:gL} {h:Hp} {d d':Nat} {x k:V} (f:Ta n all av os b ρ g h d x) (c:Ta n all av a b g j h d' k):Ta n all av (os++a) b ρ j h d' k:=
 ⟨f.1.app c.1,c.2.1,λi hi=>(c.2.2.1 i hi).trans (f.2.2.1 i hi),λe i hi=>c.2.2.2 e i (f.2.2.2 e i hi)⟩
theorem W0{n:Nat} {all:List Oper}:∀(g:Gs) {av:List Nat} {w:Bool} {d:Nat} {k:List Nat},Ym n all av w d k g=true->d∈av->∀{ρ:gL} {h:Hp} {b:Bool},fu w (ρ d)=some b->
  (b=false->∀i∈k,ρ i = .undef)->∀{x:V},gV b (gE g ρ h)=some x->Ta n all av g.ops b ρ (Cd g b ρ h) h g.dst x:=by
 have nest:∀(s:Gs),(∀{av:List Nat} {w:Bool} {d:Nat} {k:List Nat},Ym n all av w d k s=true->d∈av->∀{ρ:gL} {h:Hp} {b:Bool},fu w (ρ d)=some b->
    (b=false->∀i∈k,ρ i = .undef)->∀{x:V},gV b (gE s ρ h)=some x->Ta n all av s.ops b ρ (Cd s b ρ h) h s.dst x)->
   ∀{av:List Nat} {w w':Bool} {d d' q:Nat} {k:List Nat} {o:Oper},k.any (λi=>Nat.beq i d')=true->Ym n all (d'::av) w' d' [] s=true->RS n all av w d o q=true->T0 o w' d' s.dst=true->d∈av->
   ∀{ρ:gL} {h:Hp} {b:Bool},fu w (ρ d)=some b->(b=false->∀i∈k,ρ i = .undef)->∀{v:V},gV b (gA w' (ρ d') (gE s ρ h))=some v->
   gV b ((iY o).f (.fn (Cd s (PI w' (ρ d')) ρ h) []) h)=some v/\Ta n all av (s.ops++[o]) b ρ (fq (Cd s (PI w' (ρ d')) ρ h) q v) h q v:=by
  intro s D av w w' d d' q k o I hc T hp m ρ h b p hi v hv;obtain⟨i,Y,J⟩:=List.any_eq_true.1 I;have e:=CI J;subst e
  cases b with
  | true=>
    obtain⟨c,K,E,U⟩:=WK (show gA w' (ρ i) (gE s ρ h)=some v from hv);have L:PI w' (ρ i)=(c == w'):=by unfold PI;rw[E]
    rw[L];obtain⟨y,Z⟩:∃y,gV (c == w') (gE s ρ h)=some y/\(c=w'->y=v):=by
      rcases U with⟨F,M⟩|⟨F,M⟩
      ·simp_all
      ·have:(c == w')=false:=by simp[F]
       rw[this];simp_all
    obtain⟨N,W,O,k4⟩:=D hc (wBM ..) E (by simp_all) Z.1;have P:Cd s (c == w') ρ h i = .bool c:=by rw[O i (wBM ..)];exact K
    have Q:=(Wa hp (h:=h) P).1;have t:(iY o).f (.fn (Cd s (c == w') ρ h) []) h=some v:=by
      rw[Q,W];rcases U with⟨F,M⟩|⟨F,M⟩
      ·grind
      ·grind
    refine⟨t,?_⟩;have a:=Ta.one T (ρ:=Cd s (c == w') ρ h) (h:=h) (b:=true) (by simp_all) (v:=v) t
    refine⟨N.app a.1,a.2.1,λj G=>(a.2.2.1 j G).trans (by simp_all),by simp_all⟩
  | false=>
    have K:ρ i = .undef:=by simp_all
    have E:fu w' (ρ i)=some false:=by rw[K];rfl
    have L:PI w' (ρ i)=false:=by unfold PI;rw[E]
    rw[L];cases hv;obtain⟨N,W,O,k4⟩:=D hc (wBM ..) E (by simp_all) (x:= .undef) rfl;refine⟨rfl,?_⟩;have a:=Ta.one T (ρ:=Cd s false ρ h) (h:=h) (b:=false) (by rw[O d (List.mem_cons_of_mem _ m)];exact p) (v:= .undef) rfl;exact⟨N.app a.1,a.2.1,λj G=>(a.2.2.1 j G).trans (by simp_all),λe j G=>a.2.2.2 e j (by simp_all)⟩
 intro g
 induction g with
 | last o d'=>
   intro av w d k hk m ρ h b p hi x u;have l:gV b ((iY o).f (.fn ρ []) h)=some x:=u;show Ta n all av [o] b ρ (fq ρ d' (RP b ((iY o).f (.fn ρ []) h))) h d' x;rw[MQ l]
   exact Ta.one hk p l
 | op o d' r D=>
   intro av w d k hk m ρ h b p hi x u;simp only[Ym,yl]at hk;obtain⟨v,hv,l⟩:∃v,gV b ((iY o).f (.fn ρ []) h)=some v/\gV b (gE r (fq ρ d' v) h)=some x:=by
     cases b with
     | true=>
       obtain⟨v,z,A⟩:=ft.1 (show oB ((iY o).f (.fn ρ []) h) _=some x from u)
       exact⟨v,z,A⟩
     |false=>simp_all
   have a:=Ta.one hk.1 p hv;show Ta n all av ([o]++r.ops) b ρ (Cd r b (fq ρ d' (RP b ((iY o).f (.fn ρ []) h))) h) h r.dst x;rw[MQ hv];refine a.trans (D hk.2 m (by rw[a.2.2.1 d m];exact p) ?_ l);intro e i B;rcases Pd.1 B with e'|e'
   ·simp_all[Nd]
   ·exact a.2.2.2 e i (by simp_all)
 | nest w' d' s o q r C D=>
   intro av w d k hk m ρ h b p hi x u;simp only[Ym,yl]at hk;obtain⟨⟨⟨⟨z,A⟩,R⟩,S⟩,h5⟩:=hk;obtain⟨v,hv,l⟩:∃v,gV b (gA w' (ρ d') (gE s ρ h))=some v/\gV b (gE r (fq (Cd s (PI w' (ρ d')) ρ h) q v) h)=some x:=by
     cases b with
     | true=>
       obtain⟨v,z,A⟩:=ft.1 (show oB (gA w' (ρ d') (gE s ρ h)) _=some x from u)
       exact⟨v,z,A⟩
     |false=>simp_all
   obtain⟨X,H⟩:=nest s C z A R S m p hi hv;show Ta n all av (s.ops++([o]++r.ops)) b ρ (Cd r b (fq (Cd s (PI w' (ρ d')) ρ h) q (RP b ((iY o).f (.fn (Cd s (PI w' (ρ d')) ρ h) []) h))) h) h r.dst x;rw[MQ X,<-M6];refine H.trans (D h5 m (by rw[H.2.2.1 d m];exact p) ?_ l);intro e i B;rcases Pd.1 B with e'|e'
   ·simp_all[Nd]
   ·exact H.2.2.2 e i (by simp_all)
 | G8 w' d' s o q C=>
   intro av w d k hk m ρ h b p hi x u;simp only[Ym,yl]at hk;obtain⟨⟨⟨z,A⟩,R⟩,S⟩:=hk;obtain⟨X,H⟩:=nest s C z A R S m p hi (show gV b (gA w' (ρ d') (gE s ρ h))=some x from u);show Ta n all av (s.ops++[o]) b ρ (fq (Cd s (PI w' (ρ d')) ρ h) q (RP b ((iY o).f (.fn (Cd s (PI w' (ρ d')) ρ h) []) h))) h q x
   grind[MQ]
inductive Vb where
 |op (o:Oper) (d:Nat)
 |nest (w:Bool) (d:Nat) (sub:Gs) (o:Oper) (a:Nat)
def Vb.dst:Vb->Nat
 | .op _ d=>d
 | .nest _ _ _ _ a=>a
def Vb.ops:Vb->List Oper
 | .op o _=>[o]
 | .nest _ _ s o _=>s.ops++[o]
def Vb.one:Vb->Gs
 | .op o d=> .last o d
 | .nest w d s o a=> .G8 w d s o a
def Vb.cons(r:Gs):Vb->Gs
 | .op o d=> .op o d r
 | .nest w d s o a=> .nest w d s o a r
def zf6(all:List Oper) (o:Oper):Option (Bool×Nat):=match o.guard with
 | some (j,w)=>match all[j]? with
   | some a=>match a.dst with
     |some d=>some (w,d)
     |none=>none
   |none=>none
 |none=>none
def QS(n : Nat) (all:List Oper) (gpV:Bool->Nat->List Nat->List Oper->Option (Gs×List Oper)) (w:Bool) (d:Nat) (a:List Nat) (os:List Oper):Option (Vb×List Oper):=match os with
  |[]=>none
  | o ::os'=>match YY n all o w d&&Nat.beq (cls o) 0,o.dst with
    |true,some d'=>some (.op o d',os')
    | _,_ => match zf6 all o with
      |none=>none
      | some (w',d')=>match a.any (λi=>Nat.beq i d')with
        |false=>none
        | true=>match gpV w' d' [] (o::os')with
          | some (s,p::os'')=>match YY n all p w d&&T0 p w' d' s.dst,p.dst with
            |true,some dp=>some (.nest w' d' s p dp,os'')
            |_,_=>none
          |_=>none
noncomputable def gpV(n:Nat) (all:List Oper) (fuel:Nat):Bool->Nat->List Nat->List Oper->Option (Gs×List Oper):=
 Nat.rec (motive:=λ_=>Bool->Nat->List Nat->List Oper->Option (Gs×List Oper)) (λ_ _ _ _=>none) (λ_ b w d a os=>match QS n all b w d a os with
  |none=>none
  | some (it,os')=>match b w d (it.dst::a) os' with
    |some (g,r)=>some (it.cons g,r)
    |none=>some (it.one,os')) fuel
theorem Vj{n:Nat} {all:List Oper} {gpV:Bool->Nat->List Nat->List Oper->Option (Gs×List Oper)} (b:∀w d a os g r,gpV w d a os=some (g,r)->os=g.ops++r) {w:Bool} {d:Nat} {a:List Nat} {os:List Oper} {it:Vb} {r:List Oper}
  (h:QS n all gpV w d a os=some (it,r)):os=it.ops++r:=by
 unfold QS at h;split at h
 ·cases h
 ·split at h
  ·cases h;rfl
  ·split at h
   ·cases h
   grind[Vb.ops,M6]
theorem RM{n:Nat} {all:List Oper}:∀(fuel:Nat) (w:Bool) (d:Nat) (a:List Nat) (os:List Oper) (g:Gs) (r:List Oper),gpV n all fuel w d a os=some (g,r)->os=g.ops++r
 |0,_,_,_,_,_,_,h=>by cases h
 | fuel+1,w,d,a,os,g,r,h=>by
   have h':(match QS n all (gpV n all fuel) w d a os with
     |none=>none
     | some (it,b)=>match gpV n all fuel w d (it.dst::a) b with
       |some (g,r)=>some (it.cons g,r)
       |none=>some (it.one,b))=some (g,r):=h
   split at h'
   ·cases h'
   ·rename_i it b c
    have f:=Vj (λw d a os g r e=>RM fuel w d a os g r e) c;split at h'
    ·rename_i j r' e
     cases h';have i:=RM fuel _ _ _ _ _ _ e;rw[f,i];cases it <;> simp[Vb.ops,Vb.cons,Gs.ops]
    ·cases h'
     rw[f];cases it <;> simp[Vb.ops,Vb.one,Gs.ops]
noncomputable def YF(n:Nat) (all:List Oper) (os:List Oper):Option (Bool×Nat×Gs×Nat):=match os with
 |[]=>none
 | o ::_ => match o.guard with
   |none=>none
   | some (j,w)=>match all[j]? with
     |none=>none
     | some a=>match a.guard,a.dst,Nat.beq (cls o) 0 with
       | none,some d,true=>match gpV n all 60 w d [] os with
         | some (g,p::_)=>match p.guard,p.dst with
           | none,some dp=>match T0 p w d g.dst&&Nat.blt dp n&&Ym n all [d] w d [] g with
             |true=>some (w,d,g,dp)
             |false=>none
           |_,_=>none
         |_=>none
       |_,_,_=>none
theorem zbc{n:Nat} {all os:List Oper} {w:Bool} {d:Nat} {g:Gs} {a:Nat} (h:YF n all os=some (w,d,g,a)):∃p r,os=g.ops++p::r/\p.guard=none/\p.dst=some a/\T0 p w d g.dst=true/\Nat.blt a n=true/\Ym n all [d] w d [] g=true:=by
 unfold YF at h;split at h
 ·cases h
 ·split at h
  ·cases h
  ·split at h
   ·cases h
   ·split at h
    ·split at h
     ·rename_i c;split at h
      ·rename_i e f;split at h
       ·rename_i b;cases h;simp only[yl]at b
        grind[RM]
       ·cases h
      ·cases h
     ·cases h
    ·cases h
theorem Io{n:Nat} {o:Oper} {K a:gL->Hp->Prop} (b:∀ρ h,K ρ h->a ρ h) {v:V} {ρ:gL} {h:Hp} (hk:qa n o K v ρ h):qa n o a v ρ h:=by
 grind[qa,Nat.blt]
theorem qK{α:Type}{x:Option α}{k k':α->Prop}(h:oP x k)(f:∀a,k a->k' a):oP x k':=by grind[oM]
theorem YG{C:fk} {o:Oper} {K b:V->gL->Hp->Prop} (d:∀v ρ h,K v ρ h->b v ρ h) {ρ:gL} {h:Hp} (hk:RX C o K ρ h):RX C o b ρ h:=by
 unfold RX at hk⊢;generalize cls o=c at hk⊢;rcases c with _|_|c
 ·grind[qK]
 ·grind[qK]
 ·show TK C o b ρ h;have a:TK C o K ρ h:=hk;unfold TK at a⊢;cases hi:zM o
  all_goals rw[hi]at a
  ·grind[qK]
  ·exact qK a λx H=>H.mono (by simp_all)
theorem ZE{C:fk} {o:Oper} {b:Bool} {K a:V->gL->Hp->Prop} (d:∀v ρ h,K v ρ h->a v ρ h) {ρ:gL} {h:Hp} (hk:gdR C o b K ρ h):gdR C o b a ρ h:=by
 unfold gdR at hk⊢;generalize cls o=c at hk⊢;rcases c with _|_|c
 ·grind[qK]
 ·grind[qK]
 ·simp only at hk⊢;cases hi:zM o
  all_goals rw[hi]at hk
  ·grind[qK]
  ·refine qK hk λx H=>?_
   cases x with
   |none=>simp_all
   |some y=>exact cP.mono H (by simp_all)
theorem Uw{C:fk} {n:Nat} {all:List Oper} {o:Oper} {K a:gL->Hp->Prop} (b:∀ρ h,K ρ h->a ρ h) {ρ:gL} {h:Hp} (hk:A1 C n all o K ρ h):A1 C n all o a ρ h:=by
 unfold A1 at hk⊢
 cases hd:A2 o with
 |some q=>simp_all
 | none=>
   rw[hd]at hk;simp only at hk⊢
   cases hw:lL n all o with
   |none=>rw[hw]at hk;grind[YG,Io]
   |some g=>grind[qK,ZE,Io]
theorem ZW(C:fk) (n:Nat) (all:List Oper) (o:Oper) (K:gL->Hp->Prop):V4 C n all o K=A1 C n all o K:=by
 grind[V4,A1,zdQ]
theorem LJ{o:Oper} (h:cls o=0):A2 o=none:=by
 grind[A2,cls]
theorem Ch.Az{C:fk} {n:Nat} {all:List Oper} {h:Hp} {K:gL->Hp->Prop} {a:List Oper}:∀{os:List Oper} {ρ b:gL},Ch n all h os ρ b->Az C n all K a b h->Az C n all K (os++a) ρ h
 |[],_,_,hc,hk=>by cases hc;exact hk
 | o::os,ρ,b,⟨h0,d,v,c,e,i,f⟩,hk=>by
   have g:=f.Az (C:=C) (K:=K) hk;have j:qa n o (Hx.Az C n all K (os++a)) v ρ h:=by unfold qa;rw[c];simp only[e];exact g
   show A1 C n all o (Hx.Az C n all K (os++a)) ρ h
   grind[A1,LJ,RX,ed,gdR]
noncomputable def VE(C:fk) (n:Nat) (all:List Oper) (K:gL->Hp->Prop) (os:List Oper):Nat->gL->Hp->Prop:=
 List.rec (motive:=λ_=>Nat->gL->Hp->Prop) (λ_=>K) (λo os a b=>Nat.rec (motive:=λ_=>gL->Hp->Prop)
  (match YF n all (o::os)with
   |some (w,d,g,dp)=>λρ h=>oP (gA w (ρ d) (gE g ρ h)) λv=>a g.ops.length (fq (Cd g (PI w (ρ d)) ρ h) dp v) h
   |none=>V4 C n all o (a 0)) (λk _=>a k) b) os
theorem Kt{C:fk} {n:Nat} {all:List Oper} {K:gL->Hp->Prop}:∀(os:List Oper) (e:Nat) {ρ:gL} {h:Hp},VE C n all K os e ρ h->Az C n all K (os.drop e) ρ h
 |[],e,ρ,h,hk=>by rw[List.drop_nil];exact hk
 |o::os,e+1,ρ,h,hk=>Kt os e hk
 | o ::os,0,ρ,h,hk=>by
   have a:(match YF n all (o::os)with
     |some (w,d,g,k)=>λ(ρ:gL) (h:Hp)=>oP (gA w (ρ d) (gE g ρ h)) λv=>VE C n all K os g.ops.length (fq (Cd g (PI w (ρ d)) ρ h) k v) h
     |none=>V4 C n all o (VE C n all K os 0):gL->Hp->Prop) ρ h:=hk
   show Az C n all K (o::os) ρ h
   cases hg:YF n all (o::os)with
   | some x=>
     obtain⟨w,d,g,k⟩:=x;rw[hg]at a;simp only at a;obtain⟨p,r,q,N,A,b,i,B⟩:=zbc hg;obtain⟨v,D,s⟩:=lK.1 a;obtain⟨c,E,c2,t⟩:=WK D;have F:PI w (ρ d)=(c == w):=by unfold PI;rw[c2]
     rw[F]at s;obtain⟨y,G⟩:∃y,gV (c == w) (gE g ρ h)=some y/\(c=w->y=v):=by
       rcases t with⟨b,i⟩|⟨b,i⟩
       ·simp_all
       ·have:(c == w)=false:=by simp[b]
        rw[this];simp_all
     obtain⟨H,I,J,O⟩:=W0 g B (wBM ..) c2 (by simp_all) G.1;have l:Cd g (c == w) ρ h d = .bool c:=by rw[J d (wBM ..)];exact E
     have j:=Wa b (h:=h) l;have u:(iY p).f (.fn (Cd g (c == w) ρ h) []) h=some v:=by
       rw[j.1,I];rcases t with⟨b,i⟩|⟨b,i⟩
       ·grind
       ·grind
     have m:Ch n all h [p] (Cd g (c == w) ρ h) (fq (Cd g (c == w) ρ h) k v):=⟨j.2,k,v,A,i,by grind[lL],rfl⟩
     have hlen:os.drop g.ops.length=r:=by
       have L:(o::os).drop (g.ops.length+1)=r:=by rw[q,List.append_cons];exact by simp_all
       exact L
     have z:=Kt os _ s;rw[hlen]at z;rw[q,List.append_cons]
     exact(H.app m).Az z
   | none=>
     rw[hg]at a;simp only[ZW]at a;exact Uw (λρ h M=>by have:=Kt os 0 M;exact this) a
def D0(o:Oper):Bool:=match o.op with
 | .move x| .assign x| .nilCheck x| .fieldAddr _ x _| .field _ x _| .unOp _ _ x| .extract x _=>RI x
 | .pick c a b=>RI c&&RI a&&RI b
 | .binOp _ _ x y _=>RI x&&RI y
 | .indexAddr _ x i| .index _ x i=>RI x&&RI i
 | .build _ _| .makeFunc _ _ _=>true
 | .makeInterface _ x=>RI x
 | .call c=>match c.callee,c.args.toList,c.argTypes.toList with
   | .builtin .len,[x],ty::_=>match P0.underlying ty with
     |some (.slice _)=>RI x
     |_=>false
   |_,_,_=>false
 |_=>false
theorem YC{o:Oper} (a:D0 o=true) (t:Tm) (h h':Hp):(iY o).f t h=(iY o).f t h':=by
 unfold D0 at a;unfold iY;split at a
 all_goals rename_i b
 all_goals try rw[b]
 all_goals try simp only[yl]at a
 ·grind[lN]
 ·grind[lN]
 ·grind[AS,lN]
 ·grind[rk,lN]
 ·grind[JB,lN]
 ·grind[lN]
 ·grind[Hn,lN]
 ·grind[Mf,lN]
 ·grind[lN]
 ·grind[rG,lN]
 ·grind[JO,lN]
 ·simp only[JS];grind
 ·split <;> first|rfl|simp_all
 ·dsimp only;split <;> first|rfl|grind[lN]
 ·grind[hlen,lN,absurd]
 simp_all
abbrev RE:=Bool×Rec×Bool×Bool
def I0(k:Nat) (h:Hp) (rs:List RE) (K:Prop):Prop:=List.rec (motive:=λ_=>Prop) K (λr _ a=>Bool.rec (motive:=λ_=>Prop) (Option.rec (motive:=λ_=>Prop) (Bool.rec (motive:=λ_=>Prop) a (Bool.rec (motive:=λ_=>Prop) True (FT h r.2.1) r.1/\a) r.2.2.2) (λ_=>Bool.rec (motive:=λ_=>Prop) True (FT h r.2.1) r.1/\a) r.2.1.made) a (Nat.blt r.2.1.last k)) rs
def KP(rs:List RE):List RE:=rs.map λr=>(r.1,r.2.1,r.2.2.1,!r.2.2.1)
def uW(rs:List RE):List (Bool×Rec):=rs.map λr=>(r.1,r.2.1)
def itV(C:fk) (n:Nat) (all:List Oper) (ws:List It) (a:It) (d:Nat->gL->Hp->List RE->Prop) (k:Nat):gL->Hp->List RE->Prop:=match cls a.o with
  | 0 =>match lL n all a.o with
    | none=>match isVal a.o with
      |true=>λρ h rs=>Option.rec (motive:=λ_=>Prop) False (λv=>qa n a.o (λc h=>d k c h ((true,{it:=a,t:= .fn ρ [],v,made:=none,last:=late ws a},D0 a.o,false)::rs)) v ρ h) ((iY a.o).f (.fn ρ []) h)
      |false=>λρ h rs=>oP ((iY a.o).f (.fn ρ []) h) λv=>qa n a.o (λc h=>d k c h ((true,{it:=a,t:= .fn ρ [],v,made:=none,last:=late ws a},D0 a.o,false)::rs)) v ρ h
    |some g=>λρ h rs=>oP (g.f (.fn ρ [])) λb=>oP (gV b ((iY a.o).f (.fn ρ []) h)) λv=>
       qa n a.o (λc h=>d k c h ((b,{it:=a,t:= .fn ρ [],v,made:=none,last:=late ws a},D0 a.o,false)::rs)) v ρ h
  | 1=>match lL n all a.o with
    |none=>λρ h rs=>oP ((qQ a.o).f (.fn ρ [])) λr=>qa n a.o (λc h'=>d k c h' ((true,{it:=a,t:= .fn ρ [],v:=r.2 h.next,made:=some (h.next,r.1),last:=late ws a},false,false)::KP rs)) (r.2 h.next) ρ (h.new r.1)
    |some _=>λ_ _ _=>False
  | _ =>match lL n all a.o with
    |none=>λρ h rs=>I0 k h rs (TK C a.o (λv ρ h'=>h.next<=h'.next/\qa n a.o (λρ h=>d (Nat.succ k) ρ h (KP rs)) v ρ h') ρ h)
    | some g=>match zM a.o with
      |true=>λρ h rs=>I0 k h rs (oP (g.f (.fn ρ [])) λb=>oP (gC b (oB ((kJ a.o).f (.fn ρ []) h) JA)) λx=>qN C x h λv h'=>h.next<=h'.next/\qa n a.o (λρ h=>d (Nat.succ k) ρ h (KP rs)) v ρ h')
      |false=>λ_ _ _=>False
def JM(l:List It):Bool:=l.all λa=>Nat.beq (cls a.o) 0
def Uv(C:fk) (n:Nat) (all:List Oper) (ws:List It) (K:gL->Hp->Prop) (l:List It):Nat->gL->Hp->List RE->Prop:=
 List.rec (motive:=λ_=>Nat->gL->Hp->List RE->Prop) (λk ρ h rs=>I0 k h rs (K ρ h)) (λa l b k=>match JM (a::l)with
  |true=>λρ h rs=>VE C n all (λρ h=>I0 k h rs (K ρ h)) ((a::l).map (·.o)) 0 ρ h
  |false=>itV C n all ws a b k) l
def X9(h:Hp)(rs:List RE):Prop:=∀r∈rs,r.1=true->r.2.1.made=none->(r.2.2.1=true->∀h',FT h' r.2.1)/\(r.2.2.2=false->FT h r.2.1)
theorem X9.AK{h:Hp} {rs:List RE} (hi:X9 h rs) (h':Hp):X9 h' (KP rs):=by
 intro r b c d;obtain⟨r',a,e⟩:=Mv.1 b;subst e;obtain⟨f,_⟩:=hi r' a c d
 simp_all
theorem OI(rs:List RE):uW (KP rs)=uW rs:=by
 simp[uW,KP]
theorem zy{k:Nat} {h:Hp}:∀{rs:List RE} {K d:Prop},X9 h rs->(K->d)->I0 k h rs K->yG k h (uW rs) d
 |[],_,_,_,hk,hh=>hk hh
 | (b,r,f,st)::rs,K,d,hi,hk,hh=>by
   have c:X9 h rs:=λr c=>hi r (List.mem_cons_of_mem _ c);have h0:=hi _ (wBM ..)
   have a:Bool.rec (motive:=λ_=>Prop)
     (Option.rec (motive:=λ_=>Prop) (Bool.rec (motive:=λ_=>Prop) (I0 k h rs K) (Bool.rec (motive:=λ_=>Prop) True (FT h r) b/\I0 k h rs K) st)
     (λ_=>Bool.rec (motive:=λ_=>Prop) True (FT h r) b/\I0 k h rs K) r.made) (I0 k h rs K) (Nat.blt r.last k):=hh
   show Bool.rec (motive:=λ_=>Prop) (Bool.rec (motive:=λ_=>Prop) True (FT h r) b/\yG k h (uW rs) d) (yG k h (uW rs) d) (Nat.blt r.last k)
   cases hb:Nat.blt r.last k with
   |true=>rw[hb]at a;exact zy c hk a
   | false=>
     rw[hb]at a
     cases hm:r.made with
     |some x=>rw[hm]at a;exact⟨a.1,zy c hk a.2⟩
     | none=>
       rw[hm]at a
       cases st with
       |true=>exact⟨a.1,zy c hk a.2⟩
       | false=>
         refine⟨?_,zy c hk a⟩;cases b <;> grind
theorem Zm{C:fk} {o:Oper} {K a:V->gL->Hp->Prop} (b:∀v ρ h,K v ρ h->a v ρ h) {ρ:gL} {h:Hp} (hk:TK C o K ρ h):TK C o a ρ h:=by
 unfold TK at hk⊢;cases hi:zM o
 all_goals rw[hi]at hk
 ·grind[qK]
 ·exact qK hk λx H=>H.mono (by simp_all)
theorem Qe{k:Nat} {h:Hp} {K:Prop} {rs:List (Bool×Rec)}:∀{new:List (Bool×Rec)},(∀r∈new,r.1=true->FT h r.2)->yG k h rs K->yG k h (new++rs) K
 |[],_,hh=>hh
 | r ::new,hn,hh=>by
   have a:=Qe (new:=new) (by simp_all) hh;show yG k h (r::(new++rs)) K;simp only[yG]
   cases hb:Nat.blt r.2.last k with
   |true=>exact a
   | false=>
     refine⟨?_,a⟩;cases hb:r.1 <;> grind
theorem Ot{C:fk} {n:Nat} {all:List Oper} {ws:List It} {K:gL->Hp->Prop} {k:Nat} {rs:List (Bool×Rec)}:∀{l:List It} {ρ:gL} {h:Hp} {new:List (Bool×Rec)},JM l=true->(∀r∈new,r.1=true->FT h r.2)->
  Az C n all (λρ h=>yG k h rs (K ρ h)) (l.map (·.o)) ρ h->Jy C n all ws K l k ρ h (new++rs)
 |[],_,_,_,_,hn,hk=>Qe hn hk
 | a ::l,ρ,h,new,hp,hn,hk=>by
   simp only[JM,wBy,yl]at hp;obtain⟨hc,hp⟩:=hp;have hc:=CI hc;have c:A1 C n all a.o (Az C n all (λρ h=>yG k h rs (K ρ h)) (l.map (·.o))) ρ h:=hk;show itR C n all ws a (Jy C n all ws K l) k ρ h (new++rs)
   have m:∀{b:Bool} {v:V},(b=true->(iY a.o).f (.fn ρ []) h=some v)->qa n a.o (Az C n all (λρ h=>yG k h rs (K ρ h)) (l.map (·.o))) v ρ h->
       qa n a.o (λw h=>Jy C n all ws K l k w h ((b,{it:=a,t:= .fn ρ [],v,made:=none,last:=late ws a})::(new++rs))) v ρ h:=by
     intro b v p j;have i:∀r∈(b,({it:=a,t:= .fn ρ [],v,made:=none,last:=late ws a}:Rec))::new,r.1=true->FT h r.2:=by
       intro r x q;rcases Pd.1 x with e|e
       ·subst e;exact p q
       ·grind
     unfold qa at j⊢
     cases ho:a.o.dst with
     |none=>rw[ho]at j;exact Ot hp i j
     | some d=>
       rw[ho]at j;simp only at j⊢
       cases p:Nat.blt d n with
       |true=>rw[p]at j;exact Ot hp i j
       |false=>simp_all
   unfold A1 at c;rw[LJ hc]at c;simp only at c;unfold itR;rw[hc];simp only
   cases hw:lL n all a.o with
   | none=>
     rw[hw]at c;simp only[RX,hc]at c;obtain⟨v,s,u⟩:=lK.1 c
     simp_all
   | some g=>
     rw[hw]at c;simp only[gdR,hc]at c;obtain⟨b,h0,c⟩:=lK.1 c;obtain⟨v,s,u⟩:=lK.1 c;exact ed h0 (ed s (m (λe=>by simp_all) u))
theorem Li{C:fk} {n:Nat} {all:List Oper} {K e:gL->Hp->Prop} {h:Hp} (f:∀ρ,K ρ h->e ρ h):∀{l:List It} {ρ:gL},JM l=true->Az C n all K (l.map (·.o)) ρ h->Az C n all e (l.map (·.o)) ρ h
 |[],_,_,hk=>f _ hk
 | a ::l,ρ,hp,hk=>by
   simp only[JM,wBy,yl]at hp;obtain⟨hc,hp⟩:=hp;have hc:=CI hc;have b:A1 C n all a.o (Az C n all K (l.map (·.o))) ρ h:=hk;show A1 C n all a.o (Az C n all e (l.map (·.o))) ρ h;have i:∀{v:V},qa n a.o (Az C n all K (l.map (·.o))) v ρ h->qa n a.o (Az C n all e (l.map (·.o))) v ρ h:=by
     intro v c;unfold qa at c⊢
     cases ho:a.o.dst with
     |none=>rw[ho]at c;exact Li f hp c
     | some d=>
       rw[ho]at c;simp only at c⊢
       cases hb:Nat.blt d n with
       |true=>rw[hb]at c;exact Li f hp c
       |false=>simp_all
   unfold A1 at b⊢;rw[LJ hc]at b⊢;simp only at b⊢
   cases hw:lL n all a.o with
   | none=>
     grind[RX,lK,ed]
   | some g=>
     rw[hw]at b
     grind[gdR,lK,ed]
theorem MO{C:fk} {n:Nat} {all:List Oper} {ws:List It} {K:gL->Hp->Prop}:∀(l:List It) {k:Nat} {ρ:gL} {h:Hp} {rs:List RE},X9 h rs->Uv C n all ws K l k ρ h rs->Jy C n all ws K l k ρ h (uW rs)
 |[],_,_,_,_,hi,hk=>zy hi (λx=>x) hk
 | a ::l,k,ρ,h,rs,hi,hk=>by
   have i:(match JM (a::l)with
     |true=>λ(ρ:gL) (h:Hp) (rs:List RE)=>VE C n all (λρ h=>I0 k h rs (K ρ h)) ((a::l).map (·.o)) 0 ρ h
     |false=>itV C n all ws a (Uv C n all ws K l) k:gL->Hp->List RE->Prop) ρ h rs:=hk
   cases hp:JM (a::l)with
   | true=>
     rw[hp]at i;have z:=Kt _ 0 i
     exact Ot (new:=[]) hp (by simp_all) (Li (λρ m=>zy hi (λx=>x) m) hp z)
   | false =>
     rw[hp]at i;simp only at i;show itR C n all ws a (Jy C n all ws K l) k ρ h (uW rs)
     have pure:∀{b:Bool} {v:V},gV b ((iY a.o).f (.fn ρ []) h)=some v->∀{j:gL},Uv C n all ws K l k j h ((b,{it:=a,t:= .fn ρ [],v,made:=none,last:=late ws a},D0 a.o,false)::rs)->
         Jy C n all ws K l k j h ((b,{it:=a,t:= .fn ρ [],v,made:=none,last:=late ws a})::uW rs):=by
       intro b v hv j m;refine MO l (rs:=(b,{it:=a,t:= .fn ρ [],v,made:=none,last:=late ws a},D0 a.o,false)::rs) ?_ m;intro r q p s;rcases Pd.1 q with e|e
       ·subst e
        have u:b=true:=p;subst u;refine⟨λA h'=>?_,λ_=>hv⟩;show(iY a.o).f (.fn ρ []) h' = some v;rw[YC A _ h' h];exact hv
       ·exact hi r e p s
     have dst:∀{b:Bool} {v:V},gV b ((iY a.o).f (.fn ρ []) h)=some v->qa n a.o (λj h=>Uv C n all ws K l k j h ((b,{it:=a,t:= .fn ρ [],v,made:=none,last:=late ws a},D0 a.o,false)::rs)) v ρ h->
         qa n a.o (λj h=>Jy C n all ws K l k j h ((b,{it:=a,t:= .fn ρ [],v,made:=none,last:=late ws a})::uW rs)) v ρ h:=by
       intro b v hv B;unfold qa at B⊢
       cases ho:a.o.dst with
       |none=>grind
       | some d=>
         grind
     unfold itV at i;unfold itR;generalize hc:cls a.o=c at i;rcases c with _|_|c
     ·simp only at i⊢
      cases hw:lL n all a.o with
      | none=>
        rw[hw]at i;simp only at i⊢;have w:oP ((iY a.o).f (.fn ρ []) h) λv=>qa n a.o (λj h=>Uv C n all ws K l k j h ((true,{it:=a,t:= .fn ρ [],v,made:=none,last:=late ws a},D0 a.o,false)::rs)) v ρ h:=by
          cases hv:isVal a.o <;> (rw[hv]at i;exact i)
        obtain⟨v,z,E⟩:=lK.1 w
        simp_all
      | some g=>
        grind[lK,ed]
     ·simp only at i⊢
      cases hw:lL n all a.o with
      | none=>
        rw[hw]at i;refine qK i λr H=>Io (λj h' m=>?_) H;have:=MO l (rs:=(true,{it:=a,t:= .fn ρ [],v:=r.2 h.next,made:=some (h.next,r.1),last:=late ws a},false,false)::KP rs) (by
          intro r' q p s;rcases Pd.1 q with e|e
          ·simp_all
          ·exact hi.AK h' r' e p s) m
        grind[Jy,uW,KP,OI]
      |some g=>simp_all
     ·simp only at i⊢
      have D:∀{v:V} {ρ:gL} {h':Hp},qa n a.o (λρ h=>Uv C n all ws K l (Nat.succ k) ρ h (KP rs)) v ρ h'->qa n a.o (λρ h=>Jy C n all ws K l (Nat.succ k) ρ h (uW rs)) v ρ h':=λH=>
        Io (λρ h m=>by have:=MO l (hi.AK h) m;grind[OI]) H
      cases hw:lL n all a.o with
      | none=>
        grind[zy,Zm]
      | some g=>
        rw[hw]at i;simp only at i⊢
        cases hic:zM a.o with
        |false=>simp_all
        | true=>
          rw[hic]at i;refine zy hi (λH=>qK H λb H=>qK H λx H=>?_) i
          cases x with
          |none=>simp_all
          |some y=>exact cP.mono H (by simp_all)
def Z6(C:fk) (n:Nat) (all:List Oper) (K:gL->Hp->Prop) (ρ:gL) (h:Hp):Prop:=Uv C n all (gY (items all 0 [])) K (order (items all 0 []) (gY (items all 0 [])) (gY (items all 0 [])) 0) 0 ρ h []
theorem ZX{C:fk}{n:Nat}{all:List Oper}{K:gL->Hp->Prop}{ρ:gL}{h:Hp}(hk:Z6 C n all K ρ h):WD C n all K ρ h:=MO (rs:=[]) _ (by intro r a;cases a) hk
end
noncomputable def N5(tb:List (Nat×List Nat)) (k:Nat):Option (List Nat):=List.rec (motive:=λ_=>Option (List Nat)) none (λx _ a=>Bool.rec (motive:=λ_=>Option (List Nat)) a (some x.2) (Nat.beq x.1 k)) tb
noncomputable def jV(C:fk) (n:Nat) (live:List Nat) (c:Code) (s:XQ) (ρ:gL) (h:Hp):Prop:=∀a:gL,List.rec (motive:=λ_=>Prop) (Wp C n c s a h) (λi _ b=>a i=ρ i->b) live
theorem YI{C:fk} {n:Nat} {live:List Nat} {c:Code} {s:XQ} {ρ:gL} {h:Hp} (a:jV C n live c s ρ h):Wp C n c s ρ h:=by
 have:=a ρ;clear a
 induction live <;> grind
noncomputable def Tv(C:fk) (n:Nat) (tb:List (Nat×List Nat)) (c:Code):Nat->Nat->XQ->XQ->gL->Hp->Prop:=
 Code.rec (motive:=λ_=>Nat->Nat->XQ->XQ->gL->Hp->Prop)
  (λ_ _ v _=>v .normal)
  (fun _ ops d _ _ v _=>match d with
   |false=>VE C n ops.toList (λρ h=>v .normal ρ h) ops.toList 0
   | true=>match zE ops.toList with
     |true=>Z6 C n ops.toList (λρ h=>v .normal ρ h)
     |false=>λ_ _=>False)
  (λ_ b a g p e v s=>a p (Nat.mul 2 e) (andThen (Option.rec (motive:=λ_=>gL->Hp->Prop) (g (Nat.add p e) (Nat.mul 2 e) v s) (λlive=>jV C n live b s) (N5 tb (Nat.mul 2 (Nat.add (Nat.add p e) (Nat.mul 2 e))))) v) (andThen (Wp C n b s) s))
  (λc _ _ a g p e v s ρ h=>Option.rec (motive:=λ_=>Prop) False (λx=>bP x (a p (Nat.mul 2 e) v s ρ h) (g (Nat.add p e) (Nat.mul 2 e) v s ρ h)) ((uf c).f (.fn ρ []) h))
  (λid _ i p e v s=>i p (Nat.mul 2 e) (w7 id v) (w7 id s))
  (λc _ p e _ s=>Option.rec (motive:=λ_=>gL->Hp->Prop) (λ_ _=>False) (λlive=>jV C n live (.loop c) s) (N5 tb (Nat.succ (Nat.mul 2 (Nat.add p e)))))
  (λ_ _ _ _ _ _ _ _ _ _ _ _=>False)
  (λid _ _ v _=>v (.exit id))
  (λ_ _ _ _ _ _ _ _=>False)
  (λ_ _ _ _ _ _ _=>False)
  (λ_ _ _ _ _ _ _=>False)
  (λ_ _ v _=>v .ret)
  (λ_ _ _ _ _ _ _=>False) c
theorem Cq{k k':gL->Hp->Prop} {v s:XQ} (hk:∀ρ h,k ρ h->k' ρ h) (hq:∀x ρ h,v x ρ h->s x ρ h):∀x ρ h,andThen k v x ρ h->andThen k' s x ρ h
 | .normal,_,_,hh=>hk _ _ hh
 | .exit _,_,_,hh=>hq _ _ _ hh
 | .ret,_,_,hh=>hq _ _ _ hh
theorem N2{id:Nat} {v s:XQ} (hq:∀x ρ h,v x ρ h->s x ρ h):∀x ρ h,w7 id v x ρ h->w7 id s x ρ h
 | .normal,_,_,hh=>hq _ _ _ hh
 | .ret,_,_,hh=>hq _ _ _ hh
 | .exit i,ρ,h,hh=>by
   simp only[w7]at hh⊢;cases hb:Nat.beq i id <;> simp_all
theorem ye{C:fk} {n:Nat} {tb:List (Nat×List Nat)}:∀(c:Code) {p e:Nat} {v s:XQ} {ρ:gL} {h:Hp},(∀x ρ h,v x ρ h->s x ρ h)->Tv C n tb c p e v s ρ h->Wp C n c s ρ h
 | .skip,_,_,_,_,_,_,hq,hk=> .skip (hq _ _ _ hk)
 | .region _ ops false,_,_,v,_,ρ,h,hq,hk=>by
   have d:VE C n ops.toList (λρ h=>v .normal ρ h) ops.toList 0 ρ h:=hk
   exact(Wp.region (Kt _ 0 d)).mono hq
 | .region _ ops true,_,_,v,_,ρ,h,hq,hk=>by
   have d:(match zE ops.toList with
       |true=>Z6 C n ops.toList (λρ h=>v .normal ρ h)
       |false=>λ_ _=>False) ρ h:=hk
   cases hd:zE ops.toList with
   |true=>rw[hd]at d;exact(Wp.draw hd (ZX d)).mono hq
   |false=>simp_all
 | .seq a b,p,e,v,s,ρ,h,hq,hk=>by
   refine .seq (ye a (Cq ?_ hq) hk);intro ρ h g
   cases hf:N5 tb (Nat.mul 2 (Nat.add (Nat.add p e) (Nat.mul 2 e)))with
   |none=>rw[hf]at g;exact ye b hq g
   |some live=>rw[hf]at g;exact YI g
 | .cond c a b,p,e,v,s,ρ,h,hq,hk=>by
   have d:oP ((uf c).f (.fn ρ []) h) (λx=>bP x (Tv C n tb a p (Nat.mul 2 e) v s ρ h) (Tv C n tb b (Nat.add p e) (Nat.mul 2 e) v s ρ h)):=hk;obtain⟨x,hv,d⟩:=lK.1 d
   exact .cond (ed hv (bM d (ye a hq) (ye b hq)))
 | .block id c,_,_,_,_,_,_,hq,hk=> .block (ye c (N2 hq) hk)
 | .loop c,p,e,v,s,ρ,h,hq,hk=>by
   have d:(Option.rec (motive:=λ_=>gL->Hp->Prop) (λ_ _=>False) (λlive=>jV C n live (.loop c) s) (N5 tb (Nat.succ (Nat.mul 2 (Nat.add p e)))):gL->Hp->Prop) ρ h:=hk
   cases hf:N5 tb (Nat.succ (Nat.mul 2 (Nat.add p e)))with
   |none=>simp_all
   |some live=>rw[hf]at d;grind[YI]
 | .exit id,_,_,_,_,_,_,hq,hk=> .exit (hq _ _ _ hk)
 | .ret,_,_,_,_,_,_,hq,hk=> .ret (hq _ _ _ hk)
 | .rangeFunc ..,_,_,_,_,_,_,_,hk=>hk.elim
 | .scope _,_,_,_,_,_,_,_,hk=>hk.elim
 | .label _,_,_,_,_,_,_,_,hk=>hk.elim
 | .goto _,_,_,_,_,_,_,_,hk=>hk.elim
 | .refuse _,_,_,_,_,_,_,_,hk=>hk.elim
structure W9 where
 c:Code
 v:XQ
 s:XQ
 p:Nat
 e:Nat
 ks:List (gL->Hp->Prop)
def zcM(l:List (gL->Hp->Prop)):gL->Hp->Prop:=match l with
 |k::_=>k
 |[]=>λ_ _=>False
noncomputable def kK(C:fk) (n:Nat) (tb:List (Nat×List Nat)) (a:W9) (b:Bool):W9:=match a.c,b with
 | .seq x y,false=>{c:=x,v:=andThen (Option.rec (motive:=λ_=>gL->Hp->Prop) (Tv C n tb y (Nat.add a.p a.e) (Nat.mul 2 a.e) a.v a.s) (λlive=>jV C n live y a.s) (N5 tb (Nat.mul 2 (Nat.add (Nat.add a.p a.e) (Nat.mul 2 a.e))))) a.v,s:=andThen (Wp C n y a.s) a.s,p:=a.p,e:=Nat.mul 2 a.e,ks:=a.ks}
 | .seq _ y,true=>{c:=y,v:=a.v,s:=a.s,p:=Nat.add a.p a.e,e:=Nat.mul 2 a.e,ks:=a.ks}
 | .cond _ x _,false=>{c:=x,v:=a.v,s:=a.s,p:=a.p,e:=Nat.mul 2 a.e,ks:=a.ks}
 | .cond _ _ y,true=>{c:=y,v:=a.v,s:=a.s,p:=Nat.add a.p a.e,e:=Nat.mul 2 a.e,ks:=a.ks}
 | .block id x,false=>{c:=x,v:=w7 id a.v,s:=w7 id a.s,p:=a.p,e:=Nat.mul 2 a.e,ks:=a.ks}
 | .loop x,false=>{c:=x,v:=andThen (zcM a.ks) a.v,s:=andThen (zcM a.ks) a.s,p:=a.p,e:=Nat.mul 2 a.e,ks:=a.ks.tail}
 |_,_=>a
noncomputable def zfN(C:fk) (n:Nat) (tb:List (Nat×List Nat)) (bs:List Bool):W9->W9:=List.rec (motive:=λ_=>W9->W9) (λa=>a) (λb _ c a=>c (kK C n tb a b)) bs
def zfj(k:Nat):List Bool:=(Nat.rec (motive:=λ_=>Nat->List Bool) (λ_=>[]) (λ_ a p=>match Nat.ble p 1 with
 |true=>[]
 |false=>Nat.beq (Nat.mod p 2) 1::a (Nat.div p 2)) 400:Nat->List Bool) k
def Vf(Q:V->Hp->Prop) (ρ:gL) (h:Hp) (l:List ResultVar):List V->Prop:=
 List.rec (motive:=λ_=>List V->Prop) (λb=>Q (AG b.reverse) h) (λr _ c b=>match r with
  | .tmp i=>c (ρ i::b)
  | .cell a ty=>oP ((Xv (.cell a ty)).f (.fn ρ []) h) λv=>c (v::b)) l
theorem M4{Q:V->Hp->Prop} {ρ:gL} {h:Hp}:∀{l:List ResultVar} {b:List V},Vf Q ρ h l b->oP (BB (.fn ρ []) h l) λvs=>Q (AG (b.reverse++vs)) h
 | [],b,hh=>by
   grind[AG,BB,Wf,oP,Vf]
 | .tmp i::l,b,hh=>by
   have c:Vf Q ρ h l (ρ i::b):=hh;obtain⟨vs,d,e⟩:=lK.1 (M4 c);refine ed (show BB (.fn ρ []) h (.tmp i::l)=some (ρ i::vs) from ?_) ?_
   ·show oB (some (ρ i)) _=_
    simp_all
   simp_all
 | .cell a ty::l,b,hh=>by
   have c:oP ((Xv (.cell a ty)).f (.fn ρ []) h) λv=>Vf Q ρ h l (v::b):=hh;obtain⟨v,h0,c⟩:=lK.1 c;obtain⟨vs,d,e⟩:=lK.1 (M4 c)
   simp_all[ed,BB,oB,Xv]
def VO(l:List ResultVar) (Q:V->Hp->Prop):XQ
 | .exit _,_,_=>False
 |_,ρ,h=>Vf Q ρ h l []
theorem TA{l:List ResultVar} {Q:V->Hp->Prop}:∀x ρ h,VO l Q x ρ h->Jb l Q x ρ h
 | .exit _,_,_,hh=>hh
 | .normal,_,_,hh=>by grind[M4,Vf,Jb,zbR,VO]
 | .ret,_,_,hh=>by grind[M4,Vf,Jb,zbR,VO]
noncomputable def zat(fn:Func)(ks:List (gL->Hp->Prop))(Q:V->Hp->Prop):W9:={c:=LS fn,v:=VO fn.results.toList Q,s:=Jb fn.results.toList Q,p:=0,e:=1,ks}
noncomputable def fM(C:fk)(fn:Func)(tb:List (Nat×List Nat))(k:Nat)(ks:List (gL->Hp->Prop))(Q:V->Hp->Prop):W9:=zfN C fn.ntmps tb (zfj k) (zat fn ks Q)
noncomputable def WA(C:fk)(fn:Func)(tb:List (Nat×List Nat))(k:Nat)(ks:List (gL->Hp->Prop))(Q:V->Hp->Prop)(ρ:gL)(h:Hp):Prop:=Wp C fn.ntmps (fM C fn tb k ks Q).c (fM C fn tb k ks Q).s ρ h
noncomputable def VA(C:fk)(n:Nat)(tb:List (Nat×List Nat))(a:W9)(ρ:gL)(h:Hp):Prop:=Tv C n tb a.c a.p a.e a.v a.s ρ h
def W9.ok(a:W9):Prop:=∀x ρ h,a.v x ρ h->a.s x ρ h
theorem X6{C:fk} {n:Nat} {tb:List (Nat×List Nat)} {a:W9} (c:a.ok) (b:Bool):(kK C n tb a b).ok:=by
 unfold kK;split
 ·refine Cq (λρ h d=>?_) c
  cases hf:N5 tb (Nat.mul 2 (Nat.add (Nat.add a.p a.e) (Nat.mul 2 a.e)))with
  |none=>rw[hf]at d;exact ye _ c d
  |some live=>rw[hf]at d;exact YI d
 ·exact c
 ·exact c
 ·exact c
 ·exact N2 c
 ·exact Cq (by simp_all) c
 ·exact c
theorem Wq{C:fk} {n:Nat} {tb:List (Nat×List Nat)}:∀{bs:List Bool} {a:W9},a.ok->(zfN C n tb bs a).ok
 |[],_,ha=>ha
 |b::bs,_,ha=>Wq (bs:=bs) (X6 ha b)
theorem PD{C:fk}{fn:Func}{tb:List (Nat×List Nat)}{k:Nat}{ks:List (gL->Hp->Prop)}{Q:V->Hp->Prop}:(fM C fn tb k ks Q).ok:=Wq TA
theorem WA.of{C:fk} {fn:Func} {tb:List (Nat×List Nat)} {k:Nat} {ks:List (gL->Hp->Prop)} {Q:V->Hp->Prop} {ρ:gL} {h:Hp} {P:Prop}
  (e:VA C fn.ntmps tb (fM C fn tb k ks Q) ρ h=P) (H:P):WA C fn tb k ks Q ρ h:=ye _ PD (e.mpr H)
def lU(c:Code):Bool:=match c with
 | .loop _=>true
 |_=>false
inductive LA (C:fk) (fn:Func) (tb:List (Nat×List Nat)) (k:Nat) (ks:List (gL->Hp->Prop)) (Q:V->Hp->Prop) (K:gL->Hp->Prop) (ρ:gL) (h:Hp):Prop
 |mk (hv:VA C fn.ntmps tb (kK C fn.ntmps tb {fM C fn tb k ks Q with ks:=[K]} false) ρ h)
theorem LA.of{C:fk} {fn:Func} {tb:List (Nat×List Nat)} {k:Nat} {ks:List (gL->Hp->Prop)} {Q:V->Hp->Prop} {K:gL->Hp->Prop} {ρ:gL} {h:Hp} {P:Prop}
  (e:VA C fn.ntmps tb (kK C fn.ntmps tb {fM C fn tb k ks Q with ks:=[K]} false) ρ h=P) (H:P):LA C fn tb k ks Q K ρ h:=⟨e.mpr H⟩
theorem WA.loop{C:fk} {fn:Func} {tb:List (Nat×List Nat)} {k:Nat} {ks:List (gL->Hp->Prop)} {Q:V->Hp->Prop} {ρ:gL} {h:Hp} (I:Nat->gL->Hp->Prop) {m:Nat}
  (f:lU (fM C fn tb k ks Q).c=true) (hk:(fM C fn tb k ks Q).ks=[])
  (b:∀m ρ h,I m ρ h->LA C fn tb k ks Q (λi h'=>∃g,g<m/\I g i h') ρ h) (h0:I m ρ h):WA C fn tb k ks Q ρ h:=by
 unfold WA;have b:=λm ρ h hi=>(b m ρ h hi).1;have d:(fM C fn tb k ks Q).ok:=PD;generalize fM C fn tb k ks Q=a at*;obtain⟨c,v,s,p,e,j⟩:=a;cases c <;> simp only[lU]at f <;> try exact absurd f (by decide)
 rename_i c;refine Wp.zca I (λm ρ h hi=>?_) h0;have:=b m ρ h hi;exact ye c (Cq (λ_ _ l=>l) d) this
theorem cP.vc{C:fk} (hs:C.start=fG) {f:Nat} {fn:Func} {tb:List (Nat×List Nat)} {args:List V} {h:Hp} {Q:V->Hp->Prop} {P:Prop} (b:P0.funcs[f]? =some fn) (c:fn.body=some (LS fn))
  (hk:C.K f args h=none) (a:Nat.ble args.length fn.ntmps=true) (e:VA C fn.ntmps tb (zat fn [] Q) (Mq args) h=P) (H:P):cP C f args h Q:=
 cP.func hs b c hk (K7 a) (ye _ TA (e.mpr H))
abbrev LP:=List V->Hp->Prop
def chV(ρ:gL):List Nat->List V->Prop->Prop
 |i::is,x::xs,P=>ρ i=x->chV ρ is xs P
 |_,_,P=>P
def kf(is:List Nat)(K:LP):gL->Hp->Prop:=λρ h=>K (is.map ρ) h
def JV(C:fk)(fn:Func)(tb:List (Nat×List Nat))(k:Nat)(is:List Nat)(ks:List (gL->Hp->Prop))(Q:fo):LP:=λl h=>∀ρ:gL,chV ρ is l (WA C fn tb k ks Q ρ h)
theorem Us{ρ:gL}{P:Prop}:∀{is:List Nat}{l:List V},is.length=l.length->(is.map ρ=l->P)->chV ρ is l P
 |[],[],_,h=>h rfl
 |[],_::_,e,_=>by cases e
 |_::_,[],e,_=>by cases e
 |i::is,x::l,e,h=>λa=>Us (is:=is) (l:=l) (by simp_all) (by simp_all)
def zbq:Nat->Type
 |0=>Hp->Prop
 |n+1=>V->zbq n
def IH:(n:Nat)->zbq n->LP
 |0,f,[],h=>f h
 |n+1,f,x::l,h=>IH n (f x) l h
 |_,_,_,_=>False
@[reducible] def BY (I:Nat->LP) (k:Nat):LP:=λl h=>∃k',k' < k/\I k' l h
section
variable{C:fk}{fn:Func}{tb:List (Nat×List Nat)}{k m:Nat}{is:List Nat}{ks:List (gL->Hp->Prop)}{Q:fo}{h:Hp}{l:List V}
theorem JV.mk(n:Nat)(B:zbq n)(e:∀(ρ:gL)(h:Hp),VA C fn.ntmps tb (fM C fn tb k ks Q) ρ h=IH n B (is.map ρ) h)(a:is.length=l.length)(H:IH n B l h):JV C fn tb k is ks Q l h:=λρ=>Us a λb=>by
 subst b;exact WA.of (e ρ h) H
theorem JV.loop(n:Nat)(I:Nat->LP)(B:LP->zbq n)(a:lU (fM C fn tb k ks Q).c=true)(hk:(fM C fn tb k ks Q).ks=[])
  (e:∀(K:LP) (ρ:gL) (h:Hp),VA C fn.ntmps tb (kK C fn.ntmps tb {fM C fn tb k ks Q with ks:=[kf is K]} false) ρ h=IH n (B K) (is.map ρ) h)
  (d:∀m l h,l.length=n->I m l h->IH n (B (BY I m)) l h) (f:is.length=n) (hlen:is.length=l.length) (h0:I m l h):JV C fn tb k is ks Q l h:=λρ=>Us hlen λb=>by
 subst b;exact WA.loop (λm ρ h=>I m (is.map ρ) h) a hk (λm ρ h hi=>LA.of (e (BY I m) ρ h) (by grind)) h0
abbrev dF(k:Nat)(x:V)(h:Hp)(K:V->Prop):Prop:=oP (fF k x) λa=>oP (ez a h) K
abbrev dN(k:Nat)(x:V)(h:Hp)(K:V->Prop):Prop:=oP (hZ x) λa=>dF k a h K
abbrev dI(n:Nat)(x i:V)(k:Nat)(h:Hp)(K:V->Prop):Prop:=oP (gG n x i) λa=>dF k a h K
abbrev dX(n:Nat)(x i:V)(h:Hp)(K:V->Prop):Prop:=oP (gG n x i) λa=>oP (ez a h) K
abbrev dG(k:Nat)(x:V)(h:Hp)(K:V->Prop):Prop:=dF k x h λa=>oP (fD a) K
abbrev dJ(k:Nat)(x:V)(n:Nat)(i:V)(j:Nat)(h:Hp)(K:V->Prop):Prop:=dF k x h λa=>dI n a i j h K
abbrev dY(k:Nat)(x:V)(n:Nat)(i:V)(h:Hp)(K:V->Prop):Prop:=dF k x h λa=>dX n a i h K
abbrev bO(o:BinOp)(t:Nat)(a b:V)(A B:Prop):Prop:=oP (en o t a b) λv=>bP v A B
abbrev bN(a:V)(A B:Prop):Prop:=oP (pA .not a) λv=>bP v A B
theorem oF{k l o:Nat}{h:Hp}{v:V}{K:V->Prop}(a:ez (.ptr l (o+k)) h=some v)(b:K v):dF k (.ptr l o) h K:=lK.2 ⟨_,fS _ _ _,lK.2 ⟨_,a,b⟩⟩
theorem oN{k l o:Nat}{h:Hp}{v:V}{K:V->Prop}(a:ez (.ptr l (o+k)) h=some v)(b:K v):dN k (.ptr l o) h K:=lK.2 (by simp_all[fP,oF])
theorem cP.vd{C:fk}{f:Nat}{fn:Func}(tb:List (Nat×List Nat)){args:List V}{h:Hp}{Q:fo}{P:Prop}(hs:C.start=fG)(b:P0.funcs[f]? =some fn)(hk:C.K f args h=none)(H:P)
  (c:fn.body=some (LS fn):=by kernel_rfl) (a:Nat.ble args.length fn.ntmps=true:=by kernel_rfl) (e:VA C fn.ntmps tb (zat fn [] Q) (Mq args) h=P:=by kernel_rfl):cP C f args h Q:=cP.vc hs b c hk a e H
abbrev S1(I:Nat->LP)(B:LP->fo):Prop:=∀(k:Nat) (a:V) (h:Hp),I k [a] h->B (BY I k) a h
abbrev R1(B:fo)(J:LP):Prop:=∀{a:V} {h:Hp},B a h->J [a] h
theorem JV.r1(B:fo)(e:∀(ρ:gL)(h:Hp),VA C fn.ntmps tb (fM C fn tb k ks Q) ρ h=IH 1 B (is.map ρ) h:=by intros;kernel_rfl)(a:is.length=1:=by rfl):R1 B (JV C fn tb k is ks Q):=λH=>JV.mk 1 B e a H
abbrev S2(I:Nat->LP)(B:LP->QP2):Prop:=∀(k:Nat) (a b:V) (h:Hp),I k [a,b] h->B (BY I k) a b h
abbrev R2(B:QP2)(J:LP):Prop:=∀{a b:V} {h:Hp},B a b h->J [a,b] h
theorem JV.l2(I:Nat->LP)(B:LP->QP2)(s:S2 I B)(i:I m l h)(g:l.length=2)(b:lU (fM C fn tb k ks Q).c=true:=by kernel_rfl)(hk:(fM C fn tb k ks Q).ks=[]:=by kernel_rfl)
  (e:∀(K:LP) (ρ:gL) (h:Hp),VA C fn.ntmps tb (kK C fn.ntmps tb {fM C fn tb k ks Q with ks:=[kf is K]} false) ρ h=IH 2 (B K) (is.map ρ) h:=by intros;kernel_rfl) (a:is.length=2:=by rfl):JV C fn tb k is ks Q l h:=
 JV.loop 2 I B b hk e (λk l h g i=>match l,g,i with|[d,f],_,i=>s k d f h i) a (a.trans g.symm) i
abbrev S3(I:Nat->LP)(B:LP->SJ):Prop:=∀(k:Nat) (a b c:V) (h:Hp),I k [a,b,c] h->B (BY I k) a b c h
abbrev R3(B:SJ)(J:LP):Prop:=∀{a b c:V} {h:Hp},B a b c h->J [a,b,c] h
theorem JV.l3(I:Nat->LP)(B:LP->SJ)(s:S3 I B)(i:I m l h)(g:l.length=3)(b:lU (fM C fn tb k ks Q).c=true:=by kernel_rfl)(hk:(fM C fn tb k ks Q).ks=[]:=by kernel_rfl)
  (e:∀(K:LP) (ρ:gL) (h:Hp),VA C fn.ntmps tb (kK C fn.ntmps tb {fM C fn tb k ks Q with ks:=[kf is K]} false) ρ h=IH 3 (B K) (is.map ρ) h:=by intros;kernel_rfl) (a:is.length=3:=by rfl):JV C fn tb k is ks Q l h:=
 JV.loop 3 I B b hk e (λk l h g i=>match l,g,i with|[d,f,j],_,i=>s k d f j h i) a (a.trans g.symm) i
theorem JV.r3(B:SJ)(e:∀(ρ:gL)(h:Hp),VA C fn.ntmps tb (fM C fn tb k ks Q) ρ h=IH 3 B (is.map ρ) h:=by intros;kernel_rfl)(a:is.length=3:=by rfl):R3 B (JV C fn tb k is ks Q):=λH=>JV.mk 3 B e a H
abbrev S4(I:Nat->LP)(B:LP->ML):Prop:=∀(k:Nat) (a b c d:V) (h:Hp),I k [a,b,c,d] h->B (BY I k) a b c d h
abbrev R4(B:ML)(J:LP):Prop:=∀{a b c d:V} {h:Hp},B a b c d h->J [a,b,c,d] h
theorem JV.l4(I:Nat->LP)(B:LP->ML)(s:S4 I B)(i:I m l h)(g:l.length=4)(b:lU (fM C fn tb k ks Q).c=true:=by kernel_rfl)(hk:(fM C fn tb k ks Q).ks=[]:=by kernel_rfl)
  (e:∀(K:LP) (ρ:gL) (h:Hp),VA C fn.ntmps tb (kK C fn.ntmps tb {fM C fn tb k ks Q with ks:=[kf is K]} false) ρ h=IH 4 (B K) (is.map ρ) h:=by intros;kernel_rfl) (a:is.length=4:=by rfl):JV C fn tb k is ks Q l h:=
 JV.loop 4 I B b hk e (λk l h g i=>match l,g,i with|[d,f,j,n],_,i=>s k d f j n h i) a (a.trans g.symm) i
abbrev S5(I:Nat->LP)(B:LP->Kf):Prop:=∀(k:Nat) (a b c d e:V) (h:Hp),I k [a,b,c,d,e] h->B (BY I k) a b c d e h
abbrev R5(B:Kf)(J:LP):Prop:=∀{a b c d e:V} {h:Hp},B a b c d e h->J [a,b,c,d,e] h
theorem JV.l5(I:Nat->LP)(B:LP->Kf)(s:S5 I B)(i:I m l h)(g:l.length=5)(b:lU (fM C fn tb k ks Q).c=true:=by kernel_rfl)(hk:(fM C fn tb k ks Q).ks=[]:=by kernel_rfl)
  (e:∀(K:LP) (ρ:gL) (h:Hp),VA C fn.ntmps tb (kK C fn.ntmps tb {fM C fn tb k ks Q with ks:=[kf is K]} false) ρ h=IH 5 (B K) (is.map ρ) h:=by intros;kernel_rfl) (a:is.length=5:=by rfl):JV C fn tb k is ks Q l h:=
 JV.loop 5 I B b hk e (λk l h g i=>match l,g,i with|[d,f,j,n,o],_,i=>s k d f j n o h i) a (a.trans g.symm) i
theorem JV.r5(B:Kf)(e:∀(ρ:gL)(h:Hp),VA C fn.ntmps tb (fM C fn tb k ks Q) ρ h=IH 5 B (is.map ρ) h:=by intros;kernel_rfl)(a:is.length=5:=by rfl):R5 B (JV C fn tb k is ks Q):=λH=>JV.mk 5 B e a H
abbrev S6(I:Nat->LP)(B:LP->QR):Prop:=∀(k:Nat) (a b c d e f:V) (h:Hp),I k [a,b,c,d,e,f] h->B (BY I k) a b c d e f h
abbrev R6(B:QR)(J:LP):Prop:=∀{a b c d e f:V} {h:Hp},B a b c d e f h->J [a,b,c,d,e,f] h
theorem JV.l6(I:Nat->LP)(B:LP->QR)(s:S6 I B)(i:I m l h)(g:l.length=6)(b:lU (fM C fn tb k ks Q).c=true:=by kernel_rfl)(hk:(fM C fn tb k ks Q).ks=[]:=by kernel_rfl)
  (e:∀(K:LP) (ρ:gL) (h:Hp),VA C fn.ntmps tb (kK C fn.ntmps tb {fM C fn tb k ks Q with ks:=[kf is K]} false) ρ h=IH 6 (B K) (is.map ρ) h:=by intros;kernel_rfl) (a:is.length=6:=by rfl):JV C fn tb k is ks Q l h:=
 JV.loop 6 I B b hk e (λk l h g i=>match l,g,i with|[d,f,j,n,o,p],_,i=>s k d f j n o p h i) a (a.trans g.symm) i
theorem JV.r6(B:QR)(e:∀(ρ:gL)(h:Hp),VA C fn.ntmps tb (fM C fn tb k ks Q) ρ h=IH 6 B (is.map ρ) h:=by intros;kernel_rfl)(a:is.length=6:=by rfl):R6 B (JV C fn tb k is ks Q):=λH=>JV.mk 6 B e a H
abbrev S7(I:Nat->LP)(B:LP->RV):Prop:=∀(k:Nat) (a b c d e f g:V) (h:Hp),I k [a,b,c,d,e,f,g] h->B (BY I k) a b c d e f g h
abbrev R7(B:RV)(J:LP):Prop:=∀{a b c d e f g:V} {h:Hp},B a b c d e f g h->J [a,b,c,d,e,f,g] h
theorem JV.l7(I:Nat->LP)(B:LP->RV)(s:S7 I B)(i:I m l h)(g:l.length=7)(b:lU (fM C fn tb k ks Q).c=true:=by kernel_rfl)(hk:(fM C fn tb k ks Q).ks=[]:=by kernel_rfl)
  (e:∀(K:LP) (ρ:gL) (h:Hp),VA C fn.ntmps tb (kK C fn.ntmps tb {fM C fn tb k ks Q with ks:=[kf is K]} false) ρ h=IH 7 (B K) (is.map ρ) h:=by intros;kernel_rfl) (a:is.length=7:=by rfl):JV C fn tb k is ks Q l h:=
 JV.loop 7 I B b hk e (λk l h g i=>match l,g,i with|[d,f,j,n,o,p,q],_,i=>s k d f j n o p q h i) a (a.trans g.symm) i
theorem JV.r7(B:RV)(e:∀(ρ:gL)(h:Hp),VA C fn.ntmps tb (fM C fn tb k ks Q) ρ h=IH 7 B (is.map ρ) h:=by intros;kernel_rfl)(a:is.length=7:=by rfl):R7 B (JV C fn tb k is ks Q):=λH=>JV.mk 7 B e a H
abbrev S8(I:Nat->LP)(B:LP->MJ):Prop:=∀(k:Nat) (a b c d e f g i:V) (h:Hp),I k [a,b,c,d,e,f,g,i] h->B (BY I k) a b c d e f g i h
abbrev R8(B:MJ)(J:LP):Prop:=∀{a b c d e f g i:V} {h:Hp},B a b c d e f g i h->J [a,b,c,d,e,f,g,i] h
theorem JV.l8(I:Nat->LP)(B:LP->MJ)(s:S8 I B)(i:I m l h)(g:l.length=8)(b:lU (fM C fn tb k ks Q).c=true:=by kernel_rfl)(hk:(fM C fn tb k ks Q).ks=[]:=by kernel_rfl)
  (e:∀(K:LP) (ρ:gL) (h:Hp),VA C fn.ntmps tb (kK C fn.ntmps tb {fM C fn tb k ks Q with ks:=[kf is K]} false) ρ h=IH 8 (B K) (is.map ρ) h:=by intros;kernel_rfl) (a:is.length=8:=by rfl):JV C fn tb k is ks Q l h:=
 JV.loop 8 I B b hk e (λk l h g i=>match l,g,i with|[d,f,j,n,o,p,q,r],_,i=>s k d f j n o p q r h i) a (a.trans g.symm) i
theorem JV.r8(B:MJ)(e:∀(ρ:gL)(h:Hp),VA C fn.ntmps tb (fM C fn tb k ks Q) ρ h=IH 8 B (is.map ρ) h:=by intros;kernel_rfl)(a:is.length=8:=by rfl):R8 B (JV C fn tb k is ks Q):=λH=>JV.mk 8 B e a H
abbrev S9(I:Nat->LP)(B:LP->QP9):Prop:=∀(k:Nat) (a b c d e f g i j:V) (h:Hp),I k [a,b,c,d,e,f,g,i,j] h->B (BY I k) a b c d e f g i j h
abbrev R9(B:QP9)(J:LP):Prop:=∀{a b c d e f g i j:V} {h:Hp},B a b c d e f g i j h->J [a,b,c,d,e,f,g,i,j] h
theorem JV.l9(I:Nat->LP)(B:LP->QP9)(s:S9 I B)(i:I m l h)(g:l.length=9)(b:lU (fM C fn tb k ks Q).c=true:=by kernel_rfl)(hk:(fM C fn tb k ks Q).ks=[]:=by kernel_rfl)
  (e:∀(K:LP) (ρ:gL) (h:Hp),VA C fn.ntmps tb (kK C fn.ntmps tb {fM C fn tb k ks Q with ks:=[kf is K]} false) ρ h=IH 9 (B K) (is.map ρ) h:=by intros;kernel_rfl) (a:is.length=9:=by rfl):JV C fn tb k is ks Q l h:=
 JV.loop 9 I B b hk e (λk l h g i=>match l,g,i with|[d,f,j,n,o,p,q,r,t],_,i=>s k d f j n o p q r t h i) a (a.trans g.symm) i
theorem JV.r9(B:QP9)(e:∀(ρ:gL)(h:Hp),VA C fn.ntmps tb (fM C fn tb k ks Q) ρ h=IH 9 B (is.map ρ) h:=by intros;kernel_rfl)(a:is.length=9:=by rfl):R9 B (JV C fn tb k is ks Q):=λH=>JV.mk 9 B e a H
abbrev S10(I:Nat->LP)(B:LP->L1):Prop:=∀(k:Nat) (b c d e f g i j l a:V) (h:Hp),I k [b,c,d,e,f,g,i,j,l,a] h->B (BY I k) b c d e f g i j l a h
abbrev Ga(B:L1)(J:LP):Prop:=∀{b c d e f g i j k a:V} {h:Hp},B b c d e f g i j k a h->J [b,c,d,e,f,g,i,j,k,a] h
theorem JV.l10(I:Nat->LP)(B:LP->L1)(s:S10 I B)(i:I m l h)(g:l.length=10)(d:lU (fM C fn tb k ks Q).c=true:=by kernel_rfl)(hk:(fM C fn tb k ks Q).ks=[]:=by kernel_rfl)
  (e:∀(K:LP) (ρ:gL) (h:Hp),VA C fn.ntmps tb (kK C fn.ntmps tb {fM C fn tb k ks Q with ks:=[kf is K]} false) ρ h=IH 10 (B K) (is.map ρ) h:=by intros;kernel_rfl) (b:is.length=10:=by rfl):JV C fn tb k is ks Q l h:=
 JV.loop 10 I B d hk e (λk l h g i=>match l,g,i with|[f,j,n,o,p,q,r,t,u,a],_,i=>s k f j n o p q r t u a h i) b (b.trans g.symm) i
theorem JV.r10(B:L1)(e:∀(ρ:gL)(h:Hp),VA C fn.ntmps tb (fM C fn tb k ks Q) ρ h=IH 10 B (is.map ρ) h:=by intros;kernel_rfl)(a:is.length=10:=by rfl):Ga B (JV C fn tb k is ks Q):=λH=>JV.mk 10 B e a H
abbrev S11(I:Nat->LP)(B:LP->Gf):Prop:=∀(k:Nat) (c d e f g i j l m a b:V) (h:Hp),I k [c,d,e,f,g,i,j,l,m,a,b] h->B (BY I k) c d e f g i j l m a b h
abbrev R11(B:Gf)(J:LP):Prop:=∀{c d e f g i j k l a b:V} {h:Hp},B c d e f g i j k l a b h->J [c,d,e,f,g,i,j,k,l,a,b] h
theorem JV.l11(I:Nat->LP)(B:LP->Gf)(s:S11 I B)(i:I m l h)(g:l.length=11)(f:lU (fM C fn tb k ks Q).c=true:=by kernel_rfl)(hk:(fM C fn tb k ks Q).ks=[]:=by kernel_rfl)
  (e:∀(K:LP) (ρ:gL) (h:Hp),VA C fn.ntmps tb (kK C fn.ntmps tb {fM C fn tb k ks Q with ks:=[kf is K]} false) ρ h=IH 11 (B K) (is.map ρ) h:=by intros;kernel_rfl) (d:is.length=11:=by rfl):JV C fn tb k is ks Q l h:=
 JV.loop 11 I B f hk e (λk l h g i=>match l,g,i with|[j,n,o,p,q,r,t,u,v,a,b],_,i=>s k j n o p q r t u v a b h i) d (d.trans g.symm) i
theorem JV.r11(B:Gf)(e:∀(ρ:gL)(h:Hp),VA C fn.ntmps tb (fM C fn tb k ks Q) ρ h=IH 11 B (is.map ρ) h:=by intros;kernel_rfl)(a:is.length=11:=by rfl):R11 B (JV C fn tb k is ks Q):=λH=>JV.mk 11 B e a H
abbrev S12(I:Nat->LP)(B:LP->zbK):Prop:=∀(k:Nat) (d e f g i j l m n a b c:V) (h:Hp),I k [d,e,f,g,i,j,l,m,n,a,b,c] h->B (BY I k) d e f g i j l m n a b c h
abbrev R12(B:zbK)(J:LP):Prop:=∀{d e f g i j k l m a b c:V} {h:Hp},B d e f g i j k l m a b c h->J [d,e,f,g,i,j,k,l,m,a,b,c] h
theorem JV.l12(I:Nat->LP)(B:LP->zbK)(s:S12 I B)(i:I m l h)(g:l.length=12)(j:lU (fM C fn tb k ks Q).c=true:=by kernel_rfl)(hk:(fM C fn tb k ks Q).ks=[]:=by kernel_rfl)
  (e:∀(K:LP) (ρ:gL) (h:Hp),VA C fn.ntmps tb (kK C fn.ntmps tb {fM C fn tb k ks Q with ks:=[kf is K]} false) ρ h=IH 12 (B K) (is.map ρ) h:=by intros;kernel_rfl) (f:is.length=12:=by rfl):JV C fn tb k is ks Q l h:=
 JV.loop 12 I B j hk e (λk l h g i=>match l,g,i with|[n,o,p,q,r,t,u,v,w,a,b,d],_,i=>s k n o p q r t u v w a b d h i) f (f.trans g.symm) i
theorem JV.r12(B:zbK)(e:∀(ρ:gL)(h:Hp),VA C fn.ntmps tb (fM C fn tb k ks Q) ρ h=IH 12 B (is.map ρ) h:=by intros;kernel_rfl)(a:is.length=12:=by rfl):R12 B (JV C fn tb k is ks Q):=λH=>JV.mk 12 B e a H
abbrev S13(I:Nat->LP)(B:LP->JQ):Prop:=∀(k:Nat) (e f g i j l m n o a b c d:V) (h:Hp),I k [e,f,g,i,j,l,m,n,o,a,b,c,d] h->B (BY I k) e f g i j l m n o a b c d h
abbrev R13(B:JQ)(J:LP):Prop:=∀{e f g i j k l m n a b c d:V} {h:Hp},B e f g i j k l m n a b c d h->J [e,f,g,i,j,k,l,m,n,a,b,c,d] h
theorem JV.l13(I:Nat->LP)(B:LP->JQ)(s:S13 I B)(i:I m l h)(g:l.length=13)(n:lU (fM C fn tb k ks Q).c=true:=by kernel_rfl)(hk:(fM C fn tb k ks Q).ks=[]:=by kernel_rfl)
  (e:∀(K:LP) (ρ:gL) (h:Hp),VA C fn.ntmps tb (kK C fn.ntmps tb {fM C fn tb k ks Q with ks:=[kf is K]} false) ρ h=IH 13 (B K) (is.map ρ) h:=by intros;kernel_rfl) (j:is.length=13:=by rfl):JV C fn tb k is ks Q l h:=
 JV.loop 13 I B n hk e (λk l h g i=>match l,g,i with|[o,p,q,r,t,u,v,w,x,a,b,d,f],_,i=>s k o p q r t u v w x a b d f h i) j (j.trans g.symm) i
theorem JV.r13(B:JQ)(e:∀(ρ:gL)(h:Hp),VA C fn.ntmps tb (fM C fn tb k ks Q) ρ h=IH 13 B (is.map ρ) h:=by intros;kernel_rfl)(a:is.length=13:=by rfl):R13 B (JV C fn tb k is ks Q):=λH=>JV.mk 13 B e a H
abbrev S14(I:Nat->LP)(B:LP->zbJ):Prop:=∀(k:Nat) (f g i j l m n o p a b c d e:V) (h:Hp),I k [f,g,i,j,l,m,n,o,p,a,b,c,d,e] h->B (BY I k) f g i j l m n o p a b c d e h
abbrev R14(B:zbJ)(J:LP):Prop:=∀{f g i j k l m n o a b c d e:V} {h:Hp},B f g i j k l m n o a b c d e h->J [f,g,i,j,k,l,m,n,o,a,b,c,d,e] h
theorem JV.l14(I:Nat->LP)(B:LP->zbJ)(s:S14 I B)(i:I m l h)(g:l.length=14)(o:lU (fM C fn tb k ks Q).c=true:=by kernel_rfl)(hk:(fM C fn tb k ks Q).ks=[]:=by kernel_rfl)
  (e:∀(K:LP) (ρ:gL) (h:Hp),VA C fn.ntmps tb (kK C fn.ntmps tb {fM C fn tb k ks Q with ks:=[kf is K]} false) ρ h=IH 14 (B K) (is.map ρ) h:=by intros;kernel_rfl) (n:is.length=14:=by rfl):JV C fn tb k is ks Q l h:=
 JV.loop 14 I B o hk e (λk l h g i=>match l,g,i with|[p,q,r,t,u,v,w,x,y,a,b,d,f,j],_,i=>s k p q r t u v w x y a b d f j h i) n (n.trans g.symm) i
theorem JV.r14(B:zbJ)(e:∀(ρ:gL)(h:Hp),VA C fn.ntmps tb (fM C fn tb k ks Q) ρ h=IH 14 B (is.map ρ) h:=by intros;kernel_rfl)(a:is.length=14:=by rfl):R14 B (JV C fn tb k is ks Q):=λH=>JV.mk 14 B e a H
abbrev R15(B:zeH)(J:LP):Prop:=∀{g i j k l m n o p a b c d e f:V} {h:Hp},B g i j k l m n o p a b c d e f h->J [g,i,j,k,l,m,n,o,p,a,b,c,d,e,f] h
theorem JV.r15(B:zeH)(e:∀(ρ:gL)(h:Hp),VA C fn.ntmps tb (fM C fn tb k ks Q) ρ h=IH 15 B (is.map ρ) h:=by intros;kernel_rfl)(a:is.length=15:=by rfl):R15 B (JV C fn tb k is ks Q):=λH=>JV.mk 15 B e a H
abbrev S17(I:Nat->LP)(B:LP->zdn):Prop:=∀(k:Nat) (j l m n o p q r s a b c d e f g i:V) (h:Hp),I k [j,l,m,n,o,p,q,r,s,a,b,c,d,e,f,g,i] h->B (BY I k) j l m n o p q r s a b c d e f g i h
abbrev R17(B:zdn)(J:LP):Prop:=∀{j k l m n o p q r a b c d e f g i:V} {h:Hp},B j k l m n o p q r a b c d e f g i h->J [j,k,l,m,n,o,p,q,r,a,b,c,d,e,f,g,i] h
theorem JV.l17(I:Nat->LP)(B:LP->zdn)(s:S17 I B)(i:I m l h)(g:l.length=17)(r:lU (fM C fn tb k ks Q).c=true:=by kernel_rfl)(hk:(fM C fn tb k ks Q).ks=[]:=by kernel_rfl)
  (e:∀(K:LP) (ρ:gL) (h:Hp),VA C fn.ntmps tb (kK C fn.ntmps tb {fM C fn tb k ks Q with ks:=[kf is K]} false) ρ h=IH 17 (B K) (is.map ρ) h:=by intros;kernel_rfl) (q:is.length=17:=by rfl):JV C fn tb k is ks Q l h:=
 JV.loop 17 I B r hk e (λk l h g i=>match l,g,i with|[t,u,v,w,x,y,z,A,D,a,b,d,f,j,n,o,p],_,i=>s k t u v w x y z A D a b d f j n o p h i) q (q.trans g.symm) i
abbrev S18(I:Nat->LP)(B:LP->zdH):Prop:=∀(k:Nat) (l m n o p q r s t a b c d e f g i j:V) (h:Hp),I k [l,m,n,o,p,q,r,s,t,a,b,c,d,e,f,g,i,j] h->B (BY I k) l m n o p q r s t a b c d e f g i j h
abbrev R18(B:zdH)(J:LP):Prop:=∀{k l m n o p q r s a b c d e f g i j:V} {h:Hp},B k l m n o p q r s a b c d e f g i j h->J [k,l,m,n,o,p,q,r,s,a,b,c,d,e,f,g,i,j] h
theorem JV.l18(I:Nat->LP)(B:LP->zdH)(s:S18 I B)(i:I m l h)(g:l.length=18)(t:lU (fM C fn tb k ks Q).c=true:=by kernel_rfl)(hk:(fM C fn tb k ks Q).ks=[]:=by kernel_rfl)
  (e:∀(K:LP) (ρ:gL) (h:Hp),VA C fn.ntmps tb (kK C fn.ntmps tb {fM C fn tb k ks Q with ks:=[kf is K]} false) ρ h=IH 18 (B K) (is.map ρ) h:=by intros;kernel_rfl) (r:is.length=18:=by rfl):JV C fn tb k is ks Q l h:=
 JV.loop 18 I B t hk e (λk l h g i=>match l,g,i with|[u,v,w,x,y,z,A,D,E,a,b,d,f,j,n,o,p,q],_,i=>s k u v w x y z A D E a b d f j n o p q h i) r (r.trans g.symm) i
abbrev nZ:V:= .int .i64 0
abbrev nO:V:= .int .i64 1
abbrev nS:V:= .ee
abbrev bT:V:= .bool true
abbrev bF:V:= .bool false
abbrev zC(T:Nat)(l:List V):Option (O×(Nat->V)):=some (.cells T 1 true false l,λl=> .ptr l 0)
abbrev P2(I:Nat->QP2)(B:(QP2)->QP2):Prop:=∀(k:Nat) (a b:V) (h:Hp),I k a b h->B (λa b h=>∃k',k' < k/\I k' a b h) a b h
abbrev P3(I:Nat->SJ)(B:(SJ)->SJ):Prop:=∀(k:Nat) (a b c:V) (h:Hp),I k a b c h->B (λa b c h=>∃k',k' < k/\I k' a b c h) a b c h
theorem WA.l3{a b d:Nat}{f i j:V}(I:Nat->SJ)(B:(SJ)->SJ)(s:P3 I B)(g:I m f i j h)(l:lU (fM C fn tb k ks Q).c=true:=by kernel_rfl)(hk:(fM C fn tb k ks Q).ks=[]:=by kernel_rfl)
  (e:∀(K:SJ) (ρ:gL) (h:Hp),VA C fn.ntmps tb (kK C fn.ntmps tb {fM C fn tb k ks Q with ks:=[λρ h=>K (ρ a) (ρ b) (ρ d) h]} false) ρ h=B K (ρ a) (ρ b) (ρ d) h:=by intros;kernel_rfl):∀ρ:gL,ρ a=f->ρ b=i->ρ d=j->WA C fn tb k ks Q ρ h:=by
 rintro ρ rfl rfl rfl;exact WA.loop (λk ρ h=>I k (ρ a) (ρ b) (ρ d) h) l hk (λk ρ h hi=>LA.of (by grind) (s k (ρ a) (ρ b) (ρ d) h hi)) g
abbrev P4(I:Nat->ML)(B:(ML)->ML):Prop:=∀(k:Nat) (a b c d:V) (h:Hp),I k a b c d h->B (λa b c d h=>∃k',k' < k/\I k' a b c d h) a b c d h
theorem WA.l4{a b d f:Nat}{i j l n:V}(I:Nat->ML)(B:(ML)->ML)(s:P4 I B)(g:I m i j l n h)(o:lU (fM C fn tb k ks Q).c=true:=by kernel_rfl)(hk:(fM C fn tb k ks Q).ks=[]:=by kernel_rfl)
  (e:∀(K:ML) (ρ:gL) (h:Hp),VA C fn.ntmps tb (kK C fn.ntmps tb {fM C fn tb k ks Q with ks:=[λρ h=>K (ρ a) (ρ b) (ρ d) (ρ f) h]} false) ρ h=B K (ρ a) (ρ b) (ρ d) (ρ f) h:=by intros;kernel_rfl):∀ρ:gL,ρ a=i->ρ b=j->ρ d=l->ρ f=n->WA C fn tb k ks Q ρ h:=by
 rintro ρ rfl rfl rfl rfl;exact WA.loop (λk ρ h=>I k (ρ a) (ρ b) (ρ d) (ρ f) h) o hk (λk ρ h hi=>LA.of (by grind) (s k (ρ a) (ρ b) (ρ d) (ρ f) h hi)) g
abbrev P5(I:Nat->Kf)(B:(Kf)->Kf):Prop:=∀(k:Nat) (a b c d e:V) (h:Hp),I k a b c d e h->B (λa b c d e h=>∃k',k' < k/\I k' a b c d e h) a b c d e h
theorem WA.l5{a b d f i5:Nat}{i j l n o:V}(I:Nat->Kf)(B:(Kf)->Kf)(s:P5 I B)(g:I m i j l n o h)(p:lU (fM C fn tb k ks Q).c=true:=by kernel_rfl)(hk:(fM C fn tb k ks Q).ks=[]:=by kernel_rfl)
  (e:∀(K:Kf) (ρ:gL) (h:Hp),VA C fn.ntmps tb (kK C fn.ntmps tb {fM C fn tb k ks Q with ks:=[λρ h=>K (ρ a) (ρ b) (ρ d) (ρ f) (ρ i5) h]} false) ρ h=B K (ρ a) (ρ b) (ρ d) (ρ f) (ρ i5) h:=by intros;kernel_rfl):∀ρ:gL,ρ a=i->ρ b=j->ρ d=l->ρ f=n->ρ i5=o->WA C fn tb k ks Q ρ h:=by
 rintro ρ rfl rfl rfl rfl rfl;exact WA.loop (λk ρ h=>I k (ρ a) (ρ b) (ρ d) (ρ f) (ρ i5) h) p hk (λk ρ h hi=>LA.of (by grind) (s k (ρ a) (ρ b) (ρ d) (ρ f) (ρ i5) h hi)) g
abbrev P6(I:Nat->QR)(B:(QR)->QR):Prop:=∀(k:Nat) (a b c d e f:V) (h:Hp),I k a b c d e f h->B (λa b c d e f h=>∃k',k' < k/\I k' a b c d e f h) a b c d e f h
theorem WA.l6{a b d f i5 i6:Nat}{i j l n o p:V}(I:Nat->QR)(B:(QR)->QR)(s:P6 I B)(g:I m i j l n o p h)(q:lU (fM C fn tb k ks Q).c=true:=by kernel_rfl)(hk:(fM C fn tb k ks Q).ks=[]:=by kernel_rfl)
  (e:∀(K:QR) (ρ:gL) (h:Hp),VA C fn.ntmps tb (kK C fn.ntmps tb {fM C fn tb k ks Q with ks:=[λρ h=>K (ρ a) (ρ b) (ρ d) (ρ f) (ρ i5) (ρ i6) h]} false) ρ h=B K (ρ a) (ρ b) (ρ d) (ρ f) (ρ i5) (ρ i6) h:=by intros;kernel_rfl):∀ρ:gL,ρ a=i->ρ b=j->ρ d=l->ρ f=n->ρ i5=o->ρ i6=p->WA C fn tb k ks Q ρ h:=by
 rintro ρ rfl rfl rfl rfl rfl rfl;exact WA.loop (λk ρ h=>I k (ρ a) (ρ b) (ρ d) (ρ f) (ρ i5) (ρ i6) h) q hk (λk ρ h hi=>LA.of (by grind) (s k (ρ a) (ρ b) (ρ d) (ρ f) (ρ i5) (ρ i6) h hi)) g
abbrev P7(I:Nat->RV)(B:(RV)->RV):Prop:=∀(k:Nat) (a b c d e f g:V) (h:Hp),I k a b c d e f g h->B (λa b c d e f g h=>∃k',k' < k/\I k' a b c d e f g h) a b c d e f g h
theorem WA.l7{a b d f i5 i6 i:Nat}{j l n o p q r:V}(I:Nat->RV)(B:(RV)->RV)(s:P7 I B)(g:I m j l n o p q r h)(t:lU (fM C fn tb k ks Q).c=true:=by kernel_rfl)(hk:(fM C fn tb k ks Q).ks=[]:=by kernel_rfl)
  (e:∀(K:RV) (ρ:gL) (h:Hp),VA C fn.ntmps tb (kK C fn.ntmps tb {fM C fn tb k ks Q with ks:=[λρ h=>K (ρ a) (ρ b) (ρ d) (ρ f) (ρ i5) (ρ i6) (ρ i) h]} false) ρ h=B K (ρ a) (ρ b) (ρ d) (ρ f) (ρ i5) (ρ i6) (ρ i) h:=by intros;kernel_rfl):∀ρ:gL,ρ a=j->ρ b=l->ρ d=n->ρ f=o->ρ i5=p->ρ i6=q->ρ i=r->WA C fn tb k ks Q ρ h:=by
 rintro ρ rfl rfl rfl rfl rfl rfl rfl;exact WA.loop (λk ρ h=>I k (ρ a) (ρ b) (ρ d) (ρ f) (ρ i5) (ρ i6) (ρ i) h) t hk (λk ρ h hi=>LA.of (by grind) (s k (ρ a) (ρ b) (ρ d) (ρ f) (ρ i5) (ρ i6) (ρ i) h hi)) g
abbrev P8(I:Nat->MJ)(B:(MJ)->MJ):Prop:=∀(k:Nat) (a b c d e f g i:V) (h:Hp),I k a b c d e f g i h->B (λa b c d e f g i h=>∃k',k' < k/\I k' a b c d e f g i h) a b c d e f g i h
theorem WA.l8{a b d f i5 i6 i j:Nat}{l n o p q r t u:V}(I:Nat->MJ)(B:(MJ)->MJ)(s:P8 I B)(g:I m l n o p q r t u h)(v:lU (fM C fn tb k ks Q).c=true:=by kernel_rfl)(hk:(fM C fn tb k ks Q).ks=[]:=by kernel_rfl)
  (e:∀(K:MJ) (ρ:gL) (h:Hp),VA C fn.ntmps tb (kK C fn.ntmps tb {fM C fn tb k ks Q with ks:=[λρ h=>K (ρ a) (ρ b) (ρ d) (ρ f) (ρ i5) (ρ i6) (ρ i) (ρ j) h]} false) ρ h=B K (ρ a) (ρ b) (ρ d) (ρ f) (ρ i5) (ρ i6) (ρ i) (ρ j) h:=by intros;kernel_rfl):∀ρ:gL,ρ a=l->ρ b=n->ρ d=o->ρ f=p->ρ i5=q->ρ i6=r->ρ i=t->ρ j=u->WA C fn tb k ks Q ρ h:=by
 rintro ρ rfl rfl rfl rfl rfl rfl rfl rfl;exact WA.loop (λk ρ h=>I k (ρ a) (ρ b) (ρ d) (ρ f) (ρ i5) (ρ i6) (ρ i) (ρ j) h) v hk (λk ρ h hi=>LA.of (by grind) (s k (ρ a) (ρ b) (ρ d) (ρ f) (ρ i5) (ρ i6) (ρ i) (ρ j) h hi)) g
abbrev P10(I:Nat->L1)(B:(L1)->L1):Prop:=∀(k:Nat) (b c d e f g i j l a:V) (h:Hp),I k b c d e f g i j l a h->B (λb c d e f g i j l a h=>∃k',k' < k/\I k' b c d e f g i j l a h) b c d e f g i j l a h
theorem WA.l10{b d f i i5 i6 j l n a:Nat}{p q r t u v w x y o:V}(I:Nat->L1)(B:(L1)->L1)(s:P10 I B)(g:I m p q r t u v w x y o h)(z:lU (fM C fn tb k ks Q).c=true:=by kernel_rfl)(hk:(fM C fn tb k ks Q).ks=[]:=by kernel_rfl)
  (e:∀(K:L1) (ρ:gL) (h:Hp),VA C fn.ntmps tb (kK C fn.ntmps tb {fM C fn tb k ks Q with ks:=[λρ h=>K (ρ b) (ρ d) (ρ f) (ρ i) (ρ i5) (ρ i6) (ρ j) (ρ l) (ρ n) (ρ a) h]} false) ρ h=B K (ρ b) (ρ d) (ρ f) (ρ i) (ρ i5) (ρ i6) (ρ j) (ρ l) (ρ n) (ρ a) h:=by intros;kernel_rfl):∀ρ:gL,ρ b=p->ρ d=q->ρ f=r->ρ i=t->ρ i5=u->ρ i6=v->ρ j=w->ρ l=x->ρ n=y->ρ a=o->WA C fn tb k ks Q ρ h:=by
 rintro ρ rfl rfl rfl rfl rfl rfl rfl rfl rfl rfl;exact WA.loop (λk ρ h=>I k (ρ b) (ρ d) (ρ f) (ρ i) (ρ i5) (ρ i6) (ρ j) (ρ l) (ρ n) (ρ a) h) z hk (λk ρ h hi=>LA.of (by grind) (s k (ρ b) (ρ d) (ρ f) (ρ i) (ρ i5) (ρ i6) (ρ j) (ρ l) (ρ n) (ρ a) h hi)) g
abbrev P11(I:Nat->Gf)(B:(Gf)->Gf):Prop:=∀(k:Nat) (c d e f g i j l m a b:V) (h:Hp),I k c d e f g i j l m a b h->B (λc d e f g i j l m a b h=>∃k',k' < k/\I k' c d e f g i j l m a b h) c d e f g i j l m a b h
theorem WA.l11{d f i j i5 i6 l n o a b:Nat}{r t u v w x y z A p q:V}(I:Nat->Gf)(B:(Gf)->Gf)(s:P11 I B)(g:I m r t u v w x y z A p q h)(D:lU (fM C fn tb k ks Q).c=true:=by kernel_rfl)(hk:(fM C fn tb k ks Q).ks=[]:=by kernel_rfl)
  (e:∀(K:Gf) (ρ:gL) (h:Hp),VA C fn.ntmps tb (kK C fn.ntmps tb {fM C fn tb k ks Q with ks:=[λρ h=>K (ρ d) (ρ f) (ρ i) (ρ j) (ρ i5) (ρ i6) (ρ l) (ρ n) (ρ o) (ρ a) (ρ b) h]} false) ρ h=B K (ρ d) (ρ f) (ρ i) (ρ j) (ρ i5) (ρ i6) (ρ l) (ρ n) (ρ o) (ρ a) (ρ b) h:=by intros;kernel_rfl):∀ρ:gL,ρ d=r->ρ f=t->ρ i=u->ρ j=v->ρ i5=w->ρ i6=x->ρ l=y->ρ n=z->ρ o=A->ρ a=p->ρ b=q->WA C fn tb k ks Q ρ h:=by
 rintro ρ rfl rfl rfl rfl rfl rfl rfl rfl rfl rfl rfl;exact WA.loop (λk ρ h=>I k (ρ d) (ρ f) (ρ i) (ρ j) (ρ i5) (ρ i6) (ρ l) (ρ n) (ρ o) (ρ a) (ρ b) h) D hk (λk ρ h hi=>LA.of (by grind) (s k (ρ d) (ρ f) (ρ i) (ρ j) (ρ i5) (ρ i6) (ρ l) (ρ n) (ρ o) (ρ a) (ρ b) h hi)) g
abbrev P13(I:Nat->JQ)(B:(JQ)->JQ):Prop:=∀(k:Nat) (e f g i j l m n o a b c d:V) (h:Hp),I k e f g i j l m n o a b c d h->B (λe f g i j l m n o a b c d h=>∃k',k' < k/\I k' e f g i j l m n o a b c d h) e f g i j l m n o a b c d h
theorem WA.l13{i j l n i5 i6 o p q a b d f:Nat}{w x y z A D E F G r t u v:V}(I:Nat->JQ)(B:(JQ)->JQ)(s:P13 I B)(g:I m w x y z A D E F G r t u v h)(H:lU (fM C fn tb k ks Q).c=true:=by kernel_rfl)(hk:(fM C fn tb k ks Q).ks=[]:=by kernel_rfl)
  (e:∀(K:JQ) (ρ:gL) (h:Hp),VA C fn.ntmps tb (kK C fn.ntmps tb {fM C fn tb k ks Q with ks:=[λρ h=>K (ρ i) (ρ j) (ρ l) (ρ n) (ρ i5) (ρ i6) (ρ o) (ρ p) (ρ q) (ρ a) (ρ b) (ρ d) (ρ f) h]} false) ρ h=B K (ρ i) (ρ j) (ρ l) (ρ n) (ρ i5) (ρ i6) (ρ o) (ρ p) (ρ q) (ρ a) (ρ b) (ρ d) (ρ f) h:=by intros;kernel_rfl):∀ρ:gL,ρ i=w->ρ j=x->ρ l=y->ρ n=z->ρ i5=A->ρ i6=D->ρ o=E->ρ p=F->ρ q=G->ρ a=r->ρ b=t->ρ d=u->ρ f=v->WA C fn tb k ks Q ρ h:=by
 rintro ρ rfl rfl rfl rfl rfl rfl rfl rfl rfl rfl rfl rfl rfl;exact WA.loop (λk ρ h=>I k (ρ i) (ρ j) (ρ l) (ρ n) (ρ i5) (ρ i6) (ρ o) (ρ p) (ρ q) (ρ a) (ρ b) (ρ d) (ρ f) h) H hk (λk ρ h hi=>LA.of (by grind) (s k (ρ i) (ρ j) (ρ l) (ρ n) (ρ i5) (ρ i6) (ρ o) (ρ p) (ρ q) (ρ a) (ρ b) (ρ d) (ρ f) h hi)) g
end
