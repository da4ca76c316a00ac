/- Parts. -/
import Derived.Test.YtloecllhljfidaaGreatDoorM09
set_option maxHeartbeats 4000000
namespace Go.Proofs.YtloecllhljfidaaGreatDoor.Hx
variable{all:List Oper}{tb:List (Nat×List Nat)}{n:Nat}{ks:List (iE->Hp->Prop)}{Q:V->Hp->Prop}{o:Oper}{k:Nat}{w:Bool}{d:Nat}{av:List Nat}{fn:Func}{d':Nat}{P:Prop}
abbrev XQ:=X->iE->Hp->Prop
abbrev fq:=V->Hp->Prop
abbrev QP2:=V->V->Hp->Prop
abbrev QP3:=V->V->V->Hp->Prop
abbrev UF:=V->V->V->V->Hp->Prop
abbrev RQ:=V->V->V->V->V->Hp->Prop
abbrev QP6:=V->V->V->V->V->V->Hp->Prop
abbrev QP7:=V->V->V->V->V->V->V->Hp->Prop
abbrev WW:=V->V->V->V->V->V->V->V->Hp->Prop
abbrev QP9:=V->V->V->V->V->V->V->V->V->Hp->Prop
abbrev Zf:=V->V->V->V->V->V->V->V->V->V->Hp->Prop
abbrev SL:=V->V->V->V->V->V->V->V->V->V->V->Hp->Prop
abbrev Xx:=V->V->V->V->V->V->V->V->V->V->V->V->V->Hp->Prop
def isVal(o:Oper):Bool:=match o.op with
 | .move x| .assign x=>TB x
 | .makeFunc _ _ _=>true
 |_=>false
theorem XO (h:isVal o=true):cls o=0:=by
 grind[isVal,cls]
def opV(C:kW) (o:Oper) (K:V->iE->Hp->Prop):iE->Hp->Prop:=match isVal o with
 |true=>λρ h=>Option.rec (motive:=λ_=>Prop) False (λv=>K v ρ h) ((iJ o).f (.fn ρ []) h)
 |false=>Sk C o K
theorem zd1(C:kW) (o:Oper) (K:V->iE->Hp->Prop):opV C o K=Sk C o K:=by
 unfold opV
 cases hv:isVal o with
 |false=>rfl
 | true=>
   unfold Sk;rw[XO hv];rfl
def WC(C:kW) (n:Nat) (all:List Oper) (o:Oper) (K:iE->Hp->Prop):iE->Hp->Prop:=match kR n all o with
 |none=>opV C o (qa n o K)
 |some g=>λρ h=>oP (g.f (.fn ρ [])) λb=>gdR C o b (qa n o K) ρ h
noncomputable section
inductive Gs where
 |last (o:Oper) (d:Nat)
 |op (o:Oper) (d:Nat) (a:Gs)
 |nest (w:Bool) (d:Nat) (sub:Gs) (o:Oper) (b:Nat) (a:Gs)
 |GL (w:Bool) (d:Nat) (sub:Gs) (o:Oper) (b:Nat)
def Gs.dst:Gs->Nat
 | .last _ d=>d
 | .op _ _ r=>r.dst
 | .nest _ _ _ _ _ r=>r.dst
 | .GL _ _ _ _ a=>a
def Gs.ops:Gs->List Oper
 | .last o _=>[o]
 | .op o _ r=>o::r.ops
 | .nest _ _ s o _ r=>s.ops++o::r.ops
 | .GL _ _ s o _=>s.ops++[o]
def gA(w:Bool) (c:V) (x:Option V):Option V:=match w with
 |true=>jI c x
 |false=>nY c x
def RZ(b:Bool)(x:Option V):V:=Bool.rec (motive:=λ_=>V) V.undef (Option.rec (motive:=λ_=>V) V.undef (λv=>v) x) b
def Qh(w:Bool)(v:V):Bool:=Option.rec (motive:=λ_=>Bool) false (λb=>b) (fH w v)
noncomputable def Bz(g:Gs):Bool->iE->Hp->iE:=Gs.rec (motive:=λ_=>Bool->iE->Hp->iE) (λo d b ρ h=>fx ρ d (RZ b ((iJ o).f (.fn ρ []) h))) (λo d _ c b ρ h=>c b (fx ρ d (RZ b ((iJ o).f (.fn ρ []) h))) h) (λw d _ o e _ a c b ρ h=>c b (fx (a (Qh w (ρ d)) ρ h) e (RZ b ((iJ o).f (.fn (a (Qh w (ρ d)) ρ h) []) h))) h) (λw d _ o e a b ρ h=>fx (a (Qh w (ρ d)) ρ h) e (RZ b ((iJ o).f (.fn (a (Qh w (ρ d)) ρ h) []) h))) g
noncomputable def gE(g:Gs):iE->Hp->Option V:=Gs.rec (motive:=λ_=>iE->Hp->Option V) (λo _ ρ h=>(iJ o).f (.fn ρ []) h) (λo d _ b ρ h=>oB ((iJ o).f (.fn ρ []) h) λv=>b (fx ρ d v) h) (λw d sub _ c _ a b ρ h=>oB (gA w (ρ d) (a ρ h)) λv=>b (fx (Bz sub (Qh w (ρ d)) ρ h) c v) h) (λw d _ _ _ a ρ h=>gA w (ρ d) (a ρ h)) g
def SA(x:Operand) (d:Nat):Bool:=match x with
 | .tmp i=>Nat.beq i d
 |_=>false
def zb2(x:Operand) (b:Bool):Bool:=match x with
 | .const v=>match mL 8 v with
   |some (.bool c)=>c == b
   |_=>false
 |_=>false
def TW(o:Oper) (w:Bool) (d x:Nat):Bool:=match o.op with
 | .pick c a b=>SA c d&&(match w with
   |true=>SA a x&&zb2 b false
   |false=>SA b x&&zb2 a true)
 |_=>false
def dOk(n:Nat) (o:Oper) (d:Nat):Bool:=match o.dst with
 |some d'=>Nat.beq d' d&&Nat.blt d n
 |none=>false
def zan(n:Nat) (all:List Oper) (o:Oper) (w:Bool) (d:Nat):Bool:=match o.guard with
 | some (j,w')=>(w' == w)&&(match all[j]? with
   |some a=>dOk n a d
   |none=>false)
 |none=>false
def Rm(n:Nat)(all:List Oper)(av:List Nat)(w:Bool)(d:Nat)(o:Oper)(d':Nat):Bool:=Nat.beq (cls o) 0&&zan n all o w d&&dOk n o d'&&av.all (λi=>!(Nat.beq i d'))
def YL(n:Nat) (all:List Oper):List Nat->Bool->Nat->List Nat->Gs->Bool
 |av,w,d,_,.last o d'=>Rm n all av w d o d'
 |av,w,d,ins,.op o d' r=>Rm n all av w d o d'&&YL n all av w d (d'::ins) r
 |av,w,d,ins,.nest w' d' s o a r=>ins.any (λi=>Nat.beq i d')&&YL n all (d'::av) w' d' [] s&&Rm n all av w d o a&&TW o w' d' s.dst&&YL n all av w d (a::ins) r
 |av,w,d,ins, .GL w' d' s o a=>ins.any (λi=>Nat.beq i d')&&YL n all (d'::av) w' d' [] s&&Rm n all av w d o a&&TW o w' d' s.dst
def Ch(n:Nat) (all:List Oper) (h:Hp):List Oper->iE->iE->Prop
 |[],ρ,ρ'=>ρ' = ρ
 | o::os,ρ,ρ'=>cls o=0/\∃d v,o.dst=some d/\Nat.blt d n=true/\((kR n all o=none/\(iJ o).f (.fn ρ []) h=some v)\/
   ∃g b,kR n all o=some g/\g.f (.fn ρ [])=some b/\gV b ((iJ o).f (.fn ρ []) h)=some v)/\Ch n all h os (fx ρ d v) ρ'
theorem Ch.app  {h:Hp}:∀{os a:List Oper} {ρ e f:iE},Ch n all h os ρ e->Ch n all h a e f->Ch n all h (os++a) ρ f
 |[],_,_,_,_,b,c=>by cases b;exact c
 |_::_,_,_,_,_,⟨hc,d,v,b,c,g,i⟩,j=>⟨hc,d,v,b,c,g,i.app j⟩
theorem Nh(ρ:iE)(d:Nat)(v:V):fx ρ d v d=v:=XK ρ d v
theorem Zo     (a:zan n all o w d=true):∃g,kR n all o=some g/\∀ρ:iE,g.f (.fn ρ [])=fH w (ρ d):=by
 unfold zan at a;split at a
 ·rename_i j w' b;simp only[vU,Bg]at a;obtain⟨e,a⟩:=a;subst e;split at a
  ·rename_i l h;unfold dOk at a;split at a
   ·rename_i d' i;simp only[vU]at a;obtain⟨c,k⟩:=a;have c:=Iw c;subst c;refine⟨_,by simp only[kR,b,h,i,k];rfl,λρ=>rfl⟩
   simp_all
  simp_all
 simp_all
theorem We       (hk:Rm n all av w d o d' = true) :
  cls o=0/\(∃g,kR n all o=some g/\∀ρ:iE,g.f (.fn ρ [])=fH w (ρ d))/\o.dst=some d'/\Nat.blt d' n=true/\∀i∈av,i≠d':=by
 unfold Rm at hk;simp only[vU]at hk;obtain⟨⟨⟨b,c⟩,a⟩,h⟩:=hk;refine⟨Iw b,Zo c,?_⟩;unfold dOk at a;split at a
 ·rename_i e j;simp only[vU]at a
  grind[Iw,Sj,YH,absurd]
 simp_all
theorem OQ{x:Operand}  (h:SA x d=true):x = .tmp d:=by
 unfold SA at h
 grind[Iw,absurd]
theorem Xm{x:Operand} {b:Bool} (hx:zb2 x b=true) (t:Tm) (h:Hp):(Ab x).f t h=some (.bool b):=by
 unfold zb2 at hx;split at hx
 ·rename_i v;split at hx
  ·rename_i c hc;have e:c=b:=by simpa using hx
   subst e;show(Pg (.const v)).f t=_
   grind[Pg]
  simp_all
 simp_all
theorem WM  {x:Nat} (hp:TW o w d x=true) {ρ:iE} {h:Hp} {c:Bool} (hc:ρ d = .bool c):(iJ o).f (.fn ρ []) h=some (match w,c with
  |true,true=>ρ x
  |true,false=> .bool false
  |false,false=>ρ x
  |false,true=> .bool true)/\cls o=0:=by
 unfold TW at hp;split at hp
 ·rename_i c' a b g;simp only[vU]at hp;obtain⟨j,e⟩:=hp;have k:=OQ j;subst k;refine⟨?_,by grind[cls]⟩;have l:(Ab (.tmp d)).f (.fn ρ []) h=some (.bool c):=by show some (ρ d)=_;rw[hc]
  unfold iJ;rw[g];simp only[MH,l,oB]
  cases w with
  | true=>
    simp only[vU]at e;have i:=OQ e.1;subst i
    cases c with
    |true=>rfl
    |false=>grind[Xm]
  | false=>
    simp only[vU]at e;have i:=OQ e.1;subst i
    cases c with
    |true=>grind[Xm]
    |false=>rfl
 simp_all
theorem Wi {c:V} {x:Option V} {v:V} (a:gA w c x=some v):∃b,c = .bool b/\fH w c=some (b == w)/\((b=w/\x=some v)\/(b≠w/\v = .bool (!w))):=by
 unfold gA at a
 cases w with
 | true=>
   simp only[jI]at a;split at a
   ·cases a;simp_all
   ·simp_all
   ·cases a
 | false=>
   simp only[nY]at a;split at a
   ·cases a;simp_all
   ·simp_all
   ·cases a
theorem Ue(ρ:iE){d i:Nat}(v:V)(h:i≠d):fx ρ d v i=ρ i:=za1 ρ v h
theorem Ch.one       (hk:Rm n all av w d o d' = true) {ρ:iE} {h:Hp} {b:Bool} (hb:fH w (ρ d)=some b) {v:V}
  (hv:gV b ((iJ o).f (.fn ρ []) h)=some v):Ch n all h [o] ρ (fx ρ d' v):=by
 obtain⟨a,⟨g,i,j⟩,c,e,k⟩:=We hk;exact⟨a,d',v,c,e,by grind,rfl⟩
theorem Np{b:Bool} {x:Option V} {v:V} (h:gV b x=some v):RZ b x=v:=by
 cases b with
 |true=>have h':x=some v:=h;subst h';rfl
 |false=>cases h;rfl
def Uu(n:Nat) (all:List Oper) (av:List Nat) (os:List Oper) (b:Bool) (ρ a:iE) (h:Hp) (d:Nat) (x:V):Prop:=Ch n all h os ρ a/\a d=x/\(∀i∈av,a i=ρ i)/\(b=false->∀i,ρ i = .undef->a i = .undef)
theorem Uu.one       (hk:Rm n all av w d o d' = true) {ρ:iE} {h:Hp} {b:Bool} (hb:fH w (ρ d)=some b) {v:V}
  (hv:gV b ((iJ o).f (.fn ρ []) h)=some v):Uu n all av [o] b ρ (fx ρ d' v) h d' v:=by
 obtain⟨_,_,_,_,a⟩:=We hk;refine⟨Ch.one hk hb hv,Nh _ _ _,by grind[Ue],λe i hi=>?_⟩;subst e;cases hv
 grind[Nh,Ue]
theorem Uu.trans   {os a:List Oper} {b:Bool} {ρ g j:iE} {h:Hp}  {x k:V} (f:Uu n all av os b ρ g h d x) (c:Uu n all av a b g j h d' k):Uu n all av (os++a) b ρ j h d' k:=
 ⟨f.1.app c.1,c.2.1,λi hi=>(c.2.2.1 i hi).trans (f.2.2.1 i hi),λe i hi=>c.2.2.2 e i (f.2.2.2 e i hi)⟩
theorem Yj :∀(g:Gs) {av:List Nat} {w:Bool} {d:Nat} {k:List Nat},YL n all av w d k g=true->d∈av->∀{ρ:iE} {h:Hp} {b:Bool},fH w (ρ d)=some b->
  (b=false->∀i∈k,ρ i = .undef)->∀{x:V},gV b (gE g ρ h)=some x->Uu n all av g.ops b ρ (Bz g b ρ h) h g.dst x:=by
 have nest:∀(s:Gs),(∀{av:List Nat} {w:Bool} {d:Nat} {k:List Nat},YL n all av w d k s=true->d∈av->∀{ρ:iE} {h:Hp} {b:Bool},fH w (ρ d)=some b->
    (b=false->∀i∈k,ρ i = .undef)->∀{x:V},gV b (gE s ρ h)=some x->Uu n all av s.ops b ρ (Bz s b ρ h) h s.dst x)->
   ∀{av:List Nat} {w w':Bool} {d d' p:Nat} {k:List Nat} {o:Oper},k.any (λi=>Nat.beq i d')=true->YL n all (d'::av) w' d' [] s=true->Rm n all av w d o p=true->TW o w' d' s.dst=true->d∈av->
   ∀{ρ:iE} {h:Hp} {b:Bool},fH w (ρ d)=some b->(b=false->∀i∈k,ρ i = .undef)->∀{v:V},gV b (gA w' (ρ d') (gE s ρ h))=some v->
   gV b ((iJ o).f (.fn (Bz s (Qh w' (ρ d')) ρ h) []) h)=some v/\Uu n all av (s.ops++[o]) b ρ (fx (Bz s (Qh w' (ρ d')) ρ h) p v) h p v:=by
  intro s B av w w' d d' p k o G hc R hp m ρ h b hb hi v hv;obtain⟨i,W,H⟩:=List.any_eq_true.1 G;have e:=Iw H;subst e
  cases b with
  | true=>
    obtain⟨c,I,C,S⟩:=Wi (show gA w' (ρ i) (gE s ρ h)=some v from hv);have J:Qh w' (ρ i)=(c == w'):=by unfold Qh;rw[C]
    rw[J];obtain⟨y,X⟩:∃y,gV (c == w') (gE s ρ h)=some y/\(c=w'->y=v):=by
      rcases S with⟨D,K⟩|⟨D,K⟩
      ·simp_all
      ·have:(c == w')=false:=by simp[D]
       rw[this];simp_all
    obtain⟨L,T,M,Y⟩:=B hc (wBN ..) C (by simp_all) X.1;have N:Bz s (c == w') ρ h i = .bool c:=by rw[M i (wBN ..)];exact I
    have O:=(WM hp (h:=h) N).1;have q:(iJ o).f (.fn (Bz s (c == w') ρ h) []) h=some v:=by
      rw[O,T];rcases S with⟨D,K⟩|⟨D,K⟩
      ·grind
      ·grind
    refine⟨q,?_⟩;have a:=Uu.one R (ρ:=Bz s (c == w') ρ h) (h:=h) (b:=true) (by simp_all) (v:=v) q
    refine⟨L.app a.1,a.2.1,λj E=>(a.2.2.1 j E).trans (by simp_all),by simp_all⟩
  | false=>
    have I:ρ i = .undef:=by simp_all
    have C:fH w' (ρ i)=some false:=by rw[I];rfl
    have J:Qh w' (ρ i)=false:=by unfold Qh;rw[C]
    rw[J];cases hv;obtain⟨L,T,M,Y⟩:=B hc (wBN ..) C (by simp_all) (x:= .undef) rfl;refine⟨rfl,?_⟩;have a:=Uu.one R (ρ:=Bz s false ρ h) (h:=h) (b:=false) (by rw[M d (wBT _ m)];exact hb) (v:= .undef) rfl;exact⟨L.app a.1,a.2.1,λj E=>(a.2.2.1 j E).trans (by simp_all),λe j E=>a.2.2.2 e j (by simp_all)⟩
 intro g
 induction g with
 | last o d'=>
   intro av w d k hk m ρ h b hb hi x hx;have l:gV b ((iJ o).f (.fn ρ []) h)=some x:=hx;show Uu n all av [o] b ρ (fx ρ d' (RZ b ((iJ o).f (.fn ρ []) h))) h d' x;rw[Np l]
   exact Uu.one hk hb l
 | op o d' r B=>
   intro av w d k hk m ρ h b hb hi x hx;simp only[YL,vU]at hk;obtain⟨v,hv,l⟩:∃v,gV b ((iJ o).f (.fn ρ []) h)=some v/\gV b (gE r (fx ρ d' v) h)=some x:=by
     cases b with
     | true=>
       obtain⟨v,t,u⟩:=fR.1 (show oB ((iJ o).f (.fn ρ []) h) _=some x from hx)
       exact⟨v,t,u⟩
     |false=>simp_all
   have a:=Uu.one hk.1 hb hv;show Uu n all av ([o]++r.ops) b ρ (Bz r b (fx ρ d' (RZ b ((iJ o).f (.fn ρ []) h))) h) h r.dst x;rw[Np hv];refine a.trans (B hk.2 m (by rw[a.2.2.1 d m];exact hb) ?_ l);intro e i z;rcases Ki.1 z with e'|e'
   ·simp_all[Nh]
   ·exact a.2.2.2 e i (by simp_all)
 | nest w' d' s o p r A B=>
   intro av w d k hk m ρ h b hb hi x hx;simp only[YL,vU]at hk;obtain⟨⟨⟨⟨t,u⟩,P⟩,Q⟩,Z⟩:=hk;obtain⟨v,hv,l⟩:∃v,gV b (gA w' (ρ d') (gE s ρ h))=some v/\gV b (gE r (fx (Bz s (Qh w' (ρ d')) ρ h) p v) h)=some x:=by
     cases b with
     | true=>
       obtain⟨v,t,u⟩:=fR.1 (show oB (gA w' (ρ d') (gE s ρ h)) _=some x from hx)
       exact⟨v,t,u⟩
     |false=>simp_all
   obtain⟨U,F⟩:=nest s A t u P Q m hb hi hv;show Uu n all av (s.ops++([o]++r.ops)) b ρ (Bz r b (fx (Bz s (Qh w' (ρ d')) ρ h) p (RZ b ((iJ o).f (.fn (Bz s (Qh w' (ρ d')) ρ h) []) h))) h) h r.dst x;rw[Np U,<-Pr];refine F.trans (B Z m (by rw[F.2.2.1 d m];exact hb) ?_ l);intro e i z;rcases Ki.1 z with e'|e'
   ·simp_all[Nh]
   ·exact F.2.2.2 e i (by simp_all)
 | GL w' d' s o p A=>
   intro av w d k hk m ρ h b hb hi x hx;simp only[YL,vU]at hk;obtain⟨⟨⟨t,u⟩,P⟩,Q⟩:=hk;obtain⟨U,F⟩:=nest s A t u P Q m hb hi (show gV b (gA w' (ρ d') (gE s ρ h))=some x from hx);show Uu n all av (s.ops++[o]) b ρ (fx (Bz s (Qh w' (ρ d')) ρ h) p (RZ b ((iJ o).f (.fn (Bz s (Qh w' (ρ d')) ρ h) []) h))) h p x
   grind[Np]
inductive VX where
 |op (o:Oper) (d:Nat)
 |nest (w:Bool) (d:Nat) (sub:Gs) (o:Oper) (a:Nat)
def VX.dst:VX->Nat
 | .op _ d=>d
 | .nest _ _ _ _ a=>a
def VX.ops:VX->List Oper
 | .op o _=>[o]
 | .nest _ _ s o _=>s.ops++[o]
def VX.one:VX->Gs
 | .op o d=> .last o d
 | .nest w d s o a=> .GL w d s o a
def VX.cons(r:Gs):VX->Gs
 | .op o d=> .op o d r
 | .nest w d s o a=> .nest w d s o a r
def zgx(all:List Oper) (o:Oper):Option (Bool×Nat):=match o.guard with
 | some (j,w)=>match all[j]? with
   | some a=>match a.dst with
     |some d=>some (w,d)
     |none=>none
   |none=>none
 |none=>none
def Ra(n : Nat) (all:List Oper) (gpV:Bool->Nat->List Nat->List Oper->Option (Gs×List Oper)) (w:Bool) (d:Nat) (a:List Nat) (os:List Oper):Option (VX×List Oper):=match os with
  |[]=>none
  | o ::os'=>match zan n all o w d&&Nat.beq (cls o) 0,o.dst with
    |true,some d'=>some (.op o d',os')
    | _,_ => match zgx all o with
      |none=>none
      | some (w',d')=>match a.any (λi=>Nat.beq i d')with
        |false=>none
        | true=>match gpV w' d' [] (o::os')with
          | some (s,p::os'')=>match zan n all p w d&&TW p w' d' s.dst,p.dst with
            |true,some dp=>some (.nest w' d' s p dp,os'')
            |_,_=>none
          |_=>none
noncomputable def gpV(n:Nat) (all:List Oper) (fuel:Nat):Bool->Nat->List Nat->List Oper->Option (Gs×List Oper):=
 Nat.rec (motive:=λ_=>Bool->Nat->List Nat->List Oper->Option (Gs×List Oper)) (λ_ _ _ _=>none) (λ_ b w d a os=>match Ra n all b w d a os with
  |none=>none
  | some (it,os')=>match b w d (it.dst::a) os' with
    |some (g,r)=>some (it.cons g,r)
    |none=>some (it.one,os')) fuel
theorem VF  {gpV:Bool->Nat->List Nat->List Oper->Option (Gs×List Oper)} (b:∀w d a os g r,gpV w d a os=some (g,r)->os=g.ops++r) {w:Bool} {d:Nat} {a:List Nat} {os:List Oper} {it:VX} {r:List Oper}
  (h:Ra n all gpV w d a os=some (it,r)):os=it.ops++r:=by
 unfold Ra at h;split at h
 ·cases h
 ·split at h
  ·cases h;rfl
  ·split at h
   ·cases h
   grind[VX.ops,Pr]
theorem Si :∀(fuel:Nat) (w:Bool) (d:Nat) (a:List Nat) (os:List Oper) (g:Gs) (r:List Oper),gpV n all fuel w d a os=some (g,r)->os=g.ops++r
 |0,_,_,_,_,_,_,h=>by cases h
 | fuel+1,w,d,a,os,g,r,h=>by
   have h':(match Ra n all (gpV n all fuel) w d a os with
     |none=>none
     | some (it,b)=>match gpV n all fuel w d (it.dst::a) b with
       |some (g,r)=>some (it.cons g,r)
       |none=>some (it.one,b))=some (g,r):=h
   split at h'
   ·cases h'
   ·rename_i it b c
    have f:=VF (λw d a os g r e=>Si fuel w d a os g r e) c;split at h'
    ·rename_i j r' e
     cases h';have i:=Si fuel _ _ _ _ _ _ e;rw[f,i];cases it <;> simp[VX.ops,VX.cons,Gs.ops]
    ·cases h'
     rw[f];cases it <;> simp[VX.ops,VX.one,Gs.ops]
noncomputable def Zs(n:Nat) (all:List Oper) (os:List Oper):Option (Bool×Nat×Gs×Nat):=match os with
 |[]=>none
 | o ::_ => match o.guard with
   |none=>none
   | some (j,w)=>match all[j]? with
     |none=>none
     | some a=>match a.guard,a.dst,Nat.beq (cls o) 0 with
       | none,some d,true=>match gpV n all 60 w d [] os with
         | some (g,p::_)=>match p.guard,p.dst with
           | none,some dp=>match TW p w d g.dst&&Nat.blt dp n&&YL n all [d] w d [] g with
             |true=>some (w,d,g,dp)
             |false=>none
           |_,_=>none
         |_=>none
       |_,_,_=>none
theorem zbq {os:List Oper}   {g:Gs} {a:Nat} (h:Zs n all os=some (w,d,g,a)):∃p r,os=g.ops++p::r/\p.guard=none/\p.dst=some a/\TW p w d g.dst=true/\Nat.blt a n=true/\YL n all [d] w d [] g=true:=by
 unfold Zs at h;split at h
 ·cases h
 ·split at h
  ·cases h
  ·split at h
   ·cases h
   ·split at h
    ·split at h
     ·rename_i c;split at h
      ·rename_i e f;split at h
       ·rename_i b;cases h;simp only[vU]at b
        grind[Si]
       ·cases h
      ·cases h
     ·cases h
    ·cases h
theorem HV  {K a:iE->Hp->Prop} (b:∀ρ h,K ρ h->a ρ h) {v:V} {ρ:iE} {h:Hp} (hk:qa n o K v ρ h):qa n o a v ρ h:=by
 grind[qa,Nat.blt]
theorem qV{α:Type}{x:Option α}{k k':α->Prop}(h:oP x k)(f:∀a,k a->k' a):oP x k':=by grind[oM]
theorem YP{C:kW}  {K b:V->iE->Hp->Prop} (d:∀v ρ h,K v ρ h->b v ρ h) {ρ:iE} {h:Hp} (hk:Sk C o K ρ h):Sk C o b ρ h:=by
 unfold Sk at hk⊢;generalize cls o=c at hk⊢;rcases c with _|_|c
 ·grind[qV]
 ·grind[qV]
 ·show Su C o b ρ h;have a:Su C o K ρ h:=hk;unfold Su at a⊢;cases hi:zE o
  all_goals rw[hi]at a
  ·grind[qV]
  ·exact qV a λx H=>H.mono (by simp_all)
theorem ZV{C:kW}  {b:Bool} {K a:V->iE->Hp->Prop} (d:∀v ρ h,K v ρ h->a v ρ h) {ρ:iE} {h:Hp} (hk:gdR C o b K ρ h):gdR C o b a ρ h:=by
 unfold gdR at hk⊢;generalize cls o=c at hk⊢;rcases c with _|_|c
 ·grind[qV]
 ·grind[qV]
 ·simp only at hk⊢;cases hi:zE o
  all_goals rw[hi]at hk
  ·grind[qV]
  ·refine qV hk λx H=>?_
   cases x with
   |none=>simp_all
   |some y=>exact cP.mono H (by simp_all)
theorem U5{C:kW}    {K a:iE->Hp->Prop} (b:∀ρ h,K ρ h->a ρ h) {ρ:iE} {h:Hp} (hk:A9 C n all o K ρ h):A9 C n all o a ρ h:=by
 unfold A9 at hk⊢
 cases hw:kR n all o with
 |none=>rw[hw]at hk;grind[YP,HV]
 |some g=>grind[qV,ZV,HV]
theorem Y6(C:kW) (n:Nat) (all:List Oper) (o:Oper) (K:iE->Hp->Prop):WC C n all o K=A9 C n all o K:=by
 grind[WC,A9,zd1]
theorem Ch.Am{C:kW}   {h:Hp} {K:iE->Hp->Prop} {a:List Oper}:∀{os:List Oper} {ρ b:iE},Ch n all h os ρ b->Am C n all K a b h->Am C n all K (os++a) ρ h
 |[],_,_,hc,hk=>by cases hc;exact hk
 | o::os,ρ,b,⟨h0,d,v,c,e,i,f⟩,hk=>by
   have g:=f.Am (C:=C) (K:=K) hk;have j:qa n o (Hx.Am C n all K (os++a)) v ρ h:=by unfold qa;rw[c];simp only[e];exact g
   show A9 C n all o (Hx.Am C n all K (os++a)) ρ h
   grind[A9,Sk,eh,gdR]
noncomputable def UY(C:kW) (n:Nat) (all:List Oper) (K:iE->Hp->Prop) (os:List Oper):Nat->iE->Hp->Prop:=
 List.rec (motive:=λ_=>Nat->iE->Hp->Prop) (λ_=>K) (λo os a b=>Nat.rec (motive:=λ_=>iE->Hp->Prop)
  (match Zs n all (o::os)with
   |some (w,d,g,dp)=>λρ h=>oP (gA w (ρ d) (gE g ρ h)) λv=>a g.ops.length (fx (Bz g (Qh w (ρ d)) ρ h) dp v) h
   |none=>WC C n all o (a 0)) (λk _=>a k) b) os
theorem K4{C:kW}   {K:iE->Hp->Prop}:∀(os:List Oper) (e:Nat) {ρ:iE} {h:Hp},UY C n all K os e ρ h->Am C n all K (os.drop e) ρ h
 |[],e,ρ,h,hk=>by rw[List.drop_nil];exact hk
 |o::os,e+1,ρ,h,hk=>K4 os e hk
 | o ::os,0,ρ,h,hk=>by
   have a:(match Zs n all (o::os)with
     |some (w,d,g,k)=>λ(ρ:iE) (h:Hp)=>oP (gA w (ρ d) (gE g ρ h)) λv=>UY C n all K os g.ops.length (fx (Bz g (Qh w (ρ d)) ρ h) k v) h
     |none=>WC C n all o (UY C n all K os 0):iE->Hp->Prop) ρ h:=hk
   show Am C n all K (o::os) ρ h
   cases hg:Zs n all (o::os)with
   | some x=>
     obtain⟨w,d,g,k⟩:=x;rw[hg]at a;simp only at a;obtain⟨p,r,q,N,A,b,i,B⟩:=zbq hg;obtain⟨v,D,s⟩:=kU.1 a;obtain⟨c,E,c2,t⟩:=Wi D;have F:Qh w (ρ d)=(c == w):=by unfold Qh;rw[c2]
     rw[F]at s;obtain⟨y,G⟩:∃y,gV (c == w) (gE g ρ h)=some y/\(c=w->y=v):=by
       rcases t with⟨b,i⟩|⟨b,i⟩
       ·simp_all
       ·have:(c == w)=false:=by simp[b]
        rw[this];simp_all
     obtain⟨H,I,J,O⟩:=Yj g B (wBN ..) c2 (by simp_all) G.1;have l:Bz g (c == w) ρ h d = .bool c:=by rw[J d (wBN ..)];exact E
     have j:=WM b (h:=h) l;have u:(iJ p).f (.fn (Bz g (c == w) ρ h) []) h=some v:=by
       rw[j.1,I];rcases t with⟨b,i⟩|⟨b,i⟩
       ·grind
       ·grind
     have m:Ch n all h [p] (Bz g (c == w) ρ h) (fx (Bz g (c == w) ρ h) k v):=⟨j.2,k,v,A,i,by grind[kR],rfl⟩
     have hlen:os.drop g.ops.length=r:=by
       have L:(o::os).drop (g.ops.length+1)=r:=by rw[q,List.append_cons];exact by simp_all
       exact L
     have z:=K4 os _ s;rw[hlen]at z;rw[q,List.append_cons]
     exact(H.app m).Am z
   | none=>
     rw[hg]at a;simp only[Y6]at a;exact U5 (λρ h M=>by have:=K4 os 0 M;exact this) a
def DC(o:Oper):Bool:=match o.op with
 | .move x| .assign x| .nilCheck x| .fieldAddr _ x _| .unOp _ _ x| .extract x _=>TB x
 | .pick c a b=>TB c&&TB a&&TB b
 | .binOp _ _ x y _=>TB x&&TB y
 | .indexAddr _ x i| .index _ x i=>TB x&&TB i
 | .build _ _| .makeFunc _ _ _=>true
 | .call c=>match c.callee,c.args.toList,c.argTypes.toList with
   | .builtin .len,[x],ty::_=>match P0.underlying ty with
     |some (.slice _)=>TB x
     |_=>false
   |_,_,_=>false
 |_=>false
theorem YX (a:DC o=true) (t:Tm) (h h':Hp):(iJ o).f t h=(iJ o).f t h':=by
 unfold DC at a;unfold iJ;split at a
 all_goals rename_i b
 all_goals try rw[b]
 all_goals try simp only[vU]at a
 ·grind[mm]
 ·grind[mm]
 ·grind[Ap,mm]
 ·grind[sd,mm]
 ·grind[mm]
 ·grind[GY,mm]
 ·grind[MH,mm]
 ·grind[mm]
 ·grind[rX,mm]
 ·grind[J7,mm]
 ·simp only[Ka];grind
 ·split <;> first|rfl|simp_all
 ·grind[hlen,mm,absurd]
 simp_all
abbrev RE:=Bool×Rec×Bool×Bool
def Ja(k:Nat) (h:Hp) (rs:List RE) (K:Prop):Prop:=List.rec (motive:=λ_=>Prop) K (λr _ a=>Bool.rec (motive:=λ_=>Prop) (Option.rec (motive:=λ_=>Prop) (Bool.rec (motive:=λ_=>Prop) a (Bool.rec (motive:=λ_=>Prop) True (FI h r.2.1) r.1/\a) r.2.2.2) (λ_=>Bool.rec (motive:=λ_=>Prop) True (FI h r.2.1) r.1/\a) r.2.1.made) a (Nat.blt r.2.1.last k)) rs
def KH(rs:List RE):List RE:=rs.map λr=>(r.1,r.2.1,r.2.2.1,!r.2.2.1)
def vN(rs:List RE):List (Bool×Rec):=rs.map λr=>(r.1,r.2.1)
def itV(C:kW) (n:Nat) (all:List Oper) (ws:List It) (a:It) (d:Nat->iE->Hp->List RE->Prop) (k:Nat):iE->Hp->List RE->Prop:=match cls a.o with
  | 0 =>match kR n all a.o with
    | none=>match isVal a.o with
      |true=>λρ h rs=>Option.rec (motive:=λ_=>Prop) False (λv=>qa n a.o (λc h=>d k c h ((true,{it:=a,t:= .fn ρ [],v,made:=none,last:=late ws a},DC a.o,false)::rs)) v ρ h) ((iJ a.o).f (.fn ρ []) h)
      |false=>λρ h rs=>oP ((iJ a.o).f (.fn ρ []) h) λv=>qa n a.o (λc h=>d k c h ((true,{it:=a,t:= .fn ρ [],v,made:=none,last:=late ws a},DC a.o,false)::rs)) v ρ h
    |some g=>λρ h rs=>oP (g.f (.fn ρ [])) λb=>oP (gV b ((iJ a.o).f (.fn ρ []) h)) λv=>
       qa n a.o (λc h=>d k c h ((b,{it:=a,t:= .fn ρ [],v,made:=none,last:=late ws a},DC a.o,false)::rs)) v ρ h
  | 1=>match kR n all a.o with
    |none=>λρ h rs=>oP ((su a.o).f (.fn ρ [])) λr=>qa n a.o (λc h'=>d k c h' ((true,{it:=a,t:= .fn ρ [],v:=r.2 h.next,made:=some (h.next,r.1),last:=late ws a},false,false)::KH rs)) (r.2 h.next) ρ (h.new r.1)
    |some _=>λ_ _ _=>False
  | _ =>match kR n all a.o with
    |none=>λρ h rs=>Ja k h rs (Su C a.o (λv ρ h'=>h.next<=h'.next/\qa n a.o (λρ h=>d (Nat.succ k) ρ h (KH rs)) v ρ h') ρ h)
    | some g=>match zE a.o with
      |true=>λρ h rs=>Ja k h rs (oP (g.f (.fn ρ [])) λb=>oP (gC b (oB ((mr a.o).f (.fn ρ []) h) J8)) λx=>vB C x h λv h'=>h.next<=h'.next/\qa n a.o (λρ h=>d (Nat.succ k) ρ h (KH rs)) v ρ h')
      |false=>λ_ _ _=>False
def J3(l:List It):Bool:=l.all λa=>Nat.beq (cls a.o) 0
def UP(C:kW) (n:Nat) (all:List Oper) (ws:List It) (K:iE->Hp->Prop) (l:List It):Nat->iE->Hp->List RE->Prop:=
 List.rec (motive:=λ_=>Nat->iE->Hp->List RE->Prop) (λk ρ h rs=>Ja k h rs (K ρ h)) (λa l b k=>match J3 (a::l)with
  |true=>λρ h rs=>UY C n all (λρ h=>Ja k h rs (K ρ h)) ((a::l).map (·.o)) 0 ρ h
  |false=>itV C n all ws a b k) l
def XZ(h:Hp)(rs:List RE):Prop:=∀r∈rs,r.1=true->r.2.1.made=none->(r.2.2.1=true->∀h',FI h' r.2.1)/\(r.2.2.2=false->FI h r.2.1)
theorem XZ.Ae{h:Hp} {rs:List RE} (hi:XZ h rs) (h':Hp):XZ h' (KH rs):=by
 intro r b hb c;obtain⟨r',a,e⟩:=Kj.1 b;subst e;obtain⟨d,_⟩:=hi r' a hb c
 simp_all
theorem OY(rs:List RE):vN (KH rs)=vN rs:=by
 simp[vN,KH]
theorem zp {h:Hp}:∀{rs:List RE} {K d:Prop},XZ h rs->(K->d)->Ja k h rs K->yA k h (vN rs) d
 |[],_,_,_,hk,hh=>hk hh
 | (b,r,f,st)::rs,K,d,hi,hk,hh=>by
   have c:XZ h rs:=λr c=>hi r (wBT _ c);have h0:=hi _ (wBN ..)
   have a:Bool.rec (motive:=λ_=>Prop)
     (Option.rec (motive:=λ_=>Prop) (Bool.rec (motive:=λ_=>Prop) (Ja k h rs K) (Bool.rec (motive:=λ_=>Prop) True (FI h r) b/\Ja k h rs K) st)
     (λ_=>Bool.rec (motive:=λ_=>Prop) True (FI h r) b/\Ja k h rs K) r.made) (Ja k h rs K) (Nat.blt r.last k):=hh
   show Bool.rec (motive:=λ_=>Prop) (Bool.rec (motive:=λ_=>Prop) True (FI h r) b/\yA k h (vN rs) d) (yA k h (vN rs) d) (Nat.blt r.last k)
   cases hb:Nat.blt r.last k with
   |true=>rw[hb]at a;exact zp c hk a
   | false=>
     rw[hb]at a
     cases hm:r.made with
     |some x=>rw[hm]at a;exact⟨a.1,zp c hk a.2⟩
     | none=>
       rw[hm]at a
       cases st with
       |true=>exact⟨a.1,zp c hk a.2⟩
       | false=>
         refine⟨?_,zp c hk a⟩;cases b <;> grind
theorem ZL{C:kW}  {K a:V->iE->Hp->Prop} (b:∀v ρ h,K v ρ h->a v ρ h) {ρ:iE} {h:Hp} (hk:Su C o K ρ h):Su C o a ρ h:=by
 unfold Su at hk⊢;cases hi:zE o
 all_goals rw[hi]at hk
 ·grind[qV]
 ·exact qV hk λx H=>H.mono (by simp_all)
theorem Qu {h:Hp} {K:Prop} {rs:List (Bool×Rec)}:∀{new:List (Bool×Rec)},(∀r∈new,r.1=true->FI h r.2)->yA k h rs K->yA k h (new++rs) K
 |[],_,hh=>hh
 | r ::new,hn,hh=>by
   have a:=Qu (new:=new) (by simp_all) hh;show yA k h (r::(new++rs)) K;simp only[yA]
   cases hb:Nat.blt r.2.last k with
   |true=>exact a
   | false=>
     refine⟨?_,a⟩;cases hb:r.1 <;> grind
theorem Ox{C:kW}   {ws:List It} {K:iE->Hp->Prop}  {rs:List (Bool×Rec)}:∀{l:List It} {ρ:iE} {h:Hp} {new:List (Bool×Rec)},J3 l=true->(∀r∈new,r.1=true->FI h r.2)->
  Am C n all (λρ h=>yA k h rs (K ρ h)) (l.map (·.o)) ρ h->Ke C n all ws K l k ρ h (new++rs)
 |[],_,_,_,_,hn,hk=>Qu hn hk
 | a ::l,ρ,h,new,hp,hn,hk=>by
   simp only[J3,wBn,vU]at hp;obtain⟨hc,hp⟩:=hp;have hc:=Iw hc;have c:A9 C n all a.o (Am C n all (λρ h=>yA k h rs (K ρ h)) (l.map (·.o))) ρ h:=hk;show itR C n all ws a (Ke C n all ws K l) k ρ h (new++rs)
   have m:∀{b:Bool} {v:V},(b=true->(iJ a.o).f (.fn ρ []) h=some v)->qa n a.o (Am C n all (λρ h=>yA k h rs (K ρ h)) (l.map (·.o))) v ρ h->
       qa n a.o (λu h=>Ke C n all ws K l k u h ((b,{it:=a,t:= .fn ρ [],v,made:=none,last:=late ws a})::(new++rs))) v ρ h:=by
     intro b v hb j;have i:∀r∈(b,({it:=a,t:= .fn ρ [],v,made:=none,last:=late ws a}:Rec))::new,r.1=true->FI h r.2:=by
       intro r w p;rcases Ki.1 w with e|e
       ·subst e;exact hb p
       ·grind
     unfold qa at j⊢
     cases ho:a.o.dst with
     |none=>rw[ho]at j;exact Ox hp i j
     | some d=>
       rw[ho]at j;simp only at j⊢
       cases hb:Nat.blt d n with
       |true=>rw[hb]at j;exact Ox hp i j
       |false=>simp_all
   unfold A9 at c;unfold itR;rw[hc];simp only
   cases hw:kR n all a.o with
   | none=>
     rw[hw]at c;simp only[Sk,hc]at c;obtain⟨v,q,s⟩:=kU.1 c
     simp_all
   | some g=>
     rw[hw]at c;simp only[gdR,hc]at c;obtain⟨b,h0,c⟩:=kU.1 c;obtain⟨v,q,s⟩:=kU.1 c;exact eh h0 (eh q (m (λe=>by simp_all) s))
theorem LR{C:kW}   {K e:iE->Hp->Prop} {h:Hp} (f:∀ρ,K ρ h->e ρ h):∀{l:List It} {ρ:iE},J3 l=true->Am C n all K (l.map (·.o)) ρ h->Am C n all e (l.map (·.o)) ρ h
 |[],_,_,hk=>f _ hk
 | a ::l,ρ,hp,hk=>by
   simp only[J3,wBn,vU]at hp;obtain⟨hc,hp⟩:=hp;have hc:=Iw hc;have c:A9 C n all a.o (Am C n all K (l.map (·.o))) ρ h:=hk;show A9 C n all a.o (Am C n all e (l.map (·.o))) ρ h;have i:∀{v:V},qa n a.o (Am C n all K (l.map (·.o))) v ρ h->qa n a.o (Am C n all e (l.map (·.o))) v ρ h:=by
     intro v b;unfold qa at b⊢
     cases ho:a.o.dst with
     |none=>rw[ho]at b;exact LR f hp b
     | some d=>
       rw[ho]at b;simp only at b⊢
       cases hb:Nat.blt d n with
       |true=>rw[hb]at b;exact LR f hp b
       |false=>simp_all
   unfold A9 at c⊢
   cases hw:kR n all a.o with
   | none=>
     grind[Sk,kU,eh]
   | some g=>
     rw[hw]at c
     grind[gdR,kU,eh]
theorem Nb{C:kW}   {ws:List It} {K:iE->Hp->Prop}:∀(l:List It) {k:Nat} {ρ:iE} {h:Hp} {rs:List RE},XZ h rs->UP C n all ws K l k ρ h rs->Ke C n all ws K l k ρ h (vN rs)
 |[],_,_,_,_,hi,hk=>zp hi (λx=>x) hk
 | a ::l,k,ρ,h,rs,hi,hk=>by
   have i:(match J3 (a::l)with
     |true=>λ(ρ:iE) (h:Hp) (rs:List RE)=>UY C n all (λρ h=>Ja k h rs (K ρ h)) ((a::l).map (·.o)) 0 ρ h
     |false=>itV C n all ws a (UP C n all ws K l) k:iE->Hp->List RE->Prop) ρ h rs:=hk
   cases hp:J3 (a::l)with
   | true=>
     rw[hp]at i;have w:=K4 _ 0 i
     exact Ox (new:=[]) hp (by simp_all) (LR (λρ m=>zp hi (λx=>x) m) hp w)
   | false =>
     rw[hp]at i;simp only at i;show itR C n all ws a (Ke C n all ws K l) k ρ h (vN rs)
     have pure:∀{b:Bool} {v:V},gV b ((iJ a.o).f (.fn ρ []) h)=some v->∀{j:iE},UP C n all ws K l k j h ((b,{it:=a,t:= .fn ρ [],v,made:=none,last:=late ws a},DC a.o,false)::rs)->
         Ke C n all ws K l k j h ((b,{it:=a,t:= .fn ρ [],v,made:=none,last:=late ws a})::vN rs):=by
       intro b v hv j m;refine Nb l (rs:=(b,{it:=a,t:= .fn ρ [],v,made:=none,last:=late ws a},DC a.o,false)::rs) ?_ m;intro r p hb q;rcases Ki.1 p with e|e
       ·subst e
        have s:b=true:=hb;subst s;refine⟨λz h'=>?_,λ_=>hv⟩;show(iJ a.o).f (.fn ρ []) h' = some v;rw[YX z _ h' h];exact hv
       ·exact hi r e hb q
     have dst:∀{b:Bool} {v:V},gV b ((iJ a.o).f (.fn ρ []) h)=some v->qa n a.o (λj h=>UP C n all ws K l k j h ((b,{it:=a,t:= .fn ρ [],v,made:=none,last:=late ws a},DC a.o,false)::rs)) v ρ h->
         qa n a.o (λj h=>Ke C n all ws K l k j h ((b,{it:=a,t:= .fn ρ [],v,made:=none,last:=late ws a})::vN rs)) v ρ h:=by
       intro b v hv A;unfold qa at A⊢
       cases ho:a.o.dst with
       |none=>grind
       | some d=>
         grind
     unfold itV at i;unfold itR;generalize hc:cls a.o=c at i;rcases c with _|_|c
     ·simp only at i⊢
      cases hw:kR n all a.o with
      | none=>
        rw[hw]at i;simp only at i⊢;have u:oP ((iJ a.o).f (.fn ρ []) h) λv=>qa n a.o (λj h=>UP C n all ws K l k j h ((true,{it:=a,t:= .fn ρ [],v,made:=none,last:=late ws a},DC a.o,false)::rs)) v ρ h:=by
          cases hv:isVal a.o <;> (rw[hv]at i;exact i)
        obtain⟨v,w,D⟩:=kU.1 u
        simp_all
      | some g=>
        grind[kU,eh]
     ·simp only at i⊢
      cases hw:kR n all a.o with
      | none=>
        rw[hw]at i;refine qV i λr H=>HV (λj h' m=>?_) H;have:=Nb l (rs:=(true,{it:=a,t:= .fn ρ [],v:=r.2 h.next,made:=some (h.next,r.1),last:=late ws a},false,false)::KH rs) (by
          intro r' p hb q;rcases Ki.1 p with e|e
          ·simp_all
          ·exact hi.Ae h' r' e hb q) m
        grind[Ke,vN,KH,OY]
      |some g=>simp_all
     ·simp only at i⊢
      have B:∀{v:V} {ρ:iE} {h':Hp},qa n a.o (λρ h=>UP C n all ws K l (Nat.succ k) ρ h (KH rs)) v ρ h'->qa n a.o (λρ h=>Ke C n all ws K l (Nat.succ k) ρ h (vN rs)) v ρ h':=λH=>
        HV (λρ h m=>by have:=Nb l (hi.Ae h) m;grind[OY]) H
      cases hw:kR n all a.o with
      | none=>
        grind[zp,ZL]
      | some g=>
        rw[hw]at i;simp only at i⊢
        cases hic:zE a.o with
        |false=>simp_all
        | true=>
          rw[hic]at i;refine zp hi (λH=>qV H λb H=>qV H λx H=>?_) i
          cases x with
          |none=>simp_all
          |some y=>exact cP.mono H (by simp_all)
def zag(C:kW) (n:Nat) (all:List Oper) (K:iE->Hp->Prop) (ρ:iE) (h:Hp):Prop:=UP C n all (gZ (items all 0 [])) K (order (items all 0 []) (gZ (items all 0 [])) (gZ (items all 0 [])) 0) 0 ρ h []
theorem Zd{C:kW}{K:iE->Hp->Prop}{ρ:iE}{h:Hp}(hk:zag C n all K ρ h):W2 C n all K ρ h:=Nb (rs:=[]) _ (by intro r a;cases a) hk
end
noncomputable def N2(tb:List (Nat×List Nat)) (k:Nat):Option (List Nat):=List.rec (motive:=λ_=>Option (List Nat)) none (λx _ a=>Bool.rec (motive:=λ_=>Option (List Nat)) a (some x.2) (Nat.beq x.1 k)) tb
noncomputable def jV(C:kW) (n:Nat) (live:List Nat) (c:Code) (s:XQ) (ρ:iE) (h:Hp):Prop:=∀a:iE,List.rec (motive:=λ_=>Prop) (Wp C n c s a h) (λi _ b=>a i=ρ i->b) live
theorem YT{C:kW}  {live:List Nat} {c:Code} {s:XQ} {ρ:iE} {h:Hp} (a:jV C n live c s ρ h):Wp C n c s ρ h:=by
 have:=a ρ;clear a
 induction live <;> grind
noncomputable def SH(C:kW) (n:Nat) (tb:List (Nat×List Nat)) (c:Code):Nat->Nat->XQ->XQ->iE->Hp->Prop:=
 Code.rec (motive:=λ_=>Nat->Nat->XQ->XQ->iE->Hp->Prop)
  (λ_ _ v _=>v .normal)
  (fun _ ops d _ _ v _=>match d with
   |false=>UY C n ops.toList (λρ h=>v .normal ρ h) ops.toList 0
   | true=>match yY ops.toList with
     |true=>zag C n ops.toList (λρ h=>v .normal ρ h)
     |false=>λ_ _=>False)
  (λ_ b a g p e v s=>a p (Nat.mul 2 e) (andThen (Option.rec (motive:=λ_=>iE->Hp->Prop) (g (Nat.add p e) (Nat.mul 2 e) v s) (λlive=>jV C n live b s) (N2 tb (Nat.mul 2 (Nat.add (Nat.add p e) (Nat.mul 2 e))))) v) (andThen (Wp C n b s) s))
  (λc _ _ a g p e v s ρ h=>Option.rec (motive:=λ_=>Prop) False (λx=>bP x (a p (Nat.mul 2 e) v s ρ h) (g (Nat.add p e) (Nat.mul 2 e) v s ρ h)) ((Ab c).f (.fn ρ []) h))
  (λid _ i p e v s=>i p (Nat.mul 2 e) (xO id v) (xO id s))
  (λc _ p e _ s=>Option.rec (motive:=λ_=>iE->Hp->Prop) (λ_ _=>False) (λlive=>jV C n live (.loop c) s) (N2 tb (Nat.succ (Nat.mul 2 (Nat.add p e)))))
  (λ_ _ _ _ _ _ _ _ _ _ _ _=>False)
  (λid _ _ v _=>v (.exit id))
  (λ_ _ _ _ _ _ _ _=>False)
  (λ_ _ _ _ _ _ _=>False)
  (λ_ _ _ _ _ _ _=>False)
  (λ_ _ v _=>v .ret)
  (λ_ _ _ _ _ _ _=>False) c
theorem Cc{k k':iE->Hp->Prop} {v s:XQ} (hk:∀ρ h,k ρ h->k' ρ h) (hq:∀x ρ h,v x ρ h->s x ρ h):∀x ρ h,andThen k v x ρ h->andThen k' s x ρ h
 | .normal,_,_,hh=>hk _ _ hh
 | .exit _,_,_,hh=>hq _ _ _ hh
 | .ret,_,_,hh=>hq _ _ _ hh
theorem NO{id:Nat} {v s:XQ} (hq:∀x ρ h,v x ρ h->s x ρ h):∀x ρ h,xO id v x ρ h->xO id s x ρ h
 | .normal,_,_,hh=>hq _ _ _ hh
 | .ret,_,_,hh=>hq _ _ _ hh
 | .exit i,ρ,h,hh=>by
   simp only[xO]at hh⊢;cases hb:Nat.beq i id <;> simp_all
theorem xM{C:kW}  :∀(c:Code) {p e:Nat} {v s:XQ} {ρ:iE} {h:Hp},(∀x ρ h,v x ρ h->s x ρ h)->SH C n tb c p e v s ρ h->Wp C n c s ρ h
 | .skip,_,_,_,_,_,_,hq,hk=> .skip (hq _ _ _ hk)
 | .region _ ops false,_,_,v,_,ρ,h,hq,hk=>by
   have d:UY C n ops.toList (λρ h=>v .normal ρ h) ops.toList 0 ρ h:=hk
   exact(Wp.region (K4 _ 0 d)).mono hq
 | .region _ ops true,_,_,v,_,ρ,h,hq,hk=>by
   have d:(match yY ops.toList with
       |true=>zag C n ops.toList (λρ h=>v .normal ρ h)
       |false=>λ_ _=>False) ρ h:=hk
   cases hd:yY ops.toList with
   |true=>rw[hd]at d;exact(Wp.draw hd (Zd d)).mono hq
   |false=>simp_all
 | .seq a b,p,e,v,s,ρ,h,hq,hk=>by
   refine .seq (xM a (Cc ?_ hq) hk);intro ρ h g
   cases hf:N2 tb (Nat.mul 2 (Nat.add (Nat.add p e) (Nat.mul 2 e)))with
   |none=>rw[hf]at g;exact xM b hq g
   |some live=>rw[hf]at g;exact YT g
 | .cond c a b,p,e,v,s,ρ,h,hq,hk=>by
   have d:oP ((Ab c).f (.fn ρ []) h) (λx=>bP x (SH C n tb a p (Nat.mul 2 e) v s ρ h) (SH C n tb b (Nat.add p e) (Nat.mul 2 e) v s ρ h)):=hk;obtain⟨x,hv,d⟩:=kU.1 d
   exact .cond (eh hv (bM d (xM a hq) (xM b hq)))
 | .block id c,_,_,_,_,_,_,hq,hk=> .block (xM c (NO hq) hk)
 | .loop c,p,e,v,s,ρ,h,hq,hk=>by
   have d:(Option.rec (motive:=λ_=>iE->Hp->Prop) (λ_ _=>False) (λlive=>jV C n live (.loop c) s) (N2 tb (Nat.succ (Nat.mul 2 (Nat.add p e)))):iE->Hp->Prop) ρ h:=hk
   cases hf:N2 tb (Nat.succ (Nat.mul 2 (Nat.add p e)))with
   |none=>simp_all
   |some live=>rw[hf]at d;grind[YT]
 | .exit id,_,_,_,_,_,_,hq,hk=> .exit (hq _ _ _ hk)
 | .ret,_,_,_,_,_,_,hq,hk=> .ret (hq _ _ _ hk)
 | .rangeFunc ..,_,_,_,_,_,_,_,hk=>hk.elim
 | .scope _,_,_,_,_,_,_,_,hk=>hk.elim
 | .label _,_,_,_,_,_,_,_,hk=>hk.elim
 | .goto _,_,_,_,_,_,_,_,hk=>hk.elim
 | .refuse _,_,_,_,_,_,_,_,hk=>hk.elim
structure Yc where
 c:Code
 v:XQ
 s:XQ
 p:Nat
 e:Nat
 ks:List (iE->Hp->Prop)
def zcZ(l:List (iE->Hp->Prop)):iE->Hp->Prop:=match l with
 |k::_=>k
 |[]=>λ_ _=>False
noncomputable def Hq(C:kW) (n:Nat) (tb:List (Nat×List Nat)) (a:Yc) (b:Bool):Yc:=match a.c,b with
 | .seq x y,false=>{c:=x,v:=andThen (Option.rec (motive:=λ_=>iE->Hp->Prop) (SH C n tb y (Nat.add a.p a.e) (Nat.mul 2 a.e) a.v a.s) (λlive=>jV C n live y a.s) (N2 tb (Nat.mul 2 (Nat.add (Nat.add a.p a.e) (Nat.mul 2 a.e))))) a.v,s:=andThen (Wp C n y a.s) a.s,p:=a.p,e:=Nat.mul 2 a.e,ks:=a.ks}
 | .seq _ y,true=>{c:=y,v:=a.v,s:=a.s,p:=Nat.add a.p a.e,e:=Nat.mul 2 a.e,ks:=a.ks}
 | .cond _ x _,false=>{c:=x,v:=a.v,s:=a.s,p:=a.p,e:=Nat.mul 2 a.e,ks:=a.ks}
 | .cond _ _ y,true=>{c:=y,v:=a.v,s:=a.s,p:=Nat.add a.p a.e,e:=Nat.mul 2 a.e,ks:=a.ks}
 | .block id x,false=>{c:=x,v:=xO id a.v,s:=xO id a.s,p:=a.p,e:=Nat.mul 2 a.e,ks:=a.ks}
 | .loop x,false=>{c:=x,v:=andThen (zcZ a.ks) a.v,s:=andThen (zcZ a.ks) a.s,p:=a.p,e:=Nat.mul 2 a.e,ks:=a.ks.tail}
 |_,_=>a
noncomputable def zeK(C:kW) (n:Nat) (tb:List (Nat×List Nat)) (bs:List Bool):Yc->Yc:=List.rec (motive:=λ_=>Yc->Yc) (λa=>a) (λb _ c a=>c (Hq C n tb a b)) bs
def zew(k:Nat):List Bool:=(Nat.rec (motive:=λ_=>Nat->List Bool) (λ_=>[]) (λ_ a p=>match Nat.ble p 1 with
 |true=>[]
 |false=>Nat.beq (Nat.mod p 2) 1::a (Nat.div p 2)) 400:Nat->List Bool) k
def Vw(Q:V->Hp->Prop) (ρ:iE) (h:Hp) (l:List ResultVar):List V->Prop:=
 List.rec (motive:=λ_=>List V->Prop) (λb=>Q (Fq b.reverse) h) (λr _ c b=>match r with
  | .tmp i=>c (ρ i::b)
  | .cell a ty=>oP ((zaL (.cell a ty)).f (.fn ρ []) h) λv=>c (v::b)) l
theorem Nd {ρ:iE} {h:Hp}:∀{l:List ResultVar} {b:List V},Vw Q ρ h l b->oP (DA (.fn ρ []) h l) λvs=>Q (Fq (b.reverse++vs)) h
 | [],b,hh=>by
   grind[Fq,DA,zbm,oP,Vw]
 | .tmp i::l,b,hh=>by
   have c:Vw Q ρ h l (ρ i::b):=hh;obtain⟨vs,d,e⟩:=kU.1 (Nd c);refine eh (show DA (.fn ρ []) h (.tmp i::l)=some (ρ i::vs) from ?_) ?_
   ·show oB (some (ρ i)) _=_
    simp_all
   simp_all
 | .cell a ty::l,b,hh=>by
   have c:oP ((zaL (.cell a ty)).f (.fn ρ []) h) λv=>Vw Q ρ h l (v::b):=hh;obtain⟨v,h0,c⟩:=kU.1 c;obtain⟨vs,d,e⟩:=kU.1 (Nd c)
   simp_all[eh,DA,oB,zaL]
def Xk(l:List ResultVar) (Q:V->Hp->Prop):XQ
 | .exit _,_,_=>False
 |_,ρ,h=>Vw Q ρ h l []
theorem Uw{l:List ResultVar} :∀x ρ h,Xk l Q x ρ h->Je l Q x ρ h
 | .exit _,_,_,hh=>hh
 | .normal,_,_,hh=>by grind[Nd,Vw,Je,zce,Xk]
 | .ret,_,_,hh=>by grind[Nd,Vw,Je,zce,Xk]
noncomputable def Wy(fn:Func)(ks:List (iE->Hp->Prop))(Q:V->Hp->Prop):Yc:={c:=JP fn,v:=Xk fn.results.toList Q,s:=Je fn.results.toList Q,p:=0,e:=1,ks}
noncomputable def nj(C:kW)(fn:Func)(tb:List (Nat×List Nat))(k:Nat)(ks:List (iE->Hp->Prop))(Q:V->Hp->Prop):Yc:=zeK C fn.ntmps tb (zew k) (Wy fn ks Q)
noncomputable def WA(C:kW)(fn:Func)(tb:List (Nat×List Nat))(k:Nat)(ks:List (iE->Hp->Prop))(Q:V->Hp->Prop)(ρ:iE)(h:Hp):Prop:=Wp C fn.ntmps (nj C fn tb k ks Q).c (nj C fn tb k ks Q).s ρ h
noncomputable def VA(C:kW)(n:Nat)(tb:List (Nat×List Nat))(a:Yc)(ρ:iE)(h:Hp):Prop:=SH C n tb a.c a.p a.e a.v a.s ρ h
def Yc.ok(a:Yc):Prop:=∀x ρ h,a.v x ρ h->a.s x ρ h
theorem XR{C:kW}   {a:Yc} (c:a.ok) (b:Bool):(Hq C n tb a b).ok:=by
 unfold Hq;split
 ·refine Cc (λρ h d=>?_) c
  cases hf:N2 tb (Nat.mul 2 (Nat.add (Nat.add a.p a.e) (Nat.mul 2 a.e)))with
  |none=>rw[hf]at d;exact xM _ c d
  |some live=>rw[hf]at d;exact YT d
 ·exact c
 ·exact c
 ·exact c
 ·exact NO c
 ·exact Cc (by simp_all) c
 ·exact c
theorem W0{C:kW}  :∀{bs:List Bool} {a:Yc},a.ok->(zeK C n tb bs a).ok
 |[],_,ha=>ha
 |b::bs,_,ha=>W0 (bs:=bs) (XR ha b)
theorem Qn{C:kW}:(nj C fn tb k ks Q).ok:=W0 Uw
theorem WA.of{C:kW}      {ρ:iE} {h:Hp} 
  (e:VA C fn.ntmps tb (nj C fn tb k ks Q) ρ h=P) (H:P):WA C fn tb k ks Q ρ h:=xM _ Qn (e.mpr H)
def Nv(c:Code):Bool:=match c with
 | .loop _=>true
 |_=>false
inductive LA (C:kW) (fn:Func) (tb:List (Nat×List Nat)) (k:Nat) (ks:List (iE->Hp->Prop)) (Q:V->Hp->Prop) (K:iE->Hp->Prop) (ρ:iE) (h:Hp):Prop
 |mk (hv:VA C fn.ntmps tb (Hq C fn.ntmps tb {nj C fn tb k ks Q with ks:=[K]} false) ρ h)
theorem LA.of{C:kW}      {K:iE->Hp->Prop} {ρ:iE} {h:Hp} 
  (e:VA C fn.ntmps tb (Hq C fn.ntmps tb {nj C fn tb k ks Q with ks:=[K]} false) ρ h=P) (H:P):LA C fn tb k ks Q K ρ h:=⟨e.mpr H⟩
theorem WA.loop{C:kW}      {ρ:iE} {h:Hp} (I:Nat->iE->Hp->Prop) {m:Nat}
  (f:Nv (nj C fn tb k ks Q).c=true) (hk:(nj C fn tb k ks Q).ks=[])
  (b:∀m ρ h,I m ρ h->LA C fn tb k ks Q (λi h'=>∃g,g<m/\I g i h') ρ h) (h0:I m ρ h):WA C fn tb k ks Q ρ h:=by
 unfold WA;have b:=λm ρ h hi=>(b m ρ h hi).1;have d:(nj C fn tb k ks Q).ok:=Qn;generalize nj C fn tb k ks Q=a at*;obtain⟨c,v,s,p,e,j⟩:=a;cases c <;> simp only[Nv]at f <;> try exact absurd f (by decide)
 rename_i c;refine Wp.zcM I (λm ρ h hi=>?_) h0;have:=b m ρ h hi;exact xM c (Cc (λ_ _ l=>l) d) this
theorem cP.vc{C:kW} (hs:C.start=zt) {f:Nat} {fn:Func} {tb:List (Nat×List Nat)} {args:List V} {h:Hp} {Q:V->Hp->Prop} {P:Prop} (b:P0.funcs[f]? =some fn) (hb:fn.body=some (JP fn))
  (hk:C.K f args h=none) (a:Nat.ble args.length fn.ntmps=true) (e:VA C fn.ntmps tb (Wy fn [] Q) (Lt args) h=P) (H:P):cP C f args h Q:=
 cP.func hs b hb hk (MY a) (xM _ Uw (e.mpr H))
abbrev LP:=List V->Hp->Prop
def chV(ρ:iE):List Nat->List V->Prop->Prop
 |i::is,x::xs,P=>ρ i=x->chV ρ is xs P
 |_,_,P=>P
def kf(is:List Nat)(K:LP):iE->Hp->Prop:=λρ h=>K (is.map ρ) h
def JV(C:kW)(fn:Func)(tb:List (Nat×List Nat))(k:Nat)(is:List Nat)(ks:List (iE->Hp->Prop))(Q:fq):LP:=λl h=>∀ρ:iE,chV ρ is l (WA C fn tb k ks Q ρ h)
theorem UH{ρ:iE}:∀{is:List Nat}{l:List V},is.length=l.length->(is.map ρ=l->P)->chV ρ is l P
 |[],[],_,h=>h rfl
 |[],_::_,e,_=>by cases e
 |_::_,[],e,_=>by cases e
 |i::is,x::l,e,h=>λhx=>UH (is:=is) (l:=l) (by simp_all) (by simp_all)
def DB:Nat->Type
 |0=>Hp->Prop
 |n+1=>V->DB n
def Uq:(n:Nat)->DB n->LP
 |0,f,[],h=>f h
 |n+1,f,x::l,h=>Uq n (f x) l h
 |_,_,_,_=>False
@[reducible] def Es (I:Nat->LP) (k:Nat):LP:=λl h=>∃k',k' < k/\I k' l h
section
variable{C:kW}{fn:Func}{tb:List (Nat×List Nat)}{k m:Nat}{is:List Nat}{ks:List (iE->Hp->Prop)}{Q:fq}{h:Hp}{l:List V}
theorem JV.mk(n:Nat)(B:DB n)(e:∀(ρ:iE)(h:Hp),VA C fn.ntmps tb (nj C fn tb k ks Q) ρ h=Uq n B (is.map ρ) h)(a:is.length=l.length)(H:Uq n B l h):JV C fn tb k is ks Q l h:=λρ=>UH a λb=>by
 subst b;exact WA.of (e ρ h) H
theorem JV.loop(n:Nat)(I:Nat->LP)(B:LP->DB n)(a:Nv (nj C fn tb k ks Q).c=true)(hk:(nj C fn tb k ks Q).ks=[])
  (e:∀(K:LP) (ρ:iE) (h:Hp),VA C fn.ntmps tb (Hq C fn.ntmps tb {nj C fn tb k ks Q with ks:=[kf is K]} false) ρ h=Uq n (B K) (is.map ρ) h)
  (d:∀m l h,l.length=n->I m l h->Uq n (B (Es I m)) l h) (f:is.length=n) (hlen:is.length=l.length) (h0:I m l h):JV C fn tb k is ks Q l h:=λρ=>UH hlen λb=>by
 subst b;exact WA.loop (λm ρ h=>I m (is.map ρ) h) a hk (λm ρ h hi=>LA.of (e (Es I m) ρ h) (by grind)) h0
abbrev dF(k:Nat)(x:V)(h:Hp)(K:V->Prop):Prop:=oP (fI k x) λa=>oP (fe a h) K
abbrev dN(k:Nat)(x:V)(h:Hp)(K:V->Prop):Prop:=oP (gP x) λa=>dF k a h K
abbrev dI(n:Nat)(x i:V)(k:Nat)(h:Hp)(K:V->Prop):Prop:=oP (gB n x i) λa=>dF k a h K
abbrev dX(n:Nat)(x i:V)(h:Hp)(K:V->Prop):Prop:=oP (gB n x i) λa=>oP (fe a h) K
abbrev dG(k:Nat)(x:V)(h:Hp)(K:V->Prop):Prop:=dF k x h λa=>oP (fE a) K
abbrev dJ(k:Nat)(x:V)(n:Nat)(i:V)(j:Nat)(h:Hp)(K:V->Prop):Prop:=dF k x h λa=>dI n a i j h K
abbrev dY(k:Nat)(x:V)(n:Nat)(i:V)(h:Hp)(K:V->Prop):Prop:=dF k x h λa=>dX n a i h K
abbrev bO(o:BinOp)(t:Nat)(a b:V)(A B:Prop):Prop:=oP (ez o t a b) λv=>bP v A B
abbrev bN(a:V)(A B:Prop):Prop:=oP (pK .not a) λv=>bP v A B
theorem oF{l o:Nat}{h:Hp}{v:V}{K:V->Prop}(a:fe (.ptr l (o+k)) h=some v)(b:K v):dF k (.ptr l o) h K:=kU.2 ⟨_,gf _ _ _,kU.2 ⟨_,a,b⟩⟩
theorem oN{l o:Nat}{h:Hp}{v:V}{K:V->Prop}(a:fe (.ptr l (o+k)) h=some v)(b:K v):dN k (.ptr l o) h K:=kU.2 (by simp_all[fS,oF])
theorem cP.vd{C:kW}{f:Nat}(tb:List (Nat×List Nat)){args:List V}{h:Hp}{Q:fq}{P:Prop}(hs:C.start=zt)(b:P0.funcs[f]? =some fn)(hk:C.K f args h=none)(H:P)
  (hb:fn.body=some (JP fn):=by kernel_rfl) (a:Nat.ble args.length fn.ntmps=true:=by kernel_rfl) (e:VA C fn.ntmps tb (Wy fn [] Q) (Lt args) h=P:=by kernel_rfl):cP C f args h Q:=cP.vc hs b hb hk a e H
abbrev nZ:V:= .I 0
abbrev nO:V:= .I 1
abbrev nS:V:= .ei
abbrev bT:V:= .bool true
abbrev bF:V:= .bool false
abbrev zC(T:Nat)(l:List V):Option (O×(Nat->V)):=some (.cells T 1 true false l,λl=> .ptr l 0)
abbrev P2(I:Nat->QP2)(B:(QP2)->QP2):Prop:=∀(k:Nat) (a b:V) (h:Hp),I k a b h->B (λa b h=>∃k',k' < k/\I k' a b h) a b h
abbrev P3(I:Nat->QP3)(B:(QP3)->QP3):Prop:=∀(k:Nat) (a b c:V) (h:Hp),I k a b c h->B (λa b c h=>∃k',k' < k/\I k' a b c h) a b c h
abbrev P4(I:Nat->UF)(B:(UF)->UF):Prop:=∀(k:Nat) (a b c d:V) (h:Hp),I k a b c d h->B (λa b c d h=>∃k',k' < k/\I k' a b c d h) a b c d h
abbrev P5(I:Nat->RQ)(B:(RQ)->RQ):Prop:=∀(k:Nat) (a b c d e:V) (h:Hp),I k a b c d e h->B (λa b c d e h=>∃k',k' < k/\I k' a b c d e h) a b c d e h
abbrev P6(I:Nat->QP6)(B:(QP6)->QP6):Prop:=∀(k:Nat) (a b c d e f:V) (h:Hp),I k a b c d e f h->B (λa b c d e f h=>∃k',k' < k/\I k' a b c d e f h) a b c d e f h
abbrev P7(I:Nat->QP7)(B:(QP7)->QP7):Prop:=∀(k:Nat) (a b c d e f g:V) (h:Hp),I k a b c d e f g h->B (λa b c d e f g h=>∃k',k' < k/\I k' a b c d e f g h) a b c d e f g h
abbrev P8(I:Nat->WW)(B:(WW)->WW):Prop:=∀(k:Nat) (a b c d e f g i:V) (h:Hp),I k a b c d e f g i h->B (λa b c d e f g i h=>∃k',k' < k/\I k' a b c d e f g i h) a b c d e f g i h
abbrev P9(I:Nat->QP9)(B:(QP9)->QP9):Prop:=∀(k:Nat) (a b c d e f g i j:V) (h:Hp),I k a b c d e f g i j h->B (λa b c d e f g i j h=>∃k',k' < k/\I k' a b c d e f g i j h) a b c d e f g i j h
abbrev P10(I:Nat->Zf)(B:(Zf)->Zf):Prop:=∀(k:Nat) (b c d e f g i j l a:V) (h:Hp),I k b c d e f g i j l a h->B (λb c d e f g i j l a h=>∃k',k' < k/\I k' b c d e f g i j l a h) b c d e f g i j l a h
abbrev P11(I:Nat->SL)(B:(SL)->SL):Prop:=∀(k:Nat) (c d e f g i j l m a b:V) (h:Hp),I k c d e f g i j l m a b h->B (λc d e f g i j l m a b h=>∃k',k' < k/\I k' c d e f g i j l m a b h) c d e f g i j l m a b h
abbrev P13(I:Nat->Xx)(B:(Xx)->Xx):Prop:=∀(k:Nat) (e f g i j l m n o a b c d:V) (h:Hp),I k e f g i j l m n o a b c d h->B (λe f g i j l m n o a b c d h=>∃k',k' < k/\I k' e f g i j l m n o a b c d h) e f g i j l m n o a b c d h
end
def SV:(n:Nat)->LP->DB n->Prop
 |0,I,B=>∀h:Hp,I [] h->B h
 |n+1,I,B=>∀x:V,SV n (λl=>I (x::l)) (B x)
def RV:(n:Nat)->DB n->LP->Prop
 |0,B,J=>∀{h:Hp},B h->J [] h
 |n+1,B,J=>∀{x:V},RV n (B x) (λl=>J (x::l))
abbrev SN(n:Nat)(I:Nat->LP)(B:LP->DB n):Prop:=∀k:Nat,SV n (I k) (B (Es I k))
theorem zcT:∀{n:Nat}{I:LP}{B:DB n},SV n I B->∀{l:List V}{h:Hp},l.length=n->I l h->Uq n B l h
 |0,_,_,s,[],h,_,i=>s h i
 |_+1,_,_,s,x::_,_,e,i=>zcT (s x) (Nat.succ.inj e) i
theorem RV.of:∀{n:Nat}{B:DB n}{J:LP},(∀l h,l.length=n->Uq n B l h->J l h)->RV n B J
 |0,_,_,s=>λH=>s [] _ rfl H
 |_+1,_,_,s=>RV.of λl h e H=>s (_::l) h (congrArg Nat.succ e) H
def cuV:(n:Nat)->LP->DB n
 |0,K=>K []
 |n+1,K=>λx=>cuV n λl=>K (x::l)
def PV:(n:Nat)->DB n->DB n->Prop
 |0,I,B=>∀h:Hp,I h->B h
 |n+1,I,B=>∀x:V,PV n (I x) (B x)
theorem zcs:∀{n:Nat}{I B:DB n},PV n I B->∀{l:List V}{h:Hp},Uq n I l h->Uq n B l h
 |0,_,_,s,[],h,i=>s h i
 |_+1,_,_,s,x::_,_,i=>zcs (s x) i
class HL (l:List V) (n:Nat):Prop where
 e:l.length=n
instance:HL [] 0:=⟨rfl⟩
instance{x:V}{l:List V}{n:Nat}[h:HL l n]:HL (x::l) (n+1):=⟨congrArg Nat.succ h.1⟩
section
variable{C:kW}{fn:Func}{tb:List (Nat×List Nat)}{k m:Nat}{is:List Nat}{ks:List (iE->Hp->Prop)}{Q:fq}{h:Hp}{l:List V}
theorem JV.rn(n:Nat)(B:DB n)(e:∀(ρ:iE)(h:Hp),VA C fn.ntmps tb (nj C fn tb k ks Q) ρ h=Uq n B (is.map ρ) h:=by intros;kernel_rfl)(a:is.length=n:=by rfl):RV n B (JV C fn tb k is ks Q):=
 RV.of λ_ _ g H=>JV.mk n B e (a.trans g.symm) H
def LN(n:Nat)(B:LP->DB n)(J:LP):Prop:=∀(I:Nat->LP)(_:SN n I B){k:Nat}{l:List V}{h:Hp}(_:I k l h) [HL l n],J l h
theorem JV.lm(n:Nat)(B:LP->DB n)(b:Nv (nj C fn tb k ks Q).c=true:=by kernel_rfl)(hk:(nj C fn tb k ks Q).ks=[]:=by kernel_rfl)
  (e:∀(K:LP) (ρ:iE) (h:Hp),VA C fn.ntmps tb (Hq C fn.ntmps tb {nj C fn tb k ks Q with ks:=[kf is K]} false) ρ h=Uq n (B K) (is.map ρ) h:=by intros;kernel_rfl) (a:is.length=n:=by rfl):LN n B (JV C fn tb k is ks Q):=
 λI s _ _ _ i g=>JV.loop n I B b hk e (λk _ _ g i=>zcT (s k) g i) a (a.trans g.1.symm) i
theorem WA.ln(n:Nat)(l:List V)(I:Nat->DB n)(B:DB n->DB n)(s:∀k,PV n (I k) (B (cuV n λl h=>∃k',k' < k/\Uq n (I k') l h)))(i:Uq n (I m) l h)(b:Nv (nj C fn tb k ks Q).c=true:=by kernel_rfl)(hk:(nj C fn tb k ks Q).ks=[]:=by kernel_rfl)
  (e:∀(K:LP) (ρ:iE) (h:Hp),VA C fn.ntmps tb (Hq C fn.ntmps tb {nj C fn tb k ks Q with ks:=[kf is K]} false) ρ h=Uq n (B (cuV n K)) (is.map ρ) h:=by intros;kernel_rfl) (a:is.length=n:=by rfl) (g:n=l.length:=by rfl):JV C fn tb k is ks Q l h:=
 JV.loop n (λm=>Uq n (I m)) (λK=>B (cuV n K)) b hk e (λk _ _ _ i=>zcs (s k) i) a (a.trans g) i
theorem JV.wn(n:Nat)(B:DB n)(H:Uq n B l h)(e:∀(ρ:iE)(h:Hp),VA C fn.ntmps tb (nj C fn tb k ks Q) ρ h=Uq n B (is.map ρ) h:=by intros;kernel_rfl)(g:is.length=l.length:=by rfl):JV C fn tb k is ks Q l h:=
 JV.mk n B e g H
end
def WY:List (Nat×V):=[(1,.str [80,97,114,97,109]),(2,.str [67,111,110,115,116]),(3,.str [65,100,100]),(4,.str [83,117,98]),(5,.str [77,117,108]),(6,.str [68,105,118]),(7,.str [82,101,109]),(8,.str [78,101,103]),(9,.str [78,111,116]),(10,.str [69,113]),(11,.str [78,101]),(12,.str [76,116]),(13,.str [76,101]),(14,.str [66,101,108,111,119]),(15,.str [84,121,112,101,79,102]),(16,.str [76,101,110,79,102]),(17,.str [87,111,114,100]),(18,.str [87,111,114,100,65,116]),(19,.str [80,117,116]),(20,.str [80,117,116,65,116]),(21,.str [80,104,105]),(22,.str [71,117,97,114,100]),(23,.str [80,111,108,108])]
noncomputable def C2:kW:=kW.more C1 [.names 88 WY]
noncomputable def C3:kW:=kW.more C2 [.yes 9]
noncomputable def CS:kW:=⟨zt,E1,C3.K⟩
