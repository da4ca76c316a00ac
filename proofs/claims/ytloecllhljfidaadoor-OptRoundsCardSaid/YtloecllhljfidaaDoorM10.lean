/- Parts. -/
import Derived.Test.YtloecllhljfidaaDoorM09
set_option maxHeartbeats 4000000
namespace Go.Proofs.YtloecllhljfidaaDoor.Hx
abbrev XQ:=X->gg->Hp->Prop
abbrev fq:=V->Hp->Prop
abbrev QP2:=V->V->Hp->Prop
abbrev RQ:=V->V->V->Hp->Prop
abbrev Jv:=V->V->V->V->Hp->Prop
abbrev Hf:=V->V->V->V->V->Hp->Prop
abbrev OS:=V->V->V->V->V->V->Hp->Prop
abbrev Pe:=V->V->V->V->V->V->V->Hp->Prop
abbrev JL:=V->V->V->V->V->V->V->V->Hp->Prop
abbrev QP9:=V->V->V->V->V->V->V->V->V->Hp->Prop
abbrev Ij:=V->V->V->V->V->V->V->V->V->V->Hp->Prop
abbrev Cw:=V->V->V->V->V->V->V->V->V->V->V->Hp->Prop
abbrev ZE:=V->V->V->V->V->V->V->V->V->V->V->V->Hp->Prop
abbrev FV:=V->V->V->V->V->V->V->V->V->V->V->V->V->Hp->Prop
abbrev Zt:=V->V->V->V->V->V->V->V->V->V->V->V->V->V->Hp->Prop
abbrev zc7:=V->V->V->V->V->V->V->V->V->V->V->V->V->V->V->Hp->Prop
abbrev zcV:=V->V->V->V->V->V->V->V->V->V->V->V->V->V->V->V->V->Hp->Prop
abbrev zaF:=V->V->V->V->V->V->V->V->V->V->V->V->V->V->V->V->V->V->Hp->Prop
def isVal(o:Oper):Bool:=match o.op with
 | .move x| .assign x=>Oj x
 | .makeFunc _ _ _=>true
 | .makeInterface _ x=>Oj x
 |_=>false
theorem U2{o:Oper} (h:isVal o=true):cls o=0:=by
 grind[isVal,cls]
def opV(C:fm) (o:Oper) (K:V->gg->Hp->Prop):gg->Hp->Prop:=match isVal o with
 |true=>λρ h=>Option.rec (motive:=λ_=>Prop) False (λv=>K v ρ h) ((iz o).f (.fn ρ []) h)
 |false=>O5 C o K
theorem zbp(C:fm) (o:Oper) (K:V->gg->Hp->Prop):opV C o K=O5 C o K:=by
 unfold opV
 cases hv:isVal o with
 |false=>rfl
 | true=>
   unfold O5;rw[U2 hv];rfl
def Tp(C:fm) (n:Nat) (all:List Oper) (o:Oper) (K:gg->Hp->Prop):gg->Hp->Prop:=match yq o with
 |some _=>λ_ _=>False
 | none=>match ki n all o with
   |none=>opV C o (nW n o K)
   |some g=>λρ h=>oP (g.f (.fn ρ [])) λb=>Yc C o b (nW n o K) ρ h
noncomputable section
inductive Gs where
 |last (o:Oper) (d:Nat)
 |op (o:Oper) (d:Nat) (a:Gs)
 |nest (w:Bool) (d:Nat) (sub:Gs) (o:Oper) (b:Nat) (a:Gs)
 |Dp (w:Bool) (d:Nat) (sub:Gs) (o:Oper) (b:Nat)
def Gs.dst:Gs->Nat
 | .last _ d=>d
 | .op _ _ r=>r.dst
 | .nest _ _ _ _ _ r=>r.dst
 | .Dp _ _ _ _ a=>a
def Gs.ops:Gs->List Oper
 | .last o _=>[o]
 | .op o _ r=>o::r.ops
 | .nest _ _ s o _ r=>s.ops++o::r.ops
 | .Dp _ _ s o _=>s.ops++[o]
def gA(w:Bool) (c:V) (x:Option V):Option V:=match w with
 |true=>mn c x
 |false=>uP c x
def Ou(b:Bool)(x:Option V):V:=Bool.rec (motive:=λ_=>V) V.undef (Option.rec (motive:=λ_=>V) V.undef (λv=>v) x) b
def MH(w:Bool)(v:V):Bool:=Option.rec (motive:=λ_=>Bool) false (λb=>b) (gq w v)
noncomputable def zn(g:Gs):Bool->gg->Hp->gg:=Gs.rec (motive:=λ_=>Bool->gg->Hp->gg) (λo d b ρ h=>gw ρ d (Ou b ((iz o).f (.fn ρ []) h))) (λo d _ c b ρ h=>c b (gw ρ d (Ou b ((iz o).f (.fn ρ []) h))) h) (λw d _ o e _ a c b ρ h=>c b (gw (a (MH w (ρ d)) ρ h) e (Ou b ((iz o).f (.fn (a (MH w (ρ d)) ρ h) []) h))) h) (λw d _ o e a b ρ h=>gw (a (MH w (ρ d)) ρ h) e (Ou b ((iz o).f (.fn (a (MH w (ρ d)) ρ h) []) h))) g
noncomputable def gE(g:Gs):gg->Hp->Option V:=Gs.rec (motive:=λ_=>gg->Hp->Option V) (λo _ ρ h=>(iz o).f (.fn ρ []) h) (λo d _ b ρ h=>oB ((iz o).f (.fn ρ []) h) λv=>b (gw ρ d v) h) (λw d sub _ c _ a b ρ h=>oB (gA w (ρ d) (a ρ h)) λv=>b (gw (zn sub (MH w (ρ d)) ρ h) c v) h) (λw d _ _ _ a ρ h=>gA w (ρ d) (a ρ h)) g
def P2(x:Operand) (d:Nat):Bool:=match x with
 | .tmp i=>Nat.beq i d
 |_=>false
def Yy(x:Operand) (b:Bool):Bool:=match x with
 | .const v=>match lZ 8 v with
   |some (.bool c)=>c == b
   |_=>false
 |_=>false
def Ra(o:Oper) (w:Bool) (d x:Nat):Bool:=match o.op with
 | .pick c a b=>P2 c d&&(match w with
   |true=>P2 a x&&Yy b false
   |false=>P2 b x&&Yy a true)
 |_=>false
def dOk(n:Nat) (o:Oper) (d:Nat):Bool:=match o.dst with
 |some d'=>Nat.beq d' d&&Nat.blt d n
 |none=>false
def XE(n:Nat) (all:List Oper) (o:Oper) (w:Bool) (d:Nat):Bool:=match o.guard with
 | some (j,w')=>(w' == w)&&(match all[j]? with
   |some a=>dOk n a d
   |none=>false)
 |none=>false
def Oq(n:Nat)(all:List Oper)(av:List Nat)(w:Bool)(d:Nat)(o:Oper)(d':Nat):Bool:=Nat.beq (cls o) 0&&XE n all o w d&&dOk n o d'&&av.all (λi=>!(Nat.beq i d'))
def VW(n:Nat) (all:List Oper):List Nat->Bool->Nat->List Nat->Gs->Bool
 |av,w,d,_,.last o d'=>Oq n all av w d o d'
 |av,w,d,ins,.op o d' r=>Oq n all av w d o d'&&VW n all av w d (d'::ins) r
 |av,w,d,ins,.nest w' d' s o a r=>ins.any (λi=>Nat.beq i d')&&VW n all (d'::av) w' d' [] s&&Oq n all av w d o a&&Ra o w' d' s.dst&&VW n all av w d (a::ins) r
 |av,w,d,ins, .Dp w' d' s o a=>ins.any (λi=>Nat.beq i d')&&VW n all (d'::av) w' d' [] s&&Oq n all av w d o a&&Ra o w' d' s.dst
def Ch(n:Nat) (all:List Oper) (h:Hp):List Oper->gg->gg->Prop
 |[],ρ,ρ'=>ρ' = ρ
 | o::os,ρ,ρ'=>cls o=0/\∃d v,o.dst=some d/\Nat.blt d n=true/\((ki n all o=none/\(iz o).f (.fn ρ []) h=some v)\/
   ∃g b,ki n all o=some g/\g.f (.fn ρ [])=some b/\gV b ((iz o).f (.fn ρ []) h)=some v)/\Ch n all h os (gw ρ d v) ρ'
theorem Ch.app{n:Nat} {all:List Oper} {h:Hp}:∀{os a:List Oper} {ρ e f:gg},Ch n all h os ρ e->Ch n all h a e f->Ch n all h (os++a) ρ f
 |[],_,_,_,_,b,c=>by cases b;exact c
 |_::_,_,_,_,_,⟨hc,d,v,b,c,g,i⟩,j=>⟨hc,d,v,b,c,g,i.app j⟩
theorem Kc(ρ:gg)(d:Nat)(v:V):gw ρ d v d=v:=VH ρ d v
theorem X6{n:Nat} {all:List Oper} {o:Oper} {w:Bool} {d:Nat} (a:XE n all o w d=true):∃g,ki n all o=some g/\∀ρ:gg,g.f (.fn ρ [])=gq w (ρ d):=by
 unfold XE at a;split at a
 ·rename_i j w' b;simp only[uF,EE]at a;obtain⟨e,a⟩:=a;subst e;split at a
  ·rename_i l h;unfold dOk at a;split at a
   ·rename_i d' i;simp only[uF]at a;obtain⟨c,k⟩:=a;have c:=zB c;subst c;refine⟨_,by simp only[ki,b,h,i,k];rfl,λρ=>rfl⟩
   simp_all
  simp_all
 simp_all
theorem TO{n:Nat} {all:List Oper} {av:List Nat} {w:Bool} {d:Nat} {o:Oper} {d':Nat} (hk:Oq n all av w d o d' = true) :
  cls o=0/\(∃g,ki n all o=some g/\∀ρ:gg,g.f (.fn ρ [])=gq w (ρ d))/\o.dst=some d'/\Nat.blt d' n=true/\∀i∈av,i≠d':=by
 unfold Oq at hk;simp only[uF]at hk;obtain⟨⟨⟨b,c⟩,a⟩,h⟩:=hk;refine⟨zB b,X6 c,?_⟩;unfold dOk at a;split at a
 ·rename_i e j;simp only[uF]at a
  grind[zB,O4,Yd,absurd]
 simp_all
theorem KL{x:Operand} {d:Nat} (h:P2 x d=true):x = .tmp d:=by
 unfold P2 at h
 grind[zB,absurd]
theorem Ug{x:Operand} {b:Bool} (hx:Yy x b=true) (t:Tm) (h:Hp):(qJ x).f t h=some (.bool b):=by
 unfold Yy at hx;split at hx
 ·rename_i v;split at hx
  ·rename_i c hc;have e:c=b:=by simpa using hx
   subst e;show(L9 (.const v)).f t=_
   grind[L9]
  simp_all
 simp_all
theorem TX{o:Oper} {w:Bool} {d x:Nat} (e:Ra o w d x=true) {ρ:gg} {h:Hp} {c:Bool} (hc:ρ d = .bool c):(iz o).f (.fn ρ []) h=some (match w,c with
  |true,true=>ρ x
  |true,false=> .bool false
  |false,false=>ρ x
  |false,true=> .bool true)/\cls o=0:=by
 unfold Ra at e;split at e
 ·rename_i c' a b i;simp only[uF]at e;obtain⟨k,g⟩:=e;have l:=KL k;subst l;refine⟨?_,by grind[cls]⟩;have e0:(qJ (.tmp d)).f (.fn ρ []) h=some (.bool c):=by show some (ρ d)=_;rw[hc]
  unfold iz;rw[i];simp only[Ju,e0,oB]
  cases w with
  | true=>
    simp only[uF]at g;have j:=KL g.1;subst j
    cases c with
    |true=>rfl
    |false=>grind[Ug]
  | false=>
    simp only[uF]at g;have j:=KL g.1;subst j
    cases c with
    |true=>grind[Ug]
    |false=>rfl
 simp_all
theorem T9{w:Bool} {c:V} {x:Option V} {v:V} (a:gA w c x=some v):∃b,c = .bool b/\gq w c=some (b == w)/\((b=w/\x=some v)\/(b≠w/\v = .bool (!w))):=by
 unfold gA at a
 cases w with
 | true=>
   simp only[mn]at a;split at a
   ·cases a;simp_all
   ·simp_all
   ·cases a
 | false=>
   simp only[uP]at a;split at a
   ·cases a;simp_all
   ·simp_all
   ·cases a
theorem Qp(ρ:gg){d i:Nat}(v:V)(h:i≠d):gw ρ d v i=ρ i:=Zs ρ v h
theorem Ch.one{n:Nat} {all:List Oper} {av:List Nat} {w:Bool} {d:Nat} {o:Oper} {d':Nat} (hk:Oq n all av w d o d' = true) {ρ:gg} {h:Hp} {b:Bool} (hb:gq w (ρ d)=some b) {v:V}
  (hv:gV b ((iz o).f (.fn ρ []) h)=some v):Ch n all h [o] ρ (gw ρ d' v):=by
 obtain⟨a,⟨g,i,j⟩,c,e,k⟩:=TO hk;exact⟨a,d',v,c,e,by grind,rfl⟩
theorem J0{b:Bool} {x:Option V} {v:V} (h:gV b x=some v):Ou b x=v:=by
 cases b with
 |true=>have h':x=some v:=h;subst h';rfl
 |false=>cases h;rfl
def QK(n:Nat) (all:List Oper) (av:List Nat) (os:List Oper) (b:Bool) (ρ a:gg) (h:Hp) (d:Nat) (x:V):Prop:=Ch n all h os ρ a/\a d=x/\(∀i∈av,a i=ρ i)/\(b=false->∀i,ρ i = .undef->a i = .undef)
theorem QK.one{n:Nat} {all:List Oper} {av:List Nat} {w:Bool} {d:Nat} {o:Oper} {d':Nat} (hk:Oq n all av w d o d' = true) {ρ:gg} {h:Hp} {b:Bool} (hb:gq w (ρ d)=some b) {v:V}
  (hv:gV b ((iz o).f (.fn ρ []) h)=some v):QK n all av [o] b ρ (gw ρ d' v) h d' v:=by
 obtain⟨_,_,_,_,a⟩:=TO hk;refine⟨Ch.one hk hb hv,Kc _ _ _,by grind[Qp],λe i hi=>?_⟩;subst e;cases hv
 grind[Kc,Qp]
theorem QK.trans{n:Nat} {all:List Oper} {av:List Nat} {os a:List Oper} {b:Bool} {ρ g j:gg} {h:Hp} {d d':Nat} {x k:V} (f:QK n all av os b ρ g h d x) (c:QK n all av a b g j h d' k):QK n all av (os++a) b ρ j h d' k:=
 ⟨f.1.app c.1,c.2.1,λi hi=>(c.2.2.1 i hi).trans (f.2.2.1 i hi),λe i hi=>c.2.2.2 e i (f.2.2.2 e i hi)⟩
theorem Vt{n:Nat} {all:List Oper}:∀(g:Gs) {av:List Nat} {w:Bool} {d:Nat} {k:List Nat},VW n all av w d k g=true->d∈av->∀{ρ:gg} {h:Hp} {b:Bool},gq w (ρ d)=some b->
  (b=false->∀i∈k,ρ i = .undef)->∀{x:V},gV b (gE g ρ h)=some x->QK n all av g.ops b ρ (zn g b ρ h) h g.dst x:=by
 have nest:∀(s:Gs),(∀{av:List Nat} {w:Bool} {d:Nat} {k:List Nat},VW n all av w d k s=true->d∈av->∀{ρ:gg} {h:Hp} {b:Bool},gq w (ρ d)=some b->
    (b=false->∀i∈k,ρ i = .undef)->∀{x:V},gV b (gE s ρ h)=some x->QK n all av s.ops b ρ (zn s b ρ h) h s.dst x)->
   ∀{av:List Nat} {w w':Bool} {d d' p:Nat} {k:List Nat} {o:Oper},k.any (λi=>Nat.beq i d')=true->VW n all (d'::av) w' d' [] s=true->Oq n all av w d o p=true->Ra o w' d' s.dst=true->d∈av->
   ∀{ρ:gg} {h:Hp} {b:Bool},gq w (ρ d)=some b->(b=false->∀i∈k,ρ i = .undef)->∀{v:V},gV b (gA w' (ρ d') (gE s ρ h))=some v->
   gV b ((iz o).f (.fn (zn s (MH w' (ρ d')) ρ h) []) h)=some v/\QK n all av (s.ops++[o]) b ρ (gw (zn s (MH w' (ρ d')) ρ h) p v) h p v:=by
  intro s B av w w' d d' p k o G hc R W m ρ h b hb hi v hv;obtain⟨i,X,H⟩:=List.any_eq_true.1 G;have e:=zB H;subst e
  cases b with
  | true=>
    obtain⟨c,I,C,S⟩:=T9 (show gA w' (ρ i) (gE s ρ h)=some v from hv);have J:MH w' (ρ i)=(c == w'):=by unfold MH;rw[C]
    rw[J];obtain⟨y,Y⟩:∃y,gV (c == w') (gE s ρ h)=some y/\(c=w'->y=v):=by
      rcases S with⟨D,K⟩|⟨D,K⟩
      ·simp_all
      ·have:(c == w')=false:=by simp[D]
       rw[this];simp_all
    obtain⟨L,T,M,Z⟩:=B hc (Y4 ..) C (by simp_all) Y.1;have N:zn s (c == w') ρ h i = .bool c:=by rw[M i (Y4 ..)];exact I
    have O:=(TX W (h:=h) N).1;have q:(iz o).f (.fn (zn s (c == w') ρ h) []) h=some v:=by
      rw[O,T];rcases S with⟨D,K⟩|⟨D,K⟩
      ·grind
      ·grind
    refine⟨q,?_⟩;have a:=QK.one R (ρ:=zn s (c == w') ρ h) (h:=h) (b:=true) (by simp_all) (v:=v) q
    refine⟨L.app a.1,a.2.1,λj E=>(a.2.2.1 j E).trans (by simp_all),by simp_all⟩
  | false=>
    have I:ρ i = .undef:=by simp_all
    have C:gq w' (ρ i)=some false:=by rw[I];rfl
    have J:MH w' (ρ i)=false:=by unfold MH;rw[C]
    rw[J];cases hv;obtain⟨L,T,M,Z⟩:=B hc (Y4 ..) C (by simp_all) (x:= .undef) rfl;refine⟨rfl,?_⟩;have a:=QK.one R (ρ:=zn s false ρ h) (h:=h) (b:=false) (by rw[M d (wBU _ m)];exact hb) (v:= .undef) rfl;exact⟨L.app a.1,a.2.1,λj E=>(a.2.2.1 j E).trans (by simp_all),λe j E=>a.2.2.2 e j (by simp_all)⟩
 intro g
 induction g with
 | last o d'=>
   intro av w d k hk m ρ h b hb hi x hx;have l:gV b ((iz o).f (.fn ρ []) h)=some x:=hx;show QK n all av [o] b ρ (gw ρ d' (Ou b ((iz o).f (.fn ρ []) h))) h d' x;rw[J0 l]
   exact QK.one hk hb l
 | op o d' r B=>
   intro av w d k hk m ρ h b hb hi x hx;simp only[VW,uF]at hk;obtain⟨v,hv,l⟩:∃v,gV b ((iz o).f (.fn ρ []) h)=some v/\gV b (gE r (gw ρ d' v) h)=some x:=by
     cases b with
     | true=>
       obtain⟨v,t,u⟩:=fj.1 (show oB ((iz o).f (.fn ρ []) h) _=some x from hx)
       exact⟨v,t,u⟩
     |false=>simp_all
   have a:=QK.one hk.1 hb hv;show QK n all av ([o]++r.ops) b ρ (zn r b (gw ρ d' (Ou b ((iz o).f (.fn ρ []) h))) h) h r.dst x;rw[J0 hv];refine a.trans (B hk.2 m (by rw[a.2.2.1 d m];exact hb) ?_ l);intro e i z;rcases FZ.1 z with e'|e'
   ·simp_all[Kc]
   ·exact a.2.2.2 e i (by simp_all)
 | nest w' d' s o p r A B=>
   intro av w d k hk m ρ h b hb hi x hx;simp only[VW,uF]at hk;obtain⟨⟨⟨⟨t,u⟩,P⟩,Q⟩,h5⟩:=hk;obtain⟨v,hv,l⟩:∃v,gV b (gA w' (ρ d') (gE s ρ h))=some v/\gV b (gE r (gw (zn s (MH w' (ρ d')) ρ h) p v) h)=some x:=by
     cases b with
     | true=>
       obtain⟨v,t,u⟩:=fj.1 (show oB (gA w' (ρ d') (gE s ρ h)) _=some x from hx)
       exact⟨v,t,u⟩
     |false=>simp_all
   obtain⟨U,F⟩:=nest s A t u P Q m hb hi hv;show QK n all av (s.ops++([o]++r.ops)) b ρ (zn r b (gw (zn s (MH w' (ρ d')) ρ h) p (Ou b ((iz o).f (.fn (zn s (MH w' (ρ d')) ρ h) []) h))) h) h r.dst x;rw[J0 U,<-Mb];refine F.trans (B h5 m (by rw[F.2.2.1 d m];exact hb) ?_ l);intro e i z;rcases FZ.1 z with e'|e'
   ·simp_all[Kc]
   ·exact F.2.2.2 e i (by simp_all)
 | Dp w' d' s o p A=>
   intro av w d k hk m ρ h b hb hi x hx;simp only[VW,uF]at hk;obtain⟨⟨⟨t,u⟩,P⟩,Q⟩:=hk;obtain⟨U,F⟩:=nest s A t u P Q m hb hi (show gV b (gA w' (ρ d') (gE s ρ h))=some x from hx);show QK n all av (s.ops++[o]) b ρ (gw (zn s (MH w' (ρ d')) ρ h) p (Ou b ((iz o).f (.fn (zn s (MH w' (ρ d')) ρ h) []) h))) h p x
   grind[J0]
inductive SS where
 |op (o:Oper) (d:Nat)
 |nest (w:Bool) (d:Nat) (sub:Gs) (o:Oper) (a:Nat)
def SS.dst:SS->Nat
 | .op _ d=>d
 | .nest _ _ _ _ a=>a
def SS.ops:SS->List Oper
 | .op o _=>[o]
 | .nest _ _ s o _=>s.ops++[o]
def SS.one:SS->Gs
 | .op o d=> .last o d
 | .nest w d s o a=> .Dp w d s o a
def SS.cons(r:Gs):SS->Gs
 | .op o d=> .op o d r
 | .nest w d s o a=> .nest w d s o a r
def zc3(all:List Oper) (o:Oper):Option (Bool×Nat):=match o.guard with
 | some (j,w)=>match all[j]? with
   | some a=>match a.dst with
     |some d=>some (w,d)
     |none=>none
   |none=>none
 |none=>none
def N0(n : Nat) (all:List Oper) (Zo:Bool->Nat->List Nat->List Oper->Option (Gs×List Oper)) (w:Bool) (d:Nat) (a:List Nat) (os:List Oper):Option (SS×List Oper):=match os with
  |[]=>none
  | o ::os'=>match XE n all o w d&&Nat.beq (cls o) 0,o.dst with
    |true,some d'=>some (.op o d',os')
    | _,_ => match zc3 all o with
      |none=>none
      | some (w',d')=>match a.any (λi=>Nat.beq i d')with
        |false=>none
        | true=>match Zo w' d' [] (o::os')with
          | some (s,p::os'')=>match XE n all p w d&&Ra p w' d' s.dst,p.dst with
            |true,some dp=>some (.nest w' d' s p dp,os'')
            |_,_=>none
          |_=>none
noncomputable def Zo(n:Nat) (all:List Oper) (fuel:Nat):Bool->Nat->List Nat->List Oper->Option (Gs×List Oper):=
 Nat.rec (motive:=λ_=>Bool->Nat->List Nat->List Oper->Option (Gs×List Oper)) (λ_ _ _ _=>none) (λ_ b w d a os=>match N0 n all b w d a os with
  |none=>none
  | some (it,os')=>match b w d (it.dst::a) os' with
    |some (g,r)=>some (it.cons g,r)
    |none=>some (it.one,os')) fuel
theorem Sf{n:Nat} {all:List Oper} {Zo:Bool->Nat->List Nat->List Oper->Option (Gs×List Oper)} (b:∀w d a os g r,Zo w d a os=some (g,r)->os=g.ops++r) {w:Bool} {d:Nat} {a:List Nat} {os:List Oper} {it:SS} {r:List Oper}
  (h:N0 n all Zo w d a os=some (it,r)):os=it.ops++r:=by
 unfold N0 at h;split at h
 ·cases h
 ·split at h
  ·cases h;rfl
  ·split at h
   ·cases h
   grind[SS.ops,Mb]
theorem Ox{n:Nat} {all:List Oper}:∀(fuel:Nat) (w:Bool) (d:Nat) (a:List Nat) (os:List Oper) (g:Gs) (r:List Oper),Zo n all fuel w d a os=some (g,r)->os=g.ops++r
 |0,_,_,_,_,_,_,h=>by cases h
 | fuel+1,w,d,a,os,g,r,h=>by
   have h':(match N0 n all (Zo n all fuel) w d a os with
     |none=>none
     | some (it,b)=>match Zo n all fuel w d (it.dst::a) b with
       |some (g,r)=>some (it.cons g,r)
       |none=>some (it.one,b))=some (g,r):=h
   split at h'
   ·cases h'
   ·rename_i it b c
    have f:=Sf (λw d a os g r e=>Ox fuel w d a os g r e) c;split at h'
    ·rename_i j r' e
     cases h';have i:=Ox fuel _ _ _ _ _ _ e;rw[f,i];cases it <;> simp[SS.ops,SS.cons,Gs.ops]
    ·cases h'
     rw[f];cases it <;> simp[SS.ops,SS.one,Gs.ops]
noncomputable def Wl(n:Nat) (all:List Oper) (os:List Oper):Option (Bool×Nat×Gs×Nat):=match os with
 |[]=>none
 | o ::_ => match o.guard with
   |none=>none
   | some (j,w)=>match all[j]? with
     |none=>none
     | some a=>match a.guard,a.dst,Nat.beq (cls o) 0 with
       | none,some d,true=>match Zo n all 60 w d [] os with
         | some (g,p::_)=>match p.guard,p.dst with
           | none,some dp=>match Ra p w d g.dst&&Nat.blt dp n&&VW n all [d] w d [] g with
             |true=>some (w,d,g,dp)
             |false=>none
           |_,_=>none
         |_=>none
       |_,_,_=>none
theorem Yv{n:Nat} {all os:List Oper} {w:Bool} {d:Nat} {g:Gs} {a:Nat} (h:Wl n all os=some (w,d,g,a)):∃p r,os=g.ops++p::r/\p.guard=none/\p.dst=some a/\Ra p w d g.dst=true/\Nat.blt a n=true/\VW n all [d] w d [] g=true:=by
 unfold Wl at h;split at h
 ·cases h
 ·split at h
  ·cases h
  ·split at h
   ·cases h
   ·split at h
    ·split at h
     ·rename_i c;split at h
      ·rename_i e f;split at h
       ·rename_i b;cases h;simp only[uF]at b
        grind[Ox]
       ·cases h
      ·cases h
     ·cases h
    ·cases h
theorem EK{n:Nat} {o:Oper} {K a:gg->Hp->Prop} (b:∀ρ h,K ρ h->a ρ h) {v:V} {ρ:gg} {h:Hp} (hk:nW n o K v ρ h):nW n o a v ρ h:=by
 grind[nW,Nat.blt]
theorem oW{α:Type}{x:Option α}{k k':α->Prop}(h:oP x k)(f:∀a,k a->k' a):oP x k':=by grind[oM]
theorem W0{C:fm} {o:Oper} {K b:V->gg->Hp->Prop} (d:∀v ρ h,K v ρ h->b v ρ h) {ρ:gg} {h:Hp} (hk:O5 C o K ρ h):O5 C o b ρ h:=by
 unfold O5 at hk⊢;generalize cls o=c at hk⊢;rcases c with _|_|c
 ·grind[oW]
 ·grind[oW]
 ·show PJ C o b ρ h;have a:PJ C o K ρ h:=hk;unfold PJ at a⊢;cases hi:wS o
  all_goals rw[hi]at a
  ·grind[oW]
  ·exact oW a λx H=>H.mono (by simp_all)
theorem XO{C:fm} {o:Oper} {b:Bool} {K a:V->gg->Hp->Prop} (d:∀v ρ h,K v ρ h->a v ρ h) {ρ:gg} {h:Hp} (hk:Yc C o b K ρ h):Yc C o b a ρ h:=by
 unfold Yc at hk⊢;generalize cls o=c at hk⊢;rcases c with _|_|c
 ·grind[oW]
 ·grind[oW]
 ·simp only at hk⊢;cases hi:wS o
  all_goals rw[hi]at hk
  ·grind[oW]
  ·refine oW hk λx H=>?_
   cases x with
   |none=>simp_all
   |some y=>exact cP.mono H (by simp_all)
theorem Sb{C:fm} {n:Nat} {all:List Oper} {o:Oper} {K a:gg->Hp->Prop} (b:∀ρ h,K ρ h->a ρ h) {ρ:gg} {h:Hp} (hk:ym C n all o K ρ h):ym C n all o a ρ h:=by
 unfold ym at hk⊢
 cases hd:yq o with
 |some q=>simp_all
 | none=>
   rw[hd]at hk;simp only at hk⊢
   cases hw:ki n all o with
   |none=>rw[hw]at hk;grind[W0,EK]
   |some g=>grind[oW,XO,EK]
theorem Wn(C:fm) (n:Nat) (all:List Oper) (o:Oper) (K:gg->Hp->Prop):Tp C n all o K=ym C n all o K:=by
 grind[Tp,ym,zbp]
theorem Ii{o:Oper} (h:cls o=0):yq o=none:=by
 grind[yq,cls]
theorem Ch.xP{C:fm} {n:Nat} {all:List Oper} {h:Hp} {K:gg->Hp->Prop} {a:List Oper}:∀{os:List Oper} {ρ b:gg},Ch n all h os ρ b->xP C n all K a b h->xP C n all K (os++a) ρ h
 |[],_,_,hc,hk=>by cases hc;exact hk
 | o::os,ρ,b,⟨h0,d,v,c,e,i,f⟩,hk=>by
   have g:=f.xP (C:=C) (K:=K) hk;have j:nW n o (Hx.xP C n all K (os++a)) v ρ h:=by unfold nW;rw[c];simp only[e];exact g
   show ym C n all o (Hx.xP C n all K (os++a)) ρ h
   grind[ym,Ii,O5,ed,Yc]
noncomputable def Rn(C:fm) (n:Nat) (all:List Oper) (K:gg->Hp->Prop) (os:List Oper):Nat->gg->Hp->Prop:=
 List.rec (motive:=λ_=>Nat->gg->Hp->Prop) (λ_=>K) (λo os a b=>Nat.rec (motive:=λ_=>gg->Hp->Prop)
  (match Wl n all (o::os)with
   |some (w,d,g,dp)=>λρ h=>oP (gA w (ρ d) (gE g ρ h)) λv=>a g.ops.length (gw (zn g (MH w (ρ d)) ρ h) dp v) h
   |none=>Tp C n all o (a 0)) (λk _=>a k) b) os
theorem HB{C:fm} {n:Nat} {all:List Oper} {K:gg->Hp->Prop}:∀(os:List Oper) (e:Nat) {ρ:gg} {h:Hp},Rn C n all K os e ρ h->xP C n all K (os.drop e) ρ h
 |[],e,ρ,h,hk=>by rw[List.drop_nil];exact hk
 |o::os,e+1,ρ,h,hk=>HB os e hk
 | o ::os,0,ρ,h,hk=>by
   have a:(match Wl n all (o::os)with
     |some (w,d,g,k)=>λ(ρ:gg) (h:Hp)=>oP (gA w (ρ d) (gE g ρ h)) λv=>Rn C n all K os g.ops.length (gw (zn g (MH w (ρ d)) ρ h) k v) h
     |none=>Tp C n all o (Rn C n all K os 0):gg->Hp->Prop) ρ h:=hk
   show xP C n all K (o::os) ρ h
   cases hg:Wl n all (o::os)with
   | some x=>
     obtain⟨w,d,g,k⟩:=x;rw[hg]at a;simp only at a;obtain⟨p,r,q,N,A,b,i,B⟩:=Yv hg;obtain⟨v,D,s⟩:=kG.1 a;obtain⟨c,E,c2,t⟩:=T9 D;have F:MH w (ρ d)=(c == w):=by unfold MH;rw[c2]
     rw[F]at s;obtain⟨y,G⟩:∃y,gV (c == w) (gE g ρ h)=some y/\(c=w->y=v):=by
       rcases t with⟨b,i⟩|⟨b,i⟩
       ·simp_all
       ·have:(c == w)=false:=by simp[b]
        rw[this];simp_all
     obtain⟨H,I,J,O⟩:=Vt g B (Y4 ..) c2 (by simp_all) G.1;have l:zn g (c == w) ρ h d = .bool c:=by rw[J d (Y4 ..)];exact E
     have j:=TX b (h:=h) l;have u:(iz p).f (.fn (zn g (c == w) ρ h) []) h=some v:=by
       rw[j.1,I];rcases t with⟨b,i⟩|⟨b,i⟩
       ·grind
       ·grind
     have m:Ch n all h [p] (zn g (c == w) ρ h) (gw (zn g (c == w) ρ h) k v):=⟨j.2,k,v,A,i,by grind[ki],rfl⟩
     have hlen:os.drop g.ops.length=r:=by
       have L:(o::os).drop (g.ops.length+1)=r:=by rw[q,List.append_cons];exact by simp_all
       exact L
     have z:=HB os _ s;rw[hlen]at z;rw[q,List.append_cons]
     exact(H.app m).xP z
   | none=>
     rw[hg]at a;simp only[Wn]at a;exact Sb (λρ h M=>by have:=HB os 0 M;exact this) a
def DQ(o:Oper):Bool:=match o.op with
 | .move x| .assign x| .nilCheck x| .fieldAddr _ x _| .field _ x _| .unOp _ _ x| .extract x _=>Oj x
 | .pick c a b=>Oj c&&Oj a&&Oj b
 | .binOp _ _ x y _=>Oj x&&Oj y
 | .indexAddr _ x i| .index _ x i=>Oj x&&Oj i
 | .build _ _| .makeFunc _ _ _=>true
 | .makeInterface _ x=>Oj x
 | .call c=>match c.callee,c.args.toList,c.argTypes.toList with
   | .builtin .len,[x],ty::_=>match P0.underlying ty with
     |some (.slice _)=>Oj x
     |_=>false
   |_,_,_=>false
 |_=>false
theorem XF{o:Oper} (a:DQ o=true) (t:Tm) (h h':Hp):(iz o).f t h=(iz o).f t h':=by
 unfold DQ at a;unfold iz;split at a
 all_goals rename_i b
 all_goals try rw[b]
 all_goals try simp only[uF]at a
 ·grind[ka]
 ·grind[ka]
 ·grind[yh,ka]
 ·grind[pA,ka]
 ·grind[FP,ka]
 ·grind[ka]
 ·grind[CO,ka]
 ·grind[Ju,ka]
 ·grind[ka]
 ·grind[pR,ka]
 ·grind[Gt,ka]
 ·simp only[Gc];grind
 ·split <;> first|rfl|simp_all
 ·dsimp only;split <;> first|rfl|grind[ka]
 ·grind[hlen,ka,absurd]
 simp_all
abbrev RE:=Bool×Rec×Bool×Bool
def Fc(k:Nat) (h:Hp) (rs:List RE) (K:Prop):Prop:=List.rec (motive:=λ_=>Prop) K (λr _ a=>Bool.rec (motive:=λ_=>Prop) (Option.rec (motive:=λ_=>Prop) (Bool.rec (motive:=λ_=>Prop) a (Bool.rec (motive:=λ_=>Prop) True (Cl h r.2.1) r.1/\a) r.2.2.2) (λ_=>Bool.rec (motive:=λ_=>Prop) True (Cl h r.2.1) r.1/\a) r.2.1.made) a (Nat.blt r.2.1.last k)) rs
def Hi(rs:List RE):List RE:=rs.map λr=>(r.1,r.2.1,r.2.2.1,!r.2.2.1)
def rA(rs:List RE):List (Bool×Rec):=rs.map λr=>(r.1,r.2.1)
def itV(C:fm) (n:Nat) (all:List Oper) (ws:List It) (a:It) (d:Nat->gg->Hp->List RE->Prop) (k:Nat):gg->Hp->List RE->Prop:=match cls a.o with
  | 0 =>match ki n all a.o with
    | none=>match isVal a.o with
      |true=>λρ h rs=>Option.rec (motive:=λ_=>Prop) False (λv=>nW n a.o (λc h=>d k c h ((true,{it:=a,t:= .fn ρ [],v,made:=none,last:=late ws a},DQ a.o,false)::rs)) v ρ h) ((iz a.o).f (.fn ρ []) h)
      |false=>λρ h rs=>oP ((iz a.o).f (.fn ρ []) h) λv=>nW n a.o (λc h=>d k c h ((true,{it:=a,t:= .fn ρ [],v,made:=none,last:=late ws a},DQ a.o,false)::rs)) v ρ h
    |some g=>λρ h rs=>oP (g.f (.fn ρ [])) λb=>oP (gV b ((iz a.o).f (.fn ρ []) h)) λv=>
       nW n a.o (λc h=>d k c h ((b,{it:=a,t:= .fn ρ [],v,made:=none,last:=late ws a},DQ a.o,false)::rs)) v ρ h
  | 1=>match ki n all a.o with
    |none=>λρ h rs=>oP ((pz a.o).f (.fn ρ [])) λr=>nW n a.o (λc h'=>d k c h' ((true,{it:=a,t:= .fn ρ [],v:=r.2 h.next,made:=some (h.next,r.1),last:=late ws a},false,false)::Hi rs)) (r.2 h.next) ρ (h.new r.1)
    |some _=>λ_ _ _=>False
  | _ =>match ki n all a.o with
    |none=>λρ h rs=>Fc k h rs (PJ C a.o (λv ρ h'=>h.next<=h'.next/\nW n a.o (λρ h=>d (Nat.succ k) ρ h (Hi rs)) v ρ h') ρ h)
    | some g=>match wS a.o with
      |true=>λρ h rs=>Fc k h rs (oP (g.f (.fn ρ [])) λb=>oP (gC b (oB ((jL a.o).f (.fn ρ []) h) FY)) λx=>vD C x h λv h'=>h.next<=h'.next/\nW n a.o (λρ h=>d (Nat.succ k) ρ h (Hi rs)) v ρ h')
      |false=>λ_ _ _=>False
def F0(l:List It):Bool:=l.all λa=>Nat.beq (cls a.o) 0
def Rq(C:fm) (n:Nat) (all:List Oper) (ws:List It) (K:gg->Hp->Prop) (l:List It):Nat->gg->Hp->List RE->Prop:=
 List.rec (motive:=λ_=>Nat->gg->Hp->List RE->Prop) (λk ρ h rs=>Fc k h rs (K ρ h)) (λa l b k=>match F0 (a::l)with
  |true=>λρ h rs=>Rn C n all (λρ h=>Fc k h rs (K ρ h)) ((a::l).map (·.o)) 0 ρ h
  |false=>itV C n all ws a b k) l
def Vj(h:Hp)(rs:List RE):Prop:=∀r∈rs,r.1=true->r.2.1.made=none->(r.2.2.1=true->∀h',Cl h' r.2.1)/\(r.2.2.2=false->Cl h r.2.1)
theorem Vj.uH{h:Hp} {rs:List RE} (hi:Vj h rs) (h':Hp):Vj h' (Hi rs):=by
 intro r b hb c;obtain⟨r',a,e⟩:=GL.1 b;subst e;obtain⟨d,_⟩:=hi r' a hb c
 simp_all
theorem LY(rs:List RE):rA (Hi rs)=rA rs:=by
 simp[rA,Hi]
theorem wq{k:Nat} {h:Hp}:∀{rs:List RE} {K d:Prop},Vj h rs->(K->d)->Fc k h rs K->vh k h (rA rs) d
 |[],_,_,_,hk,hh=>hk hh
 | (b,r,f,st)::rs,K,d,hi,hk,hh=>by
   have c:Vj h rs:=λr c=>hi r (wBU _ c);have h0:=hi _ (Y4 ..)
   have a:Bool.rec (motive:=λ_=>Prop)
     (Option.rec (motive:=λ_=>Prop) (Bool.rec (motive:=λ_=>Prop) (Fc k h rs K) (Bool.rec (motive:=λ_=>Prop) True (Cl h r) b/\Fc k h rs K) st)
     (λ_=>Bool.rec (motive:=λ_=>Prop) True (Cl h r) b/\Fc k h rs K) r.made) (Fc k h rs K) (Nat.blt r.last k):=hh
   show Bool.rec (motive:=λ_=>Prop) (Bool.rec (motive:=λ_=>Prop) True (Cl h r) b/\vh k h (rA rs) d) (vh k h (rA rs) d) (Nat.blt r.last k)
   cases hb:Nat.blt r.last k with
   |true=>rw[hb]at a;exact wq c hk a
   | false=>
     rw[hb]at a
     cases hm:r.made with
     |some x=>rw[hm]at a;exact⟨a.1,wq c hk a.2⟩
     | none=>
       rw[hm]at a
       cases st with
       |true=>exact⟨a.1,wq c hk a.2⟩
       | false=>
         refine⟨?_,wq c hk a⟩;cases b <;> grind
theorem Xk{C:fm} {o:Oper} {K a:V->gg->Hp->Prop} (b:∀v ρ h,K v ρ h->a v ρ h) {ρ:gg} {h:Hp} (hk:PJ C o K ρ h):PJ C o a ρ h:=by
 unfold PJ at hk⊢;cases hi:wS o
 all_goals rw[hi]at hk
 ·grind[oW]
 ·exact oW hk λx H=>H.mono (by simp_all)
theorem MF{k:Nat} {h:Hp} {K:Prop} {rs:List (Bool×Rec)}:∀{new:List (Bool×Rec)},(∀r∈new,r.1=true->Cl h r.2)->vh k h rs K->vh k h (new++rs) K
 |[],_,hh=>hh
 | r ::new,hn,hh=>by
   have a:=MF (new:=new) (by simp_all) hh;show vh k h (r::(new++rs)) K;simp only[vh]
   cases hb:Nat.blt r.2.last k with
   |true=>exact a
   | false=>
     refine⟨?_,a⟩;cases hb:r.1 <;> grind
theorem Lf{C:fm} {n:Nat} {all:List Oper} {ws:List It} {K:gg->Hp->Prop} {k:Nat} {rs:List (Bool×Rec)}:∀{l:List It} {ρ:gg} {h:Hp} {new:List (Bool×Rec)},F0 l=true->(∀r∈new,r.1=true->Cl h r.2)->
  xP C n all (λρ h=>vh k h rs (K ρ h)) (l.map (·.o)) ρ h->Gp C n all ws K l k ρ h (new++rs)
 |[],_,_,_,_,hn,hk=>MF hn hk
 | a ::l,ρ,h,new,m,hn,hk=>by
   simp only[F0,Y9,uF]at m;obtain⟨hc,m⟩:=m;have hc:=zB hc;have c:ym C n all a.o (xP C n all (λρ h=>vh k h rs (K ρ h)) (l.map (·.o))) ρ h:=hk;show itR C n all ws a (Gp C n all ws K l) k ρ h (new++rs)
   have p:∀{b:Bool} {v:V},(b=true->(iz a.o).f (.fn ρ []) h=some v)->nW n a.o (xP C n all (λρ h=>vh k h rs (K ρ h)) (l.map (·.o))) v ρ h->
       nW n a.o (λw h=>Gp C n all ws K l k w h ((b,{it:=a,t:= .fn ρ [],v,made:=none,last:=late ws a})::(new++rs))) v ρ h:=by
     intro b v hb j;have i:∀r∈(b,({it:=a,t:= .fn ρ [],v,made:=none,last:=late ws a}:Rec))::new,r.1=true->Cl h r.2:=by
       intro r x q;rcases FZ.1 x with e|e
       ·subst e;exact hb q
       ·grind
     unfold nW at j⊢
     cases ho:a.o.dst with
     |none=>rw[ho]at j;exact Lf m i j
     | some d=>
       rw[ho]at j;simp only at j⊢
       cases hb:Nat.blt d n with
       |true=>rw[hb]at j;exact Lf m i j
       |false=>simp_all
   unfold ym at c;rw[Ii hc]at c;simp only at c;unfold itR;rw[hc];simp only
   cases hw:ki n all a.o with
   | none=>
     rw[hw]at c;simp only[O5,hc]at c;obtain⟨v,s,u⟩:=kG.1 c
     simp_all
   | some g=>
     rw[hw]at c;simp only[Yc,hc]at c;obtain⟨b,h0,c⟩:=kG.1 c;obtain⟨v,s,u⟩:=kG.1 c;exact ed h0 (ed s (p (λe=>by simp_all) u))
theorem Iw{C:fm} {n:Nat} {all:List Oper} {K f:gg->Hp->Prop} {h:Hp} (i:∀ρ,K ρ h->f ρ h):∀{l:List It} {ρ:gg},F0 l=true->xP C n all K (l.map (·.o)) ρ h->xP C n all f (l.map (·.o)) ρ h
 |[],_,_,hk=>i _ hk
 | a ::l,ρ,e,hk=>by
   simp only[F0,Y9,uF]at e;obtain⟨hc,e⟩:=e;have hc:=zB hc;have b:ym C n all a.o (xP C n all K (l.map (·.o))) ρ h:=hk;show ym C n all a.o (xP C n all f (l.map (·.o))) ρ h;have j:∀{v:V},nW n a.o (xP C n all K (l.map (·.o))) v ρ h->nW n a.o (xP C n all f (l.map (·.o))) v ρ h:=by
     intro v c;unfold nW at c⊢
     cases ho:a.o.dst with
     |none=>rw[ho]at c;exact Iw i e c
     | some d=>
       rw[ho]at c;simp only at c⊢
       cases hb:Nat.blt d n with
       |true=>rw[hb]at c;exact Iw i e c
       |false=>simp_all
   unfold ym at b⊢;rw[Ii hc]at b⊢;simp only at b⊢
   cases hw:ki n all a.o with
   | none=>
     grind[O5,kG,ed]
   | some g=>
     rw[hw]at b
     grind[Yc,kG,ed]
theorem J4{C:fm} {n:Nat} {all:List Oper} {ws:List It} {K:gg->Hp->Prop}:∀(l:List It) {k:Nat} {ρ:gg} {h:Hp} {rs:List RE},Vj h rs->Rq C n all ws K l k ρ h rs->Gp C n all ws K l k ρ h (rA rs)
 |[],_,_,_,_,hi,hk=>wq hi (λx=>x) hk
 | a ::l,k,ρ,h,rs,hi,hk=>by
   have i:(match F0 (a::l)with
     |true=>λ(ρ:gg) (h:Hp) (rs:List RE)=>Rn C n all (λρ h=>Fc k h rs (K ρ h)) ((a::l).map (·.o)) 0 ρ h
     |false=>itV C n all ws a (Rq C n all ws K l) k:gg->Hp->List RE->Prop) ρ h rs:=hk
   cases hp:F0 (a::l)with
   | true=>
     rw[hp]at i;have w:=HB _ 0 i
     exact Lf (new:=[]) hp (by simp_all) (Iw (λρ m=>wq hi (λx=>x) m) hp w)
   | false =>
     rw[hp]at i;simp only at i;show itR C n all ws a (Gp C n all ws K l) k ρ h (rA rs)
     have pure:∀{b:Bool} {v:V},gV b ((iz a.o).f (.fn ρ []) h)=some v->∀{j:gg},Rq C n all ws K l k j h ((b,{it:=a,t:= .fn ρ [],v,made:=none,last:=late ws a},DQ a.o,false)::rs)->
         Gp C n all ws K l k j h ((b,{it:=a,t:= .fn ρ [],v,made:=none,last:=late ws a})::rA rs):=by
       intro b v hv j m;refine J4 l (rs:=(b,{it:=a,t:= .fn ρ [],v,made:=none,last:=late ws a},DQ a.o,false)::rs) ?_ m;intro r p hb q;rcases FZ.1 p with e|e
       ·subst e
        have s:b=true:=hb;subst s;refine⟨λz h'=>?_,λ_=>hv⟩;show(iz a.o).f (.fn ρ []) h' = some v;rw[XF z _ h' h];exact hv
       ·exact hi r e hb q
     have dst:∀{b:Bool} {v:V},gV b ((iz a.o).f (.fn ρ []) h)=some v->nW n a.o (λj h=>Rq C n all ws K l k j h ((b,{it:=a,t:= .fn ρ [],v,made:=none,last:=late ws a},DQ a.o,false)::rs)) v ρ h->
         nW n a.o (λj h=>Gp C n all ws K l k j h ((b,{it:=a,t:= .fn ρ [],v,made:=none,last:=late ws a})::rA rs)) v ρ h:=by
       intro b v hv A;unfold nW at A⊢
       cases ho:a.o.dst with
       |none=>grind
       | some d=>
         grind
     unfold itV at i;unfold itR;generalize hc:cls a.o=c at i;rcases c with _|_|c
     ·simp only at i⊢
      cases hw:ki n all a.o with
      | none=>
        rw[hw]at i;simp only at i⊢;have u:oP ((iz a.o).f (.fn ρ []) h) λv=>nW n a.o (λj h=>Rq C n all ws K l k j h ((true,{it:=a,t:= .fn ρ [],v,made:=none,last:=late ws a},DQ a.o,false)::rs)) v ρ h:=by
          cases hv:isVal a.o <;> (rw[hv]at i;exact i)
        obtain⟨v,w,D⟩:=kG.1 u
        simp_all
      | some g=>
        grind[kG,ed]
     ·simp only at i⊢
      cases hw:ki n all a.o with
      | none=>
        rw[hw]at i;refine oW i λr H=>EK (λj h' m=>?_) H;have:=J4 l (rs:=(true,{it:=a,t:= .fn ρ [],v:=r.2 h.next,made:=some (h.next,r.1),last:=late ws a},false,false)::Hi rs) (by
          intro r' p hb q;rcases FZ.1 p with e|e
          ·simp_all
          ·exact hi.uH h' r' e hb q) m
        grind[Gp,rA,Hi,LY]
      |some g=>simp_all
     ·simp only at i⊢
      have B:∀{v:V} {ρ:gg} {h':Hp},nW n a.o (λρ h=>Rq C n all ws K l (Nat.succ k) ρ h (Hi rs)) v ρ h'->nW n a.o (λρ h=>Gp C n all ws K l (Nat.succ k) ρ h (rA rs)) v ρ h':=λH=>
        EK (λρ h m=>by have:=J4 l (hi.uH h) m;grind[LY]) H
      cases hw:ki n all a.o with
      | none=>
        grind[wq,Xk]
      | some g=>
        rw[hw]at i;simp only at i⊢
        cases hic:wS a.o with
        |false=>simp_all
        | true=>
          rw[hic]at i;refine wq hi (λH=>oW H λb H=>oW H λx H=>?_) i
          cases x with
          |none=>simp_all
          |some y=>exact cP.mono H (by simp_all)
def Xs(C:fm) (n:Nat) (all:List Oper) (K:gg->Hp->Prop) (ρ:gg) (h:Hp):Prop:=Rq C n all (gK (items all 0 [])) K (order (items all 0 []) (gK (items all 0 [])) (gK (items all 0 [])) 0) 0 ρ h []
theorem Xi{C:fm}{n:Nat}{all:List Oper}{K:gg->Hp->Prop}{ρ:gg}{h:Hp}(hk:Xs C n all K ρ h):Tf C n all K ρ h:=J4 (rs:=[]) _ (by intro r a;cases a) hk
end
noncomputable def KQ(tb:List (Nat×List Nat)) (k:Nat):Option (List Nat):=List.rec (motive:=λ_=>Option (List Nat)) none (λx _ a=>Bool.rec (motive:=λ_=>Option (List Nat)) a (some x.2) (Nat.beq x.1 k)) tb
noncomputable def jV(C:fm) (n:Nat) (live:List Nat) (c:Code) (s:XQ) (ρ:gg) (h:Hp):Prop:=∀a:gg,List.rec (motive:=λ_=>Prop) (Wp C n c s a h) (λi _ b=>a i=ρ i->b) live
theorem Xh{C:fm} {n:Nat} {live:List Nat} {c:Code} {s:XQ} {ρ:gg} {h:Hp} (a:jV C n live c s ρ h):Wp C n c s ρ h:=by
 have:=a ρ;clear a
 induction live <;> grind
noncomputable def Qh(C:fm) (n:Nat) (tb:List (Nat×List Nat)) (c:Code):Nat->Nat->XQ->XQ->gg->Hp->Prop:=
 Code.rec (motive:=λ_=>Nat->Nat->XQ->XQ->gg->Hp->Prop)
  (λ_ _ v _=>v .normal)
  (fun _ ops d _ _ v _=>match d with
   |false=>Rn C n ops.toList (λρ h=>v .normal ρ h) ops.toList 0
   | true=>match wJ ops.toList with
     |true=>Xs C n ops.toList (λρ h=>v .normal ρ h)
     |false=>λ_ _=>False)
  (λ_ b a g p e v s=>a p (Nat.mul 2 e) (andThen (Option.rec (motive:=λ_=>gg->Hp->Prop) (g (Nat.add p e) (Nat.mul 2 e) v s) (λlive=>jV C n live b s) (KQ tb (Nat.mul 2 (Nat.add (Nat.add p e) (Nat.mul 2 e))))) v) (andThen (Wp C n b s) s))
  (λc _ _ a g p e v s ρ h=>Option.rec (motive:=λ_=>Prop) False (λx=>bP x (a p (Nat.mul 2 e) v s ρ h) (g (Nat.add p e) (Nat.mul 2 e) v s ρ h)) ((qJ c).f (.fn ρ []) h))
  (λid _ i p e v s=>i p (Nat.mul 2 e) (yt id v) (yt id s))
  (λc _ p e _ s=>Option.rec (motive:=λ_=>gg->Hp->Prop) (λ_ _=>False) (λlive=>jV C n live (.loop c) s) (KQ tb (Nat.succ (Nat.mul 2 (Nat.add p e)))))
  (λ_ _ _ _ _ _ _ _ _ _ _ _=>False)
  (λid _ _ v _=>v (.exit id))
  (λ_ _ _ _ _ _ _ _=>False)
  (λ_ _ _ _ _ _ _=>False)
  (λ_ _ _ _ _ _ _=>False)
  (λ_ _ v _=>v .ret)
  (λ_ _ _ _ _ _ _=>False) c
theorem zt{k k':gg->Hp->Prop} {v s:XQ} (hk:∀ρ h,k ρ h->k' ρ h) (hq:∀x ρ h,v x ρ h->s x ρ h):∀x ρ h,andThen k v x ρ h->andThen k' s x ρ h
 | .normal,_,_,hh=>hk _ _ hh
 | .exit _,_,_,hh=>hq _ _ _ hh
 | .ret,_,_,hh=>hq _ _ _ hh
theorem LM{id:Nat} {v s:XQ} (hq:∀x ρ h,v x ρ h->s x ρ h):∀x ρ h,yt id v x ρ h->yt id s x ρ h
 | .normal,_,_,hh=>hq _ _ _ hh
 | .ret,_,_,hh=>hq _ _ _ hh
 | .exit i,ρ,h,hh=>by
   simp only[yt]at hh⊢;cases hb:Nat.beq i id <;> simp_all
theorem tp{C:fm} {n:Nat} {tb:List (Nat×List Nat)}:∀(c:Code) {p e:Nat} {v s:XQ} {ρ:gg} {h:Hp},(∀x ρ h,v x ρ h->s x ρ h)->Qh C n tb c p e v s ρ h->Wp C n c s ρ h
 | .skip,_,_,_,_,_,_,hq,hk=> .skip (hq _ _ _ hk)
 | .region _ ops false,_,_,v,_,ρ,h,hq,hk=>by
   have d:Rn C n ops.toList (λρ h=>v .normal ρ h) ops.toList 0 ρ h:=hk
   exact(Wp.region (HB _ 0 d)).mono hq
 | .region _ ops true,_,_,v,_,ρ,h,hq,hk=>by
   have d:(match wJ ops.toList with
       |true=>Xs C n ops.toList (λρ h=>v .normal ρ h)
       |false=>λ_ _=>False) ρ h:=hk
   cases hd:wJ ops.toList with
   |true=>rw[hd]at d;exact(Wp.draw hd (Xi d)).mono hq
   |false=>simp_all
 | .seq a b,p,e,v,s,ρ,h,hq,hk=>by
   refine .seq (tp a (zt ?_ hq) hk);intro ρ h g
   cases hf:KQ tb (Nat.mul 2 (Nat.add (Nat.add p e) (Nat.mul 2 e)))with
   |none=>rw[hf]at g;exact tp b hq g
   |some live=>rw[hf]at g;exact Xh g
 | .cond c a b,p,e,v,s,ρ,h,hq,hk=>by
   have d:oP ((qJ c).f (.fn ρ []) h) (λx=>bP x (Qh C n tb a p (Nat.mul 2 e) v s ρ h) (Qh C n tb b (Nat.add p e) (Nat.mul 2 e) v s ρ h)):=hk;obtain⟨x,hv,d⟩:=kG.1 d
   exact .cond (ed hv (bM d (tp a hq) (tp b hq)))
 | .block id c,_,_,_,_,_,_,hq,hk=> .block (tp c (LM hq) hk)
 | .loop c,p,e,v,s,ρ,h,hq,hk=>by
   have d:(Option.rec (motive:=λ_=>gg->Hp->Prop) (λ_ _=>False) (λlive=>jV C n live (.loop c) s) (KQ tb (Nat.succ (Nat.mul 2 (Nat.add p e)))):gg->Hp->Prop) ρ h:=hk
   cases hf:KQ tb (Nat.succ (Nat.mul 2 (Nat.add p e)))with
   |none=>simp_all
   |some live=>rw[hf]at d;grind[Xh]
 | .exit id,_,_,_,_,_,_,hq,hk=> .exit (hq _ _ _ hk)
 | .ret,_,_,_,_,_,_,hq,hk=> .ret (hq _ _ _ hk)
 | .rangeFunc ..,_,_,_,_,_,_,_,hk=>hk.elim
 | .scope _,_,_,_,_,_,_,_,hk=>hk.elim
 | .label _,_,_,_,_,_,_,_,hk=>hk.elim
 | .goto _,_,_,_,_,_,_,_,hk=>hk.elim
 | .refuse _,_,_,_,_,_,_,_,hk=>hk.elim
structure UL where
 c:Code
 v:XQ
 s:XQ
 p:Nat
 e:Nat
 ks:List (gg->Hp->Prop)
def zai(l:List (gg->Hp->Prop)):gg->Hp->Prop:=match l with
 |k::_=>k
 |[]=>λ_ _=>False
noncomputable def jR(C:fm) (n:Nat) (tb:List (Nat×List Nat)) (a:UL) (b:Bool):UL:=match a.c,b with
 | .seq x y,false=>{c:=x,v:=andThen (Option.rec (motive:=λ_=>gg->Hp->Prop) (Qh C n tb y (Nat.add a.p a.e) (Nat.mul 2 a.e) a.v a.s) (λlive=>jV C n live y a.s) (KQ tb (Nat.mul 2 (Nat.add (Nat.add a.p a.e) (Nat.mul 2 a.e))))) a.v,s:=andThen (Wp C n y a.s) a.s,p:=a.p,e:=Nat.mul 2 a.e,ks:=a.ks}
 | .seq _ y,true=>{c:=y,v:=a.v,s:=a.s,p:=Nat.add a.p a.e,e:=Nat.mul 2 a.e,ks:=a.ks}
 | .cond _ x _,false=>{c:=x,v:=a.v,s:=a.s,p:=a.p,e:=Nat.mul 2 a.e,ks:=a.ks}
 | .cond _ _ y,true=>{c:=y,v:=a.v,s:=a.s,p:=Nat.add a.p a.e,e:=Nat.mul 2 a.e,ks:=a.ks}
 | .block id x,false=>{c:=x,v:=yt id a.v,s:=yt id a.s,p:=a.p,e:=Nat.mul 2 a.e,ks:=a.ks}
 | .loop x,false=>{c:=x,v:=andThen (zai a.ks) a.v,s:=andThen (zai a.ks) a.s,p:=a.p,e:=Nat.mul 2 a.e,ks:=a.ks.tail}
 |_,_=>a
noncomputable def zcC(C:fm) (n:Nat) (tb:List (Nat×List Nat)) (bs:List Bool):UL->UL:=List.rec (motive:=λ_=>UL->UL) (λa=>a) (λb _ c a=>c (jR C n tb a b)) bs
def zbN(k:Nat):List Bool:=(Nat.rec (motive:=λ_=>Nat->List Bool) (λ_=>[]) (λ_ a p=>match Nat.ble p 1 with
 |true=>[]
 |false=>Nat.beq (Nat.mod p 2) 1::a (Nat.div p 2)) 400:Nat->List Bool) k
def SO(Q:V->Hp->Prop) (ρ:gg) (h:Hp) (l:List ResultVar):List V->Prop:=
 List.rec (motive:=λ_=>List V->Prop) (λb=>Q (yc b.reverse) h) (λr _ c b=>match r with
  | .tmp i=>c (ρ i::b)
  | .cell a ty=>oP ((Uy (.cell a ty)).f (.fn ρ []) h) λv=>c (v::b)) l
theorem J5{Q:V->Hp->Prop} {ρ:gg} {h:Hp}:∀{l:List ResultVar} {b:List V},SO Q ρ h l b->oP (yl (.fn ρ []) h l) λvs=>Q (yc (b.reverse++vs)) h
 | [],b,hh=>by
   grind[yc,yl,TH,oP,SO]
 | .tmp i::l,b,hh=>by
   have c:SO Q ρ h l (ρ i::b):=hh;obtain⟨vs,d,e⟩:=kG.1 (J5 c);refine ed (show yl (.fn ρ []) h (.tmp i::l)=some (ρ i::vs) from ?_) ?_
   ·show oB (some (ρ i)) _=_
    simp_all
   simp_all
 | .cell a ty::l,b,hh=>by
   have c:oP ((Uy (.cell a ty)).f (.fn ρ []) h) λv=>SO Q ρ h l (v::b):=hh;obtain⟨v,h0,c⟩:=kG.1 c;obtain⟨vs,d,e⟩:=kG.1 (J5 c)
   simp_all[ed,yl,oB,Uy]
def Uo(l:List ResultVar) (Q:V->Hp->Prop):XQ
 | .exit _,_,_=>False
 |_,ρ,h=>SO Q ρ h l []
theorem PX{l:List ResultVar} {Q:V->Hp->Prop}:∀x ρ h,Uo l Q x ρ h->LS l Q x ρ h
 | .exit _,_,_,hh=>hh
 | .normal,_,_,hh=>by grind[J5,SO,LS,Zr,Uo]
 | .ret,_,_,hh=>by grind[J5,SO,LS,Zr,Uo]
noncomputable def Wd(fn:Func)(ks:List (gg->Hp->Prop))(Q:V->Hp->Prop):UL:={c:=NK fn,v:=Uo fn.results.toList Q,s:=LS fn.results.toList Q,p:=0,e:=1,ks}
noncomputable def fx(C:fm)(fn:Func)(tb:List (Nat×List Nat))(k:Nat)(ks:List (gg->Hp->Prop))(Q:V->Hp->Prop):UL:=zcC C fn.ntmps tb (zbN k) (Wd fn ks Q)
noncomputable def WA(C:fm)(fn:Func)(tb:List (Nat×List Nat))(k:Nat)(ks:List (gg->Hp->Prop))(Q:V->Hp->Prop)(ρ:gg)(h:Hp):Prop:=Wp C fn.ntmps (fx C fn tb k ks Q).c (fx C fn tb k ks Q).s ρ h
noncomputable def VA(C:fm)(n:Nat)(tb:List (Nat×List Nat))(a:UL)(ρ:gg)(h:Hp):Prop:=Qh C n tb a.c a.p a.e a.v a.s ρ h
def UL.ok(a:UL):Prop:=∀x ρ h,a.v x ρ h->a.s x ρ h
theorem VN{C:fm} {n:Nat} {tb:List (Nat×List Nat)} {a:UL} (c:a.ok) (b:Bool):(jR C n tb a b).ok:=by
 unfold jR;split
 ·refine zt (λρ h d=>?_) c
  cases hf:KQ tb (Nat.mul 2 (Nat.add (Nat.add a.p a.e) (Nat.mul 2 a.e)))with
  |none=>rw[hf]at d;exact tp _ c d
  |some live=>rw[hf]at d;exact Xh d
 ·exact c
 ·exact c
 ·exact c
 ·exact LM c
 ·exact zt (by simp_all) c
 ·exact c
theorem Ts{C:fm} {n:Nat} {tb:List (Nat×List Nat)}:∀{bs:List Bool} {a:UL},a.ok->(zcC C n tb bs a).ok
 |[],_,ha=>ha
 |b::bs,_,ha=>Ts (bs:=bs) (VN ha b)
theorem MX{C:fm}{fn:Func}{tb:List (Nat×List Nat)}{k:Nat}{ks:List (gg->Hp->Prop)}{Q:V->Hp->Prop}:(fx C fn tb k ks Q).ok:=Ts PX
theorem WA.of{C:fm} {fn:Func} {tb:List (Nat×List Nat)} {k:Nat} {ks:List (gg->Hp->Prop)} {Q:V->Hp->Prop} {ρ:gg} {h:Hp} {P:Prop}
  (e:VA C fn.ntmps tb (fx C fn tb k ks Q) ρ h=P) (H:P):WA C fn tb k ks Q ρ h:=tp _ MX (e.mpr H)
def kX(c:Code):Bool:=match c with
 | .loop _=>true
 |_=>false
inductive LA (C:fm) (fn:Func) (tb:List (Nat×List Nat)) (k:Nat) (ks:List (gg->Hp->Prop)) (Q:V->Hp->Prop) (K:gg->Hp->Prop) (ρ:gg) (h:Hp):Prop
 |mk (hv:VA C fn.ntmps tb (jR C fn.ntmps tb {fx C fn tb k ks Q with ks:=[K]} false) ρ h)
theorem LA.of{C:fm} {fn:Func} {tb:List (Nat×List Nat)} {k:Nat} {ks:List (gg->Hp->Prop)} {Q:V->Hp->Prop} {K:gg->Hp->Prop} {ρ:gg} {h:Hp} {P:Prop}
  (e:VA C fn.ntmps tb (jR C fn.ntmps tb {fx C fn tb k ks Q with ks:=[K]} false) ρ h=P) (H:P):LA C fn tb k ks Q K ρ h:=⟨e.mpr H⟩
theorem WA.loop{C:fm} {fn:Func} {tb:List (Nat×List Nat)} {k:Nat} {ks:List (gg->Hp->Prop)} {Q:V->Hp->Prop} {ρ:gg} {h:Hp} (I:Nat->gg->Hp->Prop) {m:Nat}
  (f:kX (fx C fn tb k ks Q).c=true) (hk:(fx C fn tb k ks Q).ks=[])
  (b:∀m ρ h,I m ρ h->LA C fn tb k ks Q (λi h'=>∃g,g<m/\I g i h') ρ h) (h0:I m ρ h):WA C fn tb k ks Q ρ h:=by
 unfold WA;have b:=λm ρ h hi=>(b m ρ h hi).1;have d:(fx C fn tb k ks Q).ok:=MX;generalize fx C fn tb k ks Q=a at*;obtain⟨c,v,s,p,e,j⟩:=a;cases c <;> simp only[kX]at f <;> try exact absurd f (by decide)
 rename_i c;refine Wp.zb6 I (λm ρ h hi=>?_) h0;have:=b m ρ h hi;exact tp c (zt (λ_ _ l=>l) d) this
theorem cP.vc{C:fm} (hs:C.start=fK) {f:Nat} {fn:Func} {tb:List (Nat×List Nat)} {args:List V} {h:Hp} {Q:V->Hp->Prop} {P:Prop} (b:P0.funcs[f]? =some fn) (hb:fn.body=some (NK fn))
  (hk:C.K f args h=none) (a:Nat.ble args.length fn.ntmps=true) (e:VA C fn.ntmps tb (Wd fn [] Q) (ME args) h=P) (H:P):cP C f args h Q:=
 cP.func hs b hb hk (Jz a) (tp _ PX (e.mpr H))
abbrev LP:=List V->Hp->Prop
def chV(ρ:gg):List Nat->List V->Prop->Prop
 |i::is,x::xs,P=>ρ i=x->chV ρ is xs P
 |_,_,P=>P
def kf(is:List Nat)(K:LP):gg->Hp->Prop:=λρ h=>K (is.map ρ) h
def JV(C:fm)(fn:Func)(tb:List (Nat×List Nat))(k:Nat)(is:List Nat)(ks:List (gg->Hp->Prop))(Q:fq):LP:=λl h=>∀ρ:gg,chV ρ is l (WA C fn tb k ks Q ρ h)
theorem Sc{ρ:gg}{P:Prop}:∀{is:List Nat}{l:List V},is.length=l.length->(is.map ρ=l->P)->chV ρ is l P
 |[],[],_,h=>h rfl
 |[],_::_,e,_=>by cases e
 |_::_,[],e,_=>by cases e
 |i::is,x::l,e,h=>λhx=>Sc (is:=is) (l:=l) (by simp_all) (by simp_all)
def Yj:Nat->Type
 |0=>Hp->Prop
 |n+1=>V->Yj n
def E0:(n:Nat)->Yj n->LP
 |0,f,[],h=>f h
 |n+1,f,x::l,h=>E0 n (f x) l h
 |_,_,_,_=>False
@[reducible] def A4 (I:Nat->LP) (k:Nat):LP:=λl h=>∃k',k' < k/\I k' l h
section
variable{C:fm}{fn:Func}{tb:List (Nat×List Nat)}{k m:Nat}{is:List Nat}{ks:List (gg->Hp->Prop)}{Q:fq}{h:Hp}{l:List V}
theorem JV.mk(n:Nat)(B:Yj n)(e:∀(ρ:gg)(h:Hp),VA C fn.ntmps tb (fx C fn tb k ks Q) ρ h=E0 n B (is.map ρ) h)(a:is.length=l.length)(H:E0 n B l h):JV C fn tb k is ks Q l h:=λρ=>Sc a λb=>by
 subst b;exact WA.of (e ρ h) H
theorem JV.loop(n:Nat)(I:Nat->LP)(B:LP->Yj n)(a:kX (fx C fn tb k ks Q).c=true)(hk:(fx C fn tb k ks Q).ks=[])
  (e:∀(K:LP) (ρ:gg) (h:Hp),VA C fn.ntmps tb (jR C fn.ntmps tb {fx C fn tb k ks Q with ks:=[kf is K]} false) ρ h=E0 n (B K) (is.map ρ) h)
  (d:∀m l h,l.length=n->I m l h->E0 n (B (A4 I m)) l h) (f:is.length=n) (hlen:is.length=l.length) (h0:I m l h):JV C fn tb k is ks Q l h:=λρ=>Sc hlen λb=>by
 subst b;exact WA.loop (λm ρ h=>I m (is.map ρ) h) a hk (λm ρ h hi=>LA.of (e (A4 I m) ρ h) (by grind)) h0
abbrev dF(k:Nat)(x:V)(h:Hp)(K:V->Prop):Prop:=oP (fQ k x) λa=>oP (eQ a h) K
abbrev dN(k:Nat)(x:V)(h:Hp)(K:V->Prop):Prop:=oP (gU x) λa=>dF k a h K
abbrev dI(n:Nat)(x i:V)(k:Nat)(h:Hp)(K:V->Prop):Prop:=oP (hV n x i) λa=>dF k a h K
abbrev dX(n:Nat)(x i:V)(h:Hp)(K:V->Prop):Prop:=oP (hV n x i) λa=>oP (eQ a h) K
abbrev dG(k:Nat)(x:V)(h:Hp)(K:V->Prop):Prop:=dF k x h λa=>oP (fD a) K
abbrev dJ(k:Nat)(x:V)(n:Nat)(i:V)(j:Nat)(h:Hp)(K:V->Prop):Prop:=dF k x h λa=>dI n a i j h K
abbrev dY(k:Nat)(x:V)(n:Nat)(i:V)(h:Hp)(K:V->Prop):Prop:=dF k x h λa=>dX n a i h K
abbrev bO(o:BinOp)(t:Nat)(a b:V)(A B:Prop):Prop:=oP (eJ o t a b) λv=>bP v A B
abbrev bN(a:V)(A B:Prop):Prop:=oP (vC .not a) λv=>bP v A B
theorem oF{k l o:Nat}{h:Hp}{v:V}{K:V->Prop}(a:eQ (.ptr l (o+k)) h=some v)(b:K v):dF k (.ptr l o) h K:=kG.2 ⟨_,fR _ _ _,kG.2 ⟨_,a,b⟩⟩
theorem oN{k l o:Nat}{h:Hp}{v:V}{K:V->Prop}(a:eQ (.ptr l (o+k)) h=some v)(b:K v):dN k (.ptr l o) h K:=kG.2 (by simp_all[fI,oF])
theorem cP.vd{C:fm}{f:Nat}{fn:Func}(tb:List (Nat×List Nat)){args:List V}{h:Hp}{Q:fq}{P:Prop}(hs:C.start=fK)(b:P0.funcs[f]? =some fn)(hk:C.K f args h=none)(H:P)
  (hb:fn.body=some (NK fn):=by kernel_rfl) (a:Nat.ble args.length fn.ntmps=true:=by kernel_rfl) (e:VA C fn.ntmps tb (Wd fn [] Q) (ME args) h=P:=by kernel_rfl):cP C f args h Q:=cP.vc hs b hb hk a e H
abbrev S1(I:Nat->LP)(B:LP->fq):Prop:=∀(k:Nat) (a:V) (h:Hp),I k [a] h->B (A4 I k) a h
abbrev R1(B:fq)(J:LP):Prop:=∀{a:V} {h:Hp},B a h->J [a] h
theorem JV.r1(B:fq)(e:∀(ρ:gg)(h:Hp),VA C fn.ntmps tb (fx C fn tb k ks Q) ρ h=E0 1 B (is.map ρ) h:=by intros;kernel_rfl)(a:is.length=1:=by rfl):R1 B (JV C fn tb k is ks Q):=λH=>JV.mk 1 B e a H
abbrev S2(I:Nat->LP)(B:LP->QP2):Prop:=∀(k:Nat) (a b:V) (h:Hp),I k [a,b] h->B (A4 I k) a b h
abbrev R2(B:QP2)(J:LP):Prop:=∀{a b:V} {h:Hp},B a b h->J [a,b] h
theorem JV.l2(I:Nat->LP)(B:LP->QP2)(s:S2 I B)(i:I m l h)(g:l.length=2)(b:kX (fx C fn tb k ks Q).c=true:=by kernel_rfl)(hk:(fx C fn tb k ks Q).ks=[]:=by kernel_rfl)
  (e:∀(K:LP) (ρ:gg) (h:Hp),VA C fn.ntmps tb (jR C fn.ntmps tb {fx C fn tb k ks Q with ks:=[kf is K]} false) ρ h=E0 2 (B K) (is.map ρ) h:=by intros;kernel_rfl) (a:is.length=2:=by rfl):JV C fn tb k is ks Q l h:=
 JV.loop 2 I B b hk e (λk l h g i=>match l,g,i with|[d,f],_,i=>s k d f h i) a (a.trans g.symm) i
theorem JV.r2(B:QP2)(e:∀(ρ:gg)(h:Hp),VA C fn.ntmps tb (fx C fn tb k ks Q) ρ h=E0 2 B (is.map ρ) h:=by intros;kernel_rfl)(a:is.length=2:=by rfl):R2 B (JV C fn tb k is ks Q):=λH=>JV.mk 2 B e a H
abbrev S3(I:Nat->LP)(B:LP->RQ):Prop:=∀(k:Nat) (a b c:V) (h:Hp),I k [a,b,c] h->B (A4 I k) a b c h
abbrev R3(B:RQ)(J:LP):Prop:=∀{a b c:V} {h:Hp},B a b c h->J [a,b,c] h
theorem JV.l3(I:Nat->LP)(B:LP->RQ)(s:S3 I B)(i:I m l h)(g:l.length=3)(b:kX (fx C fn tb k ks Q).c=true:=by kernel_rfl)(hk:(fx C fn tb k ks Q).ks=[]:=by kernel_rfl)
  (e:∀(K:LP) (ρ:gg) (h:Hp),VA C fn.ntmps tb (jR C fn.ntmps tb {fx C fn tb k ks Q with ks:=[kf is K]} false) ρ h=E0 3 (B K) (is.map ρ) h:=by intros;kernel_rfl) (a:is.length=3:=by rfl):JV C fn tb k is ks Q l h:=
 JV.loop 3 I B b hk e (λk l h g i=>match l,g,i with|[d,f,j],_,i=>s k d f j h i) a (a.trans g.symm) i
theorem JV.r3(B:RQ)(e:∀(ρ:gg)(h:Hp),VA C fn.ntmps tb (fx C fn tb k ks Q) ρ h=E0 3 B (is.map ρ) h:=by intros;kernel_rfl)(a:is.length=3:=by rfl):R3 B (JV C fn tb k is ks Q):=λH=>JV.mk 3 B e a H
abbrev S4(I:Nat->LP)(B:LP->Jv):Prop:=∀(k:Nat) (a b c d:V) (h:Hp),I k [a,b,c,d] h->B (A4 I k) a b c d h
abbrev R4(B:Jv)(J:LP):Prop:=∀{a b c d:V} {h:Hp},B a b c d h->J [a,b,c,d] h
theorem JV.l4(I:Nat->LP)(B:LP->Jv)(s:S4 I B)(i:I m l h)(g:l.length=4)(b:kX (fx C fn tb k ks Q).c=true:=by kernel_rfl)(hk:(fx C fn tb k ks Q).ks=[]:=by kernel_rfl)
  (e:∀(K:LP) (ρ:gg) (h:Hp),VA C fn.ntmps tb (jR C fn.ntmps tb {fx C fn tb k ks Q with ks:=[kf is K]} false) ρ h=E0 4 (B K) (is.map ρ) h:=by intros;kernel_rfl) (a:is.length=4:=by rfl):JV C fn tb k is ks Q l h:=
 JV.loop 4 I B b hk e (λk l h g i=>match l,g,i with|[d,f,j,n],_,i=>s k d f j n h i) a (a.trans g.symm) i
theorem JV.r4(B:Jv)(e:∀(ρ:gg)(h:Hp),VA C fn.ntmps tb (fx C fn tb k ks Q) ρ h=E0 4 B (is.map ρ) h:=by intros;kernel_rfl)(a:is.length=4:=by rfl):R4 B (JV C fn tb k is ks Q):=λH=>JV.mk 4 B e a H
abbrev S5(I:Nat->LP)(B:LP->Hf):Prop:=∀(k:Nat) (a b c d e:V) (h:Hp),I k [a,b,c,d,e] h->B (A4 I k) a b c d e h
abbrev R5(B:Hf)(J:LP):Prop:=∀{a b c d e:V} {h:Hp},B a b c d e h->J [a,b,c,d,e] h
theorem JV.l5(I:Nat->LP)(B:LP->Hf)(s:S5 I B)(i:I m l h)(g:l.length=5)(b:kX (fx C fn tb k ks Q).c=true:=by kernel_rfl)(hk:(fx C fn tb k ks Q).ks=[]:=by kernel_rfl)
  (e:∀(K:LP) (ρ:gg) (h:Hp),VA C fn.ntmps tb (jR C fn.ntmps tb {fx C fn tb k ks Q with ks:=[kf is K]} false) ρ h=E0 5 (B K) (is.map ρ) h:=by intros;kernel_rfl) (a:is.length=5:=by rfl):JV C fn tb k is ks Q l h:=
 JV.loop 5 I B b hk e (λk l h g i=>match l,g,i with|[d,f,j,n,o],_,i=>s k d f j n o h i) a (a.trans g.symm) i
theorem JV.r5(B:Hf)(e:∀(ρ:gg)(h:Hp),VA C fn.ntmps tb (fx C fn tb k ks Q) ρ h=E0 5 B (is.map ρ) h:=by intros;kernel_rfl)(a:is.length=5:=by rfl):R5 B (JV C fn tb k is ks Q):=λH=>JV.mk 5 B e a H
abbrev S6(I:Nat->LP)(B:LP->OS):Prop:=∀(k:Nat) (a b c d e f:V) (h:Hp),I k [a,b,c,d,e,f] h->B (A4 I k) a b c d e f h
abbrev R6(B:OS)(J:LP):Prop:=∀{a b c d e f:V} {h:Hp},B a b c d e f h->J [a,b,c,d,e,f] h
theorem JV.l6(I:Nat->LP)(B:LP->OS)(s:S6 I B)(i:I m l h)(g:l.length=6)(b:kX (fx C fn tb k ks Q).c=true:=by kernel_rfl)(hk:(fx C fn tb k ks Q).ks=[]:=by kernel_rfl)
  (e:∀(K:LP) (ρ:gg) (h:Hp),VA C fn.ntmps tb (jR C fn.ntmps tb {fx C fn tb k ks Q with ks:=[kf is K]} false) ρ h=E0 6 (B K) (is.map ρ) h:=by intros;kernel_rfl) (a:is.length=6:=by rfl):JV C fn tb k is ks Q l h:=
 JV.loop 6 I B b hk e (λk l h g i=>match l,g,i with|[d,f,j,n,o,p],_,i=>s k d f j n o p h i) a (a.trans g.symm) i
theorem JV.r6(B:OS)(e:∀(ρ:gg)(h:Hp),VA C fn.ntmps tb (fx C fn tb k ks Q) ρ h=E0 6 B (is.map ρ) h:=by intros;kernel_rfl)(a:is.length=6:=by rfl):R6 B (JV C fn tb k is ks Q):=λH=>JV.mk 6 B e a H
abbrev S7(I:Nat->LP)(B:LP->Pe):Prop:=∀(k:Nat) (a b c d e f g:V) (h:Hp),I k [a,b,c,d,e,f,g] h->B (A4 I k) a b c d e f g h
abbrev R7(B:Pe)(J:LP):Prop:=∀{a b c d e f g:V} {h:Hp},B a b c d e f g h->J [a,b,c,d,e,f,g] h
theorem JV.l7(I:Nat->LP)(B:LP->Pe)(s:S7 I B)(i:I m l h)(g:l.length=7)(b:kX (fx C fn tb k ks Q).c=true:=by kernel_rfl)(hk:(fx C fn tb k ks Q).ks=[]:=by kernel_rfl)
  (e:∀(K:LP) (ρ:gg) (h:Hp),VA C fn.ntmps tb (jR C fn.ntmps tb {fx C fn tb k ks Q with ks:=[kf is K]} false) ρ h=E0 7 (B K) (is.map ρ) h:=by intros;kernel_rfl) (a:is.length=7:=by rfl):JV C fn tb k is ks Q l h:=
 JV.loop 7 I B b hk e (λk l h g i=>match l,g,i with|[d,f,j,n,o,p,q],_,i=>s k d f j n o p q h i) a (a.trans g.symm) i
theorem JV.r7(B:Pe)(e:∀(ρ:gg)(h:Hp),VA C fn.ntmps tb (fx C fn tb k ks Q) ρ h=E0 7 B (is.map ρ) h:=by intros;kernel_rfl)(a:is.length=7:=by rfl):R7 B (JV C fn tb k is ks Q):=λH=>JV.mk 7 B e a H
abbrev S8(I:Nat->LP)(B:LP->JL):Prop:=∀(k:Nat) (a b c d e f g i:V) (h:Hp),I k [a,b,c,d,e,f,g,i] h->B (A4 I k) a b c d e f g i h
abbrev R8(B:JL)(J:LP):Prop:=∀{a b c d e f g i:V} {h:Hp},B a b c d e f g i h->J [a,b,c,d,e,f,g,i] h
theorem JV.l8(I:Nat->LP)(B:LP->JL)(s:S8 I B)(i:I m l h)(g:l.length=8)(b:kX (fx C fn tb k ks Q).c=true:=by kernel_rfl)(hk:(fx C fn tb k ks Q).ks=[]:=by kernel_rfl)
  (e:∀(K:LP) (ρ:gg) (h:Hp),VA C fn.ntmps tb (jR C fn.ntmps tb {fx C fn tb k ks Q with ks:=[kf is K]} false) ρ h=E0 8 (B K) (is.map ρ) h:=by intros;kernel_rfl) (a:is.length=8:=by rfl):JV C fn tb k is ks Q l h:=
 JV.loop 8 I B b hk e (λk l h g i=>match l,g,i with|[d,f,j,n,o,p,q,r],_,i=>s k d f j n o p q r h i) a (a.trans g.symm) i
theorem JV.r8(B:JL)(e:∀(ρ:gg)(h:Hp),VA C fn.ntmps tb (fx C fn tb k ks Q) ρ h=E0 8 B (is.map ρ) h:=by intros;kernel_rfl)(a:is.length=8:=by rfl):R8 B (JV C fn tb k is ks Q):=λH=>JV.mk 8 B e a H
abbrev S9(I:Nat->LP)(B:LP->QP9):Prop:=∀(k:Nat) (a b c d e f g i j:V) (h:Hp),I k [a,b,c,d,e,f,g,i,j] h->B (A4 I k) a b c d e f g i j h
abbrev R9(B:QP9)(J:LP):Prop:=∀{a b c d e f g i j:V} {h:Hp},B a b c d e f g i j h->J [a,b,c,d,e,f,g,i,j] h
theorem JV.l9(I:Nat->LP)(B:LP->QP9)(s:S9 I B)(i:I m l h)(g:l.length=9)(b:kX (fx C fn tb k ks Q).c=true:=by kernel_rfl)(hk:(fx C fn tb k ks Q).ks=[]:=by kernel_rfl)
  (e:∀(K:LP) (ρ:gg) (h:Hp),VA C fn.ntmps tb (jR C fn.ntmps tb {fx C fn tb k ks Q with ks:=[kf is K]} false) ρ h=E0 9 (B K) (is.map ρ) h:=by intros;kernel_rfl) (a:is.length=9:=by rfl):JV C fn tb k is ks Q l h:=
 JV.loop 9 I B b hk e (λk l h g i=>match l,g,i with|[d,f,j,n,o,p,q,r,t],_,i=>s k d f j n o p q r t h i) a (a.trans g.symm) i
theorem JV.r9(B:QP9)(e:∀(ρ:gg)(h:Hp),VA C fn.ntmps tb (fx C fn tb k ks Q) ρ h=E0 9 B (is.map ρ) h:=by intros;kernel_rfl)(a:is.length=9:=by rfl):R9 B (JV C fn tb k is ks Q):=λH=>JV.mk 9 B e a H
abbrev S10(I:Nat->LP)(B:LP->Ij):Prop:=∀(k:Nat) (b c d e f g i j l a:V) (h:Hp),I k [b,c,d,e,f,g,i,j,l,a] h->B (A4 I k) b c d e f g i j l a h
abbrev Az(B:Ij)(J:LP):Prop:=∀{b c d e f g i j k a:V} {h:Hp},B b c d e f g i j k a h->J [b,c,d,e,f,g,i,j,k,a] h
theorem JV.l10(I:Nat->LP)(B:LP->Ij)(s:S10 I B)(i:I m l h)(g:l.length=10)(d:kX (fx C fn tb k ks Q).c=true:=by kernel_rfl)(hk:(fx C fn tb k ks Q).ks=[]:=by kernel_rfl)
  (e:∀(K:LP) (ρ:gg) (h:Hp),VA C fn.ntmps tb (jR C fn.ntmps tb {fx C fn tb k ks Q with ks:=[kf is K]} false) ρ h=E0 10 (B K) (is.map ρ) h:=by intros;kernel_rfl) (b:is.length=10:=by rfl):JV C fn tb k is ks Q l h:=
 JV.loop 10 I B d hk e (λk l h g i=>match l,g,i with|[f,j,n,o,p,q,r,t,u,a],_,i=>s k f j n o p q r t u a h i) b (b.trans g.symm) i
theorem JV.r10(B:Ij)(e:∀(ρ:gg)(h:Hp),VA C fn.ntmps tb (fx C fn tb k ks Q) ρ h=E0 10 B (is.map ρ) h:=by intros;kernel_rfl)(a:is.length=10:=by rfl):Az B (JV C fn tb k is ks Q):=λH=>JV.mk 10 B e a H
abbrev S11(I:Nat->LP)(B:LP->Cw):Prop:=∀(k:Nat) (c d e f g i j l m a b:V) (h:Hp),I k [c,d,e,f,g,i,j,l,m,a,b] h->B (A4 I k) c d e f g i j l m a b h
abbrev R11(B:Cw)(J:LP):Prop:=∀{c d e f g i j k l a b:V} {h:Hp},B c d e f g i j k l a b h->J [c,d,e,f,g,i,j,k,l,a,b] h
theorem JV.l11(I:Nat->LP)(B:LP->Cw)(s:S11 I B)(i:I m l h)(g:l.length=11)(f:kX (fx C fn tb k ks Q).c=true:=by kernel_rfl)(hk:(fx C fn tb k ks Q).ks=[]:=by kernel_rfl)
  (e:∀(K:LP) (ρ:gg) (h:Hp),VA C fn.ntmps tb (jR C fn.ntmps tb {fx C fn tb k ks Q with ks:=[kf is K]} false) ρ h=E0 11 (B K) (is.map ρ) h:=by intros;kernel_rfl) (d:is.length=11:=by rfl):JV C fn tb k is ks Q l h:=
 JV.loop 11 I B f hk e (λk l h g i=>match l,g,i with|[j,n,o,p,q,r,t,u,v,a,b],_,i=>s k j n o p q r t u v a b h i) d (d.trans g.symm) i
theorem JV.r11(B:Cw)(e:∀(ρ:gg)(h:Hp),VA C fn.ntmps tb (fx C fn tb k ks Q) ρ h=E0 11 B (is.map ρ) h:=by intros;kernel_rfl)(a:is.length=11:=by rfl):R11 B (JV C fn tb k is ks Q):=λH=>JV.mk 11 B e a H
abbrev S12(I:Nat->LP)(B:LP->ZE):Prop:=∀(k:Nat) (d e f g i j l m n a b c:V) (h:Hp),I k [d,e,f,g,i,j,l,m,n,a,b,c] h->B (A4 I k) d e f g i j l m n a b c h
abbrev R12(B:ZE)(J:LP):Prop:=∀{d e f g i j k l m a b c:V} {h:Hp},B d e f g i j k l m a b c h->J [d,e,f,g,i,j,k,l,m,a,b,c] h
theorem JV.l12(I:Nat->LP)(B:LP->ZE)(s:S12 I B)(i:I m l h)(g:l.length=12)(j:kX (fx C fn tb k ks Q).c=true:=by kernel_rfl)(hk:(fx C fn tb k ks Q).ks=[]:=by kernel_rfl)
  (e:∀(K:LP) (ρ:gg) (h:Hp),VA C fn.ntmps tb (jR C fn.ntmps tb {fx C fn tb k ks Q with ks:=[kf is K]} false) ρ h=E0 12 (B K) (is.map ρ) h:=by intros;kernel_rfl) (f:is.length=12:=by rfl):JV C fn tb k is ks Q l h:=
 JV.loop 12 I B j hk e (λk l h g i=>match l,g,i with|[n,o,p,q,r,t,u,v,w,a,b,d],_,i=>s k n o p q r t u v w a b d h i) f (f.trans g.symm) i
theorem JV.r12(B:ZE)(e:∀(ρ:gg)(h:Hp),VA C fn.ntmps tb (fx C fn tb k ks Q) ρ h=E0 12 B (is.map ρ) h:=by intros;kernel_rfl)(a:is.length=12:=by rfl):R12 B (JV C fn tb k is ks Q):=λH=>JV.mk 12 B e a H
abbrev S13(I:Nat->LP)(B:LP->FV):Prop:=∀(k:Nat) (e f g i j l m n o a b c d:V) (h:Hp),I k [e,f,g,i,j,l,m,n,o,a,b,c,d] h->B (A4 I k) e f g i j l m n o a b c d h
abbrev R13(B:FV)(J:LP):Prop:=∀{e f g i j k l m n a b c d:V} {h:Hp},B e f g i j k l m n a b c d h->J [e,f,g,i,j,k,l,m,n,a,b,c,d] h
theorem JV.l13(I:Nat->LP)(B:LP->FV)(s:S13 I B)(i:I m l h)(g:l.length=13)(n:kX (fx C fn tb k ks Q).c=true:=by kernel_rfl)(hk:(fx C fn tb k ks Q).ks=[]:=by kernel_rfl)
  (e:∀(K:LP) (ρ:gg) (h:Hp),VA C fn.ntmps tb (jR C fn.ntmps tb {fx C fn tb k ks Q with ks:=[kf is K]} false) ρ h=E0 13 (B K) (is.map ρ) h:=by intros;kernel_rfl) (j:is.length=13:=by rfl):JV C fn tb k is ks Q l h:=
 JV.loop 13 I B n hk e (λk l h g i=>match l,g,i with|[o,p,q,r,t,u,v,w,x,a,b,d,f],_,i=>s k o p q r t u v w x a b d f h i) j (j.trans g.symm) i
theorem JV.r13(B:FV)(e:∀(ρ:gg)(h:Hp),VA C fn.ntmps tb (fx C fn tb k ks Q) ρ h=E0 13 B (is.map ρ) h:=by intros;kernel_rfl)(a:is.length=13:=by rfl):R13 B (JV C fn tb k is ks Q):=λH=>JV.mk 13 B e a H
abbrev S14(I:Nat->LP)(B:LP->Zt):Prop:=∀(k:Nat) (f g i j l m n o p a b c d e:V) (h:Hp),I k [f,g,i,j,l,m,n,o,p,a,b,c,d,e] h->B (A4 I k) f g i j l m n o p a b c d e h
abbrev R14(B:Zt)(J:LP):Prop:=∀{f g i j k l m n o a b c d e:V} {h:Hp},B f g i j k l m n o a b c d e h->J [f,g,i,j,k,l,m,n,o,a,b,c,d,e] h
theorem JV.l14(I:Nat->LP)(B:LP->Zt)(s:S14 I B)(i:I m l h)(g:l.length=14)(o:kX (fx C fn tb k ks Q).c=true:=by kernel_rfl)(hk:(fx C fn tb k ks Q).ks=[]:=by kernel_rfl)
  (e:∀(K:LP) (ρ:gg) (h:Hp),VA C fn.ntmps tb (jR C fn.ntmps tb {fx C fn tb k ks Q with ks:=[kf is K]} false) ρ h=E0 14 (B K) (is.map ρ) h:=by intros;kernel_rfl) (n:is.length=14:=by rfl):JV C fn tb k is ks Q l h:=
 JV.loop 14 I B o hk e (λk l h g i=>match l,g,i with|[p,q,r,t,u,v,w,x,y,a,b,d,f,j],_,i=>s k p q r t u v w x y a b d f j h i) n (n.trans g.symm) i
theorem JV.r14(B:Zt)(e:∀(ρ:gg)(h:Hp),VA C fn.ntmps tb (fx C fn tb k ks Q) ρ h=E0 14 B (is.map ρ) h:=by intros;kernel_rfl)(a:is.length=14:=by rfl):R14 B (JV C fn tb k is ks Q):=λH=>JV.mk 14 B e a H
abbrev R15(B:zc7)(J:LP):Prop:=∀{g i j k l m n o p a b c d e f:V} {h:Hp},B g i j k l m n o p a b c d e f h->J [g,i,j,k,l,m,n,o,p,a,b,c,d,e,f] h
abbrev R17(B:zcV)(J:LP):Prop:=∀{j k l m n o p q r a b c d e f g i:V} {h:Hp},B j k l m n o p q r a b c d e f g i h->J [j,k,l,m,n,o,p,q,r,a,b,c,d,e,f,g,i] h
abbrev S18(I:Nat->LP)(B:LP->zaF):Prop:=∀(k:Nat) (l m n o p q r s t a b c d e f g i j:V) (h:Hp),I k [l,m,n,o,p,q,r,s,t,a,b,c,d,e,f,g,i,j] h->B (A4 I k) l m n o p q r s t a b c d e f g i j h
abbrev R18(B:zaF)(J:LP):Prop:=∀{k l m n o p q r s a b c d e f g i j:V} {h:Hp},B k l m n o p q r s a b c d e f g i j h->J [k,l,m,n,o,p,q,r,s,a,b,c,d,e,f,g,i,j] h
theorem JV.l18(I:Nat->LP)(B:LP->zaF)(s:S18 I B)(i:I m l h)(g:l.length=18)(t:kX (fx C fn tb k ks Q).c=true:=by kernel_rfl)(hk:(fx C fn tb k ks Q).ks=[]:=by kernel_rfl)
  (e:∀(K:LP) (ρ:gg) (h:Hp),VA C fn.ntmps tb (jR C fn.ntmps tb {fx C fn tb k ks Q with ks:=[kf is K]} false) ρ h=E0 18 (B K) (is.map ρ) h:=by intros;kernel_rfl) (r:is.length=18:=by rfl):JV C fn tb k is ks Q l h:=
 JV.loop 18 I B t hk e (λk l h g i=>match l,g,i with|[u,v,w,x,y,z,A,D,E,a,b,d,f,j,n,o,p,q],_,i=>s k u v w x y z A D E a b d f j n o p q h i) r (r.trans g.symm) i
abbrev nZ:V:= .int .i64 0
abbrev nO:V:= .int .i64 1
abbrev nS:V:= .ee
abbrev bT:V:= .bool true
abbrev bF:V:= .bool false
abbrev zC(T:Nat)(l:List V):Option (O×(Nat->V)):=some (.cells T 1 true false l,λl=> .ptr l 0)
abbrev P3(I:Nat->RQ)(B:(RQ)->RQ):Prop:=∀(k:Nat) (a b c:V) (h:Hp),I k a b c h->B (λa b c h=>∃k',k' < k/\I k' a b c h) a b c h
theorem WA.l3{a b d:Nat}{f i j:V}(I:Nat->RQ)(B:(RQ)->RQ)(s:P3 I B)(g:I m f i j h)(l:kX (fx C fn tb k ks Q).c=true:=by kernel_rfl)(hk:(fx C fn tb k ks Q).ks=[]:=by kernel_rfl)
  (e:∀(K:RQ) (ρ:gg) (h:Hp),VA C fn.ntmps tb (jR C fn.ntmps tb {fx C fn tb k ks Q with ks:=[λρ h=>K (ρ a) (ρ b) (ρ d) h]} false) ρ h=B K (ρ a) (ρ b) (ρ d) h:=by intros;kernel_rfl):∀ρ:gg,ρ a=f->ρ b=i->ρ d=j->WA C fn tb k ks Q ρ h:=by
 rintro ρ rfl rfl rfl;exact WA.loop (λk ρ h=>I k (ρ a) (ρ b) (ρ d) h) l hk (λk ρ h hi=>LA.of (by grind) (s k (ρ a) (ρ b) (ρ d) h hi)) g
abbrev P4(I:Nat->Jv)(B:(Jv)->Jv):Prop:=∀(k:Nat) (a b c d:V) (h:Hp),I k a b c d h->B (λa b c d h=>∃k',k' < k/\I k' a b c d h) a b c d h
theorem WA.l4{a b d f:Nat}{i j l n:V}(I:Nat->Jv)(B:(Jv)->Jv)(s:P4 I B)(g:I m i j l n h)(o:kX (fx C fn tb k ks Q).c=true:=by kernel_rfl)(hk:(fx C fn tb k ks Q).ks=[]:=by kernel_rfl)
  (e:∀(K:Jv) (ρ:gg) (h:Hp),VA C fn.ntmps tb (jR C fn.ntmps tb {fx C fn tb k ks Q with ks:=[λρ h=>K (ρ a) (ρ b) (ρ d) (ρ f) h]} false) ρ h=B K (ρ a) (ρ b) (ρ d) (ρ f) h:=by intros;kernel_rfl):∀ρ:gg,ρ a=i->ρ b=j->ρ d=l->ρ f=n->WA C fn tb k ks Q ρ h:=by
 rintro ρ rfl rfl rfl rfl;exact WA.loop (λk ρ h=>I k (ρ a) (ρ b) (ρ d) (ρ f) h) o hk (λk ρ h hi=>LA.of (by grind) (s k (ρ a) (ρ b) (ρ d) (ρ f) h hi)) g
abbrev P5(I:Nat->Hf)(B:(Hf)->Hf):Prop:=∀(k:Nat) (a b c d e:V) (h:Hp),I k a b c d e h->B (λa b c d e h=>∃k',k' < k/\I k' a b c d e h) a b c d e h
theorem WA.l5{a b d f i5:Nat}{i j l n o:V}(I:Nat->Hf)(B:(Hf)->Hf)(s:P5 I B)(g:I m i j l n o h)(p:kX (fx C fn tb k ks Q).c=true:=by kernel_rfl)(hk:(fx C fn tb k ks Q).ks=[]:=by kernel_rfl)
  (e:∀(K:Hf) (ρ:gg) (h:Hp),VA C fn.ntmps tb (jR C fn.ntmps tb {fx C fn tb k ks Q with ks:=[λρ h=>K (ρ a) (ρ b) (ρ d) (ρ f) (ρ i5) h]} false) ρ h=B K (ρ a) (ρ b) (ρ d) (ρ f) (ρ i5) h:=by intros;kernel_rfl):∀ρ:gg,ρ a=i->ρ b=j->ρ d=l->ρ f=n->ρ i5=o->WA C fn tb k ks Q ρ h:=by
 rintro ρ rfl rfl rfl rfl rfl;exact WA.loop (λk ρ h=>I k (ρ a) (ρ b) (ρ d) (ρ f) (ρ i5) h) p hk (λk ρ h hi=>LA.of (by grind) (s k (ρ a) (ρ b) (ρ d) (ρ f) (ρ i5) h hi)) g
abbrev P6(I:Nat->OS)(B:(OS)->OS):Prop:=∀(k:Nat) (a b c d e f:V) (h:Hp),I k a b c d e f h->B (λa b c d e f h=>∃k',k' < k/\I k' a b c d e f h) a b c d e f h
theorem WA.l6{a b d f i5 i6:Nat}{i j l n o p:V}(I:Nat->OS)(B:(OS)->OS)(s:P6 I B)(g:I m i j l n o p h)(q:kX (fx C fn tb k ks Q).c=true:=by kernel_rfl)(hk:(fx C fn tb k ks Q).ks=[]:=by kernel_rfl)
  (e:∀(K:OS) (ρ:gg) (h:Hp),VA C fn.ntmps tb (jR C fn.ntmps tb {fx C fn tb k ks Q with ks:=[λρ h=>K (ρ a) (ρ b) (ρ d) (ρ f) (ρ i5) (ρ i6) h]} false) ρ h=B K (ρ a) (ρ b) (ρ d) (ρ f) (ρ i5) (ρ i6) h:=by intros;kernel_rfl):∀ρ:gg,ρ a=i->ρ b=j->ρ d=l->ρ f=n->ρ i5=o->ρ i6=p->WA C fn tb k ks Q ρ h:=by
 rintro ρ rfl rfl rfl rfl rfl rfl;exact WA.loop (λk ρ h=>I k (ρ a) (ρ b) (ρ d) (ρ f) (ρ i5) (ρ i6) h) q hk (λk ρ h hi=>LA.of (by grind) (s k (ρ a) (ρ b) (ρ d) (ρ f) (ρ i5) (ρ i6) h hi)) g
abbrev P7(I:Nat->Pe)(B:(Pe)->Pe):Prop:=∀(k:Nat) (a b c d e f g:V) (h:Hp),I k a b c d e f g h->B (λa b c d e f g h=>∃k',k' < k/\I k' a b c d e f g h) a b c d e f g h
theorem WA.l7{a b d f i5 i6 i:Nat}{j l n o p q r:V}(I:Nat->Pe)(B:(Pe)->Pe)(s:P7 I B)(g:I m j l n o p q r h)(t:kX (fx C fn tb k ks Q).c=true:=by kernel_rfl)(hk:(fx C fn tb k ks Q).ks=[]:=by kernel_rfl)
  (e:∀(K:Pe) (ρ:gg) (h:Hp),VA C fn.ntmps tb (jR C fn.ntmps tb {fx C fn tb k ks Q with ks:=[λρ h=>K (ρ a) (ρ b) (ρ d) (ρ f) (ρ i5) (ρ i6) (ρ i) h]} false) ρ h=B K (ρ a) (ρ b) (ρ d) (ρ f) (ρ i5) (ρ i6) (ρ i) h:=by intros;kernel_rfl):∀ρ:gg,ρ a=j->ρ b=l->ρ d=n->ρ f=o->ρ i5=p->ρ i6=q->ρ i=r->WA C fn tb k ks Q ρ h:=by
 rintro ρ rfl rfl rfl rfl rfl rfl rfl;exact WA.loop (λk ρ h=>I k (ρ a) (ρ b) (ρ d) (ρ f) (ρ i5) (ρ i6) (ρ i) h) t hk (λk ρ h hi=>LA.of (by grind) (s k (ρ a) (ρ b) (ρ d) (ρ f) (ρ i5) (ρ i6) (ρ i) h hi)) g
abbrev P8(I:Nat->JL)(B:(JL)->JL):Prop:=∀(k:Nat) (a b c d e f g i:V) (h:Hp),I k a b c d e f g i h->B (λa b c d e f g i h=>∃k',k' < k/\I k' a b c d e f g i h) a b c d e f g i h
theorem WA.l8{a b d f i5 i6 i j:Nat}{l n o p q r t u:V}(I:Nat->JL)(B:(JL)->JL)(s:P8 I B)(g:I m l n o p q r t u h)(v:kX (fx C fn tb k ks Q).c=true:=by kernel_rfl)(hk:(fx C fn tb k ks Q).ks=[]:=by kernel_rfl)
  (e:∀(K:JL) (ρ:gg) (h:Hp),VA C fn.ntmps tb (jR C fn.ntmps tb {fx C fn tb k ks Q with ks:=[λρ h=>K (ρ a) (ρ b) (ρ d) (ρ f) (ρ i5) (ρ i6) (ρ i) (ρ j) h]} false) ρ h=B K (ρ a) (ρ b) (ρ d) (ρ f) (ρ i5) (ρ i6) (ρ i) (ρ j) h:=by intros;kernel_rfl):∀ρ:gg,ρ a=l->ρ b=n->ρ d=o->ρ f=p->ρ i5=q->ρ i6=r->ρ i=t->ρ j=u->WA C fn tb k ks Q ρ h:=by
 rintro ρ rfl rfl rfl rfl rfl rfl rfl rfl;exact WA.loop (λk ρ h=>I k (ρ a) (ρ b) (ρ d) (ρ f) (ρ i5) (ρ i6) (ρ i) (ρ j) h) v hk (λk ρ h hi=>LA.of (by grind) (s k (ρ a) (ρ b) (ρ d) (ρ f) (ρ i5) (ρ i6) (ρ i) (ρ j) h hi)) g
abbrev P10(I:Nat->Ij)(B:(Ij)->Ij):Prop:=∀(k:Nat) (b c d e f g i j l a:V) (h:Hp),I k b c d e f g i j l a h->B (λb c d e f g i j l a h=>∃k',k' < k/\I k' b c d e f g i j l a h) b c d e f g i j l a h
theorem WA.l10{b d f i i5 i6 j l n a:Nat}{p q r t u v w x y o:V}(I:Nat->Ij)(B:(Ij)->Ij)(s:P10 I B)(g:I m p q r t u v w x y o h)(z:kX (fx C fn tb k ks Q).c=true:=by kernel_rfl)(hk:(fx C fn tb k ks Q).ks=[]:=by kernel_rfl)
  (e:∀(K:Ij) (ρ:gg) (h:Hp),VA C fn.ntmps tb (jR C fn.ntmps tb {fx C fn tb k ks Q with ks:=[λρ h=>K (ρ b) (ρ d) (ρ f) (ρ i) (ρ i5) (ρ i6) (ρ j) (ρ l) (ρ n) (ρ a) h]} false) ρ h=B K (ρ b) (ρ d) (ρ f) (ρ i) (ρ i5) (ρ i6) (ρ j) (ρ l) (ρ n) (ρ a) h:=by intros;kernel_rfl):∀ρ:gg,ρ b=p->ρ d=q->ρ f=r->ρ i=t->ρ i5=u->ρ i6=v->ρ j=w->ρ l=x->ρ n=y->ρ a=o->WA C fn tb k ks Q ρ h:=by
 rintro ρ rfl rfl rfl rfl rfl rfl rfl rfl rfl rfl;exact WA.loop (λk ρ h=>I k (ρ b) (ρ d) (ρ f) (ρ i) (ρ i5) (ρ i6) (ρ j) (ρ l) (ρ n) (ρ a) h) z hk (λk ρ h hi=>LA.of (by grind) (s k (ρ b) (ρ d) (ρ f) (ρ i) (ρ i5) (ρ i6) (ρ j) (ρ l) (ρ n) (ρ a) h hi)) g
abbrev P11(I:Nat->Cw)(B:(Cw)->Cw):Prop:=∀(k:Nat) (c d e f g i j l m a b:V) (h:Hp),I k c d e f g i j l m a b h->B (λc d e f g i j l m a b h=>∃k',k' < k/\I k' c d e f g i j l m a b h) c d e f g i j l m a b h
theorem WA.l11{d f i j i5 i6 l n o a b:Nat}{r t u v w x y z A p q:V}(I:Nat->Cw)(B:(Cw)->Cw)(s:P11 I B)(g:I m r t u v w x y z A p q h)(D:kX (fx C fn tb k ks Q).c=true:=by kernel_rfl)(hk:(fx C fn tb k ks Q).ks=[]:=by kernel_rfl)
  (e:∀(K:Cw) (ρ:gg) (h:Hp),VA C fn.ntmps tb (jR C fn.ntmps tb {fx C fn tb k ks Q with ks:=[λρ h=>K (ρ d) (ρ f) (ρ i) (ρ j) (ρ i5) (ρ i6) (ρ l) (ρ n) (ρ o) (ρ a) (ρ b) h]} false) ρ h=B K (ρ d) (ρ f) (ρ i) (ρ j) (ρ i5) (ρ i6) (ρ l) (ρ n) (ρ o) (ρ a) (ρ b) h:=by intros;kernel_rfl):∀ρ:gg,ρ d=r->ρ f=t->ρ i=u->ρ j=v->ρ i5=w->ρ i6=x->ρ l=y->ρ n=z->ρ o=A->ρ a=p->ρ b=q->WA C fn tb k ks Q ρ h:=by
 rintro ρ rfl rfl rfl rfl rfl rfl rfl rfl rfl rfl rfl;exact WA.loop (λk ρ h=>I k (ρ d) (ρ f) (ρ i) (ρ j) (ρ i5) (ρ i6) (ρ l) (ρ n) (ρ o) (ρ a) (ρ b) h) D hk (λk ρ h hi=>LA.of (by grind) (s k (ρ d) (ρ f) (ρ i) (ρ j) (ρ i5) (ρ i6) (ρ l) (ρ n) (ρ o) (ρ a) (ρ b) h hi)) g
abbrev P13(I:Nat->FV)(B:(FV)->FV):Prop:=∀(k:Nat) (e f g i j l m n o a b c d:V) (h:Hp),I k e f g i j l m n o a b c d h->B (λe f g i j l m n o a b c d h=>∃k',k' < k/\I k' e f g i j l m n o a b c d h) e f g i j l m n o a b c d h
theorem WA.l13{i j l n i5 i6 o p q a b d f:Nat}{w x y z A D E F G r t u v:V}(I:Nat->FV)(B:(FV)->FV)(s:P13 I B)(g:I m w x y z A D E F G r t u v h)(H:kX (fx C fn tb k ks Q).c=true:=by kernel_rfl)(hk:(fx C fn tb k ks Q).ks=[]:=by kernel_rfl)
  (e:∀(K:FV) (ρ:gg) (h:Hp),VA C fn.ntmps tb (jR C fn.ntmps tb {fx C fn tb k ks Q with ks:=[λρ h=>K (ρ i) (ρ j) (ρ l) (ρ n) (ρ i5) (ρ i6) (ρ o) (ρ p) (ρ q) (ρ a) (ρ b) (ρ d) (ρ f) h]} false) ρ h=B K (ρ i) (ρ j) (ρ l) (ρ n) (ρ i5) (ρ i6) (ρ o) (ρ p) (ρ q) (ρ a) (ρ b) (ρ d) (ρ f) h:=by intros;kernel_rfl):∀ρ:gg,ρ i=w->ρ j=x->ρ l=y->ρ n=z->ρ i5=A->ρ i6=D->ρ o=E->ρ p=F->ρ q=G->ρ a=r->ρ b=t->ρ d=u->ρ f=v->WA C fn tb k ks Q ρ h:=by
 rintro ρ rfl rfl rfl rfl rfl rfl rfl rfl rfl rfl rfl rfl rfl;exact WA.loop (λk ρ h=>I k (ρ i) (ρ j) (ρ l) (ρ n) (ρ i5) (ρ i6) (ρ o) (ρ p) (ρ q) (ρ a) (ρ b) (ρ d) (ρ f) h) H hk (λk ρ h hi=>LA.of (by grind) (s k (ρ i) (ρ j) (ρ l) (ρ n) (ρ i5) (ρ i6) (ρ o) (ρ p) (ρ q) (ρ a) (ρ b) (ρ d) (ρ f) h hi)) g
end
