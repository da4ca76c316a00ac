/- Parts. -/
import Derived.Test.YtcoaokdoecgcbaaGreatDoorM09
set_option maxHeartbeats 4000000
namespace Go.Proofs.YtcoaokdoecgcbaaGreatDoor.Hx
variable{all:List Oper}{tb:List (Nat×List Nat)}{n:Nat}{K:iG->Hp->Prop}{ks:List (iG->Hp->Prop)}{C:mh}{Q:V->Hp->Prop}{o:Oper}{k d:Nat}{w:Bool}{av:List Nat}{fn:Func}{a:Nat}{P:Prop}{v:V}{h':Hp}
abbrev XQ:=X->iG->Hp->Prop
abbrev fj:=V->Hp->Prop
abbrev QP2:=V->V->Hp->Prop
abbrev QP3:=V->V->V->Hp->Prop
abbrev S3:=V->V->V->V->Hp->Prop
abbrev KJ:=V->V->V->V->V->Hp->Prop
abbrev QP6:=V->V->V->V->V->V->Hp->Prop
abbrev Pb:=V->V->V->V->V->V->V->Hp->Prop
abbrev YW:=V->V->V->V->V->V->V->V->Hp->Prop
abbrev NM:=V->V->V->V->V->V->V->V->V->V->Hp->Prop
abbrev KP:=V->V->V->V->V->V->V->V->V->V->V->Hp->Prop
abbrev zam:=V->V->V->V->V->V->V->V->V->V->V->V->V->Hp->Prop
abbrev zeN:=V->V->V->V->V->V->V->V->V->V->V->V->V->V->Hp->Prop
abbrev zeD:=V->V->V->V->V->V->V->V->V->V->V->V->V->V->V->V->Hp->Prop
def isVal(o:Oper):Bool:=match o.op with
 | .move x| .assign x=>Uq x
 | .makeFunc _ _ _=>true
 | .makeInterface _ x=>Uq x
 |_=>false
theorem zaz (h:isVal o=true):cls o=0:=by
 grind[isVal,cls]
def opV(C:mh) (o:Oper) (K:V->iG->Hp->Prop):iG->Hp->Prop:=match isVal o with
 |true=>λρ h=>Option.rec False (λv=>K v ρ h) ((iJ o).f (.fn ρ []) h)
 |false=>UG C o K
theorem zfs(C:mh) (o:Oper) (K:V->iG->Hp->Prop):opV C o K=UG C o K:=by
 unfold opV
 cases hv:isVal o with
 |false=>rfl
 | true=>
   unfold UG;rw[zaz hv];rfl
def Yp(C:mh) (n:Nat) (all:List Oper) (o:Oper) (K:iG->Hp->Prop):iG->Hp->Prop:=match kE n all o with
 |none=>opV C o (qb n o K)
 |some g=>λρ h=>oP (g.f (.fn ρ [])) λb=>gdR C o b (qb n o K) ρ h
noncomputable section
inductive Gs where
 |last (o:Oper) (d:Nat)
 |op (o:Oper) (d:Nat) (a:Gs)
 |nest (w:Bool) (d:Nat) (sub:Gs) (o:Oper) (b:Nat) (a:Gs)
 |HX (w:Bool) (d:Nat) (sub:Gs) (o:Oper) (b:Nat)
def Gs.dst:Gs->Nat
 | .last _ d=>d
 | .op _ _ r=>r.dst
 | .nest _ _ _ _ _ r=>r.dst
 | .HX _ _ _ _ a=>a
def Gs.ops:Gs->List Oper
 | .last o _=>[o]
 | .op o _ r=>o::r.ops
 | .nest _ _ s o _ r=>s.ops++o::r.ops
 | .HX _ _ s o _=>s.ops++[o]
def gA(w:Bool) (c:V) (x:Option V):Option V:=match w with
 |true=>iM c x
 |false=>mi c x
def TI(b:Bool)(x:Option V):V:=Bool.rec V.undef (Option.rec V.undef (λv=>v) x) b
def RP(w:Bool)(v:V):Bool:=Option.rec false (λb=>b) (gD w v)
noncomputable def CJ(g:Gs):Bool->iG->Hp->iG:=Gs.rec (λo d b ρ h=>nG ρ d (TI b ((iJ o).f (.fn ρ []) h))) (λo d _ c b ρ h=>c b (nG ρ d (TI b ((iJ o).f (.fn ρ []) h))) h) (λw d _ o e _ a c b ρ h=>c b (nG (a (RP w (ρ d)) ρ h) e (TI b ((iJ o).f (.fn (a (RP w (ρ d)) ρ h) []) h))) h) (λw d _ o e a b ρ h=>nG (a (RP w (ρ d)) ρ h) e (TI b ((iJ o).f (.fn (a (RP w (ρ d)) ρ h) []) h))) g
noncomputable def gE(g:Gs):iG->Hp->Option V:=Gs.rec (λo _ ρ h=>(iJ o).f (.fn ρ []) h) (λo d _ b ρ h=>oB ((iJ o).f (.fn ρ []) h) λv=>b (nG ρ d v) h) (λw d sub _ c _ a b ρ h=>oB (gA w (ρ d) (a ρ h)) λv=>b (nG (CJ sub (RP w (ρ d)) ρ h) c v) h) (λw d _ _ _ a ρ h=>gA w (ρ d) (a ρ h)) g
def Wu(x:Operand) (d:Nat):Bool:=match x with
 | .tmp i=>Nat.beq i d
 |_=>false
def zdJ(x:Operand) (b:Bool):Bool:=match x with
 | .const v=>match ni 8 v with
   |some (.bool c)=>c == b
   |_=>false
 |_=>false
def Wl(o:Oper) (w:Bool) (d x:Nat):Bool:=match o.op with
 | .pick c a b=>Wu c d&&(match w with
   |true=>Wu a x&&zdJ b false
   |false=>Wu b x&&zdJ a true)
 |_=>false
def dOk(n:Nat) (o:Oper) (d:Nat):Bool:=match o.dst with
 |some a=>Nat.beq a d&&Nat.blt d n
 |none=>false
def zbQ(n:Nat) (all:List Oper) (o:Oper) (w:Bool) (d:Nat):Bool:=match o.guard with
 | some (j,w')=>(w' == w)&&(match all[j]? with
   |some a=>dOk n a d
   |none=>false)
 |none=>false
def UC(n:Nat)(all:List Oper)(av:List Nat)(w:Bool)(d:Nat)(o:Oper)(a:Nat):Bool:=Nat.beq (cls o) 0&&zbQ n all o w d&&dOk n o a&&av.all (λi=>!(Nat.beq i a))
def chk(n:Nat) (all:List Oper):List Nat->Bool->Nat->List Nat->Gs->Bool
 |av,w,d,_,.last o a=>UC n all av w d o a
 |av,w,d,ins,.op o a r=>UC n all av w d o a&&chk n all av w d (a::ins) r
 |av,w,d,ins,.nest w' a s o b r=>ins.any (λi=>Nat.beq i a)&&chk n all (a::av) w' a [] s&&UC n all av w d o b&&Wl o w' a s.dst&&chk n all av w d (b::ins) r
 |av,w,d,ins, .HX w' a s o b=>ins.any (λi=>Nat.beq i a)&&chk n all (a::av) w' a [] s&&UC n all av w d o b&&Wl o w' a s.dst
def Ch(n:Nat) (all:List Oper) (h:Hp):List Oper->iG->iG->Prop
 |[],ρ,ρ'=>ρ' = ρ
 | o::os,ρ,ρ'=>cls o=0/\∃d v,o.dst=some d/\Nat.blt d n=true/\((kE n all o=none/\(iJ o).f (.fn ρ []) h=some v)\/
   ∃g b,kE n all o=some g/\g.f (.fn ρ [])=some b/\gV b ((iJ o).f (.fn ρ []) h)=some v)/\Ch n all h os (nG ρ d v) ρ'
theorem Ch.app  {h:Hp}:∀{os a:List Oper} {ρ e f:iG},Ch n all h os ρ e->Ch n all h a e f->Ch n all h (os++a) ρ f
 |[],_,_,_,_,b,c=>by cases b;exact c
 |_::_,_,_,_,_,⟨hc,d,v,b,c,g,i⟩,j=>⟨hc,d,v,b,c,g,i.app j⟩
theorem Pv(ρ:iG)(d:Nat)(v:V):nG ρ d v d=v:=zaq ρ d v
theorem zbE     (a:zbQ n all o w d=true):∃g,kE n all o=some g/\∀ρ:iG,g.f (.fn ρ [])=gD w (ρ d):=by
 unfold zbQ at a;split at a
 ·rename_i j w' b;simp[ Ey]at a;obtain⟨c,a⟩:=a;subst c;split at a
  ·rename_i h e;unfold dOk at a;split at a
   ·rename_i i hd;simp only[yF]at a
    let⟨e1,e2⟩:=a
    have e1:=DG e1;subst e1;refine⟨_,by simp[kE,b,e,hd,e2];rfl,λρ=>rfl⟩
   simp_all
  simp_all
 simp_all
theorem YE       (b:UC n all av w d o a=true) :
  cls o=0/\(∃g,kE n all o=some g/\∀ρ:iG,g.f (.fn ρ [])=gD w (ρ d))/\o.dst=some a/\Nat.blt a n=true/\∀i∈av,i≠a:=by
 unfold UC at b;simp only[yF]at b
 let⟨⟨⟨e,h⟩,c⟩,k⟩:=b
 refine⟨DG e,zbE h,?_⟩;unfold dOk at c;split at c
 ·rename_i j hd
  grind[DG,Sx]
 simp_all
theorem QC{x:Operand}  (h:Wu x d=true):x = .tmp d:=by
 unfold Wu at h
 grind[DG,absurd]
theorem Yq{x:Operand} {b:Bool} (a:zdJ x b=true) (t:Tm) (h:Hp):(yL x).f t h=some (.bool b):=by
 unfold zdJ at a;split at a
 ·rename_i v;split at a
  ·rename_i c hc;have e:c=b:=by simpa using a
   subst e;show(Rq (.const v)).f t=_
   grind[Rq]
  simp_all
 simp_all
theorem YK  {x:Nat} (hp:Wl o w d x=true) {ρ:iG} {h:Hp} {c:Bool} (hc:ρ d = .bool c):(iJ o).f (.fn ρ []) h=some (match w,c with
  |true,true=>ρ x
  |true,false=> .bool false
  |false,false=>ρ x
  |false,true=> .bool true)/\cls o=0:=by
 unfold Wl at hp;split at hp
 ·rename_i c' a b g;simp[yF]at hp
  let⟨i,e⟩:=hp
  have e1:=QC i;subst e1;refine⟨?_,by grind[cls]⟩;have e0:(yL (.tmp d)).f (.fn ρ []) h=some (.bool c):=by show some (ρ d)=_;rw[hc]
  unfold iJ;rw[g];simp[OJ,e0]
  cases w with
  | true=>
    simp[yF]at e;have e2:=QC e.1;subst e2
    cases c with
    |true=>rfl
    |false=>grind[Yq]
  | false=>
    simp[yF]at e;have e2:=QC e.1;subst e2
    cases c with
    |true=>grind[Yq]
    |false=>rfl
 simp_all
theorem YZ {c:V} {x:Option V}  (a:gA w c x=some v):∃b,c = .bool b/\gD w c=some (b == w)/\((b=w/\x=some v)\/(b≠w/\v = .bool (!w))):=by
 unfold gA at a
 cases w with
 | true=>
   simp[iM]at a;split at a
   ·cases a;simp_all
   ·simp_all
   ·cases a
 | false=>
   simp[mi]at a;split at a
   ·cases a;simp_all
   ·simp_all
   ·cases a
theorem Vp(ρ:iG){d i:Nat}(v:V)(h:i≠d):nG ρ d v i=ρ i:=zdQ ρ v h
theorem Ch.one       (c:UC n all av w d o a=true) {ρ:iG} {h:Hp} {b:Bool} (k:gD w (ρ d)=some b) {v:V}
  (hv:gV b ((iJ o).f (.fn ρ []) h)=some v):Ch n all h [o] ρ (nG ρ a v):=by
 let⟨e,⟨g,l,m⟩,i,j,p⟩:=YE c
 exact⟨e,a,v,i,j,by grind,rfl⟩
theorem Pl{b:Bool} {x:Option V}  (h:gV b x=some v):TI b x=v:=by
 cases b with
 |true=>have h':=h;subst h';rfl
 |false=>cases h;rfl
def Vx(n:Nat) (all:List Oper) (av:List Nat) (os:List Oper) (b:Bool) (ρ a:iG) (h:Hp) (d:Nat) (x:V):Prop:=Ch n all h os ρ a/\a d=x/\(∀i∈av,a i=ρ i)/\(b=false->∀i,ρ i = .undef->a i = .undef)
theorem Vx.one       (c:UC n all av w d o a=true) {ρ:iG} {h:Hp} {b:Bool} (g:gD w (ρ d)=some b) {v:V}
  (hv:gV b ((iJ o).f (.fn ρ []) h)=some v):Vx n all av [o] b ρ (nG ρ a v) h a v:=by
 let⟨_,_,_,_,j⟩:=YE c
 refine⟨Ch.one c g hv,Pv _ _ _,by grind[Vp],λe i hi=>?_⟩;subst e;cases hv
 grind[Pv,Vp]
theorem Vx.trans   {os a:List Oper} {b:Bool} {ρ g j:iG} {h:Hp}  {x l:V} (f:Vx n all av os b ρ g h d x) (c:Vx n all av a b g j h k l):Vx n all av (os++a) b ρ j h k l:=
 ⟨f.1.app c.1,c.2.1,λi hi=>(c.2.2.1 i hi).trans (f.2.2.1 i hi),λe i hi=>c.2.2.2 e i (f.2.2.2 e i hi)⟩
theorem zai :∀g {av:List Nat} {w:Bool} {d:Nat} {ins:List Nat},chk n all av w d ins g=true->d∈av->∀{ρ:iG} {h:Hp} {b:Bool},gD w (ρ d)=some b->
  (b=false->∀i∈ins,ρ i = .undef)->∀{x:V},gV b (gE g ρ h)=some x->Vx n all av g.ops b ρ (CJ g b ρ h) h g.dst x:=by
 have nest:∀s,(∀{av:List Nat} {w:Bool} {d:Nat} {ins:List Nat},chk n all av w d ins s=true->d∈av->∀{ρ:iG} {h:Hp} {b:Bool},gD w (ρ d)=some b->
    (b=false->∀i∈ins,ρ i = .undef)->∀{x:V},gV b (gE s ρ h)=some x->Vx n all av s.ops b ρ (CJ s b ρ h) h s.dst x)->
   ∀{av:List Nat} {w w':Bool} {d k q:Nat} {ins:List Nat} {o:Oper},ins.any (λi=>Nat.beq i k)=true->chk n all (k::av) w' k [] s=true->UC n all av w d o q=true->Wl o w' k s.dst=true->d∈av->
   ∀{ρ:iG} {h:Hp} {b:Bool},gD w (ρ d)=some b->(b=false->∀i∈ins,ρ i = .undef)->∀{v:V},gV b (gA w' (ρ k) (gE s ρ h))=some v->
   gV b ((iJ o).f (.fn (CJ s (RP w' (ρ k)) ρ h) []) h)=some v/\Vx n all av (s.ops++[o]) b ρ (nG (CJ s (RP w' (ρ k)) ρ h) q v) h q v:=by
  intro s D av w w' d k q ins o H hc Q hp hd ρ h b m hi v hv
  let⟨i,hi1,hi2⟩:=List.any_eq_true.1 H
  have e:=DG hi2;subst e
  cases b with
  | true=>
    let⟨c,e1,e2,R⟩:=YZ (hv)
    have I:RP w' (ρ i)=(c == w'):=by unfold RP;rw[e2]
    rw[I];obtain⟨y,U⟩:∃y,gV (c == w') (gE s ρ h)=some y/\(c=w'->y=v):=by
      rcases R with⟨E,J⟩|⟨E,J⟩
      ·simp_all
      ·have:(c == w')=false:=by simp[E]
       rw[this];simp_all
    let⟨K,S,L,W⟩:=D hc (Wh ..) e2 (by simp_all) U.1
    have M:CJ s (c == w') ρ h i = .bool c:=by rw[L i (Wh ..)];exact e1
    have N:=(YK hp (h:=h) M).1;have t:(iJ o).f (.fn (CJ s (c == w') ρ h) []) h=some v:=by
      rw[N,S];rcases R with⟨E,J⟩|⟨E,J⟩
      ·grind
      ·grind
    refine⟨t,?_⟩;have a:=Vx.one Q (b:=true) (by simp_all) t
    refine⟨K.app a.1,a.2.1,λj F=>(a.2.2.1 j F).trans (by simp_all),by simp_all⟩
  | false=>
    have e1:ρ i = .undef:=by simp_all
    have e2:gD w' (ρ i)=some false:=by rw[e1];rfl
    have I:RP w' (ρ i)=false:=by unfold RP;rw[e2]
    rw[I];cases hv;obtain⟨K,S,L,W⟩:=D hc (Wh ..) e2 (by simp_all) rfl;refine⟨rfl,?_⟩;have a:=Vx.one Q (ρ:=CJ s false ρ h) (h:=h) (by rw[L d (wBA _ hd)];exact m) rfl;exact⟨K.app a.1,a.2.1,λj F=>(a.2.2.1 j F).trans (by simp_all),λe j F=>a.2.2.2 e j (by simp_all)⟩
 intro g
 induction g with
 | last o k=>
   intro av w d ins p hd ρ h b m hi x u;have l:gV b ((iJ o).f (.fn ρ []) h)=some x:=u;show Vx n all av [o] b ρ (nG ρ k (TI b ((iJ o).f (.fn ρ []) h))) h k x;rw[Pl l]
   exact Vx.one p m l
 | op o k r D=>
   intro av w d ins p hd ρ h b m hi x u;simp[chk,yF]at p;obtain⟨v,hv,l⟩:∃v,gV b ((iJ o).f (.fn ρ []) h)=some v/\gV b (gE r (nG ρ k v) h)=some x:=by
     cases b with
     | true=>
       let⟨v,z,A⟩:=fD.1 (u)
       exact⟨v,z,A⟩
     |false=>simp_all
   have a:=Vx.one p.1 m hv;show Vx n all av ([o]++r.ops) b ρ (CJ r b (nG ρ k (TI b ((iJ o).f (.fn ρ []) h))) h) h r.dst x;rw[Pl hv];refine a.trans (D p.2 hd (by rw[a.2.2.1 d hd];exact m) ?_ l);intro e i B;rcases Aw.1 B with e'|e'
   ·simp_all[Pv]
   ·exact a.2.2.2 e i (by simp_all)
 | nest w' k s o q r C D=>
   intro av w d ins p hd ρ h b m hi x u;simp only[chk,yF]at p
   let⟨⟨⟨⟨z,A⟩,O⟩,P⟩,X⟩:=p
   obtain ⟨v,hv,l⟩:∃v,gV b (gA w' (ρ k) (gE s ρ h))=some v/\gV b (gE r (nG (CJ s (RP w' (ρ k)) ρ h) q v) h)=some x:=by
     cases b with
     | true=>
       let⟨v,z,A⟩:=fD.1 (u)
       exact⟨v,z,A⟩
     |false=>simp_all
   let⟨T,G⟩:=nest s C z A O P hd m hi hv
   show Vx n all av (s.ops++([o]++r.ops)) b ρ (CJ r b (nG (CJ s (RP w' (ρ k)) ρ h) q (TI b ((iJ o).f (.fn (CJ s (RP w' (ρ k)) ρ h) []) h))) h) h r.dst x;rw[Pl T,<-Cy];refine G.trans (D X hd (by rw[G.2.2.1 d hd];exact m) ?_ l);intro e i B;rcases Aw.1 B with e'|e'
   ·simp_all[Pv]
   ·exact G.2.2.2 e i (by simp_all)
 | HX w' k s o q C=>
   intro av w d ins p hd ρ h b m hi x u;simp only[chk,yF]at p
   let⟨⟨⟨z,A⟩,O⟩,P⟩:=p
   let⟨T,G⟩:=nest s C z A O P hd m hi (u)
   show Vx n all av (s.ops++[o]) b ρ (nG (CJ s (RP w' (ρ k)) ρ h) q (TI b ((iJ o).f (.fn (CJ s (RP w' (ρ k)) ρ h) []) h))) h q x
   grind[Pl]
inductive Xk where
 |op (o:Oper) (d:Nat)
 |nest (w:Bool) (d:Nat) (sub:Gs) (o:Oper) (a:Nat)
def Xk.dst:Xk->Nat
 | .op _ d=>d
 | .nest _ _ _ _ a=>a
def Xk.ops:Xk->List Oper
 | .op o _=>[o]
 | .nest _ _ s o _=>s.ops++[o]
def Xk.one:Xk->Gs
 | .op o d=> .last o d
 | .nest w d s o a=> .HX w d s o a
def Xk.cons(r:Gs):Xk->Gs
 | .op o d=> .op o d r
 | .nest w d s o a=> .nest w d s o a r
def zhZ(all:List Oper) (o:Oper):Option (Bool×Nat):=match o.guard with
 | some (j,w)=>match all[j]? with
   | some a=>match a.dst with
     |some d=>some (w,d)
     |none=>none
   |none=>none
 |none=>none
def TP(n : Nat) (all:List Oper) (gpV:Bool->Nat->List Nat->List Oper->Option (Gs×List Oper)) (w:Bool) (d:Nat) (ins:List Nat) (os:List Oper):Option (Xk×List Oper):=match os with
  |[]=>none
  | o ::os'=>match zbQ n all o w d&&Nat.beq (cls o) 0,o.dst with
    |true,some d'=>some (.op o d',os')
    | _,_ => match zhZ all o with
      |none=>none
      | some (w',d')=>match ins.any (λi=>Nat.beq i d')with
        |false=>none
        | true=>match gpV w' d' [] (o::os')with
          | some (s,p::os'')=>match zbQ n all p w d&&Wl p w' d' s.dst,p.dst with
            |true,some dp=>some (.nest w' d' s p dp,os'')
            |_,_=>none
          |_=>none
noncomputable def gpV(n:Nat) (all:List Oper) (fuel:Nat):Bool->Nat->List Nat->List Oper->Option (Gs×List Oper):=
 Nat.rec (λ_ _ _ _=>none) (λ_ a w d ins os=>match TP n all a w d ins os with
  |none=>none
  | some (it,os')=>match a w d (it.dst::ins) os' with
    |some (g,r)=>some (it.cons g,r)
    |none=>some (it.one,os')) fuel
theorem WT  {gpV:Bool->Nat->List Nat->List Oper->Option (Gs×List Oper)} (a:∀w d ins os g r,gpV w d ins os=some (g,r)->os=g.ops++r) {w:Bool} {d:Nat} {ins:List Nat} {os:List Oper} {it:Xk} {r:List Oper}
  (h:TP n all gpV w d ins os=some (it,r)):os=it.ops++r:=by
 unfold TP at h;split at h
 ·cases h
 ·split at h
  ·cases h;rfl
  ·split at h
   ·cases h
   grind[Xk.ops,Cy]
theorem UD :∀fuel w d ins os g r,gpV n all fuel w d ins os=some (g,r)->os=g.ops++r
 |0,_,_,_,_,_,_,h=>by cases h
 | fuel+1,w,d,ins,os,g,r,h=>by
   have h':(match TP n all (gpV n all fuel) w d ins os with
     |none=>none
     | some (it,a)=>match gpV n all fuel w d (it.dst::ins) a with
       |some (g,r)=>some (it.cons g,r)
       |none=>some (it.one,a))=some (g,r):=h
   split at h'
   ·cases h'
   ·rename_i it a b
    have e1:=WT (λw d ins os g r c=>UD fuel w d ins os g r c) b;split at h'
    ·rename_i e r' c
     cases h';have e2:=UD fuel _ _ _ _ _ _ c;rw[e1,e2];cases it <;> simp[Xk.ops,Xk.cons,Gs.ops]
    ·cases h'
     rw[e1];cases it <;> simp[Xk.ops,Xk.one,Gs.ops]
noncomputable def zc2(n:Nat) (all:List Oper) (os:List Oper):Option (Bool×Nat×Gs×Nat):=match os with
 |[]=>none
 | o ::_ => match o.guard with
   |none=>none
   | some (j,w)=>match all[j]? with
     |none=>none
     | some a=>match a.guard,a.dst,Nat.beq (cls o) 0 with
       | none,some d,true=>match gpV n all 60 w d [] os with
         | some (g,p::_)=>match p.guard,p.dst with
           | none,some dp=>match Wl p w d g.dst&&Nat.blt dp n&&chk n all [d] w d [] g with
             |true=>some (w,d,g,dp)
             |false=>none
           |_,_=>none
         |_=>none
       |_,_,_=>none
theorem zdL {os:List Oper}   {g:Gs}  (h:zc2 n all os=some (w,d,g,a)):∃p r,os=g.ops++p::r/\p.guard=none/\p.dst=some a/\Wl p w d g.dst=true/\Nat.blt a n=true/\chk n all [d] w d [] g=true:=by
 unfold zc2 at h;split at h
 ·cases h
 ·split at h
  ·cases h
  ·split at h
   ·cases h
   ·split at h
    ·split at h
     ·rename_i b;split at h
      ·rename_i c e;split at h
       ·rename_i f;cases h
        grind[UD]
       ·cases h
      ·cases h
     ·cases h
    ·cases h
theorem JI  {a:iG->Hp->Prop} (b:∀ρ h,K ρ h->a ρ h) {v:V} {ρ:iG} {h:Hp} (c:qb n o K v ρ h):qb n o a v ρ h:=by
 grind[qb,Nat.blt]
theorem rI{α:Type}{x:Option α}{k k':α->Prop}(h:oP x k)(f:∀a,k a->k' a):oP x k':=by grind[oM]
theorem za7  {K b:V->iG->Hp->Prop} (e:∀v ρ h,K v ρ h->b v ρ h) {ρ:iG} {h:Hp} (d:UG C o K ρ h):UG C o b ρ h:=by
 unfold UG at d⊢;generalize cls o=c at d⊢;rcases c with _|_|c
 ·grind[rI]
 ·grind[rI]
 ·show WN C o b ρ h;have a:=d;unfold WN at a⊢;cases hi:zB o
  all_goals rw[hi]at a
  ·grind[rI]
  ·exact rI a λx H=>H.mono (by simp_all)
theorem zc0  {b:Bool} {K d:V->iG->Hp->Prop} (e:∀v ρ h,K v ρ h->d v ρ h) {ρ:iG} {h:Hp} (a:gdR C o b K ρ h):gdR C o b d ρ h:=by
 unfold gdR at a⊢;generalize cls o=c at a⊢;rcases c with _|_|c
 ·grind[rI]
 ·grind[rI]
 ·simp only at a⊢;cases hi:zB o
  all_goals rw[hi]at a
  ·grind[rI]
  ·refine rI a λx H=>?_
   cases x with
   |none=>simp_all
   |some y=>exact cP.mono H (by simp_all)
theorem Yb    {a:iG->Hp->Prop} (c:∀ρ h,K ρ h->a ρ h) {ρ:iG} {h:Hp} (b:A5 C n all o K ρ h):A5 C n all o a ρ h:=by
 unfold A5 at b⊢
 cases hw:kE n all o with
 |none=>rw[hw]at b;grind[za7,JI]
 |some g=>grind[rI,zc0,JI]
theorem zbh(C:mh) (n:Nat) (all:List Oper) (o:Oper) (K:iG->Hp->Prop):Yp C n all o K=A5 C n all o K:=by
 grind[Yp,A5,zfs]
theorem Ch.AR   {h:Hp}  {a:List Oper}:∀{os:List Oper} {ρ b:iG},Ch n all h os ρ b->AR C n all K a b h->AR C n all K (os++a) ρ h
 |[],_,_,hc,hk=>by cases hc;exact hk
 | o::os,ρ,b,⟨h0,d,v,c,e,i,f⟩,hk=>by
   have g:=f.AR hk;have hd:qb n o (Hx.AR C n all K (os++a)) v ρ h:=by unfold qb;rw[c];simp[e];exact g
   show A5 C n all o (Hx.AR C n all K (os++a)) ρ h
   grind[A5,UG,ec,gdR]
noncomputable def Xo(C:mh) (n:Nat) (all:List Oper) (K:iG->Hp->Prop) (os:List Oper):Nat->iG->Hp->Prop:=
 List.rec (λ_=>K) (λo os a b=>Nat.rec
  (match zc2 n all (o::os)with
   |some (w,d,g,dp)=>λρ h=>oP (gA w (ρ d) (gE g ρ h)) λv=>a g.ops.length (nG (CJ g (RP w (ρ d)) ρ h) dp v) h
   |none=>Yp C n all o (a 0)) (λk _=>a k) b) os
theorem MU   :∀os e {ρ:iG} {h:Hp},Xo C n all K os e ρ h->AR C n all K (os.drop e) ρ h
 |[],e,ρ,h,hk=>by rw[List.drop_nil];exact hk
 |o::os,e+1,ρ,h,hk=>MU os e hk
 | o ::os,0,ρ,h,hk=>by
   have a:(match zc2 n all (o::os)with
     |some (w,d,g,dp)=>λρ h=>oP (gA w (ρ d) (gE g ρ h)) λv=>Xo C n all K os g.ops.length (nG (CJ g (RP w (ρ d)) ρ h) dp v) h
     |none=>Yp C n all o (Xo C n all K os 0):iG->Hp->Prop) ρ h:=hk
   show AR C n all K (o::os) ρ h
   cases hg:zc2 n all (o::os)with
   | some x=>
     let⟨w,d,g,dp⟩:=x
     rw[hg]at a
     let⟨p,r,e1,e2,u,b,i,z⟩:=zdL hg
     let⟨v,A,m⟩:=ma.1 a
     let⟨c,B,c2,q⟩:=YZ A
     have D:RP w (ρ d)=(c == w):=by unfold RP;rw[c2]
     rw[D]at m;obtain⟨y,E⟩:∃y,gV (c == w) (gE g ρ h)=some y/\(c=w->y=v):=by
       rcases q with⟨b,i⟩|⟨b,i⟩
       ·simp_all
       ·have:(c == w)=false:=by simp[b]
        rw[this];simp_all
     let⟨F,G,H,L⟩:=zai g z (Wh ..) c2 (by simp_all) E.1
     have k:CJ g (c == w) ρ h d = .bool c:=by rw[H d (Wh ..)];exact B
     have j:=YK b (h:=h) k;have s:(iJ p).f (.fn (CJ g (c == w) ρ h) []) h=some v:=by
       rw[j.1,G];rcases q with⟨b,i⟩|⟨b,i⟩
       ·grind
       ·grind
     have l:Ch n all h [p] (CJ g (c == w) ρ h) (nG (CJ g (c == w) ρ h) dp v):=⟨j.2,dp,v,u,i,by grind[kE],rfl⟩
     have hlen:os.drop g.ops.length=r:=by
       have I:(o::os).drop (g.ops.length+1)=r:=by rw[e1,List.append_cons];exact by simp_all
       exact I
     have t:=MU os _ m;rw[hlen]at t;rw[e1,List.append_cons]
     exact(F.app l).AR t
   | none=>
     rw[hg]at a;simp[zbh]at a;exact Yb (λρ h J=>by have:=MU os 0 J;exact this) a
def EC(o:Oper):Bool:=match o.op with
 | .move x| .assign x| .nilCheck x| .fieldAddr _ x _| .unOp _ _ x| .extract x _| .convert _ _ x=>Uq x
 | .pick c a b=>Uq c&&Uq a&&Uq b
 | .binOp _ _ x y _=>Uq x&&Uq y
 | .indexAddr _ x i| .index _ x i=>Uq x&&Uq i
 | .build _ _| .makeFunc _ _ _=>true
 | .makeInterface _ x=>Uq x
 | .call c=>match c.callee,c.args.toList,c.argTypes.toList with
   | .builtin .len,[x],ty::_=>match P0.underlying ty with
     |some (.slice _)=>Uq x
     |_=>false
   |_,_,_=>false
 |_=>false
theorem zbH (a:EC o=true) (t:Tm) (h h':Hp):(iJ o).f t h=(iJ o).f t h':=by
 unfold EC at a;unfold iJ;split at a
 all_goals rename_i b
 all_goals try rw[b]
 all_goals try simp only[yF]at a
 ·grind[lj]
 ·grind[lj]
 ·grind[AZ,lj]
 ·grind[sr,lj]
 ·grind[lj]
 ·grind[Iz,lj]
 ·grind[Qo,lj]
 ·grind[OJ,lj]
 ·grind[lj]
 ·grind[sG,lj]
 ·grind[K0,lj]
 ·simp[Lj];grind
 ·split <;> first|rfl|simp_all
 ·dsimp only;split <;> first|rfl|grind[lj]
 ·grind[hlen,lj,absurd]
 simp_all
abbrev RE:=Bool×Rec×Bool×Bool
def KG(k:Nat) (h:Hp) (rs:List RE) (K:Prop):Prop:=List.rec K (λr _ a=>Bool.rec (Option.rec (Bool.rec a (Bool.rec True (GI h r.2.1) r.1/\a) r.2.2.2) (λ_=>Bool.rec True (GI h r.2.1) r.1/\a) r.2.1.made) a (Nat.blt r.2.1.last k)) rs
def MF(rs:List RE):List RE:=rs.map λr=>(r.1,r.2.1,r.2.2.1,!r.2.2.1)
def vr(rs:List RE):List (Bool×Rec):=rs.map λr=>(r.1,r.2.1)
def itV(C:mh) (n:Nat) (all:List Oper) (ws:List It) (a:It) (d:Nat->iG->Hp->List RE->Prop) (k:Nat):iG->Hp->List RE->Prop:=match cls a.o with
  | 0 =>match kE n all a.o with
    | none=>match isVal a.o with
      |true=>λρ h rs=>Option.rec False (λv=>qb n a.o (λc h=>d k c h ((true,{it:=a,t:= .fn ρ [],v,made:=none,last:=late ws a},EC a.o,false)::rs)) v ρ h) ((iJ a.o).f (.fn ρ []) h)
      |false=>λρ h rs=>oP ((iJ a.o).f (.fn ρ []) h) λv=>qb n a.o (λc h=>d k c h ((true,{it:=a,t:= .fn ρ [],v,made:=none,last:=late ws a},EC a.o,false)::rs)) v ρ h
    |some g=>λρ h rs=>oP (g.f (.fn ρ [])) λb=>oP (gV b ((iJ a.o).f (.fn ρ []) h)) λv=>
       qb n a.o (λc h=>d k c h ((b,{it:=a,t:= .fn ρ [],v,made:=none,last:=late ws a},EC a.o,false)::rs)) v ρ h
  | 1=>match kE n all a.o with
    |none=>λρ h rs=>oP ((sY a.o).f (.fn ρ [])) λr=>qb n a.o (λc h'=>d k c h' ((true,{it:=a,t:= .fn ρ [],v:=r.2 h.next,made:=some (h.next,r.1),last:=late ws a},false,false)::MF rs)) (r.2 h.next) ρ (h.new r.1)
    |some _=>λ_ _ _=>False
  | _ =>match kE n all a.o with
    |none=>λρ h rs=>KG k h rs (WN C a.o (λv ρ h'=>h.next<=h'.next/\qb n a.o (λρ h=>d (Nat.succ k) ρ h (MF rs)) v ρ h') ρ h)
    | some g=>match zB a.o with
      |true=>λρ h rs=>KG k h rs (oP (g.f (.fn ρ [])) λb=>oP (gC b (oB ((j5 a.o).f (.fn ρ []) h) Ba)) λx=>zL C x h λv h'=>h.next<=h'.next/\qb n a.o (λρ h=>d (Nat.succ k) ρ h (MF rs)) v ρ h')
      |false=>λ_ _ _=>False
def KX(l:List It):Bool:=l.all λa=>Nat.beq (cls a.o) 0
def XB(C:mh) (n:Nat) (all:List Oper) (ws:List It) (K:iG->Hp->Prop) (l:List It):Nat->iG->Hp->List RE->Prop:=
 List.rec (λk ρ h rs=>KG k h rs (K ρ h)) (λa l b k=>match KX (a::l)with
  |true=>λρ h rs=>Xo C n all (λρ h=>KG k h rs (K ρ h)) ((a::l).map (·.o)) 0 ρ h
  |false=>itV C n all ws a b k) l
def zbk(h:Hp)(rs:List RE):Prop:=∀r∈rs,r.1=true->r.2.1.made=none->(r.2.2.1=true->∀h',GI h' r.2.1)/\(r.2.2.2=false->GI h r.2.1)
theorem zbk.yK{h:Hp} {rs:List RE} (hi:zbk h rs) (h':Hp):zbk h' (MF rs):=by
 intro r a b c
 let⟨r',hr',e⟩:=V7.1 a
 subst e
 let⟨d,_⟩:=hi r' hr' b c
 simp_all
theorem Qf(rs:List RE):vr (MF rs)=vr rs:=by
 simp[vr,MF]
theorem zu {h:Hp}:∀{rs:List RE} {K d:Prop},zbk h rs->(K->d)->KG k h rs K->yc k h (vr rs) d
 |[],_,_,_,hk,hh=>hk hh
 | (b,r,f,st)::rs,K,d,hi,hk,hh=>by
   have c:=λr c=>hi r (wBA _ c);have h0:=hi _ (Wh ..)
   have a:Bool.rec
     (Option.rec (Bool.rec (KG k h rs K) (Bool.rec True (GI h r) b/\KG k h rs K) st)
     (λ_=>Bool.rec True (GI h r) b/\KG k h rs K) r.made) (KG k h rs K) (Nat.blt r.last k):=hh
   show Bool.rec (Bool.rec True (GI h r) b/\yc k h (vr rs) d) (yc k h (vr rs) d) (Nat.blt r.last k)
   cases hb:Nat.blt r.last k with
   |true=>rw[hb]at a;exact zu c hk a
   | false=>
     rw[hb]at a
     cases hm:r.made with
     |some x=>rw[hm]at a;exact⟨a.1,zu c hk a.2⟩
     | none=>
       rw[hm]at a
       cases st with
       |true=>exact⟨a.1,zu c hk a.2⟩
       | false=>
         refine⟨?_,zu c hk a⟩;cases b <;> grind
theorem zdc  {K b:V->iG->Hp->Prop} (c:∀v ρ h,K v ρ h->b v ρ h) {ρ:iG} {h:Hp} (a:WN C o K ρ h):WN C o b ρ h:=by
 unfold WN at a⊢;cases hi:zB o
 all_goals rw[hi]at a
 ·grind[rI]
 ·exact rI a λx H=>H.mono (by simp_all)
theorem Si {h:Hp} {K:Prop} {rs:List (Bool×Rec)}:∀{new:List (Bool×Rec)},(∀r∈new,r.1=true->GI h r.2)->yc k h rs K->yc k h (new++rs) K
 |[],_,hh=>hh
 | r ::new,hn,hh=>by
   have a:=Si (new:=new) (by simp_all) hh;show yc k h (r::(new++rs)) K;simp[yc]
   cases hb:Nat.blt r.2.last k with
   |true=>exact a
   | false=>
     refine⟨?_,a⟩;cases hb:r.1 <;> grind
theorem PQ   {ws:List It}   {rs:List (Bool×Rec)}:∀{l:List It} {ρ:iG} {h:Hp} {new:List (Bool×Rec)},KX l=true->(∀r∈new,r.1=true->GI h r.2)->
  AR C n all (λρ h=>yc k h rs (K ρ h)) (l.map (·.o)) ρ h->Ls C n all ws K l k ρ h (new++rs)
 |[],_,_,_,_,hn,hk=>Si hn hk
 | a ::l,ρ,h,new,hp,hn,hk=>by
   simp only[KX,wBo,yF]at hp
   let⟨hc,hp⟩:=hp
   have hc:=DG hc;have c:A5 C n all a.o (AR C n all (λρ h=>yc k h rs (K ρ h)) (l.map (·.o))) ρ h:=hk;show itR C n all ws a (Ls C n all ws K l) k ρ h (new++rs)
   have j:∀{b:Bool} {v:V},(b=true->(iJ a.o).f (.fn ρ []) h=some v)->qb n a.o (AR C n all (λρ h=>yc k h rs (K ρ h)) (l.map (·.o))) v ρ h->
       qb n a.o (λu h=>Ls C n all ws K l k u h ((b,{it:=a,t:= .fn ρ [],v,made:=none,last:=late ws a})::(new++rs))) v ρ h:=by
     intro b v m hd;have i:∀r∈(b,({it:=a,t:= .fn ρ [],v,made:=none,last:=late ws a}:Rec))::new,r.1=true->GI h r.2:=by
       intro r w p;rcases Aw.1 w with e|e
       ·subst e;exact m p
       ·grind
     unfold qb at hd⊢
     cases ho:a.o.dst with
     |none=>rw[ho]at hd;exact PQ hp i hd
     | some d=>
       rw[ho]at hd;simp only at hd⊢
       cases m:Nat.blt d n with
       |true=>rw[m]at hd;exact PQ hp i hd
       |false=>simp_all
   unfold A5 at c;unfold itR;rw[hc];simp only
   cases hw:kE n all a.o with
   | none=>
     rw[hw]at c;simp[UG,hc]at c
     let⟨v,q,s⟩:=ma.1 c
     simp_all
   | some g=>
     rw[hw]at c;simp[gdR,hc]at c
     let⟨b,h0,c⟩:=ma.1 c
     let⟨v,q,s⟩:=ma.1 c
     exact ec h0 (ec q (j (λe=>by simp_all) s))
theorem NQ   {c:iG->Hp->Prop} {h:Hp} (e:∀ρ,K ρ h->c ρ h):∀{l:List It} {ρ:iG},KX l=true->AR C n all K (l.map (·.o)) ρ h->AR C n all c (l.map (·.o)) ρ h
 |[],_,_,hk=>e _ hk
 | a ::l,ρ,hp,hk=>by
   simp only[KX,wBo,yF]at hp
   let⟨hc,hp⟩:=hp
   have hc:=DG hc;have b:A5 C n all a.o (AR C n all K (l.map (·.o))) ρ h:=hk;show A5 C n all a.o (AR C n all c (l.map (·.o))) ρ h;have f:∀{v:V},qb n a.o (AR C n all K (l.map (·.o))) v ρ h->qb n a.o (AR C n all c (l.map (·.o))) v ρ h:=by
     intro v hd;unfold qb at hd⊢
     cases ho:a.o.dst with
     |none=>rw[ho]at hd;exact NQ e hp hd
     | some d=>
       rw[ho]at hd;simp only at hd⊢
       cases hb:Nat.blt d n with
       |true=>rw[hb]at hd;exact NQ e hp hd
       |false=>simp_all
   unfold A5 at b⊢
   cases hw:kE n all a.o with
   | none=>
     grind[UG,ma]
   | some g=>
     rw[hw]at b
     grind[gdR,ma]
theorem PD   {ws:List It} :∀(l:List It) {k:Nat} {ρ:iG} {h:Hp} {rs:List RE},zbk h rs->XB C n all ws K l k ρ h rs->Ls C n all ws K l k ρ h (vr rs)
 |[],_,_,_,_,hi,hk=>zu hi (λx=>x) hk
 | a ::l,k,ρ,h,rs,hi,hk=>by
   have i:(match KX (a::l)with
     |true=>λ(ρ:iG) (h:Hp) (rs:List RE)=>Xo C n all (λρ h=>KG k h rs (K ρ h)) ((a::l).map (·.o)) 0 ρ h
     |false=>itV C n all ws a (XB C n all ws K l) k:iG->Hp->List RE->Prop) ρ h rs:=hk
   cases hp:KX (a::l)with
   | true=>
     rw[hp]at i;have z:=MU _ 0 i
     exact PQ (new:=[]) hp (by simp_all) (NQ (λρ m=>zu hi (λx=>x) m) hp z)
   | false =>
     rw[hp]at i;simp only at i;show itR C n all ws a (Ls C n all ws K l) k ρ h (vr rs)
     have pure:∀{b:Bool} {v:V},gV b ((iJ a.o).f (.fn ρ []) h)=some v->∀{j:iG},XB C n all ws K l k j h ((b,{it:=a,t:= .fn ρ [],v,made:=none,last:=late ws a},EC a.o,false)::rs)->
         Ls C n all ws K l k j h ((b,{it:=a,t:= .fn ρ [],v,made:=none,last:=late ws a})::vr rs):=by
       intro b v hv j m;refine PD l (rs:=(b,{it:=a,t:= .fn ρ [],v,made:=none,last:=late ws a},EC a.o,false)::rs) ?_ m;intro r q p s;rcases Aw.1 q with e|e
       ·subst e
        have u:b=true:=p;subst u;refine⟨λA h'=>?_,λ_=>hv⟩;show(iJ a.o).f (.fn ρ []) h' = some v;rw[zbH A _ h' h];exact hv
       ·exact hi r e p s
     have dst:∀{b:Bool} {v:V},gV b ((iJ a.o).f (.fn ρ []) h)=some v->qb n a.o (λj h=>XB C n all ws K l k j h ((b,{it:=a,t:= .fn ρ [],v,made:=none,last:=late ws a},EC a.o,false)::rs)) v ρ h->
         qb n a.o (λj h=>Ls C n all ws K l k j h ((b,{it:=a,t:= .fn ρ [],v,made:=none,last:=late ws a})::vr rs)) v ρ h:=by
       intro b v hv hd;unfold qb at hd⊢
       cases ho:a.o.dst with
       |none=>grind
       | some d=>
         grind
     unfold itV at i;unfold itR;generalize hc:cls a.o=c at i;rcases c with _|_|c
     ·simp only at i⊢
      cases hw:kE n all a.o with
      | none=>
        rw[hw]at i;simp only at i⊢;have w:oP ((iJ a.o).f (.fn ρ []) h) λv=>qb n a.o (λj h=>XB C n all ws K l k j h ((true,{it:=a,t:= .fn ρ [],v,made:=none,last:=late ws a},EC a.o,false)::rs)) v ρ h:=by
          cases hv:isVal a.o <;> (rw[hv]at i;exact i)
        obtain⟨v,z,D⟩:=ma.1 w
        simp_all
      | some g=>
        grind[ma,ec]
     ·simp only at i⊢
      cases hw:kE n all a.o with
      | none=>
        rw[hw]at i;refine rI i λr H=>JI (λj h' m=>?_) H;have:=PD l (rs:=(true,{it:=a,t:= .fn ρ [],v:=r.2 h.next,made:=some (h.next,r.1),last:=late ws a},false,false)::MF rs) (by
          intro r' q p s;rcases Aw.1 q with e|e
          ·simp_all
          ·exact hi.yK h' r' e p s) m
        grind[Ls,vr,MF,Qf]
      |some g=>simp_all
     ·simp only at i⊢
      have B:∀{v:V} {ρ:iG} {h':Hp},qb n a.o (λρ h=>XB C n all ws K l (Nat.succ k) ρ h (MF rs)) v ρ h'->qb n a.o (λρ h=>Ls C n all ws K l (Nat.succ k) ρ h (vr rs)) v ρ h':=λH=>
        JI (λρ h m=>by have:=PD l (hi.yK h) m;grind[Qf]) H
      cases hw:kE n all a.o with
      | none=>
        grind[zu,zdc]
      | some g=>
        rw[hw]at i;simp only at i⊢
        cases hic:zB a.o with
        |false=>simp_all
        | true=>
          rw[hic]at i;refine zu hi (λH=>rI H λb H=>rI H λx H=>?_) i
          cases x with
          |none=>simp_all
          |some y=>exact cP.mono H (by simp_all)
def zcK(C:mh) (n:Nat) (all:List Oper) (K:iG->Hp->Prop) (ρ:iG) (h:Hp):Prop:=XB C n all (hH (items all 0 [])) K (order (items all 0 []) (hH (items all 0 [])) (hH (items all 0 [])) 0) 0 ρ h []
theorem zch{ρ:iG}{h:Hp}(a:zcK C n all K ρ h):ZJ C n all K ρ h:=PD (rs:=[]) _ (by intro r b;cases b) a
end
noncomputable def Ri(tb:List (Nat×List Nat)) (k:Nat):Option (List Nat):=List.rec (motive:=λ_=>Option (List Nat)) none (λx _ a=>Bool.rec (motive:=λ_=>Option (List Nat)) a (some x.2) (Nat.beq x.1 k)) tb
noncomputable def jV(C:mh) (n:Nat) (live:List Nat) (c:Code) (s:XQ) (ρ:iG) (h:Hp):Prop:=∀a:iG,List.rec (motive:=λ_=>Prop) (Wp C n c s a h) (λi _ b=>a i=ρ i->b) live
theorem zc6  {live:List Nat} {c:Code} {s:XQ} {ρ:iG} {h:Hp} (a:jV C n live c s ρ h):Wp C n c s ρ h:=by
 have:=a ρ;clear a
 induction live <;> grind
noncomputable def V3(C:mh) (n:Nat) (tb:List (Nat×List Nat)) (c:Code):Nat->Nat->XQ->XQ->iG->Hp->Prop:=
 Code.rec (motive:=λ_=>Nat->Nat->XQ->XQ->iG->Hp->Prop)
  (λ_ _ v _=>v .normal)
  (fun _ ops d _ _ v _=>match d with
   |false=>Xo C n ops.toList (λρ h=>v .normal ρ h) ops.toList 0
   | true=>match zs ops.toList with
     |true=>zcK C n ops.toList (λρ h=>v .normal ρ h)
     |false=>λ_ _=>False)
  (λ_ b a g p e v s=>a p (Nat.mul 2 e) (andThen (Option.rec (motive:=λ_=>iG->Hp->Prop) (g (Nat.add p e) (Nat.mul 2 e) v s) (λlive=>jV C n live b s) (Ri tb (Nat.mul 2 (Nat.add (Nat.add p e) (Nat.mul 2 e))))) v) (andThen (Wp C n b s) s))
  (λc _ _ a g p e v s ρ h=>Option.rec (motive:=λ_=>Prop) False (λx=>bP x (a p (Nat.mul 2 e) v s ρ h) (g (Nat.add p e) (Nat.mul 2 e) v s ρ h)) ((yL c).f (.fn ρ []) h))
  (λid _ i p e v s=>i p (Nat.mul 2 e) (Di id v) (Di id s))
  (λc _ p e _ s=>Option.rec (motive:=λ_=>iG->Hp->Prop) (λ_ _=>False) (λlive=>jV C n live (.loop c) s) (Ri tb (Nat.succ (Nat.mul 2 (Nat.add p e)))))
  (λ_ _ _ _ _ _ _ _ _ _ _ _=>False)
  (λid _ _ v _=>v (.exit id))
  (λ_ _ _ _ _ _ _ _=>False)
  (λ_ _ _ _ _ _ _=>False)
  (λ_ _ _ _ _ _ _=>False)
  (λ_ _ v _=>v .ret)
  (λ_ _ _ _ _ _ _=>False) c
theorem Cn{k k':iG->Hp->Prop} {v s:XQ} (a:∀ρ h,k ρ h->k' ρ h) (hq:∀x ρ h,v x ρ h->s x ρ h):∀x ρ h,andThen k v x ρ h->andThen k' s x ρ h
 | .normal,_,_,hh=>a _ _ hh
 | .exit _,_,_,hh=>hq _ _ _ hh
 | .ret,_,_,hh=>hq _ _ _ hh
theorem QA{id:Nat} {v s:XQ} (hq:∀x ρ h,v x ρ h->s x ρ h):∀x ρ h,Di id v x ρ h->Di id s x ρ h
 | .normal,_,_,hh=>hq _ _ _ hh
 | .ret,_,_,hh=>hq _ _ _ hh
 | .exit i,ρ,h,hh=>by
   simp only[Di]at hh⊢;cases hb:Nat.beq i id <;> simp_all
theorem xB  :∀(c:Code) {p e:Nat} {v s:XQ} {ρ:iG} {h:Hp},(∀x ρ h,v x ρ h->s x ρ h)->V3 C n tb c p e v s ρ h->Wp C n c s ρ h
 | .skip,_,_,_,_,_,_,hq,hk=> .skip (hq _ _ _ hk)
 | .region _ ops false,_,_,v,_,ρ,h,hq,hk=>by
   have d:Xo C n ops.toList (λρ h=>v .normal ρ h) ops.toList 0 ρ h:=hk
   exact(Wp.region (MU _ 0 d)).mono hq
 | .region _ ops true,_,_,v,_,ρ,h,hq,hk=>by
   have d:(match zs ops.toList with
       |true=>zcK C n ops.toList (λρ h=>v .normal ρ h)
       |false=>λ_ _=>False) ρ h:=hk
   cases hd:zs ops.toList with
   |true=>rw[hd]at d;exact(Wp.draw hd (zch d)).mono hq
   |false=>simp_all
 | .seq a b,p,e,v,s,ρ,h,hq,hk=>by
   refine .seq (xB a (Cn ?_ hq) hk);intro ρ h g
   cases hf:Ri tb (Nat.mul 2 (Nat.add (Nat.add p e) (Nat.mul 2 e)))with
   |none=>rw[hf]at g;exact xB b hq g
   |some live=>rw[hf]at g;exact zc6 g
 | .cond c a b,p,e,v,s,ρ,h,hq,hk=>by
   have d:oP ((yL c).f (.fn ρ []) h) (λx=>bP x (V3 C n tb a p (Nat.mul 2 e) v s ρ h) (V3 C n tb b (Nat.add p e) (Nat.mul 2 e) v s ρ h)):=hk;obtain⟨x,hv,d⟩:=ma.1 d
   exact .cond (ec hv (bM d (xB a hq) (xB b hq)))
 | .block id c,_,_,_,_,_,_,hq,hk=> .block (xB c (QA hq) hk)
 | .loop c,p,e,v,s,ρ,h,hq,hk=>by
   have d:(Option.rec (motive:=λ_=>iG->Hp->Prop) (λ_ _=>False) (λlive=>jV C n live (.loop c) s) (Ri tb (Nat.succ (Nat.mul 2 (Nat.add p e)))):iG->Hp->Prop) ρ h:=hk
   cases hf:Ri tb (Nat.succ (Nat.mul 2 (Nat.add p e)))with
   |none=>simp_all
   |some live=>rw[hf]at d;grind[zc6]
 | .exit id,_,_,_,_,_,_,hq,hk=> .exit (hq _ _ _ hk)
 | .ret,_,_,_,_,_,_,hq,hk=> .ret (hq _ _ _ hk)
 | .rangeFunc ..,_,_,_,_,_,_,_,hk=>hk.elim
 | .scope _,_,_,_,_,_,_,_,hk=>hk.elim
 | .label _,_,_,_,_,_,_,_,hk=>hk.elim
 | .goto _,_,_,_,_,_,_,_,hk=>hk.elim
 | .refuse _,_,_,_,_,_,_,_,hk=>hk.elim
structure Z1 where
 c:Code
 v:XQ
 s:XQ
 p:Nat
 e:Nat
 ks:List (iG->Hp->Prop)
def zeZ(l:List (iG->Hp->Prop)):iG->Hp->Prop:=match l with
 |k::_=>k
 |[]=>λ_ _=>False
noncomputable def IA(C:mh) (n:Nat) (tb:List (Nat×List Nat)) (a:Z1) (b:Bool):Z1:=match a.c,b with
 | .seq x y,false=>{c:=x,v:=andThen (Option.rec (motive:=λ_=>iG->Hp->Prop) (V3 C n tb y (Nat.add a.p a.e) (Nat.mul 2 a.e) a.v a.s) (λlive=>jV C n live y a.s) (Ri tb (Nat.mul 2 (Nat.add (Nat.add a.p a.e) (Nat.mul 2 a.e))))) a.v,s:=andThen (Wp C n y a.s) a.s,p:=a.p,e:=Nat.mul 2 a.e,ks:=a.ks}
 | .seq _ y,true=>{c:=y,v:=a.v,s:=a.s,p:=Nat.add a.p a.e,e:=Nat.mul 2 a.e,ks:=a.ks}
 | .cond _ x _,false=>{c:=x,v:=a.v,s:=a.s,p:=a.p,e:=Nat.mul 2 a.e,ks:=a.ks}
 | .cond _ _ y,true=>{c:=y,v:=a.v,s:=a.s,p:=Nat.add a.p a.e,e:=Nat.mul 2 a.e,ks:=a.ks}
 | .block id x,false=>{c:=x,v:=Di id a.v,s:=Di id a.s,p:=a.p,e:=Nat.mul 2 a.e,ks:=a.ks}
 | .loop x,false=>{c:=x,v:=andThen (zeZ a.ks) a.v,s:=andThen (zeZ a.ks) a.s,p:=a.p,e:=Nat.mul 2 a.e,ks:=a.ks.tail}
 |_,_=>a
noncomputable def zhp(C:mh) (n:Nat) (tb:List (Nat×List Nat)) (bs:List Bool):Z1->Z1:=List.rec (motive:=λ_=>Z1->Z1) (λa=>a) (λb _ c a=>c (IA C n tb a b)) bs
def zgH(k:Nat):List Bool:=(Nat.rec (motive:=λ_=>Nat->List Bool) (λ_=>[]) (λ_ a p=>match Nat.ble p 1 with
 |true=>[]
 |false=>Nat.beq (Nat.mod p 2) 1::a (Nat.div p 2)) 400:Nat->List Bool) k
def XE(Q:V->Hp->Prop) (ρ:iG) (h:Hp) (l:List ResultVar):List V->Prop:=
 List.rec (motive:=λ_=>List V->Prop) (λb=>Q (Gc b.reverse) h) (λr _ c b=>match r with
  | .tmp i=>c (ρ i::b)
  | .cell a ty=>oP ((zer (.cell a ty)).f (.fn ρ []) h) λv=>c (v::b)) l
theorem PI {ρ:iG} {h:Hp}:∀{l:List ResultVar} {b:List V},XE Q ρ h l b->oP (EW (.fn ρ []) h l) λvs=>Q (Gc (b.reverse++vs)) h
 | [],b,hh=>by
   grind[Gc,EW,zdx,oP,XE]
 | .tmp i::l,b,hh=>by
   have c:XE Q ρ h l (ρ i::b):=hh;obtain⟨vs,d,e⟩:=ma.1 (PI c);refine ec (show EW (.fn ρ []) h (.tmp i::l)=some (ρ i::vs) from ?_) ?_
   ·show oB (some (ρ i)) _=_
    simp_all
   simp_all
 | .cell a ty::l,b,hh=>by
   have c:oP ((zer (.cell a ty)).f (.fn ρ []) h) λv=>XE Q ρ h l (v::b):=hh;obtain⟨v,h0,c⟩:=ma.1 c;obtain⟨vs,d,e⟩:=ma.1 (PI c)
   simp_all[ec,EW,oB,zer]
def Y0(l:List ResultVar) (Q:V->Hp->Prop):XQ
 | .exit _,_,_=>False
 |_,ρ,h=>XE Q ρ h l []
theorem Wf{l:List ResultVar} :∀x ρ h,Y0 l Q x ρ h->Oj l Q x ρ h
 | .exit _,_,_,hh=>hh
 | .normal,_,_,hh=>by grind[PI,XE,Oj,zdS,Y0]
 | .ret,_,_,hh=>by grind[PI,XE,Oj,zdS,Y0]
noncomputable def ZL(fn:Func)(ks:List (iG->Hp->Prop))(Q:V->Hp->Prop):Z1:={c:=NC fn,v:=Y0 fn.results.toList Q,s:=Oj fn.results.toList Q,p:=0,e:=1,ks}
noncomputable def kO(C:mh)(fn:Func)(tb:List (Nat×List Nat))(k:Nat)(ks:List (iG->Hp->Prop))(Q:V->Hp->Prop):Z1:=zhp C fn.ntmps tb (zgH k) (ZL fn ks Q)
noncomputable def WA(C:mh)(fn:Func)(tb:List (Nat×List Nat))(k:Nat)(ks:List (iG->Hp->Prop))(Q:V->Hp->Prop)(ρ:iG)(h:Hp):Prop:=Wp C fn.ntmps (kO C fn tb k ks Q).c (kO C fn tb k ks Q).s ρ h
noncomputable def VA(C:mh)(n:Nat)(tb:List (Nat×List Nat))(a:Z1)(ρ:iG)(h:Hp):Prop:=V3 C n tb a.c a.p a.e a.v a.s ρ h
def Z1.ok(a:Z1):Prop:=∀x ρ h,a.v x ρ h->a.s x ρ h
theorem Z9   {a:Z1} (c:a.ok) (b:Bool):(IA C n tb a b).ok:=by
 unfold IA;split
 ·refine Cn (λρ h d=>?_) c
  cases hf:Ri tb (Nat.mul 2 (Nat.add (Nat.add a.p a.e) (Nat.mul 2 a.e)))with
  |none=>rw[hf]at d;exact xB _ c d
  |some live=>rw[hf]at d;exact zc6 d
 ·exact c
 ·exact c
 ·exact c
 ·exact QA c
 ·exact Cn (by simp_all) c
 ·exact c
theorem Zs  :∀{bs:List Bool} {a:Z1},a.ok->(zhp C n tb bs a).ok
 |[],_,ha=>ha
 |b::bs,_,ha=>Zs (bs:=bs) (Z9 ha b)
theorem N1:(kO C fn tb k ks Q).ok:=Zs Wf
theorem WA.of      {ρ:iG} {h:Hp} 
  (e:VA C fn.ntmps tb (kO C fn tb k ks Q) ρ h=P) (H:P):WA C fn tb k ks Q ρ h:=xB _ N1 (e.mpr H)
def XZ(c:Code):Bool:=match c with
 | .seq (.region _ r0 false) _=>match r0.toList with
   | o::_=>match o.op with
     | .next _ false=>false
     |_=>true
   |[]=>true
 |_=>true
theorem U7 {c:Code} (h:XZ c=true):zG n c=none:=by
 cases hf:zG n c with
 |none=>rfl
 | some F=>
   obtain⟨_,_,_,_,_,_,_,d,_,_,_,_,_,_,_,rfl,e0,_,_,_,a,_⟩:=SY hf;obtain⟨b,_⟩:=zeW a;simp only[XZ,e0,b]at h;cases h
def QN(c:Code):Bool:=match c with
 | .loop c=>XZ c
 |_=>false
noncomputable def Xg(n:Nat) (c:Code):Option nC:=match c with
 | .loop c=>zG n c
 |_=>none
inductive LA (C:mh) (fn:Func) (tb:List (Nat×List Nat)) (k:Nat) (ks:List (iG->Hp->Prop)) (Q:V->Hp->Prop) (K:iG->Hp->Prop) (ρ:iG) (h:Hp):Prop
 |mk (hv:VA C fn.ntmps tb (IA C fn.ntmps tb {kO C fn tb k ks Q with ks:=[K]} false) ρ h)
theorem LA.of       {ρ:iG} {h:Hp} 
  (e:VA C fn.ntmps tb (IA C fn.ntmps tb {kO C fn tb k ks Q with ks:=[K]} false) ρ h=P) (H:P):LA C fn tb k ks Q K ρ h:=⟨e.mpr H⟩
theorem WA.loop      {ρ:iG} {h:Hp} (I:Nat->iG->Hp->Prop) {m:Nat}
  (hl:QN (kO C fn tb k ks Q).c=true) (l:(kO C fn tb k ks Q).ks=[])
  (b:∀m ρ h,I m ρ h->LA C fn tb k ks Q (λg h'=>∃f,f<m/\I f g h') ρ h) (h0:I m ρ h):WA C fn tb k ks Q ρ h:=by
 unfold WA;have b:=λm ρ h hi=>(b m ρ h hi).1;have d:(kO C fn tb k ks Q).ok:=N1;generalize kO C fn tb k ks Q=a at*;obtain⟨c,v,s,p,e,i⟩:=a;cases c <;> simp only[QN]at hl <;> try exact absurd hl (by decide)
 rename_i c;refine Wp.zgV I (λm ρ h hi=>?_) h0 (U7 hl);have:=b m ρ h hi;exact xB c (Cn (λ_ _ j=>j) d) this
theorem WA.fill      {ρ d:iG} {h:Hp} {F:nC} {x:X}
  (hl:Xg fn.ntmps (kO C fn tb k ks Q).c=some F) (hv:SA F (.fn ρ []) h=some (x,.fn d [],h')) (H:(kO C fn tb k ks Q).v x d h'):WA C fn tb k ks Q ρ h:=by
 unfold WA;have b:(kO C fn tb k ks Q).ok:=N1;generalize kO C fn tb k ks Q=a at*;obtain⟨c,v,s,p,e,f⟩:=a;cases c <;> simp only[Xg]at hl <;> try cases hl
 exact Wp.fill hl hv (b _ _ _ H)
theorem cP.vc (hs:C.start=Df) {f:Nat} {fn:Func} {tb:List (Nat×List Nat)} {args:List V} {h:Hp} {Q:V->Hp->Prop} {P:Prop} (b:P0.funcs[f]? =some fn) (c:fn.body=some (NC fn))
  (d:C.K f args h=none) (a:Nat.ble args.length fn.ntmps=true) (e:VA C fn.ntmps tb (ZL fn [] Q) (ON args) h=P) (H:P):cP C f args h Q:=
 cP.func hs b c d (Oz a) (xB _ Wf (e.mpr H))
abbrev LP:=List V->Hp->Prop
def chV(ρ:iG):List Nat->List V->Prop->Prop
 |i::is,x::xs,P=>ρ i=x->chV ρ is xs P
 |_,_,P=>P
def kf(is:List Nat)(K:LP):iG->Hp->Prop:=λρ h=>K (is.map ρ) h
def JV(C:mh)(fn:Func)(tb:List (Nat×List Nat))(k:Nat)(is:List Nat)(ks:List (iG->Hp->Prop))(Q:fj):LP:=λl h=>∀ρ,chV ρ is l (WA C fn tb k ks Q ρ h)
theorem Tu{ρ:iG}:∀{is:List Nat}{l:List V},is.length=l.length->(is.map ρ=l->P)->chV ρ is l P
 |[],[],_,h=>h rfl
 |[],_::_,e,_=>by cases e
 |_::_,[],e,_=>by cases e
 |i::is,x::l,e,h=>λa=>Tu (by simp_all) (by simp_all)
def ER:Nat->Type
 |0=>Hp->Prop
 |n+1=>V->ER n
def VF:(n:Nat)->ER n->LP
 |0,f,[],h=>f h
 |n+1,f,x::l,h=>VF n (f x) l h
 |_,_,_,_=>False
@[reducible] def Pp (I:Nat->LP) (k:Nat):LP:=λl h=>∃k',k' < k/\I k' l h
section
variable{C:mh}{fn:Func}{tb:List (Nat×List Nat)}{k m:Nat}{is:List Nat}{ks:List (iG->Hp->Prop)}{Q:fj}{h:Hp}{l:List V}
theorem JV.mk(n:Nat)(B:ER n)(e:∀ρ h,VA C fn.ntmps tb (kO C fn tb k ks Q) ρ h=VF n B (is.map ρ) h)(hl:is.length=l.length)(H:VF n B l h):JV C fn tb k is ks Q l h:=λρ=>Tu hl λa=>by
 subst a;exact WA.of (e ρ h) H
theorem JV.loop(n:Nat)(I:Nat->LP)(B:LP->ER n)(hl:QN (kO C fn tb k ks Q).c=true)(a:(kO C fn tb k ks Q).ks=[])
  (e:∀K ρ h,VA C fn.ntmps tb (IA C fn.ntmps tb {kO C fn tb k ks Q with ks:=[kf is K]} false) ρ h=VF n (B K) (is.map ρ) h)
  (d:∀m l h,l.length=n->I m l h->VF n (B (Pp I m)) l h) (f:is.length=n) (hlen:is.length=l.length) (h0:I m l h):JV C fn tb k is ks Q l h:=λρ=>Tu hlen λb=>by
 subst b;exact WA.loop (λm ρ h=>I m (is.map ρ) h) hl a (λm ρ h hi=>LA.of (e (Pp I m) ρ h) (by grind)) h0
noncomputable def QX(k:IntKind) (it u:V) (h:Hp):Option Hp:=vZ it λr off=>bB (Nat.beq off 0) (oB (h.get r) λo=>match o with
 | .iter (some m) since [] last=>BA h m λes a=>bB (Nat.beq since a&&Nat.beq last a) (oB (Oe k es) λks=>match u with
   | .map u=>bB (!(Nat.beq u m)) (BA h u λus _=>bB us.isEmpty (some ((h.put r .gone).put u (.Rt k ks))))
   |_=>none)
 |_=>none)
theorem nC.zh6(F:nC)(u:Nat)(b:Bool)(ρ:iG):∃c,F.t u b (.fn ρ []) = .fn c []/\∀i,i ∉ F.all.drop 2->c i=ρ i:=by
 have a:∀i,i ∉ F.all.drop 2->ij (F.t u b (.fn ρ [])) i=ρ i:=λi hi=>by
  simp[nC.all,List.drop]at hi;unfold nC.t;cases b <;> simp[iz] <;> (repeat' rw[if_neg (by grind)]) <;> rfl
 cases b <;> exact⟨_,rfl,a⟩
theorem zeQ{F:nC}{ρ:iG} {h:Hp}(hv:QX F.k (ρ F.it) (ρ F.u) h=some h'):∃a,SA F (.fn ρ []) h=some (.exit F.x,.fn a [],h')/\∀i,i ∉ F.all.drop 2->a i=ρ i:=by
 unfold QX at hv;show ∃a,vZ (ρ F.it) _=_/\_;rw[uJ]at hv
 let⟨r,off,b,hv⟩:=hv
 rw[ik,fD]at hv
 let⟨d,o,e,hv⟩:=hv
 split at hv
 ·simp only[BJ,ik,fD]at hv
  let⟨es,c,f,g,ks,j,hv⟩:=hv
  split at hv
  ·rename_i u l;simp only[ik,BJ]at hv
   let⟨m,us,cu,n,p,hv⟩:=hv
   cases hv
   let⟨a,e1,e2⟩:=F.zh6 u es.isEmpty ρ
   refine⟨a,?_,e2⟩;simp[b,vZ,d,bB,e,oB,BA,f,g,j];rw[show ij (.fn ρ []) F.u = .map u from l];simp[m,n,p,e1]
  ·cases hv
 ·cases hv
theorem JV.fill{F:nC}{a:List Nat}{b:List V} (hl:Xg fn.ntmps (kO C fn tb k ks Q).c=some F)
  (e:∀ρ h,(kO C fn tb k ks Q).v (.exit F.x) ρ h=JV C fn tb d a ks Q (a.map ρ) h) (hd:∀i∈a,i ∉ F.all.drop 2) (hlen:is.length=l.length)
  (hs:∀ρ:iG,is.map ρ=l->a.map ρ=b/\QX F.k (ρ F.it) (ρ F.u) h=some h') (H:JV C fn tb d a ks Q b h'):JV C fn tb k is ks Q l h:=λρ=>Tu hlen λf=>by
 let⟨g,j⟩:=hs ρ f
 let⟨ρ',m,n⟩:=zeQ j
 refine WA.fill hl m ?_;rw[e,show a.map ρ' = b from g▸wBZ λi hi=>n i (hd i hi)];exact H
abbrev dF(k:Nat)(x:V)(h:Hp)(K:V->Prop):Prop:=oP (fJ k x) λa=>oP (ez a h) K
abbrev dN(k:Nat)(x:V)(h:Hp)(K:V->Prop):Prop:=oP (fR x) λa=>dF k a h K
abbrev dI(n:Nat)(x i:V)(k:Nat)(h:Hp)(K:V->Prop):Prop:=oP (gM n x i) λa=>dF k a h K
abbrev dX(n:Nat)(x i:V)(h:Hp)(K:V->Prop):Prop:=oP (gM n x i) λa=>oP (ez a h) K
abbrev dG(k:Nat)(x:V)(h:Hp)(K:V->Prop):Prop:=dF k x h λa=>oP (fE a) K
abbrev dJ(k:Nat)(x:V)(n:Nat)(i:V)(j:Nat)(h:Hp)(K:V->Prop):Prop:=dF k x h λa=>dI n a i j h K
abbrev dY(k:Nat)(x:V)(n:Nat)(i:V)(h:Hp)(K:V->Prop):Prop:=dF k x h λa=>dX n a i h K
abbrev bO(o:BinOp)(t:Nat)(a b:V)(A B:Prop):Prop:=oP (ef o t a b) λv=>bP v A B
abbrev bN(a:V)(A B:Prop):Prop:=oP (wI .not a) λv=>bP v A B
theorem oF{l o:Nat}{h:Hp}{K:V->Prop}(a:ez (.ptr l (o+k)) h=some v)(b:K v):dF k (.ptr l o) h K:=ma.2 ⟨_,fo _ _ _,ma.2 ⟨_,a,b⟩⟩
theorem oN{l o:Nat}{h:Hp}{K:V->Prop}(a:ez (.ptr l (o+k)) h=some v)(b:K v):dN k (.ptr l o) h K:=ma.2 (by simp_all[oF])
theorem cP.vd{f:Nat}(tb:List (Nat×List Nat)){args:List V}{h:Hp}{Q:fj}{P:Prop}(hs:C.start=Df)(b:P0.funcs[f]? =some fn)(c:C.K f args h=none)(H:P)
  (d:fn.body=some (NC fn):=by kernel_rfl) (a:Nat.ble args.length fn.ntmps=true:=by kernel_rfl) (e:VA C fn.ntmps tb (ZL fn [] Q) (ON args) h=P:=by kernel_rfl):cP C f args h Q:=cP.vc hs b d c a e H
abbrev nZ:V:= .I 0
abbrev nO:V:= .I 1
abbrev nS:V:= .ed
abbrev bT:V:= .bool true
abbrev bF:V:= .bool false
abbrev zC(T:Nat)(l:List V):Option (O×(Nat->V)):=some (.cells T 1 true false l,λl=> .ptr l 0)
abbrev P2(I:Nat->QP2)(B:(QP2)->QP2):Prop:=∀k a b h,I k a b h->B (λa b h=>∃k',k' < k/\I k' a b h) a b h
abbrev P3(I:Nat->QP3)(B:(QP3)->QP3):Prop:=∀k a b c h,I k a b c h->B (λa b c h=>∃k',k' < k/\I k' a b c h) a b c h
abbrev P4(I:Nat->S3)(B:(S3)->S3):Prop:=∀k a b c x4 h,I k a b c x4 h->B (λa b c x4 h=>∃k',k' < k/\I k' a b c x4 h) a b c x4 h
abbrev P5(I:Nat->KJ)(B:(KJ)->KJ):Prop:=∀k a b c x4 d h,I k a b c x4 d h->B (λa b c x4 d h=>∃k',k' < k/\I k' a b c x4 d h) a b c x4 d h
abbrev P6(I:Nat->QP6)(B:(QP6)->QP6):Prop:=∀k a b c x4 d e h,I k a b c x4 d e h->B (λa b c x4 d e h=>∃k',k' < k/\I k' a b c x4 d e h) a b c x4 d e h
abbrev P7(I:Nat->Pb)(B:(Pb)->Pb):Prop:=∀k a b c x4 d e f h,I k a b c x4 d e f h->B (λa b c x4 d e f h=>∃k',k' < k/\I k' a b c x4 d e f h) a b c x4 d e f h
abbrev P8(I:Nat->YW)(B:(YW)->YW):Prop:=∀k a b c x4 d e f g h,I k a b c x4 d e f g h->B (λa b c x4 d e f g h=>∃k',k' < k/\I k' a b c x4 d e f g h) a b c x4 d e f g h
abbrev P10(I:Nat->NM)(B:(NM)->NM):Prop:=∀k b c d x4 e f g i j a h,I k b c d x4 e f g i j a h->B (λb c d x4 e f g i j a h=>∃k',k' < k/\I k' b c d x4 e f g i j a h) b c d x4 e f g i j a h
abbrev P11(I:Nat->KP)(B:(KP)->KP):Prop:=∀k c d e x4 f g i j l a b h,I k c d e x4 f g i j l a b h->B (λc d e x4 f g i j l a b h=>∃k',k' < k/\I k' c d e x4 f g i j l a b h) c d e x4 f g i j l a b h
abbrev P13(I:Nat->zam)(B:(zam)->zam):Prop:=∀k d e f x4 g i j l m a b c gL h,I k d e f x4 g i j l m a b c gL h->B (λd e f x4 g i j l m a b c gL h=>∃k',k' < k/\I k' d e f x4 g i j l m a b c gL h) d e f x4 g i j l m a b c gL h
abbrev P14(I:Nat->zeN)(B:(zeN)->zeN):Prop:=∀k d e f x4 g i j l m a b c gL jd h,I k d e f x4 g i j l m a b c gL jd h->B (λd e f x4 g i j l m a b c gL jd h=>∃k',k' < k/\I k' d e f x4 g i j l m a b c gL jd h) d e f x4 g i j l m a b c gL jd h
def SV:(n:Nat)->LP->ER n->Prop
 |0,I,B=>∀h:Hp,I [] h->B h
 |n+1,I,B=>∀x:V,SV n (λl=>I (x::l)) (B x)
def RV:(n:Nat)->ER n->LP->Prop
 |0,B,J=>∀{h:Hp},B h->J [] h
 |n+1,B,J=>∀{x:V},RV n (B x) (λl=>J (x::l))
abbrev SN(n:Nat)(I:Nat->LP)(B:LP->ER n):Prop:=∀k:Nat,SV n (I k) (B (Pp I k))
theorem ze0:∀{n:Nat}{I:LP}{B:ER n},SV n I B->∀{l:List V}{h:Hp},l.length=n->I l h->VF n B l h
 |0,_,_,s,[],h,_,i=>s h i
 |_+1,_,_,s,x::_,_,e,i=>ze0 (s x) (Nat.succ.inj e) i
theorem RV.of:∀{n:Nat}{B:ER n}{J:LP},(∀l h,l.length=n->VF n B l h->J l h)->RV n B J
 |0,_,_,s=>λH=>s [] _ rfl H
 |_+1,_,_,s=>RV.of λl h e H=>s (_::l) h (congrArg Nat.succ e) H
def cuV:(n:Nat)->LP->ER n
 |0,K=>K []
 |n+1,K=>λx=>cuV n λl=>K (x::l)
def PV:(n:Nat)->ER n->ER n->Prop
 |0,I,B=>∀h:Hp,I h->B h
 |n+1,I,B=>∀x:V,PV n (I x) (B x)
theorem ze6:∀{n:Nat}{I B:ER n},PV n I B->∀{l:List V}{h:Hp},VF n I l h->VF n B l h
 |0,_,_,s,[],h,i=>s h i
 |_+1,_,_,s,x::_,_,i=>ze6 (s x) i
class HL (l:List V) (n:Nat):Prop where
 e:l.length=n
instance:HL [] 0:=⟨rfl⟩
instance{x:V}{l:List V}{n:Nat}[h:HL l n]:HL (x::l) (n+1):=⟨congrArg Nat.succ h.1⟩
theorem JV.rn(n:Nat)(B:ER n)(e:∀(ρ:iG)(h:Hp),VA C fn.ntmps tb (kO C fn tb k ks Q) ρ h=VF n B (is.map ρ) h:=by intros;kernel_rfl)(a:is.length=n:=by rfl):RV n B (JV C fn tb k is ks Q):=
 RV.of λ_ _ g H=>JV.mk n B e (a.trans g.symm) H
def LN(n:Nat)(B:LP->ER n)(J:LP):Prop:=∀(I:Nat->LP)(_:SN n I B){k:Nat}{l:List V}{h:Hp}(_:I k l h) [HL l n],J l h
theorem JV.lm(n:Nat)(B:LP->ER n)(hl:QN (kO C fn tb k ks Q).c=true:=by kernel_rfl)(b:(kO C fn tb k ks Q).ks=[]:=by kernel_rfl)
  (e:∀(K:LP) (ρ:iG) (h:Hp),VA C fn.ntmps tb (IA C fn.ntmps tb {kO C fn tb k ks Q with ks:=[kf is K]} false) ρ h=VF n (B K) (is.map ρ) h:=by intros;kernel_rfl) (a:is.length=n:=by rfl):LN n B (JV C fn tb k is ks Q):=
 λI s _ _ _ i g=>JV.loop n I B hl b e (λk _ _ g i=>ze0 (s k) g i) a (a.trans g.1.symm) i
theorem WA.ln(n:Nat)(l:List V)(I:Nat->ER n)(B:ER n->ER n)(s:∀k,PV n (I k) (B (cuV n λl h=>∃k',k' < k/\VF n (I k') l h)))(i:VF n (I m) l h)(hl:QN (kO C fn tb k ks Q).c=true:=by kernel_rfl)(b:(kO C fn tb k ks Q).ks=[]:=by kernel_rfl)
  (e:∀(K:LP) (ρ:iG) (h:Hp),VA C fn.ntmps tb (IA C fn.ntmps tb {kO C fn tb k ks Q with ks:=[kf is K]} false) ρ h=VF n (B (cuV n K)) (is.map ρ) h:=by intros;kernel_rfl) (a:is.length=n:=by rfl) (g:n=l.length:=by rfl):JV C fn tb k is ks Q l h:=
 JV.loop n (λm=>VF n (I m)) (λK=>B (cuV n K)) hl b e (λk _ _ _ i=>ze6 (s k) i) a (a.trans g) i
theorem JV.wn(n:Nat)(B:ER n)(H:VF n B l h)(e:∀(ρ:iG)(h:Hp),VA C fn.ntmps tb (kO C fn tb k ks Q) ρ h=VF n B (is.map ρ) h:=by intros;kernel_rfl)(g:is.length=l.length:=by rfl):JV C fn tb k is ks Q l h:=
 JV.mk n B e g H
def YL:List (Nat×V):=[(1,.str [80,97,114,97,109]),(2,.str [67,111,110,115,116]),(3,.str [65,100,100]),(4,.str [83,117,98]),(5,.str [77,117,108]),(6,.str [68,105,118]),(7,.str [82,101,109]),(8,.str [78,101,103]),(9,.str [78,111,116]),(10,.str [69,113]),(11,.str [78,101]),(12,.str [76,116]),(13,.str [76,101]),(14,.str [66,101,108,111,119]),(15,.str [84,121,112,101,79,102]),(16,.str [76,101,110,79,102]),(17,.str [87,111,114,100]),(18,.str [87,111,114,100,65,116]),(19,.str [80,117,116]),(20,.str [80,117,116,65,116]),(21,.str [80,104,105]),(22,.str [71,117,97,114,100]),(23,.str [80,111,108,108])]
def YM:List (Nat×V):=[(1,.str [83,101,116]),(2,.str [77,111,118]),(3,.str [71,101,116]),(4,.str [75,101,101,112]),(5,.str [65,100,100]),(6,.str [83,117,98]),(7,.str [77,117,108]),(8,.str [68,105,118]),(9,.str [82,101,109]),(10,.str [78,101,103]),(11,.str [78,111,116]),(12,.str [69,113]),(13,.str [78,101]),(14,.str [76,116]),(15,.str [76,101]),(16,.str [66,101,108,111,119]),(17,.str [84,121,112,101,79,102]),(18,.str [76,101,110,79,102]),(19,.str [87,111,114,100]),(20,.str [87,111,114,100,65,116]),(21,.str [80,117,116]),(22,.str [80,117,116,65,116]),(23,.str [74,117,109,112]),(24,.str [74,122]),(25,.str [71,117,97,114,100]),(26,.str [80,111,108,108]),(27,.str [76,101,97,118,101])]
noncomputable def C2:mh:=mh.more C1 [.names 86 YL,.names 74 YM]
noncomputable def C3:mh:=mh.more C2 [.yes 9]
noncomputable def CS:mh:=⟨Df,E1,C3.K⟩
