/- Parts. -/
import Derived.Test.YtpfjdlicdljhaaaDoorM09
set_option maxHeartbeats 4000000
namespace Go.Proofs.YtpfjdlicdljhaaaDoor.Hx
abbrev XQ:=X->gf->Hp->Prop
abbrev fo:=V->Hp->Prop
abbrev QP2:=V->V->Hp->Prop
abbrev RK:=V->V->V->Hp->Prop
abbrev JA:=V->V->V->V->Hp->Prop
abbrev HB:=V->V->V->V->V->Hp->Prop
abbrev NO:=V->V->V->V->V->V->Hp->Prop
abbrev Og:=V->V->V->V->V->V->V->Hp->Prop
abbrev Ju:=V->V->V->V->V->V->V->V->Hp->Prop
abbrev QP9:=V->V->V->V->V->V->V->V->V->Hp->Prop
abbrev IG:=V->V->V->V->V->V->V->V->V->V->Hp->Prop
abbrev CK:=V->V->V->V->V->V->V->V->V->V->V->Hp->Prop
abbrev Yf:=V->V->V->V->V->V->V->V->V->V->V->V->Hp->Prop
abbrev FO:=V->V->V->V->V->V->V->V->V->V->V->V->V->Hp->Prop
abbrev Xx:=V->V->V->V->V->V->V->V->V->V->V->V->V->V->Hp->Prop
abbrev zcs:=V->V->V->V->V->V->V->V->V->V->V->V->V->V->V->Hp->Prop
abbrev zcE:=V->V->V->V->V->V->V->V->V->V->V->V->V->V->V->V->V->Hp->Prop
abbrev Z6:=V->V->V->V->V->V->V->V->V->V->V->V->V->V->V->V->V->V->Hp->Prop
def isVal(o:Oper):Bool:=match o.op with
 | .move x| .assign x=>Na x
 | .makeFunc _ _ _=>true
 | .makeInterface _ x=>Na x
 |_=>false
theorem Uj{o:Oper} (h:isVal o=true):cls o=0:=by
 grind[isVal,cls]
def opV(C:fk) (o:Oper) (K:V->gf->Hp->Prop):gf->Hp->Prop:=match isVal o with
 |true=>λρ h=>Option.rec (motive:=λ_=>Prop) False (λv=>K v ρ h) ((il o).f (.fn ρ []) h)
 |false=>Of C o K
theorem ZN(C:fk) (o:Oper) (K:V->gf->Hp->Prop):opV C o K=Of C o K:=by
 unfold opV
 cases hv:isVal o with
 |false=>rfl
 | true=>
   unfold Of;rw[Uj hv];rfl
def Si(C:fk) (n:Nat) (all:List Oper) (o:Oper) (K:gf->Hp->Prop):gf->Hp->Prop:=match yN o with
 |some _=>λ_ _=>False
 | none=>match jW n all o with
   |none=>opV C o (nJ n o K)
   |some g=>λρ h=>oP (g.f (.fn ρ [])) λb=>Xh C o b (nJ n o K) ρ h
noncomputable section
inductive Gs where
 |last (o:Oper) (d:Nat)
 |op (o:Oper) (d:Nat) (a:Gs)
 |nest (w:Bool) (d:Nat) (sub:Gs) (o:Oper) (b:Nat) (a:Gs)
 |Dz (w:Bool) (d:Nat) (sub:Gs) (o:Oper) (b:Nat)
def Gs.dst:Gs->Nat
 | .last _ d=>d
 | .op _ _ r=>r.dst
 | .nest _ _ _ _ _ r=>r.dst
 | .Dz _ _ _ _ a=>a
def Gs.ops:Gs->List Oper
 | .last o _=>[o]
 | .op o _ r=>o::r.ops
 | .nest _ _ s o _ r=>s.ops++o::r.ops
 | .Dz _ _ s o _=>s.ops++[o]
def gA(w:Bool) (c:V) (x:Option V):Option V:=match w with
 |true=>jz c x
 |false=>om c x
def NM(b:Bool)(x:Option V):V:=Bool.rec (motive:=λ_=>V) V.undef (Option.rec (motive:=λ_=>V) V.undef (λv=>v) x) b
def Mq(w:Bool)(v:V):Bool:=Option.rec (motive:=λ_=>Bool) false (λb=>b) (fQ w v)
noncomputable def zh(g:Gs):Bool->gf->Hp->gf:=Gs.rec (motive:=λ_=>Bool->gf->Hp->gf) (λo d b ρ h=>gq ρ d (NM b ((il o).f (.fn ρ []) h))) (λo d _ c b ρ h=>c b (gq ρ d (NM b ((il o).f (.fn ρ []) h))) h) (λw d _ o e _ a c b ρ h=>c b (gq (a (Mq w (ρ d)) ρ h) e (NM b ((il o).f (.fn (a (Mq w (ρ d)) ρ h) []) h))) h) (λw d _ o e a b ρ h=>gq (a (Mq w (ρ d)) ρ h) e (NM b ((il o).f (.fn (a (Mq w (ρ d)) ρ h) []) h))) g
noncomputable def gE(g:Gs):gf->Hp->Option V:=Gs.rec (motive:=λ_=>gf->Hp->Option V) (λo _ ρ h=>(il o).f (.fn ρ []) h) (λo d _ b ρ h=>oB ((il o).f (.fn ρ []) h) λv=>b (gq ρ d v) h) (λw d sub _ c _ a b ρ h=>oB (gA w (ρ d) (a ρ h)) λv=>b (gq (zh sub (Mq w (ρ d)) ρ h) c v) h) (λw d _ _ _ a ρ h=>gA w (ρ d) (a ρ h)) g
def OU(x:Operand) (d:Nat):Bool:=match x with
 | .tmp i=>Nat.beq i d
 |_=>false
def XJ(x:Operand) (b:Bool):Bool:=match x with
 | .const v=>match lQ 8 v with
   |some (.bool c)=>c == b
   |_=>false
 |_=>false
def OX(o:Oper) (w:Bool) (d x:Nat):Bool:=match o.op with
 | .pick c a b=>OU c d&&(match w with
   |true=>OU a x&&XJ b false
   |false=>OU b x&&XJ a true)
 |_=>false
def dOk(n:Nat) (o:Oper) (d:Nat):Bool:=match o.dst with
 |some d'=>Nat.beq d' d&&Nat.blt d n
 |none=>false
def Vc(n:Nat) (all:List Oper) (o:Oper) (w:Bool) (d:Nat):Bool:=match o.guard with
 | some (j,w')=>(w' == w)&&(match all[j]? with
   |some a=>dOk n a d
   |none=>false)
 |none=>false
def NY(n:Nat)(all:List Oper)(av:List Nat)(w:Bool)(d:Nat)(o:Oper)(d':Nat):Bool:=Nat.beq (cls o) 0&&Vc n all o w d&&dOk n o d'&&av.all (λi=>!(Nat.beq i d'))
def UW(n:Nat) (all:List Oper):List Nat->Bool->Nat->List Nat->Gs->Bool
 |av,w,d,_,.last o d'=>NY n all av w d o d'
 |av,w,d,ins,.op o d' r=>NY n all av w d o d'&&UW n all av w d (d'::ins) r
 |av,w,d,ins,.nest w' d' s o a r=>ins.any (λi=>Nat.beq i d')&&UW n all (d'::av) w' d' [] s&&NY n all av w d o a&&OX o w' d' s.dst&&UW n all av w d (a::ins) r
 |av,w,d,ins, .Dz w' d' s o a=>ins.any (λi=>Nat.beq i d')&&UW n all (d'::av) w' d' [] s&&NY n all av w d o a&&OX o w' d' s.dst
def Ch(n:Nat) (all:List Oper) (h:Hp):List Oper->gf->gf->Prop
 |[],ρ,ρ'=>ρ' = ρ
 | o::os,ρ,ρ'=>cls o=0/\∃d v,o.dst=some d/\Nat.blt d n=true/\((jW n all o=none/\(il o).f (.fn ρ []) h=some v)\/
   ∃g b,jW n all o=some g/\g.f (.fn ρ [])=some b/\gV b ((il o).f (.fn ρ []) h)=some v)/\Ch n all h os (gq ρ d v) ρ'
theorem Ch.app{n:Nat} {all:List Oper} {h:Hp}:∀{os a:List Oper} {ρ e f:gf},Ch n all h os ρ e->Ch n all h a e f->Ch n all h (os++a) ρ f
 |[],_,_,_,_,b,c=>by cases b;exact c
 |_::_,_,_,_,_,⟨hc,d,v,b,c,g,i⟩,j=>⟨hc,d,v,b,c,g,i.app j⟩
theorem JK(ρ:gf)(d:Nat)(v:V):gq ρ d v d=v:=Uq ρ d v
theorem Va{n:Nat} {all:List Oper} {o:Oper} {w:Bool} {d:Nat} (a:Vc n all o w d=true):∃g,jW n all o=some g/\∀ρ:gf,g.f (.fn ρ [])=fQ w (ρ d):=by
 unfold Vc at a;split at a
 ·rename_i j w' b;simp only[ve,IB]at a;obtain⟨e,a⟩:=a;subst e;split at a
  ·rename_i l h;unfold dOk at a;split at a
   ·rename_i d' i;simp only[ve]at a;obtain⟨c,k⟩:=a;have c:=zR c;subst c;refine⟨_,by simp only[jW,b,h,i,k];rfl,λρ=>rfl⟩
   simp_all
  simp_all
 simp_all
theorem Sy{n:Nat} {all:List Oper} {av:List Nat} {w:Bool} {d:Nat} {o:Oper} {d':Nat} (hk:NY n all av w d o d' = true) :
  cls o=0/\(∃g,jW n all o=some g/\∀ρ:gf,g.f (.fn ρ [])=fQ w (ρ d))/\o.dst=some d'/\Nat.blt d' n=true/\∀i∈av,i≠d':=by
 unfold NY at hk;simp only[ve]at hk;obtain⟨⟨⟨b,c⟩,a⟩,h⟩:=hk;refine⟨zR b,Va c,?_⟩;unfold dOk at a;split at a
 ·rename_i e j;simp only[ve]at a
  grind[zR,Oj,Tv,absurd]
 simp_all
theorem Lq{x:Operand} {d:Nat} (h:OU x d=true):x = .tmp d:=by
 unfold OU at h
 grind[zR,absurd]
theorem Sj{x:Operand} {b:Bool} (a:XJ x b=true) (t:Tm) (h:Hp):(rr x).f t h=some (.bool b):=by
 unfold XJ at a;split at a
 ·rename_i v;split at a
  ·rename_i c hc;have e:c=b:=by simpa using a
   subst e;show(LJ (.const v)).f t=_
   grind[LJ]
  simp_all
 simp_all
theorem RQ{o:Oper} {w:Bool} {d x:Nat} (e:OX o w d x=true) {ρ:gf} {h:Hp} {c:Bool} (hc:ρ d = .bool c):(il o).f (.fn ρ []) h=some (match w,c with
  |true,true=>ρ x
  |true,false=> .bool false
  |false,false=>ρ x
  |false,true=> .bool true)/\cls o=0:=by
 unfold OX at e;split at e
 ·rename_i c' a b i;simp only[ve]at e;obtain⟨k,g⟩:=e;have l:=Lq k;subst l;refine⟨?_,by grind[cls]⟩;have e0:(rr (.tmp d)).f (.fn ρ []) h=some (.bool c):=by show some (ρ d)=_;rw[hc]
  unfold il;rw[i];simp only[Je,e0,oB]
  cases w with
  | true=>
    simp only[ve]at g;have j:=Lq g.1;subst j
    cases c with
    |true=>rfl
    |false=>grind[Sj]
  | false=>
    simp only[ve]at g;have j:=Lq g.1;subst j
    cases c with
    |true=>grind[Sj]
    |false=>rfl
 simp_all
theorem SG{w:Bool} {c:V} {x:Option V} {v:V} (a:gA w c x=some v):∃b,c = .bool b/\fQ w c=some (b == w)/\((b=w/\x=some v)\/(b≠w/\v = .bool (!w))):=by
 unfold gA at a
 cases w with
 | true=>
   simp only[jz]at a;split at a
   ·cases a;simp_all
   ·simp_all
   ·cases a
 | false=>
   simp only[om]at a;split at a
   ·cases a;simp_all
   ·simp_all
   ·cases a
theorem Pm(ρ:gf){d i:Nat}(v:V)(h:i≠d):gq ρ d v i=ρ i:=Yh ρ v h
theorem Ch.one{n:Nat} {all:List Oper} {av:List Nat} {w:Bool} {d:Nat} {o:Oper} {d':Nat} (hk:NY n all av w d o d' = true) {ρ:gf} {h:Hp} {b:Bool} (i:fQ w (ρ d)=some b) {v:V}
  (j:gV b ((il o).f (.fn ρ []) h)=some v):Ch n all h [o] ρ (gq ρ d' v):=by
 obtain⟨a,⟨g,k,l⟩,c,e,m⟩:=Sy hk;exact⟨a,d',v,c,e,by grind,rfl⟩
theorem JS{b:Bool} {x:Option V} {v:V} (h:gV b x=some v):NM b x=v:=by
 cases b with
 |true=>have h':x=some v:=h;subst h';rfl
 |false=>cases h;rfl
def OL(n:Nat) (all:List Oper) (av:List Nat) (os:List Oper) (b:Bool) (ρ a:gf) (h:Hp) (d:Nat) (x:V):Prop:=Ch n all h os ρ a/\a d=x/\(∀i∈av,a i=ρ i)/\(b=false->∀i,ρ i = .undef->a i = .undef)
theorem OL.one{n:Nat} {all:List Oper} {av:List Nat} {w:Bool} {d:Nat} {o:Oper} {d':Nat} (hk:NY n all av w d o d' = true) {ρ:gf} {h:Hp} {b:Bool} (c:fQ w (ρ d)=some b) {v:V}
  (a:gV b ((il o).f (.fn ρ []) h)=some v):OL n all av [o] b ρ (gq ρ d' v) h d' v:=by
 obtain⟨_,_,_,_,g⟩:=Sy hk;refine⟨Ch.one hk c a,JK _ _ _,by grind[Pm],λe i hi=>?_⟩;subst e;cases a
 grind[JK,Pm]
theorem OL.trans{n:Nat} {all:List Oper} {av:List Nat} {os a:List Oper} {b:Bool} {ρ g j:gf} {h:Hp} {d d':Nat} {x k:V} (f:OL n all av os b ρ g h d x) (c:OL n all av a b g j h d' k):OL n all av (os++a) b ρ j h d' k:=
 ⟨f.1.app c.1,c.2.1,λi hi=>(c.2.2.1 i hi).trans (f.2.2.1 i hi),λe i hi=>c.2.2.2 e i (f.2.2.2 e i hi)⟩
theorem TN{n:Nat} {all:List Oper}:∀(g:Gs) {av:List Nat} {w:Bool} {d:Nat} {k:List Nat},UW n all av w d k g=true->d∈av->∀{ρ:gf} {h:Hp} {b:Bool},fQ w (ρ d)=some b->
  (b=false->∀i∈k,ρ i = .undef)->∀{x:V},gV b (gE g ρ h)=some x->OL n all av g.ops b ρ (zh g b ρ h) h g.dst x:=by
 have nest:∀(s:Gs),(∀{av:List Nat} {w:Bool} {d:Nat} {k:List Nat},UW n all av w d k s=true->d∈av->∀{ρ:gf} {h:Hp} {b:Bool},fQ w (ρ d)=some b->
    (b=false->∀i∈k,ρ i = .undef)->∀{x:V},gV b (gE s ρ h)=some x->OL n all av s.ops b ρ (zh s b ρ h) h s.dst x)->
   ∀{av:List Nat} {w w':Bool} {d d' q:Nat} {k:List Nat} {o:Oper},k.any (λi=>Nat.beq i d')=true->UW n all (d'::av) w' d' [] s=true->NY n all av w d o q=true->OX o w' d' s.dst=true->d∈av->
   ∀{ρ:gf} {h:Hp} {b:Bool},fQ w (ρ d)=some b->(b=false->∀i∈k,ρ i = .undef)->∀{v:V},gV b (gA w' (ρ d') (gE s ρ h))=some v->
   gV b ((il o).f (.fn (zh s (Mq w' (ρ d')) ρ h) []) h)=some v/\OL n all av (s.ops++[o]) b ρ (gq (zh s (Mq w' (ρ d')) ρ h) q v) h q v:=by
  intro s E av w w' d d' q k o J hc U Z m ρ h b p hi v u;obtain⟨i,aa,K⟩:=List.any_eq_true.1 J;have e:=zR K;subst e
  cases b with
  | true=>
    obtain⟨c,L,F,W⟩:=SG (show gA w' (ρ i) (gE s ρ h)=some v from u);have M:Mq w' (ρ i)=(c == w'):=by unfold Mq;rw[F]
    rw[M];obtain⟨y,hy⟩:∃y,gV (c == w') (gE s ρ h)=some y/\(c=w'->y=v):=by
      rcases W with⟨G,N⟩|⟨G,N⟩
      ·simp_all
      ·have:(c == w')=false:=by simp[G]
       rw[this];simp_all
    obtain⟨O,X,P,k4⟩:=E hc (Xe ..) F (by simp_all) hy.1;have Q:zh s (c == w') ρ h i = .bool c:=by rw[P i (Xe ..)];exact L
    have R:=(RQ Z (h:=h) Q).1;have t:(il o).f (.fn (zh s (c == w') ρ h) []) h=some v:=by
      rw[R,X];rcases W with⟨G,N⟩|⟨G,N⟩
      ·grind
      ·grind
    refine⟨t,?_⟩;have a:=OL.one U (ρ:=zh s (c == w') ρ h) (h:=h) (b:=true) (by simp_all) (v:=v) t
    refine⟨O.app a.1,a.2.1,λj H=>(a.2.2.1 j H).trans (by simp_all),by simp_all⟩
  | false=>
    have L:ρ i = .undef:=by simp_all
    have F:fQ w' (ρ i)=some false:=by rw[L];rfl
    have M:Mq w' (ρ i)=false:=by unfold Mq;rw[F]
    rw[M];cases u;obtain⟨O,X,P,k4⟩:=E hc (Xe ..) F (by simp_all) (x:= .undef) rfl;refine⟨rfl,?_⟩;have a:=OL.one U (ρ:=zh s false ρ h) (h:=h) (b:=false) (by rw[P d (List.mem_cons_of_mem _ m)];exact p) (v:= .undef) rfl;exact⟨O.app a.1,a.2.1,λj H=>(a.2.2.1 j H).trans (by simp_all),λe j H=>a.2.2.2 e j (by simp_all)⟩
 intro g
 induction g with
 | last o d'=>
   intro av w d k hk m ρ h b p hi x z;have l:gV b ((il o).f (.fn ρ []) h)=some x:=z;show OL n all av [o] b ρ (gq ρ d' (NM b ((il o).f (.fn ρ []) h))) h d' x;rw[JS l]
   exact OL.one hk p l
 | op o d' r E=>
   intro av w d k hk m ρ h b p hi x z;simp only[UW,ve]at hk;obtain⟨v,u,l⟩:∃v,gV b ((il o).f (.fn ρ []) h)=some v/\gV b (gE r (gq ρ d' v) h)=some x:=by
     cases b with
     | true=>
       obtain⟨v,A,B⟩:=fh.1 (show oB ((il o).f (.fn ρ []) h) _=some x from z)
       exact⟨v,A,B⟩
     |false=>simp_all
   have a:=OL.one hk.1 p u;show OL n all av ([o]++r.ops) b ρ (zh r b (gq ρ d' (NM b ((il o).f (.fn ρ []) h))) h) h r.dst x;rw[JS u];refine a.trans (E hk.2 m (by rw[a.2.2.1 d m];exact p) ?_ l);intro e i C;rcases Mc.1 C with e'|e'
   ·simp_all[JK]
   ·exact a.2.2.2 e i (by simp_all)
 | nest w' d' s o q r D E=>
   intro av w d k hk m ρ h b p hi x z;simp only[UW,ve]at hk;obtain⟨⟨⟨⟨A,B⟩,S⟩,T⟩,h5⟩:=hk;obtain⟨v,u,l⟩:∃v,gV b (gA w' (ρ d') (gE s ρ h))=some v/\gV b (gE r (gq (zh s (Mq w' (ρ d')) ρ h) q v) h)=some x:=by
     cases b with
     | true=>
       obtain⟨v,A,B⟩:=fh.1 (show oB (gA w' (ρ d') (gE s ρ h)) _=some x from z)
       exact⟨v,A,B⟩
     |false=>simp_all
   obtain⟨Y,I⟩:=nest s D A B S T m p hi u;show OL n all av (s.ops++([o]++r.ops)) b ρ (zh r b (gq (zh s (Mq w' (ρ d')) ρ h) q (NM b ((il o).f (.fn (zh s (Mq w' (ρ d')) ρ h) []) h))) h) h r.dst x;rw[JS Y,<-Jx];refine I.trans (E h5 m (by rw[I.2.2.1 d m];exact p) ?_ l);intro e i C;rcases Mc.1 C with e'|e'
   ·simp_all[JK]
   ·exact I.2.2.2 e i (by simp_all)
 | Dz w' d' s o q D=>
   intro av w d k hk m ρ h b p hi x z;simp only[UW,ve]at hk;obtain⟨⟨⟨A,B⟩,S⟩,T⟩:=hk;obtain⟨Y,I⟩:=nest s D A B S T m p hi (show gV b (gA w' (ρ d') (gE s ρ h))=some x from z);show OL n all av (s.ops++[o]) b ρ (gq (zh s (Mq w' (ρ d')) ρ h) q (NM b ((il o).f (.fn (zh s (Mq w' (ρ d')) ρ h) []) h))) h q x
   grind[JS]
inductive RD where
 |op (o:Oper) (d:Nat)
 |nest (w:Bool) (d:Nat) (sub:Gs) (o:Oper) (a:Nat)
def RD.dst:RD->Nat
 | .op _ d=>d
 | .nest _ _ _ _ a=>a
def RD.ops:RD->List Oper
 | .op o _=>[o]
 | .nest _ _ s o _=>s.ops++[o]
def RD.one:RD->Gs
 | .op o d=> .last o d
 | .nest w d s o a=> .Dz w d s o a
def RD.cons(r:Gs):RD->Gs
 | .op o d=> .op o d r
 | .nest w d s o a=> .nest w d s o a r
def zce(all:List Oper) (o:Oper):Option (Bool×Nat):=match o.guard with
 | some (j,w)=>match all[j]? with
   | some a=>match a.dst with
     |some d=>some (w,d)
     |none=>none
   |none=>none
 |none=>none
def NS(n : Nat) (all:List Oper) (Xt:Bool->Nat->List Nat->List Oper->Option (Gs×List Oper)) (w:Bool) (d:Nat) (a:List Nat) (os:List Oper):Option (RD×List Oper):=match os with
  |[]=>none
  | o ::os'=>match Vc n all o w d&&Nat.beq (cls o) 0,o.dst with
    |true,some d'=>some (.op o d',os')
    | _,_ => match zce all o with
      |none=>none
      | some (w',d')=>match a.any (λi=>Nat.beq i d')with
        |false=>none
        | true=>match Xt w' d' [] (o::os')with
          | some (s,p::os'')=>match Vc n all p w d&&OX p w' d' s.dst,p.dst with
            |true,some dp=>some (.nest w' d' s p dp,os'')
            |_,_=>none
          |_=>none
noncomputable def Xt(n:Nat) (all:List Oper) (fuel:Nat):Bool->Nat->List Nat->List Oper->Option (Gs×List Oper):=
 Nat.rec (motive:=λ_=>Bool->Nat->List Nat->List Oper->Option (Gs×List Oper)) (λ_ _ _ _=>none) (λ_ b w d a os=>match NS n all b w d a os with
  |none=>none
  | some (it,os')=>match b w d (it.dst::a) os' with
    |some (g,r)=>some (it.cons g,r)
    |none=>some (it.one,os')) fuel
theorem RB{n:Nat} {all:List Oper} {Xt:Bool->Nat->List Nat->List Oper->Option (Gs×List Oper)} (b:∀w d a os g r,Xt w d a os=some (g,r)->os=g.ops++r) {w:Bool} {d:Nat} {a:List Nat} {os:List Oper} {it:RD} {r:List Oper}
  (h:NS n all Xt w d a os=some (it,r)):os=it.ops++r:=by
 unfold NS at h;split at h
 ·cases h
 ·split at h
  ·cases h;rfl
  ·split at h
   ·cases h
   grind[RD.ops,Jx]
theorem M3{n:Nat} {all:List Oper}:∀(fuel:Nat) (w:Bool) (d:Nat) (a:List Nat) (os:List Oper) (g:Gs) (r:List Oper),Xt n all fuel w d a os=some (g,r)->os=g.ops++r
 |0,_,_,_,_,_,_,h=>by cases h
 | fuel+1,w,d,a,os,g,r,h=>by
   have h':(match NS n all (Xt n all fuel) w d a os with
     |none=>none
     | some (it,b)=>match Xt n all fuel w d (it.dst::a) b with
       |some (g,r)=>some (it.cons g,r)
       |none=>some (it.one,b))=some (g,r):=h
   split at h'
   ·cases h'
   ·rename_i it b c
    have f:=RB (λw d a os g r e=>M3 fuel w d a os g r e) c;split at h'
    ·rename_i j r' e
     cases h';have i:=M3 fuel _ _ _ _ _ _ e;rw[f,i];cases it <;> simp[RD.ops,RD.cons,Gs.ops]
    ·cases h'
     rw[f];cases it <;> simp[RD.ops,RD.one,Gs.ops]
noncomputable def W7(n:Nat) (all:List Oper) (os:List Oper):Option (Bool×Nat×Gs×Nat):=match os with
 |[]=>none
 | o ::_ => match o.guard with
   |none=>none
   | some (j,w)=>match all[j]? with
     |none=>none
     | some a=>match a.guard,a.dst,Nat.beq (cls o) 0 with
       | none,some d,true=>match Xt n all 60 w d [] os with
         | some (g,p::_)=>match p.guard,p.dst with
           | none,some dp=>match OX p w d g.dst&&Nat.blt dp n&&UW n all [d] w d [] g with
             |true=>some (w,d,g,dp)
             |false=>none
           |_,_=>none
         |_=>none
       |_,_,_=>none
theorem YO{n:Nat} {all os:List Oper} {w:Bool} {d:Nat} {g:Gs} {a:Nat} (h:W7 n all os=some (w,d,g,a)):∃p r,os=g.ops++p::r/\p.guard=none/\p.dst=some a/\OX p w d g.dst=true/\Nat.blt a n=true/\UW n all [d] w d [] g=true:=by
 unfold W7 at h;split at h
 ·cases h
 ·split at h
  ·cases h
  ·split at h
   ·cases h
   ·split at h
    ·split at h
     ·rename_i c;split at h
      ·rename_i e f;split at h
       ·rename_i b;cases h;simp only[ve]at b
        grind[M3]
       ·cases h
      ·cases h
     ·cases h
    ·cases h
theorem Ei{n:Nat} {o:Oper} {K a:gf->Hp->Prop} (b:∀ρ h,K ρ h->a ρ h) {v:V} {ρ:gf} {h:Hp} (hk:nJ n o K v ρ h):nJ n o a v ρ h:=by
 grind[nJ,Nat.blt]
theorem oH{α:Type}{x:Option α}{k k':α->Prop}(h:oP x k)(f:∀a,k a->k' a):oP x k':=by grind[oM]
theorem WZ{C:fk} {o:Oper} {K b:V->gf->Hp->Prop} (d:∀v ρ h,K v ρ h->b v ρ h) {ρ:gf} {h:Hp} (hk:Of C o K ρ h):Of C o b ρ h:=by
 unfold Of at hk⊢;generalize cls o=c at hk⊢;rcases c with _|_|c
 ·grind[oH]
 ·grind[oH]
 ·show Qa C o b ρ h;have a:Qa C o K ρ h:=hk;unfold Qa at a⊢;cases hi:xe o
  all_goals rw[hi]at a
  ·grind[oH]
  ·exact oH a λx H=>H.mono (by simp_all)
theorem VY{C:fk} {o:Oper} {b:Bool} {K a:V->gf->Hp->Prop} (d:∀v ρ h,K v ρ h->a v ρ h) {ρ:gf} {h:Hp} (hk:Xh C o b K ρ h):Xh C o b a ρ h:=by
 unfold Xh at hk⊢;generalize cls o=c at hk⊢;rcases c with _|_|c
 ·grind[oH]
 ·grind[oH]
 ·simp only at hk⊢;cases hi:xe o
  all_goals rw[hi]at hk
  ·grind[oH]
  ·refine oH hk λx H=>?_
   cases x with
   |none=>simp_all
   |some y=>exact cP.mono H (by simp_all)
theorem Q3{C:fk} {n:Nat} {all:List Oper} {o:Oper} {K a:gf->Hp->Prop} (b:∀ρ h,K ρ h->a ρ h) {ρ:gf} {h:Hp} (hk:yH C n all o K ρ h):yH C n all o a ρ h:=by
 unfold yH at hk⊢
 cases hd:yN o with
 |some q=>simp_all
 | none=>
   rw[hd]at hk;simp only at hk⊢
   cases hw:jW n all o with
   |none=>rw[hw]at hk;grind[WZ,Ei]
   |some g=>grind[oH,VY,Ei]
theorem V4(C:fk) (n:Nat) (all:List Oper) (o:Oper) (K:gf->Hp->Prop):Si C n all o K=yH C n all o K:=by
 grind[Si,yH,ZN]
theorem IL{o:Oper} (h:cls o=0):yN o=none:=by
 grind[yN,cls]
theorem Ch.yf{C:fk} {n:Nat} {all:List Oper} {h:Hp} {K:gf->Hp->Prop} {a:List Oper}:∀{os:List Oper} {ρ b:gf},Ch n all h os ρ b->yf C n all K a b h->yf C n all K (os++a) ρ h
 |[],_,_,hc,hk=>by cases hc;exact hk
 | o::os,ρ,b,⟨h0,d,v,c,e,i,f⟩,hk=>by
   have g:=f.yf (C:=C) (K:=K) hk;have j:nJ n o (Hx.yf C n all K (os++a)) v ρ h:=by unfold nJ;rw[c];simp only[e];exact g
   show yH C n all o (Hx.yf C n all K (os++a)) ρ h
   grind[yH,IL,Of,ed,Xh]
noncomputable def Qo(C:fk) (n:Nat) (all:List Oper) (K:gf->Hp->Prop) (os:List Oper):Nat->gf->Hp->Prop:=
 List.rec (motive:=λ_=>Nat->gf->Hp->Prop) (λ_=>K) (λo os a b=>Nat.rec (motive:=λ_=>gf->Hp->Prop)
  (match W7 n all (o::os)with
   |some (w,d,g,dp)=>λρ h=>oP (gA w (ρ d) (gE g ρ h)) λv=>a g.ops.length (gq (zh g (Mq w (ρ d)) ρ h) dp v) h
   |none=>Si C n all o (a 0)) (λk _=>a k) b) os
theorem GQ{C:fk} {n:Nat} {all:List Oper} {K:gf->Hp->Prop}:∀(os:List Oper) (e:Nat) {ρ:gf} {h:Hp},Qo C n all K os e ρ h->yf C n all K (os.drop e) ρ h
 |[],e,ρ,h,hk=>by rw[List.drop_nil];exact hk
 |o::os,e+1,ρ,h,hk=>GQ os e hk
 | o ::os,0,ρ,h,hk=>by
   have a:(match W7 n all (o::os)with
     |some (w,d,g,k)=>λ(ρ:gf) (h:Hp)=>oP (gA w (ρ d) (gE g ρ h)) λv=>Qo C n all K os g.ops.length (gq (zh g (Mq w (ρ d)) ρ h) k v) h
     |none=>Si C n all o (Qo C n all K os 0):gf->Hp->Prop) ρ h:=hk
   show yf C n all K (o::os) ρ h
   cases hg:W7 n all (o::os)with
   | some x=>
     obtain⟨w,d,g,k⟩:=x;rw[hg]at a;simp only at a;obtain⟨p,r,q,N,A,b,i,B⟩:=YO hg;obtain⟨v,D,s⟩:=j6.1 a;obtain⟨c,E,c2,t⟩:=SG D;have F:Mq w (ρ d)=(c == w):=by unfold Mq;rw[c2]
     rw[F]at s;obtain⟨y,G⟩:∃y,gV (c == w) (gE g ρ h)=some y/\(c=w->y=v):=by
       rcases t with⟨b,i⟩|⟨b,i⟩
       ·simp_all
       ·have:(c == w)=false:=by simp[b]
        rw[this];simp_all
     obtain⟨H,I,J,O⟩:=TN g B (Xe ..) c2 (by simp_all) G.1;have l:zh g (c == w) ρ h d = .bool c:=by rw[J d (Xe ..)];exact E
     have j:=RQ b (h:=h) l;have u:(il p).f (.fn (zh g (c == w) ρ h) []) h=some v:=by
       rw[j.1,I];rcases t with⟨b,i⟩|⟨b,i⟩
       ·grind
       ·grind
     have m:Ch n all h [p] (zh g (c == w) ρ h) (gq (zh g (c == w) ρ h) k v):=⟨j.2,k,v,A,i,by grind[jW],rfl⟩
     have hlen:os.drop g.ops.length=r:=by
       have L:(o::os).drop (g.ops.length+1)=r:=by rw[q,List.append_cons];exact by simp_all
       exact L
     have z:=GQ os _ s;rw[hlen]at z;rw[q,List.append_cons]
     exact(H.app m).yf z
   | none=>
     rw[hg]at a;simp only[V4]at a;exact Q3 (λρ h M=>by have:=GQ os 0 M;exact this) a
def A4(o:Oper):Bool:=match o.op with
 | .move x| .assign x| .nilCheck x| .fieldAddr _ x _| .field _ x _| .unOp _ _ x| .extract x _=>Na x
 | .pick c a b=>Na c&&Na a&&Na b
 | .binOp _ _ x y _=>Na x&&Na y
 | .indexAddr _ x i| .index _ x i=>Na x&&Na i
 | .build _ _| .makeFunc _ _ _=>true
 | .makeInterface _ x=>Na x
 | .call c=>match c.callee,c.args.toList,c.argTypes.toList with
   | .builtin .len,[x],ty::_=>match P0.underlying ty with
     |some (.slice _)=>Na x
     |_=>false
   |_,_,_=>false
 |_=>false
theorem VJ{o:Oper} (a:A4 o=true) (t:Tm) (h h':Hp):(il o).f t h=(il o).f t h':=by
 unfold A4 at a;unfold il;split at a
 all_goals rename_i b
 all_goals try rw[b]
 all_goals try simp only[ve]at a
 ·grind[j4]
 ·grind[j4]
 ·grind[yj,j4]
 ·grind[pb,j4]
 ·grind[FJ,j4]
 ·grind[j4]
 ·grind[Di,j4]
 ·grind[Je,j4]
 ·grind[j4]
 ·grind[pE,j4]
 ·grind[Ge,j4]
 ·simp only[F0];grind
 ·split <;> first|rfl|simp_all
 ·dsimp only;split <;> first|rfl|grind[j4]
 ·grind[hlen,j4,absurd]
 simp_all
abbrev RE:=Bool×Rec×Bool×Bool
def Ft(k:Nat) (h:Hp) (rs:List RE) (K:Prop):Prop:=List.rec (motive:=λ_=>Prop) K (λr _ a=>Bool.rec (motive:=λ_=>Prop) (Option.rec (motive:=λ_=>Prop) (Bool.rec (motive:=λ_=>Prop) a (Bool.rec (motive:=λ_=>Prop) True (CC h r.2.1) r.1/\a) r.2.2.2) (λ_=>Bool.rec (motive:=λ_=>Prop) True (CC h r.2.1) r.1/\a) r.2.1.made) a (Nat.blt r.2.1.last k)) rs
def GW(rs:List RE):List RE:=rs.map λr=>(r.1,r.2.1,r.2.2.1,!r.2.2.1)
def rY(rs:List RE):List (Bool×Rec):=rs.map λr=>(r.1,r.2.1)
def itV(C:fk) (n:Nat) (all:List Oper) (ws:List It) (a:It) (d:Nat->gf->Hp->List RE->Prop) (k:Nat):gf->Hp->List RE->Prop:=match cls a.o with
  | 0 =>match jW n all a.o with
    | none=>match isVal a.o with
      |true=>λρ h rs=>Option.rec (motive:=λ_=>Prop) False (λv=>nJ n a.o (λc h=>d k c h ((true,{it:=a,t:= .fn ρ [],v,made:=none,last:=late ws a},A4 a.o,false)::rs)) v ρ h) ((il a.o).f (.fn ρ []) h)
      |false=>λρ h rs=>oP ((il a.o).f (.fn ρ []) h) λv=>nJ n a.o (λc h=>d k c h ((true,{it:=a,t:= .fn ρ [],v,made:=none,last:=late ws a},A4 a.o,false)::rs)) v ρ h
    |some g=>λρ h rs=>oP (g.f (.fn ρ [])) λb=>oP (gV b ((il a.o).f (.fn ρ []) h)) λv=>
       nJ n a.o (λc h=>d k c h ((b,{it:=a,t:= .fn ρ [],v,made:=none,last:=late ws a},A4 a.o,false)::rs)) v ρ h
  | 1=>match jW n all a.o with
    |none=>λρ h rs=>oP ((pD a.o).f (.fn ρ [])) λr=>nJ n a.o (λc h'=>d k c h' ((true,{it:=a,t:= .fn ρ [],v:=r.2 h.next,made:=some (h.next,r.1),last:=late ws a},false,false)::GW rs)) (r.2 h.next) ρ (h.new r.1)
    |some _=>λ_ _ _=>False
  | _ =>match jW n all a.o with
    |none=>λρ h rs=>Ft k h rs (Qa C a.o (λv ρ h'=>h.next<=h'.next/\nJ n a.o (λρ h=>d (Nat.succ k) ρ h (GW rs)) v ρ h') ρ h)
    | some g=>match xe a.o with
      |true=>λρ h rs=>Ft k h rs (oP (g.f (.fn ρ [])) λb=>oP (gC b (oB ((jy a.o).f (.fn ρ []) h) Ga)) λx=>xd C x h λv h'=>h.next<=h'.next/\nJ n a.o (λρ h=>d (Nat.succ k) ρ h (GW rs)) v ρ h')
      |false=>λ_ _ _=>False
def Gi(l:List It):Bool:=l.all λa=>Nat.beq (cls a.o) 0
def Q0(C:fk) (n:Nat) (all:List Oper) (ws:List It) (K:gf->Hp->Prop) (l:List It):Nat->gf->Hp->List RE->Prop:=
 List.rec (motive:=λ_=>Nat->gf->Hp->List RE->Prop) (λk ρ h rs=>Ft k h rs (K ρ h)) (λa l b k=>match Gi (a::l)with
  |true=>λρ h rs=>Qo C n all (λρ h=>Ft k h rs (K ρ h)) ((a::l).map (·.o)) 0 ρ h
  |false=>itV C n all ws a b k) l
def TK(h:Hp)(rs:List RE):Prop:=∀r∈rs,r.1=true->r.2.1.made=none->(r.2.2.1=true->∀h',CC h' r.2.1)/\(r.2.2.2=false->CC h r.2.1)
theorem TK.xX{h:Hp} {rs:List RE} (hi:TK h rs) (h':Hp):TK h' (GW rs):=by
 intro r b c d;obtain⟨r',a,e⟩:=Jy.1 b;subst e;obtain⟨f,_⟩:=hi r' a c d
 simp_all
theorem K8(rs:List RE):rY (GW rs)=rY rs:=by
 simp[rY,GW]
theorem wG{k:Nat} {h:Hp}:∀{rs:List RE} {K d:Prop},TK h rs->(K->d)->Ft k h rs K->vK k h (rY rs) d
 |[],_,_,_,hk,hh=>hk hh
 | (b,r,f,st)::rs,K,d,hi,hk,hh=>by
   have c:TK h rs:=λr c=>hi r (List.mem_cons_of_mem _ c);have h0:=hi _ (Xe ..)
   have a:Bool.rec (motive:=λ_=>Prop)
     (Option.rec (motive:=λ_=>Prop) (Bool.rec (motive:=λ_=>Prop) (Ft k h rs K) (Bool.rec (motive:=λ_=>Prop) True (CC h r) b/\Ft k h rs K) st)
     (λ_=>Bool.rec (motive:=λ_=>Prop) True (CC h r) b/\Ft k h rs K) r.made) (Ft k h rs K) (Nat.blt r.last k):=hh
   show Bool.rec (motive:=λ_=>Prop) (Bool.rec (motive:=λ_=>Prop) True (CC h r) b/\vK k h (rY rs) d) (vK k h (rY rs) d) (Nat.blt r.last k)
   cases hb:Nat.blt r.last k with
   |true=>rw[hb]at a;exact wG c hk a
   | false=>
     rw[hb]at a
     cases hm:r.made with
     |some x=>rw[hm]at a;exact⟨a.1,wG c hk a.2⟩
     | none=>
       rw[hm]at a
       cases st with
       |true=>exact⟨a.1,wG c hk a.2⟩
       | false=>
         refine⟨?_,wG c hk a⟩;cases b <;> grind
theorem Wh{C:fk} {o:Oper} {K a:V->gf->Hp->Prop} (b:∀v ρ h,K v ρ h->a v ρ h) {ρ:gf} {h:Hp} (hk:Qa C o K ρ h):Qa C o a ρ h:=by
 unfold Qa at hk⊢;cases hi:xe o
 all_goals rw[hi]at hk
 ·grind[oH]
 ·exact oH hk λx H=>H.mono (by simp_all)
theorem Mj{k:Nat} {h:Hp} {K:Prop} {rs:List (Bool×Rec)}:∀{new:List (Bool×Rec)},(∀r∈new,r.1=true->CC h r.2)->vK k h rs K->vK k h (new++rs) K
 |[],_,hh=>hh
 | r ::new,hn,hh=>by
   have a:=Mj (new:=new) (by simp_all) hh;show vK k h (r::(new++rs)) K;simp only[vK]
   cases hb:Nat.blt r.2.last k with
   |true=>exact a
   | false=>
     refine⟨?_,a⟩;cases hb:r.1 <;> grind
theorem Lo{C:fk} {n:Nat} {all:List Oper} {ws:List It} {K:gf->Hp->Prop} {k:Nat} {rs:List (Bool×Rec)}:∀{l:List It} {ρ:gf} {h:Hp} {new:List (Bool×Rec)},Gi l=true->(∀r∈new,r.1=true->CC h r.2)->
  yf C n all (λρ h=>vK k h rs (K ρ h)) (l.map (·.o)) ρ h->Gg C n all ws K l k ρ h (new++rs)
 |[],_,_,_,_,hn,hk=>Mj hn hk
 | a ::l,ρ,h,new,m,hn,hk=>by
   simp only[Gi,YY,ve]at m;obtain⟨hc,m⟩:=m;have hc:=zR hc;have c:yH C n all a.o (yf C n all (λρ h=>vK k h rs (K ρ h)) (l.map (·.o))) ρ h:=hk;show itR C n all ws a (Gg C n all ws K l) k ρ h (new++rs)
   have p:∀{b:Bool} {v:V},(b=true->(il a.o).f (.fn ρ []) h=some v)->nJ n a.o (yf C n all (λρ h=>vK k h rs (K ρ h)) (l.map (·.o))) v ρ h->
       nJ n a.o (λx h=>Gg C n all ws K l k x h ((b,{it:=a,t:= .fn ρ [],v,made:=none,last:=late ws a})::(new++rs))) v ρ h:=by
     intro b v q j;have i:∀r∈(b,({it:=a,t:= .fn ρ [],v,made:=none,last:=late ws a}:Rec))::new,r.1=true->CC h r.2:=by
       intro r y s;rcases Mc.1 y with e|e
       ·subst e;exact q s
       ·grind
     unfold nJ at j⊢
     cases ho:a.o.dst with
     |none=>rw[ho]at j;exact Lo m i j
     | some d=>
       rw[ho]at j;simp only at j⊢
       cases q:Nat.blt d n with
       |true=>rw[q]at j;exact Lo m i j
       |false=>simp_all
   unfold yH at c;rw[IL hc]at c;simp only at c;unfold itR;rw[hc];simp only
   cases hw:jW n all a.o with
   | none=>
     rw[hw]at c;simp only[Of,hc]at c;obtain⟨v,u,w⟩:=j6.1 c
     simp_all
   | some g=>
     rw[hw]at c;simp only[Xh,hc]at c;obtain⟨b,h0,c⟩:=j6.1 c;obtain⟨v,u,w⟩:=j6.1 c;exact ed h0 (ed u (p (λe=>by simp_all) w))
theorem Ip{C:fk} {n:Nat} {all:List Oper} {K f:gf->Hp->Prop} {h:Hp} (i:∀ρ,K ρ h->f ρ h):∀{l:List It} {ρ:gf},Gi l=true->yf C n all K (l.map (·.o)) ρ h->yf C n all f (l.map (·.o)) ρ h
 |[],_,_,hk=>i _ hk
 | a ::l,ρ,e,hk=>by
   simp only[Gi,YY,ve]at e;obtain⟨hc,e⟩:=e;have hc:=zR hc;have b:yH C n all a.o (yf C n all K (l.map (·.o))) ρ h:=hk;show yH C n all a.o (yf C n all f (l.map (·.o))) ρ h;have j:∀{v:V},nJ n a.o (yf C n all K (l.map (·.o))) v ρ h->nJ n a.o (yf C n all f (l.map (·.o))) v ρ h:=by
     intro v c;unfold nJ at c⊢
     cases ho:a.o.dst with
     |none=>rw[ho]at c;exact Ip i e c
     | some d=>
       rw[ho]at c;simp only at c⊢
       cases hb:Nat.blt d n with
       |true=>rw[hb]at c;exact Ip i e c
       |false=>simp_all
   unfold yH at b⊢;rw[IL hc]at b⊢;simp only at b⊢
   cases hw:jW n all a.o with
   | none=>
     grind[Of,j6,ed]
   | some g=>
     rw[hw]at b
     grind[Xh,j6,ed]
theorem JL{C:fk} {n:Nat} {all:List Oper} {ws:List It} {K:gf->Hp->Prop}:∀(l:List It) {k:Nat} {ρ:gf} {h:Hp} {rs:List RE},TK h rs->Q0 C n all ws K l k ρ h rs->Gg C n all ws K l k ρ h (rY rs)
 |[],_,_,_,_,hi,hk=>wG hi (λx=>x) hk
 | a ::l,k,ρ,h,rs,hi,hk=>by
   have i:(match Gi (a::l)with
     |true=>λ(ρ:gf) (h:Hp) (rs:List RE)=>Qo C n all (λρ h=>Ft k h rs (K ρ h)) ((a::l).map (·.o)) 0 ρ h
     |false=>itV C n all ws a (Q0 C n all ws K l) k:gf->Hp->List RE->Prop) ρ h rs:=hk
   cases hp:Gi (a::l)with
   | true=>
     rw[hp]at i;have A:=GQ _ 0 i
     exact Lo (new:=[]) hp (by simp_all) (Ip (λρ m=>wG hi (λx=>x) m) hp A)
   | false =>
     rw[hp]at i;simp only at i;show itR C n all ws a (Gg C n all ws K l) k ρ h (rY rs)
     have pure:∀{b:Bool} {v:V},gV b ((il a.o).f (.fn ρ []) h)=some v->∀{j:gf},Q0 C n all ws K l k j h ((b,{it:=a,t:= .fn ρ [],v,made:=none,last:=late ws a},A4 a.o,false)::rs)->
         Gg C n all ws K l k j h ((b,{it:=a,t:= .fn ρ [],v,made:=none,last:=late ws a})::rY rs):=by
       intro b v p j m;refine JL l (rs:=(b,{it:=a,t:= .fn ρ [],v,made:=none,last:=late ws a},A4 a.o,false)::rs) ?_ m;intro r s q u;rcases Mc.1 s with e|e
       ·subst e
        have w:b=true:=q;subst w;refine⟨λB h'=>?_,λ_=>p⟩;show(il a.o).f (.fn ρ []) h' = some v;rw[VJ B _ h' h];exact p
       ·exact hi r e q u
     have dst:∀{b:Bool} {v:V},gV b ((il a.o).f (.fn ρ []) h)=some v->nJ n a.o (λj h=>Q0 C n all ws K l k j h ((b,{it:=a,t:= .fn ρ [],v,made:=none,last:=late ws a},A4 a.o,false)::rs)) v ρ h->
         nJ n a.o (λj h=>Gg C n all ws K l k j h ((b,{it:=a,t:= .fn ρ [],v,made:=none,last:=late ws a})::rY rs)) v ρ h:=by
       intro b v p D;unfold nJ at D⊢
       cases ho:a.o.dst with
       |none=>grind
       | some d=>
         grind
     unfold itV at i;unfold itR;generalize hc:cls a.o=c at i;rcases c with _|_|c
     ·simp only at i⊢
      cases hw:jW n all a.o with
      | none=>
        rw[hw]at i;simp only at i⊢;have z:oP ((il a.o).f (.fn ρ []) h) λv=>nJ n a.o (λj h=>Q0 C n all ws K l k j h ((true,{it:=a,t:= .fn ρ [],v,made:=none,last:=late ws a},A4 a.o,false)::rs)) v ρ h:=by
          cases p:isVal a.o <;> (rw[p]at i;exact i)
        obtain⟨v,A,F⟩:=j6.1 z
        simp_all
      | some g=>
        grind[j6,ed]
     ·simp only at i⊢
      cases hw:jW n all a.o with
      | none=>
        rw[hw]at i;refine oH i λr H=>Ei (λj h' m=>?_) H;have:=JL l (rs:=(true,{it:=a,t:= .fn ρ [],v:=r.2 h.next,made:=some (h.next,r.1),last:=late ws a},false,false)::GW rs) (by
          intro r' s q u;rcases Mc.1 s with e|e
          ·simp_all
          ·exact hi.xX h' r' e q u) m
        grind[Gg,rY,GW,K8]
      |some g=>simp_all
     ·simp only at i⊢
      have E:∀{v:V} {ρ:gf} {h':Hp},nJ n a.o (λρ h=>Q0 C n all ws K l (Nat.succ k) ρ h (GW rs)) v ρ h'->nJ n a.o (λρ h=>Gg C n all ws K l (Nat.succ k) ρ h (rY rs)) v ρ h':=λH=>
        Ei (λρ h m=>by have:=JL l (hi.xX h) m;grind[K8]) H
      cases hw:jW n all a.o with
      | none=>
        grind[wG,Wh]
      | some g=>
        rw[hw]at i;simp only at i⊢
        cases hic:xe a.o with
        |false=>simp_all
        | true=>
          rw[hic]at i;refine wG hi (λH=>oH H λb H=>oH H λx H=>?_) i
          cases x with
          |none=>simp_all
          |some y=>exact cP.mono H (by simp_all)
def VN(C:fk) (n:Nat) (all:List Oper) (K:gf->Hp->Prop) (ρ:gf) (h:Hp):Prop:=Q0 C n all (gK (items all 0 [])) K (order (items all 0 []) (gK (items all 0 [])) (gK (items all 0 [])) 0) 0 ρ h []
theorem We{C:fk}{n:Nat}{all:List Oper}{K:gf->Hp->Prop}{ρ:gf}{h:Hp}(hk:VN C n all K ρ h):Ta C n all K ρ h:=JL (rs:=[]) _ (by intro r a;cases a) hk
end
noncomputable def J4(tb:List (Nat×List Nat)) (k:Nat):Option (List Nat):=List.rec (motive:=λ_=>Option (List Nat)) none (λx _ a=>Bool.rec (motive:=λ_=>Option (List Nat)) a (some x.2) (Nat.beq x.1 k)) tb
noncomputable def jV(C:fk) (n:Nat) (live:List Nat) (c:Code) (s:XQ) (ρ:gf) (h:Hp):Prop:=∀a:gf,List.rec (motive:=λ_=>Prop) (Wp C n c s a h) (λi _ b=>a i=ρ i->b) live
theorem WV{C:fk} {n:Nat} {live:List Nat} {c:Code} {s:XQ} {ρ:gf} {h:Hp} (a:jV C n live c s ρ h):Wp C n c s ρ h:=by
 have:=a ρ;clear a
 induction live <;> grind
noncomputable def PJ(C:fk) (n:Nat) (tb:List (Nat×List Nat)) (c:Code):Nat->Nat->XQ->XQ->gf->Hp->Prop:=
 Code.rec (motive:=λ_=>Nat->Nat->XQ->XQ->gf->Hp->Prop)
  (λ_ _ v _=>v .normal)
  (fun _ ops d _ _ v _=>match d with
   |false=>Qo C n ops.toList (λρ h=>v .normal ρ h) ops.toList 0
   | true=>match wQ ops.toList with
     |true=>VN C n ops.toList (λρ h=>v .normal ρ h)
     |false=>λ_ _=>False)
  (λ_ b a g p e v s=>a p (Nat.mul 2 e) (andThen (Option.rec (motive:=λ_=>gf->Hp->Prop) (g (Nat.add p e) (Nat.mul 2 e) v s) (λlive=>jV C n live b s) (J4 tb (Nat.mul 2 (Nat.add (Nat.add p e) (Nat.mul 2 e))))) v) (andThen (Wp C n b s) s))
  (λc _ _ a g p e v s ρ h=>Option.rec (motive:=λ_=>Prop) False (λx=>bP x (a p (Nat.mul 2 e) v s ρ h) (g (Nat.add p e) (Nat.mul 2 e) v s ρ h)) ((rr c).f (.fn ρ []) h))
  (λid _ i p e v s=>i p (Nat.mul 2 e) (yp id v) (yp id s))
  (λc _ p e _ s=>Option.rec (motive:=λ_=>gf->Hp->Prop) (λ_ _=>False) (λlive=>jV C n live (.loop c) s) (J4 tb (Nat.succ (Nat.mul 2 (Nat.add p e)))))
  (λ_ _ _ _ _ _ _ _ _ _ _ _=>False)
  (λid _ _ v _=>v (.exit id))
  (λ_ _ _ _ _ _ _ _=>False)
  (λ_ _ _ _ _ _ _=>False)
  (λ_ _ _ _ _ _ _=>False)
  (λ_ _ v _=>v .ret)
  (λ_ _ _ _ _ _ _=>False) c
theorem zO{k k':gf->Hp->Prop} {v s:XQ} (hk:∀ρ h,k ρ h->k' ρ h) (hq:∀x ρ h,v x ρ h->s x ρ h):∀x ρ h,andThen k v x ρ h->andThen k' s x ρ h
 | .normal,_,_,hh=>hk _ _ hh
 | .exit _,_,_,hh=>hq _ _ _ hh
 | .ret,_,_,hh=>hq _ _ _ hh
theorem Ks{id:Nat} {v s:XQ} (hq:∀x ρ h,v x ρ h->s x ρ h):∀x ρ h,yp id v x ρ h->yp id s x ρ h
 | .normal,_,_,hh=>hq _ _ _ hh
 | .ret,_,_,hh=>hq _ _ _ hh
 | .exit i,ρ,h,hh=>by
   simp only[yp]at hh⊢;cases hb:Nat.beq i id <;> simp_all
theorem um{C:fk} {n:Nat} {tb:List (Nat×List Nat)}:∀(c:Code) {p e:Nat} {v s:XQ} {ρ:gf} {h:Hp},(∀x ρ h,v x ρ h->s x ρ h)->PJ C n tb c p e v s ρ h->Wp C n c s ρ h
 | .skip,_,_,_,_,_,_,hq,hk=> .skip (hq _ _ _ hk)
 | .region _ ops false,_,_,v,_,ρ,h,hq,hk=>by
   have d:Qo C n ops.toList (λρ h=>v .normal ρ h) ops.toList 0 ρ h:=hk
   exact(Wp.region (GQ _ 0 d)).mono hq
 | .region _ ops true,_,_,v,_,ρ,h,hq,hk=>by
   have d:(match wQ ops.toList with
       |true=>VN C n ops.toList (λρ h=>v .normal ρ h)
       |false=>λ_ _=>False) ρ h:=hk
   cases hd:wQ ops.toList with
   |true=>rw[hd]at d;exact(Wp.draw hd (We d)).mono hq
   |false=>simp_all
 | .seq a b,p,e,v,s,ρ,h,hq,hk=>by
   refine .seq (um a (zO ?_ hq) hk);intro ρ h g
   cases hf:J4 tb (Nat.mul 2 (Nat.add (Nat.add p e) (Nat.mul 2 e)))with
   |none=>rw[hf]at g;exact um b hq g
   |some live=>rw[hf]at g;exact WV g
 | .cond c a b,p,e,v,s,ρ,h,hq,hk=>by
   have d:oP ((rr c).f (.fn ρ []) h) (λx=>bP x (PJ C n tb a p (Nat.mul 2 e) v s ρ h) (PJ C n tb b (Nat.add p e) (Nat.mul 2 e) v s ρ h)):=hk;obtain⟨x,i,d⟩:=j6.1 d
   exact .cond (ed i (bM d (um a hq) (um b hq)))
 | .block id c,_,_,_,_,_,_,hq,hk=> .block (um c (Ks hq) hk)
 | .loop c,p,e,v,s,ρ,h,hq,hk=>by
   have d:(Option.rec (motive:=λ_=>gf->Hp->Prop) (λ_ _=>False) (λlive=>jV C n live (.loop c) s) (J4 tb (Nat.succ (Nat.mul 2 (Nat.add p e)))):gf->Hp->Prop) ρ h:=hk
   cases hf:J4 tb (Nat.succ (Nat.mul 2 (Nat.add p e)))with
   |none=>simp_all
   |some live=>rw[hf]at d;grind[WV]
 | .exit id,_,_,_,_,_,_,hq,hk=> .exit (hq _ _ _ hk)
 | .ret,_,_,_,_,_,_,hq,hk=> .ret (hq _ _ _ hk)
 | .rangeFunc ..,_,_,_,_,_,_,_,hk=>hk.elim
 | .scope _,_,_,_,_,_,_,_,hk=>hk.elim
 | .label _,_,_,_,_,_,_,_,hk=>hk.elim
 | .goto _,_,_,_,_,_,_,_,hk=>hk.elim
 | .refuse _,_,_,_,_,_,_,_,hk=>hk.elim
structure Ul where
 c:Code
 v:XQ
 s:XQ
 p:Nat
 e:Nat
 ks:List (gf->Hp->Prop)
def Zk(l:List (gf->Hp->Prop)):gf->Hp->Prop:=match l with
 |k::_=>k
 |[]=>λ_ _=>False
noncomputable def jC(C:fk) (n:Nat) (tb:List (Nat×List Nat)) (a:Ul) (b:Bool):Ul:=match a.c,b with
 | .seq x y,false=>{c:=x,v:=andThen (Option.rec (motive:=λ_=>gf->Hp->Prop) (PJ C n tb y (Nat.add a.p a.e) (Nat.mul 2 a.e) a.v a.s) (λlive=>jV C n live y a.s) (J4 tb (Nat.mul 2 (Nat.add (Nat.add a.p a.e) (Nat.mul 2 a.e))))) a.v,s:=andThen (Wp C n y a.s) a.s,p:=a.p,e:=Nat.mul 2 a.e,ks:=a.ks}
 | .seq _ y,true=>{c:=y,v:=a.v,s:=a.s,p:=Nat.add a.p a.e,e:=Nat.mul 2 a.e,ks:=a.ks}
 | .cond _ x _,false=>{c:=x,v:=a.v,s:=a.s,p:=a.p,e:=Nat.mul 2 a.e,ks:=a.ks}
 | .cond _ _ y,true=>{c:=y,v:=a.v,s:=a.s,p:=Nat.add a.p a.e,e:=Nat.mul 2 a.e,ks:=a.ks}
 | .block id x,false=>{c:=x,v:=yp id a.v,s:=yp id a.s,p:=a.p,e:=Nat.mul 2 a.e,ks:=a.ks}
 | .loop x,false=>{c:=x,v:=andThen (Zk a.ks) a.v,s:=andThen (Zk a.ks) a.s,p:=a.p,e:=Nat.mul 2 a.e,ks:=a.ks.tail}
 |_,_=>a
noncomputable def zbM(C:fk) (n:Nat) (tb:List (Nat×List Nat)) (bs:List Bool):Ul->Ul:=List.rec (motive:=λ_=>Ul->Ul) (λa=>a) (λb _ c a=>c (jC C n tb a b)) bs
def zbL(k:Nat):List Bool:=(Nat.rec (motive:=λ_=>Nat->List Bool) (λ_=>[]) (λ_ a p=>match Nat.ble p 1 with
 |true=>[]
 |false=>Nat.beq (Nat.mod p 2) 1::a (Nat.div p 2)) 400:Nat->List Bool) k
def QC(Q:V->Hp->Prop) (ρ:gf) (h:Hp) (l:List ResultVar):List V->Prop:=
 List.rec (motive:=λ_=>List V->Prop) (λb=>Q (yg b.reverse) h) (λr _ c b=>match r with
  | .tmp i=>c (ρ i::b)
  | .cell a ty=>oP ((Ut (.cell a ty)).f (.fn ρ []) h) λv=>c (v::b)) l
theorem JE{Q:V->Hp->Prop} {ρ:gf} {h:Hp}:∀{l:List ResultVar} {b:List V},QC Q ρ h l b->oP (yT (.fn ρ []) h l) λvs=>Q (yg (b.reverse++vs)) h
 | [],b,hh=>by
   grind[yg,yT,Yd,oP,QC]
 | .tmp i::l,b,hh=>by
   have c:QC Q ρ h l (ρ i::b):=hh;obtain⟨vs,d,e⟩:=j6.1 (JE c);refine ed (show yT (.fn ρ []) h (.tmp i::l)=some (ρ i::vs) from ?_) ?_
   ·show oB (some (ρ i)) _=_
    simp_all
   simp_all
 | .cell a ty::l,b,hh=>by
   have c:oP ((Ut (.cell a ty)).f (.fn ρ []) h) λv=>QC Q ρ h l (v::b):=hh;obtain⟨v,h0,c⟩:=j6.1 c;obtain⟨vs,d,e⟩:=j6.1 (JE c)
   simp_all[ed,yT,oB,Ut]
def Sq(l:List ResultVar) (Q:V->Hp->Prop):XQ
 | .exit _,_,_=>False
 |_,ρ,h=>QC Q ρ h l []
theorem OK{l:List ResultVar} {Q:V->Hp->Prop}:∀x ρ h,Sq l Q x ρ h->KM l Q x ρ h
 | .exit _,_,_,hh=>hh
 | .normal,_,_,hh=>by grind[JE,QC,KM,Yu,Sq]
 | .ret,_,_,hh=>by grind[JE,QC,KM,Yu,Sq]
noncomputable def VS(fn:Func)(ks:List (gf->Hp->Prop))(Q:V->Hp->Prop):Ul:={c:=Nk fn,v:=Sq fn.results.toList Q,s:=KM fn.results.toList Q,p:=0,e:=1,ks}
noncomputable def fD(C:fk)(fn:Func)(tb:List (Nat×List Nat))(k:Nat)(ks:List (gf->Hp->Prop))(Q:V->Hp->Prop):Ul:=zbM C fn.ntmps tb (zbL k) (VS fn ks Q)
noncomputable def WA(C:fk)(fn:Func)(tb:List (Nat×List Nat))(k:Nat)(ks:List (gf->Hp->Prop))(Q:V->Hp->Prop)(ρ:gf)(h:Hp):Prop:=Wp C fn.ntmps (fD C fn tb k ks Q).c (fD C fn tb k ks Q).s ρ h
noncomputable def VA(C:fk)(n:Nat)(tb:List (Nat×List Nat))(a:Ul)(ρ:gf)(h:Hp):Prop:=PJ C n tb a.c a.p a.e a.v a.s ρ h
def Ul.ok(a:Ul):Prop:=∀x ρ h,a.v x ρ h->a.s x ρ h
theorem Uo{C:fk} {n:Nat} {tb:List (Nat×List Nat)} {a:Ul} (c:a.ok) (b:Bool):(jC C n tb a b).ok:=by
 unfold jC;split
 ·refine zO (λρ h d=>?_) c
  cases hf:J4 tb (Nat.mul 2 (Nat.add (Nat.add a.p a.e) (Nat.mul 2 a.e)))with
  |none=>rw[hf]at d;exact um _ c d
  |some live=>rw[hf]at d;exact WV d
 ·exact c
 ·exact c
 ·exact c
 ·exact Ks c
 ·exact zO (by simp_all) c
 ·exact c
theorem RS{C:fk} {n:Nat} {tb:List (Nat×List Nat)}:∀{bs:List Bool} {a:Ul},a.ok->(zbM C n tb bs a).ok
 |[],_,ha=>ha
 |b::bs,_,ha=>RS (bs:=bs) (Uo ha b)
theorem Mp{C:fk}{fn:Func}{tb:List (Nat×List Nat)}{k:Nat}{ks:List (gf->Hp->Prop)}{Q:V->Hp->Prop}:(fD C fn tb k ks Q).ok:=RS OK
theorem WA.of{C:fk} {fn:Func} {tb:List (Nat×List Nat)} {k:Nat} {ks:List (gf->Hp->Prop)} {Q:V->Hp->Prop} {ρ:gf} {h:Hp} {P:Prop}
  (e:VA C fn.ntmps tb (fD C fn tb k ks Q) ρ h=P) (H:P):WA C fn tb k ks Q ρ h:=um _ Mp (e.mpr H)
def kJ(c:Code):Bool:=match c with
 | .loop _=>true
 |_=>false
inductive LA (C:fk) (fn:Func) (tb:List (Nat×List Nat)) (k:Nat) (ks:List (gf->Hp->Prop)) (Q:V->Hp->Prop) (K:gf->Hp->Prop) (ρ:gf) (h:Hp):Prop
 |mk (a:VA C fn.ntmps tb (jC C fn.ntmps tb {fD C fn tb k ks Q with ks:=[K]} false) ρ h)
theorem LA.of{C:fk} {fn:Func} {tb:List (Nat×List Nat)} {k:Nat} {ks:List (gf->Hp->Prop)} {Q:V->Hp->Prop} {K:gf->Hp->Prop} {ρ:gf} {h:Hp} {P:Prop}
  (e:VA C fn.ntmps tb (jC C fn.ntmps tb {fD C fn tb k ks Q with ks:=[K]} false) ρ h=P) (H:P):LA C fn tb k ks Q K ρ h:=⟨e.mpr H⟩
theorem WA.loop{C:fk} {fn:Func} {tb:List (Nat×List Nat)} {k:Nat} {ks:List (gf->Hp->Prop)} {Q:V->Hp->Prop} {ρ:gf} {h:Hp} (I:Nat->gf->Hp->Prop) {m:Nat}
  (f:kJ (fD C fn tb k ks Q).c=true) (hk:(fD C fn tb k ks Q).ks=[])
  (b:∀m ρ h,I m ρ h->LA C fn tb k ks Q (λi h'=>∃g,g<m/\I g i h') ρ h) (h0:I m ρ h):WA C fn tb k ks Q ρ h:=by
 unfold WA;have b:=λm ρ h hi=>(b m ρ h hi).1;have d:(fD C fn tb k ks Q).ok:=Mp;generalize fD C fn tb k ks Q=a at*;obtain⟨c,v,s,p,e,j⟩:=a;cases c <;> simp only[kJ]at f <;> try exact absurd f (by decide)
 rename_i c;refine Wp.za5 I (λm ρ h hi=>?_) h0;have:=b m ρ h hi;exact um c (zO (λ_ _ l=>l) d) this
theorem cP.vc{C:fk} (hs:C.start=fV) {f:Nat} {fn:Func} {tb:List (Nat×List Nat)} {args:List V} {h:Hp} {Q:V->Hp->Prop} {P:Prop} (b:P0.funcs[f]? =some fn) (c:fn.body=some (Nk fn))
  (hk:C.K f args h=none) (a:Nat.ble args.length fn.ntmps=true) (e:VA C fn.ntmps tb (VS fn [] Q) (Mm args) h=P) (H:P):cP C f args h Q:=
 cP.func hs b c hk (Jd a) (um _ OK (e.mpr H))
abbrev LP:=List V->Hp->Prop
def chV(ρ:gf):List Nat->List V->Prop->Prop
 |i::is,x::xs,P=>ρ i=x->chV ρ is xs P
 |_,_,P=>P
def kf(is:List Nat)(K:LP):gf->Hp->Prop:=λρ h=>K (is.map ρ) h
def JV(C:fk)(fn:Func)(tb:List (Nat×List Nat))(k:Nat)(is:List Nat)(ks:List (gf->Hp->Prop))(Q:fo):LP:=λl h=>∀ρ:gf,chV ρ is l (WA C fn tb k ks Q ρ h)
theorem Rn{ρ:gf}{P:Prop}:∀{is:List Nat}{l:List V},is.length=l.length->(is.map ρ=l->P)->chV ρ is l P
 |[],[],_,h=>h rfl
 |[],_::_,e,_=>by cases e
 |_::_,[],e,_=>by cases e
 |i::is,x::l,e,h=>λa=>Rn (is:=is) (l:=l) (by simp_all) (by simp_all)
def Yk:Nat->Type
 |0=>Hp->Prop
 |n+1=>V->Yk n
def Fl:(n:Nat)->Yk n->LP
 |0,f,[],h=>f h
 |n+1,f,x::l,h=>Fl n (f x) l h
 |_,_,_,_=>False
@[reducible] def Bx (I:Nat->LP) (k:Nat):LP:=λl h=>∃k',k' < k/\I k' l h
section
variable{C:fk}{fn:Func}{tb:List (Nat×List Nat)}{k m:Nat}{is:List Nat}{ks:List (gf->Hp->Prop)}{Q:fo}{h:Hp}{l:List V}
theorem JV.mk(n:Nat)(B:Yk n)(e:∀(ρ:gf)(h:Hp),VA C fn.ntmps tb (fD C fn tb k ks Q) ρ h=Fl n B (is.map ρ) h)(a:is.length=l.length)(H:Fl n B l h):JV C fn tb k is ks Q l h:=λρ=>Rn a λb=>by
 subst b;exact WA.of (e ρ h) H
theorem JV.loop(n:Nat)(I:Nat->LP)(B:LP->Yk n)(a:kJ (fD C fn tb k ks Q).c=true)(hk:(fD C fn tb k ks Q).ks=[])
  (e:∀(K:LP) (ρ:gf) (h:Hp),VA C fn.ntmps tb (jC C fn.ntmps tb {fD C fn tb k ks Q with ks:=[kf is K]} false) ρ h=Fl n (B K) (is.map ρ) h)
  (d:∀m l h,l.length=n->I m l h->Fl n (B (Bx I m)) l h) (f:is.length=n) (hlen:is.length=l.length) (h0:I m l h):JV C fn tb k is ks Q l h:=λρ=>Rn hlen λb=>by
 subst b;exact WA.loop (λm ρ h=>I m (is.map ρ) h) a hk (λm ρ h hi=>LA.of (e (Bx I m) ρ h) (by grind)) h0
abbrev dF(k:Nat)(x:V)(h:Hp)(K:V->Prop):Prop:=oP (fH k x) λa=>oP (ey a h) K
abbrev dN(k:Nat)(x:V)(h:Hp)(K:V->Prop):Prop:=oP (ij x) λa=>dF k a h K
abbrev dI(n:Nat)(x i:V)(k:Nat)(h:Hp)(K:V->Prop):Prop:=oP (gI n x i) λa=>dF k a h K
abbrev dX(n:Nat)(x i:V)(h:Hp)(K:V->Prop):Prop:=oP (gI n x i) λa=>oP (ey a h) K
abbrev dG(k:Nat)(x:V)(h:Hp)(K:V->Prop):Prop:=dF k x h λa=>oP (fy a) K
abbrev dJ(k:Nat)(x:V)(n:Nat)(i:V)(j:Nat)(h:Hp)(K:V->Prop):Prop:=dF k x h λa=>dI n a i j h K
abbrev dY(k:Nat)(x:V)(n:Nat)(i:V)(h:Hp)(K:V->Prop):Prop:=dF k x h λa=>dX n a i h K
abbrev bO(o:BinOp)(t:Nat)(a b:V)(A B:Prop):Prop:=oP (eo o t a b) λv=>bP v A B
abbrev bN(a:V)(A B:Prop):Prop:=oP (oD .not a) λv=>bP v A B
theorem oF{k l o:Nat}{h:Hp}{v:V}{K:V->Prop}(a:ey (.ptr l (o+k)) h=some v)(b:K v):dF k (.ptr l o) h K:=j6.2 ⟨_,fJ _ _ _,j6.2 ⟨_,a,b⟩⟩
theorem oN{k l o:Nat}{h:Hp}{v:V}{K:V->Prop}(a:ey (.ptr l (o+k)) h=some v)(b:K v):dN k (.ptr l o) h K:=j6.2 (by simp_all[fI,oF])
theorem cP.vd{C:fk}{f:Nat}{fn:Func}(tb:List (Nat×List Nat)){args:List V}{h:Hp}{Q:fo}{P:Prop}(hs:C.start=fV)(b:P0.funcs[f]? =some fn)(hk:C.K f args h=none)(H:P)
  (c:fn.body=some (Nk fn):=by kernel_rfl) (a:Nat.ble args.length fn.ntmps=true:=by kernel_rfl) (e:VA C fn.ntmps tb (VS fn [] Q) (Mm args) h=P:=by kernel_rfl):cP C f args h Q:=cP.vc hs b c hk a e H
abbrev S1(I:Nat->LP)(B:LP->fo):Prop:=∀(k:Nat) (a:V) (h:Hp),I k [a] h->B (Bx I k) a h
abbrev R1(B:fo)(J:LP):Prop:=∀{a:V} {h:Hp},B a h->J [a] h
theorem JV.r1(B:fo)(e:∀(ρ:gf)(h:Hp),VA C fn.ntmps tb (fD C fn tb k ks Q) ρ h=Fl 1 B (is.map ρ) h:=by intros;kernel_rfl)(a:is.length=1:=by rfl):R1 B (JV C fn tb k is ks Q):=λH=>JV.mk 1 B e a H
abbrev S2(I:Nat->LP)(B:LP->QP2):Prop:=∀(k:Nat) (a b:V) (h:Hp),I k [a,b] h->B (Bx I k) a b h
abbrev R2(B:QP2)(J:LP):Prop:=∀{a b:V} {h:Hp},B a b h->J [a,b] h
theorem JV.l2(I:Nat->LP)(B:LP->QP2)(s:S2 I B)(i:I m l h)(g:l.length=2)(b:kJ (fD C fn tb k ks Q).c=true:=by kernel_rfl)(hk:(fD C fn tb k ks Q).ks=[]:=by kernel_rfl)
  (e:∀(K:LP) (ρ:gf) (h:Hp),VA C fn.ntmps tb (jC C fn.ntmps tb {fD C fn tb k ks Q with ks:=[kf is K]} false) ρ h=Fl 2 (B K) (is.map ρ) h:=by intros;kernel_rfl) (a:is.length=2:=by rfl):JV C fn tb k is ks Q l h:=
 JV.loop 2 I B b hk e (λk l h g i=>match l,g,i with|[d,f],_,i=>s k d f h i) a (a.trans g.symm) i
theorem JV.r2(B:QP2)(e:∀(ρ:gf)(h:Hp),VA C fn.ntmps tb (fD C fn tb k ks Q) ρ h=Fl 2 B (is.map ρ) h:=by intros;kernel_rfl)(a:is.length=2:=by rfl):R2 B (JV C fn tb k is ks Q):=λH=>JV.mk 2 B e a H
abbrev S3(I:Nat->LP)(B:LP->RK):Prop:=∀(k:Nat) (a b c:V) (h:Hp),I k [a,b,c] h->B (Bx I k) a b c h
abbrev R3(B:RK)(J:LP):Prop:=∀{a b c:V} {h:Hp},B a b c h->J [a,b,c] h
theorem JV.l3(I:Nat->LP)(B:LP->RK)(s:S3 I B)(i:I m l h)(g:l.length=3)(b:kJ (fD C fn tb k ks Q).c=true:=by kernel_rfl)(hk:(fD C fn tb k ks Q).ks=[]:=by kernel_rfl)
  (e:∀(K:LP) (ρ:gf) (h:Hp),VA C fn.ntmps tb (jC C fn.ntmps tb {fD C fn tb k ks Q with ks:=[kf is K]} false) ρ h=Fl 3 (B K) (is.map ρ) h:=by intros;kernel_rfl) (a:is.length=3:=by rfl):JV C fn tb k is ks Q l h:=
 JV.loop 3 I B b hk e (λk l h g i=>match l,g,i with|[d,f,j],_,i=>s k d f j h i) a (a.trans g.symm) i
theorem JV.r3(B:RK)(e:∀(ρ:gf)(h:Hp),VA C fn.ntmps tb (fD C fn tb k ks Q) ρ h=Fl 3 B (is.map ρ) h:=by intros;kernel_rfl)(a:is.length=3:=by rfl):R3 B (JV C fn tb k is ks Q):=λH=>JV.mk 3 B e a H
abbrev S4(I:Nat->LP)(B:LP->JA):Prop:=∀(k:Nat) (a b c d:V) (h:Hp),I k [a,b,c,d] h->B (Bx I k) a b c d h
abbrev R4(B:JA)(J:LP):Prop:=∀{a b c d:V} {h:Hp},B a b c d h->J [a,b,c,d] h
theorem JV.l4(I:Nat->LP)(B:LP->JA)(s:S4 I B)(i:I m l h)(g:l.length=4)(b:kJ (fD C fn tb k ks Q).c=true:=by kernel_rfl)(hk:(fD C fn tb k ks Q).ks=[]:=by kernel_rfl)
  (e:∀(K:LP) (ρ:gf) (h:Hp),VA C fn.ntmps tb (jC C fn.ntmps tb {fD C fn tb k ks Q with ks:=[kf is K]} false) ρ h=Fl 4 (B K) (is.map ρ) h:=by intros;kernel_rfl) (a:is.length=4:=by rfl):JV C fn tb k is ks Q l h:=
 JV.loop 4 I B b hk e (λk l h g i=>match l,g,i with|[d,f,j,n],_,i=>s k d f j n h i) a (a.trans g.symm) i
abbrev S5(I:Nat->LP)(B:LP->HB):Prop:=∀(k:Nat) (a b c d e:V) (h:Hp),I k [a,b,c,d,e] h->B (Bx I k) a b c d e h
abbrev R5(B:HB)(J:LP):Prop:=∀{a b c d e:V} {h:Hp},B a b c d e h->J [a,b,c,d,e] h
theorem JV.l5(I:Nat->LP)(B:LP->HB)(s:S5 I B)(i:I m l h)(g:l.length=5)(b:kJ (fD C fn tb k ks Q).c=true:=by kernel_rfl)(hk:(fD C fn tb k ks Q).ks=[]:=by kernel_rfl)
  (e:∀(K:LP) (ρ:gf) (h:Hp),VA C fn.ntmps tb (jC C fn.ntmps tb {fD C fn tb k ks Q with ks:=[kf is K]} false) ρ h=Fl 5 (B K) (is.map ρ) h:=by intros;kernel_rfl) (a:is.length=5:=by rfl):JV C fn tb k is ks Q l h:=
 JV.loop 5 I B b hk e (λk l h g i=>match l,g,i with|[d,f,j,n,o],_,i=>s k d f j n o h i) a (a.trans g.symm) i
theorem JV.r5(B:HB)(e:∀(ρ:gf)(h:Hp),VA C fn.ntmps tb (fD C fn tb k ks Q) ρ h=Fl 5 B (is.map ρ) h:=by intros;kernel_rfl)(a:is.length=5:=by rfl):R5 B (JV C fn tb k is ks Q):=λH=>JV.mk 5 B e a H
abbrev S6(I:Nat->LP)(B:LP->NO):Prop:=∀(k:Nat) (a b c d e f:V) (h:Hp),I k [a,b,c,d,e,f] h->B (Bx I k) a b c d e f h
abbrev R6(B:NO)(J:LP):Prop:=∀{a b c d e f:V} {h:Hp},B a b c d e f h->J [a,b,c,d,e,f] h
theorem JV.l6(I:Nat->LP)(B:LP->NO)(s:S6 I B)(i:I m l h)(g:l.length=6)(b:kJ (fD C fn tb k ks Q).c=true:=by kernel_rfl)(hk:(fD C fn tb k ks Q).ks=[]:=by kernel_rfl)
  (e:∀(K:LP) (ρ:gf) (h:Hp),VA C fn.ntmps tb (jC C fn.ntmps tb {fD C fn tb k ks Q with ks:=[kf is K]} false) ρ h=Fl 6 (B K) (is.map ρ) h:=by intros;kernel_rfl) (a:is.length=6:=by rfl):JV C fn tb k is ks Q l h:=
 JV.loop 6 I B b hk e (λk l h g i=>match l,g,i with|[d,f,j,n,o,p],_,i=>s k d f j n o p h i) a (a.trans g.symm) i
theorem JV.r6(B:NO)(e:∀(ρ:gf)(h:Hp),VA C fn.ntmps tb (fD C fn tb k ks Q) ρ h=Fl 6 B (is.map ρ) h:=by intros;kernel_rfl)(a:is.length=6:=by rfl):R6 B (JV C fn tb k is ks Q):=λH=>JV.mk 6 B e a H
abbrev S7(I:Nat->LP)(B:LP->Og):Prop:=∀(k:Nat) (a b c d e f g:V) (h:Hp),I k [a,b,c,d,e,f,g] h->B (Bx I k) a b c d e f g h
abbrev R7(B:Og)(J:LP):Prop:=∀{a b c d e f g:V} {h:Hp},B a b c d e f g h->J [a,b,c,d,e,f,g] h
theorem JV.l7(I:Nat->LP)(B:LP->Og)(s:S7 I B)(i:I m l h)(g:l.length=7)(b:kJ (fD C fn tb k ks Q).c=true:=by kernel_rfl)(hk:(fD C fn tb k ks Q).ks=[]:=by kernel_rfl)
  (e:∀(K:LP) (ρ:gf) (h:Hp),VA C fn.ntmps tb (jC C fn.ntmps tb {fD C fn tb k ks Q with ks:=[kf is K]} false) ρ h=Fl 7 (B K) (is.map ρ) h:=by intros;kernel_rfl) (a:is.length=7:=by rfl):JV C fn tb k is ks Q l h:=
 JV.loop 7 I B b hk e (λk l h g i=>match l,g,i with|[d,f,j,n,o,p,q],_,i=>s k d f j n o p q h i) a (a.trans g.symm) i
theorem JV.r7(B:Og)(e:∀(ρ:gf)(h:Hp),VA C fn.ntmps tb (fD C fn tb k ks Q) ρ h=Fl 7 B (is.map ρ) h:=by intros;kernel_rfl)(a:is.length=7:=by rfl):R7 B (JV C fn tb k is ks Q):=λH=>JV.mk 7 B e a H
abbrev S8(I:Nat->LP)(B:LP->Ju):Prop:=∀(k:Nat) (a b c d e f g i:V) (h:Hp),I k [a,b,c,d,e,f,g,i] h->B (Bx I k) a b c d e f g i h
abbrev R8(B:Ju)(J:LP):Prop:=∀{a b c d e f g i:V} {h:Hp},B a b c d e f g i h->J [a,b,c,d,e,f,g,i] h
theorem JV.l8(I:Nat->LP)(B:LP->Ju)(s:S8 I B)(i:I m l h)(g:l.length=8)(b:kJ (fD C fn tb k ks Q).c=true:=by kernel_rfl)(hk:(fD C fn tb k ks Q).ks=[]:=by kernel_rfl)
  (e:∀(K:LP) (ρ:gf) (h:Hp),VA C fn.ntmps tb (jC C fn.ntmps tb {fD C fn tb k ks Q with ks:=[kf is K]} false) ρ h=Fl 8 (B K) (is.map ρ) h:=by intros;kernel_rfl) (a:is.length=8:=by rfl):JV C fn tb k is ks Q l h:=
 JV.loop 8 I B b hk e (λk l h g i=>match l,g,i with|[d,f,j,n,o,p,q,r],_,i=>s k d f j n o p q r h i) a (a.trans g.symm) i
theorem JV.r8(B:Ju)(e:∀(ρ:gf)(h:Hp),VA C fn.ntmps tb (fD C fn tb k ks Q) ρ h=Fl 8 B (is.map ρ) h:=by intros;kernel_rfl)(a:is.length=8:=by rfl):R8 B (JV C fn tb k is ks Q):=λH=>JV.mk 8 B e a H
abbrev S9(I:Nat->LP)(B:LP->QP9):Prop:=∀(k:Nat) (a b c d e f g i j:V) (h:Hp),I k [a,b,c,d,e,f,g,i,j] h->B (Bx I k) a b c d e f g i j h
abbrev R9(B:QP9)(J:LP):Prop:=∀{a b c d e f g i j:V} {h:Hp},B a b c d e f g i j h->J [a,b,c,d,e,f,g,i,j] h
theorem JV.l9(I:Nat->LP)(B:LP->QP9)(s:S9 I B)(i:I m l h)(g:l.length=9)(b:kJ (fD C fn tb k ks Q).c=true:=by kernel_rfl)(hk:(fD C fn tb k ks Q).ks=[]:=by kernel_rfl)
  (e:∀(K:LP) (ρ:gf) (h:Hp),VA C fn.ntmps tb (jC C fn.ntmps tb {fD C fn tb k ks Q with ks:=[kf is K]} false) ρ h=Fl 9 (B K) (is.map ρ) h:=by intros;kernel_rfl) (a:is.length=9:=by rfl):JV C fn tb k is ks Q l h:=
 JV.loop 9 I B b hk e (λk l h g i=>match l,g,i with|[d,f,j,n,o,p,q,r,t],_,i=>s k d f j n o p q r t h i) a (a.trans g.symm) i
theorem JV.r9(B:QP9)(e:∀(ρ:gf)(h:Hp),VA C fn.ntmps tb (fD C fn tb k ks Q) ρ h=Fl 9 B (is.map ρ) h:=by intros;kernel_rfl)(a:is.length=9:=by rfl):R9 B (JV C fn tb k is ks Q):=λH=>JV.mk 9 B e a H
abbrev S10(I:Nat->LP)(B:LP->IG):Prop:=∀(k:Nat) (b c d e f g i j l a:V) (h:Hp),I k [b,c,d,e,f,g,i,j,l,a] h->B (Bx I k) b c d e f g i j l a h
abbrev CB(B:IG)(J:LP):Prop:=∀{b c d e f g i j k a:V} {h:Hp},B b c d e f g i j k a h->J [b,c,d,e,f,g,i,j,k,a] h
theorem JV.l10(I:Nat->LP)(B:LP->IG)(s:S10 I B)(i:I m l h)(g:l.length=10)(d:kJ (fD C fn tb k ks Q).c=true:=by kernel_rfl)(hk:(fD C fn tb k ks Q).ks=[]:=by kernel_rfl)
  (e:∀(K:LP) (ρ:gf) (h:Hp),VA C fn.ntmps tb (jC C fn.ntmps tb {fD C fn tb k ks Q with ks:=[kf is K]} false) ρ h=Fl 10 (B K) (is.map ρ) h:=by intros;kernel_rfl) (b:is.length=10:=by rfl):JV C fn tb k is ks Q l h:=
 JV.loop 10 I B d hk e (λk l h g i=>match l,g,i with|[f,j,n,o,p,q,r,t,u,a],_,i=>s k f j n o p q r t u a h i) b (b.trans g.symm) i
theorem JV.r10(B:IG)(e:∀(ρ:gf)(h:Hp),VA C fn.ntmps tb (fD C fn tb k ks Q) ρ h=Fl 10 B (is.map ρ) h:=by intros;kernel_rfl)(a:is.length=10:=by rfl):CB B (JV C fn tb k is ks Q):=λH=>JV.mk 10 B e a H
abbrev S11(I:Nat->LP)(B:LP->CK):Prop:=∀(k:Nat) (c d e f g i j l m a b:V) (h:Hp),I k [c,d,e,f,g,i,j,l,m,a,b] h->B (Bx I k) c d e f g i j l m a b h
abbrev R11(B:CK)(J:LP):Prop:=∀{c d e f g i j k l a b:V} {h:Hp},B c d e f g i j k l a b h->J [c,d,e,f,g,i,j,k,l,a,b] h
theorem JV.l11(I:Nat->LP)(B:LP->CK)(s:S11 I B)(i:I m l h)(g:l.length=11)(f:kJ (fD C fn tb k ks Q).c=true:=by kernel_rfl)(hk:(fD C fn tb k ks Q).ks=[]:=by kernel_rfl)
  (e:∀(K:LP) (ρ:gf) (h:Hp),VA C fn.ntmps tb (jC C fn.ntmps tb {fD C fn tb k ks Q with ks:=[kf is K]} false) ρ h=Fl 11 (B K) (is.map ρ) h:=by intros;kernel_rfl) (d:is.length=11:=by rfl):JV C fn tb k is ks Q l h:=
 JV.loop 11 I B f hk e (λk l h g i=>match l,g,i with|[j,n,o,p,q,r,t,u,v,a,b],_,i=>s k j n o p q r t u v a b h i) d (d.trans g.symm) i
theorem JV.r11(B:CK)(e:∀(ρ:gf)(h:Hp),VA C fn.ntmps tb (fD C fn tb k ks Q) ρ h=Fl 11 B (is.map ρ) h:=by intros;kernel_rfl)(a:is.length=11:=by rfl):R11 B (JV C fn tb k is ks Q):=λH=>JV.mk 11 B e a H
abbrev S12(I:Nat->LP)(B:LP->Yf):Prop:=∀(k:Nat) (d e f g i j l m n a b c:V) (h:Hp),I k [d,e,f,g,i,j,l,m,n,a,b,c] h->B (Bx I k) d e f g i j l m n a b c h
abbrev ZH(B:Yf)(J:LP):Prop:=∀{d e f g i j k l m a b c:V} {h:Hp},B d e f g i j k l m a b c h->J [d,e,f,g,i,j,k,l,m,a,b,c] h
theorem JV.l12(I:Nat->LP)(B:LP->Yf)(s:S12 I B)(i:I m l h)(g:l.length=12)(j:kJ (fD C fn tb k ks Q).c=true:=by kernel_rfl)(hk:(fD C fn tb k ks Q).ks=[]:=by kernel_rfl)
  (e:∀(K:LP) (ρ:gf) (h:Hp),VA C fn.ntmps tb (jC C fn.ntmps tb {fD C fn tb k ks Q with ks:=[kf is K]} false) ρ h=Fl 12 (B K) (is.map ρ) h:=by intros;kernel_rfl) (f:is.length=12:=by rfl):JV C fn tb k is ks Q l h:=
 JV.loop 12 I B j hk e (λk l h g i=>match l,g,i with|[n,o,p,q,r,t,u,v,w,a,b,d],_,i=>s k n o p q r t u v w a b d h i) f (f.trans g.symm) i
theorem JV.r12(B:Yf)(e:∀(ρ:gf)(h:Hp),VA C fn.ntmps tb (fD C fn tb k ks Q) ρ h=Fl 12 B (is.map ρ) h:=by intros;kernel_rfl)(a:is.length=12:=by rfl):ZH B (JV C fn tb k is ks Q):=λH=>JV.mk 12 B e a H
abbrev S13(I:Nat->LP)(B:LP->FO):Prop:=∀(k:Nat) (e f g i j l m n o a b c d:V) (h:Hp),I k [e,f,g,i,j,l,m,n,o,a,b,c,d] h->B (Bx I k) e f g i j l m n o a b c d h
abbrev R13(B:FO)(J:LP):Prop:=∀{e f g i j k l m n a b c d:V} {h:Hp},B e f g i j k l m n a b c d h->J [e,f,g,i,j,k,l,m,n,a,b,c,d] h
theorem JV.l13(I:Nat->LP)(B:LP->FO)(s:S13 I B)(i:I m l h)(g:l.length=13)(n:kJ (fD C fn tb k ks Q).c=true:=by kernel_rfl)(hk:(fD C fn tb k ks Q).ks=[]:=by kernel_rfl)
  (e:∀(K:LP) (ρ:gf) (h:Hp),VA C fn.ntmps tb (jC C fn.ntmps tb {fD C fn tb k ks Q with ks:=[kf is K]} false) ρ h=Fl 13 (B K) (is.map ρ) h:=by intros;kernel_rfl) (j:is.length=13:=by rfl):JV C fn tb k is ks Q l h:=
 JV.loop 13 I B n hk e (λk l h g i=>match l,g,i with|[o,p,q,r,t,u,v,w,x,a,b,d,f],_,i=>s k o p q r t u v w x a b d f h i) j (j.trans g.symm) i
theorem JV.r13(B:FO)(e:∀(ρ:gf)(h:Hp),VA C fn.ntmps tb (fD C fn tb k ks Q) ρ h=Fl 13 B (is.map ρ) h:=by intros;kernel_rfl)(a:is.length=13:=by rfl):R13 B (JV C fn tb k is ks Q):=λH=>JV.mk 13 B e a H
abbrev S14(I:Nat->LP)(B:LP->Xx):Prop:=∀(k:Nat) (f g i j l m n o p a b c d e:V) (h:Hp),I k [f,g,i,j,l,m,n,o,p,a,b,c,d,e] h->B (Bx I k) f g i j l m n o p a b c d e h
abbrev R14(B:Xx)(J:LP):Prop:=∀{f g i j k l m n o a b c d e:V} {h:Hp},B f g i j k l m n o a b c d e h->J [f,g,i,j,k,l,m,n,o,a,b,c,d,e] h
theorem JV.l14(I:Nat->LP)(B:LP->Xx)(s:S14 I B)(i:I m l h)(g:l.length=14)(o:kJ (fD C fn tb k ks Q).c=true:=by kernel_rfl)(hk:(fD C fn tb k ks Q).ks=[]:=by kernel_rfl)
  (e:∀(K:LP) (ρ:gf) (h:Hp),VA C fn.ntmps tb (jC C fn.ntmps tb {fD C fn tb k ks Q with ks:=[kf is K]} false) ρ h=Fl 14 (B K) (is.map ρ) h:=by intros;kernel_rfl) (n:is.length=14:=by rfl):JV C fn tb k is ks Q l h:=
 JV.loop 14 I B o hk e (λk l h g i=>match l,g,i with|[p,q,r,t,u,v,w,x,y,a,b,d,f,j],_,i=>s k p q r t u v w x y a b d f j h i) n (n.trans g.symm) i
theorem JV.r14(B:Xx)(e:∀(ρ:gf)(h:Hp),VA C fn.ntmps tb (fD C fn tb k ks Q) ρ h=Fl 14 B (is.map ρ) h:=by intros;kernel_rfl)(a:is.length=14:=by rfl):R14 B (JV C fn tb k is ks Q):=λH=>JV.mk 14 B e a H
abbrev R15(B:zcs)(J:LP):Prop:=∀{g i j k l m n o p a b c d e f:V} {h:Hp},B g i j k l m n o p a b c d e f h->J [g,i,j,k,l,m,n,o,p,a,b,c,d,e,f] h
abbrev R17(B:zcE)(J:LP):Prop:=∀{j k l m n o p q r a b c d e f g i:V} {h:Hp},B j k l m n o p q r a b c d e f g i h->J [j,k,l,m,n,o,p,q,r,a,b,c,d,e,f,g,i] h
abbrev S18(I:Nat->LP)(B:LP->Z6):Prop:=∀(k:Nat) (l m n o p q r s t a b c d e f g i j:V) (h:Hp),I k [l,m,n,o,p,q,r,s,t,a,b,c,d,e,f,g,i,j] h->B (Bx I k) l m n o p q r s t a b c d e f g i j h
abbrev R18(B:Z6)(J:LP):Prop:=∀{k l m n o p q r s a b c d e f g i j:V} {h:Hp},B k l m n o p q r s a b c d e f g i j h->J [k,l,m,n,o,p,q,r,s,a,b,c,d,e,f,g,i,j] h
theorem JV.l18(I:Nat->LP)(B:LP->Z6)(s:S18 I B)(i:I m l h)(g:l.length=18)(t:kJ (fD C fn tb k ks Q).c=true:=by kernel_rfl)(hk:(fD C fn tb k ks Q).ks=[]:=by kernel_rfl)
  (e:∀(K:LP) (ρ:gf) (h:Hp),VA C fn.ntmps tb (jC C fn.ntmps tb {fD C fn tb k ks Q with ks:=[kf is K]} false) ρ h=Fl 18 (B K) (is.map ρ) h:=by intros;kernel_rfl) (r:is.length=18:=by rfl):JV C fn tb k is ks Q l h:=
 JV.loop 18 I B t hk e (λk l h g i=>match l,g,i with|[u,v,w,x,y,z,A,D,E,a,b,d,f,j,n,o,p,q],_,i=>s k u v w x y z A D E a b d f j n o p q h i) r (r.trans g.symm) i
abbrev nZ:V:= .int .i64 0
abbrev nO:V:= .int .i64 1
abbrev nS:V:= .ee
abbrev bT:V:= .bool true
abbrev bF:V:= .bool false
abbrev zC(T:Nat)(l:List V):Option (O×(Nat->V)):=some (.cells T 1 true false l,λl=> .ptr l 0)
abbrev P2(I:Nat->QP2)(B:(QP2)->QP2):Prop:=∀(k:Nat) (a b:V) (h:Hp),I k a b h->B (λa b h=>∃k',k' < k/\I k' a b h) a b h
abbrev P3(I:Nat->RK)(B:(RK)->RK):Prop:=∀(k:Nat) (a b c:V) (h:Hp),I k a b c h->B (λa b c h=>∃k',k' < k/\I k' a b c h) a b c h
theorem WA.l3{a b d:Nat}{f i j:V}(I:Nat->RK)(B:(RK)->RK)(s:P3 I B)(g:I m f i j h)(l:kJ (fD C fn tb k ks Q).c=true:=by kernel_rfl)(hk:(fD C fn tb k ks Q).ks=[]:=by kernel_rfl)
  (e:∀(K:RK) (ρ:gf) (h:Hp),VA C fn.ntmps tb (jC C fn.ntmps tb {fD C fn tb k ks Q with ks:=[λρ h=>K (ρ a) (ρ b) (ρ d) h]} false) ρ h=B K (ρ a) (ρ b) (ρ d) h:=by intros;kernel_rfl):∀ρ:gf,ρ a=f->ρ b=i->ρ d=j->WA C fn tb k ks Q ρ h:=by
 rintro ρ rfl rfl rfl;exact WA.loop (λk ρ h=>I k (ρ a) (ρ b) (ρ d) h) l hk (λk ρ h hi=>LA.of (by grind) (s k (ρ a) (ρ b) (ρ d) h hi)) g
abbrev P4(I:Nat->JA)(B:(JA)->JA):Prop:=∀(k:Nat) (a b c d:V) (h:Hp),I k a b c d h->B (λa b c d h=>∃k',k' < k/\I k' a b c d h) a b c d h
theorem WA.l4{a b d f:Nat}{i j l n:V}(I:Nat->JA)(B:(JA)->JA)(s:P4 I B)(g:I m i j l n h)(o:kJ (fD C fn tb k ks Q).c=true:=by kernel_rfl)(hk:(fD C fn tb k ks Q).ks=[]:=by kernel_rfl)
  (e:∀(K:JA) (ρ:gf) (h:Hp),VA C fn.ntmps tb (jC C fn.ntmps tb {fD C fn tb k ks Q with ks:=[λρ h=>K (ρ a) (ρ b) (ρ d) (ρ f) h]} false) ρ h=B K (ρ a) (ρ b) (ρ d) (ρ f) h:=by intros;kernel_rfl):∀ρ:gf,ρ a=i->ρ b=j->ρ d=l->ρ f=n->WA C fn tb k ks Q ρ h:=by
 rintro ρ rfl rfl rfl rfl;exact WA.loop (λk ρ h=>I k (ρ a) (ρ b) (ρ d) (ρ f) h) o hk (λk ρ h hi=>LA.of (by grind) (s k (ρ a) (ρ b) (ρ d) (ρ f) h hi)) g
abbrev P5(I:Nat->HB)(B:(HB)->HB):Prop:=∀(k:Nat) (a b c d e:V) (h:Hp),I k a b c d e h->B (λa b c d e h=>∃k',k' < k/\I k' a b c d e h) a b c d e h
theorem WA.l5{a b d f i5:Nat}{i j l n o:V}(I:Nat->HB)(B:(HB)->HB)(s:P5 I B)(g:I m i j l n o h)(p:kJ (fD C fn tb k ks Q).c=true:=by kernel_rfl)(hk:(fD C fn tb k ks Q).ks=[]:=by kernel_rfl)
  (e:∀(K:HB) (ρ:gf) (h:Hp),VA C fn.ntmps tb (jC C fn.ntmps tb {fD C fn tb k ks Q with ks:=[λρ h=>K (ρ a) (ρ b) (ρ d) (ρ f) (ρ i5) h]} false) ρ h=B K (ρ a) (ρ b) (ρ d) (ρ f) (ρ i5) h:=by intros;kernel_rfl):∀ρ:gf,ρ a=i->ρ b=j->ρ d=l->ρ f=n->ρ i5=o->WA C fn tb k ks Q ρ h:=by
 rintro ρ rfl rfl rfl rfl rfl;exact WA.loop (λk ρ h=>I k (ρ a) (ρ b) (ρ d) (ρ f) (ρ i5) h) p hk (λk ρ h hi=>LA.of (by grind) (s k (ρ a) (ρ b) (ρ d) (ρ f) (ρ i5) h hi)) g
abbrev P6(I:Nat->NO)(B:(NO)->NO):Prop:=∀(k:Nat) (a b c d e f:V) (h:Hp),I k a b c d e f h->B (λa b c d e f h=>∃k',k' < k/\I k' a b c d e f h) a b c d e f h
theorem WA.l6{a b d f i5 i6:Nat}{i j l n o p:V}(I:Nat->NO)(B:(NO)->NO)(s:P6 I B)(g:I m i j l n o p h)(q:kJ (fD C fn tb k ks Q).c=true:=by kernel_rfl)(hk:(fD C fn tb k ks Q).ks=[]:=by kernel_rfl)
  (e:∀(K:NO) (ρ:gf) (h:Hp),VA C fn.ntmps tb (jC C fn.ntmps tb {fD C fn tb k ks Q with ks:=[λρ h=>K (ρ a) (ρ b) (ρ d) (ρ f) (ρ i5) (ρ i6) h]} false) ρ h=B K (ρ a) (ρ b) (ρ d) (ρ f) (ρ i5) (ρ i6) h:=by intros;kernel_rfl):∀ρ:gf,ρ a=i->ρ b=j->ρ d=l->ρ f=n->ρ i5=o->ρ i6=p->WA C fn tb k ks Q ρ h:=by
 rintro ρ rfl rfl rfl rfl rfl rfl;exact WA.loop (λk ρ h=>I k (ρ a) (ρ b) (ρ d) (ρ f) (ρ i5) (ρ i6) h) q hk (λk ρ h hi=>LA.of (by grind) (s k (ρ a) (ρ b) (ρ d) (ρ f) (ρ i5) (ρ i6) h hi)) g
abbrev P7(I:Nat->Og)(B:(Og)->Og):Prop:=∀(k:Nat) (a b c d e f g:V) (h:Hp),I k a b c d e f g h->B (λa b c d e f g h=>∃k',k' < k/\I k' a b c d e f g h) a b c d e f g h
theorem WA.l7{a b d f i5 i6 i:Nat}{j l n o p q r:V}(I:Nat->Og)(B:(Og)->Og)(s:P7 I B)(g:I m j l n o p q r h)(t:kJ (fD C fn tb k ks Q).c=true:=by kernel_rfl)(hk:(fD C fn tb k ks Q).ks=[]:=by kernel_rfl)
  (e:∀(K:Og) (ρ:gf) (h:Hp),VA C fn.ntmps tb (jC C fn.ntmps tb {fD C fn tb k ks Q with ks:=[λρ h=>K (ρ a) (ρ b) (ρ d) (ρ f) (ρ i5) (ρ i6) (ρ i) h]} false) ρ h=B K (ρ a) (ρ b) (ρ d) (ρ f) (ρ i5) (ρ i6) (ρ i) h:=by intros;kernel_rfl):∀ρ:gf,ρ a=j->ρ b=l->ρ d=n->ρ f=o->ρ i5=p->ρ i6=q->ρ i=r->WA C fn tb k ks Q ρ h:=by
 rintro ρ rfl rfl rfl rfl rfl rfl rfl;exact WA.loop (λk ρ h=>I k (ρ a) (ρ b) (ρ d) (ρ f) (ρ i5) (ρ i6) (ρ i) h) t hk (λk ρ h hi=>LA.of (by grind) (s k (ρ a) (ρ b) (ρ d) (ρ f) (ρ i5) (ρ i6) (ρ i) h hi)) g
abbrev P8(I:Nat->Ju)(B:(Ju)->Ju):Prop:=∀(k:Nat) (a b c d e f g i:V) (h:Hp),I k a b c d e f g i h->B (λa b c d e f g i h=>∃k',k' < k/\I k' a b c d e f g i h) a b c d e f g i h
theorem WA.l8{a b d f i5 i6 i j:Nat}{l n o p q r t u:V}(I:Nat->Ju)(B:(Ju)->Ju)(s:P8 I B)(g:I m l n o p q r t u h)(v:kJ (fD C fn tb k ks Q).c=true:=by kernel_rfl)(hk:(fD C fn tb k ks Q).ks=[]:=by kernel_rfl)
  (e:∀(K:Ju) (ρ:gf) (h:Hp),VA C fn.ntmps tb (jC C fn.ntmps tb {fD C fn tb k ks Q with ks:=[λρ h=>K (ρ a) (ρ b) (ρ d) (ρ f) (ρ i5) (ρ i6) (ρ i) (ρ j) h]} false) ρ h=B K (ρ a) (ρ b) (ρ d) (ρ f) (ρ i5) (ρ i6) (ρ i) (ρ j) h:=by intros;kernel_rfl):∀ρ:gf,ρ a=l->ρ b=n->ρ d=o->ρ f=p->ρ i5=q->ρ i6=r->ρ i=t->ρ j=u->WA C fn tb k ks Q ρ h:=by
 rintro ρ rfl rfl rfl rfl rfl rfl rfl rfl;exact WA.loop (λk ρ h=>I k (ρ a) (ρ b) (ρ d) (ρ f) (ρ i5) (ρ i6) (ρ i) (ρ j) h) v hk (λk ρ h hi=>LA.of (by grind) (s k (ρ a) (ρ b) (ρ d) (ρ f) (ρ i5) (ρ i6) (ρ i) (ρ j) h hi)) g
abbrev P10(I:Nat->IG)(B:(IG)->IG):Prop:=∀(k:Nat) (b c d e f g i j l a:V) (h:Hp),I k b c d e f g i j l a h->B (λb c d e f g i j l a h=>∃k',k' < k/\I k' b c d e f g i j l a h) b c d e f g i j l a h
theorem WA.l10{b d f i i5 i6 j l n a:Nat}{p q r t u v w x y o:V}(I:Nat->IG)(B:(IG)->IG)(s:P10 I B)(g:I m p q r t u v w x y o h)(z:kJ (fD C fn tb k ks Q).c=true:=by kernel_rfl)(hk:(fD C fn tb k ks Q).ks=[]:=by kernel_rfl)
  (e:∀(K:IG) (ρ:gf) (h:Hp),VA C fn.ntmps tb (jC C fn.ntmps tb {fD C fn tb k ks Q with ks:=[λρ h=>K (ρ b) (ρ d) (ρ f) (ρ i) (ρ i5) (ρ i6) (ρ j) (ρ l) (ρ n) (ρ a) h]} false) ρ h=B K (ρ b) (ρ d) (ρ f) (ρ i) (ρ i5) (ρ i6) (ρ j) (ρ l) (ρ n) (ρ a) h:=by intros;kernel_rfl):∀ρ:gf,ρ b=p->ρ d=q->ρ f=r->ρ i=t->ρ i5=u->ρ i6=v->ρ j=w->ρ l=x->ρ n=y->ρ a=o->WA C fn tb k ks Q ρ h:=by
 rintro ρ rfl rfl rfl rfl rfl rfl rfl rfl rfl rfl;exact WA.loop (λk ρ h=>I k (ρ b) (ρ d) (ρ f) (ρ i) (ρ i5) (ρ i6) (ρ j) (ρ l) (ρ n) (ρ a) h) z hk (λk ρ h hi=>LA.of (by grind) (s k (ρ b) (ρ d) (ρ f) (ρ i) (ρ i5) (ρ i6) (ρ j) (ρ l) (ρ n) (ρ a) h hi)) g
abbrev P11(I:Nat->CK)(B:(CK)->CK):Prop:=∀(k:Nat) (c d e f g i j l m a b:V) (h:Hp),I k c d e f g i j l m a b h->B (λc d e f g i j l m a b h=>∃k',k' < k/\I k' c d e f g i j l m a b h) c d e f g i j l m a b h
theorem WA.l11{d f i j i5 i6 l n o a b:Nat}{r t u v w x y z A p q:V}(I:Nat->CK)(B:(CK)->CK)(s:P11 I B)(g:I m r t u v w x y z A p q h)(D:kJ (fD C fn tb k ks Q).c=true:=by kernel_rfl)(hk:(fD C fn tb k ks Q).ks=[]:=by kernel_rfl)
  (e:∀(K:CK) (ρ:gf) (h:Hp),VA C fn.ntmps tb (jC C fn.ntmps tb {fD C fn tb k ks Q with ks:=[λρ h=>K (ρ d) (ρ f) (ρ i) (ρ j) (ρ i5) (ρ i6) (ρ l) (ρ n) (ρ o) (ρ a) (ρ b) h]} false) ρ h=B K (ρ d) (ρ f) (ρ i) (ρ j) (ρ i5) (ρ i6) (ρ l) (ρ n) (ρ o) (ρ a) (ρ b) h:=by intros;kernel_rfl):∀ρ:gf,ρ d=r->ρ f=t->ρ i=u->ρ j=v->ρ i5=w->ρ i6=x->ρ l=y->ρ n=z->ρ o=A->ρ a=p->ρ b=q->WA C fn tb k ks Q ρ h:=by
 rintro ρ rfl rfl rfl rfl rfl rfl rfl rfl rfl rfl rfl;exact WA.loop (λk ρ h=>I k (ρ d) (ρ f) (ρ i) (ρ j) (ρ i5) (ρ i6) (ρ l) (ρ n) (ρ o) (ρ a) (ρ b) h) D hk (λk ρ h hi=>LA.of (by grind) (s k (ρ d) (ρ f) (ρ i) (ρ j) (ρ i5) (ρ i6) (ρ l) (ρ n) (ρ o) (ρ a) (ρ b) h hi)) g
abbrev P13(I:Nat->FO)(B:(FO)->FO):Prop:=∀(k:Nat) (e f g i j l m n o a b c d:V) (h:Hp),I k e f g i j l m n o a b c d h->B (λe f g i j l m n o a b c d h=>∃k',k' < k/\I k' e f g i j l m n o a b c d h) e f g i j l m n o a b c d h
theorem WA.l13{i j l n i5 i6 o p q a b d f:Nat}{w x y z A D E F G r t u v:V}(I:Nat->FO)(B:(FO)->FO)(s:P13 I B)(g:I m w x y z A D E F G r t u v h)(H:kJ (fD C fn tb k ks Q).c=true:=by kernel_rfl)(hk:(fD C fn tb k ks Q).ks=[]:=by kernel_rfl)
  (e:∀(K:FO) (ρ:gf) (h:Hp),VA C fn.ntmps tb (jC C fn.ntmps tb {fD C fn tb k ks Q with ks:=[λρ h=>K (ρ i) (ρ j) (ρ l) (ρ n) (ρ i5) (ρ i6) (ρ o) (ρ p) (ρ q) (ρ a) (ρ b) (ρ d) (ρ f) h]} false) ρ h=B K (ρ i) (ρ j) (ρ l) (ρ n) (ρ i5) (ρ i6) (ρ o) (ρ p) (ρ q) (ρ a) (ρ b) (ρ d) (ρ f) h:=by intros;kernel_rfl):∀ρ:gf,ρ i=w->ρ j=x->ρ l=y->ρ n=z->ρ i5=A->ρ i6=D->ρ o=E->ρ p=F->ρ q=G->ρ a=r->ρ b=t->ρ d=u->ρ f=v->WA C fn tb k ks Q ρ h:=by
 rintro ρ rfl rfl rfl rfl rfl rfl rfl rfl rfl rfl rfl rfl rfl;exact WA.loop (λk ρ h=>I k (ρ i) (ρ j) (ρ l) (ρ n) (ρ i5) (ρ i6) (ρ o) (ρ p) (ρ q) (ρ a) (ρ b) (ρ d) (ρ f) h) H hk (λk ρ h hi=>LA.of (by grind) (s k (ρ i) (ρ j) (ρ l) (ρ n) (ρ i5) (ρ i6) (ρ o) (ρ p) (ρ q) (ρ a) (ρ b) (ρ d) (ρ f) h hi)) g
end
