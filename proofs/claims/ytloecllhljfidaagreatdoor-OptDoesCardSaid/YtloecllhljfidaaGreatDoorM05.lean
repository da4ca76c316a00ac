/- Parts. -/
import Derived.Test.YtloecllhljfidaaGreatDoorM04
set_option maxHeartbeats 4000000
namespace Go.Proofs.YtloecllhljfidaaGreatDoor.Hx
variable{o:Oper}{d:Nat}{x:It}
theorem LQ:∀ws a,late ws a<ws.length->∃w,ws[late ws a]? =some w/\w.b.testBit a.i=true
 |[],a,h=>by simp_all
 | w ::ws,a,h=>by
   unfold late at h⊢;split
   ·simp_all
   ·rename_i hb
    simp[hb,VS]at h
    let⟨w',c,d⟩:=LQ ws a (by omega)
    simp_all
theorem ML:∀{l:List It},Ig l=true->∀q a b,l[q]? =some a->l[q+1]? =some b->b.b.testBit a.i=true
 |[],_,q,a,b,h,_=>by simp_all
 |[x],_,q,a,b,_,h=>by simp_all
 | x::y::l,hc,0,a,b,c,d=>by
   simp_all[Ig,vU]
 | x::y::l,hc,q+1,a,b,c,d=>by
   simp[Ig,vU]at hc;exact ML hc.2 q a b (by simp_all) (by simp_all)
theorem count_set:∀(l:List Bool) i,l[i]? =some false->(l.set i true).count false<l.count false
 |[],i,h=>by simp_all
 |b::l,0,h=>by simp_all
 | b::l,i+1,h=>by
   grind
theorem SY{n:Nat} {all:List Oper}  {t t':Tm} (h:∀j w a d,o.guard=some (j,w)->all[j]? =some a->a.dst=some d->j5 t d=j5 t' d):qK n all o t=qK n all o t':=by
 unfold qK kR
 grind
theorem Ru{Δ:Env} {n:Nat} {t:Tm} {a:Act} (c:TR Δ n t a) {ops:Array Oper} {o:Oper} {b:Bool} (h:qK n ops.toList o t=some b):Region.wanted o (yielded ops a.tmps)=b:=by
 grind[qK,PJ,Qc]
section
variable{n:Nat}{ops:Array Oper}{call:Call}{t0:Tm}{h0:Hp}{Δ0:Env}{w0:World}{T:Tc}{r:Tm×Hp}{Q:Exit->Act->World->Prop}
abbrev iW(ops:Array Oper):List It:=items ops.toList 0 []
theorem vX(k:Nat) (x:It) (h:(iW ops)[k]? =some x):x.i=k:=by
 have:=(C9 _ _ _ _ _ h).1;omega
theorem yc{y:It} (hx:x∈iW ops) (a:y∈iW ops) (h:x.i=y.i):x=y:=by
 grind[mn,vX]
theorem OC (hx:x∈iW ops):ops[x.i]? =some x.o:=by
 let⟨i,hi⟩:=mn.1 hx
 have a:=vX i x hi;have b:=(C9 _ _ _ _ _ hi).2
 simp_all
theorem NN{i:Nat}  (h:ops[i]? =some o):∃a,a∈iW ops/\a.i=i/\a.o=o/\(iW ops)[i]? =some a:=by
 have c:i<ops.size:=by grind
 have b:i<(iW ops).length:=by rw[KS];simpa using c
 have d:(iW ops)[i]? =some (iW ops)[i]:=by simp_all
 refine⟨(iW ops)[i],zI b,vX _ _ d,?_,d⟩;have e:=(C9 _ _ _ _ _ d).2
 simp_all
theorem uF (h:x∈gZ (iW ops)):x∈iW ops/\cls x.o=2:=by
 grind[gZ,Iw]
theorem Yz:(gZ (iW ops)).Pairwise λa b=>a.i<b.i:=by
 refine List.Pairwise.filter _ ?_;rw[wA6];intro i j hi c d;have e:=vX i _ (gN hi);have f:=vX j _ (gN c);omega
theorem Mf{q a:Nat} {y:It} (hq:(gZ (iW ops))[q]? =some x) (b:(gZ (iW ops))[a]? =some y) (h:x.i=y.i):q=a:=by
 grind[Yz,wA6]
structure Inv (n:Nat) (ops:Array Oper) (t0:Tm) (h0:Hp) (Δ0:Env) (w0:World) (T:Tc) (b:Array Bool) (j:Nat) (Δ:Env) (t:Tm) (a:Act) (w:World):Prop where
 size:b.size=ops.size
 closed:Az (iW ops) (λi=>b.getD i false)
 Y2:j<=(gZ (iW ops)).length
 ahead:∀q x,(gZ (iW ops))[q]? =some x->(b.getD x.i false=true↔q<j)
 tmps:TR Δ n t a
 qm:∀d,j5 t d=qZ T.val (λi=>b.getD i false) d (iW ops) (j5 t0 d)
 world:WR Δ (T.H j) w
 frame:FR Δ0 Δ w0 w
 none:∀l,Δ0 l = .none->l<h0.next->Δ l = .none
 defers:t.ds=t0.ds
 zfh:∀x∈iW ops,cls x.o=1->T.on x.i=true->b.getD x.i false=false->T.ep x.i<=j->Δ (T.pl x.i) = .none
theorem Wh(hc:zF call) (hp:sX (iW ops)=true) (aG:(iW ops).all (ER (iW ops))=true) (aH:(iW ops).all Cb=true)
  (j0:Nat) (aX:∀fuel c U w j Δ t a,j0<=j->c.toList.count false<=fuel+1->Inv n ops t0 h0 Δ0 w0 T c j Δ t U w->a∈iW ops->cls a.o=2->c.getD a.i false=false->
   (∀x∈iW ops,a.b.testBit x.i=true->c.getD x.i false=true)->(gZ (iW ops))[j]?≠some a->wpOp P0 ops Q a.i (wpAny P0 .any ops Q fuel (c.setIfInBounds a.i true)) U w)
  {l:List It} (hl:∀a∈l,a∈iW ops) (J:vI n ops.toList (iW ops) (gZ (iW ops)) call t0 h0 l 0 0 h0 [] r T T)
  (aI:r.1.ds=t0.ds) (hQ:∀B a' w',EW Δ0 h0 w0 n r.1 r.2 B a' w'->Q .normal a' w') :
  ∀fuel c a w j Δ t,j0<=j->c.toList.count false<=fuel->Inv n ops t0 h0 Δ0 w0 T c j Δ t a w->wpAny P0 .any ops Q fuel c a w:=by
 have V:∀c,c.size=ops.size->Region.ready .any ops c=[]->∀x∈iW ops,c.getD x.i false=true:=by
  intro c aY hr;have aJ:∀i,i<ops.size->c.getD i false=true:=by
   intro i
   induction i using Nat.strongRecOn with
   | _ i ih=>
     intro hi
     cases hb:c.getD i false with
     |true=>rfl
     | false=>
       exfalso;have ho:=Array.getElem?_eq_getElem hi
       let⟨x,hx,hxi,hxo,_⟩:=NN ho
       have an:i∈Region.ready .any ops c:=by
         rw[mem_ready];refine⟨?_,ops[i],ho,λe he aK=>?_⟩
         ·simp_all
         ·have p:=Sj.1 aH x hx
          unfold Cb at p;rw[hxo,hxi]at p;have v:=Sj.1 p e (by simpa using he);rw[<-HZ,aK]at v;simp[Bool.not_true,Bool.false_or,UC]at v;exact ih e.on v (by omega)
       rw[hr]at an;cases an
  intro x hx;exact aJ x.i (wAx.1 (OC hx)).1
 have L:∀c a w j Δ t,Inv n ops t0 h0 Δ0 w0 T c j Δ t a w->(∀x∈iW ops,c.getD x.i false=true)->Q .normal a w:=by
  intro c a w j Δ t k M;have hj:j=(gZ (iW ops)).length:=by
   rcases Ub j (gZ (iW ops)).length with h|h
   ·have hg:=gN h;have:=(k.ahead j _ hg).1 (M _ (uF (zI h)).1);omega
   ·have:=k.Y2;omega
  subst hj;refine hQ Δ a w ⟨⟨k.tmps.size,λi=>?_,by rw[aI,<-k.defers];exact k.tmps.ds⟩,by rw[J.last];exact k.world,k.frame,⟨?_,k.none⟩⟩
  ·have p:=k.tmps.rel i;rw[k.qm i,sB (D':=λ_=>true) (λx hx _=>M x hx) (λ_ _ _ _=>rfl),<-J.qm i]at p;exact p
  ·rw[J.last];exact Gq J.more.1 (Hl J.chain _ _ (by rw[C7]) (iZ _))
 intro fuel
 induction fuel with
 | zero =>
   intro c a w j Δ t _ au k;have M:∀x∈iW ops,c.getD x.i false=true:=by
     intro x hx;have W:x.i<c.size:=by rw[k.size];exact(wAx.1 (OC hx)).1
     cases hb:c.getD x.i false with
     |true=>rfl
     | false=>
       exfalso;have:false∈c.toList:=by
         have:c[x.i]=false:=by simpa[W]using hb
         rw[<-this];simp
       have:=List.count_pos_iff.2 this;omega
   refine⟨?_,L _ _ _ _ _ _ k M⟩;rw[List.eq_nil_iff_forall_not_mem]
   grind[mem_ready,NN,wAx]
 | succ fuel ih=>
   intro c U w j Δ t aL au k;refine⟨λhr=>L _ _ _ _ _ _ k (V _ k.size hr),λi hi=>?_⟩;rw[mem_ready]at hi
   let⟨pK,o,ho,hedges⟩:=hi
   let⟨a,ha,hai,hao,hgeta⟩:=NN ho
   have W:i<c.size:=by rw[k.size];exact(wAx.1 ho).1
   have N:c.getD a.i false=false:=by rw[hai];simp[W]at pK⊢;exact pK
   have O:∀x∈iW ops,a.b.testBit x.i=true->c.getD x.i false=true:=by
     intro x hx hb
     let⟨e,he,hbe,p⟩:=NT hgeta hb
     rw[hao]at he;have C:=hedges e (by simpa using he) (by rw[HZ];exact hbe);rcases p with p|⟨y,z,ao⟩
     ·rw[p];exact C
     ·have aZ:=vX _ _ z
      exact k.closed y (mn.2 ⟨_,z⟩) (by simp_all) x hx ao
   by_cases hez:cls a.o=2/\(gZ (iW ops))[j]?≠some a
   ·grind
   obtain ⟨D,u⟩:∃D,NM n ops.toList (iW ops) (gZ (iW ops)) call t0 h0 T D a:=by
     rcases J.done a ha with p|p
     ·simp at p
     ·let⟨b,hb,hbi⟩:=Kj.1 p
      rw[yc ha (hl b hb) hbi.symm];exact J.item b hb
   have E:∀y∈iW ops,y∈l:=by
     intro y z;rcases J.done y z with p|p
     ·simp at p
     ·grind[yc]
   have aM:=E a ha;have ah:∀d,d∈sZ a.o->j5 t d=j5 (T.tt a.i) d:=λd hd=>by
     rw[k.qm d,u.qm d];exact JK vX hp ha k.closed u.closed O u.fh N u.fresh hd _ _
   have F:∀x∈a.o.op.operands.toList,Alike t (T.tt a.i) x:=Kb λd hd=>ah d (by simp[sZ,hd]);have ai:qK n ops.toList a.o t=some (T.on a.i):=by
     rw[<-u.qK];refine SY λjg wg oj d hg hj hd=>?_;have A:=Sj.1 aG a ha;unfold ER at A;rw[hg]at A;simp only at A
     cases hjt:(iW ops)[jg]? with
     |none=>rw[hjt]at A;cases A
     | some g=>
       rw[hjt]at A;simp only at A;have aN:g.o=oj:=by
         have:=(C9 _ _ _ _ _ hjt).2;rw[hj]at this;cases this;rfl
       rw[aN,hd]at A;simp only[vU]at A
       let⟨hbit,honly⟩:=A
       have aw:=vX _ _ hjt;have aO:=mn.2 ⟨_,hjt⟩;rw[k.qm d,u.qm d];refine sB (λx hx aP=>?_) (λ_ _ _ _=>rfl) _;have p:=Sj.1 honly x hx;rw[aP]at p;have v:x.i=jg:=by simpa using p
       have P:=yc hx aO (by omega);subst P;rw[O x hx (by rw[aw];exact hbit),u.fh x hx (by rw[aw];exact hbit)]
   have X:Region.wanted o (yielded ops U.tmps)=T.on a.i:=by rw[<-hao];exact Ru k.tmps ai
   let⟨d,hd⟩:=u.dst
   have Y:∀i',(c.setIfInBounds i true).getD i' false=(c.getD i' false ||decide (a.i=i')):=λi'=>by
     by_cases e:i=i'
     ·subst e;simp[W,hai]
     simp_all
   have ap:(c.setIfInBounds i true).toList.count false<=fuel:=by
     have p:c.toList[i]? =some false:=by
       rw[wBI];have:=N;rw[hai]at this;simpa[W]using this
     have:=count_set c.toList i p;rw[Array.toList_setIfInBounds];omega
   have R:Az (iW ops) (λi'=>(c.setIfInBounds i true).getD i' false):=by
     intro x hx Z y z ao;simp only[Y,OK,zX]at Z⊢;rcases Z with Z|Z
     ·exact .inl (k.closed x hx Z y z ao)
     ·grind[yc]
   have aa:∀d',j5 (d.f t (T.val a.i)) d' = qZ T.val (λi'=>(c.setIfInBounds i true).getD i' false) d' (iW ops) (j5 t0 d'):=λd'=>by
     rw[KD hd,Im vX hp ha k.closed N Y (λ_ _=>rfl) d' (j5 t0 d'),k.qm d']
   have next:∀j' B x w',fZ B (T.val a.i) x->WR B (T.H j') w'->FR Δ B w w'->j'<=(gZ (iW ops)).length->
       (∀q y,(gZ (iW ops))[q]? =some y->((c.setIfInBounds i true).getD y.i false=true↔q<j'))->
       (∀y∈iW ops,cls y.o=1->T.on y.i=true->(c.setIfInBounds i true).getD y.i false=false->T.ep y.i<=j'->B (T.pl y.i)=none)->
       (∀l,Δ0 l=none->l<h0.next->B l=none)->wpAny P0 .any ops Q fuel (c.setIfInBounds i true) (U.put o.dst x) w':=by
     intro j' B x w' aQ aR ax aS ab aj ak;have aT:j<=j':=by
       rcases Ub j' j with h|h
       ·exfalso
        have ay:j' < (gZ (iW ops)).length:=by have:=k.Y2;omega
        have hg:=gN ay;have p:=(k.ahead j' _ hg).2 h
        grind
       ·exact h
     refine ih _ _ _ j' B (d.f t (T.val a.i)) (Gq aL aT) ap ⟨by simp[k.size],R,aS,ab,?_,aa,aR,k.frame.trans ax,ak,by rw[yT hd];exact k.defers,aj⟩;have:=NA (k.tmps.mono ax.le) hd aQ;rw[hao]at this;exact this
   have aA:=Gq J.more.1 (Hl J.chain j j (by omega) k.Y2);have ac:j<=late (gZ (iW ops)) a:=by
     rcases Ub (late (gZ (iW ops)) a) j with h|h
     ·exfalso
      let⟨x,hx,hxb⟩:=LQ (gZ (iW ops)) a (by have:=k.Y2;omega)
      have p:=(k.ahead _ x hx).2 h;have:=k.closed x (uF (mn.2 ⟨_,hx⟩)).1 p a ha hxb
      grind
     ·exact h
   have still:cls a.o≠2->∀q y,(gZ (iW ops))[q]? =some y->((c.setIfInBounds i true).getD y.i false=true↔q<j):=by
     intro al q y hq;rw[Y,<-k.ahead q y hq];have z:=uF (mn.2 ⟨_,hq⟩);have:¬a.i=y.i:=by grind[yc]
     simp[this]
   have aq:cls a.o≠2->T.ep a.i<=j:=by
     intro al;have p:=u.epw al
     cases he:T.ep a.i with
     |zero=>omega
     | succ e=>
       rw[he]at p;simp[Ni]at p
       grind[uF,mn]
   have s:∀y∈iW ops,cls y.o=1->T.on y.i=true->(c.setIfInBounds i true).getD y.i false=false->T.ep y.i<=j->Δ (T.pl y.i)=none/\y.i≠a.i:=by
     intro y z p v P h4;rw[Y]at P;simp only[Bool.or_eq_false_iff,decide_eq_false_iff_not]at P;exact⟨k.zfh y z p v P.1 h4,λe=>P.2 e.symm⟩
   have I:∀y∈iW ops,cls y.o=1->T.on y.i=true->T.ep y.i<=j->T.pl y.i<(T.H j).next:=by
     intro y z p v P;rcases J.done y z with h4|h4
     ·simp at h4
     ·let⟨b,hb,hbi⟩:=Kj.1 h4
      have:=yc z (hl b hb) hbi.symm;subst this
      let⟨_,hity⟩:=J.item y hb
      exact((hity.alloc p v).2.1 j P k.Y2).1
   have ar:cls a.o=2->isW (gZ (iW ops)) a (T.ep a.i)=true->T.ep a.i=j/\(gZ (iW ops))[j]? =some a:=by
     intro _ hw;unfold isW at hw;split at hw
     ·rename_i x hx
      have aU:=yc (uF (mn.2 ⟨_,hx⟩)).1 ha (Iw hw);subst aU;have aB:(gZ (iW ops))[j]? =some x:=by
        apply Classical.byContradiction;intro al;exact hez ⟨(uF (mn.2 ⟨_,hx⟩)).2,al⟩
      exact⟨Mf hx aB rfl,aB⟩
     ·cases hw
   have ad:cls a.o=2->isW (gZ (iW ops)) a (T.ep a.i)=true->∀q y,(gZ (iW ops))[q]? =some y->((c.setIfInBounds i true).getD y.i false=true↔q<j+1):=by
     intro m hw q y hq
     let⟨_,hx⟩:=ar m hw
     rw[Y];simp only[OK,zX,k.ahead q y hq];constructor
     ·rintro(h|h)
      ·omega
      ·have:=Mf hx hq h;omega
     ·grind
   have ae:cls a.o=2->isW (gZ (iW ops)) a (T.ep a.i)=true->∀B w',WR B (T.G j) w'->Gr (T.H j) Δ (T.G j) B->
       ∀y∈iW ops,cls y.o=1->T.on y.i=true->(c.setIfInBounds i true).getD y.i false=false->T.ep y.i<=j+1->B (T.pl y.i)=none:=by
     intro m hw B w' aV aW y z p v P h4;rcases Ub j (T.ep y.i)with h5|h5
     ·let⟨_,hity⟩:=J.item y (E y z)
      have aC:=(hity.alloc p v).2.2.1 j h5
      cases hd':B (T.pl y.i)with
      |none=>rfl
      |some e=>have:=aV.fresh _ _ hd';omega
     ·exact aW.none _ (s y z p v P h5).1 (I y z p v h5)
   unfold wpOp;simp[ho];rw[X]
   cases C:T.on a.i with
   | false=>
     simp[wBM,if_false];have hv:=u.off C;rcases LB a.o with m|m|m
     ·exact next j Δ undef w (by rw[hv];exact .undef Δ) k.world (.refl _ _) k.Y2 (still (by rw[m];decide)) (by grind) k.none
     ·exact next j Δ undef w (by rw[hv];exact .undef Δ) k.world (.refl _ _) k.Y2 (still (by rw[m];decide)) (by grind) k.none
     ·let⟨hep',_,hoff⟩:=u.write m
      let⟨hej,hxj⟩:=ar m hep'
      have hG:=hoff C;rw[hej]at hG;have ag:=(jo.1 hxj).1
      let⟨hm1,hm2⟩:=J.chain j (Mr _) ag
      have aD:WR Δ (T.G j) w:=by rw[hG];exact k.world
      exact next (j+1) Δ undef w (by rw[hv];exact .undef Δ) (aD.Q3 hm2) (.refl _ _) ag (ad m hep') (ae m hep' Δ w aD (by rw[hG];exact .refl _ _)) k.none
   | true=>
     simp[if_true];left;rcases LB a.o with m|m|m
     ·have aE:=u.pure m C j (aq (by rw[m];decide)) k.Y2 ac
      rw[<-Jy F]at aE;have am:(JT a.o).f call t (T.H j)=some (T.val a.i,T.H j):=by
        unfold JT;rw[m];simp only[fR];exact⟨_,aE,rfl⟩
      rw[<-hao];refine Qf hc k.world k.tmps am λB x w' S=>?_;rw[hao]
      exact next j B x w' S.val S.world S.frame k.Y2 (still (by rw[m];decide)) (λy z p v P h4=>S.grow.none _ (s y z p v P h4).1 (I y z p v h4))
        (λl' p v=>S.grow.none _ (k.none l' p v) (Ep v aA))
     ·let ⟨⟨mk,hav,zea⟩,hin,_,aC⟩:=u.alloc m C
      let⟨hpl,hob⟩:=hin j (aq (by rw[m];decide)) k.Y2
      have aF:=hob ac;rw[<-MK F]at hav
      let⟨mo,mv,hrun,hmade⟩:=Tx k.tmps hav
      have K:=k.zfh a ha m C N (aq (by rw[m];decide))
      let⟨dd,hb,hor,hvr⟩:=hmade (T.pl a.i) w.heap.size K
      rw[<-hao];unfold Oper.wp;rw[hrun w,Oper.upon_value,hao];refine next j (Δ.set (T.pl a.i) dd) _ _ (by rw[zea];exact hvr) (k.world.lay K hpl aF hb hor) (FR.lay K hb) k.Y2 (still (by rw[m];decide)) (λy z p v P h4=>?_) (λl' p v=>?_)
      ·let⟨e1,e2⟩:=s y z p v P h4
       have:=J.Wu y (E y z) a aM p m v C e2;unfold Env.set;rw[if_neg this];exact e1
      ·have:l'≠T.pl a.i:=by omega
       unfold Env.set;rw[if_neg this];exact k.none l' p v
     ·let ⟨hep',hrun,_⟩:=u.write m
      let⟨hej,hxj⟩:=ar m hep'
      have am:=hrun C;rw[hej,<-Ny F]at am;have ag:=(jo.1 hxj).1
      let⟨hm1,hm2⟩:=J.chain j (Mr _) ag
      rw[<-hao];refine Qf hc k.world k.tmps am λB x w' S=>?_;rw[hao]
      exact next (j+1) B x w' S.val (S.world.Q3 hm2) S.frame ag (ad m hep') (ae m hep' B w' S.world S.grow)
        (λl' p v=>S.grow.none _ (k.none l' p v) (Ep v aA))
theorem Yv(l:Ig (gZ (iW ops))=true) (fuel:Nat) (c:Array Bool) (d:Act) (w:World) (j:Nat) (Δ:Env) (t:Tm) (a:It) (_:0<=j) (_:c.toList.count false<=fuel+1) (m:Inv n ops t0 h0 Δ0 w0 T c j Δ t d w) (z:a∈iW ops)
  (s:cls a.o=2) (p:c.getD a.i false=false) (k:∀x∈iW ops,a.b.testBit x.i=true->c.getD x.i false=true) (u:(gZ (iW ops))[j]?≠some a) :
  wpOp P0 ops Q a.i (wpAny P0 .any ops Q fuel (c.setIfInBounds a.i true)) d w:=by
 exfalso;have f:a∈gZ (iW ops):=by unfold gZ;rw[Lz];exact by simp_all
 let⟨q,hq⟩:=mn.1 f
 have v:¬q<j:=λh=>by
  have:=(m.ahead _ a hq).2 h
  simp_all
 have y:q≠j:=by grind
 obtain⟨e,rfl⟩:∃e,q=e+1:=⟨q-1,by omega⟩
 have g:e<(gZ (iW ops)).length:=by have:=(jo.1 hq).1;omega
 have r:=gN g;have hb:=ML l e _ a r hq;have:=(m.ahead e _ r).1 (by grind[uF,zI]);omega
theorem mm{x:Operand} (hx:TB x=true) (t:Tm) (h h':Hp):(Ab x).f t h=(Ab x).f t h':=by
 cases x <;> first|rfl|grind[TB]
theorem TO (a:Lf o=true) (t:Tm) (h h':Hp):(iJ o).f t h=(iJ o).f t h':=by
 unfold Lf at a;unfold iJ;split at a
 ·grind[mm]
 ·grind[Ap,mm]
 ·grind[sd,mm]
 ·rename_i b;rw[b];rw[vU]at a
  grind[rX,mm]
 ·cases a
theorem rl  (h:storeAt o=some d):∃ty x,o.op = .store ty (.tmp d) x/\o.guard=none/\o.dst=none/\TB x=true:=by
 grind[storeAt]
theorem Mu  (h:storeAt o=some d):cls o=2:=by
 grind[rl,cls]
theorem L7  (hs:storeAt o=some d) {call:Call} {t:Tm} {h h':Hp} {v:V} (hv:(JT o).f call t h=some (v,h')) :
  v = .undef/\∃l off e sz cs qY,j5 t d = .ptr l off/\h.get l=some (.cells e sz true false cs)/\h' = h.put l (.cells e sz true false qY)/\
   ∀b,b.get l=h.get l->(JT o).f call t b=some (.undef,b.put l (.cells e sz true false qY)):=by
 let⟨ty,x,hop,_,_,hx⟩:=rl hs
 have m:=Mu hs
 have c:∀h,(JT o).f call t h=oB ((mr o).f t h) λr=>match r with
   | .val v h=>some (v,h)
   | .call f args=>call f args h:=by
  intro h;unfold JT;split
  ·omega
  ·omega
  ·rfl
 rw[c,fR]at hv
 let⟨r,b,p⟩:=hv
 have j:∀h,(mr o).f t h=match El ty with
   |some n=>oB ((Ab (.tmp d)).f t h) λa=>oB ((Ab x).f t h) λv=>B2 a λl off=>bB (Nat.beq v.cells.length n) (oB (Ky h l off v.cells) λh=>some (.val .undef h))
   |none=>none:=by
  intro h;unfold mr;rw[hop];simp only;generalize El ty=z;cases z <;> rfl
 rw[j]at b
 cases hn:El ty with
 |none=>simp_all
 | some n=>
   rw[hn]at b;simp only[fR,Bc,jf]at b;obtain⟨a,q,vv,s,l,off,rfl,hlen,B,g,u⟩:=b;cases u;cases p;have i:=Option.some.inj (q);unfold Ky at g;simp only[mQ,jf,fR,Bool.not_eq_true']at g;obtain⟨e,sz,live,ro,cs,w,rfl,rfl,k,qY,y,MT⟩:=g;cases MT;refine⟨rfl,l,off,e,sz,cs,qY,i,w,rfl,λb A=>?_⟩;rw[c,fR];refine⟨.val .undef (b.put l (.cells e sz true false qY)),?_,rfl⟩;rw[j,hn];simp only[fR,Bc,jf];refine⟨.ptr l off,by rw[<-i];rfl,vv,by grind[mm],l,off,rfl,hlen,b.put l (.cells e sz true false qY),?_,rfl⟩;unfold Ky;simp[mQ,jf,fR,Bool.not_eq_true']
   grind
theorem Ob:∀{l:List It} {a b:It},Nc l=some (a,b)->∃p,l.length=p+2/\l[p]? =some a/\l[p+1]? =some b
 |[],_,_,h=>by cases h
 |[_],_,_,h=>by cases h
 |[x,y],a,b,h=>by cases h;simp_all
 | _::y::z::l,a,b,h=>by
   let⟨p,c,d,e⟩:=Ob (l:=y::z::l) h
   exact⟨p+1,by simp_all,by grind,by simp_all⟩
theorem Kd:∀{l:List It},JM l=true->∀q a b,l[q]? =some a->l[q+1]? =some b->q+2<l.length->b.b.testBit a.i=true/\(q+3=l.length->∀c,l[q+2]? =some c->c.b.testBit a.i=true)
 |[],_,q,a,b,h,_,_=>by simp_all
 |[x],_,q,a,b,_,h,_=>by simp_all
 |[x,y],_,q,a,b,_,_,h=>by grind
 | x::y::z::l,hc,0,a,b,d,e,_=>by
   simp at d e;subst d;subst e;simp[JM,vU]at hc
   grind
 | x::y::z::l,hc,q+1,a,b,d,e,f=>by
   simp[JM,vU]at hc;have:=Kd hc.2 q a b (by simp_all) (by simp_all) (by simp_all)
   simp_all
theorem Tu{kj ws:List It} {a b:It} {da db:Nat} (h:Lm kj ws=some (a,b,da,db)) :
  Nc ws=some (a,b)/\storeAt a.o=some da/\storeAt b.o=some db/\fixed kj a=true/\fixed kj b=true/\QZ kj a b=true/\JM ws=true:=by
 unfold Lm at h
 grind
structure zdV (n:Nat) (ops:Array Oper) (t0:Tm) (h0:Hp) (Δ0:Env) (w0:World) (T:Tc) (c:Nat) (e:Hp) (b:Array Bool) (Δ:Env) (t:Tm) (a:Act) (w:World):Prop where
 size:b.size=ops.size
 closed:Az (iW ops) (λi=>b.getD i false)
 ahead:∀x∈gZ (iW ops),(b.getD x.i false=true↔x.i≠c)
 tmps:TR Δ n t a
 qm:∀d,j5 t d=qZ T.val (λi=>b.getD i false) d (iW ops) (j5 t0 d)
 world:WR Δ e w
 frame:FR Δ0 Δ w0 w
 none:∀l,Δ0 l = .none->l<h0.next->Δ l = .none
 defers:t.ds=t0.ds
section
variable{a b:It}{da db p:Nat}
structure zfC (ops:Array Oper) (T:Tc) (a b:It) (da db p:Nat) (r:Tm×Hp):Prop where
 len:(gZ (iW ops)).length=p+2
 ga:(gZ (iW ops))[p]? =some a
 gb:(gZ (iW ops))[p+1]? =some b
 sa:storeAt a.o=some da
 sb:storeAt b.o=some db
 fa:fixed (iW ops) a=true
 fb:fixed (iW ops) b=true
 op:QZ (iW ops) a b=true
 ch:JM (gZ (iW ops))=true
 apart:Z8 (j5 r.1 da) (j5 r.1 db)=true
theorem Qm(h:QZ (iW ops) a b=true) {x:It} (hx:x∈iW ops) (c:x.i≠a.i) (hb:x.i≠b.i) (d:¬(a.b.testBit x.i=true/\b.b.testBit x.i=true)) :
  cls x.o=0/\Lf x.o=true/\x.o.guard=none/\x.b.testBit a.i=false/\x.b.testBit b.i=false:=by
 have:=Sj.1 h x hx;simp[ vU]at this
 grind[Iw]
theorem LG{l:List It} (h:vI n ops.toList (iW ops) (gZ (iW ops)) call t0 h0 l 0 0 h0 [] r T T) {x:It} (hx:x∈iW ops) (c:fixed (iW ops) x=true) {D:Nat->Bool} (j:∀y∈iW ops,x.b.testBit y.i=true->D y.i=true)
  {d:Nat} (e:d∈CB x.o.op.operands.toList) (a:V):qZ T.val D d (iW ops) a=qZ T.val (λ_=>true) d (iW ops) a:=by
 refine sB (λy f g=>?_) (by simp_all) a;have k:=Sj.1 (Sj.1 c d e) y f
 grind[writes]
theorem Hb  (h:storeAt o=some d):d∈CB o.op.operands.toList:=by
 grind[rl,Op.operands,CB]
end
section
variable{a b:It}{da db p:Nat}{l:List It}
theorem zaF{H e i:Hp} {lb:Nat} {j ob:O} (a:d<H.next) (f:lb<H.next) (m:d≠lb) (k:Dx (H.put d j) e) (l:Dx (e.put lb ob) i):Dx ((H.put lb ob).put d j) i:=by
 have b:H.next<=e.next:=k.1;have g:=l.1;refine⟨Gq b g,λx hx=>?_⟩;have c:=hx;rw[l.2 x (Ep c b)];rw[qP (h:=H.put lb ob) _ _ a,qP _ _ (by omega),qP _ _ f];rw[k.2 x c,qP _ _ a]
 grind
theorem zd5(hc : zF call) (hp:sX (iW ops)=true) (aC:(iW ops).all (ER (iW ops))=true) (ak:(iW ops).all Cb=true) (hl:∀a∈l,a∈iW ops)
    (V:vI n ops.toList (iW ops) (gZ (iW ops)) call t0 h0 l 0 0 h0 [] r T T) (hP:zfC ops T a b da db p r)
    (aD:r.1.ds=t0.ds) (hQ:∀Δ' a' w',EW Δ0 h0 w0 n r.1 r.2 Δ' a' w'->Q .normal a' w') {la lb:Nat} {ob:O} (aT:la<(T.H p).next) (aE:lb<(T.H p).next) (aF:la≠lb)
    (aG:∀t,j5 t da=j5 r.1 da->∃oa,(T.G p)=(T.H p).put la oa/\∀k,k.get la=(T.H p).get la->(∀x∈a.o.op.operands.toList,Alike t (T.tt a.i) x)->(JT a.o).f call t k=some (.undef,k.put la oa))
    (aU:T.G (p+1)=(T.H (p+1)).put lb ob) :
    ∀fuel c m w Δ t,c.toList.count false<=fuel->zdV n ops t0 h0 Δ0 w0 T a.i ((T.H p).put lb ob) c Δ t m w->wpAny P0 .any ops Q fuel c m w:=by
  have ha:=(uF (mn.2 ⟨_,hP.ga⟩)).1;have hb:=(uF (mn.2 ⟨_,hP.gb⟩)).1;have aH:a.i≠b.i:=λe=>by
    have:=Mf hP.ga hP.gb e;omega
  have al:=mn.2 ⟨_,hP.ga⟩;have am:=mn.2 ⟨_,hP.gb⟩;have I:∀{c Δ t m w},zdV n ops t0 h0 Δ0 w0 T a.i ((T.H p).put lb ob) c Δ t m w->c.getD a.i false=false:=λg=>by
    cases h:Array.getD _ a.i false with
    |false=>rfl
    |true=>exact absurd rfl ((g.ahead a al).1 h)
  have ac:∀{c Δ t m w},zdV n ops t0 h0 Δ0 w0 T a.i ((T.H p).put lb ob) c Δ t m w->c.getD b.i false=true:=λg=>(g.ahead b am).2 (λe=>aH e.symm);intro fuel
  induction fuel with
  | zero=>
    intro c m w Δ t an g;exfalso;have k:=I g;have J:a.i<c.size:=by rw[g.size];exact(wAx.1 (OC ha)).1
    have:false∈c.toList:=by
      have:c[a.i]=false:=by simpa[J]using k
      rw[<-this];simp
    have:=List.count_pos_iff.2 this
    omega
  | succ fuel ih=>
    intro c m w Δ t an g;refine⟨λhr=>?_,λi hi=>?_⟩
    ·exfalso
     have ao : ∀i,i<ops.size->c.getD i false=true:=by
       intro i
       induction i using Nat.strongRecOn with
       | _ i aI=>
         intro hi
         cases W:c.getD i false with
         |true=>rfl
         | false=>
           exfalso;have ho:=Array.getElem?_eq_getElem hi
           let⟨x,hx,hxi,hxo,_⟩:=NN ho
           have B:i∈Region.ready .any ops c:=by
             rw[mem_ready];refine⟨?_,ops[i],ho,λe he ap=>?_⟩
             ·have:i<c.size:=by rw[g.size];exact hi
              simp[this]at W⊢;exact W
             ·have k:=Sj.1 ak x hx
              unfold Cb at k;rw[hxo,hxi]at k;have X:=Sj.1 k e (by simpa using he);rw[<-HZ,ap]at X;simp[Bool.not_true,Bool.false_or,UC]at X;exact aI e.on X (by omega)
           rw[hr]at B;cases B
     have:=ao a.i (wAx.1 (OC ha)).1;rw[I g]at this;cases this
    rw[mem_ready]at hi
    let⟨pK,o,ho,hedges⟩:=hi
    let⟨y,U,hyi,hyo,hgety⟩:=NN ho
    have J:i<c.size:=by rw[g.size];exact(wAx.1 ho).1
    have K:c.getD y.i false=false:=by rw[hyi];simp[J]at pK⊢;exact pK
    have C:∀x∈iW ops,y.b.testBit x.i=true->c.getD x.i false=true:=by
      intro x hx W
      let⟨e,he,hbe,k⟩:=NT hgety W
      rw[hyo]at he;have L:=hedges e (by simpa using he) (by rw[HZ];exact hbe);rcases k with k|⟨z,u,A⟩
      ·rw[k];exact L
      ·have aV:=vX _ _ u
       exact g.closed z (mn.2 ⟨_,u⟩) (by simp_all) x hx A
    have Y:∀y∈iW ops,y∈l:=by
      intro y U;rcases V.done y U with k|k
      ·simp at k
      ·grind[yc]
    let⟨D,hit⟩:=V.item y (Y y U)
    have Z:∀d,d∈sZ y.o->j5 t d=j5 (T.tt y.i) d:=λd F=>by
      rw[g.qm d,hit.qm d];exact JK vX hp U g.closed hit.closed C hit.fh K hit.fresh F _ _
    have E:∀x∈y.o.op.operands.toList,Alike t (T.tt y.i) x:=Kb λd F=>Z d (by simp[sZ,F])
    let⟨d,F⟩:=hit.dst
    have M:∀i',(c.setIfInBounds i true).getD i' false=(c.getD i' false ||decide (y.i=i')):=λi'=>by
      by_cases e:i=i'
      ·subst e;simp[J,hyi]
      simp_all
    have N:(c.setIfInBounds i true).toList.count false<=fuel:=by
      have k:c.toList[i]? =some false:=by
        rw[wBI];have:=K;rw[hyi]at this;simpa[J]using this
      have:=count_set c.toList i k;rw[Array.toList_setIfInBounds];omega
    have s:Az (iW ops) (λi'=>(c.setIfInBounds i true).getD i' false):=by
      intro x hx P z u A;simp only[M,OK,zX]at P⊢;rcases P with P|P
      ·exact .inl (g.closed x hx P z u A)
      ·grind[yc]
    have v:∀d',j5 (d.f t (T.val y.i)) d' = qZ T.val (λi'=>(c.setIfInBounds i true).getD i' false) d' (iW ops) (j5 t0 d'):=λd'=>by
      rw[KD F,Im vX hp U g.closed K M (λ_ _=>rfl) d' (j5 t0 d'),g.qm d']
    have aq:=Gq V.more.1 (Hl V.chain p p (by omega) (by have:=hP.len;omega));have ad:=λab=>by
      have aJ:y.i≠b.i:=by grind
      refine Qm hP.op U ab aJ λ⟨_,ar⟩=>?_;have:=g.closed b hb (ac g) y U ar
      simp_all
    by_cases hya:y.i=a.i
    ·
      have au:=yc U ha hya;subst au;have L:Region.wanted o (yielded ops m.tmps)=true:=by
        let⟨_,_,_,hg,_⟩:=rl hP.sa
        unfold Region.wanted;rw[<-hyo,hg]
      unfold wpOp;simp[ho];rw[L];simp[if_true];left
      let ⟨oa,hGa,hrun⟩:=aG t (by
        rw[g.qm da,V.qm da];exact LG V U hP.fa C (Hb hP.sa) _)
      have ae:=hrun ((T.H p).put lb ob) (by rw[qP _ _ aE,if_neg (λe=>aF e.symm)]) E;rw[<-hyo];refine Qf hc g.world g.tmps ae λΔ' x w' R=>?_;rw[hyo];have hlen:=hP.len;have aS:=V.chain p (Mr _) (by omega);have aK:=V.chain (p+1) (Mr _) (by omega);have hm:Dx (((T.H p).put lb ob).put la oa) (T.H (p+2)):=by grind[zaF]
      have ag:∀q z,(gZ (iW ops))[q]? =some z->((c.setIfInBounds i true).getD z.i false=true↔q<p+2):=λq z u=>by
        have aL:=(jo.1 u).1;constructor
        ·intro _;omega
        ·intro _
         rw[M];by_cases e:z.i=y.i
         ·simp[e]
         ·rw[(g.ahead z (mn.2 ⟨_,u⟩)).2 e];rfl
      have aw:(d.f t (T.val y.i)).ds=t0.ds:=by rw[yT F];exact g.defers
      have aa:y.o.dst=none:=by let⟨_,_,_,_,h5,_⟩:=rl hP.sa;exact h5
      have aM:TR Δ' n (d.f t (T.val y.i)) (m.put o.dst x):=by
        have k:=NA (g.tmps.mono R.frame.le) F R.val;rw[hyo]at k;have e:d.f t (T.val y.i)=d.f t .undef:=by
          unfold AZ at F;rw[aa]at F;cases F;rfl
        rw[e];exact k
      refine Wh hc hp aC ak (p+2) (λfuel c m w j Δ t a' hj _ aN aO ax ah _ ab=>?_) hl V aD hQ fuel _ _ _ (p+2) Δ' (d.f t (T.val y.i)) (iZ _) N
        ⟨by simp[g.size],s,by omega,ag,aM,v,R.world.Q3 hm,g.frame.trans R.frame,λl' k X=>R.grow.none _ (g.none l' k X) (Ep X aq),aw,λz u ay aW ai _=>?_⟩
      ·exfalso
       have B:a'∈gZ (iW ops):=by unfold gZ;rw[Lz];exact⟨aO,by rw[ax];rfl⟩
       let⟨q,hq⟩:=mn.1 B
       have k:=(jo.1 hq).1;have:=(aN.ahead _ a' hq).2 (by omega);rw[ah]at this;cases this
      ·exfalso
       rw[M]at ai;simp only[Bool.or_eq_false_iff,decide_eq_false_iff_not]at ai;have A:z.i≠b.i:=by grind
       have:=Qm hP.op u (λe=>ai.2 e.symm) A (by grind);rw[this.1]at ay;cases ay
    ·
      let⟨hc0,DC,hgn,hba,ar⟩:=ad hya
      have aP:qK n ops.toList y.o (T.tt y.i)=some true:=by unfold qK kR;rw[hgn]
      have L:T.on y.i=true:=by
        have:=hit.qK;rw[aP]at this;exact(Option.some.inj this).symm
      have S:Region.wanted o (yielded ops m.tmps)=true:=by
        unfold Region.wanted;rw[<-hyo,hgn]
      have hlen :=hP.len;have aQ:T.ep y.i<=p:=by
        have k:=hit.epw (by rw[hc0];decide)
        cases he:T.ep y.i with
        |zero=>omega
        | succ e=>
          rw[he]at k;simp[Ni]at k;split at k
          ·rename_i z u
           have aL:=(jo.1 u).1;rcases Ub e p with h|h
           ·omega
           ·exfalso
            have:e=p\/e=p+1:=by omega
            rcases this with e1|e1
            ·subst e1
             rw[hP.ga]at u;simp_all
            ·subst e1
             rw[hP.gb]at u;simp_all
          ·cases k
      have aj:p<=late (gZ (iW ops)) y:=by
        rcases Ub (late (gZ (iW ops)) y) p with h|h
        ·exfalso
         let⟨z,u,A⟩:=LQ (gZ (iW ops)) y (by omega)
         have aA:=mn.2 ⟨_,u⟩;have aR:z.i≠a.i:=λe=>by
           have:=Mf u hP.ga e;omega
         have:=g.closed z (uF aA).1 ((g.ahead z aA).2 aR) y U A
         simp_all
        ·exact h
      have aB:=hit.pure hc0 L p aQ (by omega) aj;rw[<-Jy E,TO DC t _ ((T.H p).put lb ob)]at aB;have ae:(JT y.o).f call t ((T.H p).put lb ob)=some (T.val y.i,(T.H p).put lb ob):=by
        unfold JT;rw[hc0];simp only[fR];exact⟨_,aB,rfl⟩
      unfold wpOp;simp[ho];rw[S];simp[if_true];left;rw[<-hyo];refine Qf hc g.world g.tmps ae λΔ' x w' R=>?_;rw[hyo];refine ih _ _ _ Δ' (d.f t (T.val y.i)) N ⟨by simp[g.size],s,λz u=>?_,?_,v,R.world,g.frame.trans R.frame,λl' k X=>R.grow.none _ (g.none l' k X) (Ep X aq),by rw[yT F];exact g.defers⟩
      ·rw[M]
       have:¬y.i=z.i:=by grind[yc,uF]
       simp only[this,decide_false,Bool.or_false];exact g.ahead z u
      ·have k:=NA (g.tmps.mono R.frame.le) F R.val
       rw[hyo]at k;exact k
end
section
variable{a b:It}{da db p:Nat}{l:List It}
theorem YQ(hc:zF call) (hp:sX (iW ops)=true) (al:(iW ops).all (ER (iW ops))=true) (am:(iW ops).all Cb=true) (hl:∀a∈l,a∈iW ops)
  (B:vI n ops.toList (iW ops) (gZ (iW ops)) call t0 h0 l 0 0 h0 [] r T T) (hP:zfC ops T a b da db p r)
  (an:r.1.ds=t0.ds) (hQ:∀Δ' a' w',EW Δ0 h0 w0 n r.1 r.2 Δ' a' w'->Q .normal a' w')
  (fuel:Nat) (c:Array Bool) (C:Act) (w:World) (j:Nat) (Δ:Env) (t:Tm) (y:It) (_:0<=j) (aC:c.toList.count false<=fuel+1) (m:Inv n ops t0 h0 Δ0 w0 T c j Δ t C w) (U:y∈iW ops)
  (Y:cls y.o=2) (E:c.getD y.i false=false) (g:∀x∈iW ops,y.b.testBit x.i=true->c.getD x.i false=true) (aD:(gZ (iW ops))[j]?≠some y) :
  wpOp P0 ops Q y.i (wpAny P0 .any ops Q fuel (c.setIfInBounds y.i true)) C w:=by
 have hlen:=hP.len;have ha:=(uF (mn.2 ⟨_,hP.ga⟩)).1;have Z:y∈gZ (iW ops):=by unfold gZ;rw[Lz];exact by simp_all
 let⟨q,hq⟩:=mn.1 Z
 have aE:=(jo.1 hq).1;have aF:¬q<j:=λh=>by
  have:=(m.ahead _ y hq).2 h
  simp_all
 have aG:q≠j:=by grind
 have ao:q=p+1/\j=p:=by
  obtain⟨e,rfl⟩:∃e,q=e+1:=⟨q-1,by omega⟩
  have O:e<(gZ (iW ops)).length:=by omega
  have hg:=gN O;rcases Ub e p with h|h
  ·exfalso;have V:=(Kd hP.ch e _ y hg hq (by omega)).1;have:=(m.ahead e _ hg).1 (g _ (uF (zI O)).1 V);omega
  ·have he:e=p:=by omega
   subst he;refine⟨rfl,?_⟩;rcases Ub j e with h2|h2
   ·exfalso;obtain⟨f,rfl⟩:∃f,e=f+1:=⟨e-1,by omega⟩
    have aa:f<(gZ (iW ops)).length:=by omega
    have ab:=gN aa;have V:=(Kd hP.ch f _ a ab hP.ga (by omega)).2 (by omega) y hq;have:=(m.ahead f _ ab).1 (g _ (uF (zI aa)).1 V);omega
   ·omega
 obtain⟨rfl,rfl⟩:=ao;have ap:y=b:=by rw[hP.gb]at hq;cases hq;rfl
 subst ap;have u:∀y∈iW ops,y∈l:=by
  intro y U;rcases B.done y U with s|s
  ·simp at s
  ·grind[yc]
 let⟨D,hit⟩:=B.item y (u y U)
 let⟨Da,hita⟩:=B.item a (u a ha)
 have F:=Mu hP.sa;have epw:∀{x:It} {D:Nat->Bool} {k:Nat},NM n ops.toList (iW ops) (gZ (iW ops)) call t0 h0 T D x->cls x.o=2->(gZ (iW ops))[k]? =some x->T.ep x.i=k:=λ{x D k} hx aq aH=>by
  have s:=(hx.write aq).1
  grind[isW,Mf,Iw]
 have ac:=epw hit Y hP.gb;have ad:=epw hita F hP.ga;have P:∀{x:It} {D:Nat->Bool} {d:Nat},NM n ops.toList (iW ops) (gZ (iW ops)) call t0 h0 T D x->storeAt x.o=some d->T.on x.i=true:=λ{x D d} hx hs=>by
  let⟨_,_,_,hg,_⟩:=rl hs
  have:=hx.qK
  grind[qK,kR]
 have ak:∀d,d∈sZ y.o->j5 t d=j5 (T.tt y.i) d:=λd K=>by
  rw[m.qm d,hit.qm d];exact JK vX hp U m.closed hit.closed g hit.fh E hit.fresh K _ _
 have L:∀x∈y.o.op.operands.toList,Alike t (T.tt y.i) x:=by grind[Kb,sZ]
 have R:=(hita.write F).2.1 (P hita hP.sa);rw[ad]at R
 let⟨_,la,offa,ea,sza,csa,csa',hta,hga,hGa,hruna⟩:=L7 hP.sa R
 have v:=(hit.write Y).2.1 (P hit hP.sb);rw[ac]at v
 let⟨_,lb,offb,eb,szb,csb,csb',htb,hgb,hGb,_⟩:=L7 hP.sb v
 rw[<-Ny L]at v
 let⟨_,lb2,offb2,eb2,szb2,csb2,csb2',htb2,hgb2,hGb2,hrunb⟩:=L7 hP.sb v
 have ar:j5 (T.tt a.i) da=j5 r.1 da:=by
  rw[hita.qm da,B.qm da];exact LG B ha hP.fa hita.fh (Hb hP.sa) _
 have au:j5 t db=j5 r.1 db:=by
  rw[m.qm db,B.qm db];exact LG B U hP.fb g (Hb hP.sb) _
 have ae:la≠lb2:=λe=>by
  have:=hP.apart;rw[<-ar,<-au,hta,htb2,e]at this;have h2:(!(Nat.beq lb2 lb2))=true:=this
  simp_all
 have ag:=Hp.NC hga;have ah:lb2<(T.H j).next:=by
  have s:=m.tmps.rel db;rw[htb2]at s
  cases hx:C.tmps.getD db undef with
  | pointer p=>
    rw[hx]at s
    cases s with
    |ptr _ _ d K=>exact m.world.fresh _ _ K
  |_=>rw[hx]at s;cases s
 have aw:=B.chain j (Mr _) (by omega);have ai:(T.H j).get lb2=(T.H (j+1)).get lb2:=by
  rw[aw.2.2 lb2 (by rw[hGa];exact ah),hGa,qP _ _ ag,if_neg ae]
 have ax:=hrunb (T.H j) ai;have S:=OC U;have G:Region.wanted y.o (yielded ops C.tmps)=true:=by
  let⟨_,_,_,hg,_⟩:=rl hP.sb
  unfold Region.wanted;rw[hg]
 let⟨d,K⟩:=hit.dst
 have aj:y.i<c.size:=by rw[m.size];exact(wAx.1 S).1
 have W:∀M,(c.setIfInBounds y.i true).getD M false=(c.getD M false ||decide (y.i=M)):=λM=>by
  by_cases e:y.i=M
  ·rw[<-e];simp[aj]
  simp_all
 have X:(c.setIfInBounds y.i true).toList.count false<=fuel:=by
  have s:c.toList[y.i]? =some false:=by
   rw[wBI];simpa[aj]using E
  have:=count_set c.toList y.i s;rw[Array.toList_setIfInBounds];omega
 have A:Az (iW ops) (λM=>(c.setIfInBounds y.i true).getD M false):=by
  intro x hx I z hz ay;simp only[W,OK,zX]at I⊢;rcases I with I|I
  ·exact .inl (m.closed x hx I z hz ay)
  ·grind[yc]
 have J:∀d',j5 (d.f t (T.val y.i)) d' = qZ T.val (λM=>(c.setIfInBounds y.i true).getD M false) d' (iW ops) (j5 t0 d'):=λd'=>by
  rw[KD K,Im vX hp U m.closed E W (λ_ _=>rfl) d' (j5 t0 d'),m.qm d']
 have aA:=Gq B.more.1 (Hl B.chain j j (by omega) (by omega));unfold wpOp;simp[S];rw[G];simp[if_true];left;refine Qf hc m.world m.tmps ax λΔ' x w' hA=>?_;have N:y.o.dst=none:=by let⟨_,_,_,_,h5,_⟩:=rl hP.sb;exact h5
 have aB:TR Δ' n (d.f t (T.val y.i)) (C.put y.o.dst x):=by
  have s:=NA (m.tmps.mono hA.frame.le) K hA.val;have e:d.f t (T.val y.i)=d.f t .undef:=by
   unfold AZ at K;rw[N]at K;cases K;rfl
  rw[e];exact s
 refine zd5 hc hp al am hl B hP an hQ ag ah ae (λt' aI=>⟨.cells ea sza true false csa',hGa,λs aJ aK=>?_⟩) hGb2 fuel _ _ _ Δ' (d.f t (T.val y.i)) X
  ⟨by simp[m.size],A,λz hz=>?_,aB,J,hA.world,m.frame.trans hA.frame,λl' s h2=>hA.grow.none _ (m.none l' s h2) (Ep h2 aA),by rw[yT K];exact m.defers⟩
 ·grind[Ny]
 ·let ⟨k,hk⟩:=mn.1 hz
  have aL:=(jo.1 hk).1;rw[W];simp only[OK,zX,m.ahead k z hk];constructor
  ·rintro(h|h)
   ·intro e;have:=Mf hk hP.ga e;omega
   grind
  ·intro aM;rcases Ub k j with h|h
   ·exact .inl h
   ·right;have aN:k≠j:=λe=>by
     subst e;rw[hP.ga]at hk;simp_all
    have:k=j+1:=by omega
    simp_all
end
end
