/- Parts. -/
import Derived.Test.YtcoaokdoecgcbaaGreatDoorM04
set_option maxHeartbeats 4000000
namespace Go.Proofs.YtcoaokdoecgcbaaGreatDoor.Hx
theorem KW:∀ws a,late ws a<ws.length->∃w,ws[late ws a]? =some w/\w.b.testBit a.i=true
 |[],a,h=>by simp_all
 | w ::ws,a,h=>by
   unfold late at h⊢;split
   ·simp_all
   ·rename_i c
    simp[c,Jo]at h
    let⟨w',d,e⟩:=KW ws a (by omega)
    simp_all
theorem LX:∀{l:List It},GS l=true->∀q a b,l[q]? =some a->l[q+1]? =some b->b.b.testBit a.i=true
 |[],_,q,a,b,h,_=>by simp_all
 |[x],_,q,a,b,_,h=>by simp_all
 | x::y::l,hc,0,a,b,c,d=>by
   simp_all[GS,sJ]
 | x::y::l,hc,q+1,a,b,c,d=>by
   simp[GS,sJ]at hc;exact LX hc.2 q a b (by simp_all) (by simp_all)
theorem count_set:∀(l:List Bool) i,l[i]? =some false->(l.set i true).count false<l.count false
 |[],i,h=>by simp_all
 |b::l,0,h=>by simp_all
 | b::l,i+1,h=>by
   grind
theorem TY{n:Nat} {all:List Oper} {o:Oper} {t t':Tm} (h:∀j w a d,o.guard=some (j,w)->all[j]? =some a->a.dst=some d->hN t d=hN t' d):pQ n all o t=pQ n all o t':=by
 unfold pQ jY
 grind
theorem Qw{Δ:Env} {n:Nat} {t:Tm} {a:Act} (c:TR Δ n t a) {ops:Array Oper} {o:Oper} {b:Bool} (h:pQ n ops.toList o t=some b):Region.wanted o (yielded ops a.tmps)=b:=by
 grind[pQ,LG,PY]
section
variable{n:Nat}{ops:Array Oper}{call:Call}{t0:Tm}{h0:Hp}{Δ0:Env}{w0:World}{T:Tc}{r:Tm×Hp}{Q:Exit->Act->World->Prop}
abbrev iO(ops:Array Oper):List It:=items ops.toList 0 []
theorem sK(k:Nat) (x:It) (h:(iO ops)[k]? =some x):x.i=k:=by
 have:=(Cc _ _ _ _ _ h).1;omega
theorem uf{x y:It} (a:x∈iO ops) (b:y∈iO ops) (h:x.i=y.i):x=y:=by
 grind[oR,sK]
theorem NS{x:It} (a:x∈iO ops):ops[x.i]? =some x.o:=by
 let⟨i,hi⟩:=oR.1 a
 have b:=sK i x hi;have c:=(Cc _ _ _ _ _ hi).2
 simp_all
theorem Na{i:Nat} {o:Oper} (h:ops[i]? =some o):∃a,a∈iO ops/\a.i=i/\a.o=o/\(iO ops)[i]? =some a:=by
 have c:i<ops.size:=by grind
 have b:i<(iO ops).length:=by rw[Kw];simpa using c
 have d:(iO ops)[i]? =some (iO ops)[i]:=by simp_all
 refine⟨(iO ops)[i],Dg b,sK _ _ d,?_,d⟩;have e:=(Cc _ _ _ _ _ d).2
 simp_all
theorem rK{x:It} (h:x∈gY (iO ops)):x∈iO ops/\cls x.o=2:=by
 grind[gY,yi]
theorem WB:(gY (iO ops)).Pairwise λa b=>a.i<b.i:=by
 refine List.Pairwise.filter _ ?_;rw[wBW];intro i j hi c d;have e:=sK i _ (iz hi);have f:=sK j _ (iz c);omega
theorem Ln{q a:Nat} {x y:It} (hq:(gY (iO ops))[q]? =some x) (b:(gY (iO ops))[a]? =some y) (h:x.i=y.i):q=a:=by
 grind[WB,wBW]
structure Inv (n:Nat) (ops:Array Oper) (t0:Tm) (h0:Hp) (Δ0:Env) (w0:World) (T:Tc) (b:Array Bool) (j:Nat) (Δ:Env) (t:Tm) (a:Act) (w:World):Prop where
 size:b.size=ops.size
 closed:Ag (iO ops) (λi=>b.getD i false)
 ZI:j<=(gY (iO ops)).length
 ahead:∀q x,(gY (iO ops))[q]? =some x->(b.getD x.i false=true↔q<j)
 tmps:TR Δ n t a
 pD:∀d,hN t d=qb T.val (λi=>b.getD i false) d (iO ops) (hN t0 d)
 world:WR Δ (T.H j) w
 frame:FR Δ0 Δ w0 w
 none:∀l,Δ0 l = .none->l<h0.next->Δ l = .none
 defers:t.ds=t0.ds
 zeN:∀x∈iO ops,cls x.o=1->T.on x.i=true->b.getD x.i false=false->T.ep x.i<=j->Δ (T.pl x.i) = .none
theorem VK(hc:rH call) (hp:qS (iO ops)=true) (aI:(iO ops).all (DE (iO ops))=true) (aJ:(iO ops).all AX=true)
  (j0:Nat) (aZ:∀fuel c W w j Δ t a,j0<=j->c.toList.count false<=fuel+1->Inv n ops t0 h0 Δ0 w0 T c j Δ t W w->a∈iO ops->cls a.o=2->c.getD a.i false=false->
   (∀x∈iO ops,a.b.testBit x.i=true->c.getD x.i false=true)->(gY (iO ops))[j]?≠some a->wpOp P0 ops Q a.i (wpAny P0 .any ops Q fuel (c.setIfInBounds a.i true)) W w)
  {l:List It} (hl:∀a∈l,a∈iO ops) (K:sF n ops.toList (iO ops) (gY (iO ops)) call t0 h0 l 0 0 h0 [] r T T)
  (aK:r.1.ds=t0.ds) (hQ:∀C a' w',xJ Δ0 h0 w0 n r.1 r.2 C a' w'->Q .normal a' w') :
  ∀fuel c a w j Δ t,j0<=j->c.toList.count false<=fuel->Inv n ops t0 h0 Δ0 w0 T c j Δ t a w->wpAny P0 .any ops Q fuel c a w:=by
 have X:∀c,c.size=ops.size->Region.ready .any ops c=[]->∀x∈iO ops,c.getD x.i false=true:=by
  intro c a0 hr;have aL:∀i,i<ops.size->c.getD i false=true:=by
   intro i
   induction i using Nat.strongRecOn with
   | _ i ih=>
     intro hi
     cases S:c.getD i false with
     |true=>rfl
     | false=>
       exfalso;have ho:=Array.getElem?_eq_getElem hi
       let⟨x,z,hxi,hxo,_⟩:=Na ho
       have aq:i∈Region.ready .any ops c:=by
         rw[mem_ready];refine⟨?_,ops[i],ho,λe he aM=>?_⟩
         ·simp_all
         ·have p:=PX.1 aJ x z
          unfold AX at p;rw[hxo,hxi]at p;have v:=PX.1 p e (by simpa using he);rw[<-G7,aM]at v;simp[wBc,Bool.false_or,RP]at v;exact ih e.on v (by omega)
       rw[hr]at aq;cases aq
  intro x z;exact aL x.i (Zy.1 (NS z)).1
 have M:∀c a w j Δ t,Inv n ops t0 h0 Δ0 w0 T c j Δ t a w->(∀x∈iO ops,c.getD x.i false=true)->Q .normal a w:=by
  intro c a w j Δ t k N;have hj:j=(gY (iO ops)).length:=by
   rcases Tu j (gY (iO ops)).length with h|h
   ·have hg:=iz h;have:=(k.ahead j _ hg).1 (N _ (rK (Dg h)).1);omega
   ·have:=k.ZI;omega
  subst hj;refine hQ Δ a w ⟨⟨k.tmps.size,λi=>?_,by rw[aK,<-k.defers];exact k.tmps.ds⟩,by rw[K.last];exact k.world,k.frame,⟨?_,k.none⟩⟩
  ·have p:=k.tmps.rel i;rw[k.pD i,qw (D':=λ_=>true) (λx z _=>N x z) (λ_ _ _ _=>rfl),<-K.pD i]at p;exact p
  ·rw[K.last];exact KK K.more.1 (ET K.chain _ _ (by rw[HP]) (jv _))
 intro fuel
 induction fuel with
 | zero =>
   intro c a w j Δ t _ ay k;have N:∀x∈iO ops,c.getD x.i false=true:=by
     intro x z;have Y:x.i<c.size:=by rw[k.size];exact(Zy.1 (NS z)).1
     cases S:c.getD x.i false with
     |true=>rfl
     | false=>
       exfalso;have:false∈c.toList:=by
         have:c[x.i]=false:=by simpa[Y]using S
         rw[<-this];simp
       have:=List.count_pos_iff.2 this;omega
   refine⟨?_,M _ _ _ _ _ _ k N⟩;rw[List.eq_nil_iff_forall_not_mem]
   grind[mem_ready,Na,Zy]
 | succ fuel ih=>
   intro c W w j Δ t aN ay k;refine⟨λhr=>M _ _ _ _ _ _ k (X _ k.size hr),λi hi=>?_⟩;rw[mem_ready]at hi
   let⟨qH,o,ho,hedges⟩:=hi
   let⟨a,ha,hai,hao,hgeta⟩:=Na ho
   have Y:i<c.size:=by rw[k.size];exact(Zy.1 ho).1
   have O:c.getD a.i false=false:=by rw[hai];simp[Y]at qH⊢;exact qH
   have P:∀x∈iO ops,a.b.testBit x.i=true->c.getD x.i false=true:=by
     intro x z S
     let⟨e,he,hbe,p⟩:=Nj hgeta S
     rw[hao]at he;have E:=hedges e (by simpa using he) (by rw[G7];exact hbe);rcases p with p|⟨y,A,ar⟩
     ·rw[p];exact E
     ·have a1:=sK _ _ A
      exact k.closed y (oR.2 ⟨_,A⟩) (by simp_all) x z ar
   by_cases hez:cls a.o=2/\(gY (iO ops))[j]?≠some a
   ·grind
   obtain ⟨D,u⟩:∃D,Oh n ops.toList (iO ops) (gY (iO ops)) call t0 h0 T D a:=by
     rcases K.done a ha with p|p
     ·simp at p
     ·let⟨b,S,hbi⟩:=Q1.1 p
      rw[uf ha (hl b S) hbi.symm];exact K.item b S
   have F:∀y∈iO ops,y∈l:=by
     intro y A;rcases K.done y A with p|p
     ·simp at p
     ·grind[uf]
   have aO:=F a ha;have ak:∀d,d∈qI a.o->hN t d=hN (T.tt a.i) d:=λd hd=>by
     rw[k.pD d,u.pD d];exact II sK hp ha k.closed u.closed P u.fu O u.fresh hd _ _
   have I:∀x∈a.o.op.operands.toList,Alike t (T.tt a.i) x:=IT λd hd=>ak d (by simp[qI,hd]);have al:pQ n ops.toList a.o t=some (T.on a.i):=by
     rw[<-u.pQ];refine TY λjg wg oj d hg hj hd=>?_;have B:=PX.1 aI a ha;unfold DE at B;rw[hg]at B;simp only at B
     cases hjt:(iO ops)[jg]? with
     |none=>rw[hjt]at B;cases B
     | some g=>
       rw[hjt]at B;simp only at B;have aP:g.o=oj:=by
         have:=(Cc _ _ _ _ _ hjt).2;rw[hj]at this;cases this;rfl
       rw[aP,hd]at B;simp only[sJ]at B
       let⟨hbit,honly⟩:=B
       have az:=sK _ _ hjt;have aQ:=oR.2 ⟨_,hjt⟩;rw[k.pD d,u.pD d];refine qw (λx z aR=>?_) (λ_ _ _ _=>rfl) _;have p:=PX.1 honly x z;rw[aR]at p;have v:x.i=jg:=by simpa using p
       have R:=uf z aQ (by omega);subst R;rw[P x z (by rw[az];exact hbit),u.fu x z (by rw[az];exact hbit)]
   have Z:Region.wanted o (yielded ops W.tmps)=T.on a.i:=by rw[<-hao];exact Qw k.tmps al
   let⟨d,hd⟩:=u.dst
   have aa:∀i',(c.setIfInBounds i true).getD i' false=(c.getD i' false ||decide (a.i=i')):=λi'=>by
     by_cases e:i=i'
     ·subst e;simp[Y,hai]
     simp_all
   have au:(c.setIfInBounds i true).toList.count false<=fuel:=by
     have p:c.toList[i]? =some false:=by
       rw[wA1];have:=O;rw[hai]at this;simpa[Y]using this
     have:=count_set c.toList i p;rw[Array.toList_setIfInBounds];omega
   have U:Ag (iO ops) (λi'=>(c.setIfInBounds i true).getD i' false):=by
     intro x z ab y A ar;simp only[aa,GY,AL]at ab⊢;rcases ab with ab|ab
     ·exact .inl (k.closed x z ab y A ar)
     ·grind[uf]
   have ac:∀d',hN (d.f t (T.val a.i)) d' = qb T.val (λi'=>(c.setIfInBounds i true).getD i' false) d' (iO ops) (hN t0 d'):=λd'=>by
     rw[Kh hd,G4 sK hp ha k.closed O aa (λ_ _=>rfl) d' (hN t0 d'),k.pD d']
   have next:∀j' C x w',fF C (T.val a.i) x->WR C (T.H j') w'->FR Δ C w w'->j'<=(gY (iO ops)).length->
       (∀q y,(gY (iO ops))[q]? =some y->((c.setIfInBounds i true).getD y.i false=true↔q<j'))->
       (∀y∈iO ops,cls y.o=1->T.on y.i=true->(c.setIfInBounds i true).getD y.i false=false->T.ep y.i<=j'->C (T.pl y.i)=none)->
       (∀l,Δ0 l=none->l<h0.next->C l=none)->wpAny P0 .any ops Q fuel (c.setIfInBounds i true) (W.put o.dst x) w':=by
     intro j' C x w' aS aT aA aU ae am an;have aV:j<=j':=by
       rcases Tu j' j with h|h
       ·exfalso
        have aB:j' < (gY (iO ops)).length:=by have:=k.ZI;omega
        have hg:=iz aB;have p:=(k.ahead j' _ hg).2 h
        grind
       ·exact h
     refine ih _ _ _ j' C (d.f t (T.val a.i)) (KK aN aV) au ⟨by simp[k.size],U,aU,ae,?_,ac,aT,k.frame.trans aA,an,by rw[wI hd];exact k.defers,am⟩;have:=KX (k.tmps.mono aA.le) hd aS;rw[hao]at this;exact this
   have aC:=KK K.more.1 (ET K.chain j j (by omega) k.ZI);have ag:j<=late (gY (iO ops)) a:=by
     rcases Tu (late (gY (iO ops)) a) j with h|h
     ·exfalso
      let⟨x,z,hxb⟩:=KW (gY (iO ops)) a (by have:=k.ZI;omega)
      have p:=(k.ahead _ x z).2 h;have:=k.closed x (rK (oR.2 ⟨_,z⟩)).1 p a ha hxb
      grind
     ·exact h
   have still:cls a.o≠2->∀q y,(gY (iO ops))[q]? =some y->((c.setIfInBounds i true).getD y.i false=true↔q<j):=by
     intro oS q y hq;rw[aa,<-k.ahead q y hq];have A:=rK (oR.2 ⟨_,hq⟩);have:¬a.i=y.i:=by grind[uf]
     simp[this]
   have aw:cls a.o≠2->T.ep a.i<=j:=by
     intro oS;have p:=u.epw oS
     cases he:T.ep a.i with
     |zero=>omega
     | succ e=>
       rw[he]at p;simp[ME]at p
       grind[rK,oR]
   have s:∀y∈iO ops,cls y.o=1->T.on y.i=true->(c.setIfInBounds i true).getD y.i false=false->T.ep y.i<=j->Δ (T.pl y.i)=none/\y.i≠a.i:=by
     intro y A p v R h4;rw[aa]at R;simp only[wBj,decide_eq_false_iff_not]at R;exact⟨k.zeN y A p v R.1 h4,λe=>R.2 e.symm⟩
   have J:∀y∈iO ops,cls y.o=1->T.on y.i=true->T.ep y.i<=j->T.pl y.i<(T.H j).next:=by
     intro y A p v R;rcases K.done y A with h4|h4
     ·simp at h4
     ·let⟨b,S,hbi⟩:=Q1.1 h4
      have:=uf A (hl b S) hbi.symm;subst this
      let⟨_,hity⟩:=K.item y S
      exact((hity.alloc p v).2.1 j R k.ZI).1
   have ax:cls a.o=2->isW (gY (iO ops)) a (T.ep a.i)=true->T.ep a.i=j/\(gY (iO ops))[j]? =some a:=by
     intro _ hw;unfold isW at hw;split at hw
     ·rename_i x z
      have aW:=uf (rK (oR.2 ⟨_,z⟩)).1 ha (yi hw);subst aW;have aD:(gY (iO ops))[j]? =some x:=by
        apply Classical.byContradiction;intro oS;exact hez ⟨(rK (oR.2 ⟨_,z⟩)).2,oS⟩
      exact⟨Ln z aD rfl,aD⟩
     ·cases hw
   have ah:cls a.o=2->isW (gY (iO ops)) a (T.ep a.i)=true->∀q y,(gY (iO ops))[q]? =some y->((c.setIfInBounds i true).getD y.i false=true↔q<j+1):=by
     intro m hw q y hq
     let⟨_,z⟩:=ax m hw
     rw[aa];simp only[GY,AL,k.ahead q y hq];constructor
     ·rintro(h|h)
      ·omega
      ·have:=Ln z hq h;omega
     ·grind
   have ai:cls a.o=2->isW (gY (iO ops)) a (T.ep a.i)=true->∀C w',WR C (T.G j) w'->Gr (T.H j) Δ (T.G j) C->
       ∀y∈iO ops,cls y.o=1->T.on y.i=true->(c.setIfInBounds i true).getD y.i false=false->T.ep y.i<=j+1->C (T.pl y.i)=none:=by
     intro m hw C w' aX aY y A p v R h4;rcases Tu j (T.ep y.i)with h5|h5
     ·let⟨_,hity⟩:=K.item y (F y A)
      have aE:=(hity.alloc p v).2.2.1 j h5
      cases hd':C (T.pl y.i)with
      |none=>rfl
      |some e=>have:=aX.fresh _ _ hd';omega
     ·exact aY.none _ (s y A p v R h5).1 (J y A p v h5)
   unfold wpOp;simp[ho];rw[Z]
   cases E:T.on a.i with
   | false=>
     simp[PM,if_false];have hv:=u.off E;rcases Lu a.o with m|m|m
     ·exact next j Δ undef w (by rw[hv];exact .undef Δ) k.world (.refl _ _) k.ZI (still (by rw[m];decide)) (by grind) k.none
     ·exact next j Δ undef w (by rw[hv];exact .undef Δ) k.world (.refl _ _) k.ZI (still (by rw[m];decide)) (by grind) k.none
     ·let⟨hep',_,hoff⟩:=u.write m
      let⟨hej,hxj⟩:=ax m hep'
      have hG:=hoff E;rw[hej]at hG;have aj:=(kE.1 hxj).1
      let⟨hm1,hm2⟩:=K.chain j (Ll _) aj
      have aF:WR Δ (T.G j) w:=by rw[hG];exact k.world
      exact next (j+1) Δ undef w (by rw[hv];exact .undef Δ) (aF.Rq hm2) (.refl _ _) aj (ah m hep') (ai m hep' Δ w aF (by rw[hG];exact .refl _ _)) k.none
   | true=>
     simp[if_true];left;rcases Lu a.o with m|m|m
     ·have aG:=u.pure m E j (aw (by rw[m];decide)) k.ZI ag
      rw[<-IX I]at aG;have ao:(B7 a.o).f call t (T.H j)=some (T.val a.i,T.H j):=by
        unfold B7;rw[m];simp only[fk];exact⟨_,aG,rfl⟩
      rw[<-hao];refine Qb hc k.world k.tmps ao λC x w' V=>?_;rw[hao]
      exact next j C x w' V.val V.world V.frame k.ZI (still (by rw[m];decide)) (λy A p v R h4=>V.grow.none _ (s y A p v R h4).1 (J y A p v h4))
        (λl' p v=>V.grow.none _ (k.none l' p v) (Dy v aC))
     ·let ⟨⟨mk,hav,zei⟩,hin,_,aE⟩:=u.alloc m E
      let⟨hpl,hob⟩:=hin j (aw (by rw[m];decide)) k.ZI
      have aH:=hob ag;rw[<-L1 I]at hav
      let⟨mo,mv,hrun,hmade⟩:=Td k.tmps hav
      have L:=k.zeN a ha m E O (aw (by rw[m];decide))
      let⟨dd,S,hor,hvr⟩:=hmade (T.pl a.i) w.heap.size L
      rw[<-hao];unfold Oper.wp;rw[hrun w,Oper.upon_value,hao];refine next j (Δ.set (T.pl a.i) dd) _ _ (by rw[zei];exact hvr) (k.world.lay L hpl aH S hor) (FR.lay L S) k.ZI (still (by rw[m];decide)) (λy A p v R h4=>?_) (λl' p v=>?_)
      ·let⟨e1,e2⟩:=s y A p v R h4
       have:=K.V5 y (F y A) a aO p m v E e2;unfold Env.set;rw[if_neg this];exact e1
      ·have:l'≠T.pl a.i:=by omega
       unfold Env.set;rw[if_neg this];exact k.none l' p v
     ·let ⟨hep',hrun,_⟩:=u.write m
      let⟨hej,hxj⟩:=ax m hep'
      have ao:=hrun E;rw[hej,<-NR I]at ao;have aj:=(kE.1 hxj).1
      let⟨hm1,hm2⟩:=K.chain j (Ll _) aj
      rw[<-hao];refine Qb hc k.world k.tmps ao λC x w' V=>?_;rw[hao]
      exact next (j+1) C x w' V.val (V.world.Rq hm2) V.frame aj (ah m hep') (ai m hep' C w' V.world V.grow)
        (λl' p v=>V.grow.none _ (k.none l' p v) (Dy v aC))
theorem WY(l:GS (gY (iO ops))=true) (fuel:Nat) (c:Array Bool) (d:Act) (w:World) (j:Nat) (Δ:Env) (t:Tm) (a:It) (_:0<=j) (_:c.toList.count false<=fuel+1) (m:Inv n ops t0 h0 Δ0 w0 T c j Δ t d w) (y:a∈iO ops)
  (s:cls a.o=2) (p:c.getD a.i false=false) (k:∀x∈iO ops,a.b.testBit x.i=true->c.getD x.i false=true) (oS:(gY (iO ops))[j]?≠some a) :
  wpOp P0 ops Q a.i (wpAny P0 .any ops Q fuel (c.setIfInBounds a.i true)) d w:=by
 exfalso;have f:a∈gY (iO ops):=by unfold gY;rw[Zm];exact by simp_all
 let⟨q,hq⟩:=oR.1 f
 have u:¬q<j:=λh=>by
  have:=(m.ahead _ a hq).2 h
  simp_all
 have v:q≠j:=by grind
 obtain⟨e,rfl⟩:∃e,q=e+1:=⟨q-1,by omega⟩
 have g:e<(gY (iO ops)).length:=by have:=(kE.1 hq).1;omega
 have r:=iz g;have z:=LX l e _ a r hq;have:=(m.ahead e _ r).1 (by grind[rK,Dg]);omega
theorem ko{x:Operand} (a:Rf x=true) (t:Tm) (h h':Hp):(rM x).f t h=(rM x).f t h':=by
 cases x <;> first|rfl|grind[Rf]
theorem Ty{o:Oper} (a:Kq o=true) (t:Tm) (h h':Hp):(iA o).f t h=(iA o).f t h':=by
 unfold Kq at a;unfold iA;split at a
 ·grind[ko]
 ·grind[zF,ko]
 ·grind[qA,ko]
 ·rename_i b;rw[b];rw[sJ]at a
  grind[qp,ko]
 ·cases a
theorem qa{o:Oper} {d:Nat} (h:storeAt o=some d):∃ty x,o.op = .store ty (.tmp d) x/\o.guard=none/\o.dst=none/\Rf x=true:=by
 grind[storeAt]
theorem LO{o:Oper} {d:Nat} (h:storeAt o=some d):cls o=2:=by
 grind[qa,cls]
theorem K9{o:Oper} {d:Nat} (hs:storeAt o=some d) {call:Call} {t:Tm} {h h':Hp} {v:V} (hv:(B7 o).f call t h=some (v,h')) :
  v = .undef/\∃l off e sz cs oY,hN t d = .ptr l off/\h.get l=some (.cells e sz true false cs)/\h' = h.put l (.cells e sz true false oY)/\
   ∀b,b.get l=h.get l->(B7 o).f call t b=some (.undef,b.put l (.cells e sz true false oY)):=by
 let⟨ty,x,hop,_,_,hx⟩:=qa hs
 have m:=LO hs
 have c:∀h,(B7 o).f call t h=oB ((jh o).f t h) λr=>match r with
   | .val v h=>some (v,h)
   | .call f args=>call f args h:=by
  intro h;unfold B7;split
  ·omega
  ·omega
  ·rfl
 rw[c,fk]at hv
 let⟨r,b,p⟩:=hv
 have j:∀h,(jh o).f t h=match ym ty with
   |some n=>oB ((rM (.tmp d)).f t h) λa=>oB ((rM x).f t h) λv=>rA a λl off=>bB (Nat.beq v.cells.length n) (oB (EC h l off v.cells) λh=>some (.val .undef h))
   |none=>none:=by
  intro h;unfold jh;rw[hop];simp only;generalize ym ty=z;cases z <;> rfl
 rw[j]at b
 cases hn:ym ty with
 |none=>simp_all
 | some n=>
   rw[hn]at b;simp only[fk,qj,gG]at b;obtain⟨a,q,vv,s,l,off,rfl,hlen,B,g,u⟩:=b;cases u;cases p;have i:=Option.some.inj (q);unfold EC at g;simp only[kI,gG,fk,wBl]at g;obtain⟨e,sz,live,ro,cs,w,rfl,rfl,k,oY,y,xh⟩:=g;cases xh;refine⟨rfl,l,off,e,sz,cs,oY,i,w,rfl,λb A=>?_⟩;rw[c,fk];refine⟨.val .undef (b.put l (.cells e sz true false oY)),?_,rfl⟩;rw[j,hn];simp only[fk,qj,gG];refine⟨.ptr l off,by rw[<-i];rfl,vv,by grind[ko],l,off,rfl,hlen,b.put l (.cells e sz true false oY),?_,rfl⟩;unfold EC;simp[kI,gG,fk,wBl]
   grind
theorem NJ:∀{l:List It} {a b:It},MP l=some (a,b)->∃p,l.length=p+2/\l[p]? =some a/\l[p+1]? =some b
 |[],_,_,h=>by cases h
 |[_],_,_,h=>by cases h
 |[x,y],a,b,h=>by cases h;simp_all
 | _::y::z::l,a,b,h=>by
   let⟨p,c,d,e⟩:=NJ (l:=y::z::l) h
   exact⟨p+1,by simp_all,by grind,by simp_all⟩
theorem Jb:∀{l:List It},Iz l=true->∀q a b,l[q]? =some a->l[q+1]? =some b->q+2<l.length->b.b.testBit a.i=true/\(q+3=l.length->∀c,l[q+2]? =some c->c.b.testBit a.i=true)
 |[],_,q,a,b,h,_,_=>by simp_all
 |[x],_,q,a,b,_,h,_=>by simp_all
 |[x,y],_,q,a,b,_,_,h=>by grind
 | x::y::z::l,hc,0,a,b,d,e,_=>by
   simp at d e;subst d;subst e;simp[Iz,sJ]at hc
   grind
 | x::y::z::l,hc,q+1,a,b,d,e,f=>by
   simp[Iz,sJ]at hc;have:=Jb hc.2 q a b (by simp_all) (by simp_all) (by simp_all)
   simp_all
theorem So{jQ ws:List It} {a b:It} {da db:Nat} (h:KA jQ ws=some (a,b,da,db)) :
  MP ws=some (a,b)/\storeAt a.o=some da/\storeAt b.o=some db/\fixed jQ a=true/\fixed jQ b=true/\Rj jQ a b=true/\Iz ws=true:=by
 unfold KA at h
 grind
structure zd6 (n:Nat) (ops:Array Oper) (t0:Tm) (h0:Hp) (Δ0:Env) (w0:World) (T:Tc) (c:Nat) (e:Hp) (b:Array Bool) (Δ:Env) (t:Tm) (a:Act) (w:World):Prop where
 size:b.size=ops.size
 closed:Ag (iO ops) (λi=>b.getD i false)
 ahead:∀x∈gY (iO ops),(b.getD x.i false=true↔x.i≠c)
 tmps:TR Δ n t a
 pD:∀d,hN t d=qb T.val (λi=>b.getD i false) d (iO ops) (hN t0 d)
 world:WR Δ e w
 frame:FR Δ0 Δ w0 w
 none:∀l,Δ0 l = .none->l<h0.next->Δ l = .none
 defers:t.ds=t0.ds
section
variable{a b:It}{da db p:Nat}
structure zfg (ops:Array Oper) (T:Tc) (a b:It) (da db p:Nat) (r:Tm×Hp):Prop where
 len:(gY (iO ops)).length=p+2
 ga:(gY (iO ops))[p]? =some a
 gb:(gY (iO ops))[p+1]? =some b
 sa:storeAt a.o=some da
 sb:storeAt b.o=some db
 fa:fixed (iO ops) a=true
 fb:fixed (iO ops) b=true
 op:Rj (iO ops) a b=true
 ch:Iz (gY (iO ops))=true
 apart:YG (hN r.1 da) (hN r.1 db)=true
theorem PU(h:Rj (iO ops) a b=true) {x:It} (c:x∈iO ops) (d:x.i≠a.i) (e:x.i≠b.i) (f:¬(a.b.testBit x.i=true/\b.b.testBit x.i=true)) :
  cls x.o=0/\Kq x.o=true/\x.o.guard=none/\x.b.testBit a.i=false/\x.b.testBit b.i=false:=by
 have:=PX.1 h x c;simp[ sJ]at this
 grind[yi]
theorem LD{l:List It} (g:sF n ops.toList (iO ops) (gY (iO ops)) call t0 h0 l 0 0 h0 [] r T T) {x:It} (h:x∈iO ops) (c:fixed (iO ops) x=true) {D:Nat->Bool} (j:∀y∈iO ops,x.b.testBit y.i=true->D y.i=true)
  {d:Nat} (hd:d∈BI x.o.op.operands.toList) (a:V):qb T.val D d (iO ops) a=qb T.val (λ_=>true) d (iO ops) a:=by
 refine qw (λy e f=>?_) (by simp_all) a;have k:=PX.1 (PX.1 c d hd) y e
 grind[writes]
theorem Gc{o:Oper} {d:Nat} (h:storeAt o=some d):d∈BI o.op.operands.toList:=by
 grind[qa,Op.operands,BI]
end
section
variable{a b:It}{da db p:Nat}{l:List It}
theorem Z4{H e i:Hp} {d lb:Nat} {j ob:O} (a:d<H.next) (f:lb<H.next) (oS:d≠lb) (k:Cr (H.put d j) e) (l:Cr (e.put lb ob) i):Cr ((H.put lb ob).put d j) i:=by
 have b:H.next<=e.next:=k.1;have g:=l.1;refine⟨KK b g,λx m=>?_⟩;have c:=m;rw[l.2 x (Dy c b)];rw[jz (h:=H.put lb ob) _ _ a,jz _ _ (by omega),jz _ _ f];rw[k.2 x c,jz _ _ a]
 grind
theorem zdn(hc : rH call) (hp:qS (iO ops)=true) (aD:(iO ops).all (DE (iO ops))=true) (al:(iO ops).all AX=true) (hl:∀a∈l,a∈iO ops)
    (V:sF n ops.toList (iO ops) (gY (iO ops)) call t0 h0 l 0 0 h0 [] r T T) (u:zfg ops T a b da db p r)
    (aE:r.1.ds=t0.ds) (hQ:∀Δ' a' w',xJ Δ0 h0 w0 n r.1 r.2 Δ' a' w'->Q .normal a' w') {la lb:Nat} {ob:O} (aT:la<(T.H p).next) (aF:lb<(T.H p).next) (oS:la≠lb)
    (aG:∀t,hN t da=hN r.1 da->∃oa,(T.G p)=(T.H p).put la oa/\∀k,k.get la=(T.H p).get la->(∀x∈a.o.op.operands.toList,Alike t (T.tt a.i) x)->(B7 a.o).f call t k=some (.undef,k.put la oa))
    (aU:T.G (p+1)=(T.H (p+1)).put lb ob) :
    ∀fuel c m w Δ t,c.toList.count false<=fuel->zd6 n ops t0 h0 Δ0 w0 T a.i ((T.H p).put lb ob) c Δ t m w->wpAny P0 .any ops Q fuel c m w:=by
  have ha:=(rK (oR.2 ⟨_,u.ga⟩)).1;have hb:=(rK (oR.2 ⟨_,u.gb⟩)).1;have aH:a.i≠b.i:=λe=>by
    have:=Ln u.ga u.gb e;omega
  have am:=oR.2 ⟨_,u.ga⟩;have an:=oR.2 ⟨_,u.gb⟩;have I:∀{c Δ t m w},zd6 n ops t0 h0 Δ0 w0 T a.i ((T.H p).put lb ob) c Δ t m w->c.getD a.i false=false:=λg=>by
    cases h:Array.getD _ a.i false with
    |false=>rfl
    |true=>exact absurd rfl ((g.ahead a am).1 h)
  have ac:∀{c Δ t m w},zd6 n ops t0 h0 Δ0 w0 T a.i ((T.H p).put lb ob) c Δ t m w->c.getD b.i false=true:=λg=>(g.ahead b an).2 (λe=>aH e.symm);intro fuel
  induction fuel with
  | zero=>
    intro c m w Δ t ao g;exfalso;have k:=I g;have J:a.i<c.size:=by rw[g.size];exact(Zy.1 (NS ha)).1
    have:false∈c.toList:=by
      have:c[a.i]=false:=by simpa[J]using k
      rw[<-this];simp
    have:=List.count_pos_iff.2 this
    omega
  | succ fuel ih=>
    intro c m w Δ t ao g;refine⟨λhr=>?_,λi hi=>?_⟩
    ·exfalso
     have aq : ∀i,i<ops.size->c.getD i false=true:=by
       intro i
       induction i using Nat.strongRecOn with
       | _ i aI=>
         intro hi
         cases W:c.getD i false with
         |true=>rfl
         | false=>
           exfalso;have ho:=Array.getElem?_eq_getElem hi
           let⟨x,hx,hxi,hxo,_⟩:=Na ho
           have C:i∈Region.ready .any ops c:=by
             rw[mem_ready];refine⟨?_,ops[i],ho,λe he ar=>?_⟩
             ·have:i<c.size:=by rw[g.size];exact hi
              simp[this]at W⊢;exact W
             ·have k:=PX.1 al x hx
              unfold AX at k;rw[hxo,hxi]at k;have X:=PX.1 k e (by simpa using he);rw[<-G7,ar]at X;simp[wBc,Bool.false_or,RP]at X;exact aI e.on X (by omega)
           rw[hr]at C;cases C
     have:=aq a.i (Zy.1 (NS ha)).1;rw[I g]at this;cases this
    rw[mem_ready]at hi
    let⟨qH,o,ho,hedges⟩:=hi
    let⟨y,U,hyi,hyo,hgety⟩:=Na ho
    have J:i<c.size:=by rw[g.size];exact(Zy.1 ho).1
    have K:c.getD y.i false=false:=by rw[hyi];simp[J]at qH⊢;exact qH
    have E:∀x∈iO ops,y.b.testBit x.i=true->c.getD x.i false=true:=by
      intro x hx W
      let⟨e,he,hbe,k⟩:=Nj hgety W
      rw[hyo]at he;have L:=hedges e (by simpa using he) (by rw[G7];exact hbe);rcases k with k|⟨z,v,B⟩
      ·rw[k];exact L
      ·have aV:=sK _ _ v
       exact g.closed z (oR.2 ⟨_,v⟩) (by simp_all) x hx B
    have Y:∀y∈iO ops,y∈l:=by
      intro y U;rcases V.done y U with k|k
      ·simp at k
      ·grind[uf]
    let⟨D,hit⟩:=V.item y (Y y U)
    have Z:∀d,d∈qI y.o->hN t d=hN (T.tt y.i) d:=λd hd=>by
      rw[g.pD d,hit.pD d];exact II sK hp U g.closed hit.closed E hit.fu K hit.fresh hd _ _
    have F:∀x∈y.o.op.operands.toList,Alike t (T.tt y.i) x:=IT λd hd=>Z d (by simp[qI,hd])
    let⟨d,hd⟩:=hit.dst
    have M:∀i',(c.setIfInBounds i true).getD i' false=(c.getD i' false ||decide (y.i=i')):=λi'=>by
      by_cases e:i=i'
      ·subst e;simp[J,hyi]
      simp_all
    have N:(c.setIfInBounds i true).toList.count false<=fuel:=by
      have k:c.toList[i]? =some false:=by
        rw[wA1];have:=K;rw[hyi]at this;simpa[J]using this
      have:=count_set c.toList i k;rw[Array.toList_setIfInBounds];omega
    have s:Ag (iO ops) (λi'=>(c.setIfInBounds i true).getD i' false):=by
      intro x hx P z v B;simp only[M,GY,AL]at P⊢;rcases P with P|P
      ·exact .inl (g.closed x hx P z v B)
      ·grind[uf]
    have A:∀d',hN (d.f t (T.val y.i)) d' = qb T.val (λi'=>(c.setIfInBounds i true).getD i' false) d' (iO ops) (hN t0 d'):=λd'=>by
      rw[Kh hd,G4 sK hp U g.closed K M (λ_ _=>rfl) d' (hN t0 d'),g.pD d']
    have au:=KK V.more.1 (ET V.chain p p (by omega) (by have:=u.len;omega));have ae:=λab=>by
      have aJ:y.i≠b.i:=by grind
      refine PU u.op U ab aJ λ⟨_,aw⟩=>?_;have:=g.closed b hb (ac g) y U aw
      simp_all
    by_cases hya:y.i=a.i
    ·
      have ax:=uf U ha hya;subst ax;have L:Region.wanted o (yielded ops m.tmps)=true:=by
        let⟨_,_,_,hg,_⟩:=qa u.sa
        unfold Region.wanted;rw[<-hyo,hg]
      unfold wpOp;simp[ho];rw[L];simp[if_true];left
      let ⟨oa,hGa,hrun⟩:=aG t (by
        rw[g.pD da,V.pD da];exact LD V U u.fa E (Gc u.sa) _)
      have ag:=hrun ((T.H p).put lb ob) (by rw[jz _ _ aF,if_neg (λe=>oS e.symm)]) F;rw[<-hyo];refine Qb hc g.world g.tmps ag λΔ' x w' R=>?_;rw[hyo];have hlen:=u.len;have aS:=V.chain p (Ll _) (by omega);have aK:=V.chain (p+1) (Ll _) (by omega);have hm:Cr (((T.H p).put lb ob).put la oa) (T.H (p+2)):=by grind[Z4]
      have ah:∀q z,(gY (iO ops))[q]? =some z->((c.setIfInBounds i true).getD z.i false=true↔q<p+2):=λq z v=>by
        have aL:=(kE.1 v).1;constructor
        ·intro _;omega
        ·intro _
         rw[M];by_cases e:z.i=y.i
         ·simp[e]
         ·rw[(g.ahead z (oR.2 ⟨_,v⟩)).2 e];rfl
      have ay:(d.f t (T.val y.i)).ds=t0.ds:=by rw[wI hd];exact g.defers
      have aa:y.o.dst=none:=by let⟨_,_,_,_,h5,_⟩:=qa u.sa;exact h5
      have aM:TR Δ' n (d.f t (T.val y.i)) (m.put o.dst x):=by
        have k:=KX (g.tmps.mono R.frame.le) hd R.val;rw[hyo]at k;have e:d.f t (T.val y.i)=d.f t .undef:=by
          unfold tP at hd;rw[aa]at hd;cases hd;rfl
        rw[e];exact k
      refine VK hc hp aD al (p+2) (λfuel c m w j Δ t a' hj _ aN aO az ai _ ab=>?_) hl V aE hQ fuel _ _ _ (p+2) Δ' (d.f t (T.val y.i)) (jv _) N
        ⟨by simp[g.size],s,by omega,ah,aM,A,R.world.Rq hm,g.frame.trans R.frame,λl' k X=>R.grow.none _ (g.none l' k X) (Dy X au),ay,λz v aA aW aj _=>?_⟩
      ·exfalso
       have C:a'∈gY (iO ops):=by unfold gY;rw[Zm];exact⟨aO,by rw[az];rfl⟩
       let⟨q,hq⟩:=oR.1 C
       have k:=(kE.1 hq).1;have:=(aN.ahead _ a' hq).2 (by omega);rw[ai]at this;cases this
      ·exfalso
       rw[M]at aj;simp only[wBj,decide_eq_false_iff_not]at aj;have B:z.i≠b.i:=by grind
       have:=PU u.op v (λe=>aj.2 e.symm) B (by grind);rw[this.1]at aA;cases aA
    ·
      let⟨hc0,BY,hgn,hba,aw⟩:=ae hya
      have aP:pQ n ops.toList y.o (T.tt y.i)=some true:=by unfold pQ jY;rw[hgn]
      have L:T.on y.i=true:=by
        have:=hit.pQ;rw[aP]at this;exact(Option.some.inj this).symm
      have S:Region.wanted o (yielded ops m.tmps)=true:=by
        unfold Region.wanted;rw[<-hyo,hgn]
      have hlen :=u.len;have aQ:T.ep y.i<=p:=by
        have k:=hit.epw (by rw[hc0];decide)
        cases he:T.ep y.i with
        |zero=>omega
        | succ e=>
          rw[he]at k;simp[ME]at k;split at k
          ·rename_i z v
           have aL:=(kE.1 v).1;rcases Tu e p with h|h
           ·omega
           ·exfalso
            have:e=p\/e=p+1:=by omega
            rcases this with e1|e1
            ·subst e1
             rw[u.ga]at v;simp_all
            ·subst e1
             rw[u.gb]at v;simp_all
          ·cases k
      have ak:p<=late (gY (iO ops)) y:=by
        rcases Tu (late (gY (iO ops)) y) p with h|h
        ·exfalso
         let⟨z,v,B⟩:=KW (gY (iO ops)) y (by omega)
         have aB:=oR.2 ⟨_,v⟩;have aR:z.i≠a.i:=λe=>by
           have:=Ln v u.ga e;omega
         have:=g.closed z (rK aB).1 ((g.ahead z aB).2 aR) y U B
         simp_all
        ·exact h
      have aC:=hit.pure hc0 L p aQ (by omega) ak;rw[<-IX F,Ty BY t _ ((T.H p).put lb ob)]at aC;have ag:(B7 y.o).f call t ((T.H p).put lb ob)=some (T.val y.i,(T.H p).put lb ob):=by
        unfold B7;rw[hc0];simp only[fk];exact⟨_,aC,rfl⟩
      unfold wpOp;simp[ho];rw[S];simp[if_true];left;rw[<-hyo];refine Qb hc g.world g.tmps ag λΔ' x w' R=>?_;rw[hyo];refine ih _ _ _ Δ' (d.f t (T.val y.i)) N ⟨by simp[g.size],s,λz v=>?_,?_,A,R.world,g.frame.trans R.frame,λl' k X=>R.grow.none _ (g.none l' k X) (Dy X au),by rw[wI hd];exact g.defers⟩
      ·rw[M]
       have:¬y.i=z.i:=by grind[uf,rK]
       simp only[this,decide_false,Bool.or_false];exact g.ahead z v
      ·have k:=KX (g.tmps.mono R.frame.le) hd R.val
       rw[hyo]at k;exact k
end
section
variable{a b:It}{da db p:Nat}{l:List It}
theorem YT(hc:rH call) (hp:qS (iO ops)=true) (ao:(iO ops).all (DE (iO ops))=true) (aq:(iO ops).all AX=true) (hl:∀a∈l,a∈iO ops)
  (C:sF n ops.toList (iO ops) (gY (iO ops)) call t0 h0 l 0 0 h0 [] r T T) (g:zfg ops T a b da db p r)
  (ar:r.1.ds=t0.ds) (hQ:∀Δ' a' w',xJ Δ0 h0 w0 n r.1 r.2 Δ' a' w'->Q .normal a' w')
  (fuel:Nat) (c:Array Bool) (E:Act) (w:World) (j:Nat) (Δ:Env) (t:Tm) (y:It) (_:0<=j) (aF:c.toList.count false<=fuel+1) (s:Inv n ops t0 h0 Δ0 w0 T c j Δ t E w) (V:y∈iO ops)
  (aa:cls y.o=2) (F:c.getD y.i false=false) (m:∀x∈iO ops,y.b.testBit x.i=true->c.getD x.i false=true) (oS:(gY (iO ops))[j]?≠some y) :
  wpOp P0 ops Q y.i (wpAny P0 .any ops Q fuel (c.setIfInBounds y.i true)) E w:=by
 have hlen:=g.len;have ha:=(rK (oR.2 ⟨_,g.ga⟩)).1;have ab:y∈gY (iO ops):=by unfold gY;rw[Zm];exact by simp_all
 let⟨q,hq⟩:=oR.1 ab
 have aG:=(kE.1 hq).1;have aH:¬q<j:=λh=>by
  have:=(s.ahead _ y hq).2 h
  simp_all
 have aI:q≠j:=by grind
 have au:q=p+1/\j=p:=by
  obtain⟨e,rfl⟩:∃e,q=e+1:=⟨q-1,by omega⟩
  have O:e<(gY (iO ops)).length:=by omega
  have hg:=iz O;rcases Tu e p with h|h
  ·exfalso;have W:=(Jb g.ch e _ y hg hq (by omega)).1;have:=(s.ahead e _ hg).1 (m _ (rK (Dg O)).1 W);omega
  ·have he:e=p:=by omega
   subst he;refine⟨rfl,?_⟩;rcases Tu j e with h2|h2
   ·exfalso;obtain⟨f,rfl⟩:∃f,e=f+1:=⟨e-1,by omega⟩
    have ac:f<(gY (iO ops)).length:=by omega
    have ae:=iz ac;have W:=(Jb g.ch f _ a ae g.ga (by omega)).2 (by omega) y hq;have:=(s.ahead f _ ae).1 (m _ (rK (Dg ac)).1 W);omega
   ·omega
 obtain⟨rfl,rfl⟩:=au;have aw:y=b:=by rw[g.gb]at hq;cases hq;rfl
 subst aw;have v:∀y∈iO ops,y∈l:=by
  intro y V;rcases C.done y V with u|u
  ·simp at u
  ·grind[uf]
 let⟨D,hit⟩:=C.item y (v y V)
 let⟨Da,hita⟩:=C.item a (v a ha)
 have G:=LO g.sa;have epw:∀{x:It} {D:Nat->Bool} {k:Nat},Oh n ops.toList (iO ops) (gY (iO ops)) call t0 h0 T D x->cls x.o=2->(gY (iO ops))[k]? =some x->T.ep x.i=k:=λ{x D k} P ax aJ=>by
  have u:=(P.write ax).1
  grind[isW,Ln,yi]
 have ag:=epw hit aa g.gb;have ah:=epw hita G g.ga;have R:∀{x:It} {D:Nat->Bool} {d:Nat},Oh n ops.toList (iO ops) (gY (iO ops)) call t0 h0 T D x->storeAt x.o=some d->T.on x.i=true:=λ{x D d} P hs=>by
  let⟨_,_,_,hg,_⟩:=qa hs
  have:=P.pQ
  grind[pQ,jY]
 have an:∀d,d∈qI y.o->hN t d=hN (T.tt y.i) d:=λd hd=>by
  rw[s.pD d,hit.pD d];exact II sK hp V s.closed hit.closed m hit.fu F hit.fresh hd _ _
 have L:∀x∈y.o.op.operands.toList,Alike t (T.tt y.i) x:=by grind[IT,qI]
 have S:=(hita.write G).2.1 (R hita g.sa);rw[ah]at S
 let⟨_,la,offa,ea,sza,csa,csa',hta,hga,hGa,hruna⟩:=K9 g.sa S
 have A:=(hit.write aa).2.1 (R hit g.sb);rw[ag]at A
 let⟨_,lb,offb,eb,szb,csb,csb',htb,hgb,hGb,_⟩:=K9 g.sb A
 rw[<-NR L]at A
 let⟨_,lb2,offb2,eb2,szb2,csb2,csb2',htb2,hgb2,hGb2,hrunb⟩:=K9 g.sb A
 have ay:hN (T.tt a.i) da=hN r.1 da:=by
  rw[hita.pD da,C.pD da];exact LD C ha g.fa hita.fu (Gc g.sa) _
 have az:hN t db=hN r.1 db:=by
  rw[s.pD db,C.pD db];exact LD C V g.fb m (Gc g.sb) _
 have ai:la≠lb2:=λe=>by
  have:=g.apart;rw[<-ay,<-az,hta,htb2,e]at this;have h2:(!(Nat.beq lb2 lb2))=true:=this
  simp_all
 have aj:=Hp.BP hga;have ak:lb2<(T.H j).next:=by
  have u:=s.tmps.rel db;rw[htb2]at u
  cases P:E.tmps.getD db undef with
  | pointer p=>
    rw[P]at u
    cases u with
    |ptr _ _ d hd=>exact s.world.fresh _ _ hd
  |_=>rw[P]at u;cases u
 have aA:=C.chain j (Ll _) (by omega);have al:(T.H j).get lb2=(T.H (j+1)).get lb2:=by
  rw[aA.2.2 lb2 (by rw[hGa];exact ak),hGa,jz _ _ aj,if_neg ai]
 have aB:=hrunb (T.H j) al;have U:=NS V;have I:Region.wanted y.o (yielded ops E.tmps)=true:=by
  let⟨_,_,_,hg,_⟩:=qa g.sb
  unfold Region.wanted;rw[hg]
 let⟨d,hd⟩:=hit.dst
 have am:y.i<c.size:=by rw[s.size];exact(Zy.1 U).1
 have X:∀M,(c.setIfInBounds y.i true).getD M false=(c.getD M false ||decide (y.i=M)):=λM=>by
  by_cases e:y.i=M
  ·rw[<-e];simp[am]
  simp_all
 have Y:(c.setIfInBounds y.i true).toList.count false<=fuel:=by
  have u:c.toList[y.i]? =some false:=by
   rw[wA1];simpa[am]using F
  have:=count_set c.toList y.i u;rw[Array.toList_setIfInBounds];omega
 have B:Ag (iO ops) (λM=>(c.setIfInBounds y.i true).getD M false):=by
  intro x P J z hz aC;simp only[X,GY,AL]at J⊢;rcases J with J|J
  ·exact .inl (s.closed x P J z hz aC)
  ·grind[uf]
 have K:∀Z,hN (d.f t (T.val y.i)) Z=qb T.val (λM=>(c.setIfInBounds y.i true).getD M false) Z (iO ops) (hN t0 Z):=λZ=>by
  rw[Kh hd,G4 sK hp V s.closed F X (λ_ _=>rfl) Z (hN t0 Z),s.pD Z]
 have aD:=KK C.more.1 (ET C.chain j j (by omega) (by omega));unfold wpOp;simp[U];rw[I];simp[if_true];left;refine Qb hc s.world s.tmps aB λΔ' x w' hA=>?_;have N:y.o.dst=none:=by let⟨_,_,_,_,h5,_⟩:=qa g.sb;exact h5
 have aE:TR Δ' n (d.f t (T.val y.i)) (E.put y.o.dst x):=by
  have u:=KX (s.tmps.mono hA.frame.le) hd hA.val;have e:d.f t (T.val y.i)=d.f t .undef:=by
   unfold tP at hd;rw[N]at hd;cases hd;rfl
  rw[e];exact u
 refine zdn hc hp ao aq hl C g ar hQ aj ak ai (λt' aK=>⟨.cells ea sza true false csa',hGa,λu aL aM=>?_⟩) hGb2 fuel _ _ _ Δ' (d.f t (T.val y.i)) Y
  ⟨by simp[s.size],B,λz hz=>?_,aE,K,hA.world,s.frame.trans hA.frame,λl' u h2=>hA.grow.none _ (s.none l' u h2) (Dy h2 aD),by rw[wI hd];exact s.defers⟩
 ·grind[NR]
 ·let ⟨k,hk⟩:=oR.1 hz
  have aN:=(kE.1 hk).1;rw[X];simp only[GY,AL,s.ahead k z hk];constructor
  ·rintro(h|h)
   ·intro e;have:=Ln hk g.ga e;omega
   grind
  ·intro aO;rcases Tu k j with h|h
   ·exact .inl h
   ·right;have aP:k≠j:=λe=>by
     subst e;rw[g.ga]at hk;simp_all
    have:k=j+1:=by omega
    simp_all
end
end
