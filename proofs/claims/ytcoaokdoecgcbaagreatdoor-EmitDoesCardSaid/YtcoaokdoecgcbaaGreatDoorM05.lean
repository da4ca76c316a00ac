/- Parts. -/
import Derived.Test.YtcoaokdoecgcbaaGreatDoorM04
set_option maxHeartbeats 4000000
namespace Go.Proofs.YtcoaokdoecgcbaaGreatDoor.Hx
variable{o:Oper}{d:Nat}{x:It}
theorem N8:∀ws a,late ws a<ws.length->∃w,ws[late ws a]? =some w/\w.b.testBit a.i=true
 |[],a,h=>by simp_all
 | w ::ws,a,h=>by
   unfold late at h⊢;split
   ·simp_all
   ·rename_i c
    simp[c,Re]at h
    let⟨w',d,e⟩:=N8 ws a (by omega)
    simp_all
theorem OK:∀{l:List It},Js l=true->∀q a b,l[q]? =some a->l[q+1]? =some b->b.b.testBit a.i=true
 |[],_,q,a,b,h,_=>by simp_all
 |[x],_,q,a,b,_,h=>by simp_all
 | x::y::l,hc,0,a,b,c,d=>by
   simp_all[Js,yF]
 | x::y::l,hc,q+1,a,b,c,d=>by
   simp[Js,yF]at hc;exact OK hc.2 q a b (by simp_all) (by simp_all)
theorem count_set:∀(l:List Bool) i,l[i]? =some false->(l.set i true).count false<l.count false
 |[],i,h=>by simp_all
 |b::l,0,h=>by simp_all
 | b::l,i+1,h=>by
   grind
theorem VW{n:Nat} {all:List Oper}  {t t':Tm} (h:∀j w a d,o.guard=some (j,w)->all[j]? =some a->a.dst=some d->ij t d=ij t' d):rz n all o t=rz n all o t':=by
 unfold rz kE
 grind
theorem Ui{Δ:Env} {n:Nat} {t:Tm} {a:Act} (c:TR Δ n t a) {ops:Array Oper} {o:Oper} {b:Bool} (h:rz n ops.toList o t=some b):Region.wanted o (yielded ops a.tmps)=b:=by
 grind[rz,NA,SM]
section
variable{n:Nat}{ops:Array Oper}{call:Call}{t0:Tm}{h0:Hp}{Δ0:Env}{w0:World}{T:Tc}{r:Tm×Hp}{Q:Exit->Act->World->Prop}
abbrev je(ops:Array Oper):List It:=items ops.toList 0 []
theorem vF(k:Nat) (x:It) (h:(je ops)[k]? =some x):x.i=k:=by
 have:=(Ee _ _ _ _ _ h).1;omega
theorem xA{y:It} (a:x∈je ops) (b:y∈je ops) (h:x.i=y.i):x=y:=by
 grind[mz,vF]
theorem Q3 (a:x∈je ops):ops[x.i]? =some x.o:=by
 let⟨i,hi⟩:=mz.1 a
 have b:=vF i x hi;have c:=(Ee _ _ _ _ _ hi).2
 simp_all
theorem Qn{i:Nat}  (h:ops[i]? =some o):∃a,a∈je ops/\a.i=i/\a.o=o/\(je ops)[i]? =some a:=by
 have c:i<ops.size:=by grind
 have b:i<(je ops).length:=by rw[Mg];simpa using c
 have d:(je ops)[i]? =some (je ops)[i]:=by simp_all
 refine⟨(je ops)[i],AL b,vF _ _ d,?_,d⟩;have e:=(Ee _ _ _ _ _ d).2
 simp_all
theorem uz (h:x∈hH (je ops)):x∈je ops/\cls x.o=2:=by
 grind[hH,DG]
theorem zaN:(hH (je ops)).Pairwise λa b=>a.i<b.i:=by
 refine List.Pairwise.filter _ ?_;rw[wBI];intro i j hi c d;have e:=vF i _ (hZ hi);have f:=vF j _ (hZ c);omega
theorem Ns{q a:Nat} {y:It} (hq:(hH (je ops))[q]? =some x) (b:(hH (je ops))[a]? =some y) (h:x.i=y.i):q=a:=by
 grind[zaN,wBI]
structure Inv (n:Nat) (ops:Array Oper) (t0:Tm) (h0:Hp) (Δ0:Env) (w0:World) (T:Tc) (b:Array Bool) (j:Nat) (Δ:Env) (t:Tm) (a:Act) (w:World):Prop where
 size:b.size=ops.size
 closed:A6 (je ops) (λi=>b.getD i false)
 jle:j<=(hH (je ops)).length
 ahead:∀q x,(hH (je ops))[q]? =some x->(b.getD x.i false=true↔q<j)
 tmps:TR Δ n t a
 qz:∀d,ij t d=rY T.val (λi=>b.getD i false) d (je ops) (ij t0 d)
 world:WR Δ (T.H j) w
 frame:FR Δ0 Δ w0 w
 none:∀l,Δ0 l = .none->l<h0.next->Δ l = .none
 defers:t.ds=t0.ds
 zgT:∀x∈je ops,cls x.o=1->T.on x.i=true->b.getD x.i false=false->T.ep x.i<=j->Δ (T.pl x.i) = .none
theorem YQ(hc:xo call) (hp:tw (je ops)=true) (aH:(je ops).all (FM (je ops))=true) (aI:(je ops).all Cw=true)
  (j0:Nat) (aY:∀fuel c W w j Δ t a,j0<=j->c.toList.count false<=fuel+1->Inv n ops t0 h0 Δ0 w0 T c j Δ t W w->a∈je ops->cls a.o=2->c.getD a.i false=false->
   (∀x∈je ops,a.b.testBit x.i=true->c.getD x.i false=true)->(hH (je ops))[j]?≠some a->wpOp P0 ops Q a.i (wpAny P0 .any ops Q fuel (c.setIfInBounds a.i true)) W w)
  {l:List It} (hl:∀a∈l,a∈je ops) (K:vt n ops.toList (je ops) (hH (je ops)) call t0 h0 l 0 0 h0 [] r T T)
  (aJ:r.1.ds=t0.ds) (hQ:∀C a' w',AG Δ0 h0 w0 n r.1 r.2 C a' w'->Q .normal a' w') :
  ∀fuel c a w j Δ t,j0<=j->c.toList.count false<=fuel->Inv n ops t0 h0 Δ0 w0 T c j Δ t a w->wpAny P0 .any ops Q fuel c a w:=by
 have X:∀c,c.size=ops.size->Region.ready .any ops c=[]->∀x∈je ops,c.getD x.i false=true:=by
  intro c aZ hr;have aK:∀i,i<ops.size->c.getD i false=true:=by
   intro i
   induction i using Nat.strongRecOn with
   | _ i ih=>
     intro hi
     cases S:c.getD i false with
     |true=>rfl
     | false=>
       exfalso;have ho:=Array.getElem?_eq_getElem hi
       let⟨x,z,hxi,hxo,_⟩:=Qn ho
       have ao:i∈Region.ready .any ops c:=by
         rw[mem_ready];refine⟨?_,ops[i],ho,λe he aL=>?_⟩
         ·simp_all
         ·have p:=Sx.1 aI x z
          unfold Cw at p;rw[hxo,hxi]at p;have v:=Sx.1 p e (by simpa using he);rw[<-Jj,aL]at v;simp[Bool.not_true,Bool.false_or,Yh]at v;exact ih e.on v (by omega)
       rw[hr]at ao;cases ao
  intro x z;exact aK x.i (wAt.1 (Q3 z)).1
 have M:∀c a w j Δ t,Inv n ops t0 h0 Δ0 w0 T c j Δ t a w->(∀x∈je ops,c.getD x.i false=true)->Q .normal a w:=by
  intro c a w j Δ t k N;have hj:j=(hH (je ops)).length:=by
   rcases Sf j (hH (je ops)).length with h|h
   ·have hg:=hZ h;have:=(k.ahead j _ hg).1 (N _ (uz (AL h)).1);omega
   ·have:=k.jle;omega
  subst hj;refine hQ Δ a w ⟨⟨k.tmps.size,λi=>?_,by rw[aJ,<-k.defers];exact k.tmps.ds⟩,by rw[K.last];exact k.world,k.frame,⟨?_,k.none⟩⟩
  ·have p:=k.tmps.rel i;rw[k.qz i,sS (D':=λ_=>true) (λx z _=>N x z) (λ_ _ _ _=>rfl),<-K.qz i]at p;exact p
  ·rw[K.last];exact OA K.more.1 (Jb K.chain _ _ (by rw[Jn]) (jJ _))
 intro fuel
 induction fuel with
 | zero =>
   intro c a w j Δ t _ ax k;have N:∀x∈je ops,c.getD x.i false=true:=by
     intro x z;have Y:x.i<c.size:=by rw[k.size];exact(wAt.1 (Q3 z)).1
     cases S:c.getD x.i false with
     |true=>rfl
     | false=>
       exfalso;have:false∈c.toList:=by
         have:c[x.i]=false:=by simpa[Y]using S
         rw[<-this];simp
       have:=List.count_pos_iff.2 this;omega
   refine⟨?_,M _ _ _ _ _ _ k N⟩;rw[List.eq_nil_iff_forall_not_mem]
   grind[mem_ready,Qn,wAt]
 | succ fuel ih=>
   intro c W w j Δ t aM ax k;refine⟨λhr=>M _ _ _ _ _ _ k (X _ k.size hr),λi hi=>?_⟩;rw[mem_ready]at hi
   let⟨wI,o,ho,hedges⟩:=hi
   let⟨a,ha,hai,hao,hgeta⟩:=Qn ho
   have Y:i<c.size:=by rw[k.size];exact(wAt.1 ho).1
   have O:c.getD a.i false=false:=by rw[hai];simp[Y]at wI⊢;exact wI
   have P:∀x∈je ops,a.b.testBit x.i=true->c.getD x.i false=true:=by
     intro x z S
     let⟨e,he,hbe,p⟩:=QH hgeta S
     rw[hao]at he;have E:=hedges e (by simpa using he) (by rw[Jj];exact hbe);rcases p with p|⟨y,A,aq⟩
     ·rw[p];exact E
     ·have a0:=vF _ _ A
      exact k.closed y (mz.2 ⟨_,A⟩) (by simp_all) x z aq
   by_cases hez:cls a.o=2/\(hH (je ops))[j]?≠some a
   ·grind
   obtain ⟨D,u⟩:∃D,Ro n ops.toList (je ops) (hH (je ops)) call t0 h0 T D a:=by
     rcases K.done a ha with p|p
     ·simp at p
     ·let⟨b,S,hbi⟩:=V7.1 p
      rw[xA ha (hl b S) hbi.symm];exact K.item b S
   have F:∀y∈je ops,y∈l:=by
     intro y A;rcases K.done y A with p|p
     ·simp at p
     ·grind[xA]
   have aN:=F a ha;have aj:∀d,d∈tA a.o->ij t d=ij (T.tt a.i) d:=λd hd=>by
     rw[k.qz d,u.qz d];exact LD vF hp ha k.closed u.closed P u.fk O u.fresh hd _ _
   have I:∀x∈a.o.op.operands.toList,Alike t (T.tt a.i) x:=Ll λd hd=>aj d (by simp[tA,hd]);have ak:rz n ops.toList a.o t=some (T.on a.i):=by
     rw[<-u.rz];refine VW λjg wg oj d hg hj hd=>?_;have B:=Sx.1 aH a ha;unfold FM at B;rw[hg]at B;simp only at B
     cases hjt:(je ops)[jg]? with
     |none=>rw[hjt]at B;cases B
     | some g=>
       rw[hjt]at B;simp only at B;have aO:g.o=oj:=by
         have:=(Ee _ _ _ _ _ hjt).2;rw[hj]at this;cases this;rfl
       rw[aO,hd]at B;simp only[yF]at B
       let⟨hbit,honly⟩:=B
       have ay:=vF _ _ hjt;have aP:=mz.2 ⟨_,hjt⟩;rw[k.qz d,u.qz d];refine sS (λx z aQ=>?_) (λ_ _ _ _=>rfl) _;have p:=Sx.1 honly x z;rw[aQ]at p;have v:x.i=jg:=by simpa using p
       have R:=xA z aP (by omega);subst R;rw[P x z (by rw[ay];exact hbit),u.fk x z (by rw[ay];exact hbit)]
   have Z:Region.wanted o (yielded ops W.tmps)=T.on a.i:=by rw[<-hao];exact Ui k.tmps ak
   let⟨d,hd⟩:=u.dst
   have aa:∀i',(c.setIfInBounds i true).getD i' false=(c.getD i' false ||decide (a.i=i')):=λi'=>by
     by_cases e:i=i'
     ·subst e;simp[Y,hai]
     simp_all
   have ar:(c.setIfInBounds i true).toList.count false<=fuel:=by
     have p:c.toList[i]? =some false:=by
       rw[wBC];have:=O;rw[hai]at this;simpa[Y]using this
     have:=count_set c.toList i p;rw[Array.toList_setIfInBounds];omega
   have U:A6 (je ops) (λi'=>(c.setIfInBounds i true).getD i' false):=by
     intro x z ab y A aq;simp only[aa,JD,yU]at ab⊢;rcases ab with ab|ab
     ·exact .inl (k.closed x z ab y A aq)
     ·grind[xA]
   have ac:∀d',ij (d.f t (T.val a.i)) d' = rY T.val (λi'=>(c.setIfInBounds i true).getD i' false) d' (je ops) (ij t0 d'):=λd'=>by
     rw[LO hd,Jv vF hp ha k.closed O aa (λ_ _=>rfl) d' (ij t0 d'),k.qz d']
   have next:∀j' C x w',fV C (T.val a.i) x->WR C (T.H j') w'->FR Δ C w w'->j'<=(hH (je ops)).length->
       (∀q y,(hH (je ops))[q]? =some y->((c.setIfInBounds i true).getD y.i false=true↔q<j'))->
       (∀y∈je ops,cls y.o=1->T.on y.i=true->(c.setIfInBounds i true).getD y.i false=false->T.ep y.i<=j'->C (T.pl y.i)=none)->
       (∀l,Δ0 l=none->l<h0.next->C l=none)->wpAny P0 .any ops Q fuel (c.setIfInBounds i true) (W.put o.dst x) w':=by
     intro j' C x w' aR aS az aT ad al am;have aU:j<=j':=by
       rcases Sf j' j with h|h
       ·exfalso
        have aA:j' < (hH (je ops)).length:=by have:=k.jle;omega
        have hg:=hZ aA;have p:=(k.ahead j' _ hg).2 h
        grind
       ·exact h
     refine ih _ _ _ j' C (d.f t (T.val a.i)) (OA aM aU) ar ⟨by simp[k.size],U,aT,ad,?_,ac,aS,k.frame.trans az,am,by rw[yH hd];exact k.defers,al⟩;have:=PN (k.tmps.mono az.le) hd aR;rw[hao]at this;exact this
   have aB:=OA K.more.1 (Jb K.chain j j (by omega) k.jle);have ae:j<=late (hH (je ops)) a:=by
     rcases Sf (late (hH (je ops)) a) j with h|h
     ·exfalso
      let⟨x,z,hxb⟩:=N8 (hH (je ops)) a (by have:=k.jle;omega)
      have p:=(k.ahead _ x z).2 h;have:=k.closed x (uz (mz.2 ⟨_,z⟩)).1 p a ha hxb
      grind
     ·exact h
   have still:cls a.o≠2->∀q y,(hH (je ops))[q]? =some y->((c.setIfInBounds i true).getD y.i false=true↔q<j):=by
     intro nw q y hq;rw[aa,<-k.ahead q y hq];have A:=uz (mz.2 ⟨_,hq⟩);have:¬a.i=y.i:=by grind[xA]
     simp[this]
   have au:cls a.o≠2->T.ep a.i<=j:=by
     intro nw;have p:=u.epw nw
     cases he:T.ep a.i with
     |zero=>omega
     | succ e=>
       rw[he]at p;simp[Pr]at p
       grind[uz,mz]
   have s:∀y∈je ops,cls y.o=1->T.on y.i=true->(c.setIfInBounds i true).getD y.i false=false->T.ep y.i<=j->Δ (T.pl y.i)=none/\y.i≠a.i:=by
     intro y A p v R h4;rw[aa]at R;simp only[wBe,decide_eq_false_iff_not]at R;exact⟨k.zgT y A p v R.1 h4,λe=>R.2 e.symm⟩
   have J:∀y∈je ops,cls y.o=1->T.on y.i=true->T.ep y.i<=j->T.pl y.i<(T.H j).next:=by
     intro y A p v R;rcases K.done y A with h4|h4
     ·simp at h4
     ·let⟨b,S,hbi⟩:=V7.1 h4
      have:=xA A (hl b S) hbi.symm;subst this
      let⟨_,hity⟩:=K.item y S
      exact((hity.alloc p v).2.1 j R k.jle).1
   have aw:cls a.o=2->isW (hH (je ops)) a (T.ep a.i)=true->T.ep a.i=j/\(hH (je ops))[j]? =some a:=by
     intro _ hw;unfold isW at hw;split at hw
     ·rename_i x z
      have aV:=xA (uz (mz.2 ⟨_,z⟩)).1 ha (DG hw);subst aV;have aC:(hH (je ops))[j]? =some x:=by
        apply Classical.byContradiction;intro nw;exact hez ⟨(uz (mz.2 ⟨_,z⟩)).2,nw⟩
      exact⟨Ns z aC rfl,aC⟩
     ·cases hw
   have ag:cls a.o=2->isW (hH (je ops)) a (T.ep a.i)=true->∀q y,(hH (je ops))[q]? =some y->((c.setIfInBounds i true).getD y.i false=true↔q<j+1):=by
     intro m hw q y hq
     let⟨_,z⟩:=aw m hw
     rw[aa];simp only[JD,yU,k.ahead q y hq];constructor
     ·rintro(h|h)
      ·omega
      ·have:=Ns z hq h;omega
     ·grind
   have ah:cls a.o=2->isW (hH (je ops)) a (T.ep a.i)=true->∀C w',WR C (T.G j) w'->Gr (T.H j) Δ (T.G j) C->
       ∀y∈je ops,cls y.o=1->T.on y.i=true->(c.setIfInBounds i true).getD y.i false=false->T.ep y.i<=j+1->C (T.pl y.i)=none:=by
     intro m hw C w' aW aX y A p v R h4;rcases Sf j (T.ep y.i)with h5|h5
     ·let⟨_,hity⟩:=K.item y (F y A)
      have aD:=(hity.alloc p v).2.2.1 j h5
      cases hd':C (T.pl y.i)with
      |none=>rfl
      |some e=>have:=aW.fresh _ _ hd';omega
     ·exact aX.none _ (s y A p v R h5).1 (J y A p v h5)
   unfold wpOp;simp[ho];rw[Z]
   cases E:T.on a.i with
   | false=>
     simp[wBK,if_false];have hv:=u.off E;rcases Od a.o with m|m|m
     ·exact next j Δ undef w (by rw[hv];exact .undef Δ) k.world (.refl _ _) k.jle (still (by rw[m];decide)) (by grind) k.none
     ·exact next j Δ undef w (by rw[hv];exact .undef Δ) k.world (.refl _ _) k.jle (still (by rw[m];decide)) (by grind) k.none
     ·let⟨hep',_,hoff⟩:=u.write m
      let⟨hej,hxj⟩:=aw m hep'
      have hG:=hoff E;rw[hej]at hG;have ai:=(ke.1 hxj).1
      let⟨hm1,hm2⟩:=K.chain j (PM _) ai
      have aE:WR Δ (T.G j) w:=by rw[hG];exact k.world
      exact next (j+1) Δ undef w (by rw[hv];exact .undef Δ) (aE.Tf hm2) (.refl _ _) ai (ag m hep') (ah m hep' Δ w aE (by rw[hG];exact .refl _ _)) k.none
   | true=>
     simp[if_true];left;rcases Od a.o with m|m|m
     ·have aF:=u.pure m E j (au (by rw[m];decide)) k.jle ae
      rw[<-KM I]at aF;have an:(EV a.o).f call t (T.H j)=some (T.val a.i,T.H j):=by
        unfold EV;rw[m];simp only[fD];exact⟨_,aF,rfl⟩
      rw[<-hao];refine Sj hc k.world k.tmps an λC x w' V=>?_;rw[hao]
      exact next j C x w' V.val V.world V.frame k.jle (still (by rw[m];decide)) (λy A p v R h4=>V.grow.none _ (s y A p v R h4).1 (J y A p v h4))
        (λl' p v=>V.grow.none _ (k.none l' p v) (NY v aB))
     ·let ⟨⟨mk,hav,zf3⟩,hin,_,aD⟩:=u.alloc m E
      let⟨hpl,hob⟩:=hin j (au (by rw[m];decide)) k.jle
      have aG:=hob ae;rw[<-Oo I]at hav
      let⟨mo,mv,hrun,hmade⟩:=Vu k.tmps hav
      have L:=k.zgT a ha m E O (au (by rw[m];decide))
      let⟨dd,S,hor,hvr⟩:=hmade (T.pl a.i) w.heap.size L
      rw[<-hao];unfold Oper.wp;rw[hrun w,Oper.upon_value,hao];refine next j (Δ.set (T.pl a.i) dd) _ _ (by rw[zf3];exact hvr) (k.world.lay L hpl aG S hor) (FR.lay L S) k.jle (still (by rw[m];decide)) (λy A p v R h4=>?_) (λl' p v=>?_)
      ·let⟨e1,e2⟩:=s y A p v R h4
       have:=K.Yo y (F y A) a aN p m v E e2;unfold Env.set;rw[if_neg this];exact e1
      ·have:l'≠T.pl a.i:=by omega
       unfold Env.set;rw[if_neg this];exact k.none l' p v
     ·let ⟨hep',hrun,_⟩:=u.write m
      let⟨hej,hxj⟩:=aw m hep'
      have an:=hrun E;rw[hej,<-PL I]at an;have ai:=(ke.1 hxj).1
      let⟨hm1,hm2⟩:=K.chain j (PM _) ai
      rw[<-hao];refine Sj hc k.world k.tmps an λC x w' V=>?_;rw[hao]
      exact next (j+1) C x w' V.val (V.world.Tf hm2) V.frame ai (ag m hep') (ah m hep' C w' V.world V.grow)
        (λl' p v=>V.grow.none _ (k.none l' p v) (NY v aB))
theorem zaa(l:Js (hH (je ops))=true) (fuel:Nat) (c:Array Bool) (d:Act) (w:World) (j:Nat) (Δ:Env) (t:Tm) (a:It) (_:0<=j) (_:c.toList.count false<=fuel+1) (m:Inv n ops t0 h0 Δ0 w0 T c j Δ t d w) (y:a∈je ops)
  (s:cls a.o=2) (p:c.getD a.i false=false) (k:∀x∈je ops,a.b.testBit x.i=true->c.getD x.i false=true) (nw:(hH (je ops))[j]?≠some a) :
  wpOp P0 ops Q a.i (wpAny P0 .any ops Q fuel (c.setIfInBounds a.i true)) d w:=by
 exfalso;have f:a∈hH (je ops):=by unfold hH;rw[wA9];exact by simp_all
 let⟨q,hq⟩:=mz.1 f
 have u:¬q<j:=λh=>by
  have:=(m.ahead _ a hq).2 h
  simp_all
 have v:q≠j:=by grind
 obtain⟨e,rfl⟩:∃e,q=e+1:=⟨q-1,by omega⟩
 have g:e<(hH (je ops)).length:=by have:=(ke.1 hq).1;omega
 have r:=hZ g;have z:=OK l e _ a r hq;have:=(m.ahead e _ r).1 (by grind[uz,AL]);omega
theorem lj{x:Operand} (a:Uq x=true) (t:Tm) (h h':Hp):(yL x).f t h=(yL x).f t h':=by
 cases x <;> first|rfl|grind[Uq]
theorem Wd (a:Mj o=true) (t:Tm) (h h':Hp):(iJ o).f t h=(iJ o).f t h':=by
 unfold Mj at a;unfold iJ;split at a
 ·grind[lj]
 ·grind[AZ,lj]
 ·grind[sr,lj]
 ·rename_i b;rw[b];rw[yF]at a
  grind[sG,lj]
 ·cases a
theorem sQ  (h:storeAt o=some d):∃ty x,o.op = .store ty (.tmp d) x/\o.guard=none/\o.dst=none/\Uq x=true:=by
 grind[storeAt]
theorem OE  (h:storeAt o=some d):cls o=2:=by
 grind[sQ,cls]
theorem Nc  (hs:storeAt o=some d) {call:Call} {t:Tm} {h h':Hp} {v:V} (hv:(EV o).f call t h=some (v,h')) :
  v = .undef/\∃l off e sz cs uD,ij t d = .ptr l off/\h.get l=some (.cells e sz true false cs)/\h' = h.put l (.cells e sz true false uD)/\
   ∀b,b.get l=h.get l->(EV o).f call t b=some (.undef,b.put l (.cells e sz true false uD)):=by
 let⟨ty,x,hop,_,_,hx⟩:=sQ hs
 have m:=OE hs
 have c:∀h,(EV o).f call t h=oB ((j5 o).f t h) λr=>match r with
   | .val v h=>some (v,h)
   | .call f args=>call f args h:=by
  intro h;unfold EV;split
  ·omega
  ·omega
  ·rfl
 rw[c,fD]at hv
 let⟨r,b,p⟩:=hv
 have j:∀h,(j5 o).f t h=match Dr ty with
   |some n=>oB ((yL (.tmp d)).f t h) λa=>oB ((yL x).f t h) λv=>vZ a λl off=>bB (Nat.beq v.cells.length n) (oB (LX h l off v.cells) λh=>some (.val .undef h))
   |none=>none:=by
  intro h;unfold j5;rw[hop];simp only;generalize Dr ty=z;cases z <;> rfl
 rw[j]at b
 cases hn:Dr ty with
 |none=>simp_all
 | some n=>
   rw[hn]at b;simp only[fD,uJ,ik]at b;obtain⟨a,q,vv,s,l,off,rfl,hlen,B,g,u⟩:=b;cases u;cases p;have i:=Option.some.inj (q);unfold LX at g;simp only[mO,ik,fD,Bool.not_eq_true']at g;obtain⟨e,sz,live,ro,cs,w,rfl,rfl,k,uD,y,xN⟩:=g;cases xN;refine⟨rfl,l,off,e,sz,cs,uD,i,w,rfl,λb A=>?_⟩;rw[c,fD];refine⟨.val .undef (b.put l (.cells e sz true false uD)),?_,rfl⟩;rw[j,hn];simp only[fD,uJ,ik];refine⟨.ptr l off,by rw[<-i];rfl,vv,by grind[lj],l,off,rfl,hlen,b.put l (.cells e sz true false uD),?_,rfl⟩;unfold LX;simp[mO,ik,fD,Bool.not_eq_true']
   grind
theorem Qx:∀{l:List It} {a b:It},Pz l=some (a,b)->∃p,l.length=p+2/\l[p]? =some a/\l[p+1]? =some b
 |[],_,_,h=>by cases h
 |[_],_,_,h=>by cases h
 |[x,y],a,b,h=>by cases h;simp_all
 | _::y::z::l,a,b,h=>by
   let⟨p,c,d,e⟩:=Qx (l:=y::z::l) h
   exact⟨p+1,by simp_all,by grind,by simp_all⟩
theorem KR:∀{l:List It},Li l=true->∀q a b,l[q]? =some a->l[q+1]? =some b->q+2<l.length->b.b.testBit a.i=true/\(q+3=l.length->∀c,l[q+2]? =some c->c.b.testBit a.i=true)
 |[],_,q,a,b,h,_,_=>by simp_all
 |[x],_,q,a,b,_,h,_=>by simp_all
 |[x,y],_,q,a,b,_,_,h=>by grind
 | x::y::z::l,hc,0,a,b,d,e,_=>by
   simp at d e;subst d;subst e;simp[Li,yF]at hc
   grind
 | x::y::z::l,hc,q+1,a,b,d,e,f=>by
   simp[Li,yF]at hc;have:=KR hc.2 q a b (by simp_all) (by simp_all) (by simp_all)
   simp_all
theorem UO{kr ws:List It} {a b:It} {da db:Nat} (h:Ml kr ws=some (a,b,da,db)) :
  Pz ws=some (a,b)/\storeAt a.o=some da/\storeAt b.o=some db/\fixed kr a=true/\fixed kr b=true/\T1 kr a b=true/\Li ws=true:=by
 unfold Ml at h
 grind
structure zfF (n:Nat) (ops:Array Oper) (t0:Tm) (h0:Hp) (Δ0:Env) (w0:World) (T:Tc) (c:Nat) (e:Hp) (b:Array Bool) (Δ:Env) (t:Tm) (a:Act) (w:World):Prop where
 size:b.size=ops.size
 closed:A6 (je ops) (λi=>b.getD i false)
 ahead:∀x∈hH (je ops),(b.getD x.i false=true↔x.i≠c)
 tmps:TR Δ n t a
 qz:∀d,ij t d=rY T.val (λi=>b.getD i false) d (je ops) (ij t0 d)
 world:WR Δ e w
 frame:FR Δ0 Δ w0 w
 none:∀l,Δ0 l = .none->l<h0.next->Δ l = .none
 defers:t.ds=t0.ds
section
variable{a b:It}{da db p:Nat}
structure zhs (ops:Array Oper) (T:Tc) (a b:It) (da db p:Nat) (r:Tm×Hp):Prop where
 len:(hH (je ops)).length=p+2
 ga:(hH (je ops))[p]? =some a
 gb:(hH (je ops))[p+1]? =some b
 sa:storeAt a.o=some da
 sb:storeAt b.o=some db
 fa:fixed (je ops) a=true
 fb:fixed (je ops) b=true
 op:T1 (je ops) a b=true
 ch:Li (hH (je ops))=true
 apart:zcN (ij r.1 da) (ij r.1 db)=true
theorem SW(h:T1 (je ops) a b=true) {x:It} (c:x∈je ops) (d:x.i≠a.i) (e:x.i≠b.i) (f:¬(a.b.testBit x.i=true/\b.b.testBit x.i=true)) :
  cls x.o=0/\Mj x.o=true/\x.o.guard=none/\x.b.testBit a.i=false/\x.b.testBit b.i=false:=by
 have:=Sx.1 h x c;simp[ yF]at this
 grind[DG]
theorem NH{l:List It} (g:vt n ops.toList (je ops) (hH (je ops)) call t0 h0 l 0 0 h0 [] r T T) {x:It} (h:x∈je ops) (c:fixed (je ops) x=true) {D:Nat->Bool} (j:∀y∈je ops,x.b.testBit y.i=true->D y.i=true)
  {d:Nat} (hd:d∈DB x.o.op.operands.toList) (a:V):rY T.val D d (je ops) a=rY T.val (λ_=>true) d (je ops) a:=by
 refine sS (λy e f=>?_) (by simp_all) a;have k:=Sx.1 (Sx.1 c d hd) y e
 grind[writes]
theorem Iw  (h:storeAt o=some d):d∈DB o.op.operands.toList:=by
 grind[sQ,Op.operands,DB]
end
section
variable{a b:It}{da db p:Nat}{l:List It}
theorem zcz{H e i:Hp} {lb:Nat} {j ob:O} (a:d<H.next) (f:lb<H.next) (nw:d≠lb) (k:DS (H.put d j) e) (l:DS (e.put lb ob) i):DS ((H.put lb ob).put d j) i:=by
 have b:H.next<=e.next:=k.1;have g:=l.1;refine⟨OA b g,λx m=>?_⟩;have c:=m;rw[l.2 x (NY c b)];rw[jP (h:=H.put lb ob) _ _ a,jP _ _ (by omega),jP _ _ f];rw[k.2 x c,jP _ _ a]
 grind
theorem zfT(hc : xo call) (hp:tw (je ops)=true) (aC:(je ops).all (FM (je ops))=true) (ak:(je ops).all Cw=true) (hl:∀a∈l,a∈je ops)
    (U:vt n ops.toList (je ops) (hH (je ops)) call t0 h0 l 0 0 h0 [] r T T) (hP:zhs ops T a b da db p r)
    (aD:r.1.ds=t0.ds) (hQ:∀Δ' a' w',AG Δ0 h0 w0 n r.1 r.2 Δ' a' w'->Q .normal a' w') {la lb:Nat} {ob:O} (aS:la<(T.H p).next) (aE:lb<(T.H p).next) (nw:la≠lb)
    (aF:∀t,ij t da=ij r.1 da->∃oa,(T.G p)=(T.H p).put la oa/\∀k,k.get la=(T.H p).get la->(∀x∈a.o.op.operands.toList,Alike t (T.tt a.i) x)->(EV a.o).f call t k=some (.undef,k.put la oa))
    (aT:T.G (p+1)=(T.H (p+1)).put lb ob) :
    ∀fuel c m w Δ t,c.toList.count false<=fuel->zfF n ops t0 h0 Δ0 w0 T a.i ((T.H p).put lb ob) c Δ t m w->wpAny P0 .any ops Q fuel c m w:=by
  have ha:=(uz (mz.2 ⟨_,hP.ga⟩)).1;have hb:=(uz (mz.2 ⟨_,hP.gb⟩)).1;have aG:a.i≠b.i:=λe=>by
    have:=Ns hP.ga hP.gb e;omega
  have al:=mz.2 ⟨_,hP.ga⟩;have am:=mz.2 ⟨_,hP.gb⟩;have F:∀{c Δ t m w},zfF n ops t0 h0 Δ0 w0 T a.i ((T.H p).put lb ob) c Δ t m w->c.getD a.i false=false:=λg=>by
    cases h:Array.getD _ a.i false with
    |false=>rfl
    |true=>exact absurd rfl ((g.ahead a al).1 h)
  have ac:∀{c Δ t m w},zfF n ops t0 h0 Δ0 w0 T a.i ((T.H p).put lb ob) c Δ t m w->c.getD b.i false=true:=λg=>(g.ahead b am).2 (λe=>aG e.symm);intro fuel
  induction fuel with
  | zero=>
    intro c m w Δ t an g;exfalso;have k:=F g;have I:a.i<c.size:=by rw[g.size];exact(wAt.1 (Q3 ha)).1
    have:false∈c.toList:=by
      have:c[a.i]=false:=by simpa[I]using k
      rw[<-this];simp
    have:=List.count_pos_iff.2 this
    omega
  | succ fuel ih=>
    intro c m w Δ t an g;refine⟨λhr=>?_,λi hi=>?_⟩
    ·exfalso
     have ao : ∀i,i<ops.size->c.getD i false=true:=by
       intro i
       induction i using Nat.strongRecOn with
       | _ i aH=>
         intro hi
         cases V:c.getD i false with
         |true=>rfl
         | false=>
           exfalso;have ho:=Array.getElem?_eq_getElem hi
           let⟨x,hx,hxi,hxo,_⟩:=Qn ho
           have B:i∈Region.ready .any ops c:=by
             rw[mem_ready];refine⟨?_,ops[i],ho,λe he aq=>?_⟩
             ·have:i<c.size:=by rw[g.size];exact hi
              simp[this]at V⊢;exact V
             ·have k:=Sx.1 ak x hx
              unfold Cw at k;rw[hxo,hxi]at k;have W:=Sx.1 k e (by simpa using he);rw[<-Jj,aq]at W;simp[Bool.not_true,Bool.false_or,Yh]at W;exact aH e.on W (by omega)
           rw[hr]at B;cases B
     have:=ao a.i (wAt.1 (Q3 ha)).1;rw[F g]at this;cases this
    rw[mem_ready]at hi
    let⟨wI,o,ho,hedges⟩:=hi
    let⟨y,S,hyi,hyo,hgety⟩:=Qn ho
    have I:i<c.size:=by rw[g.size];exact(wAt.1 ho).1
    have J:c.getD y.i false=false:=by rw[hyi];simp[I]at wI⊢;exact wI
    have C:∀x∈je ops,y.b.testBit x.i=true->c.getD x.i false=true:=by
      intro x hx V
      let⟨e,he,hbe,k⟩:=QH hgety V
      rw[hyo]at he;have K:=hedges e (by simpa using he) (by rw[Jj];exact hbe);rcases k with k|⟨z,u,A⟩
      ·rw[k];exact K
      ·have aU:=vF _ _ u
       exact g.closed z (mz.2 ⟨_,u⟩) (by simp_all) x hx A
    have X:∀y∈je ops,y∈l:=by
      intro y S;rcases U.done y S with k|k
      ·simp at k
      ·grind[xA]
    let⟨D,hit⟩:=U.item y (X y S)
    have Y:∀d,d∈tA y.o->ij t d=ij (T.tt y.i) d:=λd hd=>by
      rw[g.qz d,hit.qz d];exact LD vF hp S g.closed hit.closed C hit.fk J hit.fresh hd _ _
    have E:∀x∈y.o.op.operands.toList,Alike t (T.tt y.i) x:=Ll λd hd=>Y d (by simp[tA,hd])
    let⟨d,hd⟩:=hit.dst
    have L:∀Z,(c.setIfInBounds i true).getD Z false=(c.getD Z false ||decide (y.i=Z)):=λZ=>by
      by_cases e:i=Z
      ·subst e;simp[I,hyi]
      simp_all
    have M:(c.setIfInBounds i true).toList.count false<=fuel:=by
      have k:c.toList[i]? =some false:=by
        rw[wBC];have:=J;rw[hyi]at this;simpa[I]using this
      have:=count_set c.toList i k;rw[Array.toList_setIfInBounds];omega
    have s:A6 (je ops) (λZ=>(c.setIfInBounds i true).getD Z false):=by
      intro x hx N z u A;simp only[L,JD,yU]at N⊢;rcases N with N|N
      ·exact .inl (g.closed x hx N z u A)
      ·grind[xA]
    have v:∀d',ij (d.f t (T.val y.i)) d' = rY T.val (λZ=>(c.setIfInBounds i true).getD Z false) d' (je ops) (ij t0 d'):=λd'=>by
      rw[LO hd,Jv vF hp S g.closed J L (λ_ _=>rfl) d' (ij t0 d'),g.qz d']
    have ar:=OA U.more.1 (Jb U.chain p p (by omega) (by have:=hP.len;omega));have ad:=λab=>by
      have aI:y.i≠b.i:=by grind
      refine SW hP.op S ab aI λ⟨_,au⟩=>?_;have:=g.closed b hb (ac g) y S au
      simp_all
    by_cases hya:y.i=a.i
    ·
      have aw:=xA S ha hya;subst aw;have K:Region.wanted o (yielded ops m.tmps)=true:=by
        let⟨_,_,_,hg,_⟩:=sQ hP.sa
        unfold Region.wanted;rw[<-hyo,hg]
      unfold wpOp;simp[ho];rw[K];simp[if_true];left
      let ⟨oa,hGa,hrun⟩:=aF t (by
        rw[g.qz da,U.qz da];exact NH U S hP.fa C (Iw hP.sa) _)
      have ae:=hrun ((T.H p).put lb ob) (by rw[jP _ _ aE,if_neg (λe=>nw e.symm)]) E;rw[<-hyo];refine Sj hc g.world g.tmps ae λΔ' x w' P=>?_;rw[hyo];have hlen:=hP.len;have aR:=U.chain p (PM _) (by omega);have aJ:=U.chain (p+1) (PM _) (by omega);have hm:DS (((T.H p).put lb ob).put la oa) (T.H (p+2)):=by grind[zcz]
      have ag:∀q z,(hH (je ops))[q]? =some z->((c.setIfInBounds i true).getD z.i false=true↔q<p+2):=λq z u=>by
        have aK:=(ke.1 u).1;constructor
        ·intro _;omega
        ·intro _
         rw[L];by_cases e:z.i=y.i
         ·simp[e]
         ·rw[(g.ahead z (mz.2 ⟨_,u⟩)).2 e];rfl
      have ax:(d.f t (T.val y.i)).ds=t0.ds:=by rw[yH hd];exact g.defers
      have aa:y.o.dst=none:=by let⟨_,_,_,_,h5,_⟩:=sQ hP.sa;exact h5
      have aL:TR Δ' n (d.f t (T.val y.i)) (m.put o.dst x):=by
        have k:=PN (g.tmps.mono P.frame.le) hd P.val;rw[hyo]at k;have e:d.f t (T.val y.i)=d.f t .undef:=by
          unfold xK at hd;rw[aa]at hd;cases hd;rfl
        rw[e];exact k
      refine YQ hc hp aC ak (p+2) (λfuel c m w j Δ t a' hj _ aM aN ay ah _ ab=>?_) hl U aD hQ fuel _ _ _ (p+2) Δ' (d.f t (T.val y.i)) (jJ _) M
        ⟨by simp[g.size],s,by omega,ag,aL,v,P.world.Tf hm,g.frame.trans P.frame,λl' k W=>P.grow.none _ (g.none l' k W) (NY W ar),ax,λz u az aV ai _=>?_⟩
      ·exfalso
       have B:a'∈hH (je ops):=by unfold hH;rw[wA9];exact⟨aN,by rw[ay];rfl⟩
       let⟨q,hq⟩:=mz.1 B
       have k:=(ke.1 hq).1;have:=(aM.ahead _ a' hq).2 (by omega);rw[ah]at this;cases this
      ·exfalso
       rw[L]at ai;simp only[wBe,decide_eq_false_iff_not]at ai;have A:z.i≠b.i:=by grind
       have:=SW hP.op u (λe=>ai.2 e.symm) A (by grind);rw[this.1]at az;cases az
    ·
      let⟨hc0,EC,hgn,hba,au⟩:=ad hya
      have aO:rz n ops.toList y.o (T.tt y.i)=some true:=by unfold rz kE;rw[hgn]
      have K:T.on y.i=true:=by
        have:=hit.rz;rw[aO]at this;exact(Option.some.inj this).symm
      have R:Region.wanted o (yielded ops m.tmps)=true:=by
        unfold Region.wanted;rw[<-hyo,hgn]
      have hlen :=hP.len;have aP:T.ep y.i<=p:=by
        have k:=hit.epw (by rw[hc0];decide)
        cases he:T.ep y.i with
        |zero=>omega
        | succ e=>
          rw[he]at k;simp[Pr]at k;split at k
          ·rename_i z u
           have aK:=(ke.1 u).1;rcases Sf e p with h|h
           ·omega
           ·exfalso
            have:e=p\/e=p+1:=by omega
            rcases this with e1|e1
            ·subst e1
             rw[hP.ga]at u;simp_all
            ·subst e1
             rw[hP.gb]at u;simp_all
          ·cases k
      have aj:p<=late (hH (je ops)) y:=by
        rcases Sf (late (hH (je ops)) y) p with h|h
        ·exfalso
         let⟨z,u,A⟩:=N8 (hH (je ops)) y (by omega)
         have aA:=mz.2 ⟨_,u⟩;have aQ:z.i≠a.i:=λe=>by
           have:=Ns u hP.ga e;omega
         have:=g.closed z (uz aA).1 ((g.ahead z aA).2 aQ) y S A
         simp_all
        ·exact h
      have aB:=hit.pure hc0 K p aP (by omega) aj;rw[<-KM E,Wd EC t _ ((T.H p).put lb ob)]at aB;have ae:(EV y.o).f call t ((T.H p).put lb ob)=some (T.val y.i,(T.H p).put lb ob):=by
        unfold EV;rw[hc0];simp only[fD];exact⟨_,aB,rfl⟩
      unfold wpOp;simp[ho];rw[R];simp[if_true];left;rw[<-hyo];refine Sj hc g.world g.tmps ae λΔ' x w' P=>?_;rw[hyo];refine ih _ _ _ Δ' (d.f t (T.val y.i)) M ⟨by simp[g.size],s,λz u=>?_,?_,v,P.world,g.frame.trans P.frame,λl' k W=>P.grow.none _ (g.none l' k W) (NY W ar),by rw[yH hd];exact g.defers⟩
      ·rw[L]
       have:¬y.i=z.i:=by grind[xA,uz]
       simp only[this,decide_false,Bool.or_false];exact g.ahead z u
      ·have k:=PN (g.tmps.mono P.frame.le) hd P.val
       rw[hyo]at k;exact k
end
section
variable{a b:It}{da db p:Nat}{l:List It}
theorem zbW(hc:xo call) (hp:tw (je ops)=true) (am:(je ops).all (FM (je ops))=true) (an:(je ops).all Cw=true) (hl:∀a∈l,a∈je ops)
  (B:vt n ops.toList (je ops) (hH (je ops)) call t0 h0 l 0 0 h0 [] r T T) (hP:zhs ops T a b da db p r)
  (ao:r.1.ds=t0.ds) (hQ:∀Δ' a' w',AG Δ0 h0 w0 n r.1 r.2 Δ' a' w'->Q .normal a' w')
  (fuel:Nat) (c:Array Bool) (C:Act) (w:World) (j:Nat) (Δ:Env) (t:Tm) (y:It) (_:0<=j) (aD:c.toList.count false<=fuel+1) (m:Inv n ops t0 h0 Δ0 w0 T c j Δ t C w) (U:y∈je ops)
  (Z:cls y.o=2) (E:c.getD y.i false=false) (g:∀x∈je ops,y.b.testBit x.i=true->c.getD x.i false=true) (nw:(hH (je ops))[j]?≠some y) :
  wpOp P0 ops Q y.i (wpAny P0 .any ops Q fuel (c.setIfInBounds y.i true)) C w:=by
 have hlen:=hP.len;have ha:=(uz (mz.2 ⟨_,hP.ga⟩)).1;have aa:y∈hH (je ops):=by unfold hH;rw[wA9];exact by simp_all
 let⟨q,hq⟩:=mz.1 aa
 have aE:=(ke.1 hq).1;have aF:¬q<j:=λh=>by
  have:=(m.ahead _ y hq).2 h
  simp_all
 have aG:q≠j:=by grind
 have aq:q=p+1/\j=p:=by
  obtain⟨e,rfl⟩:∃e,q=e+1:=⟨q-1,by omega⟩
  have N:e<(hH (je ops)).length:=by omega
  have hg:=hZ N;rcases Sf e p with h|h
  ·exfalso;have V:=(KR hP.ch e _ y hg hq (by omega)).1;have:=(m.ahead e _ hg).1 (g _ (uz (AL N)).1 V);omega
  ·have he:e=p:=by omega
   subst he;refine⟨rfl,?_⟩;rcases Sf j e with h2|h2
   ·exfalso;obtain⟨f,rfl⟩:∃f,e=f+1:=⟨e-1,by omega⟩
    have ab:f<(hH (je ops)).length:=by omega
    have ac:=hZ ab;have V:=(KR hP.ch f _ a ac hP.ga (by omega)).2 (by omega) y hq;have:=(m.ahead f _ ac).1 (g _ (uz (AL ab)).1 V);omega
   ·omega
 obtain⟨rfl,rfl⟩:=aq;have ar:y=b:=by rw[hP.gb]at hq;cases hq;rfl
 subst ar;have u:∀y∈je ops,y∈l:=by
  intro y U;rcases B.done y U with s|s
  ·simp at s
  ·grind[xA]
 let⟨D,hit⟩:=B.item y (u y U)
 let⟨Da,hita⟩:=B.item a (u a ha)
 have F:=OE hP.sa;have epw:∀{x:It} {D:Nat->Bool} {k:Nat},Ro n ops.toList (je ops) (hH (je ops)) call t0 h0 T D x->cls x.o=2->(hH (je ops))[k]? =some x->T.ep x.i=k:=λ{x D k} O au aH=>by
  have s:=(O.write au).1
  grind[isW,Ns,DG]
 have ad:=epw hit Z hP.gb;have ae:=epw hita F hP.ga;have P:∀{x:It} {D:Nat->Bool} {d:Nat},Ro n ops.toList (je ops) (hH (je ops)) call t0 h0 T D x->storeAt x.o=some d->T.on x.i=true:=λ{x D d} O hs=>by
  let⟨_,_,_,hg,_⟩:=sQ hs
  have:=O.rz
  grind[rz,kE]
 have al:∀d,d∈tA y.o->ij t d=ij (T.tt y.i) d:=λd hd=>by
  rw[m.qz d,hit.qz d];exact LD vF hp U m.closed hit.closed g hit.fk E hit.fresh hd _ _
 have K:∀x∈y.o.op.operands.toList,Alike t (T.tt y.i) x:=by grind[Ll,tA]
 have R:=(hita.write F).2.1 (P hita hP.sa);rw[ae]at R
 let⟨_,la,offa,ea,sza,csa,csa',hta,hga,hGa,hruna⟩:=Nc hP.sa R
 have v:=(hit.write Z).2.1 (P hit hP.sb);rw[ad]at v
 let⟨_,lb,offb,eb,szb,csb,csb',htb,hgb,hGb,_⟩:=Nc hP.sb v
 rw[<-PL K]at v
 let⟨_,lb2,offb2,eb2,szb2,csb2,csb2',htb2,hgb2,hGb2,hrunb⟩:=Nc hP.sb v
 have aw:ij (T.tt a.i) da=ij r.1 da:=by
  rw[hita.qz da,B.qz da];exact NH B ha hP.fa hita.fk (Iw hP.sa) _
 have ax:ij t db=ij r.1 db:=by
  rw[m.qz db,B.qz db];exact NH B U hP.fb g (Iw hP.sb) _
 have ag:la≠lb2:=λe=>by
  have:=hP.apart;rw[<-aw,<-ax,hta,htb2,e]at this;have h2:(!(Nat.beq lb2 lb2))=true:=this
  simp_all
 have ah:=Hp.Dg hga;have ai:lb2<(T.H j).next:=by
  have s:=m.tmps.rel db;rw[htb2]at s
  cases O:C.tmps.getD db undef with
  | pointer p=>
    rw[O]at s
    cases s with
    |ptr _ _ d hd=>exact m.world.fresh _ _ hd
  |_=>rw[O]at s;cases s
 have ay:=B.chain j (PM _) (by omega);have aj:(T.H j).get lb2=(T.H (j+1)).get lb2:=by
  rw[ay.2.2 lb2 (by rw[hGa];exact ai),hGa,jP _ _ ah,if_neg ag]
 have az:=hrunb (T.H j) aj;have S:=Q3 U;have G:Region.wanted y.o (yielded ops C.tmps)=true:=by
  let⟨_,_,_,hg,_⟩:=sQ hP.sb
  unfold Region.wanted;rw[hg]
 let⟨d,hd⟩:=hit.dst
 have ak:y.i<c.size:=by rw[m.size];exact(wAt.1 S).1
 have W:∀L,(c.setIfInBounds y.i true).getD L false=(c.getD L false ||decide (y.i=L)):=λL=>by
  by_cases e:y.i=L
  ·rw[<-e];simp[ak]
  simp_all
 have X:(c.setIfInBounds y.i true).toList.count false<=fuel:=by
  have s:c.toList[y.i]? =some false:=by
   rw[wBC];simpa[ak]using E
  have:=count_set c.toList y.i s;rw[Array.toList_setIfInBounds];omega
 have A:A6 (je ops) (λL=>(c.setIfInBounds y.i true).getD L false):=by
  intro x O I z hz aA;simp only[W,JD,yU]at I⊢;rcases I with I|I
  ·exact .inl (m.closed x O I z hz aA)
  ·grind[xA]
 have J:∀Y,ij (d.f t (T.val y.i)) Y=rY T.val (λL=>(c.setIfInBounds y.i true).getD L false) Y (je ops) (ij t0 Y):=λY=>by
  rw[LO hd,Jv vF hp U m.closed E W (λ_ _=>rfl) Y (ij t0 Y),m.qz Y]
 have aB:=OA B.more.1 (Jb B.chain j j (by omega) (by omega));unfold wpOp;simp[S];rw[G];simp[if_true];left;refine Sj hc m.world m.tmps az λΔ' x w' hA=>?_;have M:y.o.dst=none:=by let⟨_,_,_,_,h5,_⟩:=sQ hP.sb;exact h5
 have aC:TR Δ' n (d.f t (T.val y.i)) (C.put y.o.dst x):=by
  have s:=PN (m.tmps.mono hA.frame.le) hd hA.val;have e:d.f t (T.val y.i)=d.f t .undef:=by
   unfold xK at hd;rw[M]at hd;cases hd;rfl
  rw[e];exact s
 refine zfT hc hp am an hl B hP ao hQ ah ai ag (λt' aI=>⟨.cells ea sza true false csa',hGa,λs aJ aK=>?_⟩) hGb2 fuel _ _ _ Δ' (d.f t (T.val y.i)) X
  ⟨by simp[m.size],A,λz hz=>?_,aC,J,hA.world,m.frame.trans hA.frame,λl' s h2=>hA.grow.none _ (m.none l' s h2) (NY h2 aB),by rw[yH hd];exact m.defers⟩
 ·grind[PL]
 ·let ⟨k,hk⟩:=mz.1 hz
  have aL:=(ke.1 hk).1;rw[W];simp only[JD,yU,m.ahead k z hk];constructor
  ·rintro(h|h)
   ·intro e;have:=Ns hk hP.ga e;omega
   grind
  ·intro aM;rcases Sf k j with h|h
   ·exact .inl h
   ·right;have aN:k≠j:=λe=>by
     subst e;rw[hP.ga]at hk;simp_all
    have:k=j+1:=by omega
    simp_all
end
end
