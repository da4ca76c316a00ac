/- Parts. -/
import Derived.Test.YtflkbfabonggkaaGreatDoorM04
set_option maxHeartbeats 4000000
namespace Go.Proofs.YtflkbfabonggkaaGreatDoor.Hx
theorem Km:∀(ws:List It) (a:It),late ws a<ws.length->∃w,ws[late ws a]? =some w/\w.b.testBit a.i=true
 |[],a,h=>by simp_all
 | w ::ws,a,h=>by
   unfold late at h⊢;split
   ·simp_all
   ·rename_i c
    simp only[c,QN]at h;obtain⟨w',d,e⟩:=Km ws a (by omega)
    simp_all
theorem LH:∀{l:List It},Hn l=true->∀(q:Nat) (a b:It),l[q]? =some a->l[q+1]? =some b->b.b.testBit a.i=true
 |[],_,q,a,b,h,_=>by simp_all
 |[x],_,q,a,b,_,h=>by simp_all
 | x::y::l,hc,0,a,b,c,d=>by
   simp_all[Hn,xg]
 | x::y::l,hc,q+1,a,b,c,d=>by
   simp only[Hn,xg]at hc;exact LH (l:=y::l) hc.2 q a b (by simp_all) (by simp_all)
theorem count_set:∀(l:List Bool) (i:Nat),l[i]? =some false->(l.set i true).count false<l.count false
 |[],i,h=>by simp_all
 |b::l,0,h=>by simp_all
 | b::l,i+1,h=>by
   grind
theorem Q6{n:Nat} {all:List Oper} {o:Oper} {t t':Tm} (h:∀j w a d,o.guard=some (j,w)->all[j]? =some a->a.dst=some d->jR t d=jR t' d):p6 n all o t=p6 n all o t':=by
 unfold p6 kU
 grind
theorem Qc{Δ:Env} {n:Nat} {t:Tm} {a:Act} (c:TR Δ n t a) {ops:Array Oper} {o:Oper} {b:Bool} (h:p6 n ops.toList o t=some b):Region.wanted o (yielded ops a.tmps)=b:=by
 grind[p6,Pf,Ph]
section
variable{n:Nat}{ops:Array Oper}{call:Call}{t0:Tm}{h0:Hp}{Δ0:Env}{w0:World}{T:Tc}{r:Tm×Hp}{Q:Exit->Act->World->Prop}
abbrev iM(ops:Array Oper):List It:=items ops.toList 0 []
theorem ur(k:Nat) (x:It) (h:(iM ops)[k]? =some x):x.i=k:=by
 have:=(CY _ _ _ _ _ h).1;omega
theorem xe{x y:It} (a:x∈iM ops) (b:y∈iM ops) (h:x.i=y.i):x=y:=by
 grind[mQ,ur]
theorem NG{x:It} (a:x∈iM ops):ops[x.i]? =some x.o:=by
 obtain⟨i,hi⟩:=mQ.1 a;have b:=ur i x hi;have c:=(CY _ _ _ _ _ hi).2
 simp_all
theorem Nj{i:Nat} {o:Oper} (h:ops[i]? =some o):∃a,a∈iM ops/\a.i=i/\a.o=o/\(iM ops)[i]? =some a:=by
 have c:i<ops.size:=by grind
 have b:i<(iM ops).length:=by rw[JZ];simpa using c
 have d:(iM ops)[i]? =some (iM ops)[i]:=by simp_all
 refine⟨(iM ops)[i],AW b,ur _ _ d,?_,d⟩;have e:=(CY _ _ _ _ _ d).2
 simp_all
theorem qv{x:It} (h:x∈gQ (iM ops)):x∈iM ops/\cls x.o=2:=by
 grind[gQ,BT]
theorem Wm:(gQ (iM ops)).Pairwise λa b=>a.i<b.i:=by
 unfold gQ;refine List.Pairwise.filter _ ?_;rw[wBA];intro i j hi c d;have e:=ur (ops:=ops) i _ (gW hi);have f:=ur (ops:=ops) j _ (gW c);omega
theorem Kz{q a:Nat} {x y:It} (hq:(gQ (iM ops))[q]? =some x) (b:(gQ (iM ops))[a]? =some y) (h:x.i=y.i):q=a:=by
 grind[Wm,wBA,jP,wB6]
structure Inv (n:Nat) (ops:Array Oper) (t0:Tm) (h0:Hp) (Δ0:Env) (w0:World) (T:Tc) (b:Array Bool) (j:Nat) (Δ:Env) (t:Tm) (a:Act) (w:World):Prop where
 size:b.size=ops.size
 closed:AP (iM ops) (λi=>b.getD i false)
 YN:j<=(gQ (iM ops)).length
 ahead:∀q x,(gQ (iM ops))[q]? =some x->(b.getD x.i false=true↔q<j)
 tmps:TR Δ n t a
 pC:∀d,jR t d=qI T.val (λi=>b.getD i false) d (iM ops) (jR t0 d)
 world:WR Δ (T.H j) w
 frame:FR Δ0 Δ w0 w
 none:∀l,Δ0 l = .none->l<h0.next->Δ l = .none
 defers:t.ds=t0.ds
 zdQ:∀x∈iM ops,cls x.o=1->T.on x.i=true->b.getD x.i false=false->T.ep x.i<=j->Δ (T.pl x.i) = .none
theorem VT(hc:xj call) (hp:qV (iM ops)=true) (a4:(iM ops).all (EB (iM ops))=true) (a5:(iM ops).all B1=true)
  (j0:Nat) (bE:∀(fuel:Nat) (c:Array Bool) (Y:Act) (w:World) (j:Nat) (Δ:Env) (t:Tm) (a:It),j0<=j->c.toList.count false<=fuel+1->Inv n ops t0 h0 Δ0 w0 T c j Δ t Y w->a∈iM ops->cls a.o=2->c.getD a.i false=false->
   (∀x∈iM ops,a.b.testBit x.i=true->c.getD x.i false=true)->(gQ (iM ops))[j]?≠some a->wpOp P0 ops Q a.i (wpAny P0 .any ops Q fuel (c.setIfInBounds a.i true)) Y w)
  {l:List It} (hl:∀a∈l,a∈iM ops) (M:ug n ops.toList (iM ops) (gQ (iM ops)) call t0 h0 l 0 0 h0 [] r T T)
  (a6:r.1.ds=t0.ds) (hQ:∀E a' w',Ce Δ0 h0 w0 n r.1 r.2 E a' w'->Q .normal a' w') :
  ∀(fuel:Nat) (c:Array Bool) (a:Act) (w:World) (j:Nat) (Δ:Env) (t:Tm),j0<=j->c.toList.count false<=fuel->Inv n ops t0 h0 Δ0 w0 T c j Δ t a w->wpAny P0 .any ops Q fuel c a w:=by
 have Z:∀(c:Array Bool),c.size=ops.size->Region.ready .any ops c=[]->∀x∈iM ops,c.getD x.i false=true:=by
  intro c bG hr;have a7:∀i,i<ops.size->c.getD i false=true:=by
   intro i
   induction i using Nat.strongRecOn with
   | _ i ih=>
     intro hi
     cases V:c.getD i false with
     |true=>rfl
     | false=>
       exfalso;have ho:ops[i]? =some ops[i]:=Array.getElem?_eq_getElem hi;obtain⟨x,z,a8,a9,_⟩:=Nj ho;have ay:i∈Region.ready .any ops c:=by
         rw[mem_ready];refine⟨?_,ops[i],ho,λe he ba=>?_⟩
         ·simp_all
         ·have p:=Q1.1 a5 x z
          unfold B1 at p;rw[a9,a8]at p;have v:=Q1.1 p e (by simpa using he);rw[<-GY,ba]at v;simp only[wB5,Bool.false_or,Qu]at v;exact ih e.on v (by omega)
       rw[hr]at ay;cases ay
  intro x z;exact a7 x.i (Yo.1 (NG z)).1
 have O:∀(c:Array Bool) (a:Act) (w:World) (j:Nat) (Δ:Env) (t:Tm),Inv n ops t0 h0 Δ0 w0 T c j Δ t a w->(∀x∈iM ops,c.getD x.i false=true)->Q .normal a w:=by
  intro c a w j Δ t k P;have hj:j=(gQ (iM ops)).length:=by
   rcases Te j (gQ (iM ops)).length with h|h
   ·have hg:=gW h;have:=(k.ahead j _ hg).1 (P _ (qv (AW h)).1);omega
   ·have:=k.YN;omega
  subst hj;refine hQ Δ a w ⟨⟨k.tmps.size,λi=>?_,by rw[a6,<-k.defers];exact k.tmps.ds⟩,by rw[M.last];exact k.world,k.frame,⟨?_,k.none⟩⟩
  ·have p:=k.tmps.rel i;rw[k.pC i,qp (D':=λ_=>true) (Oi:=T.val) (λx z _=>P x z) (λ_ _ _ _=>rfl),<-M.pC i]at p;exact p
  ·rw[M.last];exact Ie M.more.1 (GV M.chain _ _ (by rw[zj]) (iZ _))
 intro fuel
 induction fuel with
 | zero =>
   intro c a w j Δ t _ aN k;have P:∀x∈iM ops,c.getD x.i false=true:=by
     intro x z;have aa:x.i<c.size:=by rw[k.size];exact(Yo.1 (NG z)).1
     cases V:c.getD x.i false with
     |true=>rfl
     | false=>
       exfalso;have:false∈c.toList:=by
         have:c[x.i]=false:=by simpa[aa]using V
         rw[<-this];simp
       have:=List.count_pos_iff.2 this;omega
   refine⟨?_,O _ _ _ _ _ _ k P⟩;rw[List.eq_nil_iff_forall_not_mem]
   grind[mem_ready,Nj,Yo]
 | succ fuel ih=>
   intro c Y w j Δ t bb aN k;refine⟨λhr=>O _ _ _ _ _ _ k (Z _ k.size hr),λi hi=>?_⟩;rw[mem_ready]at hi;obtain⟨pt,o,ho,ao⟩:=hi;obtain⟨a,ha,aB,F,aC⟩:=Nj ho;have aa:i<c.size:=by rw[k.size];exact(Yo.1 ho).1
   have R:c.getD a.i false=false:=by rw[aB];simp[aa]at pt⊢;exact pt
   have S:∀x∈iM ops,a.b.testBit x.i=true->c.getD x.i false=true:=by
     intro x z V;obtain⟨e,he,bc,p⟩:=M7 aC V;rw[F]at he;have I:=ao e (by simpa using he) (by rw[GY];exact bc);rcases p with p|⟨y,B,aD⟩
     ·rw[p];exact I
     ·have bH:=ur _ _ B
      exact k.closed y (mQ.2 ⟨_,B⟩) (by simp_all) x z aD
   by_cases hez:cls a.o=2/\(gQ (iM ops))[j]?≠some a
   ·grind
   obtain ⟨D,u⟩:∃D,Mt n ops.toList (iM ops) (gQ (iM ops)) call t0 h0 T D a:=by
     rcases M.done a ha with p|p
     ·simp at p
     ·obtain⟨b,V,aE⟩:=LB.1 p
      rw[xe ha (hl b V) aE.symm];exact M.item b V
   have J:∀y∈iM ops,y∈l:=by
     intro y B;rcases M.done y B with p|p
     ·simp at p
     ·grind[xe]
   have bd:=J a ha;have ap:∀d,d∈pV a.o->jR t d=jR (T.tt a.i) d:=λd hd=>by
     rw[k.pC d,u.pC d];exact IT ur hp ha k.closed u.closed S u.eQ R u.fresh hd _ _
   have K:∀x∈a.o.op.operands.toList,Alike t (T.tt a.i) x:=IJ λd hd=>ap d (by simp[pV,hd]);have aq:p6 n ops.toList a.o t=some (T.on a.i):=by
     rw[<-u.p6];refine Q6 λjg wg oj d hg hj hd=>?_;have C:=Q1.1 a4 a ha;unfold EB at C;rw[hg]at C;simp only at C
     cases hjt:(iM ops)[jg]? with
     |none=>rw[hjt]at C;cases C
     | some g=>
       rw[hjt]at C;simp only at C;have be:g.o=oj:=by
         have:=(CY _ _ _ _ _ hjt).2;rw[hj]at this;cases this;rfl
       rw[be,hd]at C;simp only[xg]at C;obtain⟨aA,aF⟩:=C;have aO:=ur _ _ hjt;have bf:g∈iM ops:=mQ.2 ⟨_,hjt⟩;rw[k.pC d,u.pC d];refine qp (λx z bg=>?_) (λ_ _ _ _=>rfl) _;have p:=Q1.1 aF x z;rw[bg]at p;have v:x.i=jg:=by simpa using p
       have U:x=g:=xe z bf (by omega);subst U;rw[S x z (by rw[aO];exact aA),u.eQ x z (by rw[aO];exact aA)]
   have ab:Region.wanted o (yielded ops Y.tmps)=T.on a.i:=by rw[<-F];exact Qc k.tmps aq
   obtain ⟨d,hd⟩:=u.dst;have ac:∀i',(c.setIfInBounds i true).getD i' false=(c.getD i' false ||decide (a.i=i')):=λi'=>by
     by_cases e:i=i'
     ·subst e;simp[aa,aB]
     simp_all
   have aG:(c.setIfInBounds i true).toList.count false<=fuel:=by
     have p:c.toList[i]? =some false:=by
       rw[Z2];have:c.getD a.i false=false:=R;rw[aB]at this;simpa[aa]using this
     have:=count_set c.toList i p;rw[Array.toList_setIfInBounds];omega
   have W:AP (iM ops) (λi'=>(c.setIfInBounds i true).getD i' false):=by
     intro x z ae y B aD;simp only[ac,PV,AQ]at ae⊢;rcases ae with ae|ae
     ·exact .inl (k.closed x z ae y B aD)
     ·grind[xe]
   have ag:∀d',jR (d.f t (T.val a.i)) d' = qI T.val (λi'=>(c.setIfInBounds i true).getD i' false) d' (iM ops) (jR t0 d'):=λd'=>by
     rw[J6 hd,G6 ur hp ha k.closed R ac (val:=T.val) (Oi:=T.val) (λ_ _=>rfl) d' (jR t0 d'),k.pC d']
   have next:∀(j':Nat) (E:Env) (x:Value) (w':World),fO E (T.val a.i) x->WR E (T.H j') w'->FR Δ E w w'->j'<=(gQ (iM ops)).length->
       (∀q y,(gQ (iM ops))[q]? =some y->((c.setIfInBounds i true).getD y.i false=true↔q<j'))->
       (∀y∈iM ops,cls y.o=1->T.on y.i=true->(c.setIfInBounds i true).getD y.i false=false->T.ep y.i<=j'->E (T.pl y.i)=none)->
       (∀l,Δ0 l=none->l<h0.next->E l=none)->wpAny P0 .any ops Q fuel (c.setIfInBounds i true) (Y.put o.dst x) w':=by
     intro j' E x w' bh bi aP bj ah ar au;have bm:j<=j':=by
       rcases Te j' j with h|h
       ·exfalso
        have aQ:j' < (gQ (iM ops)).length:=by have:=k.YN;omega
        have hg:=gW aQ;have p:=(k.ahead j' _ hg).2 h
        grind
       ·exact h
     refine ih _ _ _ j' E (d.f t (T.val a.i)) (Ie bb bm) aG ⟨by simp[k.size],W,bj,ah,?_,ag,bi,k.frame.trans aP,au,by rw[yB hd];exact k.defers,ar⟩;have:=K4 (k.tmps.mono aP.le) hd bh;rw[F]at this;exact this
   have aR:h0.next<=(T.H j).next:=Ie M.more.1 (GV M.chain j j (by omega) k.YN);have ai:j<=late (gQ (iM ops)) a:=by
     rcases Te (late (gQ (iM ops)) a) j with h|h
     ·exfalso
      obtain⟨x,z,bo⟩:=Km (gQ (iM ops)) a (by have:=k.YN;omega);have p:=(k.ahead _ x z).2 h;have:=k.closed x (qv (mQ.2 ⟨_,z⟩)).1 p a ha bo
      grind
     ·exact h
   have still:cls a.o≠2->∀q y,(gQ (iM ops))[q]? =some y->((c.setIfInBounds i true).getD y.i false=true↔q<j):=by
     intro aw q y hq;rw[ac,<-k.ahead q y hq];have B:=qv (mQ.2 ⟨_,hq⟩);have:¬a.i=y.i:=by grind[xe]
     simp[this]
   have aH:cls a.o≠2->T.ep a.i<=j:=by
     intro aw;have p:=u.epw aw
     cases he:T.ep a.i with
     |zero=>omega
     | succ e=>
       rw[he]at p;simp only[Mf]at p
       grind[qv,mQ]
   have s:∀y∈iM ops,cls y.o=1->T.on y.i=true->(c.setIfInBounds i true).getD y.i false=false->T.ep y.i<=j->Δ (T.pl y.i)=none/\y.i≠a.i:=by
     intro y B p v U h4;rw[ac]at U;simp only[Bool.or_eq_false_iff,decide_eq_false_iff_not]at U;exact⟨k.zdQ y B p v U.1 h4,λe=>U.2 e.symm⟩
   have L:∀y∈iM ops,cls y.o=1->T.on y.i=true->T.ep y.i<=j->T.pl y.i<(T.H j).next:=by
     intro y B p v U;rcases M.done y B with h4|h4
     ·simp at h4
     ·obtain⟨b,V,aE⟩:=LB.1 h4
      have:=xe B (hl b V) aE.symm;subst this;obtain⟨_,aj⟩:=M.item y V;exact((aj.alloc p v).2.1 j U k.YN).1
   have aI:cls a.o=2->isW (gQ (iM ops)) a (T.ep a.i)=true->T.ep a.i=j/\(gQ (iM ops))[j]? =some a:=by
     intro _ hw;unfold isW at hw;split at hw
     ·rename_i x z
      have br:=xe (qv (mQ.2 ⟨_,z⟩)).1 ha (BT hw);subst br;have aS:(gQ (iM ops))[j]? =some x:=by
        apply Classical.byContradiction;intro aw;exact hez ⟨(qv (mQ.2 ⟨_,z⟩)).2,aw⟩
      exact⟨Kz z aS rfl,aS⟩
     ·cases hw
   have ak:cls a.o=2->isW (gQ (iM ops)) a (T.ep a.i)=true->∀q y,(gQ (iM ops))[q]? =some y->((c.setIfInBounds i true).getD y.i false=true↔q<j+1):=by
     intro m hw q y hq;obtain⟨_,z⟩:=aI m hw;rw[ac];simp only[PV,AQ,k.ahead q y hq];constructor
     ·rintro(h|h)
      ·omega
      ·have:=Kz z hq h;omega
     ·grind
   have al:cls a.o=2->isW (gQ (iM ops)) a (T.ep a.i)=true->∀(E:Env) (w':World),WR E (T.G j) w'->Gr (T.H j) Δ (T.G j) E->
       ∀y∈iM ops,cls y.o=1->T.on y.i=true->(c.setIfInBounds i true).getD y.i false=false->T.ep y.i<=j+1->E (T.pl y.i)=none:=by
     intro m hw E w' bt bu y B p v U h4;rcases Te j (T.ep y.i)with h5|h5
     ·obtain⟨_,aj⟩:=M.item y (J y B)
      have aT:=(aj.alloc p v).2.2.1 j h5
      cases hd':E (T.pl y.i)with
      |none=>rfl
      |some e=>have:=bt.fresh _ _ hd';omega
     ·exact bu.none _ (s y B p v U h5).1 (L y B p v h5)
   unfold wpOp;simp only[ho];rw[ab]
   cases I:T.on a.i with
   | false=>
     simp only[QY,if_false];have hv:=u.off I;rcases KT a.o with m|m|m
     ·exact next j Δ undef w (by rw[hv];exact .undef Δ) k.world (.refl _ _) k.YN (still (by rw[m];decide)) (by grind) k.none
     ·exact next j Δ undef w (by rw[hv];exact .undef Δ) k.world (.refl _ _) k.YN (still (by rw[m];decide)) (by grind) k.none
     ·obtain⟨A,_,aU⟩:=u.write m
      obtain⟨aJ,aK⟩:=aI m A;have hG:=aU I;rw[aJ]at hG;have am:j<(gQ (iM ops)).length:=(jP.1 aK).1;obtain⟨bw,aL⟩:=M.chain j (NJ _) am;have aV:WR Δ (T.G j) w:=by rw[hG];exact k.world
      exact next (j+1) Δ undef w (by rw[hv];exact .undef Δ) (aV.PE aL) (.refl _ _) am (ak m A) (al m A Δ w aV (by rw[hG];exact .refl _ _)) k.none
   | true=>
     simp only[if_true];left;rcases KT a.o with m|m|m
     ·have aW:=u.pure m I j (aH (by rw[m];decide)) k.YN ai
      rw[<-IV (h:=T.H j) K]at aW;have ax:(IX a.o).f call t (T.H j)=some (T.val a.i,T.H j):=by
        unfold IX;rw[m];simp only[fq];exact⟨_,aW,rfl⟩
      rw[<-F];refine OH hc k.world k.tmps ax λE x w' X=>?_;rw[F]
      exact next j E x w' X.val X.world X.frame k.YN (still (by rw[m];decide)) (λy B p v U h4=>X.grow.none _ (s y B p v U h4).1 (L y B p v h4))
        (λl' p v=>X.grow.none _ (k.none l' p v) (EL v aR))
     ·obtain ⟨⟨mk,aX,aY⟩,bx,_,aT⟩:=u.alloc m I
      obtain⟨bz,bA⟩:=bx j (aH (by rw[m];decide)) k.YN;have aZ:=bA ai;rw[<-LR K]at aX;obtain⟨mo,mv,an,aM⟩:=Ri k.tmps aX;have N:=k.zdQ a ha m I R (aH (by rw[m];decide));obtain⟨dd,V,bC,bD⟩:=aM (T.pl a.i) w.heap.size N;rw[<-F];unfold Oper.wp;rw[an w,Oper.upon_value,F];refine next j (Δ.set (T.pl a.i) dd) _ _ (by rw[aY];exact bD) (k.world.lay N bz aZ V bC) (FR.lay N V) k.YN (still (by rw[m];decide)) (λy B p v U h4=>?_) (λl' p v=>?_)
      ·obtain⟨e1,e2⟩:=s y B p v U h4
       have:=M.VP y (J y B) a bd p m v I e2;unfold Env.set;rw[if_neg this];exact e1
      ·have:l'≠T.pl a.i:=by omega
       unfold Env.set;rw[if_neg this];exact k.none l' p v
     ·obtain ⟨A,an,_⟩:=u.write m
      obtain⟨aJ,aK⟩:=aI m A;have ax:=an I;rw[aJ,<-Nd (h:=T.H j) K]at ax;have am:j<(gQ (iM ops)).length:=(jP.1 aK).1;obtain⟨bw,aL⟩:=M.chain j (NJ _) am;rw[<-F];refine OH hc k.world k.tmps ax λE x w' X=>?_;rw[F]
      exact next (j+1) E x w' X.val (X.world.PE aL) X.frame am (ak m A) (al m A E w' X.world X.grow)
        (λl' p v=>X.grow.none _ (k.none l' p v) (EL v aR))
theorem W4(l:Hn (gQ (iM ops))=true) (fuel:Nat) (c:Array Bool) (d:Act) (w:World) (j:Nat) (Δ:Env) (t:Tm) (a:It) (_:0<=j) (_:c.toList.count false<=fuel+1) (m:Inv n ops t0 h0 Δ0 w0 T c j Δ t d w) (z:a∈iM ops)
  (s:cls a.o=2) (p:c.getD a.i false=false) (k:∀x∈iM ops,a.b.testBit x.i=true->c.getD x.i false=true) (u:(gQ (iM ops))[j]?≠some a) :
  wpOp P0 ops Q a.i (wpAny P0 .any ops Q fuel (c.setIfInBounds a.i true)) d w:=by
 exfalso;have f:a∈gQ (iM ops):=by unfold gQ;rw[Ks];exact by simp_all
 obtain ⟨q,hq⟩:=mQ.1 f;have v:¬q<j:=λh=>by
  have:=(m.ahead _ a hq).2 h
  simp_all
 have y:q≠j:=by grind
 obtain⟨e,rfl⟩:∃e,q=e+1:=⟨q-1,by omega⟩
 have g:e<(gQ (iM ops)).length:=by have:=(jP.1 hq).1;omega
 have r:=gW g;have A:=LH l e _ a r hq;have:=(m.ahead e _ r).1 (by grind[qv,AW]);omega
theorem kR{x:Operand} (a:Qk x=true) (t:Tm) (h h':Hp):(tq x).f t h=(tq x).f t h':=by
 cases x <;> first|rfl|grind[Qk]
theorem Sq{o:Oper} (a:FX o=true) (t:Tm) (h h':Hp):(iL o).f t h=(iL o).f t h':=by
 unfold FX at a;unfold iL;split at a
 ·grind[kR]
 ·grind[Ah,kR]
 ·grind[qE,kR]
 ·rename_i b;rw[b];rw[xg]at a
  grind[qj,kR]
 ·cases a
theorem qq{o:Oper} {d:Nat} (h:storeAt o=some d):∃ty x,o.op = .store ty (.tmp d) x/\o.guard=none/\o.dst=none/\Qk x=true:=by
 grind[storeAt]
theorem BY{o:Oper} {d:Nat} (h:storeAt o=some d):cls o=2:=by
 grind[qq,cls]
theorem KQ{o:Oper} {d:Nat} (hs:storeAt o=some d) {call:Call} {t:Tm} {h h':Hp} {v:V} (hv:(IX o).f call t h=some (v,h')) :
  v = .undef/\∃l off e sz cs px,jR t d = .ptr l off/\h.get l=some (.cells e sz true false cs)/\h' = h.put l (.cells e sz true false px)/\
   ∀b:Hp,b.get l=h.get l->(IX o).f call t b=some (.undef,b.put l (.cells e sz true false px)):=by
 obtain⟨ty,x,j,_,_,C⟩:=qq hs;have p:=BY hs
 have c:∀h,(IX o).f call t h=oB ((j7 o).f t h) λr=>match r with
   | .val v h=>some (v,h)
   | .call f args=>call f args h:=by
  intro h;unfold IX;split
  ·omega
  ·omega
  ·rfl
 rw[c,fq]at hv;obtain⟨r,b,q⟩:=hv
 have k:∀h,(j7 o).f t h=match zl ty with
   |some n=>oB ((tq (.tmp d)).f t h) λa=>oB ((tq x).f t h) λv=>zH a λl off=>bB (Nat.beq v.cells.length n) (oB (Fp h l off v.cells) λh=>some (.val .undef h))
   |none=>none:=by
  intro h;unfold j7;rw[j];simp only;generalize zl ty=z;cases z <;> rfl
 rw[k]at b
 cases hn:zl ty with
 |none=>simp_all
 | some n=>
   rw[hn]at b;simp only[fq,wM,gS]at b;obtain⟨a,s,vv,u,l,off,rfl,hlen,D,g,w⟩:=b;cases w;cases q;have i:jR t d = .ptr l off:=Option.some.inj (show some (jR t d)=some (V.ptr l off) from s);unfold Fp at g;simp only[kW,gS,fq,wBj]at g;obtain⟨e,sz,live,ro,cs,y,rfl,rfl,m,px,A,Og⟩:=g;cases Og;refine⟨rfl,l,off,e,sz,cs,px,i,y,rfl,λb B=>?_⟩;rw[c,fq];refine⟨.val .undef (b.put l (.cells e sz true false px)),?_,rfl⟩;rw[k,hn];simp only[fq,wM,gS];refine⟨.ptr l off,by rw[<-i];rfl,vv,by grind[kR],l,off,rfl,hlen,b.put l (.cells e sz true false px),?_,rfl⟩;unfold Fp;simp only[kW,gS,fq,wBj]
   grind
theorem No:∀{l:List It} {a b:It},Mq l=some (a,b)->∃p,l.length=p+2/\l[p]? =some a/\l[p+1]? =some b
 |[],_,_,h=>by cases h
 |[_],_,_,h=>by cases h
 |[x,y],a,b,h=>by cases h;simp_all
 | _::y::z::l,a,b,h=>by
   obtain⟨p,c,d,e⟩:=No (l:=y::z::l) h;exact⟨p+1,by simp_all,by grind,by simp_all⟩
theorem Ja:∀{l:List It},I5 l=true->∀(q:Nat) (a b:It),l[q]? =some a->l[q+1]? =some b->q+2<l.length->b.b.testBit a.i=true/\(q+3=l.length->∀c,l[q+2]? =some c->c.b.testBit a.i=true)
 |[],_,q,a,b,h,_,_=>by simp_all
 |[x],_,q,a,b,_,h,_=>by simp_all
 |[x,y],_,q,a,b,_,_,h=>by grind
 | x::y::z::l,hc,0,a,b,d,e,_=>by
   simp at d e;subst d;subst e;simp only[I5,xg]at hc
   grind
 | x::y::z::l,hc,q+1,a,b,d,e,f=>by
   simp only[I5,xg]at hc;have:=Ja (l:=y::z::l) hc.2 q a b (by simp_all) (by simp_all) (by simp_all)
   simp_all
theorem Sy{j9 ws:List It} {a b:It} {da db:Nat} (h:Kc j9 ws=some (a,b,da,db)) :
  Mq ws=some (a,b)/\storeAt a.o=some da/\storeAt b.o=some db/\fixed j9 a=true/\fixed j9 b=true/\Qe j9 a b=true/\I5 ws=true:=by
 unfold Kc at h
 grind
structure zdb (n:Nat) (ops:Array Oper) (t0:Tm) (h0:Hp) (Δ0:Env) (w0:World) (T:Tc) (c:Nat) (e:Hp) (b:Array Bool) (Δ:Env) (t:Tm) (a:Act) (w:World):Prop where
 size:b.size=ops.size
 closed:AP (iM ops) (λi=>b.getD i false)
 ahead:∀x∈gQ (iM ops),(b.getD x.i false=true↔x.i≠c)
 tmps:TR Δ n t a
 pC:∀d,jR t d=qI T.val (λi=>b.getD i false) d (iM ops) (jR t0 d)
 world:WR Δ e w
 frame:FR Δ0 Δ w0 w
 none:∀l,Δ0 l = .none->l<h0.next->Δ l = .none
 defers:t.ds=t0.ds
section
variable{a b:It}{da db p:Nat}
structure zej (ops:Array Oper) (T:Tc) (a b:It) (da db p:Nat) (r:Tm×Hp):Prop where
 len:(gQ (iM ops)).length=p+2
 ga:(gQ (iM ops))[p]? =some a
 gb:(gQ (iM ops))[p+1]? =some b
 sa:storeAt a.o=some da
 sb:storeAt b.o=some db
 fa:fixed (iM ops) a=true
 fb:fixed (iM ops) b=true
 op:Qe (iM ops) a b=true
 ch:I5 (gQ (iM ops))=true
 apart:YV (jR r.1 da) (jR r.1 db)=true
theorem Pd(h:Qe (iM ops) a b=true) {x:It} (c:x∈iM ops) (d:x.i≠a.i) (e:x.i≠b.i) (f:¬(a.b.testBit x.i=true/\b.b.testBit x.i=true)) :
  cls x.o=0/\FX x.o=true/\x.o.guard=none/\x.b.testBit a.i=false/\x.b.testBit b.i=false:=by
 have:=Q1.1 h x c;simp only[PV,xg,wBj,Option.isNone_iff_eq_none]at this
 grind[absurd,BT]
theorem Ko{l:List It} (h:ug n ops.toList (iM ops) (gQ (iM ops)) call t0 h0 l 0 0 h0 [] r T T) {x:It} (j:x∈iM ops) (c:fixed (iM ops) x=true) {D:Nat->Bool} (k:∀y∈iM ops,x.b.testBit y.i=true->D y.i=true)
  {d:Nat} (e:d∈Cr x.o.op.operands.toList) (a:V):qI T.val D d (iM ops) a=qI T.val (λ_=>true) d (iM ops) a:=by
 refine qp (λy f g=>?_) (by simp_all) a;have m:=Q1.1 (Q1.1 c d e) y f
 grind[writes]
theorem BN{o:Oper} {d:Nat} (h:storeAt o=some d):d∈Cr o.op.operands.toList:=by
 grind[qq,Op.operands,Cr]
end
section
variable{a b:It}{da db p:Nat}{l:List It}
theorem Zd{H a e:Hp} {la lb:Nat} {i ob:O} (b:la<H.next) (f:lb<H.next) (l:la≠lb) (j:DN (H.put la i) a) (k:DN (a.put lb ob) e):DN ((H.put lb ob).put la i) e:=by
 have c:H.next<=a.next:=j.1;have g:a.next<=e.next:=k.1;refine⟨Ie c g,λx m=>?_⟩;have d:x<H.next:=m;rw[k.2 x (EL d c)];rw[pW (h:=H.put lb ob) _ _ b,pW (h:=a) _ _ (by omega),pW (h:=H) _ _ f];rw[j.2 x d,pW (h:=H) _ _ b]
 grind
theorem zca(hc : xj call) (hp:qV (iM ops)=true) (aL:(iM ops).all (EB (iM ops))=true) (ar:(iM ops).all B1=true) (hl:∀a∈l,a∈iM ops)
    (Y:ug n ops.toList (iM ops) (gQ (iM ops)) call t0 h0 l 0 0 h0 [] r T T) (hP:zej ops T a b da db p r)
    (aM:r.1.ds=t0.ds) (hQ:∀Δ' a' w',Ce Δ0 h0 w0 n r.1 r.2 Δ' a' w'->Q .normal a' w') {la lb:Nat} {ob:O} (bc:la<(T.H p).next) (aN:lb<(T.H p).next) (aO:la≠lb)
    (aP:∀t:Tm,jR t da=jR r.1 da->∃oa,(T.G p)=(T.H p).put la oa/\∀k:Hp,k.get la=(T.H p).get la->(∀x∈a.o.op.operands.toList,Alike t (T.tt a.i) x)->(IX a.o).f call t k=some (.undef,k.put la oa))
    (bd:T.G (p+1)=(T.H (p+1)).put lb ob) :
    ∀(fuel:Nat) (c:Array Bool) (m:Act) (w:World) (Δ:Env) (t:Tm),c.toList.count false<=fuel->zdb n ops t0 h0 Δ0 w0 T a.i ((T.H p).put lb ob) c Δ t m w->wpAny P0 .any ops Q fuel c m w:=by
  have ha:a∈iM ops:=(qv (mQ.2 ⟨_,hP.ga⟩)).1;have hb:b∈iM ops:=(qv (mQ.2 ⟨_,hP.gb⟩)).1;have aQ:=BY hP.sa;have aR:=BY hP.sb;have aS:a.i≠b.i:=λe=>by
    have:=Kz hP.ga hP.gb e;omega
  have au:a∈gQ (iM ops):=mQ.2 ⟨_,hP.ga⟩;have aw:b∈gQ (iM ops):=mQ.2 ⟨_,hP.gb⟩;have L:∀{c Δ t m w},zdb n ops t0 h0 Δ0 w0 T a.i ((T.H p).put lb ob) c Δ t m w->c.getD a.i false=false:=λg=>by
    cases h:Array.getD _ a.i false with
    |false=>rfl
    |true=>exact absurd rfl ((g.ahead a au).1 h)
  have ah:∀{c Δ t m w},zdb n ops t0 h0 Δ0 w0 T a.i ((T.H p).put lb ob) c Δ t m w->c.getD b.i false=true:=λg=>(g.ahead b aw).2 (λe=>aS e.symm);intro fuel
  induction fuel with
  | zero=>
    intro c m w Δ t ax g;exfalso;have k:=L g;have M:a.i<c.size:=by rw[g.size];exact(Yo.1 (NG ha)).1
    have:false∈c.toList:=by
      have:c[a.i]=false:=by simpa[M]using k
      rw[<-this];simp
    have:=List.count_pos_iff.2 this
    omega
  | succ fuel ih=>
    intro c m w Δ t ax g;refine⟨λhr=>?_,λi hi=>?_⟩
    ·exfalso
     have ay : ∀i,i<ops.size->c.getD i false=true:=by
       intro i
       induction i using Nat.strongRecOn with
       | _ i aT=>
         intro hi
         cases Z:c.getD i false with
         |true=>rfl
         | false=>
           exfalso;have ho:ops[i]? =some ops[i]:=Array.getElem?_eq_getElem hi;obtain⟨x,hx,aU,aV,_⟩:=Nj ho;have F:i∈Region.ready .any ops c:=by
             rw[mem_ready];refine⟨?_,ops[i],ho,λe he aA=>?_⟩
             ·have:i<c.size:=by rw[g.size];exact hi
              simp[this]at Z⊢;exact Z
             ·have k:=Q1.1 ar x hx
              unfold B1 at k;rw[aV,aU]at k;have h2:=Q1.1 k e (by simpa using he);rw[<-GY,aA]at h2;simp only[wB5,Bool.false_or,Qu]at h2;exact aT e.on h2 (by omega)
           rw[hr]at F;cases F
     have:=ay a.i (Yo.1 (NG ha)).1;rw[L g]at this;cases this
    rw[mem_ready]at hi;obtain⟨pt,o,ho,aa⟩:=hi;obtain⟨y,X,ai,u,aj⟩:=Nj ho;have M:i<c.size:=by rw[g.size];exact(Yo.1 ho).1
    have N:c.getD y.i false=false:=by rw[ai];simp[M]at pt⊢;exact pt
    have I:∀x∈iM ops,y.b.testBit x.i=true->c.getD x.i false=true:=by
      intro x hx Z;obtain⟨e,he,aW,k⟩:=M7 aj Z;rw[u]at he;have P:=aa e (by simpa using he) (by rw[GY];exact aW);rcases k with k|⟨z,A,E⟩
      ·rw[k];exact P
      ·have be:=ur _ _ A
       exact g.closed z (mQ.2 ⟨_,A⟩) (by simp_all) x hx E
    have ab:∀y∈iM ops,y∈l:=by
      intro y X;rcases Y.done y X with k|k
      ·simp at k
      ·grind[xe]
    obtain ⟨D,B⟩:=Y.item y (ab y X);have ac:∀d,d∈pV y.o->jR t d=jR (T.tt y.i) d:=λd K=>by
      rw[g.pC d,B.pC d];exact IT ur hp X g.closed B.closed I B.eQ N B.fresh K _ _
    have J:∀x∈y.o.op.operands.toList,Alike t (T.tt y.i) x:=IJ λd K=>ac d (by simp[pV,K]);obtain⟨d,K⟩:=B.dst;have R:∀i',(c.setIfInBounds i true).getD i' false=(c.getD i' false ||decide (y.i=i')):=λi'=>by
      by_cases e:i=i'
      ·subst e;simp[M,ai]
      simp_all
    have S:(c.setIfInBounds i true).toList.count false<=fuel:=by
      have k:c.toList[i]? =some false:=by
        rw[Z2];have:c.getD y.i false=false:=N;rw[ai]at this;simpa[M]using this
      have:=count_set c.toList i k;rw[Array.toList_setIfInBounds];omega
    have s:AP (iM ops) (λi'=>(c.setIfInBounds i true).getD i' false):=by
      intro x hx U z A E;simp only[R,PV,AQ]at U⊢;rcases U with U|U
      ·exact .inl (g.closed x hx U z A E)
      ·grind[xe]
    have C:∀d',jR (d.f t (T.val y.i)) d' = qI T.val (λi'=>(c.setIfInBounds i true).getD i' false) d' (iM ops) (jR t0 d'):=λd'=>by
      rw[J6 K,G6 ur hp X g.closed N R (val:=T.val) (Oi:=T.val) (λ_ _=>rfl) d' (jR t0 d'),g.pC d']
    have aB:h0.next<=(T.H p).next:=Ie Y.more.1 (GV Y.chain p p (by omega) (by have:=hP.len;omega));have ak:y.i≠a.i->cls y.o=0/\FX y.o=true/\y.o.guard=none/\y.b.testBit a.i=false/\y.b.testBit b.i=false:=λag=>by
      have aX:y.i≠b.i:=by grind
      refine Pd hP.op X ag aX λ⟨_,aC⟩=>?_;have:=g.closed b hb (ah g) y X aC
      simp_all
    by_cases hya:y.i=a.i
    ·
      have aD:=xe X ha hya;subst aD;have P:Region.wanted o (yielded ops m.tmps)=true:=by
        obtain⟨_,_,_,hg,_⟩:=qq hP.sa;unfold Region.wanted;rw[<-u,hg]
      unfold wpOp;simp only[ho];rw[P];simp only[if_true];left;obtain⟨oa,bf,aE⟩:=aP t (by
        rw[g.pC da,Y.pC da];exact Ko Y X hP.fa I (BN hP.sa) _)
      have al:=aE ((T.H p).put lb ob) (by rw[pW _ _ aN,if_neg (λe=>aO e.symm)]) J;rw[<-u];refine OH hc g.world g.tmps al λΔ' x w' V=>?_;rw[u];have hlen:=hP.len;have ba:=Y.chain p (NJ _) (by omega);have aY:=Y.chain (p+1) (NJ _) (by omega);have hm:DN (((T.H p).put lb ob).put la oa) (T.H (p+2)):=by grind[Zd]
      have am:∀q z,(gQ (iM ops))[q]? =some z->((c.setIfInBounds i true).getD z.i false=true↔q<p+2):=λq z A=>by
        have aZ:=(jP.1 A).1;constructor
        ·intro _;omega
        ·intro _
         rw[R];by_cases e:z.i=y.i
         ·simp[e]
         ·rw[(g.ahead z (mQ.2 ⟨_,A⟩)).2 e];rfl
      have bb:T.val y.i = .undef\/True:= .inr trivial;have aF:(d.f t (T.val y.i)).ds=t0.ds:=by rw[yB K];exact g.defers
      have ae:y.o.dst=none:=by obtain⟨_,_,_,_,h5,_⟩:=qq hP.sa;exact h5
      have a4:TR Δ' n (d.f t (T.val y.i)) (m.put o.dst x):=by
        have k:=K4 (g.tmps.mono V.frame.le) K (v:= .undef) V.val;rw[u]at k;have e:d.f t (T.val y.i)=d.f t .undef:=by
          unfold zd at K;rw[ae]at K;cases K;rfl
        rw[e];exact k
      refine VT hc hp aL ar (T:=T) (p+2) (λfuel c m w j Δ t a' hj _ a5 a6 aG an _ ag=>?_) hl Y aM hQ fuel _ _ _ (p+2) Δ' (d.f t (T.val y.i)) (iZ _) S
        ⟨by simp[g.size],s,by omega,am,a4,C,V.world.PE hm,g.frame.trans V.frame,λl' k h2=>V.grow.none _ (g.none l' k h2) (EL h2 aB),aF,λz A aH bg ao _=>?_⟩
      ·exfalso
       have F:a'∈gQ (iM ops):=by unfold gQ;rw[Ks];exact⟨a6,by rw[aG];rfl⟩
       obtain⟨q,hq⟩:=mQ.1 F;have k:=(jP.1 hq).1;have:=(a5.ahead _ a' hq).2 (by omega);rw[an]at this;cases this
      ·exfalso
       rw[R]at ao;simp only[Bool.or_eq_false_iff,decide_eq_false_iff_not]at ao;have E:z.i≠b.i:=by grind
       have:=Pd hP.op A (λe=>ao.2 e.symm) E (by grind);rw[this.1]at aH;cases aH
    ·
      obtain⟨ap,CQ,aI,bh,aC⟩:=ak hya;have a7:p6 n ops.toList y.o (T.tt y.i)=some true:=by unfold p6 kU;rw[aI]
      have P:T.on y.i=true:=by
        have:=B.p6;rw[a7]at this;exact(Option.some.inj this).symm
      have W:Region.wanted o (yielded ops m.tmps)=true:=by
        unfold Region.wanted;rw[<-u,aI]
      have hlen :=hP.len;have a8:T.ep y.i<=p:=by
        have k:=B.epw (by rw[ap];decide)
        cases he:T.ep y.i with
        |zero=>omega
        | succ e=>
          rw[he]at k;simp only[Mf]at k;split at k
          ·rename_i z A
           have aZ:=(jP.1 A).1;rcases Te e p with h|h
           ·omega
           ·exfalso
            have:e=p\/e=p+1:=by omega
            rcases this with e1|e1
            ·subst e1
             rw[hP.ga]at A;simp_all
            ·subst e1
             rw[hP.gb]at A;simp_all
          ·cases k
      have aq:p<=late (gQ (iM ops)) y:=by
        rcases Te (late (gQ (iM ops)) y) p with h|h
        ·exfalso
         obtain ⟨z,A,E⟩:=Km (gQ (iM ops)) y (by omega);have aJ:z∈gQ (iM ops):=mQ.2 ⟨_,A⟩;have a9:z.i≠a.i:=λe=>by
           have:=Kz A hP.ga e;omega
         have:=g.closed z (qv aJ).1 ((g.ahead z aJ).2 a9) y X E
         simp_all
        ·exact h
      have aK:=B.pure ap P p a8 (by omega) aq;rw[<-IV (h:=T.H p) J,Sq CQ t _ ((T.H p).put lb ob)]at aK;have al:(IX y.o).f call t ((T.H p).put lb ob)=some (T.val y.i,(T.H p).put lb ob):=by
        unfold IX;rw[ap];simp only[fq];exact⟨_,aK,rfl⟩
      unfold wpOp;simp only[ho];rw[W];simp only[if_true];left;rw[<-u];refine OH hc g.world g.tmps al λΔ' x w' V=>?_;rw[u];refine ih _ _ _ Δ' (d.f t (T.val y.i)) S ⟨by simp[g.size],s,λz A=>?_,?_,C,V.world,g.frame.trans V.frame,λl' k h2=>V.grow.none _ (g.none l' k h2) (EL h2 aB),by rw[yB K];exact g.defers⟩
      ·rw[R]
       have:¬y.i=z.i:=by grind[xe,qv]
       simp only[this,decide_false,Bool.or_false];exact g.ahead z A
      ·have k:=K4 (g.tmps.mono V.frame.le) K V.val
       rw[u]at k;exact k
end
section
variable{a b:It}{da db p:Nat}{l:List It}
theorem X3(hc:xj call) (hp:qV (iM ops)=true) (aB:(iM ops).all (EB (iM ops))=true) (aC:(iM ops).all B1=true) (hl:∀a∈l,a∈iM ops)
  (G:ug n ops.toList (iM ops) (gQ (iM ops)) call t0 h0 l 0 0 h0 [] r T T) (hP:zej ops T a b da db p r)
  (aD:r.1.ds=t0.ds) (hQ:∀Δ' a' w',Ce Δ0 h0 w0 n r.1 r.2 Δ' a' w'->Q .normal a' w')
  (fuel:Nat) (c:Array Bool) (I:Act) (w:World) (j:Nat) (Δ:Env) (t:Tm) (y:It) (_:0<=j) (aU:c.toList.count false<=fuel+1) (m:Inv n ops t0 h0 Δ0 w0 T c j Δ t I w) (hy:y∈iM ops)
  (aj:cls y.o=2) (J:c.getD y.i false=false) (g:∀x∈iM ops,y.b.testBit x.i=true->c.getD x.i false=true) (a4:(gQ (iM ops))[j]?≠some y) :
  wpOp P0 ops Q y.i (wpAny P0 .any ops Q fuel (c.setIfInBounds y.i true)) I w:=by
 have hlen:=hP.len;have ha:a∈iM ops:=(qv (mQ.2 ⟨_,hP.ga⟩)).1;have hb:b∈iM ops:=(qv (mQ.2 ⟨_,hP.gb⟩)).1;have ak:y∈gQ (iM ops):=by unfold gQ;rw[Ks];exact by simp_all
 obtain ⟨q,hq⟩:=mQ.1 ak;have a5:=(jP.1 hq).1;have a6:¬q<j:=λh=>by
  have:=(m.ahead _ y hq).2 h
  simp_all
 have a7:q≠j:=by grind
 have aE:q=p+1/\j=p:=by
  obtain⟨e,rfl⟩:∃e,q=e+1:=⟨q-1,by omega⟩
  have V:e<(gQ (iM ops)).length:=by omega
  have hg:=gW V;rcases Te e p with h|h
  ·exfalso;have ab:=(Ja hP.ch e _ y hg hq (by omega)).1;have:=(m.ahead e _ hg).1 (g _ (qv (AW V)).1 ab);omega
  ·have he:e=p:=by omega
   subst he;refine⟨rfl,?_⟩;rcases Te j e with h2|h2
   ·exfalso;obtain⟨f,rfl⟩:∃f,e=f+1:=⟨e-1,by omega⟩
    have al:f<(gQ (iM ops)).length:=by omega
    have am:=gW al;have ab:=(Ja hP.ch f _ a am hP.ga (by omega)).2 (by omega) y hq;have:=(m.ahead f _ am).1 (g _ (qv (AW al)).1 ab);omega
   ·omega
 obtain⟨rfl,rfl⟩:=aE;have aF:y=b:=by rw[hP.gb]at hq;cases hq;rfl
 subst aF;have C:∀y∈iM ops,y∈l:=by
  intro y hy;rcases G.done y hy with B|B
  ·simp at B
  ·grind[xe]
 obtain ⟨D,s⟩:=G.item y (C y hy);obtain⟨Da,u⟩:=G.item a (C a ha);have K:=BY hP.sa;have epw:∀{x:It} {D:Nat->Bool} {k:Nat},Mt n ops.toList (iM ops) (gQ (iM ops)) call t0 h0 T D x->cls x.o=2->(gQ (iM ops))[k]? =some x->T.ep x.i=k:=λ{x D k} W aG a8=>by
  have B:=(W.write aG).1
  grind[isW,Kz,BT]
 have an:=epw s aj hP.gb;have ao:=epw u K hP.ga;have X:∀{x:It} {D:Nat->Bool} {d:Nat},Mt n ops.toList (iM ops) (gQ (iM ops)) call t0 h0 T D x->storeAt x.o=some d->T.on x.i=true:=λ{x D d} W hs=>by
  obtain⟨_,_,_,hg,_⟩:=qq hs;have:=W.p6
  grind[p6,kU,Option.some.inj]
 have P:∀d,d∈pV y.o->jR t d=jR (T.tt y.i) d:=λd O=>by
  rw[m.pC d,s.pC d];exact IT ur hp hy m.closed s.closed g s.eQ J s.fresh O _ _
 have R:∀x∈y.o.op.operands.toList,Alike t (T.tt y.i) x:=by grind[IJ,pV]
 have Y:=(u.write K).2.1 (X u hP.sa);rw[ao]at Y;obtain⟨_,la,aV,ea,aH,a9,ap,aI,aJ,ac,aK⟩:=KQ hP.sa Y;have E:=(s.write aj).2.1 (X s hP.sb);rw[an]at E;obtain⟨_,lb,aW,eb,ba,bb,aX,bc,bd,be,_⟩:=KQ hP.sb E;rw[<-Nd (h:=T.H (j+1)) R]at E;obtain⟨_,A,aL,aM,aq,aY,ae,Z,aZ,ar,ag⟩:=KQ hP.sb E;have e1:=P db (by simp[pV,BN hP.sb]);have aN:jR (T.tt a.i) da=jR r.1 da:=by
  rw[u.pC da,G.pC da];exact Ko G ha hP.fa u.eQ (BN hP.sa) _
 have aO:jR t db=jR r.1 db:=by
  rw[m.pC db,G.pC db];exact Ko G hy hP.fb g (BN hP.sb) _
 have au:la≠A:=λe=>by
  have:=hP.apart;rw[<-aN,<-aO,aI,Z,e]at this;have h2:(!(Nat.beq A A))=true:=this
  simp_all
 have aw:la<(T.H j).next:=Hp.Ni aJ;have ax:A<(T.H j).next:=by
  have B:=m.tmps.rel db;rw[Z]at B
  cases W:I.tmps.getD db undef with
  | pointer p=>
    rw[W]at B
    cases B with
    |ptr _ _ d O=>exact m.world.fresh _ _ O
  |_=>rw[W]at B;cases B
 have aP:=G.chain j (NJ _) (by omega);have ay:(T.H j).get A=(T.H (j+1)).get A:=by
  rw[aP.2.2 A (by rw[ac];exact ax),ac,pW _ _ aw,if_neg au]
 have aQ:=ag (T.H j) ay;have aa:=NG hy;have L:Region.wanted y.o (yielded ops I.tmps)=true:=by
  obtain⟨_,_,_,hg,_⟩:=qq hP.sb;unfold Region.wanted;rw[hg]
 obtain⟨d,O⟩:=s.dst;have aA:y.i<c.size:=by rw[m.size];exact(Yo.1 aa).1
 have ah:∀S,(c.setIfInBounds y.i true).getD S false=(c.getD S false ||decide (y.i=S)):=λS=>by
  by_cases e:y.i=S
  ·rw[<-e];simp[aA]
  simp_all
 have ai:(c.setIfInBounds y.i true).toList.count false<=fuel:=by
  have B:c.toList[y.i]? =some false:=by
   rw[Z2];simpa[aA]using J
  have:=count_set c.toList y.i B;rw[Array.toList_setIfInBounds];omega
 have F:AP (iM ops) (λS=>(c.setIfInBounds y.i true).getD S false):=by
  intro x W M z hz aR;simp only[ah,PV,AQ]at M⊢;rcases M with M|M
  ·exact .inl (m.closed x W M z hz aR)
  ·grind[xe]
 have N:∀d',jR (d.f t (T.val y.i)) d' = qI T.val (λS=>(c.setIfInBounds y.i true).getD S false) d' (iM ops) (jR t0 d'):=λd'=>by
  rw[J6 O,G6 ur hp hy m.closed J ah (val:=T.val) (Oi:=T.val) (λ_ _=>rfl) d' (jR t0 d'),m.pC d']
 have aS:h0.next<=(T.H j).next:=Ie G.more.1 (GV G.chain j j (by omega) (by omega));unfold wpOp;simp only[aa];rw[L];simp only[if_true];left;refine OH hc m.world m.tmps aQ λΔ' x w' hA=>?_;have U:y.o.dst=none:=by obtain⟨_,_,_,_,h5,_⟩:=qq hP.sb;exact h5
 have aT:TR Δ' n (d.f t (T.val y.i)) (I.put y.o.dst x):=by
  have B:=K4 (m.tmps.mono hA.frame.le) O (v:= .undef) hA.val;have e:d.f t (T.val y.i)=d.f t .undef:=by
   unfold zd at O;rw[U]at O;cases O;rfl
  rw[e];exact B
 refine zca hc hp aB aC hl G hP aD hQ (la:=la) (lb:=A) (ob:= .cells aM aq true false ae) aw ax au (λt' bf=>⟨.cells ea aH true false ap,ac,λB bg bh=>?_⟩) ar fuel _ _ _ Δ' (d.f t (T.val y.i)) ai
  ⟨by simp[m.size],F,λz hz=>?_,aT,N,hA.world,m.frame.trans hA.frame,λl' B h2=>hA.grow.none _ (m.none l' B h2) (EL h2 aS),by rw[yB O];exact m.defers⟩
 ·grind[Nd]
 ·obtain ⟨k,hk⟩:=mQ.1 hz;have bi:=(jP.1 hk).1;rw[ah];simp only[PV,AQ,m.ahead k z hk];constructor
  ·rintro(h|h)
   ·intro e;have:=Kz hk hP.ga e;omega
   grind
  ·intro bj;rcases Te k j with h|h
   ·exact .inl h
   ·right;have bm:k≠j:=λe=>by
     subst e;rw[hP.ga]at hk;simp_all
    have:k=j+1:=by omega
    simp_all
end
end
