/- Parts. -/
import Derived.Test.YtbdcpiokodljaaaGreatDoorM04
set_option maxHeartbeats 4000000
namespace Go.Proofs.YtbdcpiokodljaaaGreatDoor.Hx
theorem LZ:∀(ws:List It) (a:It),late ws a<ws.length->∃w,ws[late ws a]? =some w/\w.b.testBit a.i=true
 |[],a,h=>by simp_all
 | w ::ws,a,h=>by
   unfold late at h⊢;split
   ·simp_all
   ·rename_i c
    simp only[c,Rb]at h;obtain⟨w',d,e⟩:=LZ ws a (by omega)
    simp_all
theorem L7:∀{l:List It},HU l=true->∀(q:Nat) (a b:It),l[q]? =some a->l[q+1]? =some b->b.b.testBit a.i=true
 |[],_,q,a,b,h,_=>by simp_all
 |[x],_,q,a,b,_,h=>by simp_all
 | x::y::l,hc,0,a,b,c,d=>by
   simp_all[HU,yl]
 | x::y::l,hc,q+1,a,b,c,d=>by
   simp only[HU,yl]at hc;exact L7 (l:=y::l) hc.2 q a b (by simp_all) (by simp_all)
theorem count_set:∀(l:List Bool) (i:Nat),l[i]? =some false->(l.set i true).count false<l.count false
 |[],i,h=>by simp_all
 |b::l,0,h=>by simp_all
 | b::l,i+1,h=>by
   grind
theorem Sg{n:Nat} {all:List Oper} {o:Oper} {t t':Tm} (h:∀j w a d,o.guard=some (j,w)->all[j]? =some a->a.dst=some d->ki t d=ki t' d):qz n all o t=qz n all o t':=by
 unfold qz lL
 grind
theorem Q3{Δ:Env} {n:Nat} {t:Tm} {a:Act} (c:TR Δ n t a) {ops:Array Oper} {o:Oper} {b:Bool} (h:qz n ops.toList o t=some b):Region.wanted o (yielded ops a.tmps)=b:=by
 grind[qz,Qg,PH]
section
variable{n:Nat}{ops:Array Oper}{call:Call}{t0:Tm}{h0:Hp}{Δ0:Env}{w0:World}{T:Tc}{r:Tm×Hp}{Q:Exit->Act->World->Prop}
abbrev jc(ops:Array Oper):List It:=items ops.toList 0 []
theorem vt(k:Nat) (x:It) (h:(jc ops)[k]? =some x):x.i=k:=by
 have:=(DR _ _ _ _ _ h).1;omega
theorem yh{x y:It} (a:x∈jc ops) (b:y∈jc ops) (h:x.i=y.i):x=y:=by
 grind[nT,vt]
theorem NP{x:It} (a:x∈jc ops):ops[x.i]? =some x.o:=by
 obtain⟨i,hi⟩:=nT.1 a;have b:=vt i x hi;have c:=(DR _ _ _ _ _ hi).2
 simp_all
theorem Nh{i:Nat} {o:Oper} (h:ops[i]? =some o):∃a,a∈jc ops/\a.i=i/\a.o=o/\(jc ops)[i]? =some a:=by
 have c:i<ops.size:=by grind
 have b:i<(jc ops).length:=by rw[K5];simpa using c
 have d:(jc ops)[i]? =some (jc ops)[i]:=by simp_all
 refine⟨(jc ops)[i],AU b,vt _ _ d,?_,d⟩;have e:=(DR _ _ _ _ _ d).2
 simp_all
theorem rF{x:It} (h:x∈gY (jc ops)):x∈jc ops/\cls x.o=2:=by
 grind[gY,CI]
theorem XL:(gY (jc ops)).Pairwise λa b=>a.i<b.i:=by
 unfold gY;refine List.Pairwise.filter _ ?_;rw[wA9];intro i j hi c d;have e:=vt (ops:=ops) i _ (hO hi);have f:=vt (ops:=ops) j _ (hO c);omega
theorem Lu{q a:Nat} {x y:It} (hq:(gY (jc ops))[q]? =some x) (b:(gY (jc ops))[a]? =some y) (h:x.i=y.i):q=a:=by
 grind[XL,wA9,kj,wB7]
structure Inv (n:Nat) (ops:Array Oper) (t0:Tm) (h0:Hp) (Δ0:Env) (w0:World) (T:Tc) (b:Array Bool) (j:Nat) (Δ:Env) (t:Tm) (a:Act) (w:World):Prop where
 size:b.size=ops.size
 closed:Bb (jc ops) (λi=>b.getD i false)
 YZ:j<=(gY (jc ops)).length
 ahead:∀q x,(gY (jc ops))[q]? =some x->(b.getD x.i false=true↔q<j)
 tmps:TR Δ n t a
 ql:∀d,ki t d=qR T.val (λi=>b.getD i false) d (jc ops) (ki t0 d)
 world:WR Δ (T.H j) w
 frame:FR Δ0 Δ w0 w
 none:∀l,Δ0 l = .none->l<h0.next->Δ l = .none
 defers:t.ds=t0.ds
 zes:∀x∈jc ops,cls x.o=1->T.on x.i=true->b.getD x.i false=false->T.ep x.i<=j->Δ (T.pl x.i) = .none
theorem VU(hc:xk call) (hp:rY (jc ops)=true) (a4:(jc ops).all (EP (jc ops))=true) (a5:(jc ops).all Cv=true)
  (j0:Nat) (bE:∀(fuel:Nat) (c:Array Bool) (Y:Act) (w:World) (j:Nat) (Δ:Env) (t:Tm) (a:It),j0<=j->c.toList.count false<=fuel+1->Inv n ops t0 h0 Δ0 w0 T c j Δ t Y w->a∈jc ops->cls a.o=2->c.getD a.i false=false->
   (∀x∈jc ops,a.b.testBit x.i=true->c.getD x.i false=true)->(gY (jc ops))[j]?≠some a->wpOp P0 ops Q a.i (wpAny P0 .any ops Q fuel (c.setIfInBounds a.i true)) Y w)
  {l:List It} (hl:∀a∈l,a∈jc ops) (M:uZ n ops.toList (jc ops) (gY (jc ops)) call t0 h0 l 0 0 h0 [] r T T)
  (a6:r.1.ds=t0.ds) (hQ:∀E a' w',Db Δ0 h0 w0 n r.1 r.2 E a' w'->Q .normal a' w') :
  ∀(fuel:Nat) (c:Array Bool) (a:Act) (w:World) (j:Nat) (Δ:Env) (t:Tm),j0<=j->c.toList.count false<=fuel->Inv n ops t0 h0 Δ0 w0 T c j Δ t a w->wpAny P0 .any ops Q fuel c a w:=by
 have Z:∀(c:Array Bool),c.size=ops.size->Region.ready .any ops c=[]->∀x∈jc ops,c.getD x.i false=true:=by
  intro c bG hr;have a7:∀i,i<ops.size->c.getD i false=true:=by
   intro i
   induction i using Nat.strongRecOn with
   | _ i ih=>
     intro hi
     cases V:c.getD i false with
     |true=>rfl
     | false=>
       exfalso;have ho:ops[i]? =some ops[i]:=Array.getElem?_eq_getElem hi;obtain⟨x,z,a8,a9,_⟩:=Nh ho;have ay:i∈Region.ready .any ops c:=by
         rw[mem_ready];refine⟨?_,ops[i],ho,λe he ba=>?_⟩
         ·simp_all
         ·have p:=RU.1 a5 x z
          unfold Cv at p;rw[a9,a8]at p;have v:=RU.1 p e (by simpa using he);rw[<-HS,ba]at v;simp only[wB6,Bool.false_or,Q8]at v;exact ih e.on v (by omega)
       rw[hr]at ay;cases ay
  intro x z;exact a7 x.i (wAq.1 (NP z)).1
 have O:∀(c:Array Bool) (a:Act) (w:World) (j:Nat) (Δ:Env) (t:Tm),Inv n ops t0 h0 Δ0 w0 T c j Δ t a w->(∀x∈jc ops,c.getD x.i false=true)->Q .normal a w:=by
  intro c a w j Δ t k P;have hj:j=(gY (jc ops)).length:=by
   rcases Ud j (gY (jc ops)).length with h|h
   ·have hg:=hO h;have:=(k.ahead j _ hg).1 (P _ (rF (AU h)).1);omega
   ·have:=k.YZ;omega
  subst hj;refine hQ Δ a w ⟨⟨k.tmps.size,λi=>?_,by rw[a6,<-k.defers];exact k.tmps.ds⟩,by rw[M.last];exact k.world,k.frame,⟨?_,k.none⟩⟩
  ·have p:=k.tmps.rel i;rw[k.ql i,rI (D':=λ_=>true) (Pp:=T.val) (λx z _=>P x z) (λ_ _ _ _=>rfl),<-M.ql i]at p;exact p
  ·rw[M.last];exact Ix M.more.1 (GO M.chain _ _ (by rw[zO]) (ju _))
 intro fuel
 induction fuel with
 | zero =>
   intro c a w j Δ t _ aN k;have P:∀x∈jc ops,c.getD x.i false=true:=by
     intro x z;have aa:x.i<c.size:=by rw[k.size];exact(wAq.1 (NP z)).1
     cases V:c.getD x.i false with
     |true=>rfl
     | false=>
       exfalso;have:false∈c.toList:=by
         have:c[x.i]=false:=by simpa[aa]using V
         rw[<-this];simp
       have:=List.count_pos_iff.2 this;omega
   refine⟨?_,O _ _ _ _ _ _ k P⟩;rw[List.eq_nil_iff_forall_not_mem]
   grind[mem_ready,Nh,wAq]
 | succ fuel ih=>
   intro c Y w j Δ t bb aN k;refine⟨λhr=>O _ _ _ _ _ _ k (Z _ k.size hr),λi hi=>?_⟩;rw[mem_ready]at hi;obtain⟨pA,o,ho,ao⟩:=hi;obtain⟨a,ha,aB,F,aC⟩:=Nh ho;have aa:i<c.size:=by rw[k.size];exact(wAq.1 ho).1
   have R:c.getD a.i false=false:=by rw[aB];simp[aa]at pA⊢;exact pA
   have S:∀x∈jc ops,a.b.testBit x.i=true->c.getD x.i false=true:=by
     intro x z V;obtain⟨e,he,bc,p⟩:=N4 aC V;rw[F]at he;have I:=ao e (by simpa using he) (by rw[HS];exact bc);rcases p with p|⟨y,B,aD⟩
     ·rw[p];exact I
     ·have bH:=vt _ _ B
      exact k.closed y (nT.2 ⟨_,B⟩) (by simp_all) x z aD
   by_cases hez:cls a.o=2/\(gY (jc ops))[j]?≠some a
   ·grind
   obtain ⟨D,u⟩:∃D,NL n ops.toList (jc ops) (gY (jc ops)) call t0 h0 T D a:=by
     rcases M.done a ha with p|p
     ·simp at p
     ·obtain⟨b,V,aE⟩:=Mv.1 p
      rw[yh ha (hl b V) aE.symm];exact M.item b V
   have J:∀y∈jc ops,y∈l:=by
     intro y B;rcases M.done y B with p|p
     ·simp at p
     ·grind[yh]
   have bd:=J a ha;have ap:∀d,d∈qI a.o->ki t d=ki (T.tt a.i) d:=λd hd=>by
     rw[k.ql d,u.ql d];exact JN vt hp ha k.closed u.closed S u.eQ R u.fresh hd _ _
   have K:∀x∈a.o.op.operands.toList,Alike t (T.tt a.i) x:=JG λd hd=>ap d (by simp[qI,hd]);have aq:qz n ops.toList a.o t=some (T.on a.i):=by
     rw[<-u.qz];refine Sg λjg wg oj d hg hj hd=>?_;have C:=RU.1 a4 a ha;unfold EP at C;rw[hg]at C;simp only at C
     cases hjt:(jc ops)[jg]? with
     |none=>rw[hjt]at C;cases C
     | some g=>
       rw[hjt]at C;simp only at C;have be:g.o=oj:=by
         have:=(DR _ _ _ _ _ hjt).2;rw[hj]at this;cases this;rfl
       rw[be,hd]at C;simp only[yl]at C;obtain⟨aA,aF⟩:=C;have aO:=vt _ _ hjt;have bf:g∈jc ops:=nT.2 ⟨_,hjt⟩;rw[k.ql d,u.ql d];refine rI (λx z bg=>?_) (λ_ _ _ _=>rfl) _;have p:=RU.1 aF x z;rw[bg]at p;have v:x.i=jg:=by simpa using p
       have U:x=g:=yh z bf (by omega);subst U;rw[S x z (by rw[aO];exact aA),u.eQ x z (by rw[aO];exact aA)]
   have ab:Region.wanted o (yielded ops Y.tmps)=T.on a.i:=by rw[<-F];exact Q3 k.tmps aq
   obtain ⟨d,hd⟩:=u.dst;have ac:∀i',(c.setIfInBounds i true).getD i' false=(c.getD i' false ||decide (a.i=i')):=λi'=>by
     by_cases e:i=i'
     ·subst e;simp[aa,aB]
     simp_all
   have aG:(c.setIfInBounds i true).toList.count false<=fuel:=by
     have p:c.toList[i]? =some false:=by
       rw[wBC];have:c.getD a.i false=false:=R;rw[aB]at this;simpa[aa]using this
     have:=count_set c.toList i p;rw[Array.toList_setIfInBounds];omega
   have W:Bb (jc ops) (λi'=>(c.setIfInBounds i true).getD i' false):=by
     intro x z ae y B aD;simp only[ac,RC,A4]at ae⊢;rcases ae with ae|ae
     ·exact .inl (k.closed x z ae y B aD)
     ·grind[yh]
   have ag:∀d',ki (d.f t (T.val a.i)) d' = qR T.val (λi'=>(c.setIfInBounds i true).getD i' false) d' (jc ops) (ki t0 d'):=λd'=>by
     rw[Kq hd,Ii vt hp ha k.closed R ac (val:=T.val) (Pp:=T.val) (λ_ _=>rfl) d' (ki t0 d'),k.ql d']
   have next:∀(j':Nat) (E:Env) (x:Value) (w':World),fO E (T.val a.i) x->WR E (T.H j') w'->FR Δ E w w'->j'<=(gY (jc ops)).length->
       (∀q y,(gY (jc ops))[q]? =some y->((c.setIfInBounds i true).getD y.i false=true↔q<j'))->
       (∀y∈jc ops,cls y.o=1->T.on y.i=true->(c.setIfInBounds i true).getD y.i false=false->T.ep y.i<=j'->E (T.pl y.i)=none)->
       (∀l,Δ0 l=none->l<h0.next->E l=none)->wpAny P0 .any ops Q fuel (c.setIfInBounds i true) (Y.put o.dst x) w':=by
     intro j' E x w' bh bi aP bj ah ar au;have bm:j<=j':=by
       rcases Ud j' j with h|h
       ·exfalso
        have aQ:j' < (gY (jc ops)).length:=by have:=k.YZ;omega
        have hg:=hO aQ;have p:=(k.ahead j' _ hg).2 h
        grind
       ·exact h
     refine ih _ _ _ j' E (d.f t (T.val a.i)) (Ix bb bm) aG ⟨by simp[k.size],W,bj,ah,?_,ag,bi,k.frame.trans aP,au,by rw[zi hd];exact k.defers,ar⟩;have:=LO (k.tmps.mono aP.le) hd bh;rw[F]at this;exact this
   have aR:h0.next<=(T.H j).next:=Ix M.more.1 (GO M.chain j j (by omega) k.YZ);have ai:j<=late (gY (jc ops)) a:=by
     rcases Ud (late (gY (jc ops)) a) j with h|h
     ·exfalso
      obtain⟨x,z,bo⟩:=LZ (gY (jc ops)) a (by have:=k.YZ;omega);have p:=(k.ahead _ x z).2 h;have:=k.closed x (rF (nT.2 ⟨_,z⟩)).1 p a ha bo
      grind
     ·exact h
   have still:cls a.o≠2->∀q y,(gY (jc ops))[q]? =some y->((c.setIfInBounds i true).getD y.i false=true↔q<j):=by
     intro aw q y hq;rw[ac,<-k.ahead q y hq];have B:=rF (nT.2 ⟨_,hq⟩);have:¬a.i=y.i:=by grind[yh]
     simp[this]
   have aH:cls a.o≠2->T.ep a.i<=j:=by
     intro aw;have p:=u.epw aw
     cases he:T.ep a.i with
     |zero=>omega
     | succ e=>
       rw[he]at p;simp only[Na]at p
       grind[rF,nT]
   have s:∀y∈jc ops,cls y.o=1->T.on y.i=true->(c.setIfInBounds i true).getD y.i false=false->T.ep y.i<=j->Δ (T.pl y.i)=none/\y.i≠a.i:=by
     intro y B p v U h4;rw[ac]at U;simp only[Bool.or_eq_false_iff,decide_eq_false_iff_not]at U;exact⟨k.zes y B p v U.1 h4,λe=>U.2 e.symm⟩
   have L:∀y∈jc ops,cls y.o=1->T.on y.i=true->T.ep y.i<=j->T.pl y.i<(T.H j).next:=by
     intro y B p v U;rcases M.done y B with h4|h4
     ·simp at h4
     ·obtain⟨b,V,aE⟩:=Mv.1 h4
      have:=yh B (hl b V) aE.symm;subst this;obtain⟨_,aj⟩:=M.item y V;exact((aj.alloc p v).2.1 j U k.YZ).1
   have aI:cls a.o=2->isW (gY (jc ops)) a (T.ep a.i)=true->T.ep a.i=j/\(gY (jc ops))[j]? =some a:=by
     intro _ hw;unfold isW at hw;split at hw
     ·rename_i x z
      have br:=yh (rF (nT.2 ⟨_,z⟩)).1 ha (CI hw);subst br;have aS:(gY (jc ops))[j]? =some x:=by
        apply Classical.byContradiction;intro aw;exact hez ⟨(rF (nT.2 ⟨_,z⟩)).2,aw⟩
      exact⟨Lu z aS rfl,aS⟩
     ·cases hw
   have ak:cls a.o=2->isW (gY (jc ops)) a (T.ep a.i)=true->∀q y,(gY (jc ops))[q]? =some y->((c.setIfInBounds i true).getD y.i false=true↔q<j+1):=by
     intro m hw q y hq;obtain⟨_,z⟩:=aI m hw;rw[ac];simp only[RC,A4,k.ahead q y hq];constructor
     ·rintro(h|h)
      ·omega
      ·have:=Lu z hq h;omega
     ·grind
   have al:cls a.o=2->isW (gY (jc ops)) a (T.ep a.i)=true->∀(E:Env) (w':World),WR E (T.G j) w'->Gr (T.H j) Δ (T.G j) E->
       ∀y∈jc ops,cls y.o=1->T.on y.i=true->(c.setIfInBounds i true).getD y.i false=false->T.ep y.i<=j+1->E (T.pl y.i)=none:=by
     intro m hw E w' bt bu y B p v U h4;rcases Ud j (T.ep y.i)with h5|h5
     ·obtain⟨_,aj⟩:=M.item y (J y B)
      have aT:=(aj.alloc p v).2.2.1 j h5
      cases hd':E (T.pl y.i)with
      |none=>rfl
      |some e=>have:=bt.fresh _ _ hd';omega
     ·exact bu.none _ (s y B p v U h5).1 (L y B p v h5)
   unfold wpOp;simp only[ho];rw[ab]
   cases I:T.on a.i with
   | false=>
     simp only[RY,if_false];have hv:=u.off I;rcases LQ a.o with m|m|m
     ·exact next j Δ undef w (by rw[hv];exact .undef Δ) k.world (.refl _ _) k.YZ (still (by rw[m];decide)) (by grind) k.none
     ·exact next j Δ undef w (by rw[hv];exact .undef Δ) k.world (.refl _ _) k.YZ (still (by rw[m];decide)) (by grind) k.none
     ·obtain⟨A,_,aU⟩:=u.write m
      obtain⟨aJ,aK⟩:=aI m A;have hG:=aU I;rw[aJ]at hG;have am:j<(gY (jc ops)).length:=(kj.1 aK).1;obtain⟨bw,aL⟩:=M.chain j (Ol _) am;have aV:WR Δ (T.G j) w:=by rw[hG];exact k.world
      exact next (j+1) Δ undef w (by rw[hv];exact .undef Δ) (aV.Qz aL) (.refl _ _) am (ak m A) (al m A Δ w aV (by rw[hG];exact .refl _ _)) k.none
   | true=>
     simp only[if_true];left;rcases LQ a.o with m|m|m
     ·have aW:=u.pure m I j (aH (by rw[m];decide)) k.YZ ai
      rw[<-JF (h:=T.H j) K]at aW;have ax:(JE a.o).f call t (T.H j)=some (T.val a.i,T.H j):=by
        unfold JE;rw[m];simp only[ft];exact⟨_,aW,rfl⟩
      rw[<-F];refine PJ hc k.world k.tmps ax λE x w' X=>?_;rw[F]
      exact next j E x w' X.val X.world X.frame k.YZ (still (by rw[m];decide)) (λy B p v U h4=>X.grow.none _ (s y B p v U h4).1 (L y B p v h4))
        (λl' p v=>X.grow.none _ (k.none l' p v) (ET v aR))
     ·obtain ⟨⟨mk,aX,aY⟩,bx,_,aT⟩:=u.alloc m I
      obtain⟨bz,bA⟩:=bx j (aH (by rw[m];decide)) k.YZ;have aZ:=bA ai;rw[<-Mp K]at aX;obtain⟨mo,mv,an,aM⟩:=SS k.tmps aX;have N:=k.zes a ha m I R (aH (by rw[m];decide));obtain⟨dd,V,bC,bD⟩:=aM (T.pl a.i) w.heap.size N;rw[<-F];unfold Oper.wp;rw[an w,Oper.upon_value,F];refine next j (Δ.set (T.pl a.i) dd) _ _ (by rw[aY];exact bD) (k.world.lay N bz aZ V bC) (FR.lay N V) k.YZ (still (by rw[m];decide)) (λy B p v U h4=>?_) (λl' p v=>?_)
      ·obtain⟨e1,e2⟩:=s y B p v U h4
       have:=M.Wn y (J y B) a bd p m v I e2;unfold Env.set;rw[if_neg this];exact e1
      ·have:l'≠T.pl a.i:=by omega
       unfold Env.set;rw[if_neg this];exact k.none l' p v
     ·obtain ⟨A,an,_⟩:=u.write m
      obtain⟨aJ,aK⟩:=aI m A;have ax:=an I;rw[aJ,<-NT (h:=T.H j) K]at ax;have am:j<(gY (jc ops)).length:=(kj.1 aK).1;obtain⟨bw,aL⟩:=M.chain j (Ol _) am;rw[<-F];refine PJ hc k.world k.tmps ax λE x w' X=>?_;rw[F]
      exact next (j+1) E x w' X.val (X.world.Qz aL) X.frame am (ak m A) (al m A E w' X.world X.grow)
        (λl' p v=>X.grow.none _ (k.none l' p v) (ET v aR))
theorem X2(l:HU (gY (jc ops))=true) (fuel:Nat) (c:Array Bool) (d:Act) (w:World) (j:Nat) (Δ:Env) (t:Tm) (a:It) (_:0<=j) (_:c.toList.count false<=fuel+1) (m:Inv n ops t0 h0 Δ0 w0 T c j Δ t d w) (z:a∈jc ops)
  (s:cls a.o=2) (p:c.getD a.i false=false) (k:∀x∈jc ops,a.b.testBit x.i=true->c.getD x.i false=true) (u:(gY (jc ops))[j]?≠some a) :
  wpOp P0 ops Q a.i (wpAny P0 .any ops Q fuel (c.setIfInBounds a.i true)) d w:=by
 exfalso;have f:a∈gY (jc ops):=by unfold gY;rw[LC];exact by simp_all
 obtain ⟨q,hq⟩:=nT.1 f;have v:¬q<j:=λh=>by
  have:=(m.ahead _ a hq).2 h
  simp_all
 have y:q≠j:=by grind
 obtain⟨e,rfl⟩:∃e,q=e+1:=⟨q-1,by omega⟩
 have g:e<(gY (jc ops)).length:=by have:=(kj.1 hq).1;omega
 have r:=hO g;have A:=L7 l e _ a r hq;have:=(m.ahead e _ r).1 (by grind[rF,AU]);omega
theorem lN{x:Operand} (a:RI x=true) (t:Tm) (h h':Hp):(uf x).f t h=(uf x).f t h':=by
 cases x <;> first|rfl|grind[RI]
theorem Tz{o:Oper} (a:G4 o=true) (t:Tm) (h h':Hp):(iY o).f t h=(iY o).f t h':=by
 unfold G4 at a;unfold iY;split at a
 ·grind[lN]
 ·grind[AS,lN]
 ·grind[rk,lN]
 ·rename_i b;rw[b];rw[yl]at a
  grind[rG,lN]
 ·cases a
theorem qW{o:Oper} {d:Nat} (h:storeAt o=some d):∃ty x,o.op = .store ty (.tmp d) x/\o.guard=none/\o.dst=none/\RI x=true:=by
 grind[storeAt]
theorem Cp{o:Oper} {d:Nat} (h:storeAt o=some d):cls o=2:=by
 grind[qW,cls]
theorem Lr{o:Oper} {d:Nat} (hs:storeAt o=some d) {call:Call} {t:Tm} {h h':Hp} {v:V} (hv:(JE o).f call t h=some (v,h')) :
  v = .undef/\∃l off e sz cs qj,ki t d = .ptr l off/\h.get l=some (.cells e sz true false cs)/\h' = h.put l (.cells e sz true false qj)/\
   ∀b:Hp,b.get l=h.get l->(JE o).f call t b=some (.undef,b.put l (.cells e sz true false qj)):=by
 obtain⟨ty,x,j,_,_,C⟩:=qW hs;have p:=Cp hs
 have c:∀h,(JE o).f call t h=oB ((kJ o).f t h) λr=>match r with
   | .val v h=>some (v,h)
   | .call f args=>call f args h:=by
  intro h;unfold JE;split
  ·omega
  ·omega
  ·rfl
 rw[c,ft]at hv;obtain⟨r,b,q⟩:=hv
 have k:∀h,(kJ o).f t h=match zR ty with
   |some n=>oB ((uf (.tmp d)).f t h) λa=>oB ((uf x).f t h) λv=>Ae a λl off=>bB (Nat.beq v.cells.length n) (oB (Gk h l off v.cells) λh=>some (.val .undef h))
   |none=>none:=by
  intro h;unfold kJ;rw[j];simp only;generalize zR ty=z;cases z <;> rfl
 rw[k]at b
 cases hn:zR ty with
 |none=>simp_all
 | some n=>
   rw[hn]at b;simp only[ft,yf,hK]at b;obtain⟨a,s,vv,u,l,off,rfl,hlen,D,g,w⟩:=b;cases w;cases q;have i:ki t d = .ptr l off:=Option.some.inj (show some (ki t d)=some (V.ptr l off) from s);unfold Gk at g;simp only[lW,hK,ft,wBi]at g;obtain⟨e,sz,live,ro,cs,y,rfl,rfl,m,qj,A,Pk⟩:=g;cases Pk;refine⟨rfl,l,off,e,sz,cs,qj,i,y,rfl,λb B=>?_⟩;rw[c,ft];refine⟨.val .undef (b.put l (.cells e sz true false qj)),?_,rfl⟩;rw[k,hn];simp only[ft,yf,hK];refine⟨.ptr l off,by rw[<-i];rfl,vv,by grind[lN],l,off,rfl,hlen,b.put l (.cells e sz true false qj),?_,rfl⟩;unfold Gk;simp only[lW,hK,ft,wBi]
   grind
theorem N8:∀{l:List It} {a b:It},M8 l=some (a,b)->∃p,l.length=p+2/\l[p]? =some a/\l[p+1]? =some b
 |[],_,_,h=>by cases h
 |[_],_,_,h=>by cases h
 |[x,y],a,b,h=>by cases h;simp_all
 | _::y::z::l,a,b,h=>by
   obtain⟨p,c,d,e⟩:=N8 (l:=y::z::l) h;exact⟨p+1,by simp_all,by grind,by simp_all⟩
theorem JH:∀{l:List It},JP l=true->∀(q:Nat) (a b:It),l[q]? =some a->l[q+1]? =some b->q+2<l.length->b.b.testBit a.i=true/\(q+3=l.length->∀c,l[q+2]? =some c->c.b.testBit a.i=true)
 |[],_,q,a,b,h,_,_=>by simp_all
 |[x],_,q,a,b,_,h,_=>by simp_all
 |[x,y],_,q,a,b,_,_,h=>by grind
 | x::y::z::l,hc,0,a,b,d,e,_=>by
   simp at d e;subst d;subst e;simp only[JP,yl]at hc
   grind
 | x::y::z::l,hc,q+1,a,b,d,e,f=>by
   simp only[JP,yl]at hc;have:=JH (l:=y::z::l) hc.2 q a b (by simp_all) (by simp_all) (by simp_all)
   simp_all
theorem T8{kM ws:List It} {a b:It} {da db:Nat} (h:K3 kM ws=some (a,b,da,db)) :
  M8 ws=some (a,b)/\storeAt a.o=some da/\storeAt b.o=some db/\fixed kM a=true/\fixed kM b=true/\Rf kM a b=true/\JP ws=true:=by
 unfold K3 at h
 grind
structure zc2 (n:Nat) (ops:Array Oper) (t0:Tm) (h0:Hp) (Δ0:Env) (w0:World) (T:Tc) (c:Nat) (e:Hp) (b:Array Bool) (Δ:Env) (t:Tm) (a:Act) (w:World):Prop where
 size:b.size=ops.size
 closed:Bb (jc ops) (λi=>b.getD i false)
 ahead:∀x∈gY (jc ops),(b.getD x.i false=true↔x.i≠c)
 tmps:TR Δ n t a
 ql:∀d,ki t d=qR T.val (λi=>b.getD i false) d (jc ops) (ki t0 d)
 world:WR Δ e w
 frame:FR Δ0 Δ w0 w
 none:∀l,Δ0 l = .none->l<h0.next->Δ l = .none
 defers:t.ds=t0.ds
section
variable{a b:It}{da db p:Nat}
structure zeW (ops:Array Oper) (T:Tc) (a b:It) (da db p:Nat) (r:Tm×Hp):Prop where
 len:(gY (jc ops)).length=p+2
 ga:(gY (jc ops))[p]? =some a
 gb:(gY (jc ops))[p+1]? =some b
 sa:storeAt a.o=some da
 sb:storeAt b.o=some db
 fa:fixed (jc ops) a=true
 fb:fixed (jc ops) b=true
 op:Rf (jc ops) a b=true
 ch:JP (gY (jc ops))=true
 apart:Zq (ki r.1 da) (ki r.1 db)=true
theorem PA(h:Rf (jc ops) a b=true) {x:It} (c:x∈jc ops) (d:x.i≠a.i) (e:x.i≠b.i) (f:¬(a.b.testBit x.i=true/\b.b.testBit x.i=true)) :
  cls x.o=0/\G4 x.o=true/\x.o.guard=none/\x.b.testBit a.i=false/\x.b.testBit b.i=false:=by
 have:=RU.1 h x c;simp only[RC,yl,wBi,Option.isNone_iff_eq_none]at this
 grind[absurd,CI]
theorem Lq{l:List It} (h:uZ n ops.toList (jc ops) (gY (jc ops)) call t0 h0 l 0 0 h0 [] r T T) {x:It} (j:x∈jc ops) (c:fixed (jc ops) x=true) {D:Nat->Bool} (k:∀y∈jc ops,x.b.testBit y.i=true->D y.i=true)
  {d:Nat} (e:d∈CU x.o.op.operands.toList) (a:V):qR T.val D d (jc ops) a=qR T.val (λ_=>true) d (jc ops) a:=by
 refine rI (λy f g=>?_) (by simp_all) a;have m:=RU.1 (RU.1 c d e) y f
 grind[writes]
theorem CL{o:Oper} {d:Nat} (h:storeAt o=some d):d∈CU o.op.operands.toList:=by
 grind[qW,Op.operands,CU]
end
section
variable{a b:It}{da db p:Nat}{l:List It}
theorem ZQ{H a e:Hp} {la lb:Nat} {i ob:O} (b:la<H.next) (f:lb<H.next) (l:la≠lb) (j:Eg (H.put la i) a) (k:Eg (a.put lb ob) e):Eg ((H.put lb ob).put la i) e:=by
 have c:H.next<=a.next:=j.1;have g:a.next<=e.next:=k.1;refine⟨Ix c g,λx m=>?_⟩;have d:x<H.next:=m;rw[k.2 x (ET d c)];rw[qE (h:=H.put lb ob) _ _ b,qE (h:=a) _ _ (by omega),qE (h:=H) _ _ f];rw[j.2 x d,qE (h:=H) _ _ b]
 grind
theorem zdD(hc : xk call) (hp:rY (jc ops)=true) (aL:(jc ops).all (EP (jc ops))=true) (ar:(jc ops).all Cv=true) (hl:∀a∈l,a∈jc ops)
    (Y:uZ n ops.toList (jc ops) (gY (jc ops)) call t0 h0 l 0 0 h0 [] r T T) (hP:zeW ops T a b da db p r)
    (aM:r.1.ds=t0.ds) (hQ:∀Δ' a' w',Db Δ0 h0 w0 n r.1 r.2 Δ' a' w'->Q .normal a' w') {la lb:Nat} {ob:O} (bc:la<(T.H p).next) (aN:lb<(T.H p).next) (aO:la≠lb)
    (aP:∀t:Tm,ki t da=ki r.1 da->∃oa,(T.G p)=(T.H p).put la oa/\∀k:Hp,k.get la=(T.H p).get la->(∀x∈a.o.op.operands.toList,Alike t (T.tt a.i) x)->(JE a.o).f call t k=some (.undef,k.put la oa))
    (bd:T.G (p+1)=(T.H (p+1)).put lb ob) :
    ∀(fuel:Nat) (c:Array Bool) (m:Act) (w:World) (Δ:Env) (t:Tm),c.toList.count false<=fuel->zc2 n ops t0 h0 Δ0 w0 T a.i ((T.H p).put lb ob) c Δ t m w->wpAny P0 .any ops Q fuel c m w:=by
  have ha:a∈jc ops:=(rF (nT.2 ⟨_,hP.ga⟩)).1;have hb:b∈jc ops:=(rF (nT.2 ⟨_,hP.gb⟩)).1;have aQ:=Cp hP.sa;have aR:=Cp hP.sb;have aS:a.i≠b.i:=λe=>by
    have:=Lu hP.ga hP.gb e;omega
  have au:a∈gY (jc ops):=nT.2 ⟨_,hP.ga⟩;have aw:b∈gY (jc ops):=nT.2 ⟨_,hP.gb⟩;have L:∀{c Δ t m w},zc2 n ops t0 h0 Δ0 w0 T a.i ((T.H p).put lb ob) c Δ t m w->c.getD a.i false=false:=λg=>by
    cases h:Array.getD _ a.i false with
    |false=>rfl
    |true=>exact absurd rfl ((g.ahead a au).1 h)
  have ah:∀{c Δ t m w},zc2 n ops t0 h0 Δ0 w0 T a.i ((T.H p).put lb ob) c Δ t m w->c.getD b.i false=true:=λg=>(g.ahead b aw).2 (λe=>aS e.symm);intro fuel
  induction fuel with
  | zero=>
    intro c m w Δ t ax g;exfalso;have k:=L g;have M:a.i<c.size:=by rw[g.size];exact(wAq.1 (NP ha)).1
    have:false∈c.toList:=by
      have:c[a.i]=false:=by simpa[M]using k
      rw[<-this];simp
    have:=List.count_pos_iff.2 this
    omega
  | succ fuel ih=>
    intro c m w Δ t ax g;refine⟨λhr=>?_,λi hi=>?_⟩
    ·exfalso
     have ay : ∀i,i<ops.size->c.getD i false=true:=by
       intro i
       induction i using Nat.strongRecOn with
       | _ i aT=>
         intro hi
         cases Z:c.getD i false with
         |true=>rfl
         | false=>
           exfalso;have ho:ops[i]? =some ops[i]:=Array.getElem?_eq_getElem hi;obtain⟨x,hx,aU,aV,_⟩:=Nh ho;have F:i∈Region.ready .any ops c:=by
             rw[mem_ready];refine⟨?_,ops[i],ho,λe he aA=>?_⟩
             ·have:i<c.size:=by rw[g.size];exact hi
              simp[this]at Z⊢;exact Z
             ·have k:=RU.1 ar x hx
              unfold Cv at k;rw[aV,aU]at k;have h2:=RU.1 k e (by simpa using he);rw[<-HS,aA]at h2;simp only[wB6,Bool.false_or,Q8]at h2;exact aT e.on h2 (by omega)
           rw[hr]at F;cases F
     have:=ay a.i (wAq.1 (NP ha)).1;rw[L g]at this;cases this
    rw[mem_ready]at hi;obtain⟨pA,o,ho,aa⟩:=hi;obtain⟨y,X,ai,u,aj⟩:=Nh ho;have M:i<c.size:=by rw[g.size];exact(wAq.1 ho).1
    have N:c.getD y.i false=false:=by rw[ai];simp[M]at pA⊢;exact pA
    have I:∀x∈jc ops,y.b.testBit x.i=true->c.getD x.i false=true:=by
      intro x hx Z;obtain⟨e,he,aW,k⟩:=N4 aj Z;rw[u]at he;have P:=aa e (by simpa using he) (by rw[HS];exact aW);rcases k with k|⟨z,A,E⟩
      ·rw[k];exact P
      ·have be:=vt _ _ A
       exact g.closed z (nT.2 ⟨_,A⟩) (by simp_all) x hx E
    have ab:∀y∈jc ops,y∈l:=by
      intro y X;rcases Y.done y X with k|k
      ·simp at k
      ·grind[yh]
    obtain ⟨D,B⟩:=Y.item y (ab y X);have ac:∀d,d∈qI y.o->ki t d=ki (T.tt y.i) d:=λd K=>by
      rw[g.ql d,B.ql d];exact JN vt hp X g.closed B.closed I B.eQ N B.fresh K _ _
    have J:∀x∈y.o.op.operands.toList,Alike t (T.tt y.i) x:=JG λd K=>ac d (by simp[qI,K]);obtain⟨d,K⟩:=B.dst;have R:∀i',(c.setIfInBounds i true).getD i' false=(c.getD i' false ||decide (y.i=i')):=λi'=>by
      by_cases e:i=i'
      ·subst e;simp[M,ai]
      simp_all
    have S:(c.setIfInBounds i true).toList.count false<=fuel:=by
      have k:c.toList[i]? =some false:=by
        rw[wBC];have:c.getD y.i false=false:=N;rw[ai]at this;simpa[M]using this
      have:=count_set c.toList i k;rw[Array.toList_setIfInBounds];omega
    have s:Bb (jc ops) (λi'=>(c.setIfInBounds i true).getD i' false):=by
      intro x hx U z A E;simp only[R,RC,A4]at U⊢;rcases U with U|U
      ·exact .inl (g.closed x hx U z A E)
      ·grind[yh]
    have C:∀d',ki (d.f t (T.val y.i)) d' = qR T.val (λi'=>(c.setIfInBounds i true).getD i' false) d' (jc ops) (ki t0 d'):=λd'=>by
      rw[Kq K,Ii vt hp X g.closed N R (val:=T.val) (Pp:=T.val) (λ_ _=>rfl) d' (ki t0 d'),g.ql d']
    have aB:h0.next<=(T.H p).next:=Ix Y.more.1 (GO Y.chain p p (by omega) (by have:=hP.len;omega));have ak:y.i≠a.i->cls y.o=0/\G4 y.o=true/\y.o.guard=none/\y.b.testBit a.i=false/\y.b.testBit b.i=false:=λag=>by
      have aX:y.i≠b.i:=by grind
      refine PA hP.op X ag aX λ⟨_,aC⟩=>?_;have:=g.closed b hb (ah g) y X aC
      simp_all
    by_cases hya:y.i=a.i
    ·
      have aD:=yh X ha hya;subst aD;have P:Region.wanted o (yielded ops m.tmps)=true:=by
        obtain⟨_,_,_,hg,_⟩:=qW hP.sa;unfold Region.wanted;rw[<-u,hg]
      unfold wpOp;simp only[ho];rw[P];simp only[if_true];left;obtain⟨oa,bf,aE⟩:=aP t (by
        rw[g.ql da,Y.ql da];exact Lq Y X hP.fa I (CL hP.sa) _)
      have al:=aE ((T.H p).put lb ob) (by rw[qE _ _ aN,if_neg (λe=>aO e.symm)]) J;rw[<-u];refine PJ hc g.world g.tmps al λΔ' x w' V=>?_;rw[u];have hlen:=hP.len;have ba:=Y.chain p (Ol _) (by omega);have aY:=Y.chain (p+1) (Ol _) (by omega);have hm:Eg (((T.H p).put lb ob).put la oa) (T.H (p+2)):=by grind[ZQ]
      have am:∀q z,(gY (jc ops))[q]? =some z->((c.setIfInBounds i true).getD z.i false=true↔q<p+2):=λq z A=>by
        have aZ:=(kj.1 A).1;constructor
        ·intro _;omega
        ·intro _
         rw[R];by_cases e:z.i=y.i
         ·simp[e]
         ·rw[(g.ahead z (nT.2 ⟨_,A⟩)).2 e];rfl
      have bb:T.val y.i = .undef\/True:= .inr trivial;have aF:(d.f t (T.val y.i)).ds=t0.ds:=by rw[zi K];exact g.defers
      have ae:y.o.dst=none:=by obtain⟨_,_,_,_,h5,_⟩:=qW hP.sa;exact h5
      have a4:TR Δ' n (d.f t (T.val y.i)) (m.put o.dst x):=by
        have k:=LO (g.tmps.mono V.frame.le) K (v:= .undef) V.val;rw[u]at k;have e:d.f t (T.val y.i)=d.f t .undef:=by
          unfold zL at K;rw[ae]at K;cases K;rfl
        rw[e];exact k
      refine VU hc hp aL ar (T:=T) (p+2) (λfuel c m w j Δ t a' hj _ a5 a6 aG an _ ag=>?_) hl Y aM hQ fuel _ _ _ (p+2) Δ' (d.f t (T.val y.i)) (ju _) S
        ⟨by simp[g.size],s,by omega,am,a4,C,V.world.Qz hm,g.frame.trans V.frame,λl' k h2=>V.grow.none _ (g.none l' k h2) (ET h2 aB),aF,λz A aH bg ao _=>?_⟩
      ·exfalso
       have F:a'∈gY (jc ops):=by unfold gY;rw[LC];exact⟨a6,by rw[aG];rfl⟩
       obtain⟨q,hq⟩:=nT.1 F;have k:=(kj.1 hq).1;have:=(a5.ahead _ a' hq).2 (by omega);rw[an]at this;cases this
      ·exfalso
       rw[R]at ao;simp only[Bool.or_eq_false_iff,decide_eq_false_iff_not]at ao;have E:z.i≠b.i:=by grind
       have:=PA hP.op A (λe=>ao.2 e.symm) E (by grind);rw[this.1]at aH;cases aH
    ·
      obtain⟨ap,D0,aI,bh,aC⟩:=ak hya;have a7:qz n ops.toList y.o (T.tt y.i)=some true:=by unfold qz lL;rw[aI]
      have P:T.on y.i=true:=by
        have:=B.qz;rw[a7]at this;exact(Option.some.inj this).symm
      have W:Region.wanted o (yielded ops m.tmps)=true:=by
        unfold Region.wanted;rw[<-u,aI]
      have hlen :=hP.len;have a8:T.ep y.i<=p:=by
        have k:=B.epw (by rw[ap];decide)
        cases he:T.ep y.i with
        |zero=>omega
        | succ e=>
          rw[he]at k;simp only[Na]at k;split at k
          ·rename_i z A
           have aZ:=(kj.1 A).1;rcases Ud e p with h|h
           ·omega
           ·exfalso
            have:e=p\/e=p+1:=by omega
            rcases this with e1|e1
            ·subst e1
             rw[hP.ga]at A;simp_all
            ·subst e1
             rw[hP.gb]at A;simp_all
          ·cases k
      have aq:p<=late (gY (jc ops)) y:=by
        rcases Ud (late (gY (jc ops)) y) p with h|h
        ·exfalso
         obtain ⟨z,A,E⟩:=LZ (gY (jc ops)) y (by omega);have aJ:z∈gY (jc ops):=nT.2 ⟨_,A⟩;have a9:z.i≠a.i:=λe=>by
           have:=Lu A hP.ga e;omega
         have:=g.closed z (rF aJ).1 ((g.ahead z aJ).2 a9) y X E
         simp_all
        ·exact h
      have aK:=B.pure ap P p a8 (by omega) aq;rw[<-JF (h:=T.H p) J,Tz D0 t _ ((T.H p).put lb ob)]at aK;have al:(JE y.o).f call t ((T.H p).put lb ob)=some (T.val y.i,(T.H p).put lb ob):=by
        unfold JE;rw[ap];simp only[ft];exact⟨_,aK,rfl⟩
      unfold wpOp;simp only[ho];rw[W];simp only[if_true];left;rw[<-u];refine PJ hc g.world g.tmps al λΔ' x w' V=>?_;rw[u];refine ih _ _ _ Δ' (d.f t (T.val y.i)) S ⟨by simp[g.size],s,λz A=>?_,?_,C,V.world,g.frame.trans V.frame,λl' k h2=>V.grow.none _ (g.none l' k h2) (ET h2 aB),by rw[zi K];exact g.defers⟩
      ·rw[R]
       have:¬y.i=z.i:=by grind[yh,rF]
       simp only[this,decide_false,Bool.or_false];exact g.ahead z A
      ·have k:=LO (g.tmps.mono V.frame.le) K V.val
       rw[u]at k;exact k
end
section
variable{a b:It}{da db p:Nat}{l:List It}
theorem zai(hc:xk call) (hp:rY (jc ops)=true) (aB:(jc ops).all (EP (jc ops))=true) (aC:(jc ops).all Cv=true) (hl:∀a∈l,a∈jc ops)
  (G:uZ n ops.toList (jc ops) (gY (jc ops)) call t0 h0 l 0 0 h0 [] r T T) (hP:zeW ops T a b da db p r)
  (aD:r.1.ds=t0.ds) (hQ:∀Δ' a' w',Db Δ0 h0 w0 n r.1 r.2 Δ' a' w'->Q .normal a' w')
  (fuel:Nat) (c:Array Bool) (I:Act) (w:World) (j:Nat) (Δ:Env) (t:Tm) (y:It) (_:0<=j) (aU:c.toList.count false<=fuel+1) (m:Inv n ops t0 h0 Δ0 w0 T c j Δ t I w) (hy:y∈jc ops)
  (aj:cls y.o=2) (J:c.getD y.i false=false) (g:∀x∈jc ops,y.b.testBit x.i=true->c.getD x.i false=true) (a4:(gY (jc ops))[j]?≠some y) :
  wpOp P0 ops Q y.i (wpAny P0 .any ops Q fuel (c.setIfInBounds y.i true)) I w:=by
 have hlen:=hP.len;have ha:a∈jc ops:=(rF (nT.2 ⟨_,hP.ga⟩)).1;have hb:b∈jc ops:=(rF (nT.2 ⟨_,hP.gb⟩)).1;have ak:y∈gY (jc ops):=by unfold gY;rw[LC];exact by simp_all
 obtain ⟨q,hq⟩:=nT.1 ak;have a5:=(kj.1 hq).1;have a6:¬q<j:=λh=>by
  have:=(m.ahead _ y hq).2 h
  simp_all
 have a7:q≠j:=by grind
 have aE:q=p+1/\j=p:=by
  obtain⟨e,rfl⟩:∃e,q=e+1:=⟨q-1,by omega⟩
  have V:e<(gY (jc ops)).length:=by omega
  have hg:=hO V;rcases Ud e p with h|h
  ·exfalso;have ab:=(JH hP.ch e _ y hg hq (by omega)).1;have:=(m.ahead e _ hg).1 (g _ (rF (AU V)).1 ab);omega
  ·have he:e=p:=by omega
   subst he;refine⟨rfl,?_⟩;rcases Ud j e with h2|h2
   ·exfalso;obtain⟨f,rfl⟩:∃f,e=f+1:=⟨e-1,by omega⟩
    have al:f<(gY (jc ops)).length:=by omega
    have am:=hO al;have ab:=(JH hP.ch f _ a am hP.ga (by omega)).2 (by omega) y hq;have:=(m.ahead f _ am).1 (g _ (rF (AU al)).1 ab);omega
   ·omega
 obtain⟨rfl,rfl⟩:=aE;have aF:y=b:=by rw[hP.gb]at hq;cases hq;rfl
 subst aF;have C:∀y∈jc ops,y∈l:=by
  intro y hy;rcases G.done y hy with B|B
  ·simp at B
  ·grind[yh]
 obtain ⟨D,s⟩:=G.item y (C y hy);obtain⟨Da,u⟩:=G.item a (C a ha);have K:=Cp hP.sa;have epw:∀{x:It} {D:Nat->Bool} {k:Nat},NL n ops.toList (jc ops) (gY (jc ops)) call t0 h0 T D x->cls x.o=2->(gY (jc ops))[k]? =some x->T.ep x.i=k:=λ{x D k} W aG a8=>by
  have B:=(W.write aG).1
  grind[isW,Lu,CI]
 have an:=epw s aj hP.gb;have ao:=epw u K hP.ga;have X:∀{x:It} {D:Nat->Bool} {d:Nat},NL n ops.toList (jc ops) (gY (jc ops)) call t0 h0 T D x->storeAt x.o=some d->T.on x.i=true:=λ{x D d} W hs=>by
  obtain⟨_,_,_,hg,_⟩:=qW hs;have:=W.qz
  grind[qz,lL,Option.some.inj]
 have P:∀d,d∈qI y.o->ki t d=ki (T.tt y.i) d:=λd O=>by
  rw[m.ql d,s.ql d];exact JN vt hp hy m.closed s.closed g s.eQ J s.fresh O _ _
 have R:∀x∈y.o.op.operands.toList,Alike t (T.tt y.i) x:=by grind[JG,qI]
 have Y:=(u.write K).2.1 (X u hP.sa);rw[ao]at Y;obtain⟨_,la,aV,ea,aH,a9,ap,aI,aJ,ac,aK⟩:=Lr hP.sa Y;have E:=(s.write aj).2.1 (X s hP.sb);rw[an]at E;obtain⟨_,lb,aW,eb,ba,bb,aX,bc,bd,be,_⟩:=Lr hP.sb E;rw[<-NT (h:=T.H (j+1)) R]at E;obtain⟨_,A,aL,aM,aq,aY,ae,Z,aZ,ar,ag⟩:=Lr hP.sb E;have e1:=P db (by simp[qI,CL hP.sb]);have aN:ki (T.tt a.i) da=ki r.1 da:=by
  rw[u.ql da,G.ql da];exact Lq G ha hP.fa u.eQ (CL hP.sa) _
 have aO:ki t db=ki r.1 db:=by
  rw[m.ql db,G.ql db];exact Lq G hy hP.fb g (CL hP.sb) _
 have au:la≠A:=λe=>by
  have:=hP.apart;rw[<-aN,<-aO,aI,Z,e]at this;have h2:(!(Nat.beq A A))=true:=this
  simp_all
 have aw:la<(T.H j).next:=Hp.N0 aJ;have ax:A<(T.H j).next:=by
  have B:=m.tmps.rel db;rw[Z]at B
  cases W:I.tmps.getD db undef with
  | pointer p=>
    rw[W]at B
    cases B with
    |ptr _ _ d O=>exact m.world.fresh _ _ O
  |_=>rw[W]at B;cases B
 have aP:=G.chain j (Ol _) (by omega);have ay:(T.H j).get A=(T.H (j+1)).get A:=by
  rw[aP.2.2 A (by rw[ac];exact ax),ac,qE _ _ aw,if_neg au]
 have aQ:=ag (T.H j) ay;have aa:=NP hy;have L:Region.wanted y.o (yielded ops I.tmps)=true:=by
  obtain⟨_,_,_,hg,_⟩:=qW hP.sb;unfold Region.wanted;rw[hg]
 obtain⟨d,O⟩:=s.dst;have aA:y.i<c.size:=by rw[m.size];exact(wAq.1 aa).1
 have ah:∀S,(c.setIfInBounds y.i true).getD S false=(c.getD S false ||decide (y.i=S)):=λS=>by
  by_cases e:y.i=S
  ·rw[<-e];simp[aA]
  simp_all
 have ai:(c.setIfInBounds y.i true).toList.count false<=fuel:=by
  have B:c.toList[y.i]? =some false:=by
   rw[wBC];simpa[aA]using J
  have:=count_set c.toList y.i B;rw[Array.toList_setIfInBounds];omega
 have F:Bb (jc ops) (λS=>(c.setIfInBounds y.i true).getD S false):=by
  intro x W M z hz aR;simp only[ah,RC,A4]at M⊢;rcases M with M|M
  ·exact .inl (m.closed x W M z hz aR)
  ·grind[yh]
 have N:∀d',ki (d.f t (T.val y.i)) d' = qR T.val (λS=>(c.setIfInBounds y.i true).getD S false) d' (jc ops) (ki t0 d'):=λd'=>by
  rw[Kq O,Ii vt hp hy m.closed J ah (val:=T.val) (Pp:=T.val) (λ_ _=>rfl) d' (ki t0 d'),m.ql d']
 have aS:h0.next<=(T.H j).next:=Ix G.more.1 (GO G.chain j j (by omega) (by omega));unfold wpOp;simp only[aa];rw[L];simp only[if_true];left;refine PJ hc m.world m.tmps aQ λΔ' x w' hA=>?_;have U:y.o.dst=none:=by obtain⟨_,_,_,_,h5,_⟩:=qW hP.sb;exact h5
 have aT:TR Δ' n (d.f t (T.val y.i)) (I.put y.o.dst x):=by
  have B:=LO (m.tmps.mono hA.frame.le) O (v:= .undef) hA.val;have e:d.f t (T.val y.i)=d.f t .undef:=by
   unfold zL at O;rw[U]at O;cases O;rfl
  rw[e];exact B
 refine zdD hc hp aB aC hl G hP aD hQ (la:=la) (lb:=A) (ob:= .cells aM aq true false ae) aw ax au (λt' bf=>⟨.cells ea aH true false ap,ac,λB bg bh=>?_⟩) ar fuel _ _ _ Δ' (d.f t (T.val y.i)) ai
  ⟨by simp[m.size],F,λz hz=>?_,aT,N,hA.world,m.frame.trans hA.frame,λl' B h2=>hA.grow.none _ (m.none l' B h2) (ET h2 aS),by rw[zi O];exact m.defers⟩
 ·grind[NT]
 ·obtain ⟨k,hk⟩:=nT.1 hz;have bi:=(kj.1 hk).1;rw[ah];simp only[RC,A4,m.ahead k z hk];constructor
  ·rintro(h|h)
   ·intro e;have:=Lu hk hP.ga e;omega
   grind
  ·intro bj;rcases Ud k j with h|h
   ·exact .inl h
   ·right;have bm:k≠j:=λe=>by
     subst e;rw[hP.ga]at hk;simp_all
    have:k=j+1:=by omega
    simp_all
end
end
