/- Parts. -/
import Derived.Test.YtnehpeeglbgfpaaDoorM04
set_option maxHeartbeats 4000000
namespace Go.Proofs.YtnehpeeglbgfpaaDoor.Hx
theorem DO:∀(ws:List It) (a:It),late ws a<ws.length->∃w,ws[late ws a]? =some w/\w.b.testBit a.i=true
 |[],a,h=>by simp_all
 | w ::ws,a,h=>by
   unfold late at h⊢;split
   ·simp_all
   ·rename_i c
    simp only[c,Li]at h;obtain⟨w',d,e⟩:=DO ws a (by omega)
    simp_all
theorem EW:∀{l:List It},AI l=true->∀(q:Nat) (a b:It),l[q]? =some a->l[q+1]? =some b->b.b.testBit a.i=true
 |[],_,q,a,b,h,_=>by simp_all
 |[x],_,q,a,b,_,h=>by simp_all
 | x::y::l,hc,0,a,b,c,d=>by
   simp_all[AI,te]
 | x::y::l,hc,q+1,a,b,c,d=>by
   simp only[AI,te]at hc;exact EW (l:=y::l) hc.2 q a b (by simp_all) (by simp_all)
theorem count_set:∀(l:List Bool) (i:Nat),l[i]? =some false->(l.set i true).count false<l.count false
 |[],i,h=>by simp_all
 |b::l,0,h=>by simp_all
 | b::l,i+1,h=>by
   grind
theorem JW{n:Nat} {all:List Oper} {o:Oper} {t t':Tm} (h:∀j w a d,o.guard=some (j,w)->all[j]? =some a->a.dst=some d->gq t d=gq t' d):mN n all o t=mN n all o t':=by
 unfold mN ji
 grind
theorem JD{Δ:Env} {n:Nat} {t:Tm} {a:Act} (c:TR Δ n t a) {ops:Array Oper} {o:Oper} {b:Bool} (h:mN n ops.toList o t=some b):Region.wanted o (yielded ops a.tmps)=b:=by
 grind[mN,Es,Im]
section
variable{n:Nat}{ops:Array Oper}{call:Call}{t0:Tm}{h0:Hp}{Δ0:Env}{w0:World}{T:Tc}{r:Tm×Hp}{Q:Exit->Act->World->Prop}
abbrev gY(ops:Array Oper):List It:=items ops.toList 0 []
theorem p8(k:Nat) (x:It) (h:(gY ops)[k]? =some x):x.i=k:=by
 have:=(yc _ _ _ _ _ h).1;omega
theorem qN{x y:It} (a:x∈gY ops) (b:y∈gY ops) (h:x.i=y.i):x=y:=by
 grind[mq,p8]
theorem GJ{x:It} (a:x∈gY ops):ops[x.i]? =some x.o:=by
 obtain⟨i,hi⟩:=mq.1 a;have b:=p8 i x hi;have c:=(yc _ _ _ _ _ hi).2
 simp_all
theorem FU{i:Nat} {o:Oper} (h:ops[i]? =some o):∃a,a∈gY ops/\a.i=i/\a.o=o/\(gY ops)[i]? =some a:=by
 have c:i<ops.size:=by grind
 have b:i<(gY ops).length:=by rw[Cu];simpa using c
 have d:(gY ops)[i]? =some (gY ops)[i]:=by simp_all
 refine⟨(gY ops)[i],B9 b,p8 _ _ d,?_,d⟩;have e:=(yc _ _ _ _ _ d).2
 simp_all
theorem ni{x:It} (h:x∈gf (gY ops)):x∈gY ops/\cls x.o=2:=by
 grind[gf,tS]
theorem Nw:(gf (gY ops)).Pairwise λa b=>a.i<b.i:=by
 unfold gf;refine List.Pairwise.filter _ ?_;rw[V9];intro i j hi c d;have e:=p8 (ops:=ops) i _ (iQ hi);have f:=p8 (ops:=ops) j _ (iQ c);omega
theorem D1{q a:Nat} {x y:It} (hq:(gf (gY ops))[q]? =some x) (b:(gf (gY ops))[a]? =some y) (h:x.i=y.i):q=a:=by
 grind[Nw,V9,jv,Nat.lt_trichotomy]
structure Inv (n:Nat) (ops:Array Oper) (t0:Tm) (h0:Hp) (Δ0:Env) (w0:World) (T:Tc) (b:Array Bool) (j:Nat) (Δ:Env) (t:Tm) (a:Act) (w:World):Prop where
 size:b.size=ops.size
 closed:vL (gY ops) (λi=>b.getD i false)
 OV:j<=(gf (gY ops)).length
 ahead:∀q x,(gf (gY ops))[q]? =some x->(b.getD x.i false=true↔q<j)
 tmps:TR Δ n t a
 mr:∀d,gq t d=nd T.val (λi=>b.getD i false) d (gY ops) (gq t0 d)
 world:WR Δ (T.H j) w
 frame:FR Δ0 Δ w0 w
 none:∀l,Δ0 l = .none->l<h0.next->Δ l = .none
 defers:t.ds=t0.ds
 VR:∀x∈gY ops,cls x.o=1->T.on x.i=true->b.getD x.i false=false->T.ep x.i<=j->Δ (T.pl x.i) = .none
theorem MY(hc:oL call) (hp:nK (gY ops)=true) (aZ:(gY ops).all (yH (gY ops))=true) (a0:(gY ops).all wT=true)
  (j0:Nat) (bu:∀(fuel:Nat) (c:Array Bool) (Y:Act) (w:World) (j:Nat) (Δ:Env) (t:Tm) (a:It),j0<=j->c.toList.count false<=fuel+1->Inv n ops t0 h0 Δ0 w0 T c j Δ t Y w->a∈gY ops->cls a.o=2->c.getD a.i false=false->
   (∀x∈gY ops,a.b.testBit x.i=true->c.getD x.i false=true)->(gf (gY ops))[j]?≠some a->wpOp P0 ops Q a.i (wpAny P0 .any ops Q fuel (c.setIfInBounds a.i true)) Y w)
  {l:List It} (hl:∀a∈l,a∈gY ops) (M:pO n ops.toList (gY ops) (gf (gY ops)) call t0 h0 l 0 0 h0 [] r T T)
  (a1:r.1.ds=t0.ds) (hQ:∀E a' w',tK Δ0 h0 w0 n r.1 r.2 E a' w'->Q .normal a' w') :
  ∀(fuel:Nat) (c:Array Bool) (a:Act) (w:World) (j:Nat) (Δ:Env) (t:Tm),j0<=j->c.toList.count false<=fuel->Inv n ops t0 h0 Δ0 w0 T c j Δ t a w->wpAny P0 .any ops Q fuel c a w:=by
 have Z:∀(c:Array Bool),c.size=ops.size->Region.ready .any ops c=[]->∀x∈gY ops,c.getD x.i false=true:=by
  intro c bv hr;have a2:∀i,i<ops.size->c.getD i false=true:=by
   intro i
   induction i using Nat.strongRecOn with
   | _ i ih=>
     intro hi
     cases V:c.getD i false with
     |true=>rfl
     | false=>
       exfalso;have ho:ops[i]? =some ops[i]:=Array.getElem?_eq_getElem hi;obtain⟨x,z,a3,a4,_⟩:=FU ho;have ay:i∈Region.ready .any ops c:=by
         rw[mem_ready];refine⟨?_,ops[i],ho,λe he a5=>?_⟩
         ·simp_all
         ·have p:=JB.1 a0 x z
          unfold wT at p;rw[a4,a3]at p;have v:=JB.1 p e (by simpa using he);rw[<-A6,a5]at v;simp only[Uf,Bool.false_or,JK]at v;exact ih e.on v (by omega)
       rw[hr]at ay;cases ay
  intro x z;exact a2 x.i (PG.1 (GJ z)).1
 have O:∀(c:Array Bool) (a:Act) (w:World) (j:Nat) (Δ:Env) (t:Tm),Inv n ops t0 h0 Δ0 w0 T c j Δ t a w->(∀x∈gY ops,c.getD x.i false=true)->Q .normal a w:=by
  intro c a w j Δ t k P;have hj:j=(gf (gY ops)).length:=by
   rcases HB j (gf (gY ops)).length with h|h
   ·have hg:=iQ h;have:=(k.ahead j _ hg).1 (P _ (ni (B9 h)).1);omega
   ·have:=k.OV;omega
  subst hj;refine hQ Δ a w ⟨⟨k.tmps.size,λi=>?_,by rw[a1,<-k.defers];exact k.tmps.ds⟩,by rw[M.last];exact k.world,k.frame,⟨?_,k.none⟩⟩
  ·have p:=k.tmps.rel i;rw[k.mr i,nj (D':=λ_=>true) (Hs:=T.val) (λx z _=>P x z) (λ_ _ _ _=>rfl),<-M.mr i]at p;exact p
  ·rw[M.last];exact DE M.more.1 (zK M.chain _ _ (by rw[Dr]) (je _))
 intro fuel
 induction fuel with
 | zero =>
   intro c a w j Δ t _ aM k;have P:∀x∈gY ops,c.getD x.i false=true:=by
     intro x z;have aa:x.i<c.size:=by rw[k.size];exact(PG.1 (GJ z)).1
     cases V:c.getD x.i false with
     |true=>rfl
     | false=>
       exfalso;have:false∈c.toList:=by
         have:c[x.i]=false:=by simpa[aa]using V
         rw[<-this];simp
       have:=List.count_pos_iff.2 this;omega
   refine⟨?_,O _ _ _ _ _ _ k P⟩;rw[List.eq_nil_iff_forall_not_mem]
   grind[mem_ready,FU,PG]
 | succ fuel ih=>
   intro c Y w j Δ t a6 aM k;refine⟨λhr=>O _ _ _ _ _ _ k (Z _ k.size hr),λi hi=>?_⟩;rw[mem_ready]at hi;obtain⟨xF,o,ho,ao⟩:=hi;obtain⟨a,ha,aA,F,aB⟩:=FU ho;have aa:i<c.size:=by rw[k.size];exact(PG.1 ho).1
   have R:c.getD a.i false=false:=by rw[aA];simp[aa]at xF⊢;exact xF
   have S:∀x∈gY ops,a.b.testBit x.i=true->c.getD x.i false=true:=by
     intro x z V;obtain⟨e,he,a7,p⟩:=Gj aB V;rw[F]at he;have I:=ao e (by simpa using he) (by rw[A6];exact a7);rcases p with p|⟨y,B,aC⟩
     ·rw[p];exact I
     ·have bw:=p8 _ _ B
      exact k.closed y (mq.2 ⟨_,B⟩) (by simp_all) x z aC
   by_cases hez:cls a.o=2/\(gf (gY ops))[j]?≠some a
   ·grind
   obtain ⟨D,u⟩:∃D,G6 n ops.toList (gY ops) (gf (gY ops)) call t0 h0 T D a:=by
     rcases M.done a ha with p|p
     ·simp at p
     ·obtain⟨b,V,aD⟩:=OF.1 p
      rw[qN ha (hl b V) aD.symm];exact M.item b V
   have J:∀y∈gY ops,y∈l:=by
     intro y B;rcases M.done y B with p|p
     ·simp at p
     ·grind[qN]
   have a8:=J a ha;have aq:∀d,d∈mF a.o->gq t d=gq (T.tt a.i) d:=λd hd=>by
     rw[k.mr d,u.mr d];exact BU p8 hp ha k.closed u.closed S u.fk R u.fresh hd _ _
   have K:∀x∈a.o.op.operands.toList,Alike t (T.tt a.i) x:=B8 λd hd=>aq d (by simp[mF,hd]);have ar:mN n ops.toList a.o t=some (T.on a.i):=by
     rw[<-u.mN];refine JW λjg wg oj d hg hj hd=>?_;have C:=JB.1 aZ a ha;unfold yH at C;rw[hg]at C;simp only at C
     cases hjt:(gY ops)[jg]? with
     |none=>rw[hjt]at C;cases C
     | some g=>
       rw[hjt]at C;simp only at C;have a9:g.o=oj:=by
         have:=(yc _ _ _ _ _ hjt).2;rw[hj]at this;cases this;rfl
       rw[a9,hd]at C;simp only[te]at C;obtain⟨az,aE⟩:=C;have aN:=p8 _ _ hjt;have ba:g∈gY ops:=mq.2 ⟨_,hjt⟩;rw[k.mr d,u.mr d];refine nj (λx z bb=>?_) (λ_ _ _ _=>rfl) _;have p:=JB.1 aE x z;rw[bb]at p;have v:x.i=jg:=by simpa using p
       have U:x=g:=qN z ba (by omega);subst U;rw[S x z (by rw[aN];exact az),u.fk x z (by rw[aN];exact az)]
   have ab:Region.wanted o (yielded ops Y.tmps)=T.on a.i:=by rw[<-F];exact JD k.tmps ar
   obtain ⟨d,hd⟩:=u.dst;have ac:∀i',(c.setIfInBounds i true).getD i' false=(c.getD i' false ||decide (a.i=i')):=λi'=>by
     by_cases e:i=i'
     ·subst e;simp[aa,aA]
     simp_all
   have aF:(c.setIfInBounds i true).toList.count false<=fuel:=by
     have p:c.toList[i]? =some false:=by
       rw[QS];have:c.getD a.i false=false:=R;rw[aA]at this;simpa[aa]using this
     have:=count_set c.toList i p;rw[Array.toList_setIfInBounds];omega
   have W:vL (gY ops) (λi'=>(c.setIfInBounds i true).getD i' false):=by
     intro x z ae y B aC;simp only[ac,Nq,MR]at ae⊢;rcases ae with ae|ae
     ·exact .inl (k.closed x z ae y B aC)
     ·grind[qN]
   have ag:∀d',gq (d.f t (T.val a.i)) d' = nd T.val (λi'=>(c.setIfInBounds i true).getD i' false) d' (gY ops) (gq t0 d'):=λd'=>by
     rw[Cn hd,AZ p8 hp ha k.closed R ac (val:=T.val) (Hs:=T.val) (λ_ _=>rfl) d' (gq t0 d'),k.mr d']
   have next:∀(j':Nat) (E:Env) (x:Value) (w':World),fq E (T.val a.i) x->WR E (T.H j') w'->FR Δ E w w'->j'<=(gf (gY ops)).length->
       (∀q y,(gf (gY ops))[q]? =some y->((c.setIfInBounds i true).getD y.i false=true↔q<j'))->
       (∀y∈gY ops,cls y.o=1->T.on y.i=true->(c.setIfInBounds i true).getD y.i false=false->T.ep y.i<=j'->E (T.pl y.i)=none)->
       (∀l,Δ0 l=none->l<h0.next->E l=none)->wpAny P0 .any ops Q fuel (c.setIfInBounds i true) (Y.put o.dst x) w':=by
     intro j' E x w' bc bd aO be ah au aw;have bf:j<=j':=by
       rcases HB j' j with h|h
       ·exfalso
        have aP:j' < (gf (gY ops)).length:=by have:=k.OV;omega
        have hg:=iQ aP;have p:=(k.ahead j' _ hg).2 h
        grind
       ·exact h
     refine ih _ _ _ j' E (d.f t (T.val a.i)) (DE a6 bf) aF ⟨by simp[k.size],W,be,ah,?_,ag,bd,k.frame.trans aO,aw,by rw[sK hd];exact k.defers,au⟩;have:=Eb (k.tmps.mono aO.le) hd bc;rw[F]at this;exact this
   have aQ:h0.next<=(T.H j).next:=DE M.more.1 (zK M.chain j j (by omega) k.OV);have ai:j<=late (gf (gY ops)) a:=by
     rcases HB (late (gf (gY ops)) a) j with h|h
     ·exfalso
      obtain⟨x,z,bg⟩:=DO (gf (gY ops)) a (by have:=k.OV;omega);have p:=(k.ahead _ x z).2 h;have:=k.closed x (ni (mq.2 ⟨_,z⟩)).1 p a ha bg
      grind
     ·exact h
   have still:cls a.o≠2->∀q y,(gf (gY ops))[q]? =some y->((c.setIfInBounds i true).getD y.i false=true↔q<j):=by
     intro pQ q y hq;rw[ac,<-k.ahead q y hq];have B:=ni (mq.2 ⟨_,hq⟩);have:¬a.i=y.i:=by grind[qN]
     simp[this]
   have aG:cls a.o≠2->T.ep a.i<=j:=by
     intro pQ;have p:=u.U4 pQ
     cases he:T.ep a.i with
     |zero=>omega
     | succ e=>
       rw[he]at p;simp only[FB]at p
       grind[ni,mq]
   have s:∀y∈gY ops,cls y.o=1->T.on y.i=true->(c.setIfInBounds i true).getD y.i false=false->T.ep y.i<=j->Δ (T.pl y.i)=none/\y.i≠a.i:=by
     intro y B p v U h4;rw[ac]at U;simp only[UU,decide_eq_false_iff_not]at U;exact⟨k.VR y B p v U.1 h4,λe=>U.2 e.symm⟩
   have L:∀y∈gY ops,cls y.o=1->T.on y.i=true->T.ep y.i<=j->T.pl y.i<(T.H j).next:=by
     intro y B p v U;rcases M.done y B with h4|h4
     ·simp at h4
     ·obtain⟨b,V,aD⟩:=OF.1 h4
      have:=qN B (hl b V) aD.symm;subst this;obtain⟨_,aj⟩:=M.item y V;exact((aj.alloc p v).2.1 j U k.OV).1
   have aH:cls a.o=2->SN (gf (gY ops)) a (T.ep a.i)=true->T.ep a.i=j/\(gf (gY ops))[j]? =some a:=by
     intro _ hw;unfold SN at hw;split at hw
     ·rename_i x z
      have bi:=qN (ni (mq.2 ⟨_,z⟩)).1 ha (tS hw);subst bi;have aR:(gf (gY ops))[j]? =some x:=by
        apply Classical.byContradiction;intro pQ;exact hez ⟨(ni (mq.2 ⟨_,z⟩)).2,pQ⟩
      exact⟨D1 z aR rfl,aR⟩
     ·cases hw
   have ak:cls a.o=2->SN (gf (gY ops)) a (T.ep a.i)=true->∀q y,(gf (gY ops))[q]? =some y->((c.setIfInBounds i true).getD y.i false=true↔q<j+1):=by
     intro m hw q y hq;obtain⟨_,z⟩:=aH m hw;rw[ac];simp only[Nq,MR,k.ahead q y hq];constructor
     ·rintro(h|h)
      ·omega
      ·have:=D1 z hq h;omega
     ·grind
   have al:cls a.o=2->SN (gf (gY ops)) a (T.ep a.i)=true->∀(E:Env) (w':World),WR E (T.G j) w'->Gr (T.H j) Δ (T.G j) E->
       ∀y∈gY ops,cls y.o=1->T.on y.i=true->(c.setIfInBounds i true).getD y.i false=false->T.ep y.i<=j+1->E (T.pl y.i)=none:=by
     intro m hw E w' bj bm y B p v U h4;rcases HB j (T.ep y.i)with h5|h5
     ·obtain⟨_,aj⟩:=M.item y (J y B)
      have aS:=(aj.alloc p v).2.2.1 j h5
      cases hd':E (T.pl y.i)with
      |none=>rfl
      |some e=>have:=bj.fresh _ _ hd';omega
     ·exact bm.none _ (s y B p v U h5).1 (L y B p v h5)
   unfold wpOp;simp only[ho];rw[ab]
   cases I:T.on a.i with
   | false=>
     simp only[J4,if_false];have hv:=u.off I;rcases Eh a.o with m|m|m
     ·exact next j Δ undef w (by rw[hv];exact .undef Δ) k.world (.refl _ _) k.OV (still (by rw[m];decide)) (by grind) k.none
     ·exact next j Δ undef w (by rw[hv];exact .undef Δ) k.world (.refl _ _) k.OV (still (by rw[m];decide)) (by grind) k.none
     ·obtain⟨A,_,aT⟩:=u.write m
      obtain⟨aI,aJ⟩:=aH m A;have hG:=aT I;rw[aI]at hG;have am:j<(gf (gY ops)).length:=(jv.1 aJ).1;obtain⟨bn,aK⟩:=M.chain j (EL _) am;have aU:WR Δ (T.G j) w:=by rw[hG];exact k.world
      exact next (j+1) Δ undef w (by rw[hv];exact .undef Δ) (aU.Jx aK) (.refl _ _) am (ak m A) (al m A Δ w aU (by rw[hG];exact .refl _ _)) k.none
   | true=>
     simp only[if_true];left;rcases Eh a.o with m|m|m
     ·have aV:=u.pure m I j (aG (by rw[m];decide)) k.OV ai
      rw[<-B1 (h:=T.H j) K]at aV;have ax:(xW a.o).f call t (T.H j)=some (T.val a.i,T.H j):=by
        unfold xW;rw[m];simp only[ez];exact⟨_,aV,rfl⟩
      rw[<-F];refine HH hc k.world k.tmps ax λE x w' X=>?_;rw[F]
      exact next j E x w' X.val X.world X.frame k.OV (still (by rw[m];decide)) (λy B p v U h4=>X.grow.none _ (s y B p v U h4).1 (L y B p v h4))
        (λl' p v=>X.grow.none _ (k.none l' p v) (yG v aQ))
     ·obtain ⟨⟨mk,aW,aX⟩,bo,_,aS⟩:=u.alloc m I
      obtain⟨bp,bq⟩:=bo j (aG (by rw[m];decide)) k.OV;have aY:=bq ai;rw[<-EN K]at aW;obtain⟨mo,mv,an,aL⟩:=KO k.tmps aW;have N:=k.VR a ha m I R (aG (by rw[m];decide));obtain⟨dd,V,br,bt⟩:=aL (T.pl a.i) w.heap.size N;rw[<-F];unfold Oper.wp;rw[an w,Oper.upon_value,F];refine next j (Δ.set (T.pl a.i) dd) _ _ (by rw[aX];exact bt) (k.world.lay N bp aY V br) (FR.lay N V) k.OV (still (by rw[m];decide)) (λy B p v U h4=>?_) (λl' p v=>?_)
      ·obtain⟨e1,e2⟩:=s y B p v U h4
       have:=M.Mx y (J y B) a a8 p m v I e2;unfold Env.set;rw[if_neg this];exact e1
      ·have:l'≠T.pl a.i:=by omega
       unfold Env.set;rw[if_neg this];exact k.none l' p v
     ·obtain ⟨A,an,_⟩:=u.write m
      obtain⟨aI,aJ⟩:=aH m A;have ax:=an I;rw[aI,<-Gy (h:=T.H j) K]at ax;have am:j<(gf (gY ops)).length:=(jv.1 aJ).1;obtain⟨bn,aK⟩:=M.chain j (EL _) am;rw[<-F];refine HH hc k.world k.tmps ax λE x w' X=>?_;rw[F]
      exact next (j+1) E x w' X.val (X.world.Jx aK) X.frame am (ak m A) (al m A E w' X.world X.grow)
        (λl' p v=>X.grow.none _ (k.none l' p v) (yG v aQ))
theorem Oj(l:AI (gf (gY ops))=true) (fuel:Nat) (c:Array Bool) (d:Act) (w:World) (j:Nat) (Δ:Env) (t:Tm) (a:It) (_:0<=j) (_:c.toList.count false<=fuel+1) (m:Inv n ops t0 h0 Δ0 w0 T c j Δ t d w) (y:a∈gY ops)
  (s:cls a.o=2) (p:c.getD a.i false=false) (k:∀x∈gY ops,a.b.testBit x.i=true->c.getD x.i false=true) (pQ:(gf (gY ops))[j]?≠some a) :
  wpOp P0 ops Q a.i (wpAny P0 .any ops Q fuel (c.setIfInBounds a.i true)) d w:=by
 exfalso;have f:a∈gf (gY ops):=by unfold gf;rw[Rg];exact by simp_all
 obtain ⟨q,hq⟩:=mq.1 f;have u:¬q<j:=λh=>by
  have:=(m.ahead _ a hq).2 h
  simp_all
 have v:q≠j:=by grind
 obtain⟨e,rfl⟩:∃e,q=e+1:=⟨q-1,by omega⟩
 have g:e<(gf (gY ops)).length:=by have:=(jv.1 hq).1;omega
 have r:=iQ g;have z:=EW l e _ a r hq;have:=(m.ahead e _ r).1 (by grind[ni,B9]);omega
theorem jx{x:Operand} (a:IF x=true) (t:Tm) (h h':Hp):(oO x).f t h=(oO x).f t h':=by
 cases x <;> first|rfl|grind[IF]
theorem J9{o:Oper} (a:z0 o=true) (t:Tm) (h h':Hp):(gX o).f t h=(gX o).f t h':=by
 unfold z0 at a;unfold gX;split at a
 ·grind[jx]
 ·grind[uX,jx]
 ·grind[ng,jx]
 ·rename_i b;rw[b];rw[te]at a
  grind[nB,jx]
 ·cases a
theorem mY{o:Oper} {d:Nat} (h:storeAt o=some d):∃ty x,o.op = .store ty (.tmp d) x/\o.guard=none/\o.dst=none/\IF x=true:=by
 grind[storeAt]
theorem wB{o:Oper} {d:Nat} (h:storeAt o=some d):cls o=2:=by
 grind[mY,cls]
theorem Ez{o:Oper} {d:Nat} (k:storeAt o=some d) {call:Call} {t:Tm} {h h':Hp} {v:V} (m:(xW o).f call t h=some (v,h')) :
  v = .undef/\∃l off e sz cs lU,gq t d = .ptr l off/\h.get l=some (.cells e sz true false cs)/\h' = h.put l (.cells e sz true false lU)/\
   ∀b:Hp,b.get l=h.get l->(xW o).f call t b=some (.undef,b.put l (.cells e sz true false lU)):=by
 obtain⟨ty,x,j,_,_,E⟩:=mY k;have s:=wB k
 have c:∀h,(xW o).f call t h=oB ((iC o).f t h) λr=>match r with
   | .val v h=>some (v,h)
   | .call f args=>call f args h:=by
  intro h;unfold xW;split
  ·omega
  ·omega
  ·rfl
 rw[c,ez]at m;obtain⟨r,b,u⟩:=m
 have p:∀h,(iC o).f t h=match tR ty with
   |some n=>oB ((oO (.tmp d)).f t h) λa=>oB ((oO x).f t h) λv=>px a λl off=>bB (Nat.beq v.cells.length n) (oB (zY h l off v.cells) λh=>some (.val .undef h))
   |none=>none:=by
  intro h;unfold iC;rw[j];simp only;generalize tR ty=z;cases z <;> rfl
 rw[p]at b
 cases hn:tR ty with
 |none=>simp_all
 | some n=>
   rw[hn]at b;simp only[ez,nC,fW]at b;obtain⟨a,w,vv,y,l,off,rfl,hlen,F,g,A⟩:=b;cases A;cases u;have i:gq t d = .ptr l off:=Option.some.inj (show some (gq t d)=some (V.ptr l off) from w);unfold zY at g;simp only[jB,fW,ez,Ub]at g;obtain⟨e,sz,live,ro,cs,B,rfl,rfl,q,lU,C,zt⟩:=g;cases zt;refine⟨rfl,l,off,e,sz,cs,lU,i,B,rfl,λb D=>?_⟩;rw[c,ez];refine⟨.val .undef (b.put l (.cells e sz true false lU)),?_,rfl⟩;rw[p,hn];simp only[ez,nC,fW];refine⟨.ptr l off,by rw[<-i];rfl,vv,by grind[jx],l,off,rfl,hlen,b.put l (.cells e sz true false lU),?_,rfl⟩;unfold zY;simp only[jB,fW,ez,Ub]
   grind
theorem GG:∀{l:List It} {a b:It},Fs l=some (a,b)->∃p,l.length=p+2/\l[p]? =some a/\l[p+1]? =some b
 |[],_,_,h=>by cases h
 |[_],_,_,h=>by cases h
 |[x,y],a,b,h=>by cases h;simp_all
 | _::y::z::l,a,b,h=>by
   obtain⟨p,c,d,e⟩:=GG (l:=y::z::l) h;exact⟨p+1,by simp_all,by grind,by simp_all⟩
theorem BV:∀{l:List It},BN l=true->∀(q:Nat) (a b:It),l[q]? =some a->l[q+1]? =some b->q+2<l.length->b.b.testBit a.i=true/\(q+3=l.length->∀c,l[q+2]? =some c->c.b.testBit a.i=true)
 |[],_,q,a,b,h,_,_=>by simp_all
 |[x],_,q,a,b,_,h,_=>by simp_all
 |[x,y],_,q,a,b,_,_,h=>by grind
 | x::y::z::l,hc,0,a,b,d,e,_=>by
   simp at d e;subst d;subst e;simp only[BN,te]at hc
   grind
 | x::y::z::l,hc,q+1,a,b,d,e,f=>by
   simp only[BN,te]at hc;have:=BV (l:=y::z::l) hc.2 q a b (by simp_all) (by simp_all) (by simp_all)
   simp_all
theorem Kc{jf ws:List It} {a b:It} {da db:Nat} (h:CP jf ws=some (a,b,da,db)) :
  Fs ws=some (a,b)/\storeAt a.o=some da/\storeAt b.o=some db/\fixed jf a=true/\fixed jf b=true/\JA jf a b=true/\BN ws=true:=by
 unfold CP at h
 grind
structure TL (n:Nat) (ops:Array Oper) (t0:Tm) (h0:Hp) (Δ0:Env) (w0:World) (T:Tc) (c:Nat) (e:Hp) (b:Array Bool) (Δ:Env) (t:Tm) (a:Act) (w:World):Prop where
 size:b.size=ops.size
 closed:vL (gY ops) (λi=>b.getD i false)
 ahead:∀x∈gf (gY ops),(b.getD x.i false=true↔x.i≠c)
 tmps:TR Δ n t a
 mr:∀d,gq t d=nd T.val (λi=>b.getD i false) d (gY ops) (gq t0 d)
 world:WR Δ e w
 frame:FR Δ0 Δ w0 w
 none:∀l,Δ0 l = .none->l<h0.next->Δ l = .none
 defers:t.ds=t0.ds
section
variable{a b:It}{da db p:Nat}
structure VD (ops:Array Oper) (T:Tc) (a b:It) (da db p:Nat) (r:Tm×Hp):Prop where
 len:(gf (gY ops)).length=p+2
 ga:(gf (gY ops))[p]? =some a
 gb:(gf (gY ops))[p+1]? =some b
 sa:storeAt a.o=some da
 sb:storeAt b.o=some db
 fa:fixed (gY ops) a=true
 fb:fixed (gY ops) b=true
 op:JA (gY ops) a b=true
 ch:BN (gf (gY ops))=true
 apart:OX (gq r.1 da) (gq r.1 db)=true
theorem Iv(h:JA (gY ops) a b=true) {x:It} (c:x∈gY ops) (d:x.i≠a.i) (e:x.i≠b.i) (f:¬(a.b.testBit x.i=true/\b.b.testBit x.i=true)) :
  cls x.o=0/\z0 x.o=true/\x.o.guard=none/\x.b.testBit a.i=false/\x.b.testBit b.i=false:=by
 have:=JB.1 h x c;simp only[Nq,te,Ub,Option.isNone_iff_eq_none]at this
 grind[absurd,tS]
theorem DY{l:List It} (g:pO n ops.toList (gY ops) (gf (gY ops)) call t0 h0 l 0 0 h0 [] r T T) {x:It} (h:x∈gY ops) (c:fixed (gY ops) x=true) {D:Nat->Bool} (j:∀y∈gY ops,x.b.testBit y.i=true->D y.i=true)
  {d:Nat} (hd:d∈xa x.o.op.operands.toList) (a:V):nd T.val D d (gY ops) a=nd T.val (λ_=>true) d (gY ops) a:=by
 refine nj (λy e f=>?_) (by simp_all) a;have k:=JB.1 (JB.1 c d hd) y e
 grind[writes]
theorem wJ{o:Oper} {d:Nat} (h:storeAt o=some d):d∈xa o.op.operands.toList:=by
 grind[mY,Op.operands,xa]
end
section
variable{a b:It}{da db p:Nat}{l:List It}
theorem Px{H a e:Hp} {la lb:Nat} {i ob:O} (b:la<H.next) (f:lb<H.next) (pQ:la≠lb) (j:xJ (H.put la i) a) (k:xJ (a.put lb ob) e):xJ ((H.put lb ob).put la i) e:=by
 have c:H.next<=a.next:=j.1;have g:a.next<=e.next:=k.1;refine⟨DE c g,λx l=>?_⟩;have d:x<H.next:=l;rw[k.2 x (yG d c)];rw[iP (h:=H.put lb ob) _ _ b,iP (h:=a) _ _ (by omega),iP (h:=H) _ _ f];rw[j.2 x d,iP (h:=H) _ _ b]
 grind
theorem Ut(hc:oL call) (hp:nK (gY ops)=true) (aL:(gY ops).all (yH (gY ops))=true) (au:(gY ops).all wT=true) (hl:∀a∈l,a∈gY ops)
    (Y:pO n ops.toList (gY ops) (gf (gY ops)) call t0 h0 l 0 0 h0 [] r T T) (s:VD ops T a b da db p r)
    (aM:r.1.ds=t0.ds) (hQ:∀Δ' a' w',tK Δ0 h0 w0 n r.1 r.2 Δ' a' w'->Q .normal a' w') {la lb:Nat} {ob:O} (a7:la<(T.H p).next) (aN:lb<(T.H p).next) (pQ:la≠lb)
    (aO:∀t:Tm,gq t da=gq r.1 da->∃oa,(T.G p)=(T.H p).put la oa/\∀k:Hp,k.get la=(T.H p).get la->(∀x∈a.o.op.operands.toList,Alike t (T.tt a.i) x)->(xW a.o).f call t k=some (.undef,k.put la oa))
    (a8:T.G (p+1)=(T.H (p+1)).put lb ob) :
    ∀(fuel:Nat) (c:Array Bool) (m:Act) (w:World) (Δ:Env) (t:Tm),c.toList.count false<=fuel->TL n ops t0 h0 Δ0 w0 T a.i ((T.H p).put lb ob) c Δ t m w->wpAny P0 .any ops Q fuel c m w:=by
  have ha:a∈gY ops:=(ni (mq.2 ⟨_,s.ga⟩)).1;have hb:b∈gY ops:=(ni (mq.2 ⟨_,s.gb⟩)).1;have aP:=wB s.sa;have aQ:=wB s.sb;have aR:a.i≠b.i:=λe=>by
    have:=D1 s.ga s.gb e;omega
  have aw:a∈gf (gY ops):=mq.2 ⟨_,s.ga⟩;have ax:b∈gf (gY ops):=mq.2 ⟨_,s.gb⟩;have L:∀{c Δ t m w},TL n ops t0 h0 Δ0 w0 T a.i ((T.H p).put lb ob) c Δ t m w->c.getD a.i false=false:=λg=>by
    cases h:Array.getD _ a.i false with
    |false=>rfl
    |true=>exact absurd rfl ((g.ahead a aw).1 h)
  have ah:∀{c Δ t m w},TL n ops t0 h0 Δ0 w0 T a.i ((T.H p).put lb ob) c Δ t m w->c.getD b.i false=true:=λg=>(g.ahead b ax).2 (λe=>aR e.symm);intro fuel
  induction fuel with
  | zero=>
    intro c m w Δ t ay g;exfalso;have k:=L g;have M:a.i<c.size:=by rw[g.size];exact(PG.1 (GJ ha)).1
    have:false∈c.toList:=by
      have:c[a.i]=false:=by simpa[M]using k
      rw[<-this];simp
    have:=List.count_pos_iff.2 this
    omega
  | succ fuel ih=>
    intro c m w Δ t ay g;refine⟨λhr=>?_,λi hi=>?_⟩
    ·exfalso
     have az : ∀i,i<ops.size->c.getD i false=true:=by
       intro i
       induction i using Nat.strongRecOn with
       | _ i aS=>
         intro hi
         cases Z:c.getD i false with
         |true=>rfl
         | false=>
           exfalso;have ho:ops[i]? =some ops[i]:=Array.getElem?_eq_getElem hi;obtain⟨x,hx,aT,aU,_⟩:=FU ho;have I:i∈Region.ready .any ops c:=by
             rw[mem_ready];refine⟨?_,ops[i],ho,λe he aA=>?_⟩
             ·have:i<c.size:=by rw[g.size];exact hi
              simp[this]at Z⊢;exact Z
             ·have k:=JB.1 au x hx
              unfold wT at k;rw[aU,aT]at k;have h2:=JB.1 k e (by simpa using he);rw[<-A6,aA]at h2;simp only[Uf,Bool.false_or,JK]at h2;exact aS e.on h2 (by omega)
           rw[hr]at I;cases I
     have:=az a.i (PG.1 (GJ ha)).1;rw[L g]at this;cases this
    rw[mem_ready]at hi;obtain⟨xF,o,ho,aa⟩:=hi;obtain⟨y,X,ai,A,aj⟩:=FU ho;have M:i<c.size:=by rw[g.size];exact(PG.1 ho).1
    have N:c.getD y.i false=false:=by rw[ai];simp[M]at xF⊢;exact xF
    have J:∀x∈gY ops,y.b.testBit x.i=true->c.getD x.i false=true:=by
      intro x hx Z;obtain⟨e,he,aV,k⟩:=Gj aj Z;rw[A]at he;have P:=aa e (by simpa using he) (by rw[A6];exact aV);rcases k with k|⟨z,B,F⟩
      ·rw[k];exact P
      ·have a9:=p8 _ _ B
       exact g.closed z (mq.2 ⟨_,B⟩) (by simp_all) x hx F
    have ab:∀y∈gY ops,y∈l:=by
      intro y X;rcases Y.done y X with k|k
      ·simp at k
      ·grind[qN]
    obtain ⟨D,C⟩:=Y.item y (ab y X);have ac:∀d,d∈mF y.o->gq t d=gq (T.tt y.i) d:=λd hd=>by
      rw[g.mr d,C.mr d];exact BU p8 hp X g.closed C.closed J C.fk N C.fresh hd _ _
    have K:∀x∈y.o.op.operands.toList,Alike t (T.tt y.i) x:=B8 λd hd=>ac d (by simp[mF,hd]);obtain⟨d,hd⟩:=C.dst;have R:∀i',(c.setIfInBounds i true).getD i' false=(c.getD i' false ||decide (y.i=i')):=λi'=>by
      by_cases e:i=i'
      ·subst e;simp[M,ai]
      simp_all
    have S:(c.setIfInBounds i true).toList.count false<=fuel:=by
      have k:c.toList[i]? =some false:=by
        rw[QS];have:c.getD y.i false=false:=N;rw[ai]at this;simpa[M]using this
      have:=count_set c.toList i k;rw[Array.toList_setIfInBounds];omega
    have u:vL (gY ops) (λi'=>(c.setIfInBounds i true).getD i' false):=by
      intro x hx U z B F;simp only[R,Nq,MR]at U⊢;rcases U with U|U
      ·exact .inl (g.closed x hx U z B F)
      ·grind[qN]
    have E:∀d',gq (d.f t (T.val y.i)) d' = nd T.val (λi'=>(c.setIfInBounds i true).getD i' false) d' (gY ops) (gq t0 d'):=λd'=>by
      rw[Cn hd,AZ p8 hp X g.closed N R (val:=T.val) (Hs:=T.val) (λ_ _=>rfl) d' (gq t0 d'),g.mr d']
    have aB:h0.next<=(T.H p).next:=DE Y.more.1 (zK Y.chain p p (by omega) (by have:=s.len;omega));have ak:y.i≠a.i->cls y.o=0/\z0 y.o=true/\y.o.guard=none/\y.b.testBit a.i=false/\y.b.testBit b.i=false:=λag=>by
      have aW:y.i≠b.i:=by grind
      refine Iv s.op X ag aW λ⟨_,aC⟩=>?_;have:=g.closed b hb (ah g) y X aC
      simp_all
    by_cases hya:y.i=a.i
    ·
      have aD:=qN X ha hya;subst aD;have P:Region.wanted o (yielded ops m.tmps)=true:=by
        obtain⟨_,_,_,hg,_⟩:=mY s.sa;unfold Region.wanted;rw[<-A,hg]
      unfold wpOp;simp only[ho];rw[P];simp only[if_true];left;obtain⟨oa,ba,aE⟩:=aO t (by
        rw[g.mr da,Y.mr da];exact DY Y X s.fa J (wJ s.sa) _)
      have al:=aE ((T.H p).put lb ob) (by rw[iP _ _ aN,if_neg (λe=>pQ e.symm)]) K;rw[<-A];refine HH hc g.world g.tmps al λΔ' x w' V=>?_;rw[A];have hlen:=s.len;have a5:=Y.chain p (EL _) (by omega);have aX:=Y.chain (p+1) (EL _) (by omega);have hm:xJ (((T.H p).put lb ob).put la oa) (T.H (p+2)):=by grind[Px]
      have am:∀q z,(gf (gY ops))[q]? =some z->((c.setIfInBounds i true).getD z.i false=true↔q<p+2):=λq z B=>by
        have aY:=(jv.1 B).1;constructor
        ·intro _;omega
        ·intro _
         rw[R];by_cases e:z.i=y.i
         ·simp[e]
         ·rw[(g.ahead z (mq.2 ⟨_,B⟩)).2 e];rfl
      have a6:T.val y.i = .undef\/True:= .inr trivial;have aF:(d.f t (T.val y.i)).ds=t0.ds:=by rw[sK hd];exact g.defers
      have ae:y.o.dst=none:=by obtain⟨_,_,_,_,h5,_⟩:=mY s.sa;exact h5
      have aZ:TR Δ' n (d.f t (T.val y.i)) (m.put o.dst x):=by
        have k:=Eb (g.tmps.mono V.frame.le) hd (v:= .undef) V.val;rw[A]at k;have e:d.f t (T.val y.i)=d.f t .undef:=by
          unfold qt at hd;rw[ae]at hd;cases hd;rfl
        rw[e];exact k
      refine MY hc hp aL au (T:=T) (p+2) (λfuel c m w j Δ t a' hj _ a0 a1 aG an _ ag=>?_) hl Y aM hQ fuel _ _ _ (p+2) Δ' (d.f t (T.val y.i)) (je _) S
        ⟨by simp[g.size],u,by omega,am,aZ,E,V.world.Jx hm,g.frame.trans V.frame,λl' k h2=>V.grow.none _ (g.none l' k h2) (yG h2 aB),aF,λz B aH bb ao _=>?_⟩
      ·exfalso
       have I:a'∈gf (gY ops):=by unfold gf;rw[Rg];exact⟨a1,by rw[aG];rfl⟩
       obtain⟨q,hq⟩:=mq.1 I;have k:=(jv.1 hq).1;have:=(a0.ahead _ a' hq).2 (by omega);rw[an]at this;cases this
      ·exfalso
       rw[R]at ao;simp only[UU,decide_eq_false_iff_not]at ao;have F:z.i≠b.i:=by grind
       have:=Iv s.op B (λe=>ao.2 e.symm) F (by grind);rw[this.1]at aH;cases aH
    ·
      obtain⟨aq,yk,aI,bc,aC⟩:=ak hya;have a2:mN n ops.toList y.o (T.tt y.i)=some true:=by unfold mN ji;rw[aI]
      have P:T.on y.i=true:=by
        have:=C.mN;rw[a2]at this;exact(Option.some.inj this).symm
      have W:Region.wanted o (yielded ops m.tmps)=true:=by
        unfold Region.wanted;rw[<-A,aI]
      have hlen :=s.len;have a3:T.ep y.i<=p:=by
        have k:=C.U4 (by rw[aq];decide)
        cases he:T.ep y.i with
        |zero=>omega
        | succ e=>
          rw[he]at k;simp only[FB]at k;split at k
          ·rename_i z B
           have aY:=(jv.1 B).1;rcases HB e p with h|h
           ·omega
           ·exfalso
            have:e=p\/e=p+1:=by omega
            rcases this with e1|e1
            ·subst e1
             rw[s.ga]at B;simp_all
            ·subst e1
             rw[s.gb]at B;simp_all
          ·cases k
      have ar:p<=late (gf (gY ops)) y:=by
        rcases HB (late (gf (gY ops)) y) p with h|h
        ·exfalso
         obtain ⟨z,B,F⟩:=DO (gf (gY ops)) y (by omega);have aJ:z∈gf (gY ops):=mq.2 ⟨_,B⟩;have a4:z.i≠a.i:=λe=>by
           have:=D1 B s.ga e;omega
         have:=g.closed z (ni aJ).1 ((g.ahead z aJ).2 a4) y X F
         simp_all
        ·exact h
      have aK:=C.pure aq P p a3 (by omega) ar;rw[<-B1 (h:=T.H p) K,J9 yk t _ ((T.H p).put lb ob)]at aK;have al:(xW y.o).f call t ((T.H p).put lb ob)=some (T.val y.i,(T.H p).put lb ob):=by
        unfold xW;rw[aq];simp only[ez];exact⟨_,aK,rfl⟩
      unfold wpOp;simp only[ho];rw[W];simp only[if_true];left;rw[<-A];refine HH hc g.world g.tmps al λΔ' x w' V=>?_;rw[A];refine ih _ _ _ Δ' (d.f t (T.val y.i)) S ⟨by simp[g.size],u,λz B=>?_,?_,E,V.world,g.frame.trans V.frame,λl' k h2=>V.grow.none _ (g.none l' k h2) (yG h2 aB),by rw[sK hd];exact g.defers⟩
      ·rw[R]
       have:¬y.i=z.i:=by grind[qN,ni]
       simp only[this,decide_false,Bool.or_false];exact g.ahead z B
      ·have k:=Eb (g.tmps.mono V.frame.le) hd V.val
       rw[A]at k;exact k
end
section
variable{a b:It}{da db p:Nat}{l:List It}
theorem PQ(hc:oL call) (hp:nK (gY ops)=true) (aB:(gY ops).all (yH (gY ops))=true) (aC:(gY ops).all wT=true) (hl:∀a∈l,a∈gY ops)
  (I:pO n ops.toList (gY ops) (gf (gY ops)) call t0 h0 l 0 0 h0 [] r T T) (g:VD ops T a b da db p r)
  (aD:r.1.ds=t0.ds) (hQ:∀Δ' a' w',tK Δ0 h0 w0 n r.1 r.2 Δ' a' w'->Q .normal a' w')
  (fuel:Nat) (c:Array Bool) (J:Act) (w:World) (j:Nat) (Δ:Env) (t:Tm) (y:It) (_:0<=j) (aU:c.toList.count false<=fuel+1) (s:Inv n ops t0 h0 Δ0 w0 T c j Δ t J w) (hy:y∈gY ops)
  (aj:cls y.o=2) (K:c.getD y.i false=false) (m:∀x∈gY ops,y.b.testBit x.i=true->c.getD x.i false=true) (pQ:(gf (gY ops))[j]?≠some y) :
  wpOp P0 ops Q y.i (wpAny P0 .any ops Q fuel (c.setIfInBounds y.i true)) J w:=by
 have hlen:=g.len;have ha:a∈gY ops:=(ni (mq.2 ⟨_,g.ga⟩)).1;have hb:b∈gY ops:=(ni (mq.2 ⟨_,g.gb⟩)).1;have ak:y∈gf (gY ops):=by unfold gf;rw[Rg];exact by simp_all
 obtain ⟨q,hq⟩:=mq.1 ak;have a0:=(jv.1 hq).1;have a1:¬q<j:=λh=>by
  have:=(s.ahead _ y hq).2 h
  simp_all
 have a2:q≠j:=by grind
 have aE:q=p+1/\j=p:=by
  obtain⟨e,rfl⟩:∃e,q=e+1:=⟨q-1,by omega⟩
  have V:e<(gf (gY ops)).length:=by omega
  have hg:=iQ V;rcases HB e p with h|h
  ·exfalso;have ab:=(BV g.ch e _ y hg hq (by omega)).1;have:=(s.ahead e _ hg).1 (m _ (ni (B9 V)).1 ab);omega
  ·have he:e=p:=by omega
   subst he;refine⟨rfl,?_⟩;rcases HB j e with h2|h2
   ·exfalso;obtain⟨f,rfl⟩:∃f,e=f+1:=⟨e-1,by omega⟩
    have al:f<(gf (gY ops)).length:=by omega
    have am:=iQ al;have ab:=(BV g.ch f _ a am g.ga (by omega)).2 (by omega) y hq;have:=(s.ahead f _ am).1 (m _ (ni (B9 al)).1 ab);omega
   ·omega
 obtain⟨rfl,rfl⟩:=aE;have aF:y=b:=by rw[g.gb]at hq;cases hq;rfl
 subst aF;have E:∀y∈gY ops,y∈l:=by
  intro y hy;rcases I.done y hy with C|C
  ·simp at C
  ·grind[qN]
 obtain ⟨D,u⟩:=I.item y (E y hy);obtain⟨Da,A⟩:=I.item a (E a ha);have L:=wB g.sa;have U4:∀{x:It} {D:Nat->Bool} {k:Nat},G6 n ops.toList (gY ops) (gf (gY ops)) call t0 h0 T D x->cls x.o=2->(gf (gY ops))[k]? =some x->T.ep x.i=k:=λ{x D k} W aG a3=>by
  have C:=(W.write aG).1
  grind[SN,D1,tS]
 have an:=U4 u aj g.gb;have ao:=U4 A L g.ga;have X:∀{x:It} {D:Nat->Bool} {d:Nat},G6 n ops.toList (gY ops) (gf (gY ops)) call t0 h0 T D x->storeAt x.o=some d->T.on x.i=true:=λ{x D d} W hs=>by
  obtain⟨_,_,_,hg,_⟩:=mY hs;have:=W.mN
  grind[mN,ji,Option.some.inj]
 have P:∀d,d∈mF y.o->gq t d=gq (T.tt y.i) d:=λd hd=>by
  rw[s.mr d,u.mr d];exact BU p8 hp hy s.closed u.closed m u.fk K u.fresh hd _ _
 have R:∀x∈y.o.op.operands.toList,Alike t (T.tt y.i) x:=by grind[B8,mF]
 have Y:=(A.write L).2.1 (X A g.sa);rw[ao]at Y;obtain⟨_,la,aV,ea,aH,a4,aq,aI,aJ,ac,aK⟩:=Ez g.sa Y;have F:=(u.write aj).2.1 (X u g.sb);rw[an]at F;obtain⟨_,lb,aW,eb,a5,a6,aX,a7,a8,a9,_⟩:=Ez g.sb F;rw[<-Gy (h:=T.H (j+1)) R]at F;obtain⟨_,B,aL,aM,ar,aY,ae,Z,aZ,au,ag⟩:=Ez g.sb F;have e1:=P db (by simp[mF,wJ g.sb]);have aN:gq (T.tt a.i) da=gq r.1 da:=by
  rw[A.mr da,I.mr da];exact DY I ha g.fa A.fk (wJ g.sa) _
 have aO:gq t db=gq r.1 db:=by
  rw[s.mr db,I.mr db];exact DY I hy g.fb m (wJ g.sb) _
 have aw:la≠B:=λe=>by
  have:=g.apart;rw[<-aN,<-aO,aI,Z,e]at this;have h2:(!(Nat.beq B B))=true:=this
  simp_all
 have ax:la<(T.H j).next:=Hp.vN aJ;have ay:B<(T.H j).next:=by
  have C:=s.tmps.rel db;rw[Z]at C
  cases W:J.tmps.getD db undef with
  | pointer p=>
    rw[W]at C
    cases C with
    |ptr _ _ d hd=>exact s.world.fresh _ _ hd
  |_=>rw[W]at C;cases C
 have aP:=I.chain j (EL _) (by omega);have az:(T.H j).get B=(T.H (j+1)).get B:=by
  rw[aP.2.2 B (by rw[ac];exact ay),ac,iP _ _ ax,if_neg aw]
 have aQ:=ag (T.H j) az;have aa:=GJ hy;have M:Region.wanted y.o (yielded ops J.tmps)=true:=by
  obtain⟨_,_,_,hg,_⟩:=mY g.sb;unfold Region.wanted;rw[hg]
 obtain⟨d,hd⟩:=u.dst;have aA:y.i<c.size:=by rw[s.size];exact(PG.1 aa).1
 have ah:∀S,(c.setIfInBounds y.i true).getD S false=(c.getD S false ||decide (y.i=S)):=λS=>by
  by_cases e:y.i=S
  ·rw[<-e];simp[aA]
  simp_all
 have ai:(c.setIfInBounds y.i true).toList.count false<=fuel:=by
  have C:c.toList[y.i]? =some false:=by
   rw[QS];simpa[aA]using K
  have:=count_set c.toList y.i C;rw[Array.toList_setIfInBounds];omega
 have G:vL (gY ops) (λS=>(c.setIfInBounds y.i true).getD S false):=by
  intro x W N z hz aR;simp only[ah,Nq,MR]at N⊢;rcases N with N|N
  ·exact .inl (s.closed x W N z hz aR)
  ·grind[qN]
 have O:∀d',gq (d.f t (T.val y.i)) d' = nd T.val (λS=>(c.setIfInBounds y.i true).getD S false) d' (gY ops) (gq t0 d'):=λd'=>by
  rw[Cn hd,AZ p8 hp hy s.closed K ah (val:=T.val) (Hs:=T.val) (λ_ _=>rfl) d' (gq t0 d'),s.mr d']
 have aS:h0.next<=(T.H j).next:=DE I.more.1 (zK I.chain j j (by omega) (by omega));unfold wpOp;simp only[aa];rw[M];simp only[if_true];left;refine HH hc s.world s.tmps aQ λΔ' x w' hA=>?_;have U:y.o.dst=none:=by obtain⟨_,_,_,_,h5,_⟩:=mY g.sb;exact h5
 have aT:TR Δ' n (d.f t (T.val y.i)) (J.put y.o.dst x):=by
  have C:=Eb (s.tmps.mono hA.frame.le) hd (v:= .undef) hA.val;have e:d.f t (T.val y.i)=d.f t .undef:=by
   unfold qt at hd;rw[U]at hd;cases hd;rfl
  rw[e];exact C
 refine Ut hc hp aB aC hl I g aD hQ (la:=la) (lb:=B) (ob:= .cells aM ar true false ae) ax ay aw (λt' ba=>⟨.cells ea aH true false aq,ac,λC bb bc=>?_⟩) au fuel _ _ _ Δ' (d.f t (T.val y.i)) ai
  ⟨by simp[s.size],G,λz hz=>?_,aT,O,hA.world,s.frame.trans hA.frame,λl' C h2=>hA.grow.none _ (s.none l' C h2) (yG h2 aS),by rw[sK hd];exact s.defers⟩
 ·grind[Gy]
 ·obtain ⟨k,hk⟩:=mq.1 hz;have bd:=(jv.1 hk).1;rw[ah];simp only[Nq,MR,s.ahead k z hk];constructor
  ·rintro(h|h)
   ·intro e;have:=D1 hk g.ga e;omega
   grind
  ·intro be;rcases HB k j with h|h
   ·exact .inl h
   ·right;have bf:k≠j:=λe=>by
     subst e;rw[g.ga]at hk;simp_all
    have:k=j+1:=by omega
    simp_all
end
end
