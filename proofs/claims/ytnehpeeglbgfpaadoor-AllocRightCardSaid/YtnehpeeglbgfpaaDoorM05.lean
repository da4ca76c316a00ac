/- Parts. -/
import Derived.Test.YtnehpeeglbgfpaaDoorM04
set_option maxHeartbeats 4000000
namespace Go.Proofs.YtnehpeeglbgfpaaDoor.Hx
theorem Ft:∀(ws:List It) (a:It),late ws a<ws.length->∃w,ws[late ws a]? =some w/\w.b.testBit a.i=true
 |[],a,h=>by simp_all
 | w ::ws,a,h=>by
   unfold late at h⊢;split
   ·simp_all
   ·rename_i c
    simp only[c,MX]at h;obtain⟨w',d,e⟩:=Ft ws a (by omega)
    simp_all
theorem Gb:∀{l:List It},BK l=true->∀(q:Nat) (a b:It),l[q]? =some a->l[q+1]? =some b->b.b.testBit a.i=true
 |[],_,q,a,b,h,_=>by simp_all
 |[x],_,q,a,b,_,h=>by simp_all
 | x::y::l,hc,0,a,b,c,d=>by
   simp_all[BK,qU]
 | x::y::l,hc,q+1,a,b,c,d=>by
   simp only[BK,qU]at hc;exact Gb (l:=y::l) hc.2 q a b (by simp_all) (by simp_all)
theorem count_set:∀(l:List Bool) (i:Nat),l[i]? =some false->(l.set i true).count false<l.count false
 |[],i,h=>by simp_all
 |b::l,0,h=>by simp_all
 | b::l,i+1,h=>by
   grind
theorem Mx{n:Nat} {all:List Oper} {o:Oper} {t t':Tm} (h:∀j w a d,o.guard=some (j,w)->all[j]? =some a->a.dst=some d->gI t d=gI t' d):mX n all o t=mX n all o t':=by
 unfold mX jB
 grind
theorem KK{Δ:Env} {n:Nat} {t:Tm} {a:Act} (c:TR Δ n t a) {ops:Array Oper} {o:Oper} {b:Bool} (h:mX n ops.toList o t=some b):Region.wanted o (yielded ops a.tmps)=b:=by
 grind[mX,FD,Jl]
section
variable{n:Nat}{ops:Array Oper}{call:Call}{t0:Tm}{h0:Hp}{Δ0:Env}{w0:World}{T:Tc}{r:Tm×Hp}{Q:Exit->Act->World->Prop}
abbrev im(ops:Array Oper):List It:=items ops.toList 0 []
theorem qz(k:Nat) (x:It) (h:(im ops)[k]? =some x):x.i=k:=by
 have:=(zi _ _ _ _ _ h).1;omega
theorem sr{x y:It} (a:x∈im ops) (b:y∈im ops) (h:x.i=y.i):x=y:=by
 grind[mM,qz]
theorem HI{x:It} (a:x∈im ops):ops[x.i]? =some x.o:=by
 obtain⟨i,hi⟩:=mM.1 a;have b:=qz i x hi;have c:=(zi _ _ _ _ _ hi).2
 simp_all
theorem Iw{i:Nat} {o:Oper} (h:ops[i]? =some o):∃a,a∈im ops/\a.i=i/\a.o=o/\(im ops)[i]? =some a:=by
 have c:i<ops.size:=by grind
 have b:i<(im ops).length:=by rw[DU];simpa using c
 have d:(im ops)[i]? =some (im ops)[i]:=by simp_all
 refine⟨(im ops)[i],Cj b,qz _ _ d,?_,d⟩;have e:=(zi _ _ _ _ _ d).2
 simp_all
theorem nV{x:It} (h:x∈gj (im ops)):x∈im ops/\cls x.o=2:=by
 grind[gj,uW]
theorem PL:(gj (im ops)).Pairwise λa b=>a.i<b.i:=by
 unfold gj;refine List.Pairwise.filter _ ?_;rw[Xp];intro i j hi c d;have e:=qz (ops:=ops) i _ (iH hi);have f:=qz (ops:=ops) j _ (iH c);omega
theorem FP{q a:Nat} {x y:It} (hq:(gj (im ops))[q]? =some x) (b:(gj (im ops))[a]? =some y) (h:x.i=y.i):q=a:=by
 grind[PL,Xp,jw,Nat.lt_trichotomy]
structure Inv (n:Nat) (ops:Array Oper) (t0:Tm) (h0:Hp) (Δ0:Env) (w0:World) (T:Tc) (b:Array Bool) (j:Nat) (Δ:Env) (t:Tm) (a:Act) (w:World):Prop where
 size:b.size=ops.size
 closed:wM (im ops) (λi=>b.getD i false)
 Rs:j<=(gj (im ops)).length
 ahead:∀q x,(gj (im ops))[q]? =some x->(b.getD x.i false=true↔q<j)
 tmps:TR Δ n t a
 mL:∀d,gI t d=nN T.val (λi=>b.getD i false) d (im ops) (gI t0 d)
 world:WR Δ (T.H j) w
 frame:FR Δ0 Δ w0 w
 none:∀l,Δ0 l = .none->l<h0.next->Δ l = .none
 defers:t.ds=t0.ds
 W6:∀x∈im ops,cls x.o=1->T.on x.i=true->b.getD x.i false=false->T.ep x.i<=j->Δ (T.pl x.i) = .none
theorem OB(hc:pH call) (hp:ou (im ops)=true) (aZ:(im ops).all (zR (im ops))=true) (a0:(im ops).all xJ=true)
  (j0:Nat) (bu:∀(fuel:Nat) (c:Array Bool) (Y:Act) (w:World) (j:Nat) (Δ:Env) (t:Tm) (a:It),j0<=j->c.toList.count false<=fuel+1->Inv n ops t0 h0 Δ0 w0 T c j Δ t Y w->a∈im ops->cls a.o=2->c.getD a.i false=false->
   (∀x∈im ops,a.b.testBit x.i=true->c.getD x.i false=true)->(gj (im ops))[j]?≠some a->wpOp P0 ops Q a.i (wpAny P0 .any ops Q fuel (c.setIfInBounds a.i true)) Y w)
  {l:List It} (hl:∀a∈l,a∈im ops) (M:qq n ops.toList (im ops) (gj (im ops)) call t0 h0 l 0 0 h0 [] r T T)
  (a1:r.1.ds=t0.ds) (hQ:∀E a' w',tT Δ0 h0 w0 n r.1 r.2 E a' w'->Q .normal a' w') :
  ∀(fuel:Nat) (c:Array Bool) (a:Act) (w:World) (j:Nat) (Δ:Env) (t:Tm),j0<=j->c.toList.count false<=fuel->Inv n ops t0 h0 Δ0 w0 T c j Δ t a w->wpAny P0 .any ops Q fuel c a w:=by
 have Z:∀(c:Array Bool),c.size=ops.size->Region.ready .any ops c=[]->∀x∈im ops,c.getD x.i false=true:=by
  intro c bv hr;have a2:∀i,i<ops.size->c.getD i false=true:=by
   intro i
   induction i using Nat.strongRecOn with
   | _ i ih=>
     intro hi
     cases V:c.getD i false with
     |true=>rfl
     | false=>
       exfalso;have ho:ops[i]? =some ops[i]:=Array.getElem?_eq_getElem hi;obtain⟨x,z,a3,a4,_⟩:=Iw ho;have ay:i∈Region.ready .any ops c:=by
         rw[mem_ready];refine⟨?_,ops[i],ho,λe he a5=>?_⟩
         ·simp_all
         ·have p:=K7.1 a0 x z
          unfold xJ at p;rw[a4,a3]at p;have v:=K7.1 p e (by simpa using he);rw[<-BW,a5]at v;simp only[Ug,Bool.false_or,Lb]at v;exact ih e.on v (by omega)
       rw[hr]at ay;cases ay
  intro x z;exact a2 x.i (QX.1 (HI z)).1
 have O:∀(c:Array Bool) (a:Act) (w:World) (j:Nat) (Δ:Env) (t:Tm),Inv n ops t0 h0 Δ0 w0 T c j Δ t a w->(∀x∈im ops,c.getD x.i false=true)->Q .normal a w:=by
  intro c a w j Δ t k P;have hj:j=(gj (im ops)).length:=by
   rcases Ji j (gj (im ops)).length with h|h
   ·have hg:=iH h;have:=(k.ahead j _ hg).1 (P _ (nV (Cj h)).1);omega
   ·have:=k.Rs;omega
  subst hj;refine hQ Δ a w ⟨⟨k.tmps.size,λi=>?_,by rw[a1,<-k.defers];exact k.tmps.ds⟩,by rw[M.last];exact k.world,k.frame,⟨?_,k.none⟩⟩
  ·have p:=k.tmps.rel i;rw[k.mL i,nD (D':=λ_=>true) (Jc:=T.val) (λx z _=>P x z) (λ_ _ _ _=>rfl),<-M.mL i]at p;exact p
  ·rw[M.last];exact GP M.more.1 (AK M.chain _ _ (by rw[EM]) (jn _))
 intro fuel
 induction fuel with
 | zero =>
   intro c a w j Δ t _ aM k;have P:∀x∈im ops,c.getD x.i false=true:=by
     intro x z;have aa:x.i<c.size:=by rw[k.size];exact(QX.1 (HI z)).1
     cases V:c.getD x.i false with
     |true=>rfl
     | false=>
       exfalso;have:false∈c.toList:=by
         have:c[x.i]=false:=by simpa[aa]using V
         rw[<-this];simp
       have:=List.count_pos_iff.2 this;omega
   refine⟨?_,O _ _ _ _ _ _ k P⟩;rw[List.eq_nil_iff_forall_not_mem]
   grind[mem_ready,Iw,QX]
 | succ fuel ih=>
   intro c Y w j Δ t a6 aM k;refine⟨λhr=>O _ _ _ _ _ _ k (Z _ k.size hr),λi hi=>?_⟩;rw[mem_ready]at hi;obtain⟨tk,o,ho,ao⟩:=hi;obtain⟨a,ha,aA,F,aB⟩:=Iw ho;have aa:i<c.size:=by rw[k.size];exact(QX.1 ho).1
   have R:c.getD a.i false=false:=by rw[aA];simp[aa]at tk⊢;exact tk
   have S:∀x∈im ops,a.b.testBit x.i=true->c.getD x.i false=true:=by
     intro x z V;obtain⟨e,he,a7,p⟩:=Is aB V;rw[F]at he;have I:=ao e (by simpa using he) (by rw[BW];exact a7);rcases p with p|⟨y,B,aC⟩
     ·rw[p];exact I
     ·have bw:=qz _ _ B
      exact k.closed y (mM.2 ⟨_,B⟩) (by simp_all) x z aC
   by_cases hez:cls a.o=2/\(gj (im ops))[j]?≠some a
   ·grind
   obtain ⟨D,u⟩:∃D,Hi n ops.toList (im ops) (gj (im ops)) call t0 h0 T D a:=by
     rcases M.done a ha with p|p
     ·simp at p
     ·obtain⟨b,V,aD⟩:=Sy.1 p
      rw[sr ha (hl b V) aD.symm];exact M.item b V
   have J:∀y∈im ops,y∈l:=by
     intro y B;rcases M.done y B with p|p
     ·simp at p
     ·grind[sr]
   have a8:=J a ha;have aq:∀d,d∈mY a.o->gI t d=gI (T.tt a.i) d:=λd hd=>by
     rw[k.mL d,u.mL d];exact Dj qz hp ha k.closed u.closed S u.ft R u.fresh hd _ _
   have K:∀x∈a.o.op.operands.toList,Alike t (T.tt a.i) x:=Dr λd hd=>aq d (by simp[mY,hd]);have ar:mX n ops.toList a.o t=some (T.on a.i):=by
     rw[<-u.mX];refine Mx λjg wg oj d hg hj hd=>?_;have C:=K7.1 aZ a ha;unfold zR at C;rw[hg]at C;simp only at C
     cases hjt:(im ops)[jg]? with
     |none=>rw[hjt]at C;cases C
     | some g=>
       rw[hjt]at C;simp only at C;have a9:g.o=oj:=by
         have:=(zi _ _ _ _ _ hjt).2;rw[hj]at this;cases this;rfl
       rw[a9,hd]at C;simp only[qU]at C;obtain⟨az,aE⟩:=C;have aN:=qz _ _ hjt;have ba:g∈im ops:=mM.2 ⟨_,hjt⟩;rw[k.mL d,u.mL d];refine nD (λx z bb=>?_) (λ_ _ _ _=>rfl) _;have p:=K7.1 aE x z;rw[bb]at p;have v:x.i=jg:=by simpa using p
       have U:x=g:=sr z ba (by omega);subst U;rw[S x z (by rw[aN];exact az),u.ft x z (by rw[aN];exact az)]
   have ab:Region.wanted o (yielded ops Y.tmps)=T.on a.i:=by rw[<-F];exact KK k.tmps ar
   obtain ⟨d,hd⟩:=u.dst;have ac:∀i',(c.setIfInBounds i true).getD i' false=(c.getD i' false ||decide (a.i=i')):=λi'=>by
     by_cases e:i=i'
     ·subst e;simp[aa,aA]
     simp_all
   have aF:(c.setIfInBounds i true).toList.count false<=fuel:=by
     have p:c.toList[i]? =some false:=by
       rw[SI];have:c.getD a.i false=false:=R;rw[aA]at this;simpa[aa]using this
     have:=count_set c.toList i p;rw[Array.toList_setIfInBounds];omega
   have W:wM (im ops) (λi'=>(c.setIfInBounds i true).getD i' false):=by
     intro x z ae y B aC;simp only[ac,IY,IM]at ae⊢;rcases ae with ae|ae
     ·exact .inl (k.closed x z ae y B aC)
     ·grind[sr]
   have ag:∀d',gI (d.f t (T.val a.i)) d' = nN T.val (λi'=>(c.setIfInBounds i true).getD i' false) d' (im ops) (gI t0 d'):=λd'=>by
     rw[Ef hd,B4 qz hp ha k.closed R ac (val:=T.val) (Jc:=T.val) (λ_ _=>rfl) d' (gI t0 d'),k.mL d']
   have next:∀(j':Nat) (E:Env) (x:Value) (w':World),fq E (T.val a.i) x->WR E (T.H j') w'->FR Δ E w w'->j'<=(gj (im ops)).length->
       (∀q y,(gj (im ops))[q]? =some y->((c.setIfInBounds i true).getD y.i false=true↔q<j'))->
       (∀y∈im ops,cls y.o=1->T.on y.i=true->(c.setIfInBounds i true).getD y.i false=false->T.ep y.i<=j'->E (T.pl y.i)=none)->
       (∀l,Δ0 l=none->l<h0.next->E l=none)->wpAny P0 .any ops Q fuel (c.setIfInBounds i true) (Y.put o.dst x) w':=by
     intro j' E x w' bc bd aO be ah au aw;have bf:j<=j':=by
       rcases Ji j' j with h|h
       ·exfalso
        have aP:j' < (gj (im ops)).length:=by have:=k.Rs;omega
        have hg:=iH aP;have p:=(k.ahead j' _ hg).2 h
        grind
       ·exact h
     refine ih _ _ _ j' E (d.f t (T.val a.i)) (GP a6 bf) aF ⟨by simp[k.size],W,be,ah,?_,ag,bd,k.frame.trans aO,aw,by rw[tK hd];exact k.defers,au⟩;have:=Fx (k.tmps.mono aO.le) hd bc;rw[F]at this;exact this
   have aQ:h0.next<=(T.H j).next:=GP M.more.1 (AK M.chain j j (by omega) k.Rs);have ai:j<=late (gj (im ops)) a:=by
     rcases Ji (late (gj (im ops)) a) j with h|h
     ·exfalso
      obtain⟨x,z,bg⟩:=Ft (gj (im ops)) a (by have:=k.Rs;omega);have p:=(k.ahead _ x z).2 h;have:=k.closed x (nV (mM.2 ⟨_,z⟩)).1 p a ha bg
      grind
     ·exact h
   have still:cls a.o≠2->∀q y,(gj (im ops))[q]? =some y->((c.setIfInBounds i true).getD y.i false=true↔q<j):=by
     intro pe q y hq;rw[ac,<-k.ahead q y hq];have B:=nV (mM.2 ⟨_,hq⟩);have:¬a.i=y.i:=by grind[sr]
     simp[this]
   have aG:cls a.o≠2->T.ep a.i<=j:=by
     intro pe;have p:=u.Xj pe
     cases he:T.ep a.i with
     |zero=>omega
     | succ e=>
       rw[he]at p;simp only[GS]at p
       grind[nV,mM]
   have s:∀y∈im ops,cls y.o=1->T.on y.i=true->(c.setIfInBounds i true).getD y.i false=false->T.ep y.i<=j->Δ (T.pl y.i)=none/\y.i≠a.i:=by
     intro y B p v U h4;rw[ac]at U;simp only[WG,decide_eq_false_iff_not]at U;exact⟨k.W6 y B p v U.1 h4,λe=>U.2 e.symm⟩
   have L:∀y∈im ops,cls y.o=1->T.on y.i=true->T.ep y.i<=j->T.pl y.i<(T.H j).next:=by
     intro y B p v U;rcases M.done y B with h4|h4
     ·simp at h4
     ·obtain⟨b,V,aD⟩:=Sy.1 h4
      have:=sr B (hl b V) aD.symm;subst this;obtain⟨_,aj⟩:=M.item y V;exact((aj.alloc p v).2.1 j U k.Rs).1
   have aH:cls a.o=2->Uf (gj (im ops)) a (T.ep a.i)=true->T.ep a.i=j/\(gj (im ops))[j]? =some a:=by
     intro _ hw;unfold Uf at hw;split at hw
     ·rename_i x z
      have bi:=sr (nV (mM.2 ⟨_,z⟩)).1 ha (uW hw);subst bi;have aR:(gj (im ops))[j]? =some x:=by
        apply Classical.byContradiction;intro pe;exact hez ⟨(nV (mM.2 ⟨_,z⟩)).2,pe⟩
      exact⟨FP z aR rfl,aR⟩
     ·cases hw
   have ak:cls a.o=2->Uf (gj (im ops)) a (T.ep a.i)=true->∀q y,(gj (im ops))[q]? =some y->((c.setIfInBounds i true).getD y.i false=true↔q<j+1):=by
     intro m hw q y hq;obtain⟨_,z⟩:=aH m hw;rw[ac];simp only[IY,IM,k.ahead q y hq];constructor
     ·rintro(h|h)
      ·omega
      ·have:=FP z hq h;omega
     ·grind
   have al:cls a.o=2->Uf (gj (im ops)) a (T.ep a.i)=true->∀(E:Env) (w':World),WR E (T.G j) w'->Gr (T.H j) Δ (T.G j) E->
       ∀y∈im ops,cls y.o=1->T.on y.i=true->(c.setIfInBounds i true).getD y.i false=false->T.ep y.i<=j+1->E (T.pl y.i)=none:=by
     intro m hw E w' bj bm y B p v U h4;rcases Ji j (T.ep y.i)with h5|h5
     ·obtain⟨_,aj⟩:=M.item y (J y B)
      have aS:=(aj.alloc p v).2.2.1 j h5
      cases hd':E (T.pl y.i)with
      |none=>rfl
      |some e=>have:=bj.fresh _ _ hd';omega
     ·exact bm.none _ (s y B p v U h5).1 (L y B p v h5)
   unfold wpOp;simp only[ho];rw[ab]
   cases I:T.on a.i with
   | false=>
     simp only[LK,if_false];have hv:=u.off I;rcases Fa a.o with m|m|m
     ·exact next j Δ undef w (by rw[hv];exact .undef Δ) k.world (.refl _ _) k.Rs (still (by rw[m];decide)) (by grind) k.none
     ·exact next j Δ undef w (by rw[hv];exact .undef Δ) k.world (.refl _ _) k.Rs (still (by rw[m];decide)) (by grind) k.none
     ·obtain⟨A,_,aT⟩:=u.write m
      obtain⟨aI,aJ⟩:=aH m A;have hG:=aT I;rw[aI]at hG;have am:j<(gj (im ops)).length:=(jw.1 aJ).1;obtain⟨bn,aK⟩:=M.chain j (GM _) am;have aU:WR Δ (T.G j) w:=by rw[hG];exact k.world
      exact next (j+1) Δ undef w (by rw[hv];exact .undef Δ) (aU.Kh aK) (.refl _ _) am (ak m A) (al m A Δ w aU (by rw[hG];exact .refl _ _)) k.none
   | true=>
     simp only[if_true];left;rcases Fa a.o with m|m|m
     ·have aV:=u.pure m I j (aG (by rw[m];decide)) k.Rs ai
      rw[<-CW (h:=T.H j) K]at aV;have ax:(za a.o).f call t (T.H j)=some (T.val a.i,T.H j):=by
        unfold za;rw[m];simp only[eE];exact⟨_,aV,rfl⟩
      rw[<-F];refine Jp hc k.world k.tmps ax λE x w' X=>?_;rw[F]
      exact next j E x w' X.val X.world X.frame k.Rs (still (by rw[m];decide)) (λy B p v U h4=>X.grow.none _ (s y B p v U h4).1 (L y B p v h4))
        (λl' p v=>X.grow.none _ (k.none l' p v) (zr v aQ))
     ·obtain ⟨⟨mk,aW,aX⟩,bo,_,aS⟩:=u.alloc m I
      obtain⟨bp,bq⟩:=bo j (aG (by rw[m];decide)) k.Rs;have aY:=bq ai;rw[<-Gx K]at aW;obtain⟨mo,mv,an,aL⟩:=Lo k.tmps aW;have N:=k.W6 a ha m I R (aG (by rw[m];decide));obtain⟨dd,V,br,bt⟩:=aL (T.pl a.i) w.heap.size N;rw[<-F];unfold Oper.wp;rw[an w,Oper.upon_value,F];refine next j (Δ.set (T.pl a.i) dd) _ _ (by rw[aX];exact bt) (k.world.lay N bp aY V br) (FR.lay N V) k.Rs (still (by rw[m];decide)) (λy B p v U h4=>?_) (λl' p v=>?_)
      ·obtain⟨e1,e2⟩:=s y B p v U h4
       have:=M.Om y (J y B) a a8 p m v I e2;unfold Env.set;rw[if_neg this];exact e1
      ·have:l'≠T.pl a.i:=by omega
       unfold Env.set;rw[if_neg this];exact k.none l' p v
     ·obtain ⟨A,an,_⟩:=u.write m
      obtain⟨aI,aJ⟩:=aH m A;have ax:=an I;rw[aI,<-HH (h:=T.H j) K]at ax;have am:j<(gj (im ops)).length:=(jw.1 aJ).1;obtain⟨bn,aK⟩:=M.chain j (GM _) am;rw[<-F];refine Jp hc k.world k.tmps ax λE x w' X=>?_;rw[F]
      exact next (j+1) E x w' X.val (X.world.Kh aK) X.frame am (ak m A) (al m A E w' X.world X.grow)
        (λl' p v=>X.grow.none _ (k.none l' p v) (zr v aQ))
theorem PS(l:BK (gj (im ops))=true) (fuel:Nat) (c:Array Bool) (d:Act) (w:World) (j:Nat) (Δ:Env) (t:Tm) (a:It) (_:0<=j) (_:c.toList.count false<=fuel+1) (m:Inv n ops t0 h0 Δ0 w0 T c j Δ t d w) (y:a∈im ops)
  (s:cls a.o=2) (p:c.getD a.i false=false) (k:∀x∈im ops,a.b.testBit x.i=true->c.getD x.i false=true) (pe:(gj (im ops))[j]?≠some a) :
  wpOp P0 ops Q a.i (wpAny P0 .any ops Q fuel (c.setIfInBounds a.i true)) d w:=by
 exfalso;have f:a∈gj (im ops):=by unfold gj;rw[TD];exact by simp_all
 obtain ⟨q,hq⟩:=mM.1 f;have u:¬q<j:=λh=>by
  have:=(m.ahead _ a hq).2 h
  simp_all
 have v:q≠j:=by grind
 obtain⟨e,rfl⟩:∃e,q=e+1:=⟨q-1,by omega⟩
 have g:e<(gj (im ops)).length:=by have:=(jw.1 hq).1;omega
 have r:=iH g;have z:=Gb l e _ a r hq;have:=(m.ahead e _ r).1 (by grind[nV,Cj]);omega
theorem jR{x:Operand} (a:K6 x=true) (t:Tm) (h h':Hp):(pI x).f t h=(pI x).f t h':=by
 cases x <;> first|rfl|grind[K6]
theorem Me{o:Oper} (a:Bt o=true) (t:Tm) (h h':Hp):(il o).f t h=(il o).f t h':=by
 unfold Bt at a;unfold il;split at a
 ·grind[jR]
 ·grind[wb,jR]
 ·grind[nE,jR]
 ·rename_i b;rw[b];rw[qU]at a
  grind[nY,jR]
 ·cases a
theorem nH{o:Oper} {d:Nat} (h:storeAt o=some d):∃ty x,o.op = .store ty (.tmp d) x/\o.guard=none/\o.dst=none/\K6 x=true:=by
 grind[storeAt]
theorem xG{o:Oper} {d:Nat} (h:storeAt o=some d):cls o=2:=by
 grind[nH,cls]
theorem Fh{o:Oper} {d:Nat} (k:storeAt o=some d) {call:Call} {t:Tm} {h h':Hp} {v:V} (m:(za o).f call t h=some (v,h')) :
  v = .undef/\∃l off e sz cs mG,gI t d = .ptr l off/\h.get l=some (.cells e sz true false cs)/\h' = h.put l (.cells e sz true false mG)/\
   ∀b:Hp,b.get l=h.get l->(za o).f call t b=some (.undef,b.put l (.cells e sz true false mG)):=by
 obtain⟨ty,x,j,_,_,E⟩:=nH k;have s:=xG k
 have c:∀h,(za o).f call t h=oB ((iS o).f t h) λr=>match r with
   | .val v h=>some (v,h)
   | .call f args=>call f args h:=by
  intro h;unfold za;split
  ·omega
  ·omega
  ·rfl
 rw[c,eE]at m;obtain⟨r,b,u⟩:=m
 have p:∀h,(iS o).f t h=match uR ty with
   |some n=>oB ((pI (.tmp d)).f t h) λa=>oB ((pI x).f t h) λv=>pN a λl off=>bB (Nat.beq v.cells.length n) (oB (AN h l off v.cells) λh=>some (.val .undef h))
   |none=>none:=by
  intro h;unfold iS;rw[j];simp only;generalize uR ty=z;cases z <;> rfl
 rw[p]at b
 cases hn:uR ty with
 |none=>simp_all
 | some n=>
   rw[hn]at b;simp only[eE,ny,fX]at b;obtain⟨a,w,vv,y,l,off,rfl,hlen,F,g,A⟩:=b;cases A;cases u;have i:gI t d = .ptr l off:=Option.some.inj (show some (gI t d)=some (V.ptr l off) from w);unfold AN at g;simp only[jX,fX,eE,Vm]at g;obtain⟨e,sz,live,ro,cs,B,rfl,rfl,q,mG,C,yQ⟩:=g;cases yQ;refine⟨rfl,l,off,e,sz,cs,mG,i,B,rfl,λb D=>?_⟩;rw[c,eE];refine⟨.val .undef (b.put l (.cells e sz true false mG)),?_,rfl⟩;rw[p,hn];simp only[eE,ny,fX];refine⟨.ptr l off,by rw[<-i];rfl,vv,by grind[jR],l,off,rfl,hlen,b.put l (.cells e sz true false mG),?_,rfl⟩;unfold AN;simp only[jX,fX,eE,Vm]
   grind
theorem Hr:∀{l:List It} {a b:It},G7 l=some (a,b)->∃p,l.length=p+2/\l[p]? =some a/\l[p+1]? =some b
 |[],_,_,h=>by cases h
 |[_],_,_,h=>by cases h
 |[x,y],a,b,h=>by cases h;simp_all
 | _::y::z::l,a,b,h=>by
   obtain⟨p,c,d,e⟩:=Hr (l:=y::z::l) h;exact⟨p+1,by simp_all,by grind,by simp_all⟩
theorem CO:∀{l:List It},Dc l=true->∀(q:Nat) (a b:It),l[q]? =some a->l[q+1]? =some b->q+2<l.length->b.b.testBit a.i=true/\(q+3=l.length->∀c,l[q+2]? =some c->c.b.testBit a.i=true)
 |[],_,q,a,b,h,_,_=>by simp_all
 |[x],_,q,a,b,_,h,_=>by simp_all
 |[x,y],_,q,a,b,_,_,h=>by grind
 | x::y::z::l,hc,0,a,b,d,e,_=>by
   simp at d e;subst d;subst e;simp only[Dc,qU]at hc
   grind
 | x::y::z::l,hc,q+1,a,b,d,e,f=>by
   simp only[Dc,qU]at hc;have:=CO (l:=y::z::l) hc.2 q a b (by simp_all) (by simp_all) (by simp_all)
   simp_all
theorem L8{jv ws:List It} {a b:It} {da db:Nat} (h:EB jv ws=some (a,b,da,db)) :
  G7 ws=some (a,b)/\storeAt a.o=some da/\storeAt b.o=some db/\fixed jv a=true/\fixed jv b=true/\KC jv a b=true/\Dc ws=true:=by
 unfold EB at h
 grind
structure U8 (n:Nat) (ops:Array Oper) (t0:Tm) (h0:Hp) (Δ0:Env) (w0:World) (T:Tc) (c:Nat) (e:Hp) (b:Array Bool) (Δ:Env) (t:Tm) (a:Act) (w:World):Prop where
 size:b.size=ops.size
 closed:wM (im ops) (λi=>b.getD i false)
 ahead:∀x∈gj (im ops),(b.getD x.i false=true↔x.i≠c)
 tmps:TR Δ n t a
 mL:∀d,gI t d=nN T.val (λi=>b.getD i false) d (im ops) (gI t0 d)
 world:WR Δ e w
 frame:FR Δ0 Δ w0 w
 none:∀l,Δ0 l = .none->l<h0.next->Δ l = .none
 defers:t.ds=t0.ds
section
variable{a b:It}{da db p:Nat}
structure XR (ops:Array Oper) (T:Tc) (a b:It) (da db p:Nat) (r:Tm×Hp):Prop where
 len:(gj (im ops)).length=p+2
 ga:(gj (im ops))[p]? =some a
 gb:(gj (im ops))[p+1]? =some b
 sa:storeAt a.o=some da
 sb:storeAt b.o=some db
 fa:fixed (im ops) a=true
 fb:fixed (im ops) b=true
 op:KC (im ops) a b=true
 ch:Dc (gj (im ops))=true
 apart:RY (gI r.1 da) (gI r.1 db)=true
theorem JY(h:KC (im ops) a b=true) {x:It} (c:x∈im ops) (d:x.i≠a.i) (e:x.i≠b.i) (f:¬(a.b.testBit x.i=true/\b.b.testBit x.i=true)) :
  cls x.o=0/\Bt x.o=true/\x.o.guard=none/\x.b.testBit a.i=false/\x.b.testBit b.i=false:=by
 have:=K7.1 h x c;simp only[IY,qU,Vm,Option.isNone_iff_eq_none]at this
 grind[absurd,uW]
theorem FU{l:List It} (g:qq n ops.toList (im ops) (gj (im ops)) call t0 h0 l 0 0 h0 [] r T T) {x:It} (h:x∈im ops) (c:fixed (im ops) x=true) {D:Nat->Bool} (j:∀y∈im ops,x.b.testBit y.i=true->D y.i=true)
  {d:Nat} (hd:d∈yu x.o.op.operands.toList) (a:V):nN T.val D d (im ops) a=nN T.val (λ_=>true) d (im ops) a:=by
 refine nD (λy e f=>?_) (by simp_all) a;have k:=K7.1 (K7.1 c d hd) y e
 grind[writes]
theorem xF{o:Oper} {d:Nat} (h:storeAt o=some d):d∈yu o.op.operands.toList:=by
 grind[nH,Op.operands,yu]
end
section
variable{a b:It}{da db p:Nat}{l:List It}
theorem Qn{H a e:Hp} {la lb:Nat} {i ob:O} (b:la<H.next) (f:lb<H.next) (pe:la≠lb) (j:zl (H.put la i) a) (k:zl (a.put lb ob) e):zl ((H.put lb ob).put la i) e:=by
 have c:H.next<=a.next:=j.1;have g:a.next<=e.next:=k.1;refine⟨GP c g,λx l=>?_⟩;have d:x<H.next:=l;rw[k.2 x (zr d c)];rw[jd (h:=H.put lb ob) _ _ b,jd (h:=a) _ _ (by omega),jd (h:=H) _ _ f];rw[j.2 x d,jd (h:=H) _ _ b]
 grind
theorem U5(hc:pH call) (hp:ou (im ops)=true) (aL:(im ops).all (zR (im ops))=true) (au:(im ops).all xJ=true) (hl:∀a∈l,a∈im ops)
    (Y:qq n ops.toList (im ops) (gj (im ops)) call t0 h0 l 0 0 h0 [] r T T) (s:XR ops T a b da db p r)
    (aM:r.1.ds=t0.ds) (hQ:∀Δ' a' w',tT Δ0 h0 w0 n r.1 r.2 Δ' a' w'->Q .normal a' w') {la lb:Nat} {ob:O} (a7:la<(T.H p).next) (aN:lb<(T.H p).next) (pe:la≠lb)
    (aO:∀t:Tm,gI t da=gI r.1 da->∃oa,(T.G p)=(T.H p).put la oa/\∀k:Hp,k.get la=(T.H p).get la->(∀x∈a.o.op.operands.toList,Alike t (T.tt a.i) x)->(za a.o).f call t k=some (.undef,k.put la oa))
    (a8:T.G (p+1)=(T.H (p+1)).put lb ob) :
    ∀(fuel:Nat) (c:Array Bool) (m:Act) (w:World) (Δ:Env) (t:Tm),c.toList.count false<=fuel->U8 n ops t0 h0 Δ0 w0 T a.i ((T.H p).put lb ob) c Δ t m w->wpAny P0 .any ops Q fuel c m w:=by
  have ha:a∈im ops:=(nV (mM.2 ⟨_,s.ga⟩)).1;have hb:b∈im ops:=(nV (mM.2 ⟨_,s.gb⟩)).1;have aP:=xG s.sa;have aQ:=xG s.sb;have aR:a.i≠b.i:=λe=>by
    have:=FP s.ga s.gb e;omega
  have aw:a∈gj (im ops):=mM.2 ⟨_,s.ga⟩;have ax:b∈gj (im ops):=mM.2 ⟨_,s.gb⟩;have L:∀{c Δ t m w},U8 n ops t0 h0 Δ0 w0 T a.i ((T.H p).put lb ob) c Δ t m w->c.getD a.i false=false:=λg=>by
    cases h:Array.getD _ a.i false with
    |false=>rfl
    |true=>exact absurd rfl ((g.ahead a aw).1 h)
  have ah:∀{c Δ t m w},U8 n ops t0 h0 Δ0 w0 T a.i ((T.H p).put lb ob) c Δ t m w->c.getD b.i false=true:=λg=>(g.ahead b ax).2 (λe=>aR e.symm);intro fuel
  induction fuel with
  | zero=>
    intro c m w Δ t ay g;exfalso;have k:=L g;have M:a.i<c.size:=by rw[g.size];exact(QX.1 (HI ha)).1
    have:false∈c.toList:=by
      have:c[a.i]=false:=by simpa[M]using k
      rw[<-this];simp
    have:=List.count_pos_iff.2 this
    omega
  | succ fuel ih=>
    intro c m w Δ t ay g;refine⟨λhr=>?_,λi hi=>?_⟩
    ·exfalso
     have az : ∀i,i<ops.size->c.getD i false=true:=by
       intro i
       induction i using Nat.strongRecOn with
       | _ i aS=>
         intro hi
         cases Z:c.getD i false with
         |true=>rfl
         | false=>
           exfalso;have ho:ops[i]? =some ops[i]:=Array.getElem?_eq_getElem hi;obtain⟨x,hx,aT,aU,_⟩:=Iw ho;have I:i∈Region.ready .any ops c:=by
             rw[mem_ready];refine⟨?_,ops[i],ho,λe he aA=>?_⟩
             ·have:i<c.size:=by rw[g.size];exact hi
              simp[this]at Z⊢;exact Z
             ·have k:=K7.1 au x hx
              unfold xJ at k;rw[aU,aT]at k;have h2:=K7.1 k e (by simpa using he);rw[<-BW,aA]at h2;simp only[Ug,Bool.false_or,Lb]at h2;exact aS e.on h2 (by omega)
           rw[hr]at I;cases I
     have:=az a.i (QX.1 (HI ha)).1;rw[L g]at this;cases this
    rw[mem_ready]at hi;obtain⟨tk,o,ho,aa⟩:=hi;obtain⟨y,X,ai,A,aj⟩:=Iw ho;have M:i<c.size:=by rw[g.size];exact(QX.1 ho).1
    have N:c.getD y.i false=false:=by rw[ai];simp[M]at tk⊢;exact tk
    have J:∀x∈im ops,y.b.testBit x.i=true->c.getD x.i false=true:=by
      intro x hx Z;obtain⟨e,he,aV,k⟩:=Is aj Z;rw[A]at he;have P:=aa e (by simpa using he) (by rw[BW];exact aV);rcases k with k|⟨z,B,F⟩
      ·rw[k];exact P
      ·have a9:=qz _ _ B
       exact g.closed z (mM.2 ⟨_,B⟩) (by simp_all) x hx F
    have ab:∀y∈im ops,y∈l:=by
      intro y X;rcases Y.done y X with k|k
      ·simp at k
      ·grind[sr]
    obtain ⟨D,C⟩:=Y.item y (ab y X);have ac:∀d,d∈mY y.o->gI t d=gI (T.tt y.i) d:=λd hd=>by
      rw[g.mL d,C.mL d];exact Dj qz hp X g.closed C.closed J C.ft N C.fresh hd _ _
    have K:∀x∈y.o.op.operands.toList,Alike t (T.tt y.i) x:=Dr λd hd=>ac d (by simp[mY,hd]);obtain⟨d,hd⟩:=C.dst;have R:∀i',(c.setIfInBounds i true).getD i' false=(c.getD i' false ||decide (y.i=i')):=λi'=>by
      by_cases e:i=i'
      ·subst e;simp[M,ai]
      simp_all
    have S:(c.setIfInBounds i true).toList.count false<=fuel:=by
      have k:c.toList[i]? =some false:=by
        rw[SI];have:c.getD y.i false=false:=N;rw[ai]at this;simpa[M]using this
      have:=count_set c.toList i k;rw[Array.toList_setIfInBounds];omega
    have u:wM (im ops) (λi'=>(c.setIfInBounds i true).getD i' false):=by
      intro x hx U z B F;simp only[R,IY,IM]at U⊢;rcases U with U|U
      ·exact .inl (g.closed x hx U z B F)
      ·grind[sr]
    have E:∀d',gI (d.f t (T.val y.i)) d' = nN T.val (λi'=>(c.setIfInBounds i true).getD i' false) d' (im ops) (gI t0 d'):=λd'=>by
      rw[Ef hd,B4 qz hp X g.closed N R (val:=T.val) (Jc:=T.val) (λ_ _=>rfl) d' (gI t0 d'),g.mL d']
    have aB:h0.next<=(T.H p).next:=GP Y.more.1 (AK Y.chain p p (by omega) (by have:=s.len;omega));have ak:y.i≠a.i->cls y.o=0/\Bt y.o=true/\y.o.guard=none/\y.b.testBit a.i=false/\y.b.testBit b.i=false:=λag=>by
      have aW:y.i≠b.i:=by grind
      refine JY s.op X ag aW λ⟨_,aC⟩=>?_;have:=g.closed b hb (ah g) y X aC
      simp_all
    by_cases hya:y.i=a.i
    ·
      have aD:=sr X ha hya;subst aD;have P:Region.wanted o (yielded ops m.tmps)=true:=by
        obtain⟨_,_,_,hg,_⟩:=nH s.sa;unfold Region.wanted;rw[<-A,hg]
      unfold wpOp;simp only[ho];rw[P];simp only[if_true];left;obtain⟨oa,ba,aE⟩:=aO t (by
        rw[g.mL da,Y.mL da];exact FU Y X s.fa J (xF s.sa) _)
      have al:=aE ((T.H p).put lb ob) (by rw[jd _ _ aN,if_neg (λe=>pe e.symm)]) K;rw[<-A];refine Jp hc g.world g.tmps al λΔ' x w' V=>?_;rw[A];have hlen:=s.len;have a5:=Y.chain p (GM _) (by omega);have aX:=Y.chain (p+1) (GM _) (by omega);have hm:zl (((T.H p).put lb ob).put la oa) (T.H (p+2)):=by grind[Qn]
      have am:∀q z,(gj (im ops))[q]? =some z->((c.setIfInBounds i true).getD z.i false=true↔q<p+2):=λq z B=>by
        have aY:=(jw.1 B).1;constructor
        ·intro _;omega
        ·intro _
         rw[R];by_cases e:z.i=y.i
         ·simp[e]
         ·rw[(g.ahead z (mM.2 ⟨_,B⟩)).2 e];rfl
      have a6:T.val y.i = .undef\/True:= .inr trivial;have aF:(d.f t (T.val y.i)).ds=t0.ds:=by rw[tK hd];exact g.defers
      have ae:y.o.dst=none:=by obtain⟨_,_,_,_,h5,_⟩:=nH s.sa;exact h5
      have aZ:TR Δ' n (d.f t (T.val y.i)) (m.put o.dst x):=by
        have k:=Fx (g.tmps.mono V.frame.le) hd (v:= .undef) V.val;rw[A]at k;have e:d.f t (T.val y.i)=d.f t .undef:=by
          unfold qV at hd;rw[ae]at hd;cases hd;rfl
        rw[e];exact k
      refine OB hc hp aL au (T:=T) (p+2) (λfuel c m w j Δ t a' hj _ a0 a1 aG an _ ag=>?_) hl Y aM hQ fuel _ _ _ (p+2) Δ' (d.f t (T.val y.i)) (jn _) S
        ⟨by simp[g.size],u,by omega,am,aZ,E,V.world.Kh hm,g.frame.trans V.frame,λl' k h2=>V.grow.none _ (g.none l' k h2) (zr h2 aB),aF,λz B aH bb ao _=>?_⟩
      ·exfalso
       have I:a'∈gj (im ops):=by unfold gj;rw[TD];exact⟨a1,by rw[aG];rfl⟩
       obtain⟨q,hq⟩:=mM.1 I;have k:=(jw.1 hq).1;have:=(a0.ahead _ a' hq).2 (by omega);rw[an]at this;cases this
      ·exfalso
       rw[R]at ao;simp only[WG,decide_eq_false_iff_not]at ao;have F:z.i≠b.i:=by grind
       have:=JY s.op B (λe=>ao.2 e.symm) F (by grind);rw[this.1]at aH;cases aH
    ·
      obtain⟨aq,zg,aI,bc,aC⟩:=ak hya;have a2:mX n ops.toList y.o (T.tt y.i)=some true:=by unfold mX jB;rw[aI]
      have P:T.on y.i=true:=by
        have:=C.mX;rw[a2]at this;exact(Option.some.inj this).symm
      have W:Region.wanted o (yielded ops m.tmps)=true:=by
        unfold Region.wanted;rw[<-A,aI]
      have hlen :=s.len;have a3:T.ep y.i<=p:=by
        have k:=C.Xj (by rw[aq];decide)
        cases he:T.ep y.i with
        |zero=>omega
        | succ e=>
          rw[he]at k;simp only[GS]at k;split at k
          ·rename_i z B
           have aY:=(jw.1 B).1;rcases Ji e p with h|h
           ·omega
           ·exfalso
            have:e=p\/e=p+1:=by omega
            rcases this with e1|e1
            ·subst e1
             rw[s.ga]at B;simp_all
            ·subst e1
             rw[s.gb]at B;simp_all
          ·cases k
      have ar:p<=late (gj (im ops)) y:=by
        rcases Ji (late (gj (im ops)) y) p with h|h
        ·exfalso
         obtain ⟨z,B,F⟩:=Ft (gj (im ops)) y (by omega);have aJ:z∈gj (im ops):=mM.2 ⟨_,B⟩;have a4:z.i≠a.i:=λe=>by
           have:=FP B s.ga e;omega
         have:=g.closed z (nV aJ).1 ((g.ahead z aJ).2 a4) y X F
         simp_all
        ·exact h
      have aK:=C.pure aq P p a3 (by omega) ar;rw[<-CW (h:=T.H p) K,Me zg t _ ((T.H p).put lb ob)]at aK;have al:(za y.o).f call t ((T.H p).put lb ob)=some (T.val y.i,(T.H p).put lb ob):=by
        unfold za;rw[aq];simp only[eE];exact⟨_,aK,rfl⟩
      unfold wpOp;simp only[ho];rw[W];simp only[if_true];left;rw[<-A];refine Jp hc g.world g.tmps al λΔ' x w' V=>?_;rw[A];refine ih _ _ _ Δ' (d.f t (T.val y.i)) S ⟨by simp[g.size],u,λz B=>?_,?_,E,V.world,g.frame.trans V.frame,λl' k h2=>V.grow.none _ (g.none l' k h2) (zr h2 aB),by rw[tK hd];exact g.defers⟩
      ·rw[R]
       have:¬y.i=z.i:=by grind[sr,nV]
       simp only[this,decide_false,Bool.or_false];exact g.ahead z B
      ·have k:=Fx (g.tmps.mono V.frame.le) hd V.val
       rw[A]at k;exact k
end
section
variable{a b:It}{da db p:Nat}{l:List It}
theorem Sd(hc:pH call) (hp:ou (im ops)=true) (aB:(im ops).all (zR (im ops))=true) (aC:(im ops).all xJ=true) (hl:∀a∈l,a∈im ops)
  (I:qq n ops.toList (im ops) (gj (im ops)) call t0 h0 l 0 0 h0 [] r T T) (g:XR ops T a b da db p r)
  (aD:r.1.ds=t0.ds) (hQ:∀Δ' a' w',tT Δ0 h0 w0 n r.1 r.2 Δ' a' w'->Q .normal a' w')
  (fuel:Nat) (c:Array Bool) (J:Act) (w:World) (j:Nat) (Δ:Env) (t:Tm) (y:It) (_:0<=j) (aU:c.toList.count false<=fuel+1) (s:Inv n ops t0 h0 Δ0 w0 T c j Δ t J w) (hy:y∈im ops)
  (aj:cls y.o=2) (K:c.getD y.i false=false) (m:∀x∈im ops,y.b.testBit x.i=true->c.getD x.i false=true) (pe:(gj (im ops))[j]?≠some y) :
  wpOp P0 ops Q y.i (wpAny P0 .any ops Q fuel (c.setIfInBounds y.i true)) J w:=by
 have hlen:=g.len;have ha:a∈im ops:=(nV (mM.2 ⟨_,g.ga⟩)).1;have hb:b∈im ops:=(nV (mM.2 ⟨_,g.gb⟩)).1;have ak:y∈gj (im ops):=by unfold gj;rw[TD];exact by simp_all
 obtain ⟨q,hq⟩:=mM.1 ak;have a0:=(jw.1 hq).1;have a1:¬q<j:=λh=>by
  have:=(s.ahead _ y hq).2 h
  simp_all
 have a2:q≠j:=by grind
 have aE:q=p+1/\j=p:=by
  obtain⟨e,rfl⟩:∃e,q=e+1:=⟨q-1,by omega⟩
  have V:e<(gj (im ops)).length:=by omega
  have hg:=iH V;rcases Ji e p with h|h
  ·exfalso;have ab:=(CO g.ch e _ y hg hq (by omega)).1;have:=(s.ahead e _ hg).1 (m _ (nV (Cj V)).1 ab);omega
  ·have he:e=p:=by omega
   subst he;refine⟨rfl,?_⟩;rcases Ji j e with h2|h2
   ·exfalso;obtain⟨f,rfl⟩:∃f,e=f+1:=⟨e-1,by omega⟩
    have al:f<(gj (im ops)).length:=by omega
    have am:=iH al;have ab:=(CO g.ch f _ a am g.ga (by omega)).2 (by omega) y hq;have:=(s.ahead f _ am).1 (m _ (nV (Cj al)).1 ab);omega
   ·omega
 obtain⟨rfl,rfl⟩:=aE;have aF:y=b:=by rw[g.gb]at hq;cases hq;rfl
 subst aF;have E:∀y∈im ops,y∈l:=by
  intro y hy;rcases I.done y hy with C|C
  ·simp at C
  ·grind[sr]
 obtain ⟨D,u⟩:=I.item y (E y hy);obtain⟨Da,A⟩:=I.item a (E a ha);have L:=xG g.sa;have Xj:∀{x:It} {D:Nat->Bool} {k:Nat},Hi n ops.toList (im ops) (gj (im ops)) call t0 h0 T D x->cls x.o=2->(gj (im ops))[k]? =some x->T.ep x.i=k:=λ{x D k} W aG a3=>by
  have C:=(W.write aG).1
  grind[Uf,FP,uW]
 have an:=Xj u aj g.gb;have ao:=Xj A L g.ga;have X:∀{x:It} {D:Nat->Bool} {d:Nat},Hi n ops.toList (im ops) (gj (im ops)) call t0 h0 T D x->storeAt x.o=some d->T.on x.i=true:=λ{x D d} W hs=>by
  obtain⟨_,_,_,hg,_⟩:=nH hs;have:=W.mX
  grind[mX,jB,Option.some.inj]
 have P:∀d,d∈mY y.o->gI t d=gI (T.tt y.i) d:=λd hd=>by
  rw[s.mL d,u.mL d];exact Dj qz hp hy s.closed u.closed m u.ft K u.fresh hd _ _
 have R:∀x∈y.o.op.operands.toList,Alike t (T.tt y.i) x:=by grind[Dr,mY]
 have Y:=(A.write L).2.1 (X A g.sa);rw[ao]at Y;obtain⟨_,la,aV,ea,aH,a4,aq,aI,aJ,ac,aK⟩:=Fh g.sa Y;have F:=(u.write aj).2.1 (X u g.sb);rw[an]at F;obtain⟨_,lb,aW,eb,a5,a6,aX,a7,a8,a9,_⟩:=Fh g.sb F;rw[<-HH (h:=T.H (j+1)) R]at F;obtain⟨_,B,aL,aM,ar,aY,ae,Z,aZ,au,ag⟩:=Fh g.sb F;have e1:=P db (by simp[mY,xF g.sb]);have aN:gI (T.tt a.i) da=gI r.1 da:=by
  rw[A.mL da,I.mL da];exact FU I ha g.fa A.ft (xF g.sa) _
 have aO:gI t db=gI r.1 db:=by
  rw[s.mL db,I.mL db];exact FU I hy g.fb m (xF g.sb) _
 have aw:la≠B:=λe=>by
  have:=g.apart;rw[<-aN,<-aO,aI,Z,e]at this;have h2:(!(Nat.beq B B))=true:=this
  simp_all
 have ax:la<(T.H j).next:=Hp.wj aJ;have ay:B<(T.H j).next:=by
  have C:=s.tmps.rel db;rw[Z]at C
  cases W:J.tmps.getD db undef with
  | pointer p=>
    rw[W]at C
    cases C with
    |ptr _ _ d hd=>exact s.world.fresh _ _ hd
  |_=>rw[W]at C;cases C
 have aP:=I.chain j (GM _) (by omega);have az:(T.H j).get B=(T.H (j+1)).get B:=by
  rw[aP.2.2 B (by rw[ac];exact ay),ac,jd _ _ ax,if_neg aw]
 have aQ:=ag (T.H j) az;have aa:=HI hy;have M:Region.wanted y.o (yielded ops J.tmps)=true:=by
  obtain⟨_,_,_,hg,_⟩:=nH g.sb;unfold Region.wanted;rw[hg]
 obtain⟨d,hd⟩:=u.dst;have aA:y.i<c.size:=by rw[s.size];exact(QX.1 aa).1
 have ah:∀S,(c.setIfInBounds y.i true).getD S false=(c.getD S false ||decide (y.i=S)):=λS=>by
  by_cases e:y.i=S
  ·rw[<-e];simp[aA]
  simp_all
 have ai:(c.setIfInBounds y.i true).toList.count false<=fuel:=by
  have C:c.toList[y.i]? =some false:=by
   rw[SI];simpa[aA]using K
  have:=count_set c.toList y.i C;rw[Array.toList_setIfInBounds];omega
 have G:wM (im ops) (λS=>(c.setIfInBounds y.i true).getD S false):=by
  intro x W N z hz aR;simp only[ah,IY,IM]at N⊢;rcases N with N|N
  ·exact .inl (s.closed x W N z hz aR)
  ·grind[sr]
 have O:∀d',gI (d.f t (T.val y.i)) d' = nN T.val (λS=>(c.setIfInBounds y.i true).getD S false) d' (im ops) (gI t0 d'):=λd'=>by
  rw[Ef hd,B4 qz hp hy s.closed K ah (val:=T.val) (Jc:=T.val) (λ_ _=>rfl) d' (gI t0 d'),s.mL d']
 have aS:h0.next<=(T.H j).next:=GP I.more.1 (AK I.chain j j (by omega) (by omega));unfold wpOp;simp only[aa];rw[M];simp only[if_true];left;refine Jp hc s.world s.tmps aQ λΔ' x w' hA=>?_;have U:y.o.dst=none:=by obtain⟨_,_,_,_,h5,_⟩:=nH g.sb;exact h5
 have aT:TR Δ' n (d.f t (T.val y.i)) (J.put y.o.dst x):=by
  have C:=Fx (s.tmps.mono hA.frame.le) hd (v:= .undef) hA.val;have e:d.f t (T.val y.i)=d.f t .undef:=by
   unfold qV at hd;rw[U]at hd;cases hd;rfl
  rw[e];exact C
 refine U5 hc hp aB aC hl I g aD hQ (la:=la) (lb:=B) (ob:= .cells aM ar true false ae) ax ay aw (λt' ba=>⟨.cells ea aH true false aq,ac,λC bb bc=>?_⟩) au fuel _ _ _ Δ' (d.f t (T.val y.i)) ai
  ⟨by simp[s.size],G,λz hz=>?_,aT,O,hA.world,s.frame.trans hA.frame,λl' C h2=>hA.grow.none _ (s.none l' C h2) (zr h2 aS),by rw[tK hd];exact s.defers⟩
 ·grind[HH]
 ·obtain ⟨k,hk⟩:=mM.1 hz;have bd:=(jw.1 hk).1;rw[ah];simp only[IY,IM,s.ahead k z hk];constructor
  ·rintro(h|h)
   ·intro e;have:=FP hk g.ga e;omega
   grind
  ·intro be;rcases Ji k j with h|h
   ·exact .inl h
   ·right;have bf:k≠j:=λe=>by
     subst e;rw[g.ga]at hk;simp_all
    have:k=j+1:=by omega
    simp_all
end
end
