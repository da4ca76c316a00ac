/- Parts. -/
import Derived.Test.YtpfjdlicdljhaaaDoorM04
set_option maxHeartbeats 4000000
namespace Go.Proofs.YtpfjdlicdljhaaaDoor.Hx
theorem Ep:∀(ws:List It) (a:It),late ws a<ws.length->∃w,ws[late ws a]? =some w/\w.b.testBit a.i=true
 |[],a,h=>by simp_all
 | w ::ws,a,h=>by
   unfold late at h⊢;split
   ·simp_all
   ·rename_i c
    simp only[c,LU]at h;obtain⟨w',d,e⟩:=Ep ws a (by omega)
    simp_all
theorem EV:∀{l:List It},AY l=true->∀(q:Nat) (a b:It),l[q]? =some a->l[q+1]? =some b->b.b.testBit a.i=true
 |[],_,q,a,b,h,_=>by simp_all
 |[x],_,q,a,b,_,h=>by simp_all
 | x::y::l,hc,0,a,b,c,d=>by
   simp_all[AY,rm]
 | x::y::l,hc,q+1,a,b,c,d=>by
   simp only[AY,rm]at hc;exact EV (l:=y::l) hc.2 q a b (by simp_all) (by simp_all)
theorem count_set:∀(l:List Bool) (i:Nat),l[i]? =some false->(l.set i true).count false<l.count false
 |[],i,h=>by simp_all
 |b::l,0,h=>by simp_all
 | b::l,i+1,h=>by
   grind
theorem Ko{n:Nat} {all:List Oper} {o:Oper} {t t':Tm} (h:∀j w a d,o.guard=some (j,w)->all[j]? =some a->a.dst=some d->gg t d=gg t' d):lg n all o t=lg n all o t':=by
 unfold lg hO
 grind
theorem JZ{Δ:Env} {n:Nat} {t:Tm} {a:Act} (c:TR Δ n t a) {ops:Array Oper} {o:Oper} {b:Bool} (h:lg n ops.toList o t=some b):Region.wanted o (yielded ops a.tmps)=b:=by
 grind[lg,IG,Ij]
section
variable{n:Nat}{ops:Array Oper}{call:Call}{t0:Tm}{h0:Hp}{Δ0:Env}{w0:World}{T:Tc}{r:Tm×Hp}{Q:Exit->Act->World->Prop}
abbrev fj(ops:Array Oper):List It:=items ops.toList 0 []
theorem pd(k:Nat) (x:It) (h:(fj ops)[k]? =some x):x.i=k:=by
 have:=(xP _ _ _ _ _ h).1;omega
theorem qS{x y:It} (a:x∈fj ops) (b:y∈fj ops) (h:x.i=y.i):x=y:=by
 grind[kh,pd]
theorem GH{x:It} (a:x∈fj ops):ops[x.i]? =some x.o:=by
 obtain⟨i,hi⟩:=kh.1 a;have b:=pd i x hi;have c:=(xP _ _ _ _ _ hi).2
 simp_all
theorem G4{i:Nat} {o:Oper} (h:ops[i]? =some o):∃a,a∈fj ops/\a.i=i/\a.o=o/\(fj ops)[i]? =some a:=by
 have c:i<ops.size:=by grind
 have b:i<(fj ops).length:=by rw[Dg];simpa using c
 have d:(fj ops)[i]? =some (fj ops)[i]:=by simp_all
 refine⟨(fj ops)[i],ym b,pd _ _ d,?_,d⟩;have e:=(xP _ _ _ _ _ d).2
 simp_all
theorem lT{x:It} (h:x∈ej (fj ops)):x∈fj ops/\cls x.o=2:=by
 grind[ej,wC]
theorem Pv:(ej (fj ops)).Pairwise λa b=>a.i<b.i:=by
 unfold ej;refine List.Pairwise.filter _ ?_;rw[V7];intro i j hi c d;have e:=pd (ops:=ops) i _ (fg hi);have f:=pd (ops:=ops) j _ (fg c);omega
theorem DI{q a:Nat} {x y:It} (hq:(ej (fj ops))[q]? =some x) (b:(ej (fj ops))[a]? =some y) (h:x.i=y.i):q=a:=by
 grind[Pv,V7,gL,YI]
structure Inv (n:Nat) (ops:Array Oper) (t0:Tm) (h0:Hp) (Δ0:Env) (w0:World) (T:Tc) (b:Array Bool) (j:Nat) (Δ:Env) (t:Tm) (a:Act) (w:World):Prop where
 size:b.size=ops.size
 closed:uU (fj ops) (λi=>b.getD i false)
 Q7:j<=(ej (fj ops)).length
 ahead:∀q x,(ej (fj ops))[q]? =some x->(b.getD x.i false=true↔q<j)
 tmps:TR Δ n t a
 kQ:∀d,gg t d=lS T.val (λi=>b.getD i false) d (fj ops) (gg t0 d)
 world:WR Δ (T.H j) w
 frame:FR Δ0 Δ w0 w
 none:∀l,Δ0 l = .none->l<h0.next->Δ l = .none
 defers:t.ds=t0.ds
 WT:∀x∈fj ops,cls x.o=1->T.on x.i=true->b.getD x.i false=false->T.ep x.i<=j->Δ (T.pl x.i) = .none
theorem Og(hc:qZ call) (hp:mr (fj ops)=true) (a4:(fj ops).all (zd (fj ops))=true) (a5:(fj ops).all wK=true)
  (j0:Nat) (bA:∀(fuel:Nat) (c:Array Bool) (Y:Act) (w:World) (j:Nat) (Δ:Env) (t:Tm) (a:It),j0<=j->c.toList.count false<=fuel+1->Inv n ops t0 h0 Δ0 w0 T c j Δ t Y w->a∈fj ops->cls a.o=2->c.getD a.i false=false->
   (∀x∈fj ops,a.b.testBit x.i=true->c.getD x.i false=true)->(ej (fj ops))[j]?≠some a->wpOp P0 ops Q a.i (wpAny P0 .any ops Q fuel (c.setIfInBounds a.i true)) Y w)
  {l:List It} (hl:∀a∈l,a∈fj ops) (M:oR n ops.toList (fj ops) (ej (fj ops)) call t0 h0 l 0 0 h0 [] r T T)
  (a6:r.1.ds=t0.ds) (hQ:∀E a' w',xi Δ0 h0 w0 n r.1 r.2 E a' w'->Q .normal a' w') :
  ∀(fuel:Nat) (c:Array Bool) (a:Act) (w:World) (j:Nat) (Δ:Env) (t:Tm),j0<=j->c.toList.count false<=fuel->Inv n ops t0 h0 Δ0 w0 T c j Δ t a w->wpAny P0 .any ops Q fuel c a w:=by
 have Z:∀(c:Array Bool),c.size=ops.size->Region.ready .any ops c=[]->∀x∈fj ops,c.getD x.i false=true:=by
  intro c bC hr;have a7:∀i,i<ops.size->c.getD i false=true:=by
   intro i
   induction i using Nat.strongRecOn with
   | _ i ih=>
     intro hi
     cases V:c.getD i false with
     |true=>rfl
     | false=>
       exfalso;have ho:ops[i]? =some ops[i]:=Array.getElem?_eq_getElem hi;obtain⟨x,z,a8,a9,_⟩:=G4 ho;have ay:i∈Region.ready .any ops c:=by
         rw[mem_ready];refine⟨?_,ops[i],ho,λe he ba=>?_⟩
         ·simp_all
         ·have p:=Kd.1 a5 x z
          unfold wK at p;rw[a9,a8]at p;have v:=Kd.1 p e (by simpa using he);rw[<-AM,ba]at v;simp only[Vq,Bool.false_or,I3]at v;exact ih e.on v (by omega)
       rw[hr]at ay;cases ay
  intro x z;exact a7 x.i (Sa.1 (GH z)).1
 have O:∀(c:Array Bool) (a:Act) (w:World) (j:Nat) (Δ:Env) (t:Tm),Inv n ops t0 h0 Δ0 w0 T c j Δ t a w->(∀x∈fj ops,c.getD x.i false=true)->Q .normal a w:=by
  intro c a w j Δ t k P;have hj:j=(ej (fj ops)).length:=by
   rcases Mo j (ej (fj ops)).length with h|h
   ·have hg:=fg h;have:=(k.ahead j _ hg).1 (P _ (lT (ym h)).1);omega
   ·have:=k.Q7;omega
  subst hj;refine hQ Δ a w ⟨⟨k.tmps.size,λi=>?_,by rw[a6,<-k.defers];exact k.tmps.ds⟩,by rw[M.last];exact k.world,k.frame,⟨?_,k.none⟩⟩
  ·have p:=k.tmps.rel i;rw[k.kQ i,lQ (D':=λ_=>true) (Hv:=T.val) (λx z _=>P x z) (λ_ _ _ _=>rfl),<-M.kQ i]at p;exact p
  ·rw[M.last];exact EY M.more.1 (zW M.chain _ _ (by rw[yD]) (iC _))
 intro fuel
 induction fuel with
 | zero =>
   intro c a w j Δ t _ aN k;have P:∀x∈fj ops,c.getD x.i false=true:=by
     intro x z;have aa:x.i<c.size:=by rw[k.size];exact(Sa.1 (GH z)).1
     cases V:c.getD x.i false with
     |true=>rfl
     | false=>
       exfalso;have:false∈c.toList:=by
         have:c[x.i]=false:=by simpa[aa]using V
         rw[<-this];simp
       have:=List.count_pos_iff.2 this;omega
   refine⟨?_,O _ _ _ _ _ _ k P⟩;rw[List.eq_nil_iff_forall_not_mem]
   grind[mem_ready,G4,Sa]
 | succ fuel ih=>
   intro c Y w j Δ t bb aN k;refine⟨λhr=>O _ _ _ _ _ _ k (Z _ k.size hr),λi hi=>?_⟩;rw[mem_ready]at hi;obtain⟨lB,o,ho,ao⟩:=hi;obtain⟨a,ha,aB,F,aC⟩:=G4 ho;have aa:i<c.size:=by rw[k.size];exact(Sa.1 ho).1
   have R:c.getD a.i false=false:=by rw[aB];simp[aa]at lB⊢;exact lB
   have S:∀x∈fj ops,a.b.testBit x.i=true->c.getD x.i false=true:=by
     intro x z V;obtain⟨e,he,bc,p⟩:=G6 aC V;rw[F]at he;have I:=ao e (by simpa using he) (by rw[AM];exact bc);rcases p with p|⟨y,B,aD⟩
     ·rw[p];exact I
     ·have bD:=pd _ _ B
      exact k.closed y (kh.2 ⟨_,B⟩) (by simp_all) x z aD
   by_cases hez:cls a.o=2/\(ej (fj ops))[j]?≠some a
   ·grind
   obtain ⟨D,u⟩:∃D,GB n ops.toList (fj ops) (ej (fj ops)) call t0 h0 T D a:=by
     rcases M.done a ha with p|p
     ·simp at p
     ·obtain⟨b,V,aE⟩:=E7.1 p
      rw[qS ha (hl b V) aE.symm];exact M.item b V
   have J:∀y∈fj ops,y∈l:=by
     intro y B;rcases M.done y B with p|p
     ·simp at p
     ·grind[qS]
   have bd:=J a ha;have ap:∀d,d∈lC a.o->gg t d=gg (T.tt a.i) d:=λd hd=>by
     rw[k.kQ d,u.kQ d];exact B1 pd hp ha k.closed u.closed S u.c8 R u.fresh hd _ _
   have K:∀x∈a.o.op.operands.toList,Alike t (T.tt a.i) x:=BT λd hd=>ap d (by simp[lC,hd]);have aq:lg n ops.toList a.o t=some (T.on a.i):=by
     rw[<-u.lg];refine Ko λjg wg oj d hg hj hd=>?_;have C:=Kd.1 a4 a ha;unfold zd at C;rw[hg]at C;simp only at C
     cases hjt:(fj ops)[jg]? with
     |none=>rw[hjt]at C;cases C
     | some g=>
       rw[hjt]at C;simp only at C;have be:g.o=oj:=by
         have:=(xP _ _ _ _ _ hjt).2;rw[hj]at this;cases this;rfl
       rw[be,hd]at C;simp only[rm]at C;obtain⟨aA,aF⟩:=C;have aO:=pd _ _ hjt;have bf:g∈fj ops:=kh.2 ⟨_,hjt⟩;rw[k.kQ d,u.kQ d];refine lQ (λx z bg=>?_) (λ_ _ _ _=>rfl) _;have p:=Kd.1 aF x z;rw[bg]at p;have v:x.i=jg:=by simpa using p
       have U:x=g:=qS z bf (by omega);subst U;rw[S x z (by rw[aO];exact aA),u.c8 x z (by rw[aO];exact aA)]
   have ab:Region.wanted o (yielded ops Y.tmps)=T.on a.i:=by rw[<-F];exact JZ k.tmps aq
   obtain ⟨d,hd⟩:=u.dst;have ac:∀i',(c.setIfInBounds i true).getD i' false=(c.getD i' false ||decide (a.i=i')):=λi'=>by
     by_cases e:i=i'
     ·subst e;simp[aa,aB]
     simp_all
   have aG:(c.setIfInBounds i true).toList.count false<=fuel:=by
     have p:c.toList[i]? =some false:=by
       rw[SW];have:c.getD a.i false=false:=R;rw[aB]at this;simpa[aa]using this
     have:=count_set c.toList i p;rw[Array.toList_setIfInBounds];omega
   have W:uU (fj ops) (λi'=>(c.setIfInBounds i true).getD i' false):=by
     intro x z ae y B aD;simp only[ac,Ie,zv]at ae⊢;rcases ae with ae|ae
     ·exact .inl (k.closed x z ae y B aD)
     ·grind[qS]
   have ag:∀d',gg (d.f t (T.val a.i)) d' = lS T.val (λi'=>(c.setIfInBounds i true).getD i' false) d' (fj ops) (gg t0 d'):=λd'=>by
     rw[CU hd,AQ pd hp ha k.closed R ac (val:=T.val) (Hv:=T.val) (λ_ _=>rfl) d' (gg t0 d'),k.kQ d']
   have next:∀(j':Nat) (E:Env) (x:Value) (w':World),dj E (T.val a.i) x->WR E (T.H j') w'->FR Δ E w w'->j'<=(ej (fj ops)).length->
       (∀q y,(ej (fj ops))[q]? =some y->((c.setIfInBounds i true).getD y.i false=true↔q<j'))->
       (∀y∈fj ops,cls y.o=1->T.on y.i=true->(c.setIfInBounds i true).getD y.i false=false->T.ep y.i<=j'->E (T.pl y.i)=none)->
       (∀l,Δ0 l=none->l<h0.next->E l=none)->wpAny P0 .any ops Q fuel (c.setIfInBounds i true) (Y.put o.dst x) w':=by
     intro j' E x w' bh bi aP bj ah ar au;have bm:j<=j':=by
       rcases Mo j' j with h|h
       ·exfalso
        have aQ:j' < (ej (fj ops)).length:=by have:=k.Q7;omega
        have hg:=fg aQ;have p:=(k.ahead j' _ hg).2 h
        grind
       ·exact h
     refine ih _ _ _ j' E (d.f t (T.val a.i)) (EY bb bm) aG ⟨by simp[k.size],W,bj,ah,?_,ag,bi,k.frame.trans aP,au,by rw[sx hd];exact k.defers,ar⟩;have:=DZ (k.tmps.mono aP.le) hd bh;rw[F]at this;exact this
   have aR:h0.next<=(T.H j).next:=EY M.more.1 (zW M.chain j j (by omega) k.Q7);have ai:j<=late (ej (fj ops)) a:=by
     rcases Mo (late (ej (fj ops)) a) j with h|h
     ·exfalso
      obtain⟨x,z,bn⟩:=Ep (ej (fj ops)) a (by have:=k.Q7;omega);have p:=(k.ahead _ x z).2 h;have:=k.closed x (lT (kh.2 ⟨_,z⟩)).1 p a ha bn
      grind
     ·exact h
   have still:cls a.o≠2->∀q y,(ej (fj ops))[q]? =some y->((c.setIfInBounds i true).getD y.i false=true↔q<j):=by
     intro aw q y hq;rw[ac,<-k.ahead q y hq];have B:=lT (kh.2 ⟨_,hq⟩);have:¬a.i=y.i:=by grind[qS]
     simp[this]
   have aH:cls a.o≠2->T.ep a.i<=j:=by
     intro aw;have p:=u.Wx aw
     cases he:T.ep a.i with
     |zero=>omega
     | succ e=>
       rw[he]at p;simp only[Ff]at p
       grind[lT,kh]
   have s:∀y∈fj ops,cls y.o=1->T.on y.i=true->(c.setIfInBounds i true).getD y.i false=false->T.ep y.i<=j->Δ (T.pl y.i)=none/\y.i≠a.i:=by
     intro y B p v U h4;rw[ac]at U;simp only[Bool.or_eq_false_iff,decide_eq_false_iff_not]at U;exact⟨k.WT y B p v U.1 h4,λe=>U.2 e.symm⟩
   have L:∀y∈fj ops,cls y.o=1->T.on y.i=true->T.ep y.i<=j->T.pl y.i<(T.H j).next:=by
     intro y B p v U;rcases M.done y B with h4|h4
     ·simp at h4
     ·obtain⟨b,V,aE⟩:=E7.1 h4
      have:=qS B (hl b V) aE.symm;subst this;obtain⟨_,aj⟩:=M.item y V;exact((aj.alloc p v).2.1 j U k.Q7).1
   have aI:cls a.o=2->Uh (ej (fj ops)) a (T.ep a.i)=true->T.ep a.i=j/\(ej (fj ops))[j]? =some a:=by
     intro _ hw;unfold Uh at hw;split at hw
     ·rename_i x z
      have bo:=qS (lT (kh.2 ⟨_,z⟩)).1 ha (wC hw);subst bo;have aS:(ej (fj ops))[j]? =some x:=by
        apply Classical.byContradiction;intro aw;exact hez ⟨(lT (kh.2 ⟨_,z⟩)).2,aw⟩
      exact⟨DI z aS rfl,aS⟩
     ·cases hw
   have ak:cls a.o=2->Uh (ej (fj ops)) a (T.ep a.i)=true->∀q y,(ej (fj ops))[q]? =some y->((c.setIfInBounds i true).getD y.i false=true↔q<j+1):=by
     intro m hw q y hq;obtain⟨_,z⟩:=aI m hw;rw[ac];simp only[Ie,zv,k.ahead q y hq];constructor
     ·rintro(h|h)
      ·omega
      ·have:=DI z hq h;omega
     ·grind
   have al:cls a.o=2->Uh (ej (fj ops)) a (T.ep a.i)=true->∀(E:Env) (w':World),WR E (T.G j) w'->Gr (T.H j) Δ (T.G j) E->
       ∀y∈fj ops,cls y.o=1->T.on y.i=true->(c.setIfInBounds i true).getD y.i false=false->T.ep y.i<=j+1->E (T.pl y.i)=none:=by
     intro m hw E w' bp br y B p v U h4;rcases Mo j (T.ep y.i)with h5|h5
     ·obtain⟨_,aj⟩:=M.item y (J y B)
      have aT:=(aj.alloc p v).2.2.1 j h5
      cases hd':E (T.pl y.i)with
      |none=>rfl
      |some e=>have:=bp.fresh _ _ hd';omega
     ·exact br.none _ (s y B p v U h5).1 (L y B p v h5)
   unfold wpOp;simp only[ho];rw[ab]
   cases I:T.on a.i with
   | false=>
     simp only[Kg,if_false];have hv:=u.off I;rcases Er a.o with m|m|m
     ·exact next j Δ undef w (by rw[hv];exact .undef Δ) k.world (.refl _ _) k.Q7 (still (by rw[m];decide)) (by grind) k.none
     ·exact next j Δ undef w (by rw[hv];exact .undef Δ) k.world (.refl _ _) k.Q7 (still (by rw[m];decide)) (by grind) k.none
     ·obtain⟨A,_,aU⟩:=u.write m
      obtain⟨aJ,aK⟩:=aI m A;have hG:=aU I;rw[aJ]at hG;have am:j<(ej (fj ops)).length:=(gL.1 aK).1;obtain⟨bt,aL⟩:=M.chain j (J9 _) am;have aV:WR Δ (T.G j) w:=by rw[hG];exact k.world
      exact next (j+1) Δ undef w (by rw[hv];exact .undef Δ) (aV.Jk aL) (.refl _ _) am (ak m A) (al m A Δ w aV (by rw[hG];exact .refl _ _)) k.none
   | true=>
     simp only[if_true];left;rcases Er a.o with m|m|m
     ·have aW:=u.pure m I j (aH (by rw[m];decide)) k.Q7 ai
      rw[<-Cs (h:=T.H j) K]at aW;have ax:(Ct a.o).f call t (T.H j)=some (T.val a.i,T.H j):=by
        unfold Ct;rw[m];simp only[c7];exact⟨_,aW,rfl⟩
      rw[<-F];refine Ii hc k.world k.tmps ax λE x w' X=>?_;rw[F]
      exact next j E x w' X.val X.world X.frame k.Q7 (still (by rw[m];decide)) (λy B p v U h4=>X.grow.none _ (s y B p v U h4).1 (L y B p v h4))
        (λl' p v=>X.grow.none _ (k.none l' p v) (EP v aR))
     ·obtain ⟨⟨mk,aX,aY⟩,bu,_,aT⟩:=u.alloc m I
      obtain⟨bv,bw⟩:=bu j (aH (by rw[m];decide)) k.Q7;have aZ:=bw ai;rw[<-EK K]at aX;obtain⟨mo,mv,an,aM⟩:=KW k.tmps aX;have N:=k.WT a ha m I R (aH (by rw[m];decide));obtain⟨dd,V,bx,bz⟩:=aM (T.pl a.i) w.heap.size N;rw[<-F];unfold Oper.wp;rw[an w,Oper.upon_value,F];refine next j (Δ.set (T.pl a.i) dd) _ _ (by rw[aY];exact bz) (k.world.lay N bv aZ V bx) (FR.lay N V) k.Q7 (still (by rw[m];decide)) (λy B p v U h4=>?_) (λl' p v=>?_)
      ·obtain⟨e1,e2⟩:=s y B p v U h4
       have:=M.NB y (J y B) a bd p m v I e2;unfold Env.set;rw[if_neg this];exact e1
      ·have:l'≠T.pl a.i:=by omega
       unfold Env.set;rw[if_neg this];exact k.none l' p v
     ·obtain ⟨A,an,_⟩:=u.write m
      obtain⟨aJ,aK⟩:=aI m A;have ax:=an I;rw[aJ,<-GL (h:=T.H j) K]at ax;have am:j<(ej (fj ops)).length:=(gL.1 aK).1;obtain⟨bt,aL⟩:=M.chain j (J9 _) am;rw[<-F];refine Ii hc k.world k.tmps ax λE x w' X=>?_;rw[F]
      exact next (j+1) E x w' X.val (X.world.Jk aL) X.frame am (ak m A) (al m A E w' X.world X.grow)
        (λl' p v=>X.grow.none _ (k.none l' p v) (EP v aR))
theorem PH(l:AY (ej (fj ops))=true) (fuel:Nat) (c:Array Bool) (d:Act) (w:World) (j:Nat) (Δ:Env) (t:Tm) (a:It) (_:0<=j) (_:c.toList.count false<=fuel+1) (m:Inv n ops t0 h0 Δ0 w0 T c j Δ t d w) (z:a∈fj ops)
  (s:cls a.o=2) (p:c.getD a.i false=false) (k:∀x∈fj ops,a.b.testBit x.i=true->c.getD x.i false=true) (u:(ej (fj ops))[j]?≠some a) :
  wpOp P0 ops Q a.i (wpAny P0 .any ops Q fuel (c.setIfInBounds a.i true)) d w:=by
 exfalso;have f:a∈ej (fj ops):=by unfold ej;rw[DG];exact by simp_all
 obtain ⟨q,hq⟩:=kh.1 f;have v:¬q<j:=λh=>by
  have:=(m.ahead _ a hq).2 h
  simp_all
 have y:q≠j:=by grind
 obtain⟨e,rfl⟩:∃e,q=e+1:=⟨q-1,by omega⟩
 have g:e<(ej (fj ops)).length:=by have:=(gL.1 hq).1;omega
 have r:=fg g;have A:=EV l e _ a r hq;have:=(m.ahead e _ r).1 (by grind[lT,ym]);omega
theorem hJ{x:Operand} (a:Jl x=true) (t:Tm) (h h':Hp):(nK x).f t h=(nK x).f t h':=by
 cases x <;> first|rfl|grind[Jl]
theorem Lp{o:Oper} (a:Ah o=true) (t:Tm) (h h':Hp):(fh o).f t h=(fh o).f t h':=by
 unfold Ah at a;unfold fh;split at a
 ·grind[hJ]
 ·grind[uk,hJ]
 ·grind[ma,hJ]
 ·rename_i b;rw[b];rw[rm]at a
  grind[l0,hJ]
 ·cases a
theorem lW{o:Oper} {d:Nat} (h:storeAt o=some d):∃ty x,o.op = .store ty (.tmp d) x/\o.guard=none/\o.dst=none/\Jl x=true:=by
 grind[storeAt]
theorem wJ{o:Oper} {d:Nat} (h:storeAt o=some d):cls o=2:=by
 grind[lW,cls]
theorem DX{o:Oper} {d:Nat} (hs:storeAt o=some d) {call:Call} {t:Tm} {h h':Hp} {v:V} (m:(Ct o).f call t h=some (v,h')) :
  v = .undef/\∃l off e sz cs b,gg t d = .ptr l off/\h.get l=some (.cells e sz true false cs)/\h' = h.put l (.cells e sz true false b)/\
   ∀c:Hp,c.get l=h.get l->(Ct o).f call t c=some (.undef,c.put l (.cells e sz true false b)):=by
 obtain⟨ty,x,k,_,_,E⟩:=lW hs;have s:=wJ hs
 have g:∀h,(Ct o).f call t h=oB ((gK o).f t h) λr=>match r with
   | .val v h=>some (v,h)
   | .call f args=>call f args h:=by
  intro h;unfold Ct;split
  ·omega
  ·omega
  ·rfl
 rw[g,c7]at m;obtain⟨r,c,u⟩:=m
 have p:∀h,(gK o).f t h=match tu ty with
   |some n=>oB ((nK (.tmp d)).f t h) λa=>oB ((nK x).f t h) λv=>tQ a λl off=>bB (Nat.beq v.cells.length n) (oB (zB h l off v.cells) λh=>some (.val .undef h))
   |none=>none:=by
  intro h;unfold gK;rw[k];simp only;generalize tu ty=z;cases z <;> rfl
 rw[p]at c
 cases hn:tu ty with
 |none=>simp_all
 | some n=>
   rw[hn]at c;simp only[c7,qV,ek]at c;obtain⟨a,w,vv,y,l,off,rfl,hlen,F,i,A⟩:=c;cases A;cases u;have j:gg t d = .ptr l off:=Option.some.inj (show some (gg t d)=some (V.ptr l off) from w);unfold zB at i;simp only[hY,ek,c7,Vo]at i;obtain⟨e,sz,live,ro,cs,B,rfl,rfl,q,b,C,Hu⟩:=i;cases Hu;refine⟨rfl,l,off,e,sz,cs,b,j,B,rfl,λc D=>?_⟩;rw[g,c7];refine⟨.val .undef (c.put l (.cells e sz true false b)),?_,rfl⟩;rw[p,hn];simp only[c7,qV,ek];refine⟨.ptr l off,by rw[<-j];rfl,vv,by grind[hJ],l,off,rfl,hlen,c.put l (.cells e sz true false b),?_,rfl⟩;unfold zB;simp only[hY,ek,c7,Vo]
   grind
theorem Gi:∀{l:List It} {a b:It},FB l=some (a,b)->∃p,l.length=p+2/\l[p]? =some a/\l[p+1]? =some b
 |[],_,_,h=>by cases h
 |[_],_,_,h=>by cases h
 |[x,y],a,b,h=>by cases h;simp_all
 | _::y::z::l,a,b,h=>by
   obtain⟨p,c,d,e⟩:=Gi (l:=y::z::l) h;exact⟨p+1,by simp_all,by grind,by simp_all⟩
theorem Cb:∀{l:List It},Cf l=true->∀(q:Nat) (a b:It),l[q]? =some a->l[q+1]? =some b->q+2<l.length->b.b.testBit a.i=true/\(q+3=l.length->∀c,l[q+2]? =some c->c.b.testBit a.i=true)
 |[],_,q,a,b,h,_,_=>by simp_all
 |[x],_,q,a,b,_,h,_=>by simp_all
 |[x,y],_,q,a,b,_,_,h=>by grind
 | x::y::z::l,hc,0,a,b,d,e,_=>by
   simp at d e;subst d;subst e;simp only[Cf,rm]at hc
   grind
 | x::y::z::l,hc,q+1,a,b,d,e,f=>by
   simp only[Cf,rm]at hc;have:=Cb (l:=y::z::l) hc.2 q a b (by simp_all) (by simp_all) (by simp_all)
   simp_all
theorem KX{gM ws:List It} {a b:It} {da db:Nat} (h:Dc gM ws=some (a,b,da,db)) :
  FB ws=some (a,b)/\storeAt a.o=some da/\storeAt b.o=some db/\fixed gM a=true/\fixed gM b=true/\Jb gM a b=true/\Cf ws=true:=by
 unfold Dc at h
 grind
structure VY (n:Nat) (ops:Array Oper) (t0:Tm) (h0:Hp) (Δ0:Env) (w0:World) (T:Tc) (c:Nat) (e:Hp) (b:Array Bool) (Δ:Env) (t:Tm) (a:Act) (w:World):Prop where
 size:b.size=ops.size
 closed:uU (fj ops) (λi=>b.getD i false)
 ahead:∀x∈ej (fj ops),(b.getD x.i false=true↔x.i≠c)
 tmps:TR Δ n t a
 kQ:∀d,gg t d=lS T.val (λi=>b.getD i false) d (fj ops) (gg t0 d)
 world:WR Δ e w
 frame:FR Δ0 Δ w0 w
 none:∀l,Δ0 l = .none->l<h0.next->Δ l = .none
 defers:t.ds=t0.ds
section
variable{a b:It}{da db p:Nat}
structure WN (ops:Array Oper) (T:Tc) (a b:It) (da db p:Nat) (r:Tm×Hp):Prop where
 len:(ej (fj ops)).length=p+2
 ga:(ej (fj ops))[p]? =some a
 gb:(ej (fj ops))[p+1]? =some b
 sa:storeAt a.o=some da
 sb:storeAt b.o=some db
 fa:fixed (fj ops) a=true
 fb:fixed (fj ops) b=true
 op:Jb (fj ops) a b=true
 ch:Cf (ej (fj ops))=true
 apart:Rb (gg r.1 da) (gg r.1 db)=true
theorem IJ(h:Jb (fj ops) a b=true) {x:It} (c:x∈fj ops) (d:x.i≠a.i) (e:x.i≠b.i) (f:¬(a.b.testBit x.i=true/\b.b.testBit x.i=true)) :
  cls x.o=0/\Ah x.o=true/\x.o.guard=none/\x.b.testBit a.i=false/\x.b.testBit b.i=false:=by
 have:=Kd.1 h x c;simp only[Ie,rm,Vo,Option.isNone_iff_eq_none]at this
 grind[absurd,wC]
theorem DJ{l:List It} (h:oR n ops.toList (fj ops) (ej (fj ops)) call t0 h0 l 0 0 h0 [] r T T) {x:It} (j:x∈fj ops) (c:fixed (fj ops) x=true) {D:Nat->Bool} (k:∀y∈fj ops,x.b.testBit y.i=true->D y.i=true)
  {d:Nat} (e:d∈xe x.o.op.operands.toList) (a:V):lS T.val D d (fj ops) a=lS T.val (λ_=>true) d (fj ops) a:=by
 refine lQ (λy f g=>?_) (by simp_all) a;have m:=Kd.1 (Kd.1 c d e) y f
 grind[writes]
theorem wH{o:Oper} {d:Nat} (h:storeAt o=some d):d∈xe o.op.operands.toList:=by
 grind[lW,Op.operands,xe]
end
section
variable{a b:It}{da db p:Nat}{l:List It}
theorem QX{H a e:Hp} {la lb:Nat} {i ob:O} (b:la<H.next) (f:lb<H.next) (l:la≠lb) (j:xX (H.put la i) a) (k:xX (a.put lb ob) e):xX ((H.put lb ob).put la i) e:=by
 have c:H.next<=a.next:=j.1;have g:a.next<=e.next:=k.1;refine⟨EY c g,λx m=>?_⟩;have d:x<H.next:=m;rw[k.2 x (EP d c)];rw[k9 (h:=H.put lb ob) _ _ b,k9 (h:=a) _ _ (by omega),k9 (h:=H) _ _ f];rw[j.2 x d,k9 (h:=H) _ _ b]
 grind
theorem Vc(hc:qZ call) (hp:mr (fj ops)=true) (aL:(fj ops).all (zd (fj ops))=true) (ar:(fj ops).all wK=true) (hl:∀a∈l,a∈fj ops)
    (Y:oR n ops.toList (fj ops) (ej (fj ops)) call t0 h0 l 0 0 h0 [] r T T) (hP:WN ops T a b da db p r)
    (aM:r.1.ds=t0.ds) (hQ:∀Δ' a' w',xi Δ0 h0 w0 n r.1 r.2 Δ' a' w'->Q .normal a' w') {la lb:Nat} {ob:O} (bc:la<(T.H p).next) (aN:lb<(T.H p).next) (aO:la≠lb)
    (aP:∀t:Tm,gg t da=gg r.1 da->∃oa,(T.G p)=(T.H p).put la oa/\∀k:Hp,k.get la=(T.H p).get la->(∀x∈a.o.op.operands.toList,Alike t (T.tt a.i) x)->(Ct a.o).f call t k=some (.undef,k.put la oa))
    (bd:T.G (p+1)=(T.H (p+1)).put lb ob) :
    ∀(fuel:Nat) (c:Array Bool) (m:Act) (w:World) (Δ:Env) (t:Tm),c.toList.count false<=fuel->VY n ops t0 h0 Δ0 w0 T a.i ((T.H p).put lb ob) c Δ t m w->wpAny P0 .any ops Q fuel c m w:=by
  have ha:a∈fj ops:=(lT (kh.2 ⟨_,hP.ga⟩)).1;have hb:b∈fj ops:=(lT (kh.2 ⟨_,hP.gb⟩)).1;have aQ:=wJ hP.sa;have aR:=wJ hP.sb;have aS:a.i≠b.i:=λe=>by
    have:=DI hP.ga hP.gb e;omega
  have au:a∈ej (fj ops):=kh.2 ⟨_,hP.ga⟩;have aw:b∈ej (fj ops):=kh.2 ⟨_,hP.gb⟩;have L:∀{c Δ t m w},VY n ops t0 h0 Δ0 w0 T a.i ((T.H p).put lb ob) c Δ t m w->c.getD a.i false=false:=λg=>by
    cases h:Array.getD _ a.i false with
    |false=>rfl
    |true=>exact absurd rfl ((g.ahead a au).1 h)
  have ah:∀{c Δ t m w},VY n ops t0 h0 Δ0 w0 T a.i ((T.H p).put lb ob) c Δ t m w->c.getD b.i false=true:=λg=>(g.ahead b aw).2 (λe=>aS e.symm);intro fuel
  induction fuel with
  | zero=>
    intro c m w Δ t ax g;exfalso;have k:=L g;have M:a.i<c.size:=by rw[g.size];exact(Sa.1 (GH ha)).1
    have:false∈c.toList:=by
      have:c[a.i]=false:=by simpa[M]using k
      rw[<-this];simp
    have:=List.count_pos_iff.2 this
    omega
  | succ fuel ih=>
    intro c m w Δ t ax g;refine⟨λhr=>?_,λi hi=>?_⟩
    ·exfalso
     have ay : ∀i,i<ops.size->c.getD i false=true:=by
       intro i
       induction i using Nat.strongRecOn with
       | _ i aT=>
         intro hi
         cases Z:c.getD i false with
         |true=>rfl
         | false=>
           exfalso;have ho:ops[i]? =some ops[i]:=Array.getElem?_eq_getElem hi;obtain⟨x,hx,aU,aV,_⟩:=G4 ho;have F:i∈Region.ready .any ops c:=by
             rw[mem_ready];refine⟨?_,ops[i],ho,λe he aA=>?_⟩
             ·have:i<c.size:=by rw[g.size];exact hi
              simp[this]at Z⊢;exact Z
             ·have k:=Kd.1 ar x hx
              unfold wK at k;rw[aV,aU]at k;have h2:=Kd.1 k e (by simpa using he);rw[<-AM,aA]at h2;simp only[Vq,Bool.false_or,I3]at h2;exact aT e.on h2 (by omega)
           rw[hr]at F;cases F
     have:=ay a.i (Sa.1 (GH ha)).1;rw[L g]at this;cases this
    rw[mem_ready]at hi;obtain⟨lB,o,ho,aa⟩:=hi;obtain⟨y,X,ai,u,aj⟩:=G4 ho;have M:i<c.size:=by rw[g.size];exact(Sa.1 ho).1
    have N:c.getD y.i false=false:=by rw[ai];simp[M]at lB⊢;exact lB
    have I:∀x∈fj ops,y.b.testBit x.i=true->c.getD x.i false=true:=by
      intro x hx Z;obtain⟨e,he,aW,k⟩:=G6 aj Z;rw[u]at he;have P:=aa e (by simpa using he) (by rw[AM];exact aW);rcases k with k|⟨z,A,E⟩
      ·rw[k];exact P
      ·have be:=pd _ _ A
       exact g.closed z (kh.2 ⟨_,A⟩) (by simp_all) x hx E
    have ab:∀y∈fj ops,y∈l:=by
      intro y X;rcases Y.done y X with k|k
      ·simp at k
      ·grind[qS]
    obtain ⟨D,B⟩:=Y.item y (ab y X);have ac:∀d,d∈lC y.o->gg t d=gg (T.tt y.i) d:=λd K=>by
      rw[g.kQ d,B.kQ d];exact B1 pd hp X g.closed B.closed I B.c8 N B.fresh K _ _
    have J:∀x∈y.o.op.operands.toList,Alike t (T.tt y.i) x:=BT λd K=>ac d (by simp[lC,K]);obtain⟨d,K⟩:=B.dst;have R:∀i',(c.setIfInBounds i true).getD i' false=(c.getD i' false ||decide (y.i=i')):=λi'=>by
      by_cases e:i=i'
      ·subst e;simp[M,ai]
      simp_all
    have S:(c.setIfInBounds i true).toList.count false<=fuel:=by
      have k:c.toList[i]? =some false:=by
        rw[SW];have:c.getD y.i false=false:=N;rw[ai]at this;simpa[M]using this
      have:=count_set c.toList i k;rw[Array.toList_setIfInBounds];omega
    have s:uU (fj ops) (λi'=>(c.setIfInBounds i true).getD i' false):=by
      intro x hx U z A E;simp only[R,Ie,zv]at U⊢;rcases U with U|U
      ·exact .inl (g.closed x hx U z A E)
      ·grind[qS]
    have C:∀d',gg (d.f t (T.val y.i)) d' = lS T.val (λi'=>(c.setIfInBounds i true).getD i' false) d' (fj ops) (gg t0 d'):=λd'=>by
      rw[CU K,AQ pd hp X g.closed N R (val:=T.val) (Hv:=T.val) (λ_ _=>rfl) d' (gg t0 d'),g.kQ d']
    have aB:h0.next<=(T.H p).next:=EY Y.more.1 (zW Y.chain p p (by omega) (by have:=hP.len;omega));have ak:y.i≠a.i->cls y.o=0/\Ah y.o=true/\y.o.guard=none/\y.b.testBit a.i=false/\y.b.testBit b.i=false:=λag=>by
      have aX:y.i≠b.i:=by grind
      refine IJ hP.op X ag aX λ⟨_,aC⟩=>?_;have:=g.closed b hb (ah g) y X aC
      simp_all
    by_cases hya:y.i=a.i
    ·
      have aD:=qS X ha hya;subst aD;have P:Region.wanted o (yielded ops m.tmps)=true:=by
        obtain⟨_,_,_,hg,_⟩:=lW hP.sa;unfold Region.wanted;rw[<-u,hg]
      unfold wpOp;simp only[ho];rw[P];simp only[if_true];left;obtain⟨oa,bf,aE⟩:=aP t (by
        rw[g.kQ da,Y.kQ da];exact DJ Y X hP.fa I (wH hP.sa) _)
      have al:=aE ((T.H p).put lb ob) (by rw[k9 _ _ aN,if_neg (λe=>aO e.symm)]) J;rw[<-u];refine Ii hc g.world g.tmps al λΔ' x w' V=>?_;rw[u];have hlen:=hP.len;have ba:=Y.chain p (J9 _) (by omega);have aY:=Y.chain (p+1) (J9 _) (by omega);have hm:xX (((T.H p).put lb ob).put la oa) (T.H (p+2)):=by grind[QX]
      have am:∀q z,(ej (fj ops))[q]? =some z->((c.setIfInBounds i true).getD z.i false=true↔q<p+2):=λq z A=>by
        have aZ:=(gL.1 A).1;constructor
        ·intro _;omega
        ·intro _
         rw[R];by_cases e:z.i=y.i
         ·simp[e]
         ·rw[(g.ahead z (kh.2 ⟨_,A⟩)).2 e];rfl
      have bb:T.val y.i = .undef\/True:= .inr trivial;have aF:(d.f t (T.val y.i)).ds=t0.ds:=by rw[sx K];exact g.defers
      have ae:y.o.dst=none:=by obtain⟨_,_,_,_,h5,_⟩:=lW hP.sa;exact h5
      have a4:TR Δ' n (d.f t (T.val y.i)) (m.put o.dst x):=by
        have k:=DZ (g.tmps.mono V.frame.le) K (v:= .undef) V.val;rw[u]at k;have e:d.f t (T.val y.i)=d.f t .undef:=by
          unfold tz at K;rw[ae]at K;cases K;rfl
        rw[e];exact k
      refine Og hc hp aL ar (T:=T) (p+2) (λfuel c m w j Δ t a' hj _ a5 a6 aG an _ ag=>?_) hl Y aM hQ fuel _ _ _ (p+2) Δ' (d.f t (T.val y.i)) (iC _) S
        ⟨by simp[g.size],s,by omega,am,a4,C,V.world.Jk hm,g.frame.trans V.frame,λl' k h2=>V.grow.none _ (g.none l' k h2) (EP h2 aB),aF,λz A aH bg ao _=>?_⟩
      ·exfalso
       have F:a'∈ej (fj ops):=by unfold ej;rw[DG];exact⟨a6,by rw[aG];rfl⟩
       obtain⟨q,hq⟩:=kh.1 F;have k:=(gL.1 hq).1;have:=(a5.ahead _ a' hq).2 (by omega);rw[an]at this;cases this
      ·exfalso
       rw[R]at ao;simp only[Bool.or_eq_false_iff,decide_eq_false_iff_not]at ao;have E:z.i≠b.i:=by grind
       have:=IJ hP.op A (λe=>ao.2 e.symm) E (by grind);rw[this.1]at aH;cases aH
    ·
      obtain⟨ap,yf,aI,bh,aC⟩:=ak hya;have a7:lg n ops.toList y.o (T.tt y.i)=some true:=by unfold lg hO;rw[aI]
      have P:T.on y.i=true:=by
        have:=B.lg;rw[a7]at this;exact(Option.some.inj this).symm
      have W:Region.wanted o (yielded ops m.tmps)=true:=by
        unfold Region.wanted;rw[<-u,aI]
      have hlen :=hP.len;have a8:T.ep y.i<=p:=by
        have k:=B.Wx (by rw[ap];decide)
        cases he:T.ep y.i with
        |zero=>omega
        | succ e=>
          rw[he]at k;simp only[Ff]at k;split at k
          ·rename_i z A
           have aZ:=(gL.1 A).1;rcases Mo e p with h|h
           ·omega
           ·exfalso
            have:e=p\/e=p+1:=by omega
            rcases this with e1|e1
            ·subst e1
             rw[hP.ga]at A;simp_all
            ·subst e1
             rw[hP.gb]at A;simp_all
          ·cases k
      have aq:p<=late (ej (fj ops)) y:=by
        rcases Mo (late (ej (fj ops)) y) p with h|h
        ·exfalso
         obtain ⟨z,A,E⟩:=Ep (ej (fj ops)) y (by omega);have aJ:z∈ej (fj ops):=kh.2 ⟨_,A⟩;have a9:z.i≠a.i:=λe=>by
           have:=DI A hP.ga e;omega
         have:=g.closed z (lT aJ).1 ((g.ahead z aJ).2 a9) y X E
         simp_all
        ·exact h
      have aK:=B.pure ap P p a8 (by omega) aq;rw[<-Cs (h:=T.H p) J,Lp yf t _ ((T.H p).put lb ob)]at aK;have al:(Ct y.o).f call t ((T.H p).put lb ob)=some (T.val y.i,(T.H p).put lb ob):=by
        unfold Ct;rw[ap];simp only[c7];exact⟨_,aK,rfl⟩
      unfold wpOp;simp only[ho];rw[W];simp only[if_true];left;rw[<-u];refine Ii hc g.world g.tmps al λΔ' x w' V=>?_;rw[u];refine ih _ _ _ Δ' (d.f t (T.val y.i)) S ⟨by simp[g.size],s,λz A=>?_,?_,C,V.world,g.frame.trans V.frame,λl' k h2=>V.grow.none _ (g.none l' k h2) (EP h2 aB),by rw[sx K];exact g.defers⟩
      ·rw[R]
       have:¬y.i=z.i:=by grind[qS,lT]
       simp only[this,decide_false,Bool.or_false];exact g.ahead z A
      ·have k:=DZ (g.tmps.mono V.frame.le) K V.val
       rw[u]at k;exact k
end
section
variable{a b:It}{da db p:Nat}{l:List It}
theorem RJ(hc:qZ call) (hp:mr (fj ops)=true) (aB:(fj ops).all (zd (fj ops))=true) (aC:(fj ops).all wK=true) (hl:∀a∈l,a∈fj ops)
  (G:oR n ops.toList (fj ops) (ej (fj ops)) call t0 h0 l 0 0 h0 [] r T T) (hP:WN ops T a b da db p r)
  (aD:r.1.ds=t0.ds) (hQ:∀Δ' a' w',xi Δ0 h0 w0 n r.1 r.2 Δ' a' w'->Q .normal a' w')
  (fuel:Nat) (c:Array Bool) (I:Act) (w:World) (j:Nat) (Δ:Env) (t:Tm) (y:It) (_:0<=j) (aU:c.toList.count false<=fuel+1) (m:Inv n ops t0 h0 Δ0 w0 T c j Δ t I w) (hy:y∈fj ops)
  (aj:cls y.o=2) (J:c.getD y.i false=false) (g:∀x∈fj ops,y.b.testBit x.i=true->c.getD x.i false=true) (a4:(ej (fj ops))[j]?≠some y) :
  wpOp P0 ops Q y.i (wpAny P0 .any ops Q fuel (c.setIfInBounds y.i true)) I w:=by
 have hlen:=hP.len;have ha:a∈fj ops:=(lT (kh.2 ⟨_,hP.ga⟩)).1;have hb:b∈fj ops:=(lT (kh.2 ⟨_,hP.gb⟩)).1;have ak:y∈ej (fj ops):=by unfold ej;rw[DG];exact by simp_all
 obtain ⟨q,hq⟩:=kh.1 ak;have a5:=(gL.1 hq).1;have a6:¬q<j:=λh=>by
  have:=(m.ahead _ y hq).2 h
  simp_all
 have a7:q≠j:=by grind
 have aE:q=p+1/\j=p:=by
  obtain⟨e,rfl⟩:∃e,q=e+1:=⟨q-1,by omega⟩
  have V:e<(ej (fj ops)).length:=by omega
  have hg:=fg V;rcases Mo e p with h|h
  ·exfalso;have ab:=(Cb hP.ch e _ y hg hq (by omega)).1;have:=(m.ahead e _ hg).1 (g _ (lT (ym V)).1 ab);omega
  ·have he:e=p:=by omega
   subst he;refine⟨rfl,?_⟩;rcases Mo j e with h2|h2
   ·exfalso;obtain⟨f,rfl⟩:∃f,e=f+1:=⟨e-1,by omega⟩
    have al:f<(ej (fj ops)).length:=by omega
    have am:=fg al;have ab:=(Cb hP.ch f _ a am hP.ga (by omega)).2 (by omega) y hq;have:=(m.ahead f _ am).1 (g _ (lT (ym al)).1 ab);omega
   ·omega
 obtain⟨rfl,rfl⟩:=aE;have aF:y=b:=by rw[hP.gb]at hq;cases hq;rfl
 subst aF;have C:∀y∈fj ops,y∈l:=by
  intro y hy;rcases G.done y hy with B|B
  ·simp at B
  ·grind[qS]
 obtain ⟨D,s⟩:=G.item y (C y hy);obtain⟨Da,u⟩:=G.item a (C a ha);have K:=wJ hP.sa;have Wx:∀{x:It} {D:Nat->Bool} {k:Nat},GB n ops.toList (fj ops) (ej (fj ops)) call t0 h0 T D x->cls x.o=2->(ej (fj ops))[k]? =some x->T.ep x.i=k:=λ{x D k} W aG a8=>by
  have B:=(W.write aG).1
  grind[Uh,DI,wC]
 have an:=Wx s aj hP.gb;have ao:=Wx u K hP.ga;have X:∀{x:It} {D:Nat->Bool} {d:Nat},GB n ops.toList (fj ops) (ej (fj ops)) call t0 h0 T D x->storeAt x.o=some d->T.on x.i=true:=λ{x D d} W hs=>by
  obtain⟨_,_,_,hg,_⟩:=lW hs;have:=W.lg
  grind[lg,hO,Option.some.inj]
 have P:∀d,d∈lC y.o->gg t d=gg (T.tt y.i) d:=λd O=>by
  rw[m.kQ d,s.kQ d];exact B1 pd hp hy m.closed s.closed g s.c8 J s.fresh O _ _
 have R:∀x∈y.o.op.operands.toList,Alike t (T.tt y.i) x:=by grind[BT,lC]
 have Y:=(u.write K).2.1 (X u hP.sa);rw[ao]at Y;obtain⟨_,la,aV,ea,aH,a9,ap,aI,aJ,ac,aK⟩:=DX hP.sa Y;have E:=(s.write aj).2.1 (X s hP.sb);rw[an]at E;obtain⟨_,lb,aW,eb,ba,bb,aX,bc,bd,be,_⟩:=DX hP.sb E;rw[<-GL (h:=T.H (j+1)) R]at E;obtain⟨_,A,aL,aM,aq,aY,ae,Z,aZ,ar,ag⟩:=DX hP.sb E;have e1:=P db (by simp[lC,wH hP.sb]);have aN:gg (T.tt a.i) da=gg r.1 da:=by
  rw[u.kQ da,G.kQ da];exact DJ G ha hP.fa u.c8 (wH hP.sa) _
 have aO:gg t db=gg r.1 db:=by
  rw[m.kQ db,G.kQ db];exact DJ G hy hP.fb g (wH hP.sb) _
 have au:la≠A:=λe=>by
  have:=hP.apart;rw[<-aN,<-aO,aI,Z,e]at this;have h2:(!(Nat.beq A A))=true:=this
  simp_all
 have aw:la<(T.H j).next:=Hp.GP aJ;have ax:A<(T.H j).next:=by
  have B:=m.tmps.rel db;rw[Z]at B
  cases W:I.tmps.getD db undef with
  | pointer p=>
    rw[W]at B
    cases B with
    |ptr _ _ d O=>exact m.world.fresh _ _ O
  |_=>rw[W]at B;cases B
 have aP:=G.chain j (J9 _) (by omega);have ay:(T.H j).get A=(T.H (j+1)).get A:=by
  rw[aP.2.2 A (by rw[ac];exact ax),ac,k9 _ _ aw,if_neg au]
 have aQ:=ag (T.H j) ay;have aa:=GH hy;have L:Region.wanted y.o (yielded ops I.tmps)=true:=by
  obtain⟨_,_,_,hg,_⟩:=lW hP.sb;unfold Region.wanted;rw[hg]
 obtain⟨d,O⟩:=s.dst;have aA:y.i<c.size:=by rw[m.size];exact(Sa.1 aa).1
 have ah:∀S,(c.setIfInBounds y.i true).getD S false=(c.getD S false ||decide (y.i=S)):=λS=>by
  by_cases e:y.i=S
  ·rw[<-e];simp[aA]
  simp_all
 have ai:(c.setIfInBounds y.i true).toList.count false<=fuel:=by
  have B:c.toList[y.i]? =some false:=by
   rw[SW];simpa[aA]using J
  have:=count_set c.toList y.i B;rw[Array.toList_setIfInBounds];omega
 have F:uU (fj ops) (λS=>(c.setIfInBounds y.i true).getD S false):=by
  intro x W M z hz aR;simp only[ah,Ie,zv]at M⊢;rcases M with M|M
  ·exact .inl (m.closed x W M z hz aR)
  ·grind[qS]
 have N:∀d',gg (d.f t (T.val y.i)) d' = lS T.val (λS=>(c.setIfInBounds y.i true).getD S false) d' (fj ops) (gg t0 d'):=λd'=>by
  rw[CU O,AQ pd hp hy m.closed J ah (val:=T.val) (Hv:=T.val) (λ_ _=>rfl) d' (gg t0 d'),m.kQ d']
 have aS:h0.next<=(T.H j).next:=EY G.more.1 (zW G.chain j j (by omega) (by omega));unfold wpOp;simp only[aa];rw[L];simp only[if_true];left;refine Ii hc m.world m.tmps aQ λΔ' x w' hA=>?_;have U:y.o.dst=none:=by obtain⟨_,_,_,_,h5,_⟩:=lW hP.sb;exact h5
 have aT:TR Δ' n (d.f t (T.val y.i)) (I.put y.o.dst x):=by
  have B:=DZ (m.tmps.mono hA.frame.le) O (v:= .undef) hA.val;have e:d.f t (T.val y.i)=d.f t .undef:=by
   unfold tz at O;rw[U]at O;cases O;rfl
  rw[e];exact B
 refine Vc hc hp aB aC hl G hP aD hQ (la:=la) (lb:=A) (ob:= .cells aM aq true false ae) aw ax au (λt' bf=>⟨.cells ea aH true false ap,ac,λB bg bh=>?_⟩) ar fuel _ _ _ Δ' (d.f t (T.val y.i)) ai
  ⟨by simp[m.size],F,λz hz=>?_,aT,N,hA.world,m.frame.trans hA.frame,λl' B h2=>hA.grow.none _ (m.none l' B h2) (EP h2 aS),by rw[sx O];exact m.defers⟩
 ·grind[GL]
 ·obtain ⟨k,hk⟩:=kh.1 hz;have bi:=(gL.1 hk).1;rw[ah];simp only[Ie,zv,m.ahead k z hk];constructor
  ·rintro(h|h)
   ·intro e;have:=DI hk hP.ga e;omega
   grind
  ·intro bj;rcases Mo k j with h|h
   ·exact .inl h
   ·right;have bm:k≠j:=λe=>by
     subst e;rw[hP.ga]at hk;simp_all
    have:k=j+1:=by omega
    simp_all
end
end
