/- Parts. -/
import Derived.Test.YtpfjdlicdljhaaaDoorM04
set_option maxHeartbeats 4000000
namespace Go.Proofs.YtpfjdlicdljhaaaDoor.Hx
theorem Iz:∀(ws:List It) (a:It),late ws a<ws.length->∃w,ws[late ws a]? =some w/\w.b.testBit a.i=true
 |[],a,h=>by simp_all
 | w ::ws,a,h=>by
   unfold late at h⊢;split
   ·simp_all
   ·rename_i c
    simp only[c,M0]at h;obtain⟨w',d,e⟩:=Iz ws a (by omega)
    simp_all
theorem Jh:∀{l:List It},EA l=true->∀(q:Nat) (a b:It),l[q]? =some a->l[q+1]? =some b->b.b.testBit a.i=true
 |[],_,q,a,b,h,_=>by simp_all
 |[x],_,q,a,b,_,h=>by simp_all
 | x::y::l,hc,0,a,b,c,d=>by
   simp_all[EA,ve]
 | x::y::l,hc,q+1,a,b,c,d=>by
   simp only[EA,ve]at hc;exact Jh (l:=y::l) hc.2 q a b (by simp_all) (by simp_all)
theorem count_set:∀(l:List Bool) (i:Nat),l[i]? =some false->(l.set i true).count false<l.count false
 |[],i,h=>by simp_all
 |b::l,0,h=>by simp_all
 | b::l,i+1,h=>by
   grind
theorem PB{n:Nat} {all:List Oper} {o:Oper} {t t':Tm} (h:∀j w a d,o.guard=some (j,w)->all[j]? =some a->a.dst=some d->jl t d=jl t' d):oS n all o t=oS n all o t':=by
 unfold oS jW
 grind
theorem No{Δ:Env} {n:Nat} {t:Tm} {a:Act} (c:TR Δ n t a) {ops:Array Oper} {o:Oper} {b:Bool} (h:oS n ops.toList o t=some b):Region.wanted o (yielded ops a.tmps)=b:=by
 grind[oS,My,Mo]
section
variable{n:Nat}{ops:Array Oper}{call:Call}{t0:Tm}{h0:Hp}{Δ0:Env}{w0:World}{T:Tc}{r:Tm×Hp}{Q:Exit->Act->World->Prop}
abbrev iq(ops:Array Oper):List It:=items ops.toList 0 []
theorem sx(k:Nat) (x:It) (h:(iq ops)[k]? =some x):x.i=k:=by
 have:=(AZ _ _ _ _ _ h).1;omega
theorem uE{x y:It} (a:x∈iq ops) (b:y∈iq ops) (h:x.i=y.i):x=y:=by
 grind[mm,sx]
theorem Km{x:It} (a:x∈iq ops):ops[x.i]? =some x.o:=by
 obtain⟨i,hi⟩:=mm.1 a;have b:=sx i x hi;have c:=(AZ _ _ _ _ _ hi).2
 simp_all
theorem J9{i:Nat} {o:Oper} (h:ops[i]? =some o):∃a,a∈iq ops/\a.i=i/\a.o=o/\(iq ops)[i]? =some a:=by
 have c:i<ops.size:=by grind
 have b:i<(iq ops).length:=by rw[Hk];simpa using c
 have d:(iq ops)[i]? =some (iq ops)[i]:=by simp_all
 refine⟨(iq ops)[i],BG b,sx _ _ d,?_,d⟩;have e:=(AZ _ _ _ _ _ d).2
 simp_all
theorem oZ{x:It} (h:x∈gK (iq ops)):x∈iq ops/\cls x.o=2:=by
 grind[gK,zR]
theorem Tw:(gK (iq ops)).Pairwise λa b=>a.i<b.i:=by
 unfold gK;refine List.Pairwise.filter _ ?_;rw[wA9];intro i j hi c d;have e:=sx (ops:=ops) i _ (ig hi);have f:=sx (ops:=ops) j _ (ig c);omega
theorem Is{q a:Nat} {x y:It} (hq:(gK (iq ops))[q]? =some x) (b:(gK (iq ops))[a]? =some y) (h:x.i=y.i):q=a:=by
 grind[Tw,wA9,jq,wB4]
structure Inv (n:Nat) (ops:Array Oper) (t0:Tm) (h0:Hp) (Δ0:Env) (w0:World) (T:Tc) (b:Array Bool) (j:Nat) (Δ:Env) (t:Tm) (a:Act) (w:World):Prop where
 size:b.size=ops.size
 closed:yW (iq ops) (λi=>b.getD i false)
 V0:j<=(gK (iq ops)).length
 ahead:∀q x,(gK (iq ops))[q]? =some x->(b.getD x.i false=true↔q<j)
 tmps:TR Δ n t a
 nV:∀d,jl t d=pP T.val (λi=>b.getD i false) d (iq ops) (jl t0 d)
 world:WR Δ (T.H j) w
 frame:FR Δ0 Δ w0 w
 none:∀l,Δ0 l = .none->l<h0.next->Δ l = .none
 defers:t.ds=t0.ds
 zbh:∀x∈iq ops,cls x.o=1->T.on x.i=true->b.getD x.i false=false->T.ep x.i<=j->Δ (T.pl x.i) = .none
theorem Te(hc:uF call) (hp:pW (iq ops)=true) (a4:(iq ops).all (BO (iq ops))=true) (a5:(iq ops).all z8=true)
  (j0:Nat) (bA:∀(fuel:Nat) (c:Array Bool) (Y:Act) (w:World) (j:Nat) (Δ:Env) (t:Tm) (a:It),j0<=j->c.toList.count false<=fuel+1->Inv n ops t0 h0 Δ0 w0 T c j Δ t Y w->a∈iq ops->cls a.o=2->c.getD a.i false=false->
   (∀x∈iq ops,a.b.testBit x.i=true->c.getD x.i false=true)->(gK (iq ops))[j]?≠some a->wpOp P0 ops Q a.i (wpAny P0 .any ops Q fuel (c.setIfInBounds a.i true)) Y w)
  {l:List It} (hl:∀a∈l,a∈iq ops) (M:sm n ops.toList (iq ops) (gK (iq ops)) call t0 h0 l 0 0 h0 [] r T T)
  (a6:r.1.ds=t0.ds) (hQ:∀E a' w',Ae Δ0 h0 w0 n r.1 r.2 E a' w'->Q .normal a' w') :
  ∀(fuel:Nat) (c:Array Bool) (a:Act) (w:World) (j:Nat) (Δ:Env) (t:Tm),j0<=j->c.toList.count false<=fuel->Inv n ops t0 h0 Δ0 w0 T c j Δ t a w->wpAny P0 .any ops Q fuel c a w:=by
 have Z:∀(c:Array Bool),c.size=ops.size->Region.ready .any ops c=[]->∀x∈iq ops,c.getD x.i false=true:=by
  intro c bC hr;have a7:∀i,i<ops.size->c.getD i false=true:=by
   intro i
   induction i using Nat.strongRecOn with
   | _ i ih=>
     intro hi
     cases V:c.getD i false with
     |true=>rfl
     | false=>
       exfalso;have ho:ops[i]? =some ops[i]:=Array.getElem?_eq_getElem hi;obtain⟨x,z,a8,a9,_⟩:=J9 ho;have ay:i∈Region.ready .any ops c:=by
         rw[mem_ready];refine⟨?_,ops[i],ho,λe he ba=>?_⟩
         ·simp_all
         ·have p:=Oj.1 a5 x z
          unfold z8 at p;rw[a9,a8]at p;have v:=Oj.1 p e (by simpa using he);rw[<-Eh,ba]at v;simp only[wB3,Bool.false_or,Nn]at v;exact ih e.on v (by omega)
       rw[hr]at ay;cases ay
  intro x z;exact a7 x.i (VP.1 (Km z)).1
 have O:∀(c:Array Bool) (a:Act) (w:World) (j:Nat) (Δ:Env) (t:Tm),Inv n ops t0 h0 Δ0 w0 T c j Δ t a w->(∀x∈iq ops,c.getD x.i false=true)->Q .normal a w:=by
  intro c a w j Δ t k P;have hj:j=(gK (iq ops)).length:=by
   rcases Rl j (gK (iq ops)).length with h|h
   ·have hg:=ig h;have:=(k.ahead j _ hg).1 (P _ (oZ (BG h)).1);omega
   ·have:=k.V0;omega
  subst hj;refine hQ Δ a w ⟨⟨k.tmps.size,λi=>?_,by rw[a6,<-k.defers];exact k.tmps.ds⟩,by rw[M.last];exact k.world,k.frame,⟨?_,k.none⟩⟩
  ·have p:=k.tmps.rel i;rw[k.nV i,pH (D':=λ_=>true) (L8:=T.val) (λx z _=>P x z) (λ_ _ _ _=>rfl),<-M.nV i]at p;exact p
  ·rw[M.last];exact Fe M.more.1 (Eb M.chain _ _ (by rw[wX]) (iZ _))
 intro fuel
 induction fuel with
 | zero =>
   intro c a w j Δ t _ aN k;have P:∀x∈iq ops,c.getD x.i false=true:=by
     intro x z;have aa:x.i<c.size:=by rw[k.size];exact(VP.1 (Km z)).1
     cases V:c.getD x.i false with
     |true=>rfl
     | false=>
       exfalso;have:false∈c.toList:=by
         have:c[x.i]=false:=by simpa[aa]using V
         rw[<-this];simp
       have:=List.count_pos_iff.2 this;omega
   refine⟨?_,O _ _ _ _ _ _ k P⟩;rw[List.eq_nil_iff_forall_not_mem]
   grind[mem_ready,J9,VP]
 | succ fuel ih=>
   intro c Y w j Δ t bb aN k;refine⟨λhr=>O _ _ _ _ _ _ k (Z _ k.size hr),λi hi=>?_⟩;rw[mem_ready]at hi;obtain⟨oD,o,ho,ao⟩:=hi;obtain⟨a,ha,aB,F,aC⟩:=J9 ho;have aa:i<c.size:=by rw[k.size];exact(VP.1 ho).1
   have R:c.getD a.i false=false:=by rw[aB];simp[aa]at oD⊢;exact oD
   have S:∀x∈iq ops,a.b.testBit x.i=true->c.getD x.i false=true:=by
     intro x z V;obtain⟨e,he,bc,p⟩:=KB aC V;rw[F]at he;have I:=ao e (by simpa using he) (by rw[Eh];exact bc);rcases p with p|⟨y,B,aD⟩
     ·rw[p];exact I
     ·have bD:=sx _ _ B
      exact k.closed y (mm.2 ⟨_,B⟩) (by simp_all) x z aD
   by_cases hez:cls a.o=2/\(gK (iq ops))[j]?≠some a
   ·grind
   obtain ⟨D,u⟩:∃D,KT n ops.toList (iq ops) (gK (iq ops)) call t0 h0 T D a:=by
     rcases M.done a ha with p|p
     ·simp at p
     ·obtain⟨b,V,aE⟩:=Jy.1 p
      rw[uE ha (hl b V) aE.symm];exact M.item b V
   have J:∀y∈iq ops,y∈l:=by
     intro y B;rcases M.done y B with p|p
     ·simp at p
     ·grind[uE]
   have bd:=J a ha;have ap:∀d,d∈oO a.o->jl t d=jl (T.tt a.i) d:=λd hd=>by
     rw[k.nV d,u.nV d];exact FZ sx hp ha k.closed u.closed S u.ez R u.fresh hd _ _
   have K:∀x∈a.o.op.operands.toList,Alike t (T.tt a.i) x:=GB λd hd=>ap d (by simp[oO,hd]);have aq:oS n ops.toList a.o t=some (T.on a.i):=by
     rw[<-u.oS];refine PB λjg wg oj d hg hj hd=>?_;have C:=Oj.1 a4 a ha;unfold BO at C;rw[hg]at C;simp only at C
     cases hjt:(iq ops)[jg]? with
     |none=>rw[hjt]at C;cases C
     | some g=>
       rw[hjt]at C;simp only at C;have be:g.o=oj:=by
         have:=(AZ _ _ _ _ _ hjt).2;rw[hj]at this;cases this;rfl
       rw[be,hd]at C;simp only[ve]at C;obtain⟨aA,aF⟩:=C;have aO:=sx _ _ hjt;have bf:g∈iq ops:=mm.2 ⟨_,hjt⟩;rw[k.nV d,u.nV d];refine pH (λx z bg=>?_) (λ_ _ _ _=>rfl) _;have p:=Oj.1 aF x z;rw[bg]at p;have v:x.i=jg:=by simpa using p
       have U:x=g:=uE z bf (by omega);subst U;rw[S x z (by rw[aO];exact aA),u.ez x z (by rw[aO];exact aA)]
   have ab:Region.wanted o (yielded ops Y.tmps)=T.on a.i:=by rw[<-F];exact No k.tmps aq
   obtain ⟨d,hd⟩:=u.dst;have ac:∀i',(c.setIfInBounds i true).getD i' false=(c.getD i' false ||decide (a.i=i')):=λi'=>by
     by_cases e:i=i'
     ·subst e;simp[aa,aB]
     simp_all
   have aG:(c.setIfInBounds i true).toList.count false<=fuel:=by
     have p:c.toList[i]? =some false:=by
       rw[X2];have:c.getD a.i false=false:=R;rw[aB]at this;simpa[aa]using this
     have:=count_set c.toList i p;rw[Array.toList_setIfInBounds];omega
   have W:yW (iq ops) (λi'=>(c.setIfInBounds i true).getD i' false):=by
     intro x z ae y B aD;simp only[ac,PR,CH]at ae⊢;rcases ae with ae|ae
     ·exact .inl (k.closed x z ae y B aD)
     ·grind[uE]
   have ag:∀d',jl (d.f t (T.val a.i)) d' = pP T.val (λi'=>(c.setIfInBounds i true).getD i' false) d' (iq ops) (jl t0 d'):=λd'=>by
     rw[GG hd,En sx hp ha k.closed R ac (val:=T.val) (L8:=T.val) (λ_ _=>rfl) d' (jl t0 d'),k.nV d']
   have next:∀(j':Nat) (E:Env) (x:Value) (w':World),fF E (T.val a.i) x->WR E (T.H j') w'->FR Δ E w w'->j'<=(gK (iq ops)).length->
       (∀q y,(gK (iq ops))[q]? =some y->((c.setIfInBounds i true).getD y.i false=true↔q<j'))->
       (∀y∈iq ops,cls y.o=1->T.on y.i=true->(c.setIfInBounds i true).getD y.i false=false->T.ep y.i<=j'->E (T.pl y.i)=none)->
       (∀l,Δ0 l=none->l<h0.next->E l=none)->wpAny P0 .any ops Q fuel (c.setIfInBounds i true) (Y.put o.dst x) w':=by
     intro j' E x w' bh bi aP bj ah ar au;have bm:j<=j':=by
       rcases Rl j' j with h|h
       ·exfalso
        have aQ:j' < (gK (iq ops)).length:=by have:=k.V0;omega
        have hg:=ig aQ;have p:=(k.ahead j' _ hg).2 h
        grind
       ·exact h
     refine ih _ _ _ j' E (d.f t (T.val a.i)) (Fe bb bm) aG ⟨by simp[k.size],W,bj,ah,?_,ag,bi,k.frame.trans aP,au,by rw[wm hd];exact k.defers,ar⟩;have:=HY (k.tmps.mono aP.le) hd bh;rw[F]at this;exact this
   have aR:h0.next<=(T.H j).next:=Fe M.more.1 (Eb M.chain j j (by omega) k.V0);have ai:j<=late (gK (iq ops)) a:=by
     rcases Rl (late (gK (iq ops)) a) j with h|h
     ·exfalso
      obtain⟨x,z,bn⟩:=Iz (gK (iq ops)) a (by have:=k.V0;omega);have p:=(k.ahead _ x z).2 h;have:=k.closed x (oZ (mm.2 ⟨_,z⟩)).1 p a ha bn
      grind
     ·exact h
   have still:cls a.o≠2->∀q y,(gK (iq ops))[q]? =some y->((c.setIfInBounds i true).getD y.i false=true↔q<j):=by
     intro aw q y hq;rw[ac,<-k.ahead q y hq];have B:=oZ (mm.2 ⟨_,hq⟩);have:¬a.i=y.i:=by grind[uE]
     simp[this]
   have aH:cls a.o≠2->T.ep a.i<=j:=by
     intro aw;have p:=u.epw aw
     cases he:T.ep a.i with
     |zero=>omega
     | succ e=>
       rw[he]at p;simp only[JW]at p
       grind[oZ,mm]
   have s:∀y∈iq ops,cls y.o=1->T.on y.i=true->(c.setIfInBounds i true).getD y.i false=false->T.ep y.i<=j->Δ (T.pl y.i)=none/\y.i≠a.i:=by
     intro y B p v U h4;rw[ac]at U;simp only[Bool.or_eq_false_iff,decide_eq_false_iff_not]at U;exact⟨k.zbh y B p v U.1 h4,λe=>U.2 e.symm⟩
   have L:∀y∈iq ops,cls y.o=1->T.on y.i=true->T.ep y.i<=j->T.pl y.i<(T.H j).next:=by
     intro y B p v U;rcases M.done y B with h4|h4
     ·simp at h4
     ·obtain⟨b,V,aE⟩:=Jy.1 h4
      have:=uE B (hl b V) aE.symm;subst this;obtain⟨_,aj⟩:=M.item y V;exact((aj.alloc p v).2.1 j U k.V0).1
   have aI:cls a.o=2->Zq (gK (iq ops)) a (T.ep a.i)=true->T.ep a.i=j/\(gK (iq ops))[j]? =some a:=by
     intro _ hw;unfold Zq at hw;split at hw
     ·rename_i x z
      have bo:=uE (oZ (mm.2 ⟨_,z⟩)).1 ha (zR hw);subst bo;have aS:(gK (iq ops))[j]? =some x:=by
        apply Classical.byContradiction;intro aw;exact hez ⟨(oZ (mm.2 ⟨_,z⟩)).2,aw⟩
      exact⟨Is z aS rfl,aS⟩
     ·cases hw
   have ak:cls a.o=2->Zq (gK (iq ops)) a (T.ep a.i)=true->∀q y,(gK (iq ops))[q]? =some y->((c.setIfInBounds i true).getD y.i false=true↔q<j+1):=by
     intro m hw q y hq;obtain⟨_,z⟩:=aI m hw;rw[ac];simp only[PR,CH,k.ahead q y hq];constructor
     ·rintro(h|h)
      ·omega
      ·have:=Is z hq h;omega
     ·grind
   have al:cls a.o=2->Zq (gK (iq ops)) a (T.ep a.i)=true->∀(E:Env) (w':World),WR E (T.G j) w'->Gr (T.H j) Δ (T.G j) E->
       ∀y∈iq ops,cls y.o=1->T.on y.i=true->(c.setIfInBounds i true).getD y.i false=false->T.ep y.i<=j+1->E (T.pl y.i)=none:=by
     intro m hw E w' bp br y B p v U h4;rcases Rl j (T.ep y.i)with h5|h5
     ·obtain⟨_,aj⟩:=M.item y (J y B)
      have aT:=(aj.alloc p v).2.2.1 j h5
      cases hd':E (T.pl y.i)with
      |none=>rfl
      |some e=>have:=bp.fresh _ _ hd';omega
     ·exact br.none _ (s y B p v U h5).1 (L y B p v h5)
   unfold wpOp;simp only[ho];rw[ab]
   cases I:T.on a.i with
   | false=>
     simp only[Oh,if_false];have hv:=u.off I;rcases HZ a.o with m|m|m
     ·exact next j Δ undef w (by rw[hv];exact .undef Δ) k.world (.refl _ _) k.V0 (still (by rw[m];decide)) (by grind) k.none
     ·exact next j Δ undef w (by rw[hv];exact .undef Δ) k.world (.refl _ _) k.V0 (still (by rw[m];decide)) (by grind) k.none
     ·obtain⟨A,_,aU⟩:=u.write m
      obtain⟨aJ,aK⟩:=aI m A;have hG:=aU I;rw[aJ]at hG;have am:j<(gK (iq ops)).length:=(jq.1 aK).1;obtain⟨bt,aL⟩:=M.chain j (LK _) am;have aV:WR Δ (T.G j) w:=by rw[hG];exact k.world
      exact next (j+1) Δ undef w (by rw[hv];exact .undef Δ) (aV.Nj aL) (.refl _ _) am (ak m A) (al m A Δ w aV (by rw[hG];exact .refl _ _)) k.none
   | true=>
     simp only[if_true];left;rcases HZ a.o with m|m|m
     ·have aW:=u.pure m I j (aH (by rw[m];decide)) k.V0 ai
      rw[<-FT (h:=T.H j) K]at aW;have ax:(GC a.o).f call t (T.H j)=some (T.val a.i,T.H j):=by
        unfold GC;rw[m];simp only[fh];exact⟨_,aW,rfl⟩
      rw[<-F];refine MK hc k.world k.tmps ax λE x w' X=>?_;rw[F]
      exact next j E x w' X.val X.world X.frame k.V0 (still (by rw[m];decide)) (λy B p v U h4=>X.grow.none _ (s y B p v U h4).1 (L y B p v h4))
        (λl' p v=>X.grow.none _ (k.none l' p v) (Cc v aR))
     ·obtain ⟨⟨mk,aX,aY⟩,bu,_,aT⟩:=u.alloc m I
      obtain⟨bv,bw⟩:=bu j (aH (by rw[m];decide)) k.V0;have aZ:=bw ai;rw[<-Jl K]at aX;obtain⟨mo,mv,an,aM⟩:=Pq k.tmps aX;have N:=k.zbh a ha m I R (aH (by rw[m];decide));obtain⟨dd,V,bx,bz⟩:=aM (T.pl a.i) w.heap.size N;rw[<-F];unfold Oper.wp;rw[an w,Oper.upon_value,F];refine next j (Δ.set (T.pl a.i) dd) _ _ (by rw[aY];exact bz) (k.world.lay N bv aZ V bx) (FR.lay N V) k.V0 (still (by rw[m];decide)) (λy B p v U h4=>?_) (λl' p v=>?_)
      ·obtain⟨e1,e2⟩:=s y B p v U h4
       have:=M.SL y (J y B) a bd p m v I e2;unfold Env.set;rw[if_neg this];exact e1
      ·have:l'≠T.pl a.i:=by omega
       unfold Env.set;rw[if_neg this];exact k.none l' p v
     ·obtain ⟨A,an,_⟩:=u.write m
      obtain⟨aJ,aK⟩:=aI m A;have ax:=an I;rw[aJ,<-Kq (h:=T.H j) K]at ax;have am:j<(gK (iq ops)).length:=(jq.1 aK).1;obtain⟨bt,aL⟩:=M.chain j (LK _) am;rw[<-F];refine MK hc k.world k.tmps ax λE x w' X=>?_;rw[F]
      exact next (j+1) E x w' X.val (X.world.Nj aL) X.frame am (ak m A) (al m A E w' X.world X.grow)
        (λl' p v=>X.grow.none _ (k.none l' p v) (Cc v aR))
theorem Ux(l:EA (gK (iq ops))=true) (fuel:Nat) (c:Array Bool) (d:Act) (w:World) (j:Nat) (Δ:Env) (t:Tm) (a:It) (_:0<=j) (_:c.toList.count false<=fuel+1) (m:Inv n ops t0 h0 Δ0 w0 T c j Δ t d w) (z:a∈iq ops)
  (s:cls a.o=2) (p:c.getD a.i false=false) (k:∀x∈iq ops,a.b.testBit x.i=true->c.getD x.i false=true) (u:(gK (iq ops))[j]?≠some a) :
  wpOp P0 ops Q a.i (wpAny P0 .any ops Q fuel (c.setIfInBounds a.i true)) d w:=by
 exfalso;have f:a∈gK (iq ops):=by unfold gK;rw[Ic];exact by simp_all
 obtain ⟨q,hq⟩:=mm.1 f;have v:¬q<j:=λh=>by
  have:=(m.ahead _ a hq).2 h
  simp_all
 have y:q≠j:=by grind
 obtain⟨e,rfl⟩:∃e,q=e+1:=⟨q-1,by omega⟩
 have g:e<(gK (iq ops)).length:=by have:=(jq.1 hq).1;omega
 have r:=ig g;have A:=Jh l e _ a r hq;have:=(m.ahead e _ r).1 (by grind[oZ,BG]);omega
theorem j4{x:Operand} (a:Na x=true) (t:Tm) (h h':Hp):(rr x).f t h=(rr x).f t h':=by
 cases x <;> first|rfl|grind[Na]
theorem Po{o:Oper} (a:Du o=true) (t:Tm) (h h':Hp):(il o).f t h=(il o).f t h':=by
 unfold Du at a;unfold il;split at a
 ·grind[j4]
 ·grind[yj,j4]
 ·grind[pb,j4]
 ·rename_i b;rw[b];rw[ve]at a
  grind[pE,j4]
 ·cases a
theorem pC{o:Oper} {d:Nat} (h:storeAt o=some d):∃ty x,o.op = .store ty (.tmp d) x/\o.guard=none/\o.dst=none/\Na x=true:=by
 grind[storeAt]
theorem zU{o:Oper} {d:Nat} (h:storeAt o=some d):cls o=2:=by
 grind[pC,cls]
theorem HV{o:Oper} {d:Nat} (hs:storeAt o=some d) {call:Call} {t:Tm} {h h':Hp} {v:V} (k:(GC o).f call t h=some (v,h')) :
  v = .undef/\∃l off e sz cs og,jl t d = .ptr l off/\h.get l=some (.cells e sz true false cs)/\h' = h.put l (.cells e sz true false og)/\
   ∀b:Hp,b.get l=h.get l->(GC o).f call t b=some (.undef,b.put l (.cells e sz true false og)):=by
 obtain⟨ty,x,j,_,_,D⟩:=pC hs;have q:=zU hs
 have c:∀h,(GC o).f call t h=oB ((jy o).f t h) λr=>match r with
   | .val v h=>some (v,h)
   | .call f args=>call f args h:=by
  intro h;unfold GC;split
  ·omega
  ·omega
  ·rfl
 rw[c,fh]at k;obtain⟨r,b,s⟩:=k
 have m:∀h,(jy o).f t h=match wW ty with
   |some n=>oB ((rr (.tmp d)).f t h) λa=>oB ((rr x).f t h) λv=>xy a λl off=>bB (Nat.beq v.cells.length n) (oB (CX h l off v.cells) λh=>some (.val .undef h))
   |none=>none:=by
  intro h;unfold jy;rw[j];simp only;generalize wW ty=z;cases z <;> rfl
 rw[m]at b
 cases hn:wW ty with
 |none=>simp_all
 | some n=>
   rw[hn]at b;simp only[fh,uG,gL]at b;obtain⟨a,u,vv,w,l,off,rfl,hlen,E,g,y⟩:=b;cases y;cases s;have i:jl t d = .ptr l off:=Option.some.inj (show some (jl t d)=some (V.ptr l off) from u);unfold CX at g;simp only[j9,gL,fh,wBg]at g;obtain⟨e,sz,live,ro,cs,A,rfl,rfl,p,og,B,LY⟩:=g;cases LY;refine⟨rfl,l,off,e,sz,cs,og,i,A,rfl,λb C=>?_⟩;rw[c,fh];refine⟨.val .undef (b.put l (.cells e sz true false og)),?_,rfl⟩;rw[m,hn];simp only[fh,uG,gL];refine⟨.ptr l off,by rw[<-i];rfl,vv,by grind[j4],l,off,rfl,hlen,b.put l (.cells e sz true false og),?_,rfl⟩;unfold CX;simp only[j9,gL,fh,wBg]
   grind
theorem Lb:∀{l:List It} {a b:It},JH l=some (a,b)->∃p,l.length=p+2/\l[p]? =some a/\l[p+1]? =some b
 |[],_,_,h=>by cases h
 |[_],_,_,h=>by cases h
 |[x,y],a,b,h=>by cases h;simp_all
 | _::y::z::l,a,b,h=>by
   obtain⟨p,c,d,e⟩:=Lb (l:=y::z::l) h;exact⟨p+1,by simp_all,by grind,by simp_all⟩
theorem Gm:∀{l:List It},FW l=true->∀(q:Nat) (a b:It),l[q]? =some a->l[q+1]? =some b->q+2<l.length->b.b.testBit a.i=true/\(q+3=l.length->∀c,l[q+2]? =some c->c.b.testBit a.i=true)
 |[],_,q,a,b,h,_,_=>by simp_all
 |[x],_,q,a,b,_,h,_=>by simp_all
 |[x,y],_,q,a,b,_,_,h=>by grind
 | x::y::z::l,hc,0,a,b,d,e,_=>by
   simp at d e;subst d;subst e;simp only[FW,ve]at hc
   grind
 | x::y::z::l,hc,q+1,a,b,d,e,f=>by
   simp only[FW,ve]at hc;have:=Gm (l:=y::z::l) hc.2 q a b (by simp_all) (by simp_all) (by simp_all)
   simp_all
theorem OD{jB ws:List It} {a b:It} {da db:Nat} (h:Hl jB ws=some (a,b,da,db)) :
  JH ws=some (a,b)/\storeAt a.o=some da/\storeAt b.o=some db/\fixed jB a=true/\fixed jB b=true/\N9 jB a b=true/\FW ws=true:=by
 unfold Hl at h
 grind
structure zaL (n:Nat) (ops:Array Oper) (t0:Tm) (h0:Hp) (Δ0:Env) (w0:World) (T:Tc) (c:Nat) (e:Hp) (b:Array Bool) (Δ:Env) (t:Tm) (a:Act) (w:World):Prop where
 size:b.size=ops.size
 closed:yW (iq ops) (λi=>b.getD i false)
 ahead:∀x∈gK (iq ops),(b.getD x.i false=true↔x.i≠c)
 tmps:TR Δ n t a
 nV:∀d,jl t d=pP T.val (λi=>b.getD i false) d (iq ops) (jl t0 d)
 world:WR Δ e w
 frame:FR Δ0 Δ w0 w
 none:∀l,Δ0 l = .none->l<h0.next->Δ l = .none
 defers:t.ds=t0.ds
section
variable{a b:It}{da db p:Nat}
structure zbY (ops:Array Oper) (T:Tc) (a b:It) (da db p:Nat) (r:Tm×Hp):Prop where
 len:(gK (iq ops)).length=p+2
 ga:(gK (iq ops))[p]? =some a
 gb:(gK (iq ops))[p+1]? =some b
 sa:storeAt a.o=some da
 sb:storeAt b.o=some db
 fa:fixed (iq ops) a=true
 fb:fixed (iq ops) b=true
 op:N9 (iq ops) a b=true
 ch:FW (gK (iq ops))=true
 apart:WS (jl r.1 da) (jl r.1 db)=true
theorem Mf(h:N9 (iq ops) a b=true) {x:It} (c:x∈iq ops) (d:x.i≠a.i) (e:x.i≠b.i) (f:¬(a.b.testBit x.i=true/\b.b.testBit x.i=true)) :
  cls x.o=0/\Du x.o=true/\x.o.guard=none/\x.b.testBit a.i=false/\x.b.testBit b.i=false:=by
 have:=Oj.1 h x c;simp only[PR,ve,wBg,Option.isNone_iff_eq_none]at this
 grind[absurd,zR]
theorem IK{l:List It} (h:sm n ops.toList (iq ops) (gK (iq ops)) call t0 h0 l 0 0 h0 [] r T T) {x:It} (j:x∈iq ops) (c:fixed (iq ops) x=true) {D:Nat->Bool} (k:∀y∈iq ops,x.b.testBit y.i=true->D y.i=true)
  {d:Nat} (e:d∈Ao x.o.op.operands.toList) (a:V):pP T.val D d (iq ops) a=pP T.val (λ_=>true) d (iq ops) a:=by
 refine pH (λy f g=>?_) (by simp_all) a;have m:=Oj.1 (Oj.1 c d e) y f
 grind[writes]
theorem zX{o:Oper} {d:Nat} (h:storeAt o=some d):d∈Ao o.op.operands.toList:=by
 grind[pC,Op.operands,Ao]
end
section
variable{a b:It}{da db p:Nat}{l:List It}
theorem UY{H a e:Hp} {la lb:Nat} {i ob:O} (b:la<H.next) (f:lb<H.next) (l:la≠lb) (j:Bw (H.put la i) a) (k:Bw (a.put lb ob) e):Bw ((H.put lb ob).put la i) e:=by
 have c:H.next<=a.next:=j.1;have g:a.next<=e.next:=k.1;refine⟨Fe c g,λx m=>?_⟩;have d:x<H.next:=m;rw[k.2 x (Cc d c)];rw[oR (h:=H.put lb ob) _ _ b,oR (h:=a) _ _ (by omega),oR (h:=H) _ _ f];rw[j.2 x d,oR (h:=H) _ _ b]
 grind
theorem zaz(hc : uF call) (hp:pW (iq ops)=true) (aL:(iq ops).all (BO (iq ops))=true) (ar:(iq ops).all z8=true) (hl:∀a∈l,a∈iq ops)
    (Y:sm n ops.toList (iq ops) (gK (iq ops)) call t0 h0 l 0 0 h0 [] r T T) (hP:zbY ops T a b da db p r)
    (aM:r.1.ds=t0.ds) (hQ:∀Δ' a' w',Ae Δ0 h0 w0 n r.1 r.2 Δ' a' w'->Q .normal a' w') {la lb:Nat} {ob:O} (bc:la<(T.H p).next) (aN:lb<(T.H p).next) (aO:la≠lb)
    (aP:∀t:Tm,jl t da=jl r.1 da->∃oa,(T.G p)=(T.H p).put la oa/\∀k:Hp,k.get la=(T.H p).get la->(∀x∈a.o.op.operands.toList,Alike t (T.tt a.i) x)->(GC a.o).f call t k=some (.undef,k.put la oa))
    (bd:T.G (p+1)=(T.H (p+1)).put lb ob) :
    ∀(fuel:Nat) (c:Array Bool) (m:Act) (w:World) (Δ:Env) (t:Tm),c.toList.count false<=fuel->zaL n ops t0 h0 Δ0 w0 T a.i ((T.H p).put lb ob) c Δ t m w->wpAny P0 .any ops Q fuel c m w:=by
  have ha:a∈iq ops:=(oZ (mm.2 ⟨_,hP.ga⟩)).1;have hb:b∈iq ops:=(oZ (mm.2 ⟨_,hP.gb⟩)).1;have aQ:=zU hP.sa;have aR:=zU hP.sb;have aS:a.i≠b.i:=λe=>by
    have:=Is hP.ga hP.gb e;omega
  have au:a∈gK (iq ops):=mm.2 ⟨_,hP.ga⟩;have aw:b∈gK (iq ops):=mm.2 ⟨_,hP.gb⟩;have L:∀{c Δ t m w},zaL n ops t0 h0 Δ0 w0 T a.i ((T.H p).put lb ob) c Δ t m w->c.getD a.i false=false:=λg=>by
    cases h:Array.getD _ a.i false with
    |false=>rfl
    |true=>exact absurd rfl ((g.ahead a au).1 h)
  have ah:∀{c Δ t m w},zaL n ops t0 h0 Δ0 w0 T a.i ((T.H p).put lb ob) c Δ t m w->c.getD b.i false=true:=λg=>(g.ahead b aw).2 (λe=>aS e.symm);intro fuel
  induction fuel with
  | zero=>
    intro c m w Δ t ax g;exfalso;have k:=L g;have M:a.i<c.size:=by rw[g.size];exact(VP.1 (Km ha)).1
    have:false∈c.toList:=by
      have:c[a.i]=false:=by simpa[M]using k
      rw[<-this];simp
    have:=List.count_pos_iff.2 this
    omega
  | succ fuel ih=>
    intro c m w Δ t ax g;refine⟨λhr=>?_,λi hi=>?_⟩
    ·exfalso
     have ay : ∀i,i<ops.size->c.getD i false=true:=by
       intro i
       induction i using Nat.strongRecOn with
       | _ i aT=>
         intro hi
         cases Z:c.getD i false with
         |true=>rfl
         | false=>
           exfalso;have ho:ops[i]? =some ops[i]:=Array.getElem?_eq_getElem hi;obtain⟨x,hx,aU,aV,_⟩:=J9 ho;have F:i∈Region.ready .any ops c:=by
             rw[mem_ready];refine⟨?_,ops[i],ho,λe he aA=>?_⟩
             ·have:i<c.size:=by rw[g.size];exact hi
              simp[this]at Z⊢;exact Z
             ·have k:=Oj.1 ar x hx
              unfold z8 at k;rw[aV,aU]at k;have h2:=Oj.1 k e (by simpa using he);rw[<-Eh,aA]at h2;simp only[wB3,Bool.false_or,Nn]at h2;exact aT e.on h2 (by omega)
           rw[hr]at F;cases F
     have:=ay a.i (VP.1 (Km ha)).1;rw[L g]at this;cases this
    rw[mem_ready]at hi;obtain⟨oD,o,ho,aa⟩:=hi;obtain⟨y,X,ai,u,aj⟩:=J9 ho;have M:i<c.size:=by rw[g.size];exact(VP.1 ho).1
    have N:c.getD y.i false=false:=by rw[ai];simp[M]at oD⊢;exact oD
    have I:∀x∈iq ops,y.b.testBit x.i=true->c.getD x.i false=true:=by
      intro x hx Z;obtain⟨e,he,aW,k⟩:=KB aj Z;rw[u]at he;have P:=aa e (by simpa using he) (by rw[Eh];exact aW);rcases k with k|⟨z,A,E⟩
      ·rw[k];exact P
      ·have be:=sx _ _ A
       exact g.closed z (mm.2 ⟨_,A⟩) (by simp_all) x hx E
    have ab:∀y∈iq ops,y∈l:=by
      intro y X;rcases Y.done y X with k|k
      ·simp at k
      ·grind[uE]
    obtain ⟨D,B⟩:=Y.item y (ab y X);have ac:∀d,d∈oO y.o->jl t d=jl (T.tt y.i) d:=λd K=>by
      rw[g.nV d,B.nV d];exact FZ sx hp X g.closed B.closed I B.ez N B.fresh K _ _
    have J:∀x∈y.o.op.operands.toList,Alike t (T.tt y.i) x:=GB λd K=>ac d (by simp[oO,K]);obtain⟨d,K⟩:=B.dst;have R:∀i',(c.setIfInBounds i true).getD i' false=(c.getD i' false ||decide (y.i=i')):=λi'=>by
      by_cases e:i=i'
      ·subst e;simp[M,ai]
      simp_all
    have S:(c.setIfInBounds i true).toList.count false<=fuel:=by
      have k:c.toList[i]? =some false:=by
        rw[X2];have:c.getD y.i false=false:=N;rw[ai]at this;simpa[M]using this
      have:=count_set c.toList i k;rw[Array.toList_setIfInBounds];omega
    have s:yW (iq ops) (λi'=>(c.setIfInBounds i true).getD i' false):=by
      intro x hx U z A E;simp only[R,PR,CH]at U⊢;rcases U with U|U
      ·exact .inl (g.closed x hx U z A E)
      ·grind[uE]
    have C:∀d',jl (d.f t (T.val y.i)) d' = pP T.val (λi'=>(c.setIfInBounds i true).getD i' false) d' (iq ops) (jl t0 d'):=λd'=>by
      rw[GG K,En sx hp X g.closed N R (val:=T.val) (L8:=T.val) (λ_ _=>rfl) d' (jl t0 d'),g.nV d']
    have aB:h0.next<=(T.H p).next:=Fe Y.more.1 (Eb Y.chain p p (by omega) (by have:=hP.len;omega));have ak:y.i≠a.i->cls y.o=0/\Du y.o=true/\y.o.guard=none/\y.b.testBit a.i=false/\y.b.testBit b.i=false:=λag=>by
      have aX:y.i≠b.i:=by grind
      refine Mf hP.op X ag aX λ⟨_,aC⟩=>?_;have:=g.closed b hb (ah g) y X aC
      simp_all
    by_cases hya:y.i=a.i
    ·
      have aD:=uE X ha hya;subst aD;have P:Region.wanted o (yielded ops m.tmps)=true:=by
        obtain⟨_,_,_,hg,_⟩:=pC hP.sa;unfold Region.wanted;rw[<-u,hg]
      unfold wpOp;simp only[ho];rw[P];simp only[if_true];left;obtain⟨oa,bf,aE⟩:=aP t (by
        rw[g.nV da,Y.nV da];exact IK Y X hP.fa I (zX hP.sa) _)
      have al:=aE ((T.H p).put lb ob) (by rw[oR _ _ aN,if_neg (λe=>aO e.symm)]) J;rw[<-u];refine MK hc g.world g.tmps al λΔ' x w' V=>?_;rw[u];have hlen:=hP.len;have ba:=Y.chain p (LK _) (by omega);have aY:=Y.chain (p+1) (LK _) (by omega);have hm:Bw (((T.H p).put lb ob).put la oa) (T.H (p+2)):=by grind[UY]
      have am:∀q z,(gK (iq ops))[q]? =some z->((c.setIfInBounds i true).getD z.i false=true↔q<p+2):=λq z A=>by
        have aZ:=(jq.1 A).1;constructor
        ·intro _;omega
        ·intro _
         rw[R];by_cases e:z.i=y.i
         ·simp[e]
         ·rw[(g.ahead z (mm.2 ⟨_,A⟩)).2 e];rfl
      have bb:T.val y.i = .undef\/True:= .inr trivial;have aF:(d.f t (T.val y.i)).ds=t0.ds:=by rw[wm K];exact g.defers
      have ae:y.o.dst=none:=by obtain⟨_,_,_,_,h5,_⟩:=pC hP.sa;exact h5
      have a4:TR Δ' n (d.f t (T.val y.i)) (m.put o.dst x):=by
        have k:=HY (g.tmps.mono V.frame.le) K (v:= .undef) V.val;rw[u]at k;have e:d.f t (T.val y.i)=d.f t .undef:=by
          unfold w9 at K;rw[ae]at K;cases K;rfl
        rw[e];exact k
      refine Te hc hp aL ar (T:=T) (p+2) (λfuel c m w j Δ t a' hj _ a5 a6 aG an _ ag=>?_) hl Y aM hQ fuel _ _ _ (p+2) Δ' (d.f t (T.val y.i)) (iZ _) S
        ⟨by simp[g.size],s,by omega,am,a4,C,V.world.Nj hm,g.frame.trans V.frame,λl' k h2=>V.grow.none _ (g.none l' k h2) (Cc h2 aB),aF,λz A aH bg ao _=>?_⟩
      ·exfalso
       have F:a'∈gK (iq ops):=by unfold gK;rw[Ic];exact⟨a6,by rw[aG];rfl⟩
       obtain⟨q,hq⟩:=mm.1 F;have k:=(jq.1 hq).1;have:=(a5.ahead _ a' hq).2 (by omega);rw[an]at this;cases this
      ·exfalso
       rw[R]at ao;simp only[Bool.or_eq_false_iff,decide_eq_false_iff_not]at ao;have E:z.i≠b.i:=by grind
       have:=Mf hP.op A (λe=>ao.2 e.symm) E (by grind);rw[this.1]at aH;cases aH
    ·
      obtain⟨ap,A4,aI,bh,aC⟩:=ak hya;have a7:oS n ops.toList y.o (T.tt y.i)=some true:=by unfold oS jW;rw[aI]
      have P:T.on y.i=true:=by
        have:=B.oS;rw[a7]at this;exact(Option.some.inj this).symm
      have W:Region.wanted o (yielded ops m.tmps)=true:=by
        unfold Region.wanted;rw[<-u,aI]
      have hlen :=hP.len;have a8:T.ep y.i<=p:=by
        have k:=B.epw (by rw[ap];decide)
        cases he:T.ep y.i with
        |zero=>omega
        | succ e=>
          rw[he]at k;simp only[JW]at k;split at k
          ·rename_i z A
           have aZ:=(jq.1 A).1;rcases Rl e p with h|h
           ·omega
           ·exfalso
            have:e=p\/e=p+1:=by omega
            rcases this with e1|e1
            ·subst e1
             rw[hP.ga]at A;simp_all
            ·subst e1
             rw[hP.gb]at A;simp_all
          ·cases k
      have aq:p<=late (gK (iq ops)) y:=by
        rcases Rl (late (gK (iq ops)) y) p with h|h
        ·exfalso
         obtain ⟨z,A,E⟩:=Iz (gK (iq ops)) y (by omega);have aJ:z∈gK (iq ops):=mm.2 ⟨_,A⟩;have a9:z.i≠a.i:=λe=>by
           have:=Is A hP.ga e;omega
         have:=g.closed z (oZ aJ).1 ((g.ahead z aJ).2 a9) y X E
         simp_all
        ·exact h
      have aK:=B.pure ap P p a8 (by omega) aq;rw[<-FT (h:=T.H p) J,Po A4 t _ ((T.H p).put lb ob)]at aK;have al:(GC y.o).f call t ((T.H p).put lb ob)=some (T.val y.i,(T.H p).put lb ob):=by
        unfold GC;rw[ap];simp only[fh];exact⟨_,aK,rfl⟩
      unfold wpOp;simp only[ho];rw[W];simp only[if_true];left;rw[<-u];refine MK hc g.world g.tmps al λΔ' x w' V=>?_;rw[u];refine ih _ _ _ Δ' (d.f t (T.val y.i)) S ⟨by simp[g.size],s,λz A=>?_,?_,C,V.world,g.frame.trans V.frame,λl' k h2=>V.grow.none _ (g.none l' k h2) (Cc h2 aB),by rw[wm K];exact g.defers⟩
      ·rw[R]
       have:¬y.i=z.i:=by grind[uE,oZ]
       simp only[this,decide_false,Bool.or_false];exact g.ahead z A
      ·have k:=HY (g.tmps.mono V.frame.le) K V.val
       rw[u]at k;exact k
end
section
variable{a b:It}{da db p:Nat}{l:List It}
theorem WT(hc:uF call) (hp:pW (iq ops)=true) (aB:(iq ops).all (BO (iq ops))=true) (aC:(iq ops).all z8=true) (hl:∀a∈l,a∈iq ops)
  (G:sm n ops.toList (iq ops) (gK (iq ops)) call t0 h0 l 0 0 h0 [] r T T) (hP:zbY ops T a b da db p r)
  (aD:r.1.ds=t0.ds) (hQ:∀Δ' a' w',Ae Δ0 h0 w0 n r.1 r.2 Δ' a' w'->Q .normal a' w')
  (fuel:Nat) (c:Array Bool) (I:Act) (w:World) (j:Nat) (Δ:Env) (t:Tm) (y:It) (_:0<=j) (aU:c.toList.count false<=fuel+1) (m:Inv n ops t0 h0 Δ0 w0 T c j Δ t I w) (hy:y∈iq ops)
  (aj:cls y.o=2) (J:c.getD y.i false=false) (g:∀x∈iq ops,y.b.testBit x.i=true->c.getD x.i false=true) (a4:(gK (iq ops))[j]?≠some y) :
  wpOp P0 ops Q y.i (wpAny P0 .any ops Q fuel (c.setIfInBounds y.i true)) I w:=by
 have hlen:=hP.len;have ha:a∈iq ops:=(oZ (mm.2 ⟨_,hP.ga⟩)).1;have hb:b∈iq ops:=(oZ (mm.2 ⟨_,hP.gb⟩)).1;have ak:y∈gK (iq ops):=by unfold gK;rw[Ic];exact by simp_all
 obtain ⟨q,hq⟩:=mm.1 ak;have a5:=(jq.1 hq).1;have a6:¬q<j:=λh=>by
  have:=(m.ahead _ y hq).2 h
  simp_all
 have a7:q≠j:=by grind
 have aE:q=p+1/\j=p:=by
  obtain⟨e,rfl⟩:∃e,q=e+1:=⟨q-1,by omega⟩
  have V:e<(gK (iq ops)).length:=by omega
  have hg:=ig V;rcases Rl e p with h|h
  ·exfalso;have ab:=(Gm hP.ch e _ y hg hq (by omega)).1;have:=(m.ahead e _ hg).1 (g _ (oZ (BG V)).1 ab);omega
  ·have he:e=p:=by omega
   subst he;refine⟨rfl,?_⟩;rcases Rl j e with h2|h2
   ·exfalso;obtain⟨f,rfl⟩:∃f,e=f+1:=⟨e-1,by omega⟩
    have al:f<(gK (iq ops)).length:=by omega
    have am:=ig al;have ab:=(Gm hP.ch f _ a am hP.ga (by omega)).2 (by omega) y hq;have:=(m.ahead f _ am).1 (g _ (oZ (BG al)).1 ab);omega
   ·omega
 obtain⟨rfl,rfl⟩:=aE;have aF:y=b:=by rw[hP.gb]at hq;cases hq;rfl
 subst aF;have C:∀y∈iq ops,y∈l:=by
  intro y hy;rcases G.done y hy with B|B
  ·simp at B
  ·grind[uE]
 obtain ⟨D,s⟩:=G.item y (C y hy);obtain⟨Da,u⟩:=G.item a (C a ha);have K:=zU hP.sa;have epw:∀{x:It} {D:Nat->Bool} {k:Nat},KT n ops.toList (iq ops) (gK (iq ops)) call t0 h0 T D x->cls x.o=2->(gK (iq ops))[k]? =some x->T.ep x.i=k:=λ{x D k} W aG a8=>by
  have B:=(W.write aG).1
  grind[Zq,Is,zR]
 have an:=epw s aj hP.gb;have ao:=epw u K hP.ga;have X:∀{x:It} {D:Nat->Bool} {d:Nat},KT n ops.toList (iq ops) (gK (iq ops)) call t0 h0 T D x->storeAt x.o=some d->T.on x.i=true:=λ{x D d} W hs=>by
  obtain⟨_,_,_,hg,_⟩:=pC hs;have:=W.oS
  grind[oS,jW,Option.some.inj]
 have P:∀d,d∈oO y.o->jl t d=jl (T.tt y.i) d:=λd O=>by
  rw[m.nV d,s.nV d];exact FZ sx hp hy m.closed s.closed g s.ez J s.fresh O _ _
 have R:∀x∈y.o.op.operands.toList,Alike t (T.tt y.i) x:=by grind[GB,oO]
 have Y:=(u.write K).2.1 (X u hP.sa);rw[ao]at Y;obtain⟨_,la,aV,ea,aH,a9,ap,aI,aJ,ac,aK⟩:=HV hP.sa Y;have E:=(s.write aj).2.1 (X s hP.sb);rw[an]at E;obtain⟨_,lb,aW,eb,ba,bb,aX,bc,bd,be,_⟩:=HV hP.sb E;rw[<-Kq (h:=T.H (j+1)) R]at E;obtain⟨_,A,aL,aM,aq,aY,ae,Z,aZ,ar,ag⟩:=HV hP.sb E;have e1:=P db (by simp[oO,zX hP.sb]);have aN:jl (T.tt a.i) da=jl r.1 da:=by
  rw[u.nV da,G.nV da];exact IK G ha hP.fa u.ez (zX hP.sa) _
 have aO:jl t db=jl r.1 db:=by
  rw[m.nV db,G.nV db];exact IK G hy hP.fb g (zX hP.sb) _
 have au:la≠A:=λe=>by
  have:=hP.apart;rw[<-aN,<-aO,aI,Z,e]at this;have h2:(!(Nat.beq A A))=true:=this
  simp_all
 have aw:la<(T.H j).next:=Hp.KW aJ;have ax:A<(T.H j).next:=by
  have B:=m.tmps.rel db;rw[Z]at B
  cases W:I.tmps.getD db undef with
  | pointer p=>
    rw[W]at B
    cases B with
    |ptr _ _ d O=>exact m.world.fresh _ _ O
  |_=>rw[W]at B;cases B
 have aP:=G.chain j (LK _) (by omega);have ay:(T.H j).get A=(T.H (j+1)).get A:=by
  rw[aP.2.2 A (by rw[ac];exact ax),ac,oR _ _ aw,if_neg au]
 have aQ:=ag (T.H j) ay;have aa:=Km hy;have L:Region.wanted y.o (yielded ops I.tmps)=true:=by
  obtain⟨_,_,_,hg,_⟩:=pC hP.sb;unfold Region.wanted;rw[hg]
 obtain⟨d,O⟩:=s.dst;have aA:y.i<c.size:=by rw[m.size];exact(VP.1 aa).1
 have ah:∀S,(c.setIfInBounds y.i true).getD S false=(c.getD S false ||decide (y.i=S)):=λS=>by
  by_cases e:y.i=S
  ·rw[<-e];simp[aA]
  simp_all
 have ai:(c.setIfInBounds y.i true).toList.count false<=fuel:=by
  have B:c.toList[y.i]? =some false:=by
   rw[X2];simpa[aA]using J
  have:=count_set c.toList y.i B;rw[Array.toList_setIfInBounds];omega
 have F:yW (iq ops) (λS=>(c.setIfInBounds y.i true).getD S false):=by
  intro x W M z hz aR;simp only[ah,PR,CH]at M⊢;rcases M with M|M
  ·exact .inl (m.closed x W M z hz aR)
  ·grind[uE]
 have N:∀d',jl (d.f t (T.val y.i)) d' = pP T.val (λS=>(c.setIfInBounds y.i true).getD S false) d' (iq ops) (jl t0 d'):=λd'=>by
  rw[GG O,En sx hp hy m.closed J ah (val:=T.val) (L8:=T.val) (λ_ _=>rfl) d' (jl t0 d'),m.nV d']
 have aS:h0.next<=(T.H j).next:=Fe G.more.1 (Eb G.chain j j (by omega) (by omega));unfold wpOp;simp only[aa];rw[L];simp only[if_true];left;refine MK hc m.world m.tmps aQ λΔ' x w' hA=>?_;have U:y.o.dst=none:=by obtain⟨_,_,_,_,h5,_⟩:=pC hP.sb;exact h5
 have aT:TR Δ' n (d.f t (T.val y.i)) (I.put y.o.dst x):=by
  have B:=HY (m.tmps.mono hA.frame.le) O (v:= .undef) hA.val;have e:d.f t (T.val y.i)=d.f t .undef:=by
   unfold w9 at O;rw[U]at O;cases O;rfl
  rw[e];exact B
 refine zaz hc hp aB aC hl G hP aD hQ (la:=la) (lb:=A) (ob:= .cells aM aq true false ae) aw ax au (λt' bf=>⟨.cells ea aH true false ap,ac,λB bg bh=>?_⟩) ar fuel _ _ _ Δ' (d.f t (T.val y.i)) ai
  ⟨by simp[m.size],F,λz hz=>?_,aT,N,hA.world,m.frame.trans hA.frame,λl' B h2=>hA.grow.none _ (m.none l' B h2) (Cc h2 aS),by rw[wm O];exact m.defers⟩
 ·grind[Kq]
 ·obtain ⟨k,hk⟩:=mm.1 hz;have bi:=(jq.1 hk).1;rw[ah];simp only[PR,CH,m.ahead k z hk];constructor
  ·rintro(h|h)
   ·intro e;have:=Is hk hP.ga e;omega
   grind
  ·intro bj;rcases Rl k j with h|h
   ·exact .inl h
   ·right;have bm:k≠j:=λe=>by
     subst e;rw[hP.ga]at hk;simp_all
    have:k=j+1:=by omega
    simp_all
end
end
