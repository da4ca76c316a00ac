/- Parts. -/
import Derived.Test.YtloecllhljfidaaDoorM04
set_option maxHeartbeats 4000000
namespace Go.Proofs.YtloecllhljfidaaDoor.Hx
theorem Ic:∀(ws:List It) (a:It),late ws a<ws.length->∃w,ws[late ws a]? =some w/\w.b.testBit a.i=true
 |[],a,h=>by simp_all
 | w ::ws,a,h=>by
   unfold late at h⊢;split
   ·simp_all
   ·rename_i hb
    simp only[hb,Pb]at h;obtain⟨w',c,d⟩:=Ic ws a (by omega)
    simp_all
theorem Jp:∀{l:List It},Ee l=true->∀(q:Nat) (a b:It),l[q]? =some a->l[q+1]? =some b->b.b.testBit a.i=true
 |[],_,q,a,b,h,_=>by simp_all
 |[x],_,q,a,b,_,h=>by simp_all
 | x::y::l,hc,0,a,b,c,d=>by
   simp_all[Ee,uF]
 | x::y::l,hc,q+1,a,b,c,d=>by
   simp only[Ee,uF]at hc;exact Jp (l:=y::l) hc.2 q a b (by simp_all) (by simp_all)
theorem count_set:∀(l:List Bool) (i:Nat),l[i]? =some false->(l.set i true).count false<l.count false
 |[],i,h=>by simp_all
 |b::l,0,h=>by simp_all
 | b::l,i+1,h=>by
   grind
theorem Qv{n:Nat} {all:List Oper} {o:Oper} {t t':Tm} (h:∀j w a d,o.guard=some (j,w)->all[j]? =some a->a.dst=some d->jw t d=jw t' d):oU n all o t=oU n all o t':=by
 unfold oU ki
 grind
theorem NO{Δ:Env} {n:Nat} {t:Tm} {a:Act} (c:TR Δ n t a) {ops:Array Oper} {o:Oper} {b:Bool} (h:oU n ops.toList o t=some b):Region.wanted o (yielded ops a.tmps)=b:=by
 grind[oU,Nn,Nd]
section
variable{n:Nat}{ops:Array Oper}{call:Call}{t0:Tm}{h0:Hp}{Δ0:Env}{w0:World}{T:Tc}{r:Tm×Hp}{Q:Exit->Act->World->Prop}
abbrev iA(ops:Array Oper):List It:=items ops.toList 0 []
theorem rO(k:Nat) (x:It) (h:(iA ops)[k]? =some x):x.i=k:=by
 have:=(AB _ _ _ _ _ h).1;omega
theorem ui{x y:It} (hx:x∈iA ops) (a:y∈iA ops) (h:x.i=y.i):x=y:=by
 grind[mr,rO]
theorem KO{x:It} (hx:x∈iA ops):ops[x.i]? =some x.o:=by
 obtain⟨i,hi⟩:=mr.1 hx;have a:=rO i x hi;have b:=(AB _ _ _ _ _ hi).2
 simp_all
theorem Kr{i:Nat} {o:Oper} (h:ops[i]? =some o):∃a,a∈iA ops/\a.i=i/\a.o=o/\(iA ops)[i]? =some a:=by
 have c:i<ops.size:=by grind
 have b:i<(iA ops).length:=by rw[GN];simpa using c
 have d:(iA ops)[i]? =some (iA ops)[i]:=by simp_all
 refine⟨(iA ops)[i],EA b,rO _ _ d,?_,d⟩;have e:=(AB _ _ _ _ _ d).2
 simp_all
theorem pK{x:It} (h:x∈gK (iA ops)):x∈iA ops/\cls x.o=2:=by
 grind[gK,zB]
theorem US:(gK (iA ops)).Pairwise λa b=>a.i<b.i:=by
 unfold gK;refine List.Pairwise.filter _ ?_;rw[ZZ];intro i j hi c d;have e:=rO (ops:=ops) i _ (g0 hi);have f:=rO (ops:=ops) j _ (g0 c);omega
theorem Ib{q a:Nat} {x y:It} (hq:(gK (iA ops))[q]? =some x) (b:(gK (iA ops))[a]? =some y) (h:x.i=y.i):q=a:=by
 grind[US,ZZ,jk,wBj]
structure Inv (n:Nat) (ops:Array Oper) (t0:Tm) (h0:Hp) (Δ0:Env) (w0:World) (T:Tc) (b:Array Bool) (j:Nat) (Δ:Env) (t:Tm) (a:Act) (w:World):Prop where
 size:b.size=ops.size
 closed:yn (iA ops) (λi=>b.getD i false)
 WE:j<=(gK (iA ops)).length
 ahead:∀q x,(gK (iA ops))[q]? =some x->(b.getD x.i false=true↔q<j)
 tmps:TR Δ n t a
 oi:∀d,jw t d=p6 T.val (λi=>b.getD i false) d (iA ops) (jw t0 d)
 world:WR Δ (T.H j) w
 frame:FR Δ0 Δ w0 w
 none:∀l,Δ0 l = .none->l<h0.next->Δ l = .none
 defers:t.ds=t0.ds
 zb3:∀x∈iA ops,cls x.o=1->T.on x.i=true->b.getD x.i false=false->T.ep x.i<=j->Δ (T.pl x.i) = .none
theorem TQ(hc:uq call) (hp:qc (iA ops)=true) (aY:(iA ops).all (BL (iA ops))=true) (aZ:(iA ops).all zr=true)
  (j0:Nat) (bz:∀(fuel:Nat) (c:Array Bool) (W:Act) (w:World) (j:Nat) (Δ:Env) (t:Tm) (a:It),j0<=j->c.toList.count false<=fuel+1->Inv n ops t0 h0 Δ0 w0 T c j Δ t W w->a∈iA ops->cls a.o=2->c.getD a.i false=false->
   (∀x∈iA ops,a.b.testBit x.i=true->c.getD x.i false=true)->(gK (iA ops))[j]?≠some a->wpOp P0 ops Q a.i (wpAny P0 .any ops Q fuel (c.setIfInBounds a.i true)) W w)
  {l:List It} (hl:∀a∈l,a∈iA ops) (L:rD n ops.toList (iA ops) (gK (iA ops)) call t0 h0 l 0 0 h0 [] r T T)
  (a5:r.1.ds=t0.ds) (hQ:∀C a' w',zR Δ0 h0 w0 n r.1 r.2 C a' w'->Q .normal a' w') :
  ∀(fuel:Nat) (c:Array Bool) (a:Act) (w:World) (j:Nat) (Δ:Env) (t:Tm),j0<=j->c.toList.count false<=fuel->Inv n ops t0 h0 Δ0 w0 T c j Δ t a w->wpAny P0 .any ops Q fuel c a w:=by
 have X:∀(c:Array Bool),c.size=ops.size->Region.ready .any ops c=[]->∀x∈iA ops,c.getD x.i false=true:=by
  intro c bA hr;have a6:∀i,i<ops.size->c.getD i false=true:=by
   intro i
   induction i using Nat.strongRecOn with
   | _ i ih=>
     intro hi
     cases hb:c.getD i false with
     |true=>rfl
     | false=>
       exfalso;have ho:ops[i]? =some ops[i]:=Array.getElem?_eq_getElem hi;obtain⟨x,hx,a7,a8,_⟩:=Kr ho;have aw:i∈Region.ready .any ops c:=by
         rw[mem_ready];refine⟨?_,ops[i],ho,λe he a9=>?_⟩
         ·simp_all
         ·have p:=O4.1 aZ x hx
          unfold zr at p;rw[a8,a7]at p;have v:=O4.1 p e (by simpa using he);rw[<-Eb,a9]at v;simp only[wCA,Bool.false_or,O6]at v;exact ih e.on v (by omega)
       rw[hr]at aw;cases aw
  intro x hx;exact a6 x.i (Wt.1 (KO hx)).1
 have N:∀(c:Array Bool) (a:Act) (w:World) (j:Nat) (Δ:Env) (t:Tm),Inv n ops t0 h0 Δ0 w0 T c j Δ t a w->(∀x∈iA ops,c.getD x.i false=true)->Q .normal a w:=by
  intro c a w j Δ t k O;have hj:j=(gK (iA ops)).length:=by
   rcases Re j (gK (iA ops)).length with h|h
   ·have hg:=g0 h;have:=(k.ahead j _ hg).1 (O _ (pK (EA h)).1);omega
   ·have:=k.WE;omega
  subst hj;refine hQ Δ a w ⟨⟨k.tmps.size,λi=>?_,by rw[a5,<-k.defers];exact k.tmps.ds⟩,by rw[L.last];exact k.world,k.frame,⟨?_,k.none⟩⟩
  ·have p:=k.tmps.rel i;rw[k.oi i,pg (D':=λ_=>true) (Mj:=T.val) (λx hx _=>O x hx) (λ_ _ _ _=>rfl),<-L.oi i]at p;exact p
  ·rw[L.last];exact BX L.more.1 (DI L.chain _ _ (by rw[wO]) (jb _))
 intro fuel
 induction fuel with
 | zero =>
   intro c a w j Δ t _ aL k;have O:∀x∈iA ops,c.getD x.i false=true:=by
     intro x hx;have Y:x.i<c.size:=by rw[k.size];exact(Wt.1 (KO hx)).1
     cases hb:c.getD x.i false with
     |true=>rfl
     | false=>
       exfalso;have:false∈c.toList:=by
         have:c[x.i]=false:=by simpa[Y]using hb
         rw[<-this];simp
       have:=List.count_pos_iff.2 this;omega
   refine⟨?_,N _ _ _ _ _ _ k O⟩;rw[List.eq_nil_iff_forall_not_mem]
   grind[mem_ready,Kr,Wt]
 | succ fuel ih=>
   intro c W w j Δ t ba aL k;refine⟨λhr=>N _ _ _ _ _ _ k (X _ k.size hr),λi hi=>?_⟩;rw[mem_ready]at hi;obtain⟨vC,o,ho,am⟩:=hi;obtain⟨a,ha,ay,E,aA⟩:=Kr ho;have Y:i<c.size:=by rw[k.size];exact(Wt.1 ho).1
   have P:c.getD a.i false=false:=by rw[ay];simp[Y]at vC⊢;exact vC
   have R:∀x∈iA ops,a.b.testBit x.i=true->c.getD x.i false=true:=by
     intro x hx hb;obtain⟨e,he,bb,p⟩:=Lg aA hb;rw[E]at he;have F:=am e (by simpa using he) (by rw[Eb];exact bb);rcases p with p|⟨y,A,aB⟩
     ·rw[p];exact F
     ·have bC:=rO _ _ A
      exact k.closed y (mr.2 ⟨_,A⟩) (by simp_all) x hx aB
   by_cases hez:cls a.o=2/\(gK (iA ops))[j]?≠some a
   ·grind
   obtain ⟨D,u⟩:∃D,Lv n ops.toList (iA ops) (gK (iA ops)) call t0 h0 T D a:=by
     rcases L.done a ha with p|p
     ·simp at p
     ·obtain⟨b,hb,aC⟩:=GL.1 p
      rw[ui ha (hl b hb) aC.symm];exact L.item b hb
   have I:∀y∈iA ops,y∈l:=by
     intro y A;rcases L.done y A with p|p
     ·simp at p
     ·grind[ui]
   have bc:=I a ha;have an:∀d,d∈pb a.o->jw t d=jw (T.tt a.i) d:=λd hd=>by
     rw[k.oi d,u.oi d];exact Gj rO hp ha k.closed u.closed R u.ez P u.fresh hd _ _
   have J:∀x∈a.o.op.operands.toList,Alike t (T.tt a.i) x:=Ga λd hd=>an d (by simp[pb,hd]);have ao:oU n ops.toList a.o t=some (T.on a.i):=by
     rw[<-u.oU];refine Qv λjg wg oj d hg hj hd=>?_;have B:=O4.1 aY a ha;unfold BL at B;rw[hg]at B;simp only at B
     cases hjt:(iA ops)[jg]? with
     |none=>rw[hjt]at B;cases B
     | some g=>
       rw[hjt]at B;simp only at B;have bd:g.o=oj:=by
         have:=(AB _ _ _ _ _ hjt).2;rw[hj]at this;cases this;rfl
       rw[bd,hd]at B;simp only[uF]at B;obtain⟨ax,aD⟩:=B;have aM:=rO _ _ hjt;have be:g∈iA ops:=mr.2 ⟨_,hjt⟩;rw[k.oi d,u.oi d];refine pg (λx hx bf=>?_) (λ_ _ _ _=>rfl) _;have p:=O4.1 aD x hx;rw[bf]at p;have v:x.i=jg:=by simpa using p
       have S:x=g:=ui hx be (by omega);subst S;rw[R x hx (by rw[aM];exact ax),u.ez x hx (by rw[aM];exact ax)]
   have Z:Region.wanted o (yielded ops W.tmps)=T.on a.i:=by rw[<-E];exact NO k.tmps ao
   obtain ⟨d,hd⟩:=u.dst;have aa:∀i',(c.setIfInBounds i true).getD i' false=(c.getD i' false ||decide (a.i=i')):=λi'=>by
     by_cases e:i=i'
     ·subst e;simp[Y,ay]
     simp_all
   have aE:(c.setIfInBounds i true).toList.count false<=fuel:=by
     have p:c.toList[i]? =some false:=by
       rw[Yk];have:c.getD a.i false=false:=P;rw[ay]at this;simpa[Y]using this
     have:=count_set c.toList i p;rw[Array.toList_setIfInBounds];omega
   have U:yn (iA ops) (λi'=>(c.setIfInBounds i true).getD i' false):=by
     intro x hx ab y A aB;simp only[aa,Rc,D1]at ab⊢;rcases ab with ab|ab
     ·exact .inl (k.closed x hx ab y A aB)
     ·grind[ui]
   have ac:∀d',jw (d.f t (T.val a.i)) d' = p6 T.val (λi'=>(c.setIfInBounds i true).getD i' false) d' (iA ops) (jw t0 d'):=λd'=>by
     rw[GR hd,Ed rO hp ha k.closed P aa (val:=T.val) (Mj:=T.val) (λ_ _=>rfl) d' (jw t0 d'),k.oi d']
   have next:∀(j':Nat) (C:Env) (x:Value) (w':World),fG C (T.val a.i) x->WR C (T.H j') w'->FR Δ C w w'->j'<=(gK (iA ops)).length->
       (∀q y,(gK (iA ops))[q]? =some y->((c.setIfInBounds i true).getD y.i false=true↔q<j'))->
       (∀y∈iA ops,cls y.o=1->T.on y.i=true->(c.setIfInBounds i true).getD y.i false=false->T.ep y.i<=j'->C (T.pl y.i)=none)->
       (∀l,Δ0 l=none->l<h0.next->C l=none)->wpAny P0 .any ops Q fuel (c.setIfInBounds i true) (W.put o.dst x) w':=by
     intro j' C x w' bg bh aN bi ae ap aq;have bj:j<=j':=by
       rcases Re j' j with h|h
       ·exfalso
        have aO:j' < (gK (iA ops)).length:=by have:=k.WE;omega
        have hg:=g0 aO;have p:=(k.ahead j' _ hg).2 h
        grind
       ·exact h
     refine ih _ _ _ j' C (d.f t (T.val a.i)) (BX ba bj) aE ⟨by simp[k.size],U,bi,ae,?_,ac,bh,k.frame.trans aN,aq,by rw[vS hd];exact k.defers,ap⟩;have:=HZ (k.tmps.mono aN.le) hd bg;rw[E]at this;exact this
   have aP:h0.next<=(T.H j).next:=BX L.more.1 (DI L.chain j j (by omega) k.WE);have ag:j<=late (gK (iA ops)) a:=by
     rcases Re (late (gK (iA ops)) a) j with h|h
     ·exfalso
      obtain⟨x,hx,bm⟩:=Ic (gK (iA ops)) a (by have:=k.WE;omega);have p:=(k.ahead _ x hx).2 h;have:=k.closed x (pK (mr.2 ⟨_,hx⟩)).1 p a ha bm
      grind
     ·exact h
   have still:cls a.o≠2->∀q y,(gK (iA ops))[q]? =some y->((c.setIfInBounds i true).getD y.i false=true↔q<j):=by
     intro ar q y hq;rw[aa,<-k.ahead q y hq];have A:=pK (mr.2 ⟨_,hq⟩);have:¬a.i=y.i:=by grind[ui]
     simp[this]
   have aF:cls a.o≠2->T.ep a.i<=j:=by
     intro ar;have p:=u.epw ar
     cases he:T.ep a.i with
     |zero=>omega
     | succ e=>
       rw[he]at p;simp only[Kb]at p
       grind[pK,mr]
   have s:∀y∈iA ops,cls y.o=1->T.on y.i=true->(c.setIfInBounds i true).getD y.i false=false->T.ep y.i<=j->Δ (T.pl y.i)=none/\y.i≠a.i:=by
     intro y A p v S h4;rw[aa]at S;simp only[Bool.or_eq_false_iff,decide_eq_false_iff_not]at S;exact⟨k.zb3 y A p v S.1 h4,λe=>S.2 e.symm⟩
   have K:∀y∈iA ops,cls y.o=1->T.on y.i=true->T.ep y.i<=j->T.pl y.i<(T.H j).next:=by
     intro y A p v S;rcases L.done y A with h4|h4
     ·simp at h4
     ·obtain⟨b,hb,aC⟩:=GL.1 h4
      have:=ui A (hl b hb) aC.symm;subst this;obtain⟨_,ah⟩:=L.item y hb;exact((ah.alloc p v).2.1 j S k.WE).1
   have aG:cls a.o=2->isW (gK (iA ops)) a (T.ep a.i)=true->T.ep a.i=j/\(gK (iA ops))[j]? =some a:=by
     intro _ hw;unfold isW at hw;split at hw
     ·rename_i x hx
      have bn:=ui (pK (mr.2 ⟨_,hx⟩)).1 ha (zB hw);subst bn;have aQ:(gK (iA ops))[j]? =some x:=by
        apply Classical.byContradiction;intro ar;exact hez ⟨(pK (mr.2 ⟨_,hx⟩)).2,ar⟩
      exact⟨Ib hx aQ rfl,aQ⟩
     ·cases hw
   have ai:cls a.o=2->isW (gK (iA ops)) a (T.ep a.i)=true->∀q y,(gK (iA ops))[q]? =some y->((c.setIfInBounds i true).getD y.i false=true↔q<j+1):=by
     intro m hw q y hq;obtain⟨_,hx⟩:=aG m hw;rw[aa];simp only[Rc,D1,k.ahead q y hq];constructor
     ·rintro(h|h)
      ·omega
      ·have:=Ib hx hq h;omega
     ·grind
   have aj:cls a.o=2->isW (gK (iA ops)) a (T.ep a.i)=true->∀(C:Env) (w':World),WR C (T.G j) w'->Gr (T.H j) Δ (T.G j) C->
       ∀y∈iA ops,cls y.o=1->T.on y.i=true->(c.setIfInBounds i true).getD y.i false=false->T.ep y.i<=j+1->C (T.pl y.i)=none:=by
     intro m hw C w' bo bp y A p v S h4;rcases Re j (T.ep y.i)with h5|h5
     ·obtain⟨_,ah⟩:=L.item y (I y A)
      have aR:=(ah.alloc p v).2.2.1 j h5
      cases hd':C (T.pl y.i)with
      |none=>rfl
      |some e=>have:=bo.fresh _ _ hd';omega
     ·exact bp.none _ (s y A p v S h5).1 (K y A p v h5)
   unfold wpOp;simp only[ho];rw[Z]
   cases F:T.on a.i with
   | false=>
     simp only[O8,if_false];have hv:=u.off F;rcases IY a.o with m|m|m
     ·exact next j Δ undef w (by rw[hv];exact .undef Δ) k.world (.refl _ _) k.WE (still (by rw[m];decide)) (by grind) k.none
     ·exact next j Δ undef w (by rw[hv];exact .undef Δ) k.world (.refl _ _) k.WE (still (by rw[m];decide)) (by grind) k.none
     ·obtain⟨z,_,aS⟩:=u.write m
      obtain⟨aH,aI⟩:=aG m z;have hG:=aS F;rw[aH]at hG;have ak:j<(gK (iA ops)).length:=(jk.1 aI).1;obtain⟨br,aJ⟩:=L.chain j (Jw _) ak;have aT:WR Δ (T.G j) w:=by rw[hG];exact k.world
      exact next (j+1) Δ undef w (by rw[hv];exact .undef Δ) (aT.OU aJ) (.refl _ _) ak (ai m z) (aj m z Δ w aT (by rw[hG];exact .refl _ _)) k.none
   | true=>
     simp only[if_true];left;rcases IY a.o with m|m|m
     ·have aU:=u.pure m F j (aF (by rw[m];decide)) k.WE ag
      rw[<-GJ (h:=T.H j) J]at aU;have au:(Gq a.o).f call t (T.H j)=some (T.val a.i,T.H j):=by
        unfold Gq;rw[m];simp only[fj];exact⟨_,aU,rfl⟩
      rw[<-E];refine Nj hc k.world k.tmps au λC x w' V=>?_;rw[E]
      exact next j C x w' V.val V.world V.frame k.WE (still (by rw[m];decide)) (λy A p v S h4=>V.grow.none _ (s y A p v S h4).1 (K y A p v h4))
        (λl' p v=>V.grow.none _ (k.none l' p v) (BF v aP))
     ·obtain ⟨⟨mk,aV,aW⟩,bt,_,aR⟩:=u.alloc m F
      obtain⟨bu,bv⟩:=bt j (aF (by rw[m];decide)) k.WE;have aX:=bv ag;rw[<-Jd J]at aV;obtain⟨mo,mv,al,aK⟩:=PB k.tmps aV;have M:=k.zb3 a ha m F P (aF (by rw[m];decide));obtain⟨dd,hb,bw,bx⟩:=aK (T.pl a.i) w.heap.size M;rw[<-E];unfold Oper.wp;rw[al w,Oper.upon_value,E];refine next j (Δ.set (T.pl a.i) dd) _ _ (by rw[aW];exact bx) (k.world.lay M bu aX hb bw) (FR.lay M hb) k.WE (still (by rw[m];decide)) (λy A p v S h4=>?_) (λl' p v=>?_)
      ·obtain⟨e1,e2⟩:=s y A p v S h4
       have:=L.Tj y (I y A) a bc p m v F e2;unfold Env.set;rw[if_neg this];exact e1
      ·have:l'≠T.pl a.i:=by omega
       unfold Env.set;rw[if_neg this];exact k.none l' p v
     ·obtain ⟨z,al,_⟩:=u.write m
      obtain⟨aH,aI⟩:=aG m z;have au:=al F;rw[aH,<-K6 (h:=T.H j) J]at au;have ak:j<(gK (iA ops)).length:=(jk.1 aI).1;obtain⟨br,aJ⟩:=L.chain j (Jw _) ak;rw[<-E];refine Nj hc k.world k.tmps au λC x w' V=>?_;rw[E]
      exact next (j+1) C x w' V.val (V.world.OU aJ) V.frame ak (ai m z) (aj m z C w' V.world V.grow)
        (λl' p v=>V.grow.none _ (k.none l' p v) (BF v aP))
theorem VB(l:Ee (gK (iA ops))=true) (fuel:Nat) (c:Array Bool) (d:Act) (w:World) (j:Nat) (Δ:Env) (t:Tm) (a:It) (_:0<=j) (_:c.toList.count false<=fuel+1) (m:Inv n ops t0 h0 Δ0 w0 T c j Δ t d w) (z:a∈iA ops)
  (s:cls a.o=2) (p:c.getD a.i false=false) (k:∀x∈iA ops,a.b.testBit x.i=true->c.getD x.i false=true) (u:(gK (iA ops))[j]?≠some a) :
  wpOp P0 ops Q a.i (wpAny P0 .any ops Q fuel (c.setIfInBounds a.i true)) d w:=by
 exfalso;have f:a∈gK (iA ops):=by unfold gK;rw[HS];exact by simp_all
 obtain ⟨q,hq⟩:=mr.1 f;have v:¬q<j:=λh=>by
  have:=(m.ahead _ a hq).2 h
  simp_all
 have y:q≠j:=by grind
 obtain⟨e,rfl⟩:∃e,q=e+1:=⟨q-1,by omega⟩
 have g:e<(gK (iA ops)).length:=by have:=(jk.1 hq).1;omega
 have r:=g0 g;have hb:=Jp l e _ a r hq;have:=(m.ahead e _ r).1 (by grind[pK,EA]);omega
theorem ka{x:Operand} (hx:Oj x=true) (t:Tm) (h h':Hp):(qJ x).f t h=(qJ x).f t h':=by
 cases x <;> first|rfl|grind[Oj]
theorem Qe{o:Oper} (a:Dn o=true) (t:Tm) (h h':Hp):(iz o).f t h=(iz o).f t h':=by
 unfold Dn at a;unfold iz;split at a
 ·grind[ka]
 ·grind[yh,ka]
 ·grind[pA,ka]
 ·rename_i b;rw[b];rw[uF]at a
  grind[pR,ka]
 ·cases a
theorem pt{o:Oper} {d:Nat} (h:storeAt o=some d):∃ty x,o.op = .store ty (.tmp d) x/\o.guard=none/\o.dst=none/\Oj x=true:=by
 grind[storeAt]
theorem zG{o:Oper} {d:Nat} (h:storeAt o=some d):cls o=2:=by
 grind[pt,cls]
theorem HW{o:Oper} {d:Nat} (hs:storeAt o=some d) {call:Call} {t:Tm} {h h':Hp} {v:V} (hv:(Gq o).f call t h=some (v,h')) :
  v = .undef/\∃l off e sz cs ot,jw t d = .ptr l off/\h.get l=some (.cells e sz true false cs)/\h' = h.put l (.cells e sz true false ot)/\
   ∀b:Hp,b.get l=h.get l->(Gq o).f call t b=some (.undef,b.put l (.cells e sz true false ot)):=by
 obtain⟨ty,x,j,_,_,hx⟩:=pt hs;have p:=zG hs
 have c:∀h,(Gq o).f call t h=oB ((jL o).f t h) λr=>match r with
   | .val v h=>some (v,h)
   | .call f args=>call f args h:=by
  intro h;unfold Gq;split
  ·omega
  ·omega
  ·rfl
 rw[c,fj]at hv;obtain⟨r,b,q⟩:=hv
 have k:∀h,(jL o).f t h=match wZ ty with
   |some n=>oB ((qJ (.tmp d)).f t h) λa=>oB ((qJ x).f t h) λv=>yz a λl off=>bB (Nat.beq v.cells.length n) (oB (CK h l off v.cells) λh=>some (.val .undef h))
   |none=>none:=by
  intro h;unfold jL;rw[j];simp only;generalize wZ ty=z;cases z <;> rfl
 rw[k]at b
 cases hn:wZ ty with
 |none=>simp_all
 | some n=>
   rw[hn]at b;simp only[fj,uE,gP]at b;obtain⟨a,s,vv,u,l,off,rfl,hlen,C,g,w⟩:=b;cases w;cases q;have i:jw t d = .ptr l off:=Option.some.inj (show some (jw t d)=some (V.ptr l off) from s);unfold CK at g;simp only[km,gP,fj,wBh]at g;obtain⟨e,sz,live,ro,cs,y,rfl,rfl,m,ot,A,G2⟩:=g;cases G2;refine⟨rfl,l,off,e,sz,cs,ot,i,y,rfl,λb B=>?_⟩;rw[c,fj];refine⟨.val .undef (b.put l (.cells e sz true false ot)),?_,rfl⟩;rw[k,hn];simp only[fj,uE,gP];refine⟨.ptr l off,by rw[<-i];rfl,vv,by grind[ka],l,off,rfl,hlen,b.put l (.cells e sz true false ot),?_,rfl⟩;unfold CK;simp only[km,gP,fj,wBh]
   grind
theorem KV:∀{l:List It} {a b:It},JS l=some (a,b)->∃p,l.length=p+2/\l[p]? =some a/\l[p+1]? =some b
 |[],_,_,h=>by cases h
 |[_],_,_,h=>by cases h
 |[x,y],a,b,h=>by cases h;simp_all
 | _::y::z::l,a,b,h=>by
   obtain⟨p,c,d,e⟩:=KV (l:=y::z::l) h;exact⟨p+1,by simp_all,by grind,by simp_all⟩
theorem FL:∀{l:List It},GB l=true->∀(q:Nat) (a b:It),l[q]? =some a->l[q+1]? =some b->q+2<l.length->b.b.testBit a.i=true/\(q+3=l.length->∀c,l[q+2]? =some c->c.b.testBit a.i=true)
 |[],_,q,a,b,h,_,_=>by simp_all
 |[x],_,q,a,b,_,h,_=>by simp_all
 |[x,y],_,q,a,b,_,_,h=>by grind
 | x::y::z::l,hc,0,a,b,d,e,_=>by
   simp at d e;subst d;subst e;simp only[GB,uF]at hc
   grind
 | x::y::z::l,hc,q+1,a,b,d,e,f=>by
   simp only[GB,uF]at hc;have:=FL (l:=y::z::l) hc.2 q a b (by simp_all) (by simp_all) (by simp_all)
   simp_all
theorem PD{jM ws:List It} {a b:It} {da db:Nat} (h:G0 jM ws=some (a,b,da,db)) :
  JS ws=some (a,b)/\storeAt a.o=some da/\storeAt b.o=some db/\fixed jM a=true/\fixed jM b=true/\Oh jM a b=true/\GB ws=true:=by
 unfold G0 at h
 grind
structure zba (n:Nat) (ops:Array Oper) (t0:Tm) (h0:Hp) (Δ0:Env) (w0:World) (T:Tc) (c:Nat) (e:Hp) (b:Array Bool) (Δ:Env) (t:Tm) (a:Act) (w:World):Prop where
 size:b.size=ops.size
 closed:yn (iA ops) (λi=>b.getD i false)
 ahead:∀x∈gK (iA ops),(b.getD x.i false=true↔x.i≠c)
 tmps:TR Δ n t a
 oi:∀d,jw t d=p6 T.val (λi=>b.getD i false) d (iA ops) (jw t0 d)
 world:WR Δ e w
 frame:FR Δ0 Δ w0 w
 none:∀l,Δ0 l = .none->l<h0.next->Δ l = .none
 defers:t.ds=t0.ds
section
variable{a b:It}{da db p:Nat}
structure zcr (ops:Array Oper) (T:Tc) (a b:It) (da db p:Nat) (r:Tm×Hp):Prop where
 len:(gK (iA ops)).length=p+2
 ga:(gK (iA ops))[p]? =some a
 gb:(gK (iA ops))[p+1]? =some b
 sa:storeAt a.o=some da
 sb:storeAt b.o=some db
 fa:fixed (iA ops) a=true
 fb:fixed (iA ops) b=true
 op:Oh (iA ops) a b=true
 ch:GB (gK (iA ops))=true
 apart:Xo (jw r.1 da) (jw r.1 db)=true
theorem Nb(h:Oh (iA ops) a b=true) {x:It} (hx:x∈iA ops) (c:x.i≠a.i) (hb:x.i≠b.i) (d:¬(a.b.testBit x.i=true/\b.b.testBit x.i=true)) :
  cls x.o=0/\Dn x.o=true/\x.o.guard=none/\x.b.testBit a.i=false/\x.b.testBit b.i=false:=by
 have:=O4.1 h x hx;simp only[Rc,uF,wBh,Option.isNone_iff_eq_none]at this
 grind[absurd,zB]
theorem Il{l:List It} (h:rD n ops.toList (iA ops) (gK (iA ops)) call t0 h0 l 0 0 h0 [] r T T) {x:It} (hx:x∈iA ops) (c:fixed (iA ops) x=true) {D:Nat->Bool} (j:∀y∈iA ops,x.b.testBit y.i=true->D y.i=true)
  {d:Nat} (e:d∈Ac x.o.op.operands.toList) (a:V):p6 T.val D d (iA ops) a=p6 T.val (λ_=>true) d (iA ops) a:=by
 refine pg (λy f g=>?_) (by simp_all) a;have k:=O4.1 (O4.1 c d e) y f
 grind[writes]
theorem zz{o:Oper} {d:Nat} (h:storeAt o=some d):d∈Ac o.op.operands.toList:=by
 grind[pt,Op.operands,Ac]
end
section
variable{a b:It}{da db p:Nat}{l:List It}
theorem V7{H a e:Hp} {la lb:Nat} {i ob:O} (b:la<H.next) (f:lb<H.next) (l:la≠lb) (j:zV (H.put la i) a) (k:zV (a.put lb ob) e):zV ((H.put lb ob).put la i) e:=by
 have c:H.next<=a.next:=j.1;have g:a.next<=e.next:=k.1;refine⟨BX c g,λx hx=>?_⟩;have d:x<H.next:=hx;rw[k.2 x (BF d c)];rw[oY (h:=H.put lb ob) _ _ b,oY (h:=a) _ _ (by omega),oY (h:=H) _ _ f];rw[j.2 x d,oY (h:=H) _ _ b]
 grind
theorem zbu(hc : uq call) (hp:qc (iA ops)=true) (aL:(iA ops).all (BL (iA ops))=true) (ar:(iA ops).all zr=true) (hl:∀a∈l,a∈iA ops)
    (Y:rD n ops.toList (iA ops) (gK (iA ops)) call t0 h0 l 0 0 h0 [] r T T) (hP:zcr ops T a b da db p r)
    (aM:r.1.ds=t0.ds) (hQ:∀Δ' a' w',zR Δ0 h0 w0 n r.1 r.2 Δ' a' w'->Q .normal a' w') {la lb:Nat} {ob:O} (bd:la<(T.H p).next) (aN:lb<(T.H p).next) (aO:la≠lb)
    (aP:∀t:Tm,jw t da=jw r.1 da->∃oa,(T.G p)=(T.H p).put la oa/\∀k:Hp,k.get la=(T.H p).get la->(∀x∈a.o.op.operands.toList,Alike t (T.tt a.i) x)->(Gq a.o).f call t k=some (.undef,k.put la oa))
    (be:T.G (p+1)=(T.H (p+1)).put lb ob) :
    ∀(fuel:Nat) (c:Array Bool) (m:Act) (w:World) (Δ:Env) (t:Tm),c.toList.count false<=fuel->zba n ops t0 h0 Δ0 w0 T a.i ((T.H p).put lb ob) c Δ t m w->wpAny P0 .any ops Q fuel c m w:=by
  have ha:a∈iA ops:=(pK (mr.2 ⟨_,hP.ga⟩)).1;have hb:b∈iA ops:=(pK (mr.2 ⟨_,hP.gb⟩)).1;have aQ:=zG hP.sa;have aR:=zG hP.sb;have aS:a.i≠b.i:=λe=>by
    have:=Ib hP.ga hP.gb e;omega
  have au:a∈gK (iA ops):=mr.2 ⟨_,hP.ga⟩;have aw:b∈gK (iA ops):=mr.2 ⟨_,hP.gb⟩;have L:∀{c Δ t m w},zba n ops t0 h0 Δ0 w0 T a.i ((T.H p).put lb ob) c Δ t m w->c.getD a.i false=false:=λg=>by
    cases h:Array.getD _ a.i false with
    |false=>rfl
    |true=>exact absurd rfl ((g.ahead a au).1 h)
  have ah:∀{c Δ t m w},zba n ops t0 h0 Δ0 w0 T a.i ((T.H p).put lb ob) c Δ t m w->c.getD b.i false=true:=λg=>(g.ahead b aw).2 (λe=>aS e.symm);intro fuel
  induction fuel with
  | zero=>
    intro c m w Δ t ax g;exfalso;have k:=L g;have M:a.i<c.size:=by rw[g.size];exact(Wt.1 (KO ha)).1
    have:false∈c.toList:=by
      have:c[a.i]=false:=by simpa[M]using k
      rw[<-this];simp
    have:=List.count_pos_iff.2 this
    omega
  | succ fuel ih=>
    intro c m w Δ t ax g;refine⟨λhr=>?_,λi hi=>?_⟩
    ·exfalso
     have ay : ∀i,i<ops.size->c.getD i false=true:=by
       intro i
       induction i using Nat.strongRecOn with
       | _ i aT=>
         intro hi
         cases Z:c.getD i false with
         |true=>rfl
         | false=>
           exfalso;have ho:ops[i]? =some ops[i]:=Array.getElem?_eq_getElem hi;obtain⟨x,hx,aU,aV,_⟩:=Kr ho;have F:i∈Region.ready .any ops c:=by
             rw[mem_ready];refine⟨?_,ops[i],ho,λe he aA=>?_⟩
             ·have:i<c.size:=by rw[g.size];exact hi
              simp[this]at Z⊢;exact Z
             ·have k:=O4.1 ar x hx
              unfold zr at k;rw[aV,aU]at k;have h2:=O4.1 k e (by simpa using he);rw[<-Eb,aA]at h2;simp only[wCA,Bool.false_or,O6]at h2;exact aT e.on h2 (by omega)
           rw[hr]at F;cases F
     have:=ay a.i (Wt.1 (KO ha)).1;rw[L g]at this;cases this
    rw[mem_ready]at hi;obtain⟨vC,o,ho,aa⟩:=hi;obtain⟨y,X,ai,u,aj⟩:=Kr ho;have M:i<c.size:=by rw[g.size];exact(Wt.1 ho).1
    have N:c.getD y.i false=false:=by rw[ai];simp[M]at vC⊢;exact vC
    have I:∀x∈iA ops,y.b.testBit x.i=true->c.getD x.i false=true:=by
      intro x hx Z;obtain⟨e,he,aW,k⟩:=Lg aj Z;rw[u]at he;have P:=aa e (by simpa using he) (by rw[Eb];exact aW);rcases k with k|⟨z,A,E⟩
      ·rw[k];exact P
      ·have bf:=rO _ _ A
       exact g.closed z (mr.2 ⟨_,A⟩) (by simp_all) x hx E
    have ab:∀y∈iA ops,y∈l:=by
      intro y X;rcases Y.done y X with k|k
      ·simp at k
      ·grind[ui]
    obtain ⟨D,B⟩:=Y.item y (ab y X);have ac:∀d,d∈pb y.o->jw t d=jw (T.tt y.i) d:=λd K=>by
      rw[g.oi d,B.oi d];exact Gj rO hp X g.closed B.closed I B.ez N B.fresh K _ _
    have J:∀x∈y.o.op.operands.toList,Alike t (T.tt y.i) x:=Ga λd K=>ac d (by simp[pb,K]);obtain⟨d,K⟩:=B.dst;have R:∀i',(c.setIfInBounds i true).getD i' false=(c.getD i' false ||decide (y.i=i')):=λi'=>by
      by_cases e:i=i'
      ·subst e;simp[M,ai]
      simp_all
    have S:(c.setIfInBounds i true).toList.count false<=fuel:=by
      have k:c.toList[i]? =some false:=by
        rw[Yk];have:c.getD y.i false=false:=N;rw[ai]at this;simpa[M]using this
      have:=count_set c.toList i k;rw[Array.toList_setIfInBounds];omega
    have s:yn (iA ops) (λi'=>(c.setIfInBounds i true).getD i' false):=by
      intro x hx U z A E;simp only[R,Rc,D1]at U⊢;rcases U with U|U
      ·exact .inl (g.closed x hx U z A E)
      ·grind[ui]
    have C:∀d',jw (d.f t (T.val y.i)) d' = p6 T.val (λi'=>(c.setIfInBounds i true).getD i' false) d' (iA ops) (jw t0 d'):=λd'=>by
      rw[GR K,Ed rO hp X g.closed N R (val:=T.val) (Mj:=T.val) (λ_ _=>rfl) d' (jw t0 d'),g.oi d']
    have aB:h0.next<=(T.H p).next:=BX Y.more.1 (DI Y.chain p p (by omega) (by have:=hP.len;omega));have ak:y.i≠a.i->cls y.o=0/\Dn y.o=true/\y.o.guard=none/\y.b.testBit a.i=false/\y.b.testBit b.i=false:=λag=>by
      have aX:y.i≠b.i:=by grind
      refine Nb hP.op X ag aX λ⟨_,aC⟩=>?_;have:=g.closed b hb (ah g) y X aC
      simp_all
    by_cases hya:y.i=a.i
    ·
      have aD:=ui X ha hya;subst aD;have P:Region.wanted o (yielded ops m.tmps)=true:=by
        obtain⟨_,_,_,hg,_⟩:=pt hP.sa;unfold Region.wanted;rw[<-u,hg]
      unfold wpOp;simp only[ho];rw[P];simp only[if_true];left;obtain⟨oa,bg,aE⟩:=aP t (by
        rw[g.oi da,Y.oi da];exact Il Y X hP.fa I (zz hP.sa) _)
      have al:=aE ((T.H p).put lb ob) (by rw[oY _ _ aN,if_neg (λe=>aO e.symm)]) J;rw[<-u];refine Nj hc g.world g.tmps al λΔ' x w' V=>?_;rw[u];have hlen:=hP.len;have bb:=Y.chain p (Jw _) (by omega);have aY:=Y.chain (p+1) (Jw _) (by omega);have hm:zV (((T.H p).put lb ob).put la oa) (T.H (p+2)):=by grind[V7]
      have am:∀q z,(gK (iA ops))[q]? =some z->((c.setIfInBounds i true).getD z.i false=true↔q<p+2):=λq z A=>by
        have aZ:=(jk.1 A).1;constructor
        ·intro _;omega
        ·intro _
         rw[R];by_cases e:z.i=y.i
         ·simp[e]
         ·rw[(g.ahead z (mr.2 ⟨_,A⟩)).2 e];rfl
      have bc:T.val y.i = .undef\/True:= .inr trivial;have aF:(d.f t (T.val y.i)).ds=t0.ds:=by rw[vS K];exact g.defers
      have ae:y.o.dst=none:=by obtain⟨_,_,_,_,h5,_⟩:=pt hP.sa;exact h5
      have a5:TR Δ' n (d.f t (T.val y.i)) (m.put o.dst x):=by
        have k:=HZ (g.tmps.mono V.frame.le) K (v:= .undef) V.val;rw[u]at k;have e:d.f t (T.val y.i)=d.f t .undef:=by
          unfold wT at K;rw[ae]at K;cases K;rfl
        rw[e];exact k
      refine TQ hc hp aL ar (T:=T) (p+2) (λfuel c m w j Δ t a' hj _ a6 a7 aG an _ ag=>?_) hl Y aM hQ fuel _ _ _ (p+2) Δ' (d.f t (T.val y.i)) (jb _) S
        ⟨by simp[g.size],s,by omega,am,a5,C,V.world.OU hm,g.frame.trans V.frame,λl' k h2=>V.grow.none _ (g.none l' k h2) (BF h2 aB),aF,λz A aH bh ao _=>?_⟩
      ·exfalso
       have F:a'∈gK (iA ops):=by unfold gK;rw[HS];exact⟨a7,by rw[aG];rfl⟩
       obtain⟨q,hq⟩:=mr.1 F;have k:=(jk.1 hq).1;have:=(a6.ahead _ a' hq).2 (by omega);rw[an]at this;cases this
      ·exfalso
       rw[R]at ao;simp only[Bool.or_eq_false_iff,decide_eq_false_iff_not]at ao;have E:z.i≠b.i:=by grind
       have:=Nb hP.op A (λe=>ao.2 e.symm) E (by grind);rw[this.1]at aH;cases aH
    ·
      obtain⟨ap,DQ,aI,bi,aC⟩:=ak hya;have a8:oU n ops.toList y.o (T.tt y.i)=some true:=by unfold oU ki;rw[aI]
      have P:T.on y.i=true:=by
        have:=B.oU;rw[a8]at this;exact(Option.some.inj this).symm
      have W:Region.wanted o (yielded ops m.tmps)=true:=by
        unfold Region.wanted;rw[<-u,aI]
      have hlen :=hP.len;have a9:T.ep y.i<=p:=by
        have k:=B.epw (by rw[ap];decide)
        cases he:T.ep y.i with
        |zero=>omega
        | succ e=>
          rw[he]at k;simp only[Kb]at k;split at k
          ·rename_i z A
           have aZ:=(jk.1 A).1;rcases Re e p with h|h
           ·omega
           ·exfalso
            have:e=p\/e=p+1:=by omega
            rcases this with e1|e1
            ·subst e1
             rw[hP.ga]at A;simp_all
            ·subst e1
             rw[hP.gb]at A;simp_all
          ·cases k
      have aq:p<=late (gK (iA ops)) y:=by
        rcases Re (late (gK (iA ops)) y) p with h|h
        ·exfalso
         obtain ⟨z,A,E⟩:=Ic (gK (iA ops)) y (by omega);have aJ:z∈gK (iA ops):=mr.2 ⟨_,A⟩;have ba:z.i≠a.i:=λe=>by
           have:=Ib A hP.ga e;omega
         have:=g.closed z (pK aJ).1 ((g.ahead z aJ).2 ba) y X E
         simp_all
        ·exact h
      have aK:=B.pure ap P p a9 (by omega) aq;rw[<-GJ (h:=T.H p) J,Qe DQ t _ ((T.H p).put lb ob)]at aK;have al:(Gq y.o).f call t ((T.H p).put lb ob)=some (T.val y.i,(T.H p).put lb ob):=by
        unfold Gq;rw[ap];simp only[fj];exact⟨_,aK,rfl⟩
      unfold wpOp;simp only[ho];rw[W];simp only[if_true];left;rw[<-u];refine Nj hc g.world g.tmps al λΔ' x w' V=>?_;rw[u];refine ih _ _ _ Δ' (d.f t (T.val y.i)) S ⟨by simp[g.size],s,λz A=>?_,?_,C,V.world,g.frame.trans V.frame,λl' k h2=>V.grow.none _ (g.none l' k h2) (BF h2 aB),by rw[vS K];exact g.defers⟩
      ·rw[R]
       have:¬y.i=z.i:=by grind[ui,pK]
       simp only[this,decide_false,Bool.or_false];exact g.ahead z A
      ·have k:=HZ (g.tmps.mono V.frame.le) K V.val
       rw[u]at k;exact k
end
section
variable{a b:It}{da db p:Nat}{l:List It}
theorem WO(hc:uq call) (hp:qc (iA ops)=true) (aA:(iA ops).all (BL (iA ops))=true) (aB:(iA ops).all zr=true) (hl:∀a∈l,a∈iA ops)
  (G:rD n ops.toList (iA ops) (gK (iA ops)) call t0 h0 l 0 0 h0 [] r T T) (hP:zcr ops T a b da db p r)
  (aC:r.1.ds=t0.ds) (hQ:∀Δ' a' w',zR Δ0 h0 w0 n r.1 r.2 Δ' a' w'->Q .normal a' w')
  (fuel:Nat) (c:Array Bool) (I:Act) (w:World) (j:Nat) (Δ:Env) (t:Tm) (y:It) (_:0<=j) (aT:c.toList.count false<=fuel+1) (m:Inv n ops t0 h0 Δ0 w0 T c j Δ t I w) (hy:y∈iA ops)
  (ai:cls y.o=2) (J:c.getD y.i false=false) (g:∀x∈iA ops,y.b.testBit x.i=true->c.getD x.i false=true) (aZ:(gK (iA ops))[j]?≠some y) :
  wpOp P0 ops Q y.i (wpAny P0 .any ops Q fuel (c.setIfInBounds y.i true)) I w:=by
 have hlen:=hP.len;have ha:a∈iA ops:=(pK (mr.2 ⟨_,hP.ga⟩)).1;have hb:b∈iA ops:=(pK (mr.2 ⟨_,hP.gb⟩)).1;have aj:y∈gK (iA ops):=by unfold gK;rw[HS];exact by simp_all
 obtain ⟨q,hq⟩:=mr.1 aj;have a5:=(jk.1 hq).1;have a6:¬q<j:=λh=>by
  have:=(m.ahead _ y hq).2 h
  simp_all
 have a7:q≠j:=by grind
 have aD:q=p+1/\j=p:=by
  obtain⟨e,rfl⟩:∃e,q=e+1:=⟨q-1,by omega⟩
  have V:e<(gK (iA ops)).length:=by omega
  have hg:=g0 V;rcases Re e p with h|h
  ·exfalso;have aa:=(FL hP.ch e _ y hg hq (by omega)).1;have:=(m.ahead e _ hg).1 (g _ (pK (EA V)).1 aa);omega
  ·have he:e=p:=by omega
   subst he;refine⟨rfl,?_⟩;rcases Re j e with h2|h2
   ·exfalso;obtain⟨f,rfl⟩:∃f,e=f+1:=⟨e-1,by omega⟩
    have ak:f<(gK (iA ops)).length:=by omega
    have al:=g0 ak;have aa:=(FL hP.ch f _ a al hP.ga (by omega)).2 (by omega) y hq;have:=(m.ahead f _ al).1 (g _ (pK (EA ak)).1 aa);omega
   ·omega
 obtain⟨rfl,rfl⟩:=aD;have aE:y=b:=by rw[hP.gb]at hq;cases hq;rfl
 subst aE;have C:∀y∈iA ops,y∈l:=by
  intro y hy;rcases G.done y hy with B|B
  ·simp at B
  ·grind[ui]
 obtain ⟨D,s⟩:=G.item y (C y hy);obtain⟨Da,u⟩:=G.item a (C a ha);have K:=zG hP.sa;have epw:∀{x:It} {D:Nat->Bool} {k:Nat},Lv n ops.toList (iA ops) (gK (iA ops)) call t0 h0 T D x->cls x.o=2->(gK (iA ops))[k]? =some x->T.ep x.i=k:=λ{x D k} hx aF a8=>by
  have B:=(hx.write aF).1
  grind[isW,Ib,zB]
 have am:=epw s ai hP.gb;have an:=epw u K hP.ga;have W:∀{x:It} {D:Nat->Bool} {d:Nat},Lv n ops.toList (iA ops) (gK (iA ops)) call t0 h0 T D x->storeAt x.o=some d->T.on x.i=true:=λ{x D d} hx hs=>by
  obtain⟨_,_,_,hg,_⟩:=pt hs;have:=hx.oU
  grind[oU,ki,Option.some.inj]
 have P:∀d,d∈pb y.o->jw t d=jw (T.tt y.i) d:=λd O=>by
  rw[m.oi d,s.oi d];exact Gj rO hp hy m.closed s.closed g s.ez J s.fresh O _ _
 have R:∀x∈y.o.op.operands.toList,Alike t (T.tt y.i) x:=by grind[Ga,pb]
 have X:=(u.write K).2.1 (W u hP.sa);rw[an]at X;obtain⟨_,la,aU,ea,aG,a9,ao,aH,aI,ab,aJ⟩:=HW hP.sa X;have E:=(s.write ai).2.1 (W s hP.sb);rw[am]at E;obtain⟨_,lb,aV,eb,ba,bb,aW,bc,bd,be,_⟩:=HW hP.sb E;rw[<-K6 (h:=T.H (j+1)) R]at E;obtain⟨_,A,aK,aL,ap,aX,ac,Y,aY,aq,ae⟩:=HW hP.sb E;have e1:=P db (by simp[pb,zz hP.sb]);have aM:jw (T.tt a.i) da=jw r.1 da:=by
  rw[u.oi da,G.oi da];exact Il G ha hP.fa u.ez (zz hP.sa) _
 have aN:jw t db=jw r.1 db:=by
  rw[m.oi db,G.oi db];exact Il G hy hP.fb g (zz hP.sb) _
 have ar:la≠A:=λe=>by
  have:=hP.apart;rw[<-aM,<-aN,aH,Y,e]at this;have h2:(!(Nat.beq A A))=true:=this
  simp_all
 have au:la<(T.H j).next:=Hp.LO aI;have aw:A<(T.H j).next:=by
  have B:=m.tmps.rel db;rw[Y]at B
  cases hx:I.tmps.getD db undef with
  | pointer p=>
    rw[hx]at B
    cases B with
    |ptr _ _ d O=>exact m.world.fresh _ _ O
  |_=>rw[hx]at B;cases B
 have aO:=G.chain j (Jw _) (by omega);have ax:(T.H j).get A=(T.H (j+1)).get A:=by
  rw[aO.2.2 A (by rw[ab];exact aw),ab,oY _ _ au,if_neg ar]
 have aP:=ae (T.H j) ax;have Z:=KO hy;have L:Region.wanted y.o (yielded ops I.tmps)=true:=by
  obtain⟨_,_,_,hg,_⟩:=pt hP.sb;unfold Region.wanted;rw[hg]
 obtain⟨d,O⟩:=s.dst;have ay:y.i<c.size:=by rw[m.size];exact(Wt.1 Z).1
 have ag:∀S,(c.setIfInBounds y.i true).getD S false=(c.getD S false ||decide (y.i=S)):=λS=>by
  by_cases e:y.i=S
  ·rw[<-e];simp[ay]
  simp_all
 have ah:(c.setIfInBounds y.i true).toList.count false<=fuel:=by
  have B:c.toList[y.i]? =some false:=by
   rw[Yk];simpa[ay]using J
  have:=count_set c.toList y.i B;rw[Array.toList_setIfInBounds];omega
 have F:yn (iA ops) (λS=>(c.setIfInBounds y.i true).getD S false):=by
  intro x hx M z hz aQ;simp only[ag,Rc,D1]at M⊢;rcases M with M|M
  ·exact .inl (m.closed x hx M z hz aQ)
  ·grind[ui]
 have N:∀d',jw (d.f t (T.val y.i)) d' = p6 T.val (λS=>(c.setIfInBounds y.i true).getD S false) d' (iA ops) (jw t0 d'):=λd'=>by
  rw[GR O,Ed rO hp hy m.closed J ag (val:=T.val) (Mj:=T.val) (λ_ _=>rfl) d' (jw t0 d'),m.oi d']
 have aR:h0.next<=(T.H j).next:=BX G.more.1 (DI G.chain j j (by omega) (by omega));unfold wpOp;simp only[Z];rw[L];simp only[if_true];left;refine Nj hc m.world m.tmps aP λΔ' x w' hA=>?_;have U:y.o.dst=none:=by obtain⟨_,_,_,_,h5,_⟩:=pt hP.sb;exact h5
 have aS:TR Δ' n (d.f t (T.val y.i)) (I.put y.o.dst x):=by
  have B:=HZ (m.tmps.mono hA.frame.le) O (v:= .undef) hA.val;have e:d.f t (T.val y.i)=d.f t .undef:=by
   unfold wT at O;rw[U]at O;cases O;rfl
  rw[e];exact B
 refine zbu hc hp aA aB hl G hP aC hQ (la:=la) (lb:=A) (ob:= .cells aL ap true false ac) au aw ar (λt' bf=>⟨.cells ea aG true false ao,ab,λB bg bh=>?_⟩) aq fuel _ _ _ Δ' (d.f t (T.val y.i)) ah
  ⟨by simp[m.size],F,λz hz=>?_,aS,N,hA.world,m.frame.trans hA.frame,λl' B h2=>hA.grow.none _ (m.none l' B h2) (BF h2 aR),by rw[vS O];exact m.defers⟩
 ·grind[K6]
 ·obtain ⟨k,hk⟩:=mr.1 hz;have bi:=(jk.1 hk).1;rw[ag];simp only[Rc,D1,m.ahead k z hk];constructor
  ·rintro(h|h)
   ·intro e;have:=Ib hk hP.ga e;omega
   grind
  ·intro bj;rcases Re k j with h|h
   ·exact .inl h
   ·right;have bm:k≠j:=λe=>by
     subst e;rw[hP.ga]at hk;simp_all
    have:k=j+1:=by omega
    simp_all
end
end
