/- Parts. -/
import Derived.Test.YtkpicojjjifmgaaGreatDoorM04
namespace Go.Proofs.YtkpicojjjifmgaaGreatDoor.Hx
theorem J7:∀(ws:List It) (a:It),late ws a<ws.length->∃w,ws[late ws a]? =some w/\w.b.testBit a.i=true
 |[],a,h=>by simp[late]at h
 | w ::ws,a,h=>by
   unfold late at h⊢;split
   ·rename_i c;exact⟨w,rfl,c⟩
   ·rename_i c
    simp only[c,KB]at h;obtain⟨w',d,e⟩:=J7 ws a (by omega);exact⟨w',by simpa using d,e⟩
theorem KV:∀{l:List It},GC l=true->∀(q:Nat) (a b:It),l[q]? =some a->l[q+1]? =some b->b.b.testBit a.i=true
 |[],_,q,a,b,h,_=>by simp at h
 |[x],_,q,a,b,_,h=>by simp at h
 | x::y::l,hc,0,a,b,c,d=>by
   simp at c d;subst c;subst d;simp only[GC,vR]at hc
   exact hc.1
 | x::y::l,hc,q+1,a,b,c,d=>by
   simp only[GC,vR]at hc;exact KV (l:=y::l) hc.2 q a b (by simpa using c) (by simpa using d)
theorem count_set:∀(l:List Bool) (i:Nat),l[i]? =some false->(l.set i true).count false<l.count false
 |[],i,h=>by simp at h
 |b::l,0,h=>by simp at h;subst h;simp
 | b::l,i+1,h=>by
   have:=count_set l i (by simpa using h);simp only[l0,List.count_cons];omega
theorem Qo{n:Nat} {all:List Oper} {o:Oper} {t t':Tm} (h:∀j w a d,o.guard=some (j,w)->all[j]? =some a->a.dst=some d->j6 t d=j6 t' d):qi n all o t=qi n all o t':=by
 unfold qi lC
 cases hg:o.guard with
 |none=>rfl
 | some b=>
   obtain⟨j,w⟩:=b;simp only
   cases hj:all[j]? with
   |none=>rfl
   | some a=>
     simp only
     cases hd:a.dst with
     |none=>rfl
     | some d=>
       simp only;have:=h j w a d hg hj hd
       cases Nat.blt d n with
       |true=>simp only[this]
       |false=>rfl
theorem Pm{Δ:Env} {n:Nat} {t:Tm} {a:Act} (d:TR Δ n t a) {ops:Array Oper} {o:Oper} {b:Bool} (h:qi n ops.toList o t=some b):Region.wanted o (yielded ops a.tmps)=b:=by
 unfold qi at h;split at h
 ·rename_i c;cases h;exact Oo c _
 ·rename_i g c;exact Oj d c h
section
variable{n:Nat}{ops:Array Oper}{call:Call}{t0:Tm}{h0:Hp}{Δ0:Env}{w0:World}{T:Tc}{r:Tm×Hp}{Q:Exit->Act->World->Prop}
abbrev iW(ops:Array Oper):List It:=items ops.toList 0 []
theorem tv(k:Nat) (x:It) (h:(iW ops)[k]? =some x):x.i=k:=by
 have:=(Ct _ _ _ _ _ h).1;omega
theorem wc{x y:It} (b:x∈iW ops) (c:y∈iW ops) (h:x.i=y.i):x=y:=by
 obtain⟨i,hi⟩:=oD.1 b;obtain⟨j,a⟩:=oD.1 c;have d:=tv i x hi;have e:=tv j y a;have:i=j:=by omega
 subst this;rw[hi]at a;cases a;rfl
theorem L1{x:It} (a:x∈iW ops):ops[x.i]? =some x.o:=by
 obtain⟨i,hi⟩:=oD.1 a;have b:=tv i x hi;have c:=(Ct _ _ _ _ _ hi).2;rw[b,<-Wy];exact c
theorem MQ{i:Nat} {o:Oper} (h:ops[i]? =some o):∃a,a∈iW ops/\a.i=i/\a.o=o/\(iW ops)[i]? =some a:=by
 have c:i<ops.size:=(V3.1 h).1;have b:i<(iW ops).length:=by rw[Jw];simpa using c
 have d:(iW ops)[i]? =some (iW ops)[i]:=hO b;refine⟨(iW ops)[i],zd b,tv _ _ d,?_,d⟩;have e:=(Ct _ _ _ _ _ d).2;rw[Wy,h]at e;cases e;rfl
theorem p6{x:It} (h:x∈hH (iW ops)):x∈iW ops/\cls x.o=2:=by
 unfold hH at h;rw[PU]at h;exact⟨h.1,AG h.2⟩
theorem VE:(hH (iW ops)).Pairwise λa b=>a.i<b.i:=by
 unfold hH;refine List.Pairwise.filter _ ?_;rw[Zm];intro i j hi c d;have e:=tv (ops:=ops) i _ (hO hi);have f:=tv (ops:=ops) j _ (hO c);omega
theorem FT{q b:Nat} {x y:It} (hq:(hH (iW ops))[q]? =some x) (c:(hH (iW ops))[b]? =some y) (h:x.i=y.i):q=b:=by
 have hs:=VE (ops:=ops);rw[Zm]at hs;obtain⟨l1,d⟩:=jR.1 hq;obtain⟨l2,e⟩:=jR.1 c;rcases wBi q b with a|a|a
 ·have:=hs q b l1 l2 a;rw[d,e]at this;omega
 ·exact a
 ·have:=hs b q l2 l1 a;rw[d,e]at this;omega
structure Inv (n:Nat) (ops:Array Oper) (t0:Tm) (h0:Hp) (Δ0:Env) (w0:World) (T:Tc) (b:Array Bool) (j:Nat) (Δ:Env) (t:Tm) (a:Act) (w:World):Prop where
 size:b.size=ops.size
 closed:Ay (iW ops) (λi=>b.getD i false)
 Xz:j<=(hH (iW ops)).length
 ahead:∀q x,(hH (iW ops))[q]? =some x->(b.getD x.i false=true↔q<j)
 tmps:TR Δ n t a
 pE:∀d,j6 t d=qI T.val (λi=>b.getD i false) d (iW ops) (j6 t0 d)
 world:WR Δ (T.H j) w
 frame:FR Δ0 Δ w0 w
 none:∀l,Δ0 l = .none->l<h0.next->Δ l = .none
 defers:t.ds=t0.ds
 zce:∀x∈iW ops,cls x.o=1->T.on x.i=true->b.getD x.i false=false->T.ep x.i<=j->Δ (T.pl x.i) = .none
theorem UJ(hc:vU call) (hp:rr (iW ops)=true) (a8:(iW ops).all (Du (iW ops))=true) (a9:(iW ops).all Bp=true)
  (j0:Nat) (aP:∀(fuel:Nat) (c:Array Bool) (Z:Act) (w:World) (j:Nat) (Δ:Env) (t:Tm) (a:It),j0<=j->c.toList.count false<=fuel+1->Inv n ops t0 h0 Δ0 w0 T c j Δ t Z w->a∈iW ops->cls a.o=2->c.getD a.i false=false->
   (∀x∈iW ops,a.b.testBit x.i=true->c.getD x.i false=true)->(hH (iW ops))[j]?≠some a->wpOp P0 ops Q a.i (wpAny P0 .any ops Q fuel (c.setIfInBounds a.i true)) Z w)
  {l:List It} (hl:∀a∈l,a∈iW ops) (U:uo n ops.toList (iW ops) (hH (iW ops)) call t0 h0 l 0 0 h0 [] r T T)
  (ba:r.1.ds=t0.ds) (hQ:∀I a' w',B1 Δ0 h0 w0 n r.1 r.2 I a' w'->Q .normal a' w') :
  ∀(fuel:Nat) (c:Array Bool) (a:Act) (w:World) (j:Nat) (Δ:Env) (t:Tm),j0<=j->c.toList.count false<=fuel->Inv n ops t0 h0 Δ0 w0 T c j Δ t a w->wpAny P0 .any ops Q fuel c a w:=by
 have ae:∀(c:Array Bool),c.size=ops.size->Region.ready .any ops c=[]->∀x∈iW ops,c.getD x.i false=true:=by
  intro c bJ hr;have bb:∀i,i<ops.size->c.getD i false=true:=by
   intro i
   induction i using Nat.strongRecOn with
   | _ i ih=>
     intro hi
     cases N:c.getD i false with
     |true=>rfl
     | false=>
       exfalso;have ho:ops[i]? =some ops[i]:=Array.getElem?_eq_getElem hi;obtain⟨x,u,aF,bc,_⟩:=MQ ho;have aC:i∈Region.ready .any ops c:=by
         rw[mem_ready];refine⟨?_,ops[i],ho,λe he bd=>?_⟩
         ·have:i<c.size:=by omega
          simp[this]at N⊢;exact N
         ·have m:=Qk.1 a9 x u
          unfold Bp at m;rw[bc,aF]at m;have v:=Qk.1 m e (by simpa using he);rw[<-Ge,bd]at v;simp only[wCB,Bool.false_or,PM]at v;exact ih e.on v (by omega)
       rw[hr]at aC;cases aC
  intro x u;exact bb x.i (V3.1 (L1 u)).1
 have Y:∀(c:Array Bool) (a:Act) (w:World) (j:Nat) (Δ:Env) (t:Tm),Inv n ops t0 h0 Δ0 w0 T c j Δ t a w->(∀x∈iW ops,c.getD x.i false=true)->Q .normal a w:=by
  intro c a w j Δ t k P;have hj:j=(hH (iW ops)).length:=by
   rcases P9 j (hH (iW ops)).length with h|h
   ·have hg:=hO h;have:=(k.ahead j _ hg).1 (P _ (p6 (zd h)).1);omega
   ·have:=k.Xz;omega
  subst hj;refine hQ Δ a w ⟨⟨k.tmps.size,λi=>?_,by rw[ba,<-k.defers];exact k.tmps.ds⟩,by rw[U.last];exact k.world,k.frame,⟨?_,k.none⟩⟩
  ·have m:=k.tmps.rel i;rw[k.pE i,qV (D':=λ_=>true) (Nw:=T.val) (λx u _=>P x u) (λ_ _ _ _=>rfl),<-U.pE i]at m;exact m
  ·rw[U.last];exact II U.more.1 (EZ U.chain _ _ (by rw[zA]) (jK _))
 intro fuel
 induction fuel with
 | zero =>
   intro c a w j Δ t _ aD k;have P:∀x∈iW ops,c.getD x.i false=true:=by
     intro x u;have V:x.i<c.size:=by rw[k.size];exact(V3.1 (L1 u)).1
     cases N:c.getD x.i false with
     |true=>rfl
     | false=>
       exfalso;have:false∈c.toList:=by
         have:c[x.i]=false:=by simpa[V]using N
         rw[<-this];simp
       have:=List.count_pos_iff.2 this;omega
   refine⟨?_,Y _ _ _ _ _ _ k P⟩;rw[List.eq_nil_iff_forall_not_mem];intro i hi;rw[mem_ready]at hi;obtain⟨m,o,ho,_⟩:=hi;obtain⟨x,u,aF,_,_⟩:=MQ ho;have:=P x u;rw[aF]at this;have V:i<c.size:=by rw[k.size];exact(V3.1 ho).1
   simp[V]at m this
   rw[m]at this;cases this
 | succ fuel ih=>
   intro c Z w j Δ t aQ aD k;refine⟨λhr=>Y _ _ _ _ _ _ k (ae _ k.size hr),λi hi=>?_⟩;rw[mem_ready]at hi;obtain⟨pI,o,ho,ar⟩:=hi;obtain⟨a,ha,ag,K,aG⟩:=MQ ho;have V:i<c.size:=by rw[k.size];exact(V3.1 ho).1
   have J:c.getD a.i false=false:=by rw[ag];simp[V]at pI⊢;exact pI
   have A:∀x∈iW ops,a.b.testBit x.i=true->c.getD x.i false=true:=by
     intro x u N;obtain⟨e,he,be,m⟩:=LD aG N;rw[K]at he;have E:=ar e (by simpa using he) (by rw[Ge];exact be);rcases m with m|⟨y,z,au⟩
     ·rw[m];exact E
     ·have bf:=tv _ _ z
      exact k.closed y (oD.2 ⟨_,z⟩) (by show c.getD y.i false=true;rw[bf];exact E) x u au
   by_cases hez:cls a.o=2/\(hH (iW ops))[j]?≠some a
   ·rw[<-ag]
    exact aP fuel c Z w j Δ t a aQ aD k ha hez.1 J A hez.2
   obtain ⟨D,B⟩:∃D,Ma n ops.toList (iW ops) (hH (iW ops)) call t0 h0 T D a:=by
     rcases U.done a ha with m|m
     ·simp at m
     ·obtain⟨b,N,ah⟩:=LN.1 m
      rw[wc ha (hl b N) ah.symm];exact U.item b N
   have L:∀y∈iW ops,y∈l:=by
     intro y z;rcases U.done y z with m|m
     ·simp at m
     ·obtain⟨b,N,ah⟩:=LN.1 m
      rw[wc z (hl b N) ah.symm];exact N
   have bg:=L a ha;have aw:∀d,d∈qk a.o->j6 t d=j6 (T.tt a.i) d:=λd hd=>by
     rw[k.pE d,B.pE d];exact Ig tv hp ha k.closed B.closed A B.fh J B.fresh hd _ _
   have M:∀x∈a.o.op.operands.toList,Alike t (T.tt a.i) x:=Ih λd hd=>aw d (by simp[qk,hd]);have ax:qi n ops.toList a.o t=some (T.on a.i):=by
     rw[<-B.qi];refine Qo λjg wg oj d hg hj hd=>?_;have F:=Qk.1 a8 a ha;unfold Du at F;rw[hg]at F;simp only at F
     cases hjt:(iW ops)[jg]? with
     |none=>rw[hjt]at F;cases F
     | some g=>
       rw[hjt]at F;simp only at F;have bh:g.o=oj:=by
         have:=(Ct _ _ _ _ _ hjt).2;rw[hj]at this;cases this;rfl
       rw[bh,hd]at F;simp only[vR]at F;obtain⟨aE,aH⟩:=F;have aR:=tv _ _ hjt;have bi:g∈iW ops:=oD.2 ⟨_,hjt⟩;rw[k.pE d,B.pE d];refine qV (λx u bj=>?_) (λ_ _ _ _=>rfl) _;have m:=Qk.1 aH x u;rw[bj]at m;have v:x.i=jg:=by simpa using m
       have O:x=g:=wc u bi (by omega);subst O;rw[A x u (by rw[aR];exact aE),B.fh x u (by rw[aR];exact aE)]
   have ai:Region.wanted o (yielded ops Z.tmps)=T.on a.i:=by rw[<-K];exact Pm k.tmps ax
   obtain ⟨d,hd⟩:=B.dst;have aa:∀i',(c.setIfInBounds i true).getD i' false=(c.getD i' false ||decide (a.i=i')):=λi'=>by
     by_cases e:i=i'
     ·subst e;simp[V,ag]
     ·rw[getD_set_ne false e]
      have:¬a.i=i':=by rw[ag];exact e
      simp[this]
   have aI:(c.setIfInBounds i true).toList.count false<=fuel:=by
     have m:c.toList[i]? =some false:=by
       rw[Wy];have:c.getD a.i false=false:=J;rw[ag]at this;simpa[V]using this
     have:=count_set c.toList i m;rw[Array.toList_setIfInBounds];omega
   have ab:Ay (iW ops) (λi'=>(c.setIfInBounds i true).getD i' false):=by
     intro x u ac y z au;simp only[aa,Nc,BP]at ac⊢;rcases ac with ac|ac
     ·exact .inl (k.closed x u ac y z au)
     ·have:=wc ha u ac
      subst this;exact .inl (A y z au)
   have aj:∀d',j6 (d.f t (T.val a.i)) d' = qI T.val (λi'=>(c.setIfInBounds i true).getD i' false) d' (iW ops) (j6 t0 d'):=λd'=>by
     rw[I9 hd,Ga tv hp ha k.closed J aa (val:=T.val) (Nw:=T.val) (λ_ _=>rfl) d' (j6 t0 d'),k.pE d']
   have next:∀(j':Nat) (I:Env) (x:Value) (w':World),fP I (T.val a.i) x->WR I (T.H j') w'->FR Δ I w w'->j'<=(hH (iW ops)).length->
       (∀q y,(hH (iW ops))[q]? =some y->((c.setIfInBounds i true).getD y.i false=true↔q<j'))->
       (∀y∈iW ops,cls y.o=1->T.on y.i=true->(c.setIfInBounds i true).getD y.i false=false->T.ep y.i<=j'->I (T.pl y.i)=none)->
       (∀l,Δ0 l=none->l<h0.next->I l=none)->wpAny P0 .any ops Q fuel (c.setIfInBounds i true) (Z.put o.dst x) w':=by
     intro j' I x w' bm bo aS br R ay aA;have bt:j<=j':=by
       rcases P9 j' j with h|h
       ·exfalso
        have aT:j' < (hH (iW ops)).length:=by have:=k.Xz;omega
        have hg:=hO aT;have m:=(k.ahead j' _ hg).2 h;have v:=(R j' _ hg).1 (by rw[aa,m];rfl);omega
       ·exact h
     refine ih _ _ _ j' I (d.f t (T.val a.i)) (II aQ bt) aI ⟨by simp[k.size],ab,br,R,?_,aj,bo,k.frame.trans aS,aA,by rw[yk hd];exact k.defers,ay⟩;have:=Ki (k.tmps.mono aS.le) hd bm;rw[K]at this;exact this
   have aU:h0.next<=(T.H j).next:=II U.more.1 (EZ U.chain j j (by omega) k.Xz);have ak:j<=late (hH (iW ops)) a:=by
     rcases P9 (late (hH (iW ops)) a) j with h|h
     ·exfalso
      obtain⟨x,u,bu⟩:=J7 (hH (iW ops)) a (by have:=k.Xz;omega);have m:=(k.ahead _ x u).2 h;have:=k.closed x (p6 (oD.2 ⟨_,u⟩)).1 m a ha bu;simp only at this;rw[J]at this;cases this
     ·exact h
   have still:cls a.o≠2->∀q y,(hH (iW ops))[q]? =some y->((c.setIfInBounds i true).getD y.i false=true↔q<j):=by
     intro al q y hq;rw[aa,<-k.ahead q y hq];have z:=p6 (oD.2 ⟨_,hq⟩);have:¬a.i=y.i:=λe=>by
       have:=wc ha z.1 e;subst this;exact al z.2
     simp[this]
   have aJ:cls a.o≠2->T.ep a.i<=j:=by
     intro al;have m:=B.epw al
     cases he:T.ep a.i with
     |zero=>omega
     | succ e=>
       rw[he]at m;simp only[Lo]at m;split at m
       ·rename_i x u
        have bw:=(p6 (oD.2 ⟨_,u⟩)).1;have:=(k.ahead _ x u).1 (A x bw m);omega
       ·cases m
   have s:∀y∈iW ops,cls y.o=1->T.on y.i=true->(c.setIfInBounds i true).getD y.i false=false->T.ep y.i<=j->Δ (T.pl y.i)=none/\y.i≠a.i:=by
     intro y z m v O W;rw[aa]at O;simp only[Bool.or_eq_false_iff,decide_eq_false_iff_not]at O;exact⟨k.zce y z m v O.1 W,λe=>O.2 e.symm⟩
   have S:∀y∈iW ops,cls y.o=1->T.on y.i=true->T.ep y.i<=j->T.pl y.i<(T.H j).next:=by
     intro y z m v O;rcases U.done y z with W|W
     ·simp at W
     ·obtain⟨b,N,ah⟩:=LN.1 W
      have:=wc z (hl b N) ah.symm;subst this;obtain⟨_,am⟩:=U.item y N;exact((am.alloc m v).2.1 j O k.Xz).1
   have aK:cls a.o=2->isW (hH (iW ops)) a (T.ep a.i)=true->T.ep a.i=j/\(hH (iW ops))[j]? =some a:=by
     intro _ hw;unfold isW at hw;split at hw
     ·rename_i x u
      have bx:=wc (p6 (oD.2 ⟨_,u⟩)).1 ha (AG hw);subst bx;have aV:(hH (iW ops))[j]? =some x:=by
        apply Classical.byContradiction;intro al;exact hez ⟨(p6 (oD.2 ⟨_,u⟩)).2,al⟩
      exact⟨FT u aV rfl,aV⟩
     ·cases hw
   have an:cls a.o=2->isW (hH (iW ops)) a (T.ep a.i)=true->∀q y,(hH (iW ops))[q]? =some y->((c.setIfInBounds i true).getD y.i false=true↔q<j+1):=by
     intro p hw q y hq;obtain⟨_,u⟩:=aK p hw;rw[aa];simp only[Nc,BP,k.ahead q y hq];constructor
     ·rintro(h|h)
      ·omega
      ·have:=FT u hq h;omega
     ·intro h
      rcases P9 q j with m|m
      ·exact .inl m
      ·have:q=j:=by omega
       subst this;rw[u]at hq;cases hq;exact .inr rfl
   have ao:cls a.o=2->isW (hH (iW ops)) a (T.ep a.i)=true->∀(I:Env) (w':World),WR I (T.G j) w'->Gr (T.H j) Δ (T.G j) I->
       ∀y∈iW ops,cls y.o=1->T.on y.i=true->(c.setIfInBounds i true).getD y.i false=false->T.ep y.i<=j+1->I (T.pl y.i)=none:=by
     intro p hw I w' bz bA y z m v O W;rcases P9 j (T.ep y.i)with h5|h5
     ·obtain⟨_,am⟩:=U.item y (L y z)
      have aW:=(am.alloc m v).2.2.1 j h5
      cases hd':I (T.pl y.i)with
      |none=>rfl
      |some e=>have:=bz.fresh _ _ hd';omega
     ·exact bA.none _ (s y z m v O h5).1 (S y z m v h5)
   unfold wpOp;simp only[ho];rw[ai]
   cases E:T.on a.i with
   | false=>
     simp only[PT,if_false];have hv:=B.off E;rcases JN a.o with p|p|p
     ·exact next j Δ undef w (by rw[hv];exact .undef Δ) k.world (.refl _ _) k.Xz (still (by rw[p];decide)) (λy z m v O W=>(s y z m v O W).1) k.none
     ·exact next j Δ undef w (by rw[hv];exact .undef Δ) k.world (.refl _ _) k.Xz (still (by rw[p];decide)) (λy z m v O W=>(s y z m v O W).1) k.none
     ·obtain⟨C,_,aX⟩:=B.write p
      obtain⟨aL,aM⟩:=aK p C;have hG:=aX E;rw[aL]at hG;have ap:j<(hH (iW ops)).length:=(jR.1 aM).1;obtain⟨bC,aN⟩:=U.chain j (Na _) ap;have aY:WR Δ (T.G j) w:=by rw[hG];exact k.world
      exact next (j+1) Δ undef w (by rw[hv];exact .undef Δ) (aY.OS aN) (.refl _ _) ap (an p C) (ao p C Δ w aY (by rw[hG];exact .refl _ _)) k.none
   | true=>
     simp only[if_true];left;rcases JN a.o with p|p|p
     ·have aZ:=B.pure p E j (aJ (by rw[p];decide)) k.Xz ak
      rw[<-Is (h:=T.H j) M]at aZ;have aB:(IC a.o).f call t (T.H j)=some (T.val a.i,T.H j):=by
        unfold IC;rw[p];simp only[fx];exact⟨_,aZ,rfl⟩
      rw[<-K];refine OE hc k.world k.tmps aB λI x w' hA=>?_;rw[K]
      exact next j I x w' hA.val hA.world hA.frame k.Xz (still (by rw[p];decide)) (λy z m v O W=>hA.grow.none _ (s y z m v O W).1 (S y z m v W))
        (λl' m v=>hA.grow.none _ (k.none l' m v) (Cb v aU))
     ·obtain ⟨⟨mk,a5,a6⟩,bD,_,aW⟩:=B.alloc p E
      obtain⟨bE,bG⟩:=bD j (aJ (by rw[p];decide)) k.Xz;have a7:=bG ak;rw[<-KK M]at a5;obtain⟨mo,mv,aq,aO⟩:=QW k.tmps a5;have X:=k.zce a ha p E J (aJ (by rw[p];decide));obtain⟨dd,N,bH,bI⟩:=aO (T.pl a.i) w.heap.size X;rw[<-K];unfold Oper.wp;rw[aq w,Oper.upon_value,K];refine next j (Δ.set (T.pl a.i) dd) _ _ (by rw[a6];exact bI) (k.world.lay X bE a7 N bH) (FR.lay X N) k.Xz (still (by rw[p];decide)) (λy z m v O W=>?_) (λl' m v=>?_)
      ·obtain⟨e1,e2⟩:=s y z m v O W
       have:=U.TF y (L y z) a bg m p v E e2;unfold Env.set;rw[if_neg this];exact e1
      ·have:l'≠T.pl a.i:=by omega
       unfold Env.set;rw[if_neg this];exact k.none l' m v
     ·obtain ⟨C,aq,_⟩:=B.write p
      obtain⟨aL,aM⟩:=aK p C;have aB:=aq E;rw[aL,<-Mp (h:=T.H j) M]at aB;have ap:j<(hH (iW ops)).length:=(jR.1 aM).1;obtain⟨bC,aN⟩:=U.chain j (Na _) ap;rw[<-K];refine OE hc k.world k.tmps aB λI x w' hA=>?_;rw[K]
      exact next (j+1) I x w' hA.val (hA.world.OS aN) hA.frame ap (an p C) (ao p C I w' hA.world hA.grow)
        (λl' m v=>hA.grow.none _ (k.none l' m v) (Cb v aU))
theorem UW(m:GC (hH (iW ops))=true) (fuel:Nat) (c:Array Bool) (g:Act) (w:World) (j:Nat) (Δ:Env) (t:Tm) (a:It) (_:0<=j) (_:c.toList.count false<=fuel+1) (s:Inv n ops t0 h0 Δ0 w0 T c j Δ t g w) (v:a∈iW ops)
  (p:cls a.o=2) (k:c.getD a.i false=false) (d:∀x∈iW ops,a.b.testBit x.i=true->c.getD x.i false=true) (r:(hH (iW ops))[j]?≠some a) :
  wpOp P0 ops Q a.i (wpAny P0 .any ops Q fuel (c.setIfInBounds a.i true)) g w:=by
 exfalso;have l:a∈hH (iW ops):=by unfold hH;rw[PU];exact⟨v,by rw[p];rfl⟩
 obtain ⟨q,hq⟩:=oD.1 l;have y:¬q<j:=λh=>by
  have:=(s.ahead _ a hq).2 h;rw[k]at this;cases this
 have z:q≠j:=λe=>r (by rw[<-e];exact hq);obtain⟨e,rfl⟩:∃e,q=e+1:=⟨q-1,by omega⟩
 have f:e<(hH (iW ops)).length:=by have:=(jR.1 hq).1;omega
 have u:=hO f;have A:=KV m e _ a u hq;have:=(s.ahead e _ u).1 (d _ (p6 (zd f)).1 A);omega
theorem j5{x:Operand} (a:OP x=true) (t:Tm) (h h':Hp):(tx x).f t h=(tx x).f t h':=by
 cases x <;> first|rfl|(simp[OP]at a)
theorem Rg{o:Oper} (b:FM o=true) (t:Tm) (h h':Hp):(iV o).f t h=(iV o).f t h':=by
 unfold FM at b;unfold iV;split at b
 ·rename_i a;rw[a];exact j5 b t h h'
 ·rename_i a;rw[a];show(uS _).f t h=(uS _).f t h';unfold uS;simp only[j5 b t h h']
 ·rename_i a;rw[a];show(ot _ _ _).f t h=(ot _ _ _).f t h';unfold ot;split
  ·split <;> simp only[j5 b t h h']
  ·rfl
 ·rename_i a;rw[a];rw[vR]at b;show(oH _ _ _).f t h=(oH _ _ _).f t h';unfold oH;split
  ·split <;> simp only[j5 b.1 t h h',j5 b.2 t h h']
  ·split <;> simp only[j5 b.1 t h h',j5 b.2 t h h']
  ·rfl
 ·cases b
theorem qY{o:Oper} {d:Nat} (h:storeAt o=some d):∃ty x,o.op = .store ty (.tmp d) x/\o.guard=none/\o.dst=none/\OP x=true:=by
 unfold storeAt at h;split at h
 ·rename_i ty b x a;split at h
  ·cases h;exact⟨ty,x,a,by assumption,by assumption,by assumption⟩
  ·cases h
 ·cases h
theorem Bu{o:Oper} {d:Nat} (h:storeAt o=some d):cls o=2:=by
 obtain⟨ty,x,a,_⟩:=qY h;unfold cls;rw[a]
theorem JP{o:Oper} {d:Nat} (hs:storeAt o=some d) {call:Call} {t:Tm} {h h':Hp} {v:V} (hv:(IC o).f call t h=some (v,h')) :
  v = .undef/\∃l off e sz cs pD,j6 t d = .ptr l off/\h.get l=some (.cells e sz true false cs)/\h' = h.put l (.cells e sz true false pD)/\
   ∀b:Hp,b.get l=h.get l->(IC o).f call t b=some (.undef,b.put l (.cells e sz true false pD)):=by
 obtain⟨ty,x,m,_,_,y⟩:=qY hs;have i:=Bu hs
 have c:∀h,(IC o).f call t h=oB ((ku o).f t h) λr=>match r with
   | .val v h=>some (v,h)
   | .call f args=>call f args h:=by
  intro h;unfold IC;split
  ·rename_i h0;rw[i]at h0;cases h0
  ·rename_i h0;rw[i]at h0;cases h0
  ·rfl
 rw[c,fx]at hv;obtain⟨r,b,A⟩:=hv
 have u:∀h,(ku o).f t h=match y0 ty with
   |some n=>oB ((tx (.tmp d)).f t h) λa=>oB ((tx x).f t h) λv=>zm a λl off=>bB (Nat.beq v.cells.length n) (oB (ER h l off v.cells) λh=>some (.val .undef h))
   |none=>none:=by
  intro h;unfold ku;rw[m];simp only;generalize y0 ty=z;cases z <;> rfl
 rw[u]at b
 cases hn:y0 ty with
 |none=>rw[hn]at b;cases b
 | some n=>
   rw[hn]at b;simp only[fx,wO,hY]at b;obtain⟨a,B,vv,p,l,off,rfl,hlen,D,g,C⟩:=b;cases C;cases A;have j:j6 t d = .ptr l off:=Option.some.inj (show some (j6 t d)=some (V.ptr l off) from B);unfold ER at g;simp only[lE,hY,fx,wBh]at g;obtain⟨e,sz,live,ro,cs,w,rfl,rfl,k,pD,q,NB⟩:=g;cases NB;refine⟨rfl,l,off,e,sz,cs,pD,j,w,rfl,λb s=>?_⟩;rw[c,fx];refine⟨.val .undef (b.put l (.cells e sz true false pD)),?_,rfl⟩;rw[u,hn];simp only[fx,wO,hY];refine⟨.ptr l off,by rw[<-j];rfl,vv,by rw[j5 y t b h];exact p,l,off,rfl,hlen,b.put l (.cells e sz true false pD),?_,rfl⟩;unfold ER;simp only[lE,hY,fx,wBh];exact⟨e,sz,true,false,cs,by rw[s];exact w,rfl,rfl,k,pD,q,rfl⟩
theorem L3:∀{l:List It} {a b:It},Lg l=some (a,b)->∃p,l.length=p+2/\l[p]? =some a/\l[p+1]? =some b
 |[],_,_,h=>by cases h
 |[_],_,_,h=>by cases h
 |[x,y],a,b,h=>by cases h;exact⟨0,rfl,rfl,rfl⟩
 | _::y::z::l,a,b,h=>by
   obtain⟨p,c,d,e⟩:=L3 (l:=y::z::l) h;exact⟨p+1,by simp only[KB]at c⊢;omega,by simpa using d,by simpa using e⟩
theorem Iy:∀{l:List It},Ij l=true->∀(q:Nat) (a b:It),l[q]? =some a->l[q+1]? =some b->q+2<l.length->b.b.testBit a.i=true/\(q+3=l.length->∀c,l[q+2]? =some c->c.b.testBit a.i=true)
 |[],_,q,a,b,h,_,_=>by simp at h
 |[x],_,q,a,b,_,h,_=>by simp at h
 |[x,y],_,q,a,b,_,_,h=>by simp only[KB,Zi]at h;omega
 | x::y::z::l,hc,0,a,b,d,f,_=>by
   simp at d f;subst d;subst f;simp only[Ij,vR]at hc;refine⟨hc.1.1,λk c g=>?_⟩;simp at g;subst g;have:l=[]:=Wi (by have e:(x::y::z::l).length=l.length+3:=rfl;omega);subst this
   exact hc.1.2
 | x::y::z::l,hc,q+1,a,b,d,f,m=>by
   simp only[Ij,vR]at hc;have:=Iy (l:=y::z::l) hc.2 q a b (by rw[X3]at d;exact d) (by rw[X3]at f;exact f) (by have e:(x::y::z::l).length=(y::z::l).length+1:=rfl;omega);refine⟨this.1,λk c j=>this.2 (by have e:(x::y::z::l).length=(y::z::l).length+1:=rfl;omega) c (by rw[show q+1+2=(q+2)+1 by omega,X3]at j;exact j)⟩
theorem QM{kF ws:List It} {a b:It} {da db:Nat} (h:Js kF ws=some (a,b,da,db)) :
  Lg ws=some (a,b)/\storeAt a.o=some da/\storeAt b.o=some db/\fixed kF a=true/\fixed kF b=true/\Pv kF a b=true/\Ij ws=true:=by
 unfold Js at h;split at h
 ·rename_i j k d;split at h
  ·rename_i e f g i;split at h
   ·rename_i c;cases h;simp only[vR]at c;exact⟨d,g,i,c.1.1.1,c.1.1.2,c.1.2,c.2⟩
   ·cases h
  ·cases h
 ·cases h
structure zbo (n:Nat) (ops:Array Oper) (t0:Tm) (h0:Hp) (Δ0:Env) (w0:World) (T:Tc) (c:Nat) (e:Hp) (b:Array Bool) (Δ:Env) (t:Tm) (a:Act) (w:World):Prop where
 size:b.size=ops.size
 closed:Ay (iW ops) (λi=>b.getD i false)
 ahead:∀x∈hH (iW ops),(b.getD x.i false=true↔x.i≠c)
 tmps:TR Δ n t a
 pE:∀d,j6 t d=qI T.val (λi=>b.getD i false) d (iW ops) (j6 t0 d)
 world:WR Δ e w
 frame:FR Δ0 Δ w0 w
 none:∀l,Δ0 l = .none->l<h0.next->Δ l = .none
 defers:t.ds=t0.ds
section
variable{a b:It}{da db p:Nat}
structure zcI (ops:Array Oper) (T:Tc) (a b:It) (da db p:Nat) (r:Tm×Hp):Prop where
 len:(hH (iW ops)).length=p+2
 ga:(hH (iW ops))[p]? =some a
 gb:(hH (iW ops))[p+1]? =some b
 sa:storeAt a.o=some da
 sb:storeAt b.o=some db
 fa:fixed (iW ops) a=true
 fb:fixed (iW ops) b=true
 op:Pv (iW ops) a b=true
 ch:Ij (hH (iW ops))=true
 apart:Xn (j6 r.1 da) (j6 r.1 db)=true
theorem NX(h:Pv (iW ops) a b=true) {x:It} (d:x∈iW ops) (e:x.i≠a.i) (f:x.i≠b.i) (g:¬(a.b.testBit x.i=true/\b.b.testBit x.i=true)) :
  cls x.o=0/\FM x.o=true/\x.o.guard=none/\x.b.testBit a.i=false/\x.b.testBit b.i=false:=by
 have:=Qk.1 h x d;simp only[Nc,vR,wBh,Option.isNone_iff_eq_none]at this;rcases this with((c|c)|c)|c
 ·exact absurd (AG c) e
 ·exact absurd (AG c) f
 ·exact absurd c g
 ·exact⟨AG c.1.1.1.1,c.1.1.1.2,c.1.1.2,c.1.2,c.2⟩
theorem Kg{l:List It} (m:uo n ops.toList (iW ops) (hH (iW ops)) call t0 h0 l 0 0 h0 [] r T T) {x:It} (p:x∈iW ops) (g:fixed (iW ops) x=true) {D:Nat->Bool} (h:∀y∈iW ops,x.b.testBit y.i=true->D y.i=true)
  {d:Nat} (j:d∈BV x.o.op.operands.toList) (a:V):qI T.val D d (iW ops) a=qI T.val (λ_=>true) d (iW ops) a:=by
 refine qV (λy e c=>?_) (λ_ _ _ _=>rfl) a;have f:=Qk.1 (Qk.1 g d j) y e;have k:writes y.o [d]=true:=by simp[writes,c]
 rw[k]at f;exact h y e (by simpa using f)
theorem Bs{o:Oper} {d:Nat} (h:storeAt o=some d):d∈BV o.op.operands.toList:=by
 obtain⟨ty,x,a,_⟩:=qY h;rw[a];simp[Op.operands,BV]
end
section
variable{a b:It}{da db p:Nat}{l:List It}
theorem Ye{H b g:Hp} {la lb:Nat} {l ob:O} (c:la<H.next) (d:lb<H.next) (i:la≠lb) (m:CC (H.put la l) b) (n:CC (b.put lb ob) g):CC ((H.put lb ob).put la l) g:=by
 have a:H.next<=b.next:=m.1;have j:b.next<=g.next:=n.1;refine⟨II a j,λx o=>?_⟩;have f:x<H.next:=o;rw[n.2 x (Cb f a)];rw[qn (h:=H.put lb ob) _ _ c,qn (h:=b) _ _ (Cb d a),qn (h:=H) _ _ d];rw[m.2 x f,qn (h:=H) _ _ c];by_cases k:la=x
 ·subst k;rw[if_pos rfl,if_pos rfl,if_neg (λe=>i e.symm)]
 ·rw[if_neg k,if_neg k]
theorem zb3(hc : vU call) (hp:rr (iW ops)=true) (aO:(iW ops).all (Du (iW ops))=true) (au:(iW ops).all Bp=true) (hl:∀a∈l,a∈iW ops)
    (hT:uo n ops.toList (iW ops) (hH (iW ops)) call t0 h0 l 0 0 h0 [] r T T) (hP:zcI ops T a b da db p r)
    (aP:r.1.ds=t0.ds) (hQ:∀Δ' a' w',B1 Δ0 h0 w0 n r.1 r.2 Δ' a' w'->Q .normal a' w') {la lb:Nat} {ob:O} (aQ:la<(T.H p).next) (aw:lb<(T.H p).next) (ax:la≠lb)
    (aR:∀t:Tm,j6 t da=j6 r.1 da->∃oa,(T.G p)=(T.H p).put la oa/\∀g:Hp,g.get la=(T.H p).get la->(∀x∈a.o.op.operands.toList,Alike t (T.tt a.i) x)->(IC a.o).f call t g=some (.undef,g.put la oa))
    (aS:T.G (p+1)=(T.H (p+1)).put lb ob) :
    ∀(fuel:Nat) (c:Array Bool) (m:Act) (w:World) (Δ:Env) (t:Tm),c.toList.count false<=fuel->zbo n ops t0 h0 Δ0 w0 T a.i ((T.H p).put lb ob) c Δ t m w->wpAny P0 .any ops Q fuel c m w:=by
  have ha:a∈iW ops:=(p6 (oD.2 ⟨_,hP.ga⟩)).1;have hb:b∈iW ops:=(p6 (oD.2 ⟨_,hP.gb⟩)).1;have aT:=Bu hP.sa;have aU:=Bu hP.sb;have aV:a.i≠b.i:=λe=>by
    have:=FT hP.ga hP.gb e;omega
  have ay:a∈hH (iW ops):=oD.2 ⟨_,hP.ga⟩;have aA:b∈hH (iW ops):=oD.2 ⟨_,hP.gb⟩;have U:∀{c Δ t m w},zbo n ops t0 h0 Δ0 w0 T a.i ((T.H p).put lb ob) c Δ t m w->c.getD a.i false=false:=λk=>by
    cases h:Array.getD _ a.i false with
    |false=>rfl
    |true=>exact absurd rfl ((k.ahead a ay).1 h)
  have B:∀{c Δ t m w},zbo n ops t0 h0 Δ0 w0 T a.i ((T.H p).put lb ob) c Δ t m w->c.getD b.i false=true:=λk=>(k.ahead b aA).2 (λe=>aV e.symm);intro fuel
  induction fuel with
  | zero=>
    intro c m w Δ t aB k;exfalso;have g:=U k;have V:a.i<c.size:=by rw[k.size];exact(V3.1 (L1 ha)).1
    have:false∈c.toList:=by
      have:c[a.i]=false:=by simpa[V]using g
      rw[<-this];simp
    have:=List.count_pos_iff.2 this
    omega
  | succ fuel ih=>
    intro c m w Δ t aB k;refine⟨λhr=>?_,λi hi=>?_⟩
    ·exfalso
     have aC : ∀i,i<ops.size->c.getD i false=true:=by
       intro i
       induction i using Nat.strongRecOn with
       | _ i aW=>
         intro hi
         cases ab:c.getD i false with
         |true=>rfl
         | false=>
           exfalso;have ho:ops[i]? =some ops[i]:=Array.getElem?_eq_getElem hi;obtain⟨x,hx,aX,aY,_⟩:=MQ ho;have K:i∈Region.ready .any ops c:=by
             rw[mem_ready];refine⟨?_,ops[i],ho,λe he aD=>?_⟩
             ·have:i<c.size:=by rw[k.size];exact hi
              simp[this]at ab⊢;exact ab
             ·have g:=Qk.1 au x hx
              unfold Bp at g;rw[aY,aX]at g;have h2:=Qk.1 g e (by simpa using he);rw[<-Ge,aD]at h2;simp only[wCB,Bool.false_or,PM]at h2;exact aW e.on h2 (by omega)
           rw[hr]at K;cases K
     have:=aC a.i (V3.1 (L1 ha)).1;rw[U k]at this;cases this
    rw[mem_ready]at hi;obtain⟨pI,o,ho,ac⟩:=hi;obtain⟨y,M,ae,C,al⟩:=MQ ho;have V:i<c.size:=by rw[k.size];exact(V3.1 ho).1
    have u:c.getD y.i false=false:=by rw[ae];simp[V]at pI⊢;exact pI
    have E:∀x∈iW ops,y.b.testBit x.i=true->c.getD x.i false=true:=by
      intro x hx ab;obtain⟨e,he,aZ,g⟩:=LD al ab;rw[C]at he;have N:=ac e (by simpa using he) (by rw[Ge];exact aZ);rcases g with g|⟨z,s,F⟩
      ·rw[g];exact N
      ·have a5:=tv _ _ s
       exact k.closed z (oD.2 ⟨_,s⟩) (by show c.getD z.i false=true;rw[a5];exact N) x hx F
    have ag:∀y∈iW ops,y∈l:=by
      intro y M;rcases hT.done y M with g|g
      ·simp at g
      ·obtain⟨b,hb,a6⟩:=LN.1 g
       rw[wc M (hl b hb) a6.symm];exact hb
    obtain ⟨D,I⟩:=hT.item y (ag y M);have ah:∀d,d∈qk y.o->j6 t d=j6 (T.tt y.i) d:=λd S=>by
      rw[k.pE d,I.pE d];exact Ig tv hp M k.closed I.closed E I.fh u I.fresh S _ _
    have L:∀x∈y.o.op.operands.toList,Alike t (T.tt y.i) x:=Ih λd S=>ah d (by simp[qk,S]);obtain⟨d,S⟩:=I.dst;have W:∀i',(c.setIfInBounds i true).getD i' false=(c.getD i' false ||decide (y.i=i')):=λi'=>by
      by_cases e:i=i'
      ·subst e;simp[V,ae]
      ·rw[getD_set_ne false e]
       have:¬y.i=i':=by rw[ae];exact e
       simp[this]
    have X:(c.setIfInBounds i true).toList.count false<=fuel:=by
      have g:c.toList[i]? =some false:=by
        rw[Wy];have:c.getD y.i false=false:=u;rw[ae]at this;simpa[V]using this
      have:=count_set c.toList i g;rw[Array.toList_setIfInBounds];omega
    have A:Ay (iW ops) (λi'=>(c.setIfInBounds i true).getD i' false):=by
      intro x hx P z s F;simp only[W,Nc,BP]at P⊢;rcases P with P|P
      ·exact .inl (k.closed x hx P z s F)
      ·have:=wc M hx P
       subst this;exact .inl (E z s F)
    have J:∀d',j6 (d.f t (T.val y.i)) d' = qI T.val (λi'=>(c.setIfInBounds i true).getD i' false) d' (iW ops) (j6 t0 d'):=λd'=>by
      rw[I9 S,Ga tv hp M k.closed u W (val:=T.val) (Nw:=T.val) (λ_ _=>rfl) d' (j6 t0 d'),k.pE d']
    have aE:h0.next<=(T.H p).next:=II hT.more.1 (EZ hT.chain p p (by omega) (by have:=hP.len;omega));have am:y.i≠a.i->cls y.o=0/\FM y.o=true/\y.o.guard=none/\y.b.testBit a.i=false/\y.b.testBit b.i=false:=λak=>by
      have a7:y.i≠b.i:=λe=>by rw[e,B k]at u;cases u
      refine NX hP.op M ak a7 λ⟨_,Y⟩=>?_;have:=k.closed b hb (B k) y M Y;simp only at this;rw[u]at this;cases this
    by_cases hya:y.i=a.i
    ·
      have aF:=wc M ha hya;subst aF;have N:Region.wanted o (yielded ops m.tmps)=true:=by
        obtain⟨_,_,_,hg,_⟩:=qY hP.sa;unfold Region.wanted;rw[<-C,hg]
      unfold wpOp;simp only[ho];rw[N];simp only[if_true];left;obtain⟨oa,a8,aG⟩:=aR t (by
        rw[k.pE da,hT.pE da];exact Kg hT M hP.fa E (Bs hP.sa) _)
      have an:=aG ((T.H p).put lb ob) (by rw[qn _ _ aw,if_neg (λe=>ax e.symm)]) L;rw[<-C];refine OE hc k.world k.tmps an λΔ' x w' Z=>?_;rw[C];have hlen:=hP.len;have aH:=hT.chain p (Na _) (by omega);have ao:=hT.chain (p+1) (Na _) (by omega);have hm:CC (((T.H p).put lb ob).put la oa) (T.H (p+2)):=Ye aQ aw ax (by rw[<-a8];exact aH.2) (by rw[<-aS];exact ao.2);have ap:∀q z,(hH (iW ops))[q]? =some z->((c.setIfInBounds i true).getD z.i false=true↔q<p+2):=λq z s=>by
        have a9:=(jR.1 s).1;constructor
        ·intro _;omega
        ·intro _
         rw[W];by_cases e:z.i=y.i
         ·simp[e]
         ·rw[(k.ahead z (oD.2 ⟨_,s⟩)).2 e];rfl
      have bh:T.val y.i = .undef\/True:= .inr trivial;have aI:(d.f t (T.val y.i)).ds=t0.ds:=by rw[yk S];exact k.defers
      have ai:y.o.dst=none:=by obtain⟨_,_,_,_,h5,_⟩:=qY hP.sa;exact h5
      have ba:TR Δ' n (d.f t (T.val y.i)) (m.put o.dst x):=by
        have g:=Ki (k.tmps.mono Z.frame.le) S (v:= .undef) Z.val;rw[C]at g;have e:d.f t (T.val y.i)=d.f t .undef:=by
          unfold yY at S;rw[ai]at S;cases S;rfl
        rw[e];exact g
      refine UJ hc hp aO au (T:=T) (p+2) (λfuel c m w j Δ t a' hj _ bb bc aJ aq _ ak=>?_) hl hT aP hQ fuel _ _ _ (p+2) Δ' (d.f t (T.val y.i)) (jK _) X
        ⟨by simp[k.size],A,by omega,ap,ba,J,Z.world.OS hm,k.frame.trans Z.frame,λl' g h2=>Z.grow.none _ (k.none l' g h2) (Cb h2 aE),aI,λz s aK bi R _=>?_⟩
      ·exfalso
       have K:a'∈hH (iW ops):=by unfold hH;rw[PU];exact⟨bc,by rw[aJ];rfl⟩
       obtain⟨q,hq⟩:=oD.1 K;have g:=(jR.1 hq).1;have:=(bb.ahead _ a' hq).2 (by omega);rw[aq]at this;cases this
      ·exfalso
       rw[W]at R;simp only[Bool.or_eq_false_iff,decide_eq_false_iff_not]at R;have F:z.i≠b.i:=λe=>by rw[e,B k]at R;cases R.1
       have:=NX hP.op s (λe=>R.2 e.symm) F (λ⟨_,Y⟩=>by
         have:=k.closed b hb (B k) z s Y;simp only at this;rw[R.1]at this;cases this)
       rw[this.1]at aK;cases aK
    ·
      obtain⟨aj,Cr,aL,bd,Y⟩:=am hya;have be:qi n ops.toList y.o (T.tt y.i)=some true:=by unfold qi lC;rw[aL]
      have N:T.on y.i=true:=by
        have:=I.qi;rw[be]at this;exact(Option.some.inj this).symm
      have aa:Region.wanted o (yielded ops m.tmps)=true:=by
        unfold Region.wanted;rw[<-C,aL]
      have hlen :=hP.len;have bf:T.ep y.i<=p:=by
        have g:=I.epw (by rw[aj];decide)
        cases he:T.ep y.i with
        |zero=>omega
        | succ e=>
          rw[he]at g;simp only[Lo]at g;split at g
          ·rename_i z s
           have a9:=(jR.1 s).1;rcases P9 e p with h|h
           ·omega
           ·exfalso
            have:e=p\/e=p+1:=by omega
            rcases this with e1|e1
            ·subst e1
             rw[hP.ga]at s;cases s;rw[bd]at g;cases g
            ·subst e1
             rw[hP.gb]at s;cases s;rw[Y]at g;cases g
          ·cases g
      have ar:p<=late (hH (iW ops)) y:=by
        rcases P9 (late (hH (iW ops)) y) p with h|h
        ·exfalso
         obtain ⟨z,s,F⟩:=J7 (hH (iW ops)) y (by omega);have aM:z∈hH (iW ops):=oD.2 ⟨_,s⟩;have bg:z.i≠a.i:=λe=>by
           have:=FT s hP.ga e;omega
         have:=k.closed z (p6 aM).1 ((k.ahead z aM).2 bg) y M F;simp only at this;rw[u]at this;cases this
        ·exact h
      have aN:=I.pure aj N p bf (by omega) ar;rw[<-Is (h:=T.H p) L,Rg Cr t _ ((T.H p).put lb ob)]at aN;have an:(IC y.o).f call t ((T.H p).put lb ob)=some (T.val y.i,(T.H p).put lb ob):=by
        unfold IC;rw[aj];simp only[fx];exact⟨_,aN,rfl⟩
      unfold wpOp;simp only[ho];rw[aa];simp only[if_true];left;rw[<-C];refine OE hc k.world k.tmps an λΔ' x w' Z=>?_;rw[C];refine ih _ _ _ Δ' (d.f t (T.val y.i)) X ⟨by simp[k.size],A,λz s=>?_,?_,J,Z.world,k.frame.trans Z.frame,λl' g h2=>Z.grow.none _ (k.none l' g h2) (Cb h2 aE),by rw[yk S];exact k.defers⟩
      ·rw[W]
       have:¬y.i=z.i:=λe=>by
         have g:=wc M (p6 s).1 e;subst g;have:=(p6 s).2;rw[aj]at this;cases this
       simp only[this,decide_false,Bool.or_false];exact k.ahead z s
      ·have g:=Ki (k.tmps.mono Z.frame.le) S Z.val
       rw[C]at g;exact g
end
section
variable{a b:It}{da db p:Nat}{l:List It}
theorem XP(hc:vU call) (hp:rr (iW ops)=true) (aF:(iW ops).all (Du (iW ops))=true) (aG:(iW ops).all Bp=true) (hl:∀a∈l,a∈iW ops)
  (L:uo n ops.toList (iW ops) (hH (iW ops)) call t0 h0 l 0 0 h0 [] r T T) (hP:zcI ops T a b da db p r)
  (aH:r.1.ds=t0.ds) (hQ:∀Δ' a' w',B1 Δ0 h0 w0 n r.1 r.2 Δ' a' w'->Q .normal a' w')
  (fuel:Nat) (c:Array Bool) (M:Act) (w:World) (j:Nat) (Δ:Env) (t:Tm) (y:It) (_:0<=j) (a7:c.toList.count false<=fuel+1) (s:Inv n ops t0 h0 Δ0 w0 T c j Δ t M w) (R:y∈iW ops)
  (ae:cls y.o=2) (C:c.getD y.i false=false) (g:∀x∈iW ops,y.b.testBit x.i=true->c.getD x.i false=true) (aI:(hH (iW ops))[j]?≠some y) :
  wpOp P0 ops Q y.i (wpAny P0 .any ops Q fuel (c.setIfInBounds y.i true)) M w:=by
 have hlen:=hP.len;have ha:a∈iW ops:=(p6 (oD.2 ⟨_,hP.ga⟩)).1;have hb:b∈iW ops:=(p6 (oD.2 ⟨_,hP.gb⟩)).1;have an:y∈hH (iW ops):=by unfold hH;rw[PU];exact⟨R,by rw[ae];rfl⟩
 obtain ⟨q,hq⟩:=oD.1 an;have bd:=(jR.1 hq).1;have be:¬q<j:=λh=>by
  have:=(s.ahead _ y hq).2 h;rw[C]at this;cases this
 have bf:q≠j:=λe=>aI (by rw[<-e];exact hq);have aJ:q=p+1/\j=p:=by
  obtain⟨e,rfl⟩:∃e,q=e+1:=⟨q-1,by omega⟩
  have Y:e<(hH (iW ops)).length:=by omega
  have hg:=hO Y;rcases P9 e p with h|h
  ·exfalso;have ag:=(Iy hP.ch e _ y hg hq (by omega)).1;have:=(s.ahead e _ hg).1 (g _ (p6 (zd Y)).1 ag);omega
  ·have he:e=p:=by omega
   subst he;refine⟨rfl,?_⟩;rcases P9 j e with h2|h2
   ·exfalso;obtain⟨f,rfl⟩:∃f,e=f+1:=⟨e-1,by omega⟩
    have ao:f<(hH (iW ops)).length:=by omega
    have ap:=hO ao;have ag:=(Iy hP.ch f _ a ap hP.ga (by omega)).2 (by omega) y hq;have:=(s.ahead f _ ap).1 (g _ (p6 (zd ao)).1 ag);omega
   ·omega
 obtain⟨rfl,rfl⟩:=aJ;have aK:y=b:=by rw[hP.gb]at hq;cases hq;rfl
 subst aK;have E:∀y∈iW ops,y∈l:=by
  intro y R;rcases L.done y R with m|m
  ·simp at m
  ·obtain⟨b,hb,aL⟩:=LN.1 m;rw[wc R (hl b hb) aL.symm];exact hb
 obtain ⟨D,u⟩:=L.item y (E y R);obtain⟨Da,A⟩:=L.item a (E a ha);have N:=Bu hP.sa;have epw:∀{x:It} {D:Nat->Bool} {k:Nat},Ma n ops.toList (iW ops) (hH (iW ops)) call t0 h0 T D x->cls x.o=2->(hH (iW ops))[k]? =some x->T.ep x.i=k:=λ{x D k} S aM aN=>by
  have m:=(S.write aM).1;unfold isW at m;split at m
  ·rename_i z hz;exact FT hz aN (AG m)
  ·cases m
 have aq:=epw u ae hP.gb;have ar:=epw A N hP.ga;have Z:∀{x:It} {D:Nat->Bool} {d:Nat},Ma n ops.toList (iW ops) (hH (iW ops)) call t0 h0 T D x->storeAt x.o=some d->T.on x.i=true:=λ{x D d} S hs=>by
  obtain⟨_,_,_,hg,_⟩:=qY hs;have:=S.qi;unfold qi lC at this;rw[hg]at this;exact(Option.some.inj this).symm
 have F:∀d,d∈qk y.o->j6 t d=j6 (T.tt y.i) d:=λd K=>by
  rw[s.pE d,u.pE d];exact Ig tv hp R s.closed u.closed g u.fh C u.fresh K _ _
 have U:∀x∈y.o.op.operands.toList,Alike t (T.tt y.i) x:=Ih λd K=>F d (by simp[qk,K]);have aa:=(A.write N).2.1 (Z A hP.sa);rw[ar]at aa;obtain⟨_,la,a8,ea,aO,bg,au,aP,aQ,ah,ai⟩:=JP hP.sa aa;have G:=(u.write ae).2.1 (Z u hP.sb);rw[aq]at G;obtain⟨_,lb,a9,eb,bh,bi,ba,bj,bm,bo,_⟩:=JP hP.sb G;rw[<-Mp (h:=T.H (j+1)) U]at G;obtain⟨_,B,aR,aS,aw,bb,aj,ab,bc,ax,ak⟩:=JP hP.sb G;have e1:=F db (by simp[qk,Bs hP.sb]);have aT:j6 (T.tt a.i) da=j6 r.1 da:=by
  rw[A.pE da,L.pE da];exact Kg L ha hP.fa A.fh (Bs hP.sa) _
 have aU:j6 t db=j6 r.1 db:=by
  rw[s.pE db,L.pE db];exact Kg L R hP.fb g (Bs hP.sb) _
 have ay:la≠B:=λe=>by
  have:=hP.apart;rw[<-aT,<-aU,aP,ab,e]at this;have h2:(!(Nat.beq B B))=true:=this;rw[Tn]at h2;cases h2
 have aA:la<(T.H j).next:=Hp.M6 aQ;have aB:B<(T.H j).next:=by
  have m:=s.tmps.rel db;rw[ab]at m
  cases S:M.tmps.getD db undef with
  | pointer p=>
    rw[S]at m
    cases m with
    |ptr _ _ d K=>exact s.world.fresh _ _ K
  |_=>rw[S]at m;cases m
 have aV:=L.chain j (Na _) (by omega);have aC:(T.H j).get B=(T.H (j+1)).get B:=by
  rw[aV.2.2 B (by rw[ah];exact aB),ah,qn _ _ aA,if_neg ay]
 have aW:=ak (T.H j) aC;have ac:=L1 R;have O:Region.wanted y.o (yielded ops M.tmps)=true:=by
  obtain⟨_,_,_,hg,_⟩:=qY hP.sb;unfold Region.wanted;rw[hg]
 obtain⟨d,K⟩:=u.dst;have aD:y.i<c.size:=by rw[s.size];exact(V3.1 ac).1
 have al:∀V,(c.setIfInBounds y.i true).getD V false=(c.getD V false ||decide (y.i=V)):=λV=>by
  by_cases e:y.i=V
  ·rw[<-e];simp[aD]
  ·rw[getD_set_ne false e];simp[e]
 have am:(c.setIfInBounds y.i true).toList.count false<=fuel:=by
  have m:c.toList[y.i]? =some false:=by
   rw[Wy];simpa[aD]using C
  have:=count_set c.toList y.i m;rw[Array.toList_setIfInBounds];omega
 have I:Ay (iW ops) (λV=>(c.setIfInBounds y.i true).getD V false):=by
  intro x S J z hz aE;simp only[al,Nc,BP]at J⊢;rcases J with J|J
  ·exact .inl (s.closed x S J z hz aE)
  ·have:=wc R S J;subst this;exact .inl (g z hz aE)
 have P:∀d',j6 (d.f t (T.val y.i)) d' = qI T.val (λV=>(c.setIfInBounds y.i true).getD V false) d' (iW ops) (j6 t0 d'):=λd'=>by
  rw[I9 K,Ga tv hp R s.closed C al (val:=T.val) (Nw:=T.val) (λ_ _=>rfl) d' (j6 t0 d'),s.pE d']
 have aX:h0.next<=(T.H j).next:=II L.more.1 (EZ L.chain j j (by omega) (by omega));unfold wpOp;simp only[ac];rw[O];simp only[if_true];left;refine OE hc s.world s.tmps aW λΔ' x w' hA=>?_;have W:y.o.dst=none:=by obtain⟨_,_,_,_,h5,_⟩:=qY hP.sb;exact h5
 have aY:TR Δ' n (d.f t (T.val y.i)) (M.put y.o.dst x):=by
  have m:=Ki (s.tmps.mono hA.frame.le) K (v:= .undef) hA.val;have e:d.f t (T.val y.i)=d.f t .undef:=by
   unfold yY at K;rw[W]at K;cases K;rfl
  rw[e];exact m
 refine zb3 hc hp aF aG hl L hP aH hQ (la:=la) (lb:=B) (ob:= .cells aS aw true false aj) aA aB ay (λt' br=>⟨.cells ea aO true false au,ah,λm aZ a5=>?_⟩) ax fuel _ _ _ Δ' (d.f t (T.val y.i)) am
  ⟨by simp[s.size],I,λz hz=>?_,aY,P,hA.world,s.frame.trans hA.frame,λl' m h2=>hA.grow.none _ (s.none l' m h2) (Cb h2 aX),by rw[yk K];exact s.defers⟩
 ·rw[Mp (h:=m) a5];exact ai m aZ
 ·obtain ⟨k,X⟩:=oD.1 hz;have bt:=(jR.1 X).1;rw[al];simp only[Nc,BP,s.ahead k z X];constructor
  ·rintro(h|h)
   ·intro e;have:=FT X hP.ga e;omega
   ·intro e;have h3:=FT X hP.ga e;have h4:=FT X hP.gb h.symm;omega
  ·intro a6;rcases P9 k j with h|h
   ·exact .inl h
   ·right;have bu:k≠j:=λe=>by
     subst e;rw[hP.ga]at X;cases X;exact a6 rfl
    have:k=j+1:=by omega
    subst this;rw[hP.gb]at X;cases X;rfl
end
end
