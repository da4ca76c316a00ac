/- Parts. -/
import Derived.Test.YtjgjgngfjopaaaaDoorM04
namespace Go.Proofs.YtjgjgngfjopaaaaDoor.Hx
theorem J7:∀(ws:List It) (a:It),late ws a<ws.length->∃w,ws[late ws a]? =some w/\w.b.testBit a.i=true
 |[],a,h=>by simp[late]at h
 | w ::ws,a,h=>by
   unfold late at h⊢;split
   ·rename_i c;exact⟨w,rfl,c⟩
   ·rename_i c
    simp only[c,Dz]at h;obtain⟨w',d,e⟩:=J7 ws a (by omega);exact⟨w',by simpa using d,e⟩
theorem Km:∀{l:List It},FW l=true->∀(q:Nat) (a b:It),l[q]? =some a->l[q+1]? =some b->b.b.testBit a.i=true
 |[],_,q,a,b,h,_=>by simp at h
 |[x],_,q,a,b,_,h=>by simp at h
 | x::y::l,hc,0,a,b,c,d=>by
   simp at c d;subst c;subst d;simp only[FW,uZ]at hc
   exact hc.1
 | x::y::l,hc,q+1,a,b,c,d=>by
   simp only[FW,uZ]at hc;exact Km (l:=y::l) hc.2 q a b (by simpa using c) (by simpa using d)
theorem count_set:∀(l:List Bool) (i:Nat),l[i]? =some false->(l.set i true).count false<l.count false
 |[],i,h=>by simp at h
 |b::l,0,h=>by simp at h;subst h;simp
 | b::l,i+1,h=>by
   have:=count_set l i (by simpa using h);simp only[lj,wCL];omega
theorem PC{n:Nat} {all:List Oper} {o:Oper} {t t':Tm} (h:∀j w a d,o.guard=some (j,w)->all[j]? =some a->a.dst=some d->jL t d=jL t' d):pM n all o t=pM n all o t':=by
 unfold pM kO
 cases hg:o.guard with
 |none=>rfl
 | some b=>
   obtain⟨j,w⟩:=b;simp only
   cases hj:all[j]? with
   |none=>rfl
   | some a=>
     simp only
     cases hd:a.dst with
     |none=>rfl
     | some d=>
       simp only;have:=h j w a d hg hj hd
       cases Nat.blt d n with
       |true=>simp only[this]
       |false=>rfl
theorem Ph{Δ:Env} {n:Nat} {t:Tm} {a:Act} (d:TR Δ n t a) {ops:Array Oper} {o:Oper} {b:Bool} (h:pM n ops.toList o t=some b):Region.wanted o (yielded ops a.tmps)=b:=by
 unfold pM at h;split at h
 ·rename_i c;cases h;exact NB c _
 ·rename_i g c;exact NS d c h
section
variable{n:Nat}{ops:Array Oper}{call:Call}{t0:Tm}{h0:Hp}{Δ0:Env}{w0:World}{T:Tc}{r:Tm×Hp}{Q:Exit->Act->World->Prop}
abbrev iL(ops:Array Oper):List It:=items ops.toList 0 []
theorem sN(k:Nat) (x:It) (h:(iL ops)[k]? =some x):x.i=k:=by
 have:=(Cr _ _ _ _ _ h).1;omega
theorem wz{x y:It} (b:x∈iL ops) (c:y∈iL ops) (h:x.i=y.i):x=y:=by
 obtain⟨i,hi⟩:=mK.1 b;obtain⟨j,a⟩:=mK.1 c;have d:=sN i x hi;have e:=sN j y a;have:i=j:=by omega
 subst this;rw[hi]at a;cases a;rfl
theorem Me{x:It} (a:x∈iL ops):ops[x.i]? =some x.o:=by
 obtain⟨i,hi⟩:=mK.1 a;have b:=sN i x hi;have c:=(Cr _ _ _ _ _ hi).2;rw[b,<-Rm];exact c
theorem Lv{i:Nat} {o:Oper} (h:ops[i]? =some o):∃a,a∈iL ops/\a.i=i/\a.o=o/\(iL ops)[i]? =some a:=by
 have c:i<ops.size:=(SR.1 h).1;have b:i<(iL ops).length:=by rw[I3];simpa using c
 have d:(iL ops)[i]? =some (iL ops)[i]:=gP b;refine⟨(iL ops)[i],zq b,sN _ _ d,?_,d⟩;have e:=(Cr _ _ _ _ _ d).2;rw[Rm,h]at e;cases e;rfl
theorem oC{x:It} (h:x∈gX (iL ops)):x∈iL ops/\cls x.o=2:=by
 unfold gX at h;rw[MS]at h;exact⟨h.1,vK h.2⟩
theorem Ve:(gX (iL ops)).Pairwise λa b=>a.i<b.i:=by
 unfold gX;refine List.Pairwise.filter _ ?_;rw[Zp];intro i j hi c d;have e:=sN (ops:=ops) i _ (gP hi);have f:=sN (ops:=ops) j _ (gP c);omega
theorem EX{q b:Nat} {x y:It} (hq:(gX (iL ops))[q]? =some x) (c:(gX (iL ops))[b]? =some y) (h:x.i=y.i):q=b:=by
 have hs:=Ve (ops:=ops);rw[Zp]at hs;obtain⟨l1,d⟩:=iR.1 hq;obtain⟨l2,e⟩:=iR.1 c;rcases wBp q b with a|a|a
 ·have:=hs q b l1 l2 a;rw[d,e]at this;omega
 ·exact a
 ·have:=hs b q l2 l1 a;rw[d,e]at this;omega
structure Inv (n:Nat) (ops:Array Oper) (t0:Tm) (h0:Hp) (Δ0:Env) (w0:World) (T:Tc) (b:Array Bool) (j:Nat) (Δ:Env) (t:Tm) (a:Act) (w:World):Prop where
 size:b.size=ops.size
 closed:zS (iL ops) (λi=>b.getD i false)
 XN:j<=(gX (iL ops)).length
 ahead:∀q x,(gX (iL ops))[q]? =some x->(b.getD x.i false=true↔q<j)
 tmps:TR Δ n t a
 pe:∀d,jL t d=qc T.val (λi=>b.getD i false) d (iL ops) (jL t0 d)
 world:WR Δ (T.H j) w
 frame:FR Δ0 Δ w0 w
 none:∀l,Δ0 l = .none->l<h0.next->Δ l = .none
 defers:t.ds=t0.ds
 zc6:∀x∈iL ops,cls x.o=1->T.on x.i=true->b.getD x.i false=false->T.ep x.i<=j->Δ (T.pl x.i) = .none
theorem TT(hc:vU call) (hp:qC (iL ops)=true) (a8:(iL ops).all (CR (iL ops))=true) (a9:(iL ops).all Bd=true)
  (j0:Nat) (aP:∀(fuel:Nat) (c:Array Bool) (Z:Act) (w:World) (j:Nat) (Δ:Env) (t:Tm) (a:It),j0<=j->c.toList.count false<=fuel+1->Inv n ops t0 h0 Δ0 w0 T c j Δ t Z w->a∈iL ops->cls a.o=2->c.getD a.i false=false->
   (∀x∈iL ops,a.b.testBit x.i=true->c.getD x.i false=true)->(gX (iL ops))[j]?≠some a->wpOp P0 ops Q a.i (wpAny P0 .any ops Q fuel (c.setIfInBounds a.i true)) Z w)
  {l:List It} (hl:∀a∈l,a∈iL ops) (U:tL n ops.toList (iL ops) (gX (iL ops)) call t0 h0 l 0 0 h0 [] r T T)
  (ba:r.1.ds=t0.ds) (hQ:∀I a' w',BA Δ0 h0 w0 n r.1 r.2 I a' w'->Q .normal a' w') :
  ∀(fuel:Nat) (c:Array Bool) (a:Act) (w:World) (j:Nat) (Δ:Env) (t:Tm),j0<=j->c.toList.count false<=fuel->Inv n ops t0 h0 Δ0 w0 T c j Δ t a w->wpAny P0 .any ops Q fuel c a w:=by
 have ae:∀(c:Array Bool),c.size=ops.size->Region.ready .any ops c=[]->∀x∈iL ops,c.getD x.i false=true:=by
  intro c bI hr;have bb:∀i,i<ops.size->c.getD i false=true:=by
   intro i
   induction i using Nat.strongRecOn with
   | _ i ih=>
     intro hi
     cases N:c.getD i false with
     |true=>rfl
     | false=>
       exfalso;have ho:ops[i]? =some ops[i]:=Array.getElem?_eq_getElem hi;obtain⟨x,u,aF,bc,_⟩:=Lv ho;have aC:i∈Region.ready .any ops c:=by
         rw[mem_ready];refine⟨?_,ops[i],ho,λe he bd=>?_⟩
         ·have:i<c.size:=by omega
          simp[this]at N⊢;exact N
         ·have m:=MT.1 a9 x u
          unfold Bd at m;rw[bc,aF]at m;have v:=MT.1 m e (by simpa using he);rw[<-FZ,bd]at v;simp only[wCG,Bool.false_or,Ns]at v;exact ih e.on v (by omega)
       rw[hr]at aC;cases aC
  intro x u;exact bb x.i (SR.1 (Me u)).1
 have Y:∀(c:Array Bool) (a:Act) (w:World) (j:Nat) (Δ:Env) (t:Tm),Inv n ops t0 h0 Δ0 w0 T c j Δ t a w->(∀x∈iL ops,c.getD x.i false=true)->Q .normal a w:=by
  intro c a w j Δ t k P;have hj:j=(gX (iL ops)).length:=by
   rcases Pm j (gX (iL ops)).length with h|h
   ·have hg:=gP h;have:=(k.ahead j _ hg).1 (P _ (oC (zq h)).1);omega
   ·have:=k.XN;omega
  subst hj;refine hQ Δ a w ⟨⟨k.tmps.size,λi=>?_,by rw[ba,<-k.defers];exact k.tmps.ds⟩,by rw[U.last];exact k.world,k.frame,⟨?_,k.none⟩⟩
  ·have m:=k.tmps.rel i;rw[k.pe i,qk (D':=λ_=>true) (KJ:=T.val) (λx u _=>P x u) (λ_ _ _ _=>rfl),<-U.pe i]at m;exact m
  ·rw[U.last];exact Gt U.more.1 (EU U.chain _ _ (by rw[yC]) (jj _))
 intro fuel
 induction fuel with
 | zero =>
   intro c a w j Δ t _ aD k;have P:∀x∈iL ops,c.getD x.i false=true:=by
     intro x u;have V:x.i<c.size:=by rw[k.size];exact(SR.1 (Me u)).1
     cases N:c.getD x.i false with
     |true=>rfl
     | false=>
       exfalso;have:false∈c.toList:=by
         have:c[x.i]=false:=by simpa[V]using N
         rw[<-this];simp
       have:=List.count_pos_iff.2 this;omega
   refine⟨?_,Y _ _ _ _ _ _ k P⟩;rw[List.eq_nil_iff_forall_not_mem];intro i hi;rw[mem_ready]at hi;obtain⟨m,o,ho,_⟩:=hi;obtain⟨x,u,aF,_,_⟩:=Lv ho;have:=P x u;rw[aF]at this;have V:i<c.size:=by rw[k.size];exact(SR.1 ho).1
   simp[V]at m this
   rw[m]at this;cases this
 | succ fuel ih=>
   intro c Z w j Δ t aQ aD k;refine⟨λhr=>Y _ _ _ _ _ _ k (ae _ k.size hr),λi hi=>?_⟩;rw[mem_ready]at hi;obtain⟨qz,o,ho,ar⟩:=hi;obtain⟨a,ha,ag,K,aG⟩:=Lv ho;have V:i<c.size:=by rw[k.size];exact(SR.1 ho).1
   have J:c.getD a.i false=false:=by rw[ag];simp[V]at qz⊢;exact qz
   have A:∀x∈iL ops,a.b.testBit x.i=true->c.getD x.i false=true:=by
     intro x u N;obtain⟨e,he,be,m⟩:=LU aG N;rw[K]at he;have E:=ar e (by simpa using he) (by rw[FZ];exact be);rcases m with m|⟨y,z,au⟩
     ·rw[m];exact E
     ·have bf:=sN _ _ z
      exact k.closed y (mK.2 ⟨_,z⟩) (by show c.getD y.i false=true;rw[bf];exact E) x u au
   by_cases hez:cls a.o=2/\(gX (iL ops))[j]?≠some a
   ·rw[<-ag]
    exact aP fuel c Z w j Δ t a aQ aD k ha hez.1 J A hez.2
   obtain ⟨D,B⟩:∃D,LZ n ops.toList (iL ops) (gX (iL ops)) call t0 h0 T D a:=by
     rcases U.done a ha with m|m
     ·simp at m
     ·obtain⟨b,N,ah⟩:=K4.1 m
      rw[wz ha (hl b N) ah.symm];exact U.item b N
   have L:∀y∈iL ops,y∈l:=by
     intro y z;rcases U.done y z with m|m
     ·simp at m
     ·obtain⟨b,N,ah⟩:=K4.1 m
      rw[wz z (hl b N) ah.symm];exact N
   have bg:=L a ha;have aw:∀d,d∈pN a.o->jL t d=jL (T.tt a.i) d:=λd hd=>by
     rw[k.pe d,B.pe d];exact HU sN hp ha k.closed B.closed A B.fg J B.fresh hd _ _
   have M:∀x∈a.o.op.operands.toList,Alike t (T.tt a.i) x:=Hz λd hd=>aw d (by simp[pN,hd]);have ax:pM n ops.toList a.o t=some (T.on a.i):=by
     rw[<-B.pM];refine PC λjg wg oj d hg hj hd=>?_;have F:=MT.1 a8 a ha;unfold CR at F;rw[hg]at F;simp only at F
     cases hjt:(iL ops)[jg]? with
     |none=>rw[hjt]at F;cases F
     | some g=>
       rw[hjt]at F;simp only at F;have bh:g.o=oj:=by
         have:=(Cr _ _ _ _ _ hjt).2;rw[hj]at this;cases this;rfl
       rw[bh,hd]at F;simp only[uZ]at F;obtain⟨aE,aH⟩:=F;have aR:=sN _ _ hjt;have bi:g∈iL ops:=mK.2 ⟨_,hjt⟩;rw[k.pe d,B.pe d];refine qk (λx u bj=>?_) (λ_ _ _ _=>rfl) _;have m:=MT.1 aH x u;rw[bj]at m;have v:x.i=jg:=by simpa using m
       have O:x=g:=wz u bi (by omega);subst O;rw[A x u (by rw[aR];exact aE),B.fg x u (by rw[aR];exact aE)]
   have ai:Region.wanted o (yielded ops Z.tmps)=T.on a.i:=by rw[<-K];exact Ph k.tmps ax
   obtain ⟨d,hd⟩:=B.dst;have aa:∀i',(c.setIfInBounds i true).getD i' false=(c.getD i' false ||decide (a.i=i')):=λi'=>by
     by_cases e:i=i'
     ·subst e;simp[V,ag]
     ·rw[getD_set_ne false e]
      have:¬a.i=i':=by rw[ag];exact e
      simp[this]
   have aI:(c.setIfInBounds i true).toList.count false<=fuel:=by
     have m:c.toList[i]? =some false:=by
       rw[Rm];have:c.getD a.i false=false:=J;rw[ag]at this;simpa[V]using this
     have:=count_set c.toList i m;rw[wBz];omega
   have ab:zS (iL ops) (λi'=>(c.setIfInBounds i true).getD i' false):=by
     intro x u ac y z au;simp only[aa,KM,AW]at ac⊢;rcases ac with ac|ac
     ·exact .inl (k.closed x u ac y z au)
     ·have:=wz ha u ac
      subst this;exact .inl (A y z au)
   have aj:∀d',jL (d.f t (T.val a.i)) d' = qc T.val (λi'=>(c.setIfInBounds i true).getD i' false) d' (iL ops) (jL t0 d'):=λd'=>by
     rw[Io hd,FY sN hp ha k.closed J aa (val:=T.val) (KJ:=T.val) (λ_ _=>rfl) d' (jL t0 d'),k.pe d']
   have next:∀(j':Nat) (I:Env) (x:Value) (w':World),fM I (T.val a.i) x->WR I (T.H j') w'->FR Δ I w w'->j'<=(gX (iL ops)).length->
       (∀q y,(gX (iL ops))[q]? =some y->((c.setIfInBounds i true).getD y.i false=true↔q<j'))->
       (∀y∈iL ops,cls y.o=1->T.on y.i=true->(c.setIfInBounds i true).getD y.i false=false->T.ep y.i<=j'->I (T.pl y.i)=none)->
       (∀l,Δ0 l=none->l<h0.next->I l=none)->wpAny P0 .any ops Q fuel (c.setIfInBounds i true) (Z.put o.dst x) w':=by
     intro j' I x w' bm bo aS bq R ay aA;have br:j<=j':=by
       rcases Pm j' j with h|h
       ·exfalso
        have aT:j' < (gX (iL ops)).length:=by have:=k.XN;omega
        have hg:=gP aT;have m:=(k.ahead j' _ hg).2 h;have v:=(R j' _ hg).1 (by rw[aa,m];rfl);omega
       ·exact h
     refine ih _ _ _ j' I (d.f t (T.val a.i)) (Gt aQ br) aI ⟨by simp[k.size],ab,bq,R,?_,aj,bo,k.frame.trans aS,aA,by rw[xH hd];exact k.defers,ay⟩;have:=Jk (k.tmps.mono aS.le) hd bm;rw[K]at this;exact this
   have aU:h0.next<=(T.H j).next:=Gt U.more.1 (EU U.chain j j (by omega) k.XN);have ak:j<=late (gX (iL ops)) a:=by
     rcases Pm (late (gX (iL ops)) a) j with h|h
     ·exfalso
      obtain⟨x,u,bt⟩:=J7 (gX (iL ops)) a (by have:=k.XN;omega);have m:=(k.ahead _ x u).2 h;have:=k.closed x (oC (mK.2 ⟨_,u⟩)).1 m a ha bt;simp only at this;rw[J]at this;cases this
     ·exact h
   have still:cls a.o≠2->∀q y,(gX (iL ops))[q]? =some y->((c.setIfInBounds i true).getD y.i false=true↔q<j):=by
     intro al q y hq;rw[aa,<-k.ahead q y hq];have z:=oC (mK.2 ⟨_,hq⟩);have:¬a.i=y.i:=λe=>by
       have:=wz ha z.1 e;subst this;exact al z.2
     simp[this]
   have aJ:cls a.o≠2->T.ep a.i<=j:=by
     intro al;have m:=B.epw al
     cases he:T.ep a.i with
     |zero=>omega
     | succ e=>
       rw[he]at m;simp only[KV]at m;split at m
       ·rename_i x u
        have bu:=(oC (mK.2 ⟨_,u⟩)).1;have:=(k.ahead _ x u).1 (A x bu m);omega
       ·cases m
   have s:∀y∈iL ops,cls y.o=1->T.on y.i=true->(c.setIfInBounds i true).getD y.i false=false->T.ep y.i<=j->Δ (T.pl y.i)=none/\y.i≠a.i:=by
     intro y z m v O W;rw[aa]at O;simp only[Bool.or_eq_false_iff,decide_eq_false_iff_not]at O;exact⟨k.zc6 y z m v O.1 W,λe=>O.2 e.symm⟩
   have S:∀y∈iL ops,cls y.o=1->T.on y.i=true->T.ep y.i<=j->T.pl y.i<(T.H j).next:=by
     intro y z m v O;rcases U.done y z with W|W
     ·simp at W
     ·obtain⟨b,N,ah⟩:=K4.1 W
      have:=wz z (hl b N) ah.symm;subst this;obtain⟨_,am⟩:=U.item y N;exact((am.alloc m v).2.1 j O k.XN).1
   have aK:cls a.o=2->isW (gX (iL ops)) a (T.ep a.i)=true->T.ep a.i=j/\(gX (iL ops))[j]? =some a:=by
     intro _ hw;unfold isW at hw;split at hw
     ·rename_i x u
      have bw:=wz (oC (mK.2 ⟨_,u⟩)).1 ha (vK hw);subst bw;have aV:(gX (iL ops))[j]? =some x:=by
        apply Classical.byContradiction;intro al;exact hez ⟨(oC (mK.2 ⟨_,u⟩)).2,al⟩
      exact⟨EX u aV rfl,aV⟩
     ·cases hw
   have an:cls a.o=2->isW (gX (iL ops)) a (T.ep a.i)=true->∀q y,(gX (iL ops))[q]? =some y->((c.setIfInBounds i true).getD y.i false=true↔q<j+1):=by
     intro p hw q y hq;obtain⟨_,u⟩:=aK p hw;rw[aa];simp only[KM,AW,k.ahead q y hq];constructor
     ·rintro(h|h)
      ·omega
      ·have:=EX u hq h;omega
     ·intro h
      rcases Pm q j with m|m
      ·exact .inl m
      ·have:q=j:=by omega
       subst this;rw[u]at hq;cases hq;exact .inr rfl
   have ao:cls a.o=2->isW (gX (iL ops)) a (T.ep a.i)=true->∀(I:Env) (w':World),WR I (T.G j) w'->Gr (T.H j) Δ (T.G j) I->
       ∀y∈iL ops,cls y.o=1->T.on y.i=true->(c.setIfInBounds i true).getD y.i false=false->T.ep y.i<=j+1->I (T.pl y.i)=none:=by
     intro p hw I w' bx bz y z m v O W;rcases Pm j (T.ep y.i)with h5|h5
     ·obtain⟨_,am⟩:=U.item y (L y z)
      have aW:=(am.alloc m v).2.2.1 j h5
      cases hd':I (T.pl y.i)with
      |none=>rfl
      |some e=>have:=bx.fresh _ _ hd';omega
     ·exact bz.none _ (s y z m v O h5).1 (S y z m v h5)
   unfold wpOp;simp only[ho];rw[ai]
   cases E:T.on a.i with
   | false=>
     simp only[MR,if_false];have hv:=B.off E;rcases JA a.o with p|p|p
     ·exact next j Δ undef w (by rw[hv];exact .undef Δ) k.world (.refl _ _) k.XN (still (by rw[p];decide)) (λy z m v O W=>(s y z m v O W).1) k.none
     ·exact next j Δ undef w (by rw[hv];exact .undef Δ) k.world (.refl _ _) k.XN (still (by rw[p];decide)) (λy z m v O W=>(s y z m v O W).1) k.none
     ·obtain⟨C,_,aX⟩:=B.write p
      obtain⟨aL,aM⟩:=aK p C;have hG:=aX E;rw[aL]at hG;have ap:j<(gX (iL ops)).length:=(iR.1 aM).1;obtain⟨bA,aN⟩:=U.chain j (Kl _) ap;have aY:WR Δ (T.G j) w:=by rw[hG];exact k.world
      exact next (j+1) Δ undef w (by rw[hv];exact .undef Δ) (aY.Pe aN) (.refl _ _) ap (an p C) (ao p C Δ w aY (by rw[hG];exact .refl _ _)) k.none
   | true=>
     simp only[if_true];left;rcases JA a.o with p|p|p
     ·have aZ:=B.pure p E j (aJ (by rw[p];decide)) k.XN ak
      rw[<-HB (h:=T.H j) M]at aZ;have aB:(Ib a.o).f call t (T.H j)=some (T.val a.i,T.H j):=by
        unfold Ib;rw[p];simp only[ft];exact⟨_,aZ,rfl⟩
      rw[<-K];refine NI hc k.world k.tmps aB λI x w' hA=>?_;rw[K]
      exact next j I x w' hA.val hA.world hA.frame k.XN (still (by rw[p];decide)) (λy z m v O W=>hA.grow.none _ (s y z m v O W).1 (S y z m v W))
        (λl' m v=>hA.grow.none _ (k.none l' m v) (BL v aU))
     ·obtain ⟨⟨mk,a5,a6⟩,bC,_,aW⟩:=B.alloc p E
      obtain⟨bD,bE⟩:=bC j (aJ (by rw[p];decide)) k.XN;have a7:=bE ak;rw[<-Ki M]at a5;obtain⟨mo,mv,aq,aO⟩:=Q8 k.tmps a5;have X:=k.zc6 a ha p E J (aJ (by rw[p];decide));obtain⟨dd,N,bG,bH⟩:=aO (T.pl a.i) w.heap.size X;rw[<-K];unfold Oper.wp;rw[aq w,Oper.upon_value,K];refine next j (Δ.set (T.pl a.i) dd) _ _ (by rw[a6];exact bH) (k.world.lay X bD a7 N bG) (FR.lay X N) k.XN (still (by rw[p];decide)) (λy z m v O W=>?_) (λl' m v=>?_)
      ·obtain⟨e1,e2⟩:=s y z m v O W
       have:=U.TC y (L y z) a bg m p v E e2;unfold Env.set;rw[if_neg this];exact e1
      ·have:l'≠T.pl a.i:=by omega
       unfold Env.set;rw[if_neg this];exact k.none l' m v
     ·obtain ⟨C,aq,_⟩:=B.write p
      obtain⟨aL,aM⟩:=aK p C;have aB:=aq E;rw[aL,<-LK (h:=T.H j) M]at aB;have ap:j<(gX (iL ops)).length:=(iR.1 aM).1;obtain⟨bA,aN⟩:=U.chain j (Kl _) ap;rw[<-K];refine NI hc k.world k.tmps aB λI x w' hA=>?_;rw[K]
      exact next (j+1) I x w' hA.val (hA.world.Pe aN) hA.frame ap (an p C) (ao p C I w' hA.world hA.grow)
        (λl' m v=>hA.grow.none _ (k.none l' m v) (BL v aU))
theorem UD(m:FW (gX (iL ops))=true) (fuel:Nat) (c:Array Bool) (g:Act) (w:World) (j:Nat) (Δ:Env) (t:Tm) (a:It) (_:0<=j) (_:c.toList.count false<=fuel+1) (s:Inv n ops t0 h0 Δ0 w0 T c j Δ t g w) (v:a∈iL ops)
  (p:cls a.o=2) (k:c.getD a.i false=false) (d:∀x∈iL ops,a.b.testBit x.i=true->c.getD x.i false=true) (r:(gX (iL ops))[j]?≠some a) :
  wpOp P0 ops Q a.i (wpAny P0 .any ops Q fuel (c.setIfInBounds a.i true)) g w:=by
 exfalso;have l:a∈gX (iL ops):=by unfold gX;rw[MS];exact⟨v,by rw[p];rfl⟩
 obtain ⟨q,hq⟩:=mK.1 l;have y:¬q<j:=λh=>by
  have:=(s.ahead _ a hq).2 h;rw[k]at this;cases this
 have z:q≠j:=λe=>r (by rw[<-e];exact hq);obtain⟨e,rfl⟩:∃e,q=e+1:=⟨q-1,by omega⟩
 have f:e<(gX (iL ops)).length:=by have:=(iR.1 hq).1;omega
 have u:=gP f;have A:=Km m e _ a u hq;have:=(s.ahead e _ u).1 (d _ (oC (zq f)).1 A);omega
theorem iQ{x:Operand} (a:OJ x=true) (t:Tm) (h h':Hp):(sR x).f t h=(sR x).f t h':=by
 cases x <;> first|rfl|(simp[OJ]at a)
theorem Qu{o:Oper} (b:EH o=true) (t:Tm) (h h':Hp):(iK o).f t h=(iK o).f t h':=by
 unfold EH at b;unfold iK;split at b
 ·rename_i a;rw[a];exact iQ b t h h'
 ·rename_i a;rw[a];show(uh _).f t h=(uh _).f t h';unfold uh;simp only[iQ b t h h']
 ·rename_i a;rw[a];show(nw _ _ _).f t h=(nw _ _ _).f t h';unfold nw;split
  ·split <;> simp only[iQ b t h h']
  ·rfl
 ·rename_i a;rw[a];rw[uZ]at b;show(nj _ _ _).f t h=(nj _ _ _).f t h';unfold nj;split
  ·split <;> simp only[iQ b.1 t h h',iQ b.2 t h h']
  ·split <;> simp only[iQ b.1 t h h',iQ b.2 t h h']
  ·rfl
 ·cases b
theorem p9{o:Oper} {d:Nat} (h:storeAt o=some d):∃ty x,o.op = .store ty (.tmp d) x/\o.guard=none/\o.dst=none/\OJ x=true:=by
 unfold storeAt at h;split at h
 ·rename_i ty b x a;split at h
  ·cases h;exact⟨ty,x,a,by assumption,by assumption,by assumption⟩
  ·cases h
 ·cases h
theorem A2{o:Oper} {d:Nat} (h:storeAt o=some d):cls o=2:=by
 obtain⟨ty,x,a,_⟩:=p9 h;unfold cls;rw[a]
theorem JJ{o:Oper} {d:Nat} (hs:storeAt o=some d) {call:Call} {t:Tm} {h h':Hp} {v:V} (hv:(Ib o).f call t h=some (v,h')) :
  v = .undef/\∃l off e sz cs nQ,jL t d = .ptr l off/\h.get l=some (.cells e sz true false cs)/\h' = h.put l (.cells e sz true false nQ)/\
   ∀b:Hp,b.get l=h.get l->(Ib o).f call t b=some (.undef,b.put l (.cells e sz true false nQ)):=by
 obtain⟨ty,x,m,_,_,y⟩:=p9 hs;have i:=A2 hs
 have c:∀h,(Ib o).f call t h=oB ((jW o).f t h) λr=>match r with
   | .val v h=>some (v,h)
   | .call f args=>call f args h:=by
  intro h;unfold Ib;split
  ·rename_i h0;rw[i]at h0;cases h0
  ·rename_i h0;rw[i]at h0;cases h0
  ·rfl
 rw[c,ft]at hv;obtain⟨r,b,A⟩:=hv
 have u:∀h,(jW o).f t h=match yq ty with
   |some n=>oB ((sR (.tmp d)).f t h) λa=>oB ((sR x).f t h) λv=>yY a λl off=>bB (Nat.beq v.cells.length n) (oB (Fl h l off v.cells) λh=>some (.val .undef h))
   |none=>none:=by
  intro h;unfold jW;rw[m];simp only;generalize yq ty=z;cases z <;> rfl
 rw[u]at b
 cases hn:yq ty with
 |none=>rw[hn]at b;cases b
 | some n=>
   rw[hn]at b;simp only[ft,vx,g0]at b;obtain⟨a,B,vv,p,l,off,rfl,hlen,D,g,C⟩:=b;cases C;cases A;have j:jL t d = .ptr l off:=Option.some.inj (show some (jL t d)=some (V.ptr l off) from B);unfold Fl at g;simp only[kQ,g0,ft,wBo]at g;obtain⟨e,sz,live,ro,cs,w,rfl,rfl,k,nQ,q,Nf⟩:=g;cases Nf;refine⟨rfl,l,off,e,sz,cs,nQ,j,w,rfl,λb s=>?_⟩;rw[c,ft];refine⟨.val .undef (b.put l (.cells e sz true false nQ)),?_,rfl⟩;rw[u,hn];simp only[ft,vx,g0];refine⟨.ptr l off,by rw[<-j];rfl,vv,by rw[iQ y t b h];exact p,l,off,rfl,hlen,b.put l (.cells e sz true false nQ),?_,rfl⟩;unfold Fl;simp only[kQ,g0,ft,wBo];exact⟨e,sz,true,false,cs,by rw[s];exact w,rfl,rfl,k,nQ,q,rfl⟩
theorem Mu:∀{l:List It} {a b:It},KW l=some (a,b)->∃p,l.length=p+2/\l[p]? =some a/\l[p+1]? =some b
 |[],_,_,h=>by cases h
 |[_],_,_,h=>by cases h
 |[x,y],a,b,h=>by cases h;exact⟨0,rfl,rfl,rfl⟩
 | _::y::z::l,a,b,h=>by
   obtain⟨p,c,d,e⟩:=Mu (l:=y::z::l) h;exact⟨p+1,by simp only[Dz]at c⊢;omega,by simpa using d,by simpa using e⟩
theorem HO:∀{l:List It},HH l=true->∀(q:Nat) (a b:It),l[q]? =some a->l[q+1]? =some b->q+2<l.length->b.b.testBit a.i=true/\(q+3=l.length->∀c,l[q+2]? =some c->c.b.testBit a.i=true)
 |[],_,q,a,b,h,_,_=>by simp at h
 |[x],_,q,a,b,_,h,_=>by simp at h
 |[x,y],_,q,a,b,_,_,h=>by simp only[Dz,XZ]at h;omega
 | x::y::z::l,hc,0,a,b,d,f,_=>by
   simp at d f;subst d;subst f;simp only[HH,uZ]at hc;refine⟨hc.1.1,λk c g=>?_⟩;simp at g;subst g;have:l=[]:=UZ (by have e:(x::y::z::l).length=l.length+3:=rfl;omega);subst this
   exact hc.1.2
 | x::y::z::l,hc,q+1,a,b,d,f,m=>by
   simp only[HH,uZ]at hc;have:=HO (l:=y::z::l) hc.2 q a b (by rw[QB]at d;exact d) (by rw[QB]at f;exact f) (by have e:(x::y::z::l).length=(y::z::l).length+1:=rfl;omega);refine⟨this.1,λk c j=>this.2 (by have e:(x::y::z::l).length=(y::z::l).length+1:=rfl;omega) c (by rw[show q+1+2=(q+2)+1 by omega,QB]at j;exact j)⟩
theorem QK{jY ws:List It} {a b:It} {da db:Nat} (h:Iw jY ws=some (a,b,da,db)) :
  KW ws=some (a,b)/\storeAt a.o=some da/\storeAt b.o=some db/\fixed jY a=true/\fixed jY b=true/\O0 jY a b=true/\HH ws=true:=by
 unfold Iw at h;split at h
 ·rename_i j k d;split at h
  ·rename_i e f g i;split at h
   ·rename_i c;cases h;simp only[uZ]at c;exact⟨d,g,i,c.1.1.1,c.1.1.2,c.1.2,c.2⟩
   ·cases h
  ·cases h
 ·cases h
structure za6 (n:Nat) (ops:Array Oper) (t0:Tm) (h0:Hp) (Δ0:Env) (w0:World) (T:Tc) (c:Nat) (e:Hp) (b:Array Bool) (Δ:Env) (t:Tm) (a:Act) (w:World):Prop where
 size:b.size=ops.size
 closed:zS (iL ops) (λi=>b.getD i false)
 ahead:∀x∈gX (iL ops),(b.getD x.i false=true↔x.i≠c)
 tmps:TR Δ n t a
 pe:∀d,jL t d=qc T.val (λi=>b.getD i false) d (iL ops) (jL t0 d)
 world:WR Δ e w
 frame:FR Δ0 Δ w0 w
 none:∀l,Δ0 l = .none->l<h0.next->Δ l = .none
 defers:t.ds=t0.ds
section
variable{a b:It}{da db p:Nat}
structure zdh (ops:Array Oper) (T:Tc) (a b:It) (da db p:Nat) (r:Tm×Hp):Prop where
 len:(gX (iL ops)).length=p+2
 ga:(gX (iL ops))[p]? =some a
 gb:(gX (iL ops))[p+1]? =some b
 sa:storeAt a.o=some da
 sb:storeAt b.o=some db
 fa:fixed (iL ops) a=true
 fb:fixed (iL ops) b=true
 op:O0 (iL ops) a b=true
 ch:HH (gX (iL ops))=true
 apart:Wu (jL r.1 da) (jL r.1 db)=true
theorem NW(h:O0 (iL ops) a b=true) {x:It} (d:x∈iL ops) (e:x.i≠a.i) (f:x.i≠b.i) (g:¬(a.b.testBit x.i=true/\b.b.testBit x.i=true)) :
  cls x.o=0/\EH x.o=true/\x.o.guard=none/\x.b.testBit a.i=false/\x.b.testBit b.i=false:=by
 have:=MT.1 h x d;simp only[KM,uZ,wBo,Option.isNone_iff_eq_none]at this;rcases this with((c|c)|c)|c
 ·exact absurd (vK c) e
 ·exact absurd (vK c) f
 ·exact absurd c g
 ·exact⟨vK c.1.1.1.1,c.1.1.1.2,c.1.1.2,c.1.2,c.2⟩
theorem Js{l:List It} (m:tL n ops.toList (iL ops) (gX (iL ops)) call t0 h0 l 0 0 h0 [] r T T) {x:It} (p:x∈iL ops) (g:fixed (iL ops) x=true) {D:Nat->Bool} (h:∀y∈iL ops,x.b.testBit y.i=true->D y.i=true)
  {d:Nat} (j:d∈Bv x.o.op.operands.toList) (a:V):qc T.val D d (iL ops) a=qc T.val (λ_=>true) d (iL ops) a:=by
 refine qk (λy e c=>?_) (λ_ _ _ _=>rfl) a;have f:=MT.1 (MT.1 g d j) y e;have k:writes y.o [d]=true:=by simp[writes,c]
 rw[k]at f;exact h y e (by simpa using f)
theorem A3{o:Oper} {d:Nat} (h:storeAt o=some d):d∈Bv o.op.operands.toList:=by
 obtain⟨ty,x,a,_⟩:=p9 h;rw[a];simp[Op.operands,Bv]
end
section
variable{a b:It}{da db p:Nat}{l:List It}
theorem Xs{H b g:Hp} {la lb:Nat} {l ob:O} (c:la<H.next) (d:lb<H.next) (i:la≠lb) (m:B9 (H.put la l) b) (n:B9 (b.put lb ob) g):B9 ((H.put lb ob).put la l) g:=by
 have a:H.next<=b.next:=m.1;have j:b.next<=g.next:=n.1;refine⟨Gt a j,λx o=>?_⟩;have f:x<H.next:=o;rw[n.2 x (BL f a)];rw[pK (h:=H.put lb ob) _ _ c,pK (h:=b) _ _ (BL d a),pK (h:=H) _ _ d];rw[m.2 x f,pK (h:=H) _ _ c];by_cases k:la=x
 ·subst k;rw[if_pos rfl,if_pos rfl,if_neg (λe=>i e.symm)]
 ·rw[if_neg k,if_neg k]
theorem zaZ(hc : vU call) (hp:qC (iL ops)=true) (aO:(iL ops).all (CR (iL ops))=true) (au:(iL ops).all Bd=true) (hl:∀a∈l,a∈iL ops)
    (hT:tL n ops.toList (iL ops) (gX (iL ops)) call t0 h0 l 0 0 h0 [] r T T) (A:zdh ops T a b da db p r)
    (aP:r.1.ds=t0.ds) (hQ:∀Δ' a' w',BA Δ0 h0 w0 n r.1 r.2 Δ' a' w'->Q .normal a' w') {la lb:Nat} {ob:O} (aQ:la<(T.H p).next) (aw:lb<(T.H p).next) (ax:la≠lb)
    (aR:∀t:Tm,jL t da=jL r.1 da->∃oa,(T.G p)=(T.H p).put la oa/\∀g:Hp,g.get la=(T.H p).get la->(∀x∈a.o.op.operands.toList,Alike t (T.tt a.i) x)->(Ib a.o).f call t g=some (.undef,g.put la oa))
    (aS:T.G (p+1)=(T.H (p+1)).put lb ob) :
    ∀(fuel:Nat) (c:Array Bool) (m:Act) (w:World) (Δ:Env) (t:Tm),c.toList.count false<=fuel->za6 n ops t0 h0 Δ0 w0 T a.i ((T.H p).put lb ob) c Δ t m w->wpAny P0 .any ops Q fuel c m w:=by
  have ha:a∈iL ops:=(oC (mK.2 ⟨_,A.ga⟩)).1;have hb:b∈iL ops:=(oC (mK.2 ⟨_,A.gb⟩)).1;have aT:=A2 A.sa;have aU:=A2 A.sb;have aV:a.i≠b.i:=λe=>by
    have:=EX A.ga A.gb e;omega
  have ay:a∈gX (iL ops):=mK.2 ⟨_,A.ga⟩;have aA:b∈gX (iL ops):=mK.2 ⟨_,A.gb⟩;have V:∀{c Δ t m w},za6 n ops t0 h0 Δ0 w0 T a.i ((T.H p).put lb ob) c Δ t m w->c.getD a.i false=false:=λk=>by
    cases h:Array.getD _ a.i false with
    |false=>rfl
    |true=>exact absurd rfl ((k.ahead a ay).1 h)
  have C:∀{c Δ t m w},za6 n ops t0 h0 Δ0 w0 T a.i ((T.H p).put lb ob) c Δ t m w->c.getD b.i false=true:=λk=>(k.ahead b aA).2 (λe=>aV e.symm);intro fuel
  induction fuel with
  | zero=>
    intro c m w Δ t aB k;exfalso;have g:=V k;have W:a.i<c.size:=by rw[k.size];exact(SR.1 (Me ha)).1
    have:false∈c.toList:=by
      have:c[a.i]=false:=by simpa[W]using g
      rw[<-this];simp
    have:=List.count_pos_iff.2 this
    omega
  | succ fuel ih=>
    intro c m w Δ t aB k;refine⟨λhr=>?_,λi hi=>?_⟩
    ·exfalso
     have aC : ∀i,i<ops.size->c.getD i false=true:=by
       intro i
       induction i using Nat.strongRecOn with
       | _ i aW=>
         intro hi
         cases ab:c.getD i false with
         |true=>rfl
         | false=>
           exfalso;have ho:ops[i]? =some ops[i]:=Array.getElem?_eq_getElem hi;obtain⟨x,hx,aX,aY,_⟩:=Lv ho;have L:i∈Region.ready .any ops c:=by
             rw[mem_ready];refine⟨?_,ops[i],ho,λe he aD=>?_⟩
             ·have:i<c.size:=by rw[k.size];exact hi
              simp[this]at ab⊢;exact ab
             ·have g:=MT.1 au x hx
              unfold Bd at g;rw[aY,aX]at g;have h2:=MT.1 g e (by simpa using he);rw[<-FZ,aD]at h2;simp only[wCG,Bool.false_or,Ns]at h2;exact aW e.on h2 (by omega)
           rw[hr]at L;cases L
     have:=aC a.i (SR.1 (Me ha)).1;rw[V k]at this;cases this
    rw[mem_ready]at hi;obtain⟨qz,o,ho,ac⟩:=hi;obtain⟨y,N,ae,E,al⟩:=Lv ho;have W:i<c.size:=by rw[k.size];exact(SR.1 ho).1
    have u:c.getD y.i false=false:=by rw[ae];simp[W]at qz⊢;exact qz
    have F:∀x∈iL ops,y.b.testBit x.i=true->c.getD x.i false=true:=by
      intro x hx ab;obtain⟨e,he,aZ,g⟩:=LU al ab;rw[E]at he;have P:=ac e (by simpa using he) (by rw[FZ];exact aZ);rcases g with g|⟨z,s,I⟩
      ·rw[g];exact P
      ·have a5:=sN _ _ s
       exact k.closed z (mK.2 ⟨_,s⟩) (by show c.getD z.i false=true;rw[a5];exact P) x hx I
    have ag:∀y∈iL ops,y∈l:=by
      intro y N;rcases hT.done y N with g|g
      ·simp at g
      ·obtain⟨b,hb,a6⟩:=K4.1 g
       rw[wz N (hl b hb) a6.symm];exact hb
    obtain ⟨D,J⟩:=hT.item y (ag y N);have ah:∀d,d∈pN y.o->jL t d=jL (T.tt y.i) d:=λd U=>by
      rw[k.pe d,J.pe d];exact HU sN hp N k.closed J.closed F J.fg u J.fresh U _ _
    have M:∀x∈y.o.op.operands.toList,Alike t (T.tt y.i) x:=Hz λd U=>ah d (by simp[pN,U]);obtain⟨d,U⟩:=J.dst;have X:∀i',(c.setIfInBounds i true).getD i' false=(c.getD i' false ||decide (y.i=i')):=λi'=>by
      by_cases e:i=i'
      ·subst e;simp[W,ae]
      ·rw[getD_set_ne false e]
       have:¬y.i=i':=by rw[ae];exact e
       simp[this]
    have Y:(c.setIfInBounds i true).toList.count false<=fuel:=by
      have g:c.toList[i]? =some false:=by
        rw[Rm];have:c.getD y.i false=false:=u;rw[ae]at this;simpa[W]using this
      have:=count_set c.toList i g;rw[wBz];omega
    have B:zS (iL ops) (λi'=>(c.setIfInBounds i true).getD i' false):=by
      intro x hx R z s I;simp only[X,KM,AW]at R⊢;rcases R with R|R
      ·exact .inl (k.closed x hx R z s I)
      ·have:=wz N hx R
       subst this;exact .inl (F z s I)
    have K:∀d',jL (d.f t (T.val y.i)) d' = qc T.val (λi'=>(c.setIfInBounds i true).getD i' false) d' (iL ops) (jL t0 d'):=λd'=>by
      rw[Io U,FY sN hp N k.closed u X (val:=T.val) (KJ:=T.val) (λ_ _=>rfl) d' (jL t0 d'),k.pe d']
    have aE:h0.next<=(T.H p).next:=Gt hT.more.1 (EU hT.chain p p (by omega) (by have:=A.len;omega));have am:y.i≠a.i->cls y.o=0/\EH y.o=true/\y.o.guard=none/\y.b.testBit a.i=false/\y.b.testBit b.i=false:=λak=>by
      have a7:y.i≠b.i:=λe=>by rw[e,C k]at u;cases u
      refine NW A.op N ak a7 λ⟨_,Z⟩=>?_;have:=k.closed b hb (C k) y N Z;simp only at this;rw[u]at this;cases this
    by_cases hya:y.i=a.i
    ·
      have aF:=wz N ha hya;subst aF;have P:Region.wanted o (yielded ops m.tmps)=true:=by
        obtain⟨_,_,_,hg,_⟩:=p9 A.sa;unfold Region.wanted;rw[<-E,hg]
      unfold wpOp;simp only[ho];rw[P];simp only[if_true];left;obtain⟨oa,a8,aG⟩:=aR t (by
        rw[k.pe da,hT.pe da];exact Js hT N A.fa F (A3 A.sa) _)
      have an:=aG ((T.H p).put lb ob) (by rw[pK _ _ aw,if_neg (λe=>ax e.symm)]) M;rw[<-E];refine NI hc k.world k.tmps an λΔ' x w' hA=>?_;rw[E];have hlen:=A.len;have aH:=hT.chain p (Kl _) (by omega);have ao:=hT.chain (p+1) (Kl _) (by omega);have hm:B9 (((T.H p).put lb ob).put la oa) (T.H (p+2)):=Xs aQ aw ax (by rw[<-a8];exact aH.2) (by rw[<-aS];exact ao.2);have ap:∀q z,(gX (iL ops))[q]? =some z->((c.setIfInBounds i true).getD z.i false=true↔q<p+2):=λq z s=>by
        have a9:=(iR.1 s).1;constructor
        ·intro _;omega
        ·intro _
         rw[X];by_cases e:z.i=y.i
         ·simp[e]
         ·rw[(k.ahead z (mK.2 ⟨_,s⟩)).2 e];rfl
      have bh:T.val y.i = .undef\/True:= .inr trivial;have aI:(d.f t (T.val y.i)).ds=t0.ds:=by rw[xH U];exact k.defers
      have ai:y.o.dst=none:=by obtain⟨_,_,_,_,h5,_⟩:=p9 A.sa;exact h5
      have ba:TR Δ' n (d.f t (T.val y.i)) (m.put o.dst x):=by
        have g:=Jk (k.tmps.mono hA.frame.le) U (v:= .undef) hA.val;rw[E]at g;have e:d.f t (T.val y.i)=d.f t .undef:=by
          unfold yz at U;rw[ai]at U;cases U;rfl
        rw[e];exact g
      refine TT hc hp aO au (T:=T) (p+2) (λfuel c m w j Δ t a' hj _ bb bc aJ aq _ ak=>?_) hl hT aP hQ fuel _ _ _ (p+2) Δ' (d.f t (T.val y.i)) (jj _) Y
        ⟨by simp[k.size],B,by omega,ap,ba,K,hA.world.Pe hm,k.frame.trans hA.frame,λl' g h2=>hA.grow.none _ (k.none l' g h2) (BL h2 aE),aI,λz s aK bi S _=>?_⟩
      ·exfalso
       have L:a'∈gX (iL ops):=by unfold gX;rw[MS];exact⟨bc,by rw[aJ];rfl⟩
       obtain⟨q,hq⟩:=mK.1 L;have g:=(iR.1 hq).1;have:=(bb.ahead _ a' hq).2 (by omega);rw[aq]at this;cases this
      ·exfalso
       rw[X]at S;simp only[Bool.or_eq_false_iff,decide_eq_false_iff_not]at S;have I:z.i≠b.i:=λe=>by rw[e,C k]at S;cases S.1
       have:=NW A.op s (λe=>S.2 e.symm) I (λ⟨_,Z⟩=>by
         have:=k.closed b hb (C k) z s Z;simp only at this;rw[S.1]at this;cases this)
       rw[this.1]at aK;cases aK
    ·
      obtain⟨aj,BP,aL,bd,Z⟩:=am hya;have be:pM n ops.toList y.o (T.tt y.i)=some true:=by unfold pM kO;rw[aL]
      have P:T.on y.i=true:=by
        have:=J.pM;rw[be]at this;exact(Option.some.inj this).symm
      have aa:Region.wanted o (yielded ops m.tmps)=true:=by
        unfold Region.wanted;rw[<-E,aL]
      have hlen :=A.len;have bf:T.ep y.i<=p:=by
        have g:=J.epw (by rw[aj];decide)
        cases he:T.ep y.i with
        |zero=>omega
        | succ e=>
          rw[he]at g;simp only[KV]at g;split at g
          ·rename_i z s
           have a9:=(iR.1 s).1;rcases Pm e p with h|h
           ·omega
           ·exfalso
            have:e=p\/e=p+1:=by omega
            rcases this with e1|e1
            ·subst e1
             rw[A.ga]at s;cases s;rw[bd]at g;cases g
            ·subst e1
             rw[A.gb]at s;cases s;rw[Z]at g;cases g
          ·cases g
      have ar:p<=late (gX (iL ops)) y:=by
        rcases Pm (late (gX (iL ops)) y) p with h|h
        ·exfalso
         obtain ⟨z,s,I⟩:=J7 (gX (iL ops)) y (by omega);have aM:z∈gX (iL ops):=mK.2 ⟨_,s⟩;have bg:z.i≠a.i:=λe=>by
           have:=EX s A.ga e;omega
         have:=k.closed z (oC aM).1 ((k.ahead z aM).2 bg) y N I;simp only at this;rw[u]at this;cases this
        ·exact h
      have aN:=J.pure aj P p bf (by omega) ar;rw[<-HB (h:=T.H p) M,Qu BP t _ ((T.H p).put lb ob)]at aN;have an:(Ib y.o).f call t ((T.H p).put lb ob)=some (T.val y.i,(T.H p).put lb ob):=by
        unfold Ib;rw[aj];simp only[ft];exact⟨_,aN,rfl⟩
      unfold wpOp;simp only[ho];rw[aa];simp only[if_true];left;rw[<-E];refine NI hc k.world k.tmps an λΔ' x w' hA=>?_;rw[E];refine ih _ _ _ Δ' (d.f t (T.val y.i)) Y ⟨by simp[k.size],B,λz s=>?_,?_,K,hA.world,k.frame.trans hA.frame,λl' g h2=>hA.grow.none _ (k.none l' g h2) (BL h2 aE),by rw[xH U];exact k.defers⟩
      ·rw[X]
       have:¬y.i=z.i:=λe=>by
         have g:=wz N (oC s).1 e;subst g;have:=(oC s).2;rw[aj]at this;cases this
       simp only[this,decide_false,Bool.or_false];exact k.ahead z s
      ·have g:=Jk (k.tmps.mono hA.frame.le) U hA.val
       rw[E]at g;exact g
end
section
variable{a b:It}{da db p:Nat}{l:List It}
theorem XB(hc:vU call) (hp:qC (iL ops)=true) (aG:(iL ops).all (CR (iL ops))=true) (aH:(iL ops).all Bd=true) (hl:∀a∈l,a∈iL ops)
  (M:tL n ops.toList (iL ops) (gX (iL ops)) call t0 h0 l 0 0 h0 [] r T T) (g:zdh ops T a b da db p r)
  (aI:r.1.ds=t0.ds) (hQ:∀Δ' a' w',BA Δ0 h0 w0 n r.1 r.2 Δ' a' w'->Q .normal a' w')
  (fuel:Nat) (c:Array Bool) (N:Act) (w:World) (j:Nat) (Δ:Env) (t:Tm) (y:It) (_:0<=j) (a8:c.toList.count false<=fuel+1) (u:Inv n ops t0 h0 Δ0 w0 T c j Δ t N w) (S:y∈iL ops)
  (ag:cls y.o=2) (E:c.getD y.i false=false) (m:∀x∈iL ops,y.b.testBit x.i=true->c.getD x.i false=true) (aJ:(gX (iL ops))[j]?≠some y) :
  wpOp P0 ops Q y.i (wpAny P0 .any ops Q fuel (c.setIfInBounds y.i true)) N w:=by
 have hlen:=g.len;have ha:a∈iL ops:=(oC (mK.2 ⟨_,g.ga⟩)).1;have hb:b∈iL ops:=(oC (mK.2 ⟨_,g.gb⟩)).1;have ao:y∈gX (iL ops):=by unfold gX;rw[MS];exact⟨S,by rw[ag];rfl⟩
 obtain ⟨q,hq⟩:=mK.1 ao;have be:=(iR.1 hq).1;have bf:¬q<j:=λh=>by
  have:=(u.ahead _ y hq).2 h;rw[E]at this;cases this
 have bg:q≠j:=λe=>aJ (by rw[<-e];exact hq);have aK:q=p+1/\j=p:=by
  obtain⟨e,rfl⟩:∃e,q=e+1:=⟨q-1,by omega⟩
  have Z:e<(gX (iL ops)).length:=by omega
  have hg:=gP Z;rcases Pm e p with h|h
  ·exfalso;have ah:=(HO g.ch e _ y hg hq (by omega)).1;have:=(u.ahead e _ hg).1 (m _ (oC (zq Z)).1 ah);omega
  ·have he:e=p:=by omega
   subst he;refine⟨rfl,?_⟩;rcases Pm j e with h2|h2
   ·exfalso;obtain⟨f,rfl⟩:∃f,e=f+1:=⟨e-1,by omega⟩
    have ap:f<(gX (iL ops)).length:=by omega
    have aq:=gP ap;have ah:=(HO g.ch f _ a aq g.ga (by omega)).2 (by omega) y hq;have:=(u.ahead f _ aq).1 (m _ (oC (zq ap)).1 ah);omega
   ·omega
 obtain⟨rfl,rfl⟩:=aK;have aL:y=b:=by rw[g.gb]at hq;cases hq;rfl
 subst aL;have F:∀y∈iL ops,y∈l:=by
  intro y S;rcases M.done y S with s|s
  ·simp at s
  ·obtain⟨b,hb,aM⟩:=K4.1 s;rw[wz S (hl b hb) aM.symm];exact hb
 obtain ⟨D,A⟩:=M.item y (F y S);obtain⟨Da,B⟩:=M.item a (F a ha);have O:=A2 g.sa;have epw:∀{x:It} {D:Nat->Bool} {k:Nat},LZ n ops.toList (iL ops) (gX (iL ops)) call t0 h0 T D x->cls x.o=2->(gX (iL ops))[k]? =some x->T.ep x.i=k:=λ{x D k} U aN aO=>by
  have s:=(U.write aN).1;unfold isW at s;split at s
  ·rename_i z hz;exact EX hz aO (vK s)
  ·cases s
 have ar:=epw A ag g.gb;have au:=epw B O g.ga;have aa:∀{x:It} {D:Nat->Bool} {d:Nat},LZ n ops.toList (iL ops) (gX (iL ops)) call t0 h0 T D x->storeAt x.o=some d->T.on x.i=true:=λ{x D d} U hs=>by
  obtain⟨_,_,_,hg,_⟩:=p9 hs;have:=U.pM;unfold pM kO at this;rw[hg]at this;exact(Option.some.inj this).symm
 have G:∀d,d∈pN y.o->jL t d=jL (T.tt y.i) d:=λd L=>by
  rw[u.pe d,A.pe d];exact HU sN hp S u.closed A.closed m A.fg E A.fresh L _ _
 have V:∀x∈y.o.op.operands.toList,Alike t (T.tt y.i) x:=Hz λd L=>G d (by simp[pN,L]);have ab:=(B.write O).2.1 (aa B g.sa);rw[au]at ab;obtain⟨_,la,a9,ea,aP,bh,aw,aQ,aR,ai,aj⟩:=JJ g.sa ab;have I:=(A.write ag).2.1 (aa A g.sb);rw[ar]at I;obtain⟨_,lb,ba,eb,bi,bj,bb,bm,bo,bq,_⟩:=JJ g.sb I;rw[<-LK (h:=T.H (j+1)) V]at I;obtain⟨_,C,aS,aT,ax,bc,ak,ac,bd,ay,al⟩:=JJ g.sb I;have e1:=G db (by simp[pN,A3 g.sb]);have aU:jL (T.tt a.i) da=jL r.1 da:=by
  rw[B.pe da,M.pe da];exact Js M ha g.fa B.fg (A3 g.sa) _
 have aV:jL t db=jL r.1 db:=by
  rw[u.pe db,M.pe db];exact Js M S g.fb m (A3 g.sb) _
 have aA:la≠C:=λe=>by
  have:=g.apart;rw[<-aU,<-aV,aQ,ac,e]at this;have h2:(!(Nat.beq C C))=true:=this;rw[QN]at h2;cases h2
 have aB:la<(T.H j).next:=Hp.LR aR;have aC:C<(T.H j).next:=by
  have s:=u.tmps.rel db;rw[ac]at s
  cases U:N.tmps.getD db undef with
  | pointer p=>
    rw[U]at s
    cases s with
    |ptr _ _ d L=>exact u.world.fresh _ _ L
  |_=>rw[U]at s;cases s
 have aW:=M.chain j (Kl _) (by omega);have aD:(T.H j).get C=(T.H (j+1)).get C:=by
  rw[aW.2.2 C (by rw[ai];exact aC),ai,pK _ _ aB,if_neg aA]
 have aX:=al (T.H j) aD;have ae:=Me S;have P:Region.wanted y.o (yielded ops N.tmps)=true:=by
  obtain⟨_,_,_,hg,_⟩:=p9 g.sb;unfold Region.wanted;rw[hg]
 obtain⟨d,L⟩:=A.dst;have aE:y.i<c.size:=by rw[u.size];exact(SR.1 ae).1
 have am:∀W,(c.setIfInBounds y.i true).getD W false=(c.getD W false ||decide (y.i=W)):=λW=>by
  by_cases e:y.i=W
  ·rw[<-e];simp[aE]
  ·rw[getD_set_ne false e];simp[e]
 have an:(c.setIfInBounds y.i true).toList.count false<=fuel:=by
  have s:c.toList[y.i]? =some false:=by
   rw[Rm];simpa[aE]using E
  have:=count_set c.toList y.i s;rw[wBz];omega
 have J:zS (iL ops) (λW=>(c.setIfInBounds y.i true).getD W false):=by
  intro x U K z hz aF;simp only[am,KM,AW]at K⊢;rcases K with K|K
  ·exact .inl (u.closed x U K z hz aF)
  ·have:=wz S U K;subst this;exact .inl (m z hz aF)
 have R:∀d',jL (d.f t (T.val y.i)) d' = qc T.val (λW=>(c.setIfInBounds y.i true).getD W false) d' (iL ops) (jL t0 d'):=λd'=>by
  rw[Io L,FY sN hp S u.closed E am (val:=T.val) (KJ:=T.val) (λ_ _=>rfl) d' (jL t0 d'),u.pe d']
 have aY:h0.next<=(T.H j).next:=Gt M.more.1 (EU M.chain j j (by omega) (by omega));unfold wpOp;simp only[ae];rw[P];simp only[if_true];left;refine NI hc u.world u.tmps aX λΔ' x w' hA=>?_;have X:y.o.dst=none:=by obtain⟨_,_,_,_,h5,_⟩:=p9 g.sb;exact h5
 have aZ:TR Δ' n (d.f t (T.val y.i)) (N.put y.o.dst x):=by
  have s:=Jk (u.tmps.mono hA.frame.le) L (v:= .undef) hA.val;have e:d.f t (T.val y.i)=d.f t .undef:=by
   unfold yz at L;rw[X]at L;cases L;rfl
  rw[e];exact s
 refine zaZ hc hp aG aH hl M g aI hQ (la:=la) (lb:=C) (ob:= .cells aT ax true false ak) aB aC aA (λt' br=>⟨.cells ea aP true false aw,ai,λs a5 a6=>?_⟩) ay fuel _ _ _ Δ' (d.f t (T.val y.i)) an
  ⟨by simp[u.size],J,λz hz=>?_,aZ,R,hA.world,u.frame.trans hA.frame,λl' s h2=>hA.grow.none _ (u.none l' s h2) (BL h2 aY),by rw[xH L];exact u.defers⟩
 ·rw[LK (h:=s) a6];exact aj s a5
 ·obtain ⟨k,Y⟩:=mK.1 hz;have bt:=(iR.1 Y).1;rw[am];simp only[KM,AW,u.ahead k z Y];constructor
  ·rintro(h|h)
   ·intro e;have:=EX Y g.ga e;omega
   ·intro e;have h3:=EX Y g.ga e;have h4:=EX Y g.gb h.symm;omega
  ·intro a7;rcases Pm k j with h|h
   ·exact .inl h
   ·right;have bu:k≠j:=λe=>by
     subst e;rw[g.ga]at Y;cases Y;exact a7 rfl
    have:k=j+1:=by omega
    subst this;rw[g.gb]at Y;cases Y;rfl
end
end
