/- Parts. -/
import Derived.Test.YtpnddokajmjpbaaDoorM04
namespace Go.Proofs.YtpnddokajmjpbaaDoor.Hx
theorem zO:∀(ws:List It) (a:It),late ws a<ws.length->∃w,ws[late ws a]? =some w/\w.b.testBit a.i=true
 |[],a,h=>by simp[late]at h
 | w ::ws,a,h=>by
   unfold late at h⊢;split
   ·rename_i c;exact⟨w,rfl,c⟩
   ·rename_i c
    simp only[c,wAX]at h;obtain⟨w',d,e⟩:=zO ws a (by omega);exact⟨w',by simpa using d,e⟩
theorem Al:∀{l:List It},chainOk l=true->∀(q:Nat) (a b:It),l[q]? =some a->l[q+1]? =some b->b.b.testBit a.i=true
 |[],_,q,a,b,h,_=>by simp at h
 |[x],_,q,a,b,_,h=>by simp at h
 | x::y::l,hc,0,a,b,c,d=>by
   simp at c d;subst c;subst d;simp only[chainOk,wAJ]at hc
   exact hc.1
 | x::y::l,hc,q+1,a,b,c,d=>by
   simp only[chainOk,wAJ]at hc;exact Al (l:=y::l) hc.2 q a b (by simpa using c) (by simpa using d)
theorem nR:∀(l:List Bool) (i:Nat),l[i]? =some false->(l.set i true).count false<l.count false
 |[],i,h=>by simp at h
 |b::l,0,h=>by simp at h;subst h;simp
 | b::l,i+1,h=>by
   have:=nR l i (by simpa using h);simp only[wAE,wCH];omega
theorem DX {n:Nat} {all:List Oper} {o:Oper} {t t':Tm} (h:∀j w a d,o.guard=some (j,w)->all[j]? =some a->a.dst=some d->tget t d=tget t' d):wants n all o t=wants n all o t':=by
 unfold wants wantC
 cases hg:o.guard with
 |none=>rfl
 | some b=>
   obtain⟨j,w⟩:=b;simp only
   cases hj:all[j]? with
   |none=>rfl
   | some a=>
     simp only
     cases hd:a.dst with
     |none=>rfl
     | some d=>
       simp only;have:=h j w a d hg hj hd
       cases Nat.blt d n with
       |true=>simp only[this]
       |false=>rfl
theorem CP {Δ:Env} {n:Nat} {t:Tm} {a:Act} (d:TR Δ n t a) {ops:Array Oper} {o:Oper} {b:Bool} (h:wants n ops.toList o t=some b):Region.wanted o (yielded ops a.tmps)=b:=by
 unfold wants at h;split at h
 ·rename_i c;cases h;exact CJ c _
 ·rename_i g c;exact Cw d c h
section
variable{n:Nat}{ops:Array Oper}{call:Call}{t0:Tm}{h0:Hp}{Δ0:Env}{w0:World}{T:Tc}{r:Tm×Hp}{Q:Exit->Act->World->Prop}
abbrev Its (ops:Array Oper):List It:=items ops.toList 0 []
theorem mJ (k:Nat) (x:It) (h:(Its ops)[k]? =some x):x.i=k:=by
 have:=(uO _ _ _ _ _ h).1;omega
theorem pz {x y:It} (b:x∈Its ops) (c:y∈Its ops) (h:x.i=y.i):x=y:=by
 obtain⟨i,hi⟩:=wAD.1 b;obtain⟨j,a⟩:=wAD.1 c;have d:=mJ i x hi;have e:=mJ j y a;have:i=j:=by omega
 subst this;rw[hi]at a;cases a;rfl
theorem BI {x:It} (a:x∈Its ops):ops[x.i]? =some x.o:=by
 obtain⟨i,hi⟩:=wAD.1 a;have b:=mJ i x hi;have c:=(uO _ _ _ _ _ hi).2;rw[b,<-wAv];exact c
theorem A5 {i:Nat} {o:Oper} (h:ops[i]? =some o):∃a,a∈Its ops/\a.i=i/\a.o=o/\(Its ops)[i]? =some a:=by
 have c:i<ops.size:=(wAm.1 h).1;have b:i<(Its ops).length:=by rw[zx];simpa using c
 have d:(Its ops)[i]? =some (Its ops)[i]:=wAA b;refine⟨(Its ops)[i],wAR b,mJ _ _ d,?_,d⟩;have e:=(uO _ _ _ _ _ d).2;rw[wAv,h]at e;cases e;rfl
theorem jx {x:It} (h:x∈wsOf (Its ops)):x∈Its ops/\cls x.o=2:=by
 unfold wsOf at h;rw[wA7]at h;exact⟨h.1,wAG h.2⟩
theorem GT:(wsOf (Its ops)).Pairwise λa b=>a.i<b.i:=by
 unfold wsOf;refine List.Pairwise.filter _ ?_;rw[wA3];intro i j hi c d;have e:=mJ (ops:=ops) i _ (wAA hi);have f:=mJ (ops:=ops) j _ (wAA c);omega
theorem w7 {q b:Nat} {x y:It} (hq:(wsOf (Its ops))[q]? =some x) (c:(wsOf (Its ops))[b]? =some y) (h:x.i=y.i):q=b:=by
 have hs:=GT (ops:=ops);rw[wA3]at hs;obtain⟨l1,d⟩:=wAB.1 hq;obtain⟨l2,e⟩:=wAB.1 c;rcases wBq q b with a|a|a
 ·have:=hs q b l1 l2 a;rw[d,e]at this;omega
 ·exact a
 ·have:=hs b q l2 l1 a;rw[d,e]at this;omega
structure Inv (n:Nat) (ops:Array Oper) (t0:Tm) (h0:Hp) (Δ0:Env) (w0:World) (T:Tc) (b:Array Bool) (j:Nat) (Δ:Env) (t:Tm) (a:Act) (w:World):Prop where
 size:b.size=ops.size
 closed:Closed (Its ops) (λi=>b.getD i false)
 jle:j<=(wsOf (Its ops)).length
 ahead:∀q x,(wsOf (Its ops))[q]? =some x->(b.getD x.i false=true↔q<j)
 tmps:TR Δ n t a
 temps:∀d,tget t d=lastV T.val (λi=>b.getD i false) d (Its ops) (tget t0 d)
 world:WR Δ (T.H j) w
 frame:FR Δ0 Δ w0 w
 none:∀l,Δ0 l = .none->l<h0.next->Δ l = .none
 defers:t.ds=t0.ds
 away:∀x∈Its ops,cls x.o=1->T.on x.i=true->b.getD x.i false=false->T.ep x.i<=j->Δ (T.pl x.i) = .none
theorem Fl (hc:CallOk call) (hp:pairsOk (Its ops)=true) (a9:(Its ops).all (guardOk (Its ops))=true) (ba:(Its ops).all edgesOk=true)
  (j0:Nat) (aQ:∀(fuel:Nat) (c:Array Bool) (Z:Act) (w:World) (j:Nat) (Δ:Env) (t:Tm) (a:It),j0<=j->c.toList.count false<=fuel+1->Inv n ops t0 h0 Δ0 w0 T c j Δ t Z w->a∈Its ops->cls a.o=2->c.getD a.i false=false->
   (∀x∈Its ops,a.b.testBit x.i=true->c.getD x.i false=true)->(wsOf (Its ops))[j]?≠some a->wpOp P0 ops Q a.i (wpAny P0 .any ops Q fuel (c.setIfInBounds a.i true)) Z w)
  {l:List It} (hl:∀a∈l,a∈Its ops) (U:TraceOk n ops.toList (Its ops) (wsOf (Its ops)) call t0 h0 l 0 0 h0 [] r T T)
  (bb:r.1.ds=t0.ds) (hQ:∀I a' w',Goes Δ0 h0 w0 n r.1 r.2 I a' w'->Q .normal a' w') :
  ∀(fuel:Nat) (c:Array Bool) (a:Act) (w:World) (j:Nat) (Δ:Env) (t:Tm),j0<=j->c.toList.count false<=fuel->Inv n ops t0 h0 Δ0 w0 T c j Δ t a w->wpAny P0 .any ops Q fuel c a w:=by
 have ae:∀(c:Array Bool),c.size=ops.size->Region.ready .any ops c=[]->∀x∈Its ops,c.getD x.i false=true:=by
  intro c bG hr;have bc:∀i,i<ops.size->c.getD i false=true:=by
   intro i
   induction i using Nat.strongRecOn with
   | _ i ih=>
     intro hi
     cases N:c.getD i false with
     |true=>rfl
     | false=>
       exfalso;have ho:ops[i]? =some ops[i]:=Array.getElem?_eq_getElem hi;obtain⟨x,u,aG,bd,_⟩:=A5 ho;have aD:i∈Region.ready .any ops c:=by
         rw[mem_ready];refine⟨?_,ops[i],ho,λe he be=>?_⟩
         ·have:i<c.size:=by omega
          simp[this]at N⊢;exact N
         ·have m:=wAs.1 ba x u
          unfold edgesOk at m;rw[bd,aG]at m;have v:=wAs.1 m e (by simpa using he);rw[<-xO,be]at v;simp only[wCC,Bool.false_or,wBV]at v;exact ih e.on v (by omega)
       rw[hr]at aD;cases aD
  intro x u;exact bc x.i (wAm.1 (BI u)).1
 have Y:∀(c:Array Bool) (a:Act) (w:World) (j:Nat) (Δ:Env) (t:Tm),Inv n ops t0 h0 Δ0 w0 T c j Δ t a w->(∀x∈Its ops,c.getD x.i false=true)->Q .normal a w:=by
  intro c a w j Δ t k P;have hj:j=(wsOf (Its ops)).length:=by
   rcases wBK j (wsOf (Its ops)).length with h|h
   ·have hg:=wAA h;have:=(k.ahead j _ hg).1 (P _ (jx (wAR h)).1);omega
   ·have:=k.jle;omega
  subst hj;refine hQ Δ a w ⟨⟨k.tmps.size,λi=>?_,by rw[bb,<-k.defers];exact k.tmps.ds⟩,by rw[U.last];exact k.world,k.frame,⟨?_,k.none⟩⟩
  ·have m:=k.tmps.rel i;rw[k.temps i,kP (D':=λ_=>true) (val':=T.val) (λx u _=>P x u) (λ_ _ _ _=>rfl),<-U.temps i]at m;exact m
  ·rw[U.last];exact wAq U.more.1 (wz U.chain _ _ (by rw[wAY]) (wAF _))
 intro fuel
 induction fuel with
 | zero =>
   intro c a w j Δ t _ aE k;have P:∀x∈Its ops,c.getD x.i false=true:=by
     intro x u;have V:x.i<c.size:=by rw[k.size];exact(wAm.1 (BI u)).1
     cases N:c.getD x.i false with
     |true=>rfl
     | false=>
       exfalso;have:false∈c.toList:=by
         have:c[x.i]=false:=by simpa[V]using N
         rw[<-this];simp
       have:=List.count_pos_iff.2 this;omega
   refine⟨?_,Y _ _ _ _ _ _ k P⟩;rw[List.eq_nil_iff_forall_not_mem];intro i hi;rw[mem_ready]at hi;obtain⟨m,o,ho,_⟩:=hi;obtain⟨x,u,aG,_,_⟩:=A5 ho;have:=P x u;rw[aG]at this;have V:i<c.size:=by rw[k.size];exact(wAm.1 ho).1
   simp[V]at m this
   rw[m]at this;cases this
 | succ fuel ih=>
   intro c Z w j Δ t aR aE k;refine⟨λhr=>Y _ _ _ _ _ _ k (ae _ k.size hr),λi hi=>?_⟩;rw[mem_ready]at hi;obtain⟨hun,o,ho,au⟩:=hi;obtain⟨a,ha,ag,K,aH⟩:=A5 ho;have V:i<c.size:=by rw[k.size];exact(wAm.1 ho).1
   have J:c.getD a.i false=false:=by rw[ag];simp[V]at hun⊢;exact hun
   have A:∀x∈Its ops,a.b.testBit x.i=true->c.getD x.i false=true:=by
     intro x u N;obtain⟨e,he,bf,m⟩:=BJ aH N;rw[K]at he;have E:=au e (by simpa using he) (by rw[xO];exact bf);rcases m with m|⟨y,z,aw⟩
     ·rw[m];exact E
     ·have bg:=mJ _ _ z
      exact k.closed y (wAD.2 ⟨_,z⟩) (by show c.getD y.i false=true;rw[bg];exact E) x u aw
   by_cases hez:cls a.o=2/\(wsOf (Its ops))[j]?≠some a
   ·rw[<-ag]
    exact aQ fuel c Z w j Δ t a aR aE k ha hez.1 J A hez.2
   obtain ⟨D,B⟩:∃D,ItemOk n ops.toList (Its ops) (wsOf (Its ops)) call t0 h0 T D a:=by
     rcases U.done a ha with m|m
     ·simp at m
     ·obtain⟨b,N,ah⟩:=wBH.1 m
      rw[pz ha (hl b N) ah.symm];exact U.item b N
   have L:∀y∈Its ops,y∈l:=by
     intro y z;rcases U.done y z with m|m
     ·simp at m
     ·obtain⟨b,N,ah⟩:=wBH.1 m
      rw[pz z (hl b N) ah.symm];exact N
   have bh:=L a ha;have ax:∀d,d∈namesOf a.o->tget t d=tget (T.tt a.i) d:=λd hd=>by
     rw[k.temps d,B.temps d];exact yC mJ hp ha k.closed B.closed A B.preds J B.fresh hd _ _
   have M:∀x∈a.o.op.operands.toList,Alike t (T.tt a.i) x:=yG λd hd=>ax d (by simp[namesOf,hd]);have ay:wants n ops.toList a.o t=some (T.on a.i):=by
     rw[<-B.wants];refine DX λjg wg oj d hg hj hd=>?_;have F:=wAs.1 a9 a ha;unfold guardOk at F;rw[hg]at F;simp only at F
     cases hjt:(Its ops)[jg]? with
     |none=>rw[hjt]at F;cases F
     | some g=>
       rw[hjt]at F;simp only at F;have bi:g.o=oj:=by
         have:=(uO _ _ _ _ _ hjt).2;rw[hj]at this;cases this;rfl
       rw[bi,hd]at F;simp only[wAJ]at F;obtain⟨aF,aI⟩:=F;have aS:=mJ _ _ hjt;have bj:g∈Its ops:=wAD.2 ⟨_,hjt⟩;rw[k.temps d,B.temps d];refine kP (λx u bm=>?_) (λ_ _ _ _=>rfl) _;have m:=wAs.1 aI x u;rw[bm]at m;have v:x.i=jg:=by simpa using m
       have O:x=g:=pz u bj (by omega);subst O;rw[A x u (by rw[aS];exact aF),B.preds x u (by rw[aS];exact aF)]
   have ai:Region.wanted o (yielded ops Z.tmps)=T.on a.i:=by rw[<-K];exact CP k.tmps ay
   obtain ⟨d,hd⟩:=B.dst;have aa:∀i',(c.setIfInBounds i true).getD i' false=(c.getD i' false ||decide (a.i=i')):=λi'=>by
     by_cases e:i=i'
     ·subst e;simp[V,ag]
     ·rw[getD_set_ne false e]
      have:¬a.i=i':=by rw[ag];exact e
      simp[this]
   have aJ:(c.setIfInBounds i true).toList.count false<=fuel:=by
     have m:c.toList[i]? =some false:=by
       rw[wAv];have:c.getD a.i false=false:=J;rw[ag]at this;simpa[V]using this
     have:=nR c.toList i m;rw[wBw];omega
   have ab:Closed (Its ops) (λi'=>(c.setIfInBounds i true).getD i' false):=by
     intro x u ac y z aw;simp only[aa,wAw,wAe]at ac⊢;rcases ac with ac|ac
     ·exact .inl (k.closed x u ac y z aw)
     ·have:=pz ha u ac
      subst this;exact .inl (A y z aw)
   have aj:∀d',tget (d.f t (T.val a.i)) d' = lastV T.val (λi'=>(c.setIfInBounds i true).getD i' false) d' (Its ops) (tget t0 d'):=λd'=>by
     rw[zt hd,xD mJ hp ha k.closed J aa (val:=T.val) (val':=T.val) (λ_ _=>rfl) d' (tget t0 d'),k.temps d']
   have next:∀(j':Nat) (I:Env) (x:Value) (w':World),VRel I (T.val a.i) x->WR I (T.H j') w'->FR Δ I w w'->j'<=(wsOf (Its ops)).length->
       (∀q y,(wsOf (Its ops))[q]? =some y->((c.setIfInBounds i true).getD y.i false=true↔q<j'))->
       (∀y∈Its ops,cls y.o=1->T.on y.i=true->(c.setIfInBounds i true).getD y.i false=false->T.ep y.i<=j'->I (T.pl y.i)=none)->
       (∀l,Δ0 l=none->l<h0.next->I l=none)->wpAny P0 .any ops Q fuel (c.setIfInBounds i true) (Z.put o.dst x) w':=by
     intro j' I x w' bn bo aT bp R aA aB;have bq:j<=j':=by
       rcases wBK j' j with h|h
       ·exfalso
        have aU:j' < (wsOf (Its ops)).length:=by have:=k.jle;omega
        have hg:=wAA aU;have m:=(k.ahead j' _ hg).2 h;have v:=(R j' _ hg).1 (by rw[aa,m];rfl);omega
       ·exact h
     refine ih _ _ _ j' I (d.f t (T.val a.i)) (wAq aR bq) aJ ⟨by simp[k.size],ab,bp,R,?_,aj,bo,k.frame.trans aT,aB,by rw[qv hd];exact k.defers,aA⟩;have:=zT (k.tmps.mono aT.le) hd bn;rw[K]at this;exact this
   have aV:h0.next<=(T.H j).next:=wAq U.more.1 (wz U.chain j j (by omega) k.jle);have al:j<=late (wsOf (Its ops)) a:=by
     rcases wBK (late (wsOf (Its ops)) a) j with h|h
     ·exfalso
      obtain⟨x,u,br⟩:=zO (wsOf (Its ops)) a (by have:=k.jle;omega);have m:=(k.ahead _ x u).2 h;have:=k.closed x (jx (wAD.2 ⟨_,u⟩)).1 m a ha br;simp only at this;rw[J]at this;cases this
     ·exact h
   have still:cls a.o≠2->∀q y,(wsOf (Its ops))[q]? =some y->((c.setIfInBounds i true).getD y.i false=true↔q<j):=by
     intro am q y hq;rw[aa,<-k.ahead q y hq];have z:=jx (wAD.2 ⟨_,hq⟩);have:¬a.i=y.i:=λe=>by
       have:=pz ha z.1 e;subst this;exact am z.2
     simp[this]
   have aK:cls a.o≠2->T.ep a.i<=j:=by
     intro am;have m:=B.epw am
     cases he:T.ep a.i with
     |zero=>omega
     | succ e=>
       rw[he]at m;simp only[afterOk]at m;split at m
       ·rename_i x u
        have bt:=(jx (wAD.2 ⟨_,u⟩)).1;have:=(k.ahead _ x u).1 (A x bt m);omega
       ·cases m
   have s:∀y∈Its ops,cls y.o=1->T.on y.i=true->(c.setIfInBounds i true).getD y.i false=false->T.ep y.i<=j->Δ (T.pl y.i)=none/\y.i≠a.i:=by
     intro y z m v O W;rw[aa]at O;simp only[Bool.or_eq_false_iff,decide_eq_false_iff_not]at O;exact⟨k.away y z m v O.1 W,λe=>O.2 e.symm⟩
   have S:∀y∈Its ops,cls y.o=1->T.on y.i=true->T.ep y.i<=j->T.pl y.i<(T.H j).next:=by
     intro y z m v O;rcases U.done y z with W|W
     ·simp at W
     ·obtain⟨b,N,ah⟩:=wBH.1 W
      have:=pz z (hl b N) ah.symm;subst this;obtain⟨_,an⟩:=U.item y N;exact((an.alloc m v).2.1 j O k.jle).1
   have aL:cls a.o=2->isW (wsOf (Its ops)) a (T.ep a.i)=true->T.ep a.i=j/\(wsOf (Its ops))[j]? =some a:=by
     intro _ hw;unfold isW at hw;split at hw
     ·rename_i x u
      have bu:=pz (jx (wAD.2 ⟨_,u⟩)).1 ha (wAG hw);subst bu;have aW:(wsOf (Its ops))[j]? =some x:=by
        apply Classical.byContradiction;intro am;exact hez ⟨(jx (wAD.2 ⟨_,u⟩)).2,am⟩
      exact⟨w7 u aW rfl,aW⟩
     ·cases hw
   have ao:cls a.o=2->isW (wsOf (Its ops)) a (T.ep a.i)=true->∀q y,(wsOf (Its ops))[q]? =some y->((c.setIfInBounds i true).getD y.i false=true↔q<j+1):=by
     intro p hw q y hq;obtain⟨_,u⟩:=aL p hw;rw[aa];simp only[wAw,wAe,k.ahead q y hq];constructor
     ·rintro(h|h)
      ·omega
      ·have:=w7 u hq h;omega
     ·intro h
      rcases wBK q j with m|m
      ·exact .inl m
      ·have:q=j:=by omega
       subst this;rw[u]at hq;cases hq;exact .inr rfl
   have ap:cls a.o=2->isW (wsOf (Its ops)) a (T.ep a.i)=true->∀(I:Env) (w':World),WR I (T.G j) w'->Gr (T.H j) Δ (T.G j) I->
       ∀y∈Its ops,cls y.o=1->T.on y.i=true->(c.setIfInBounds i true).getD y.i false=false->T.ep y.i<=j+1->I (T.pl y.i)=none:=by
     intro p hw I w' bv bw y z m v O W;rcases wBK j (T.ep y.i)with h5|h5
     ·obtain⟨_,an⟩:=U.item y (L y z)
      have aX:=(an.alloc m v).2.2.1 j h5
      cases hd':I (T.pl y.i)with
      |none=>rfl
      |some e=>have:=bv.fresh _ _ hd';omega
     ·exact bw.none _ (s y z m v O h5).1 (S y z m v h5)
   unfold wpOp;simp only[ho];rw[ai]
   cases E:T.on a.i with
   | false=>
     simp only[wAo,if_false];have hv:=B.off E;rcases Aa a.o with p|p|p
     ·exact next j Δ undef w (by rw[hv];exact .undef Δ) k.world (.refl _ _) k.jle (still (by rw[p];decide)) (λy z m v O W=>(s y z m v O W).1) k.none
     ·exact next j Δ undef w (by rw[hv];exact .undef Δ) k.world (.refl _ _) k.jle (still (by rw[p];decide)) (λy z m v O W=>(s y z m v O W).1) k.none
     ·obtain⟨C,_,aY⟩:=B.write p
      obtain⟨aM,aN⟩:=aL p C;have hG:=aY E;rw[aM]at hG;have aq:j<(wsOf (Its ops)).length:=(wAB.1 aN).1;obtain⟨bx,aO⟩:=U.chain j (wA5 _) aq;have aZ:WR Δ (T.G j) w:=by rw[hG];exact k.world
      exact next (j+1) Δ undef w (by rw[hv];exact .undef Δ) (aZ.onward aO) (.refl _ _) aq (ao p C) (ap p C Δ w aZ (by rw[hG];exact .refl _ _)) k.none
   | true=>
     simp only[if_true];left;rcases Aa a.o with p|p|p
     ·have a5:=B.pure p E j (aK (by rw[p];decide)) k.jle al
      rw[<-yM (h:=T.H j) M]at a5;have aC:(opC a.o).f call t (T.H j)=some (T.val a.i,T.H j):=by
        unfold opC;rw[p];simp only[ei];exact⟨_,a5,rfl⟩
      rw[<-K];refine Cq hc k.world k.tmps aC λI x w' hA=>?_;rw[K]
      exact next j I x w' hA.val hA.world hA.frame k.jle (still (by rw[p];decide)) (λy z m v O W=>hA.grow.none _ (s y z m v O W).1 (S y z m v W))
        (λl' m v=>hA.grow.none _ (k.none l' m v) (wAO v aV))
     ·obtain ⟨⟨mk,a6,a7⟩,bz,_,aX⟩:=B.alloc p E
      obtain⟨bA,bC⟩:=bz j (aK (by rw[p];decide)) k.jle;have a8:=bC al;rw[<-Ah M]at a6;obtain⟨mo,mv,ar,aP⟩:=El k.tmps a6;have X:=k.away a ha p E J (aK (by rw[p];decide));obtain⟨dd,N,bD,bE⟩:=aP (T.pl a.i) w.heap.size X;rw[<-K];unfold Oper.wp;rw[ar w,Oper.upon_value,K];refine next j (Δ.set (T.pl a.i) dd) _ _ (by rw[a7];exact bE) (k.world.lay X bA a8 N bD) (FR.lay X N) k.jle (still (by rw[p];decide)) (λy z m v O W=>?_) (λl' m v=>?_)
      ·obtain⟨e1,e2⟩:=s y z m v O W
       have:=U.pdist y (L y z) a bh m p v E e2;unfold Env.set;rw[if_neg this];exact e1
      ·have:l'≠T.pl a.i:=by omega
       unfold Env.set;rw[if_neg this];exact k.none l' m v
     ·obtain ⟨C,ar,_⟩:=B.write p
      obtain⟨aM,aN⟩:=aL p C;have aC:=ar E;rw[aM,<-Bg (h:=T.H j) M]at aC;have aq:j<(wsOf (Its ops)).length:=(wAB.1 aN).1;obtain⟨bx,aO⟩:=U.chain j (wA5 _) aq;rw[<-K];refine Cq hc k.world k.tmps aC λI x w' hA=>?_;rw[K]
      exact next (j+1) I x w' hA.val (hA.world.onward aO) hA.frame aq (ao p C) (ap p C I w' hA.world hA.grow)
        (λl' m v=>hA.grow.none _ (k.none l' m v) (wAO v aV))
theorem Gl (m:chainOk (wsOf (Its ops))=true) (fuel:Nat) (c:Array Bool) (g:Act) (w:World) (j:Nat) (Δ:Env) (t:Tm) (a:It) (_:0<=j) (_:c.toList.count false<=fuel+1) (s:Inv n ops t0 h0 Δ0 w0 T c j Δ t g w) (v:a∈Its ops)
  (p:cls a.o=2) (k:c.getD a.i false=false) (d:∀x∈Its ops,a.b.testBit x.i=true->c.getD x.i false=true) (r:(wsOf (Its ops))[j]?≠some a) :
  wpOp P0 ops Q a.i (wpAny P0 .any ops Q fuel (c.setIfInBounds a.i true)) g w:=by
 exfalso;have l:a∈wsOf (Its ops):=by unfold wsOf;rw[wA7];exact⟨v,by rw[p];rfl⟩
 obtain ⟨q,hq⟩:=wAD.1 l;have y:¬q<j:=λh=>by
  have:=(s.ahead _ a hq).2 h;rw[k]at this;cases this
 have z:q≠j:=λe=>r (by rw[<-e];exact hq);obtain⟨e,rfl⟩:∃e,q=e+1:=⟨q-1,by omega⟩
 have f:e<(wsOf (Its ops)).length:=by have:=(wAB.1 hq).1;omega
 have u:=wAA f;have A:=Al m e _ a u hq;have:=(s.ahead e _ u).1 (d _ (jx (wAR f)).1 A);omega
theorem fJ {x:Operand} (a:noG x=true) (t:Tm) (h h':Hp):(evO x).f t h=(evO x).f t h':=by
 cases x <;> first|rfl|(simp[noG]at a)
theorem DC {o:Oper} (b:heapFree o=true) (t:Tm) (h h':Hp):(pureC o).f t h=(pureC o).f t h':=by
 unfold heapFree at b;unfold pureC;split at b
 ·rename_i a;rw[a];exact fJ b t h h'
 ·rename_i a;rw[a];show(hnilCheck _).f t h=(hnilCheck _).f t h';unfold hnilCheck;simp only[fJ b t h h']
 ·rename_i a;rw[a];show(hfieldAddr _ _ _).f t h=(hfieldAddr _ _ _).f t h';unfold hfieldAddr;split
  ·split <;> simp only[fJ b t h h']
  ·rfl
 ·rename_i a;rw[a];rw[wAJ]at b;show(hindexAddr _ _ _).f t h=(hindexAddr _ _ _).f t h';unfold hindexAddr;split
  ·split <;> simp only[fJ b.1 t h h',fJ b.2 t h h']
  ·split <;> simp only[fJ b.1 t h h',fJ b.2 t h h']
  ·rfl
 ·cases b
theorem kJ {o:Oper} {d:Nat} (h:storeAt o=some d):∃ty x,o.op = .store ty (.tmp d) x/\o.guard=none/\o.dst=none/\noG x=true:=by
 unfold storeAt at h;split at h
 ·rename_i ty b x a;split at h
  ·cases h;exact⟨ty,x,a,by assumption,by assumption,by assumption⟩
  ·cases h
 ·cases h
theorem tY {o:Oper} {d:Nat} (h:storeAt o=some d):cls o=2:=by
 obtain⟨ty,x,a,_⟩:=kJ h;unfold cls;rw[a]
theorem zU {o:Oper} {d:Nat} (hs:storeAt o=some d) {call:Call} {t:Tm} {h h':Hp} {v:V} (u:(opC o).f call t h=some (v,h')) :
  v = .undef/\∃l off e sz cs cs',tget t d = .ptr l off/\h.get l=some (.cells e sz true false cs)/\h' = h.put l (.cells e sz true false cs')/\
   ∀b:Hp,b.get l=h.get l->(opC o).f call t b=some (.undef,b.put l (.cells e sz true false cs')):=by
 obtain⟨ty,x,m,_,_,A⟩:=kJ hs;have i:=tY hs
 have c:∀h,(opC o).f call t h=oB ((writeC o).f t h) λr=>match r with
   | .val v h=>some (v,h)
   | .call f args=>call f args h:=by
  intro h;unfold opC;split
  ·rename_i h0;rw[i]at h0;cases h0
  ·rename_i h0;rw[i]at h0;cases h0
  ·rfl
 rw[c,ei]at u;obtain⟨r,b,B⟩:=u
 have w:∀h,(writeC o).f t h=match szOf ty with
   |some n=>oB ((evO (.tmp d)).f t h) λa=>oB ((evO x).f t h) λv=>asPtr a λl off=>bB (Nat.beq v.cells.length n) (oB (stAt h l off v.cells) λh=>some (.val .undef h))
   |none=>none:=by
  intro h;unfold writeC;rw[m];simp only;generalize szOf ty=z;cases z <;> rfl
 rw[w]at b
 cases hn:szOf ty with
 |none=>rw[hn]at b;cases b
 | some n=>
   rw[hn]at b;simp only[ei,pm,fm]at b;obtain⟨a,C,vv,p,l,off,rfl,hlen,E,g,D⟩:=b;cases D;cases B;have j:tget t d = .ptr l off:=Option.some.inj (show some (tget t d)=some (V.ptr l off) from C);unfold stAt at g;simp only[gU,fm,ei,wBl]at g;obtain⟨e,sz,live,ro,cs,y,rfl,rfl,k,cs',q,hput⟩:=g;cases hput;refine⟨rfl,l,off,e,sz,cs,cs',j,y,rfl,λb s=>?_⟩;rw[c,ei];refine⟨.val .undef (b.put l (.cells e sz true false cs')),?_,rfl⟩;rw[w,hn];simp only[ei,pm,fm];refine⟨.ptr l off,by rw[<-j];rfl,vv,by rw[fJ A t b h];exact p,l,off,rfl,hlen,b.put l (.cells e sz true false cs'),?_,rfl⟩;unfold stAt;simp only[gU,fm,ei,wBl];exact⟨e,sz,true,false,cs,by rw[s];exact y,rfl,rfl,k,cs',q,rfl⟩
theorem Br:∀{l:List It} {a b:It},lastTwo l=some (a,b)->∃p,l.length=p+2/\l[p]? =some a/\l[p+1]? =some b
 |[],_,_,h=>by cases h
 |[_],_,_,h=>by cases h
 |[x,y],a,b,h=>by cases h;exact⟨0,rfl,rfl,rfl⟩
 | _::y::z::l,a,b,h=>by
   obtain⟨p,c,d,e⟩:=Br (l:=y::z::l) h;exact⟨p+1,by simp only[wAX]at c⊢;omega,by simpa using d,by simpa using e⟩
theorem yy:∀{l:List It},chainP l=true->∀(q:Nat) (a b:It),l[q]? =some a->l[q+1]? =some b->q+2<l.length->b.b.testBit a.i=true/\(q+3=l.length->∀c,l[q+2]? =some c->c.b.testBit a.i=true)
 |[],_,q,a,b,h,_,_=>by simp at h
 |[x],_,q,a,b,_,h,_=>by simp at h
 |[x,y],_,q,a,b,_,_,h=>by simp only[wAX,wBe]at h;omega
 | x::y::z::l,hc,0,a,b,d,f,_=>by
   simp at d f;subst d;subst f;simp only[chainP,wAJ]at hc;refine⟨hc.1.1,λk c g=>?_⟩;simp at g;subst g;have:l=[]:=wAf (by have e:(x::y::z::l).length=l.length+3:=rfl;omega);subst this
   exact hc.1.2
 | x::y::z::l,hc,q+1,a,b,d,f,m=>by
   simp only[chainP,wAJ]at hc;have:=yy (l:=y::z::l) hc.2 q a b (by rw[wAj]at d;exact d) (by rw[wAj]at f;exact f) (by have e:(x::y::z::l).length=(y::z::l).length+1:=rfl;omega);refine⟨this.1,λk c j=>this.2 (by have e:(x::y::z::l).length=(y::z::l).length+1:=rfl;omega) c (by rw[show q+1+2=(q+2)+1 by omega,wAj]at j;exact j)⟩
theorem Eb {its ws:List It} {a b:It} {da db:Nat} (h:freePair its ws=some (a,b,da,db)) :
  lastTwo ws=some (a,b)/\storeAt a.o=some da/\storeAt b.o=some db/\fixed its a=true/\fixed its b=true/\openOk its a b=true/\chainP ws=true:=by
 unfold freePair at h;split at h
 ·rename_i j k d;split at h
  ·rename_i e f g i;split at h
   ·rename_i c;cases h;simp only[wAJ]at c;exact⟨d,g,i,c.1.1.1,c.1.1.2,c.1.2,c.2⟩
   ·cases h
  ·cases h
 ·cases h
structure InvS (n:Nat) (ops:Array Oper) (t0:Tm) (h0:Hp) (Δ0:Env) (w0:World) (T:Tc) (c:Nat) (e:Hp) (b:Array Bool) (Δ:Env) (t:Tm) (a:Act) (w:World):Prop where
 size:b.size=ops.size
 closed:Closed (Its ops) (λi=>b.getD i false)
 ahead:∀x∈wsOf (Its ops),(b.getD x.i false=true↔x.i≠c)
 tmps:TR Δ n t a
 temps:∀d,tget t d=lastV T.val (λi=>b.getD i false) d (Its ops) (tget t0 d)
 world:WR Δ e w
 frame:FR Δ0 Δ w0 w
 none:∀l,Δ0 l = .none->l<h0.next->Δ l = .none
 defers:t.ds=t0.ds
section
variable{a b:It}{da db p:Nat}
structure Pair (ops:Array Oper) (T:Tc) (a b:It) (da db p:Nat) (r:Tm×Hp):Prop where
 len:(wsOf (Its ops)).length=p+2
 ga:(wsOf (Its ops))[p]? =some a
 gb:(wsOf (Its ops))[p+1]? =some b
 sa:storeAt a.o=some da
 sb:storeAt b.o=some db
 fa:fixed (Its ops) a=true
 fb:fixed (Its ops) b=true
 op:openOk (Its ops) a b=true
 ch:chainP (wsOf (Its ops))=true
 apart:apartV (tget r.1 da) (tget r.1 db)=true
theorem CH (h:openOk (Its ops) a b=true) {x:It} (d:x∈Its ops) (e:x.i≠a.i) (f:x.i≠b.i) (g:¬(a.b.testBit x.i=true/\b.b.testBit x.i=true)) :
  cls x.o=0/\heapFree x.o=true/\x.o.guard=none/\x.b.testBit a.i=false/\x.b.testBit b.i=false:=by
 have:=wAs.1 h x d;simp only[wAw,wAJ,wBl,Option.isNone_iff_eq_none]at this;rcases this with((c|c)|c)|c
 ·exact absurd (wAG c) e
 ·exact absurd (wAG c) f
 ·exact absurd c g
 ·exact⟨wAG c.1.1.1.1,c.1.1.1.2,c.1.1.2,c.1.2,c.2⟩
theorem zS {l:List It} (m:TraceOk n ops.toList (Its ops) (wsOf (Its ops)) call t0 h0 l 0 0 h0 [] r T T) {x:It} (p:x∈Its ops) (g:fixed (Its ops) x=true) {D:Nat->Bool} (h:∀y∈Its ops,x.b.testBit y.i=true->D y.i=true)
  {d:Nat} (j:d∈tmpsIn x.o.op.operands.toList) (a:V):lastV T.val D d (Its ops) a=lastV T.val (λ_=>true) d (Its ops) a:=by
 refine kP (λy e c=>?_) (λ_ _ _ _=>rfl) a;have f:=wAs.1 (wAs.1 g d j) y e;have k:writes y.o [d]=true:=by simp[writes,c]
 rw[k]at f;exact h y e (by simpa using f)
theorem tT {o:Oper} {d:Nat} (h:storeAt o=some d):d∈tmpsIn o.op.operands.toList:=by
 obtain⟨ty,x,a,_⟩:=kJ h;rw[a];simp[Op.operands,tmpsIn]
end
section
variable{a b:It}{da db p:Nat}{l:List It}
theorem G6 {H b g:Hp} {la lb:Nat} {l ob:O} (c:la<H.next) (d:lb<H.next) (i:la≠lb) (m:More (H.put la l) b) (n:More (b.put lb ob) g):More ((H.put lb ob).put la l) g:=by
 have a:H.next<=b.next:=m.1;have j:b.next<=g.next:=n.1;refine⟨wAq a j,λx o=>?_⟩;have f:x<H.next:=o;rw[n.2 x (wAO f a)];rw[kw (h:=H.put lb ob) _ _ c,kw (h:=b) _ _ (wAO d a),kw (h:=H) _ _ d];rw[m.2 x f,kw (h:=H) _ _ c];by_cases k:la=x
 ·subst k;rw[if_pos rfl,if_pos rfl,if_neg (λe=>i e.symm)]
 ·rw[if_neg k,if_neg k]
theorem JF (hc:CallOk call) (hp:pairsOk (Its ops)=true) (aP:(Its ops).all (guardOk (Its ops))=true) (aw:(Its ops).all edgesOk=true) (hl:∀a∈l,a∈Its ops)
    (hT:TraceOk n ops.toList (Its ops) (wsOf (Its ops)) call t0 h0 l 0 0 h0 [] r T T) (A:Pair ops T a b da db p r)
    (aQ:r.1.ds=t0.ds) (hQ:∀Δ' a' w',Goes Δ0 h0 w0 n r.1 r.2 Δ' a' w'->Q .normal a' w') {la lb:Nat} {ob:O} (aR:la<(T.H p).next) (ax:lb<(T.H p).next) (ay:la≠lb)
    (aS:∀t:Tm,tget t da=tget r.1 da->∃oa,(T.G p)=(T.H p).put la oa/\∀g:Hp,g.get la=(T.H p).get la->(∀x∈a.o.op.operands.toList,Alike t (T.tt a.i) x)->(opC a.o).f call t g=some (.undef,g.put la oa))
    (aT:T.G (p+1)=(T.H (p+1)).put lb ob) :
    ∀(fuel:Nat) (c:Array Bool) (m:Act) (w:World) (Δ:Env) (t:Tm),c.toList.count false<=fuel->InvS n ops t0 h0 Δ0 w0 T a.i ((T.H p).put lb ob) c Δ t m w->wpAny P0 .any ops Q fuel c m w:=by
  have ha:a∈Its ops:=(jx (wAD.2 ⟨_,A.ga⟩)).1;have hb:b∈Its ops:=(jx (wAD.2 ⟨_,A.gb⟩)).1;have aU:=tY A.sa;have aV:=tY A.sb;have aW:a.i≠b.i:=λe=>by
    have:=w7 A.ga A.gb e;omega
  have aA:a∈wsOf (Its ops):=wAD.2 ⟨_,A.ga⟩;have aB:b∈wsOf (Its ops):=wAD.2 ⟨_,A.gb⟩;have V:∀{c Δ t m w},InvS n ops t0 h0 Δ0 w0 T a.i ((T.H p).put lb ob) c Δ t m w->c.getD a.i false=false:=λk=>by
    cases h:Array.getD _ a.i false with
    |false=>rfl
    |true=>exact absurd rfl ((k.ahead a aA).1 h)
  have C:∀{c Δ t m w},InvS n ops t0 h0 Δ0 w0 T a.i ((T.H p).put lb ob) c Δ t m w->c.getD b.i false=true:=λk=>(k.ahead b aB).2 (λe=>aW e.symm);intro fuel
  induction fuel with
  | zero=>
    intro c m w Δ t aC k;exfalso;have g:=V k;have W:a.i<c.size:=by rw[k.size];exact(wAm.1 (BI ha)).1
    have:false∈c.toList:=by
      have:c[a.i]=false:=by simpa[W]using g
      rw[<-this];simp
    have:=List.count_pos_iff.2 this
    omega
  | succ fuel ih=>
    intro c m w Δ t aC k;refine⟨λhr=>?_,λi hi=>?_⟩
    ·exfalso
     have aD : ∀i,i<ops.size->c.getD i false=true:=by
       intro i
       induction i using Nat.strongRecOn with
       | _ i aX=>
         intro hi
         cases ab:c.getD i false with
         |true=>rfl
         | false=>
           exfalso;have ho:ops[i]? =some ops[i]:=Array.getElem?_eq_getElem hi;obtain⟨x,hx,aY,aZ,_⟩:=A5 ho;have L:i∈Region.ready .any ops c:=by
             rw[mem_ready];refine⟨?_,ops[i],ho,λe he aE=>?_⟩
             ·have:i<c.size:=by rw[k.size];exact hi
              simp[this]at ab⊢;exact ab
             ·have g:=wAs.1 aw x hx
              unfold edgesOk at g;rw[aZ,aY]at g;have h2:=wAs.1 g e (by simpa using he);rw[<-xO,aE]at h2;simp only[wCC,Bool.false_or,wBV]at h2;exact aX e.on h2 (by omega)
           rw[hr]at L;cases L
     have:=aD a.i (wAm.1 (BI ha)).1;rw[V k]at this;cases this
    rw[mem_ready]at hi;obtain⟨hun,o,ho,ac⟩:=hi;obtain⟨y,N,ae,E,am⟩:=A5 ho;have W:i<c.size:=by rw[k.size];exact(wAm.1 ho).1
    have u:c.getD y.i false=false:=by rw[ae];simp[W]at hun⊢;exact hun
    have F:∀x∈Its ops,y.b.testBit x.i=true->c.getD x.i false=true:=by
      intro x hx ab;obtain⟨e,he,a5,g⟩:=BJ am ab;rw[E]at he;have P:=ac e (by simpa using he) (by rw[xO];exact a5);rcases g with g|⟨z,s,I⟩
      ·rw[g];exact P
      ·have a6:=mJ _ _ s
       exact k.closed z (wAD.2 ⟨_,s⟩) (by show c.getD z.i false=true;rw[a6];exact P) x hx I
    have ag:∀y∈Its ops,y∈l:=by
      intro y N;rcases hT.done y N with g|g
      ·simp at g
      ·obtain⟨b,hb,a7⟩:=wBH.1 g
       rw[pz N (hl b hb) a7.symm];exact hb
    obtain ⟨D,J⟩:=hT.item y (ag y N);have ah:∀d,d∈namesOf y.o->tget t d=tget (T.tt y.i) d:=λd U=>by
      rw[k.temps d,J.temps d];exact yC mJ hp N k.closed J.closed F J.preds u J.fresh U _ _
    have M:∀x∈y.o.op.operands.toList,Alike t (T.tt y.i) x:=yG λd U=>ah d (by simp[namesOf,U]);obtain⟨d,U⟩:=J.dst;have X:∀i',(c.setIfInBounds i true).getD i' false=(c.getD i' false ||decide (y.i=i')):=λi'=>by
      by_cases e:i=i'
      ·subst e;simp[W,ae]
      ·rw[getD_set_ne false e]
       have:¬y.i=i':=by rw[ae];exact e
       simp[this]
    have Y:(c.setIfInBounds i true).toList.count false<=fuel:=by
      have g:c.toList[i]? =some false:=by
        rw[wAv];have:c.getD y.i false=false:=u;rw[ae]at this;simpa[W]using this
      have:=nR c.toList i g;rw[wBw];omega
    have B:Closed (Its ops) (λi'=>(c.setIfInBounds i true).getD i' false):=by
      intro x hx R z s I;simp only[X,wAw,wAe]at R⊢;rcases R with R|R
      ·exact .inl (k.closed x hx R z s I)
      ·have:=pz N hx R
       subst this;exact .inl (F z s I)
    have K:∀d',tget (d.f t (T.val y.i)) d' = lastV T.val (λi'=>(c.setIfInBounds i true).getD i' false) d' (Its ops) (tget t0 d'):=λd'=>by
      rw[zt U,xD mJ hp N k.closed u X (val:=T.val) (val':=T.val) (λ_ _=>rfl) d' (tget t0 d'),k.temps d']
    have aF:h0.next<=(T.H p).next:=wAq hT.more.1 (wz hT.chain p p (by omega) (by have:=A.len;omega));have an:y.i≠a.i->cls y.o=0/\heapFree y.o=true/\y.o.guard=none/\y.b.testBit a.i=false/\y.b.testBit b.i=false:=λal=>by
      have a8:y.i≠b.i:=λe=>by rw[e,C k]at u;cases u
      refine CH A.op N al a8 λ⟨_,Z⟩=>?_;have:=k.closed b hb (C k) y N Z;simp only at this;rw[u]at this;cases this
    by_cases hya:y.i=a.i
    ·
      have aG:=pz N ha hya;subst aG;have P:Region.wanted o (yielded ops m.tmps)=true:=by
        obtain⟨_,_,_,hg,_⟩:=kJ A.sa;unfold Region.wanted;rw[<-E,hg]
      unfold wpOp;simp only[ho];rw[P];simp only[if_true];left;obtain⟨oa,a9,aH⟩:=aS t (by
        rw[k.temps da,hT.temps da];exact zS hT N A.fa F (tT A.sa) _)
      have ao:=aH ((T.H p).put lb ob) (by rw[kw _ _ ax,if_neg (λe=>ay e.symm)]) M;rw[<-E];refine Cq hc k.world k.tmps ao λΔ' x w' hA=>?_;rw[E];have hlen:=A.len;have aI:=hT.chain p (wA5 _) (by omega);have ap:=hT.chain (p+1) (wA5 _) (by omega);have hm:More (((T.H p).put lb ob).put la oa) (T.H (p+2)):=G6 aR ax ay (by rw[<-a9];exact aI.2) (by rw[<-aT];exact ap.2);have aq:∀q z,(wsOf (Its ops))[q]? =some z->((c.setIfInBounds i true).getD z.i false=true↔q<p+2):=λq z s=>by
        have ba:=(wAB.1 s).1;constructor
        ·intro _;omega
        ·intro _
         rw[X];by_cases e:z.i=y.i
         ·simp[e]
         ·rw[(k.ahead z (wAD.2 ⟨_,s⟩)).2 e];rfl
      have bi:T.val y.i = .undef\/True:= .inr trivial;have aJ:(d.f t (T.val y.i)).ds=t0.ds:=by rw[qv U];exact k.defers
      have ai:y.o.dst=none:=by obtain⟨_,_,_,_,h5,_⟩:=kJ A.sa;exact h5
      have bb:TR Δ' n (d.f t (T.val y.i)) (m.put o.dst x):=by
        have g:=zT (k.tmps.mono hA.frame.le) U (v:= .undef) hA.val;rw[E]at g;have e:d.f t (T.val y.i)=d.f t .undef:=by
          unfold dstC at U;rw[ai]at U;cases U;rfl
        rw[e];exact g
      refine Fl hc hp aP aw (T:=T) (p+2) (λfuel c m w j Δ t a' hj _ bc bd aK ar _ al=>?_) hl hT aQ hQ fuel _ _ _ (p+2) Δ' (d.f t (T.val y.i)) (wAF _) Y
        ⟨by simp[k.size],B,by omega,aq,bb,K,hA.world.onward hm,k.frame.trans hA.frame,λl' g h2=>hA.grow.none _ (k.none l' g h2) (wAO h2 aF),aJ,λz s aL bj S _=>?_⟩
      ·exfalso
       have L:a'∈wsOf (Its ops):=by unfold wsOf;rw[wA7];exact⟨bd,by rw[aK];rfl⟩
       obtain⟨q,hq⟩:=wAD.1 L;have g:=(wAB.1 hq).1;have:=(bc.ahead _ a' hq).2 (by omega);rw[ar]at this;cases this
      ·exfalso
       rw[X]at S;simp only[Bool.or_eq_false_iff,decide_eq_false_iff_not]at S;have I:z.i≠b.i:=λe=>by rw[e,C k]at S;cases S.1
       have:=CH A.op s (λe=>S.2 e.symm) I (λ⟨_,Z⟩=>by
         have:=k.closed b hb (C k) z s Z;simp only at this;rw[S.1]at this;cases this)
       rw[this.1]at aL;cases aL
    ·
      obtain⟨aj,hfree,aM,be,Z⟩:=an hya;have bf:wants n ops.toList y.o (T.tt y.i)=some true:=by unfold wants wantC;rw[aM]
      have P:T.on y.i=true:=by
        have:=J.wants;rw[bf]at this;exact(Option.some.inj this).symm
      have aa:Region.wanted o (yielded ops m.tmps)=true:=by
        unfold Region.wanted;rw[<-E,aM]
      have hlen :=A.len;have bg:T.ep y.i<=p:=by
        have g:=J.epw (by rw[aj];decide)
        cases he:T.ep y.i with
        |zero=>omega
        | succ e=>
          rw[he]at g;simp only[afterOk]at g;split at g
          ·rename_i z s
           have ba:=(wAB.1 s).1;rcases wBK e p with h|h
           ·omega
           ·exfalso
            have:e=p\/e=p+1:=by omega
            rcases this with e1|e1
            ·subst e1
             rw[A.ga]at s;cases s;rw[be]at g;cases g
            ·subst e1
             rw[A.gb]at s;cases s;rw[Z]at g;cases g
          ·cases g
      have au:p<=late (wsOf (Its ops)) y:=by
        rcases wBK (late (wsOf (Its ops)) y) p with h|h
        ·exfalso
         obtain ⟨z,s,I⟩:=zO (wsOf (Its ops)) y (by omega);have aN:z∈wsOf (Its ops):=wAD.2 ⟨_,s⟩;have bh:z.i≠a.i:=λe=>by
           have:=w7 s A.ga e;omega
         have:=k.closed z (jx aN).1 ((k.ahead z aN).2 bh) y N I;simp only at this;rw[u]at this;cases this
        ·exact h
      have aO:=J.pure aj P p bg (by omega) au;rw[<-yM (h:=T.H p) M,DC hfree t _ ((T.H p).put lb ob)]at aO;have ao:(opC y.o).f call t ((T.H p).put lb ob)=some (T.val y.i,(T.H p).put lb ob):=by
        unfold opC;rw[aj];simp only[ei];exact⟨_,aO,rfl⟩
      unfold wpOp;simp only[ho];rw[aa];simp only[if_true];left;rw[<-E];refine Cq hc k.world k.tmps ao λΔ' x w' hA=>?_;rw[E];refine ih _ _ _ Δ' (d.f t (T.val y.i)) Y ⟨by simp[k.size],B,λz s=>?_,?_,K,hA.world,k.frame.trans hA.frame,λl' g h2=>hA.grow.none _ (k.none l' g h2) (wAO h2 aF),by rw[qv U];exact k.defers⟩
      ·rw[X]
       have:¬y.i=z.i:=λe=>by
         have g:=pz N (jx s).1 e;subst g;have:=(jx s).2;rw[aj]at this;cases this
       simp only[this,decide_false,Bool.or_false];exact k.ahead z s
      ·have g:=zT (k.tmps.mono hA.frame.le) U hA.val
       rw[E]at g;exact g
end
section
variable{a b:It}{da db p:Nat}{l:List It}
theorem HO (hc:CallOk call) (hp:pairsOk (Its ops)=true) (aH:(Its ops).all (guardOk (Its ops))=true) (aI:(Its ops).all edgesOk=true) (hl:∀a∈l,a∈Its ops)
  (M:TraceOk n ops.toList (Its ops) (wsOf (Its ops)) call t0 h0 l 0 0 h0 [] r T T) (g:Pair ops T a b da db p r)
  (aJ:r.1.ds=t0.ds) (hQ:∀Δ' a' w',Goes Δ0 h0 w0 n r.1 r.2 Δ' a' w'->Q .normal a' w')
  (fuel:Nat) (c:Array Bool) (N:Act) (w:World) (j:Nat) (Δ:Env) (t:Tm) (y:It) (_:0<=j) (a9:c.toList.count false<=fuel+1) (u:Inv n ops t0 h0 Δ0 w0 T c j Δ t N w) (S:y∈Its ops)
  (ag:cls y.o=2) (E:c.getD y.i false=false) (m:∀x∈Its ops,y.b.testBit x.i=true->c.getD x.i false=true) (aK:(wsOf (Its ops))[j]?≠some y) :
  wpOp P0 ops Q y.i (wpAny P0 .any ops Q fuel (c.setIfInBounds y.i true)) N w:=by
 have hlen:=g.len;have ha:a∈Its ops:=(jx (wAD.2 ⟨_,g.ga⟩)).1;have hb:b∈Its ops:=(jx (wAD.2 ⟨_,g.gb⟩)).1;have ap:y∈wsOf (Its ops):=by unfold wsOf;rw[wA7];exact⟨S,by rw[ag];rfl⟩
 obtain ⟨q,hq⟩:=wAD.1 ap;have bf:=(wAB.1 hq).1;have bg:¬q<j:=λh=>by
  have:=(u.ahead _ y hq).2 h;rw[E]at this;cases this
 have bh:q≠j:=λe=>aK (by rw[<-e];exact hq);have aL:q=p+1/\j=p:=by
  obtain⟨e,rfl⟩:∃e,q=e+1:=⟨q-1,by omega⟩
  have Z:e<(wsOf (Its ops)).length:=by omega
  have hg:=wAA Z;rcases wBK e p with h|h
  ·exfalso;have ah:=(yy g.ch e _ y hg hq (by omega)).1;have:=(u.ahead e _ hg).1 (m _ (jx (wAR Z)).1 ah);omega
  ·have he:e=p:=by omega
   subst he;refine⟨rfl,?_⟩;rcases wBK j e with h2|h2
   ·exfalso;obtain⟨f,rfl⟩:∃f,e=f+1:=⟨e-1,by omega⟩
    have aq:f<(wsOf (Its ops)).length:=by omega
    have ar:=wAA aq;have ah:=(yy g.ch f _ a ar g.ga (by omega)).2 (by omega) y hq;have:=(u.ahead f _ ar).1 (m _ (jx (wAR aq)).1 ah);omega
   ·omega
 obtain⟨rfl,rfl⟩:=aL;have aM:y=b:=by rw[g.gb]at hq;cases hq;rfl
 subst aM;have F:∀y∈Its ops,y∈l:=by
  intro y S;rcases M.done y S with s|s
  ·simp at s
  ·obtain⟨b,hb,aN⟩:=wBH.1 s;rw[pz S (hl b hb) aN.symm];exact hb
 obtain ⟨D,A⟩:=M.item y (F y S);obtain⟨Da,B⟩:=M.item a (F a ha);have O:=tY g.sa;have epw:∀{x:It} {D:Nat->Bool} {k:Nat},ItemOk n ops.toList (Its ops) (wsOf (Its ops)) call t0 h0 T D x->cls x.o=2->(wsOf (Its ops))[k]? =some x->T.ep x.i=k:=λ{x D k} U aO aP=>by
  have s:=(U.write aO).1;unfold isW at s;split at s
  ·rename_i z hz;exact w7 hz aP (wAG s)
  ·cases s
 have au:=epw A ag g.gb;have aw:=epw B O g.ga;have aa:∀{x:It} {D:Nat->Bool} {d:Nat},ItemOk n ops.toList (Its ops) (wsOf (Its ops)) call t0 h0 T D x->storeAt x.o=some d->T.on x.i=true:=λ{x D d} U hs=>by
  obtain⟨_,_,_,hg,_⟩:=kJ hs;have:=U.wants;unfold wants wantC at this;rw[hg]at this;exact(Option.some.inj this).symm
 have G:∀d,d∈namesOf y.o->tget t d=tget (T.tt y.i) d:=λd L=>by
  rw[u.temps d,A.temps d];exact yC mJ hp S u.closed A.closed m A.preds E A.fresh L _ _
 have V:∀x∈y.o.op.operands.toList,Alike t (T.tt y.i) x:=yG λd L=>G d (by simp[namesOf,L]);have ab:=(B.write O).2.1 (aa B g.sa);rw[aw]at ab;obtain⟨_,la,ba,ea,aQ,bi,ax,aR,aS,ai,aj⟩:=zU g.sa ab;have I:=(A.write ag).2.1 (aa A g.sb);rw[au]at I;obtain⟨_,lb,bb,eb,bj,bm,bc,bn,bo,bp,_⟩:=zU g.sb I;rw[<-Bg (h:=T.H (j+1)) V]at I;obtain⟨_,C,aT,aU,ay,bd,al,ac,be,aA,am⟩:=zU g.sb I;have e1:=G db (by simp[namesOf,tT g.sb]);have aV:tget (T.tt a.i) da=tget r.1 da:=by
  rw[B.temps da,M.temps da];exact zS M ha g.fa B.preds (tT g.sa) _
 have aW:tget t db=tget r.1 db:=by
  rw[u.temps db,M.temps db];exact zS M S g.fb m (tT g.sb) _
 have aB:la≠C:=λe=>by
  have:=g.apart;rw[<-aV,<-aW,aR,ac,e]at this;have h2:(!(Nat.beq C C))=true:=this;rw[wBG]at h2;cases h2
 have aC:la<(T.H j).next:=Hp.get_lt aS;have aD:C<(T.H j).next:=by
  have s:=u.tmps.rel db;rw[ac]at s
  cases U:N.tmps.getD db undef with
  | pointer p=>
    rw[U]at s
    cases s with
    |ptr _ _ d L=>exact u.world.fresh _ _ L
  |_=>rw[U]at s;cases s
 have aX:=M.chain j (wA5 _) (by omega);have aE:(T.H j).get C=(T.H (j+1)).get C:=by
  rw[aX.2.2 C (by rw[ai];exact aD),ai,kw _ _ aC,if_neg aB]
 have aY:=am (T.H j) aE;have ae:=BI S;have P:Region.wanted y.o (yielded ops N.tmps)=true:=by
  obtain⟨_,_,_,hg,_⟩:=kJ g.sb;unfold Region.wanted;rw[hg]
 obtain⟨d,L⟩:=A.dst;have aF:y.i<c.size:=by rw[u.size];exact(wAm.1 ae).1
 have an:∀W,(c.setIfInBounds y.i true).getD W false=(c.getD W false ||decide (y.i=W)):=λW=>by
  by_cases e:y.i=W
  ·rw[<-e];simp[aF]
  ·rw[getD_set_ne false e];simp[e]
 have ao:(c.setIfInBounds y.i true).toList.count false<=fuel:=by
  have s:c.toList[y.i]? =some false:=by
   rw[wAv];simpa[aF]using E
  have:=nR c.toList y.i s;rw[wBw];omega
 have J:Closed (Its ops) (λW=>(c.setIfInBounds y.i true).getD W false):=by
  intro x U K z hz aG;simp only[an,wAw,wAe]at K⊢;rcases K with K|K
  ·exact .inl (u.closed x U K z hz aG)
  ·have:=pz S U K;subst this;exact .inl (m z hz aG)
 have R:∀d',tget (d.f t (T.val y.i)) d' = lastV T.val (λW=>(c.setIfInBounds y.i true).getD W false) d' (Its ops) (tget t0 d'):=λd'=>by
  rw[zt L,xD mJ hp S u.closed E an (val:=T.val) (val':=T.val) (λ_ _=>rfl) d' (tget t0 d'),u.temps d']
 have aZ:h0.next<=(T.H j).next:=wAq M.more.1 (wz M.chain j j (by omega) (by omega));unfold wpOp;simp only[ae];rw[P];simp only[if_true];left;refine Cq hc u.world u.tmps aY λΔ' x w' hA=>?_;have X:y.o.dst=none:=by obtain⟨_,_,_,_,h5,_⟩:=kJ g.sb;exact h5
 have a5:TR Δ' n (d.f t (T.val y.i)) (N.put y.o.dst x):=by
  have s:=zT (u.tmps.mono hA.frame.le) L (v:= .undef) hA.val;have e:d.f t (T.val y.i)=d.f t .undef:=by
   unfold dstC at L;rw[X]at L;cases L;rfl
  rw[e];exact s
 refine JF hc hp aH aI hl M g aJ hQ (la:=la) (lb:=C) (ob:= .cells aU ay true false al) aC aD aB (λt' bq=>⟨.cells ea aQ true false ax,ai,λs a6 a7=>?_⟩) aA fuel _ _ _ Δ' (d.f t (T.val y.i)) ao
  ⟨by simp[u.size],J,λz hz=>?_,a5,R,hA.world,u.frame.trans hA.frame,λl' s h2=>hA.grow.none _ (u.none l' s h2) (wAO h2 aZ),by rw[qv L];exact u.defers⟩
 ·rw[Bg (h:=s) a7];exact aj s a6
 ·obtain ⟨k,Y⟩:=wAD.1 hz;have br:=(wAB.1 Y).1;rw[an];simp only[wAw,wAe,u.ahead k z Y];constructor
  ·rintro(h|h)
   ·intro e;have:=w7 Y g.ga e;omega
   ·intro e;have h3:=w7 Y g.ga e;have h4:=w7 Y g.gb h.symm;omega
  ·intro a8;rcases wBK k j with h|h
   ·exact .inl h
   ·right;have bt:k≠j:=λe=>by
     subst e;rw[g.ga]at Y;cases Y;exact a8 rfl
    have:k=j+1:=by omega
    subst this;rw[g.gb]at Y;cases Y;rfl
end
end
