/- Parts. -/
import Derived.Test.YtpnddokajmjpbaaDoorM04
namespace Go.Proofs.YtpnddokajmjpbaaDoor.Hx
theorem HS:∀(ws:List It) (a:It),late ws a<ws.length->∃w,ws[late ws a]? =some w/\w.b.testBit a.i=true
 |[],a,h=>by simp[late]at h
 | w ::ws,a,h=>by
   unfold late at h⊢;split
   ·rename_i hb;exact⟨w,rfl,hb⟩
   ·rename_i hb
    simp only[hb,CM]at h;obtain⟨w',c,d⟩:=HS ws a (by omega);exact⟨w',by simpa using c,d⟩
theorem IC:∀{l:List It},Ea l=true->∀(q:Nat) (a b:It),l[q]? =some a->l[q+1]? =some b->b.b.testBit a.i=true
 |[],_,q,a,b,h,_=>by simp at h
 |[x],_,q,a,b,_,h=>by simp at h
 | x::y::l,hc,0,a,b,c,d=>by
   simp at c d;subst c;subst d;simp only[Ea,tN]at hc
   exact hc.1
 | x::y::l,hc,q+1,a,b,c,d=>by
   simp only[Ea,tN]at hc;exact IC (l:=y::l) hc.2 q a b (by simpa using c) (by simpa using d)
theorem count_set:∀(l:List Bool) (i:Nat),l[i]? =some false->(l.set i true).count false<l.count false
 |[],i,h=>by simp at h
 |b::l,0,h=>by simp at h;subst h;simp
 | b::l,i+1,h=>by
   have:=count_set l i (by simpa using h);simp only[kZ,List.count_cons];omega
theorem N6 {n:Nat} {all:List Oper} {o:Oper} {t t':Tm} (h:∀j w a d,o.guard=some (j,w)->all[j]? =some a->a.dst=some d->jl t d=jl t' d):oO n all o t=oO n all o t':=by
 unfold oO jX
 cases hg:o.guard with
 |none=>rfl
 | some b=>
   obtain⟨j,w⟩:=b;simp only
   cases hj:all[j]? with
   |none=>rfl
   | some a=>
     simp only
     cases hd:a.dst with
     |none=>rfl
     | some d=>
       simp only;have:=h j w a d hg hj hd
       cases Nat.blt d n with
       |true=>simp only[this]
       |false=>rfl
theorem MN {Δ:Env} {n:Nat} {t:Tm} {a:Act} (d:TR Δ n t a) {ops:Array Oper} {o:Oper} {b:Bool} (h:oO n ops.toList o t=some b):Region.wanted o (yielded ops a.tmps)=b:=by
 unfold oO at h;split at h
 ·rename_i c;cases h;exact L4 c _
 ·rename_i g c;exact Mj d c h
section
variable{n:Nat}{ops:Array Oper}{call:Call}{t0:Tm}{h0:Hp}{Δ0:Env}{w0:World}{T:Tc}{r:Tm×Hp}{Q:Exit->Act->World->Prop}
abbrev iy (ops:Array Oper):List It:=items ops.toList 0 []
theorem rz (k:Nat) (x:It) (h:(iy ops)[k]? =some x):x.i=k:=by
 have:=(A7 _ _ _ _ _ h).1;omega
theorem tS {x y:It} (hx:x∈iy ops) (b:y∈iy ops) (h:x.i=y.i):x=y:=by
 obtain⟨i,hi⟩:=mA.1 hx;obtain⟨j,a⟩:=mA.1 b;have c:=rz i x hi;have d:=rz j y a;have:i=j:=by omega
 subst this;rw[hi]at a;cases a;rfl
theorem J3 {x:It} (hx:x∈iy ops):ops[x.i]? =some x.o:=by
 obtain⟨i,hi⟩:=mA.1 hx;have a:=rz i x hi;have b:=(A7 _ _ _ _ _ hi).2;rw[a,<-QM];exact b
theorem Kc {i:Nat} {o:Oper} (h:ops[i]? =some o):∃a,a∈iy ops/\a.i=i/\a.o=o/\(iy ops)[i]? =some a:=by
 have c:i<ops.size:=(Rl.1 h).1;have b:i<(iy ops).length:=by rw[Gk];simpa using c
 have d:(iy ops)[i]? =some (iy ops)[i]:=gQ b;refine⟨(iy ops)[i],AO b,rz _ _ d,?_,d⟩;have e:=(A7 _ _ _ _ _ d).2;rw[QM,h]at e;cases e;rfl
theorem nf {x:It} (h:x∈gK (iy ops)):x∈iy ops/\cls x.o=2:=by
 unfold gK at h;rw[NA]at h;exact⟨h.1,tU h.2⟩
theorem RY:(gK (iy ops)).Pairwise λa b=>a.i<b.i:=by
 unfold gK;refine List.Pairwise.filter _ ?_;rw[VQ];intro i j hi c d;have e:=rz (ops:=ops) i _ (gQ hi);have f:=rz (ops:=ops) j _ (gQ c);omega
theorem Dd {q b:Nat} {x y:It} (hq:(gK (iy ops))[q]? =some x) (c:(gK (iy ops))[b]? =some y) (h:x.i=y.i):q=b:=by
 have hs:=RY (ops:=ops);rw[VQ]at hs;obtain⟨l1,d⟩:=iB.1 hq;obtain⟨l2,e⟩:=iB.1 c;rcases V2 q b with a|a|a
 ·have:=hs q b l1 l2 a;rw[d,e]at this;omega
 ·exact a
 ·have:=hs b q l2 l1 a;rw[d,e]at this;omega
structure Inv (n:Nat) (ops:Array Oper) (t0:Tm) (h0:Hp) (Δ0:Env) (w0:World) (T:Tc) (b:Array Bool) (j:Nat) (Δ:Env) (t:Tm) (a:Act) (w:World):Prop where
 size:b.size=ops.size
 closed:yy (iy ops) (λi=>b.getD i false)
 Uy:j<=(gK (iy ops)).length
 ahead:∀q x,(gK (iy ops))[q]? =some x->(b.getD x.i false=true↔q<j)
 tmps:TR Δ n t a
 oA:∀d,jl t d=pP T.val (λi=>b.getD i false) d (iy ops) (jl t0 d)
 world:WR Δ (T.H j) w
 frame:FR Δ0 Δ w0 w
 none:∀l,Δ0 l = .none->l<h0.next->Δ l = .none
 defers:t.ds=t0.ds
 zaP:∀x∈iy ops,cls x.o=1->T.on x.i=true->b.getD x.i false=false->T.ep x.i<=j->Δ (T.pl x.i) = .none
theorem Rh (hc:uj call) (hp:pW (iy ops)=true) (a5:(iy ops).all (BN (iy ops))=true) (a6:(iy ops).all zP=true)
  (j0:Nat) (aN:∀(fuel:Nat) (c:Array Bool) (X:Act) (w:World) (j:Nat) (Δ:Env) (t:Tm) (a:It),j0<=j->c.toList.count false<=fuel+1->Inv n ops t0 h0 Δ0 w0 T c j Δ t X w->a∈iy ops->cls a.o=2->c.getD a.i false=false->
   (∀x∈iy ops,a.b.testBit x.i=true->c.getD x.i false=true)->(gK (iy ops))[j]?≠some a->wpOp P0 ops Q a.i (wpAny P0 .any ops Q fuel (c.setIfInBounds a.i true)) X w)
  {l:List It} (hl:∀a∈l,a∈iy ops) (R:sk n ops.toList (iy ops) (gK (iy ops)) call t0 h0 l 0 0 h0 [] r T T)
  (a7:r.1.ds=t0.ds) (hQ:∀F a' w',Ag Δ0 h0 w0 n r.1 r.2 F a' w'->Q .normal a' w') :
  ∀(fuel:Nat) (c:Array Bool) (a:Act) (w:World) (j:Nat) (Δ:Env) (t:Tm),j0<=j->c.toList.count false<=fuel->Inv n ops t0 h0 Δ0 w0 T c j Δ t a w->wpAny P0 .any ops Q fuel c a w:=by
 have ab:∀(c:Array Bool),c.size=ops.size->Region.ready .any ops c=[]->∀x∈iy ops,c.getD x.i false=true:=by
  intro c bA hr;have a8:∀i,i<ops.size->c.getD i false=true:=by
   intro i
   induction i using Nat.strongRecOn with
   | _ i ih=>
     intro hi
     cases hb:c.getD i false with
     |true=>rfl
     | false=>
       exfalso;have ho:ops[i]? =some ops[i]:=Array.getElem?_eq_getElem hi;obtain⟨x,hx,aD,a9,_⟩:=Kc ho;have aA:i∈Region.ready .any ops c:=by
         rw[mem_ready];refine⟨?_,ops[i],ho,λe he ba=>?_⟩
         ·have:i<c.size:=by omega
          simp[this]at hb⊢;exact hb
         ·have m:=KQ.1 a6 x hx
          unfold zP at m;rw[a9,aD]at m;have u:=KQ.1 m e (by simpa using he);rw[<-DU,ba]at u;simp only[X6,Bool.false_or,LS]at u;exact ih e.on u (by omega)
       rw[hr]at aA;cases aA
  intro x hx;exact a8 x.i (Rl.1 (J3 hx)).1
 have W:∀(c:Array Bool) (a:Act) (w:World) (j:Nat) (Δ:Env) (t:Tm),Inv n ops t0 h0 Δ0 w0 T c j Δ t a w->(∀x∈iy ops,c.getD x.i false=true)->Q .normal a w:=by
  intro c a w j Δ t k N;have hj:j=(gK (iy ops)).length:=by
   rcases Nq j (gK (iy ops)).length with h|h
   ·have hg:=gQ h;have:=(k.ahead j _ hg).1 (N _ (nf (AO h)).1);omega
   ·have:=k.Uy;omega
  subst hj;refine hQ Δ a w ⟨⟨k.tmps.size,λi=>?_,by rw[a7,<-k.defers];exact k.tmps.ds⟩,by rw[R.last];exact k.world,k.frame,⟨?_,k.none⟩⟩
  ·have m:=k.tmps.rel i;rw[k.oA i,pT (D':=λ_=>true) (IW:=T.val) (λx hx _=>N x hx) (λ_ _ _ _=>rfl),<-R.oA i]at m;exact m
  ·rw[R.last];exact Ez R.more.1 (CT R.chain _ _ (by rw[vI]) (iW _))
 intro fuel
 induction fuel with
 | zero =>
   intro c a w j Δ t _ aB k;have N:∀x∈iy ops,c.getD x.i false=true:=by
     intro x hx;have S:x.i<c.size:=by rw[k.size];exact(Rl.1 (J3 hx)).1
     cases hb:c.getD x.i false with
     |true=>rfl
     | false=>
       exfalso;have:false∈c.toList:=by
         have:c[x.i]=false:=by simpa[S]using hb
         rw[<-this];simp
       have:=List.count_pos_iff.2 this;omega
   refine⟨?_,W _ _ _ _ _ _ k N⟩;rw[List.eq_nil_iff_forall_not_mem];intro i hi;rw[mem_ready]at hi;obtain⟨m,o,ho,_⟩:=hi;obtain⟨x,hx,aD,_,_⟩:=Kc ho;have:=N x hx;rw[aD]at this;have S:i<c.size:=by rw[k.size];exact(Rl.1 ho).1
   simp[S]at m this
   rw[m]at this;cases this
 | succ fuel ih=>
   intro c X w j Δ t aO aB k;refine⟨λhr=>W _ _ _ _ _ _ k (ab _ k.size hr),λi hi=>?_⟩;rw[mem_ready]at hi;obtain⟨sr,o,ho,ap⟩:=hi;obtain⟨a,ha,ac,J,aE⟩:=Kc ho;have S:i<c.size:=by rw[k.size];exact(Rl.1 ho).1
   have I:c.getD a.i false=false:=by rw[ac];simp[S]at sr⊢;exact sr
   have z:∀x∈iy ops,a.b.testBit x.i=true->c.getD x.i false=true:=by
     intro x hx hb;obtain⟨e,he,bb,m⟩:=KA aE hb;rw[J]at he;have C:=ap e (by simpa using he) (by rw[DU];exact bb);rcases m with m|⟨y,v,aq⟩
     ·rw[m];exact C
     ·have bc:=rz _ _ v
      exact k.closed y (mA.2 ⟨_,v⟩) (by show c.getD y.i false=true;rw[bc];exact C) x hx aq
   by_cases hez:cls a.o=2/\(gK (iy ops))[j]?≠some a
   ·rw[<-ac]
    exact aN fuel c X w j Δ t a aO aB k ha hez.1 I z hez.2
   obtain ⟨D,A⟩:∃D,Kz n ops.toList (iy ops) (gK (iy ops)) call t0 h0 T D a:=by
     rcases R.done a ha with m|m
     ·simp at m
     ·obtain⟨b,hb,ae⟩:=K2.1 m
      rw[tS ha (hl b hb) ae.symm];exact R.item b hb
   have K:∀y∈iy ops,y∈l:=by
     intro y v;rcases R.done y v with m|m
     ·simp at m
     ·obtain⟨b,hb,ae⟩:=K2.1 m
      rw[tS v (hl b hb) ae.symm];exact hb
   have bd:=K a ha;have ar:∀d,d∈oK a.o->jl t d=jl (T.tt a.i) d:=λd hd=>by
     rw[k.oA d,A.oA d];exact Fi rz hp ha k.closed A.closed z A.fe I A.fresh hd _ _
   have L:∀x∈a.o.op.operands.toList,Alike t (T.tt a.i) x:=FH λd hd=>ar d (by simp[oK,hd]);have au:oO n ops.toList a.o t=some (T.on a.i):=by
     rw[<-A.oO];refine N6 λjg wg oj d hg hj hd=>?_;have E:=KQ.1 a5 a ha;unfold BN at E;rw[hg]at E;simp only at E
     cases hjt:(iy ops)[jg]? with
     |none=>rw[hjt]at E;cases E
     | some g=>
       rw[hjt]at E;simp only at E;have be:g.o=oj:=by
         have:=(A7 _ _ _ _ _ hjt).2;rw[hj]at this;cases this;rfl
       rw[be,hd]at E;simp only[tN]at E;obtain⟨aC,aF⟩:=E;have aP:=rz _ _ hjt;have bf:g∈iy ops:=mA.2 ⟨_,hjt⟩;rw[k.oA d,A.oA d];refine pT (λx hx bg=>?_) (λ_ _ _ _=>rfl) _;have m:=KQ.1 aF x hx;rw[bg]at m;have u:x.i=jg:=by simpa using m
       have M:x=g:=tS hx bf (by omega);subst M;rw[z x hx (by rw[aP];exact aC),A.fe x hx (by rw[aP];exact aC)]
   have ag:Region.wanted o (yielded ops X.tmps)=T.on a.i:=by rw[<-J];exact MN k.tmps au
   obtain ⟨d,hd⟩:=A.dst;have Y:∀i',(c.setIfInBounds i true).getD i' false=(c.getD i' false ||decide (a.i=i')):=λi'=>by
     by_cases e:i=i'
     ·subst e;simp[S,ac]
     ·rw[getD_set_ne false e]
      have:¬a.i=i':=by rw[ac];exact e
      simp[this]
   have aG:(c.setIfInBounds i true).toList.count false<=fuel:=by
     have m:c.toList[i]? =some false:=by
       rw[QM];have:c.getD a.i false=false:=I;rw[ac]at this;simpa[S]using this
     have:=count_set c.toList i m;rw[wBx];omega
   have Z:yy (iy ops) (λi'=>(c.setIfInBounds i true).getD i' false):=by
     intro x hx aa y v aq;simp only[Y,K6,DY]at aa⊢;rcases aa with aa|aa
     ·exact .inl (k.closed x hx aa y v aq)
     ·have:=tS ha hx aa
      subst this;exact .inl (z y v aq)
   have ah:∀d',jl (d.f t (T.val a.i)) d' = pP T.val (λi'=>(c.setIfInBounds i true).getD i' false) d' (iy ops) (jl t0 d'):=λd'=>by
     rw[Gx hd,DT rz hp ha k.closed I Y (val:=T.val) (IW:=T.val) (λ_ _=>rfl) d' (jl t0 d'),k.oA d']
   have next:∀(j':Nat) (F:Env) (x:Value) (w':World),fI F (T.val a.i) x->WR F (T.H j') w'->FR Δ F w w'->j'<=(gK (iy ops)).length->
       (∀q y,(gK (iy ops))[q]? =some y->((c.setIfInBounds i true).getD y.i false=true↔q<j'))->
       (∀y∈iy ops,cls y.o=1->T.on y.i=true->(c.setIfInBounds i true).getD y.i false=false->T.ep y.i<=j'->F (T.pl y.i)=none)->
       (∀l,Δ0 l=none->l<h0.next->F l=none)->wpAny P0 .any ops Q fuel (c.setIfInBounds i true) (X.put o.dst x) w':=by
     intro j' F x w' bh bi aQ bj O aw ax;have bm:j<=j':=by
       rcases Nq j' j with h|h
       ·exfalso
        have aR:j' < (gK (iy ops)).length:=by have:=k.Uy;omega
        have hg:=gQ aR;have m:=(k.ahead j' _ hg).2 h;have u:=(O j' _ hg).1 (by rw[Y,m];rfl);omega
       ·exact h
     refine ih _ _ _ j' F (d.f t (T.val a.i)) (Ez aO bm) aG ⟨by simp[k.size],Z,bj,O,?_,ah,bi,k.frame.trans aQ,ax,by rw[vZ hd];exact k.defers,aw⟩;have:=Hq (k.tmps.mono aQ.le) hd bh;rw[J]at this;exact this
   have aS:h0.next<=(T.H j).next:=Ez R.more.1 (CT R.chain j j (by omega) k.Uy);have ai:j<=late (gK (iy ops)) a:=by
     rcases Nq (late (gK (iy ops)) a) j with h|h
     ·exfalso
      obtain⟨x,hx,bn⟩:=HS (gK (iy ops)) a (by have:=k.Uy;omega);have m:=(k.ahead _ x hx).2 h;have:=k.closed x (nf (mA.2 ⟨_,hx⟩)).1 m a ha bn;simp only at this;rw[I]at this;cases this
     ·exact h
   have still:cls a.o≠2->∀q y,(gK (iy ops))[q]? =some y->((c.setIfInBounds i true).getD y.i false=true↔q<j):=by
     intro aj q y hq;rw[Y,<-k.ahead q y hq];have v:=nf (mA.2 ⟨_,hq⟩);have:¬a.i=y.i:=λe=>by
       have:=tS ha v.1 e;subst this;exact aj v.2
     simp[this]
   have aH:cls a.o≠2->T.ep a.i<=j:=by
     intro aj;have m:=A.epw aj
     cases he:T.ep a.i with
     |zero=>omega
     | succ e=>
       rw[he]at m;simp only[Ji]at m;split at m
       ·rename_i x hx
        have bo:=(nf (mA.2 ⟨_,hx⟩)).1;have:=(k.ahead _ x hx).1 (z x bo m);omega
       ·cases m
   have s:∀y∈iy ops,cls y.o=1->T.on y.i=true->(c.setIfInBounds i true).getD y.i false=false->T.ep y.i<=j->Δ (T.pl y.i)=none/\y.i≠a.i:=by
     intro y v m u M U;rw[Y]at M;simp only[Bool.or_eq_false_iff,decide_eq_false_iff_not]at M;exact⟨k.zaP y v m u M.1 U,λe=>M.2 e.symm⟩
   have P:∀y∈iy ops,cls y.o=1->T.on y.i=true->T.ep y.i<=j->T.pl y.i<(T.H j).next:=by
     intro y v m u M;rcases R.done y v with U|U
     ·simp at U
     ·obtain⟨b,hb,ae⟩:=K2.1 U
      have:=tS v (hl b hb) ae.symm;subst this;obtain⟨_,ak⟩:=R.item y hb;exact((ak.alloc m u).2.1 j M k.Uy).1
   have aI:cls a.o=2->Yf (gK (iy ops)) a (T.ep a.i)=true->T.ep a.i=j/\(gK (iy ops))[j]? =some a:=by
     intro _ hw;unfold Yf at hw;split at hw
     ·rename_i x hx
      have bp:=tS (nf (mA.2 ⟨_,hx⟩)).1 ha (tU hw);subst bp;have aT:(gK (iy ops))[j]? =some x:=by
        apply Classical.byContradiction;intro aj;exact hez ⟨(nf (mA.2 ⟨_,hx⟩)).2,aj⟩
      exact⟨Dd hx aT rfl,aT⟩
     ·cases hw
   have al:cls a.o=2->Yf (gK (iy ops)) a (T.ep a.i)=true->∀q y,(gK (iy ops))[q]? =some y->((c.setIfInBounds i true).getD y.i false=true↔q<j+1):=by
     intro p hw q y hq;obtain⟨_,hx⟩:=aI p hw;rw[Y];simp only[K6,DY,k.ahead q y hq];constructor
     ·rintro(h|h)
      ·omega
      ·have:=Dd hx hq h;omega
     ·intro h
      rcases Nq q j with m|m
      ·exact .inl m
      ·have:q=j:=by omega
       subst this;rw[hx]at hq;cases hq;exact .inr rfl
   have am:cls a.o=2->Yf (gK (iy ops)) a (T.ep a.i)=true->∀(F:Env) (w':World),WR F (T.G j) w'->Gr (T.H j) Δ (T.G j) F->
       ∀y∈iy ops,cls y.o=1->T.on y.i=true->(c.setIfInBounds i true).getD y.i false=false->T.ep y.i<=j+1->F (T.pl y.i)=none:=by
     intro p hw F w' bq br y v m u M U;rcases Nq j (T.ep y.i)with h5|h5
     ·obtain⟨_,ak⟩:=R.item y (K y v)
      have aU:=(ak.alloc m u).2.2.1 j h5
      cases hd':F (T.pl y.i)with
      |none=>rfl
      |some e=>have:=bq.fresh _ _ hd';omega
     ·exact br.none _ (s y v m u M h5).1 (P y v m u h5)
   unfold wpOp;simp only[ho];rw[ag]
   cases C:T.on a.i with
   | false=>
     simp only[Li,if_false];have hv:=A.off C;rcases Ib a.o with p|p|p
     ·exact next j Δ undef w (by rw[hv];exact .undef Δ) k.world (.refl _ _) k.Uy (still (by rw[p];decide)) (λy v m u M U=>(s y v m u M U).1) k.none
     ·exact next j Δ undef w (by rw[hv];exact .undef Δ) k.world (.refl _ _) k.Uy (still (by rw[p];decide)) (λy v m u M U=>(s y v m u M U).1) k.none
     ·obtain⟨B,_,aV⟩:=A.write p
      obtain⟨aJ,aK⟩:=aI p B;have hG:=aV C;rw[aJ]at hG;have an:j<(gK (iy ops)).length:=(iB.1 aK).1;obtain⟨bt,aL⟩:=R.chain j (Gl _) an;have aW:WR Δ (T.G j) w:=by rw[hG];exact k.world
      exact next (j+1) Δ undef w (by rw[hv];exact .undef Δ) (aW.MT aL) (.refl _ _) an (al p B) (am p B Δ w aW (by rw[hG];exact .refl _ _)) k.none
   | true=>
     simp only[if_true];left;rcases Ib a.o with p|p|p
     ·have aX:=A.pure p C j (aH (by rw[p];decide)) k.Uy ai
      rw[<-Fy (h:=T.H j) L]at aX;have ay:(FB a.o).f call t (T.H j)=some (T.val a.i,T.H j):=by
        unfold FB;rw[p];simp only[fj];exact⟨_,aX,rfl⟩
      rw[<-J];refine Lr hc k.world k.tmps ay λF x w' hA=>?_;rw[J]
      exact next j F x w' hA.val hA.world hA.frame k.Uy (still (by rw[p];decide)) (λy v m u M U=>hA.grow.none _ (s y v m u M U).1 (P y v m u U))
        (λl' m u=>hA.grow.none _ (k.none l' m u) (Ac u aS))
     ·obtain ⟨⟨mk,aY,aZ⟩,bu,_,aU⟩:=A.alloc p C
      obtain⟨bv,bw⟩:=bu j (aH (by rw[p];decide)) k.Uy;have a4:=bw ai;rw[<-Ii L]at aY;obtain⟨mo,mv,ao,aM⟩:=OH k.tmps aY;have V:=k.zaP a ha p C I (aH (by rw[p];decide));obtain⟨dd,hb,bx,bz⟩:=aM (T.pl a.i) w.heap.size V;rw[<-J];unfold Oper.wp;rw[ao w,Oper.upon_value,J];refine next j (Δ.set (T.pl a.i) dd) _ _ (by rw[aZ];exact bz) (k.world.lay V bv a4 hb bx) (FR.lay V hb) k.Uy (still (by rw[p];decide)) (λy v m u M U=>?_) (λl' m u=>?_)
      ·obtain⟨e1,e2⟩:=s y v m u M U
       have:=R.RA y (K y v) a bd m p u C e2;unfold Env.set;rw[if_neg this];exact e1
      ·have:l'≠T.pl a.i:=by omega
       unfold Env.set;rw[if_neg this];exact k.none l' m u
     ·obtain ⟨B,ao,_⟩:=A.write p
      obtain⟨aJ,aK⟩:=aI p B;have ay:=ao C;rw[aJ,<-JC (h:=T.H j) L]at ay;have an:j<(gK (iy ops)).length:=(iB.1 aK).1;obtain⟨bt,aL⟩:=R.chain j (Gl _) an;rw[<-J];refine Lr hc k.world k.tmps ay λF x w' hA=>?_;rw[J]
      exact next (j+1) F x w' hA.val (hA.world.MT aL) hA.frame an (al p B) (am p B F w' hA.world hA.grow)
        (λl' m u=>hA.grow.none _ (k.none l' m u) (Ac u aS))
theorem Sh (m:Ea (gK (iy ops))=true) (fuel:Nat) (c:Array Bool) (g:Act) (w:World) (j:Nat) (Δ:Env) (t:Tm) (a:It) (_:0<=j) (_:c.toList.count false<=fuel+1) (s:Inv n ops t0 h0 Δ0 w0 T c j Δ t g w) (v:a∈iy ops)
  (p:cls a.o=2) (k:c.getD a.i false=false) (d:∀x∈iy ops,a.b.testBit x.i=true->c.getD x.i false=true) (r:(gK (iy ops))[j]?≠some a) :
  wpOp P0 ops Q a.i (wpAny P0 .any ops Q fuel (c.setIfInBounds a.i true)) g w:=by
 exfalso;have l:a∈gK (iy ops):=by unfold gK;rw[NA];exact⟨v,by rw[p];rfl⟩
 obtain ⟨q,hq⟩:=mA.1 l;have y:¬q<j:=λh=>by
  have:=(s.ahead _ a hq).2 h;rw[k]at this;cases this
 have z:q≠j:=λe=>r (by rw[<-e];exact hq);obtain⟨e,rfl⟩:∃e,q=e+1:=⟨q-1,by omega⟩
 have f:e<(gK (iy ops)).length:=by have:=(iB.1 hq).1;omega
 have u:=gQ f;have hb:=IC m e _ a u hq;have:=(s.ahead e _ u).1 (d _ (nf (AO f)).1 hb);omega
theorem iE {x:Operand} (hx:Mz x=true) (t:Tm) (h h':Hp):(rB x).f t h=(rB x).f t h':=by
 cases x <;> first|rfl|(simp[Mz]at hx)
theorem O1 {o:Oper} (b:DM o=true) (t:Tm) (h h':Hp):(ir o).f t h=(ir o).f t h':=by
 unfold DM at b;unfold ir;split at b
 ·rename_i a;rw[a];exact iE b t h h'
 ·rename_i a;rw[a];show(tj _).f t h=(tj _).f t h';unfold tj;simp only[iE b t h h']
 ·rename_i a;rw[a];show(mI _ _ _).f t h=(mI _ _ _).f t h';unfold mI;split
  ·split <;> simp only[iE b t h h']
  ·rfl
 ·rename_i a;rw[a];rw[tN]at b;show(mF _ _ _).f t h=(mF _ _ _).f t h';unfold mF;split
  ·split <;> simp only[iE b.1 t h h',iE b.2 t h h']
  ·split <;> simp only[iE b.1 t h h',iE b.2 t h h']
  ·rfl
 ·cases b
theorem pz {o:Oper} {d:Nat} (h:storeAt o=some d):∃ty x,o.op = .store ty (.tmp d) x/\o.guard=none/\o.dst=none/\Mz x=true:=by
 unfold storeAt at h;split at h
 ·rename_i ty b x a;split at h
  ·cases h;exact⟨ty,x,a,by assumption,by assumption,by assumption⟩
  ·cases h
 ·cases h
theorem zM {o:Oper} {d:Nat} (h:storeAt o=some d):cls o=2:=by
 obtain⟨ty,x,a,_⟩:=pz h;unfold cls;rw[a]
theorem Hz {o:Oper} {d:Nat} (hs:storeAt o=some d) {call:Call} {t:Tm} {h h':Hp} {v:V} (hv:(FB o).f call t h=some (v,h')) :
  v = .undef/\∃l off e sz cs mR,jl t d = .ptr l off/\h.get l=some (.cells e sz true false cs)/\h' = h.put l (.cells e sz true false mR)/\
   ∀b:Hp,b.get l=h.get l->(FB o).f call t b=some (.undef,b.put l (.cells e sz true false mR)):=by
 obtain⟨ty,x,m,_,_,hx⟩:=pz hs;have i:=zM hs
 have c:∀h,(FB o).f call t h=oB ((jz o).f t h) λr=>match r with
   | .val v h=>some (v,h)
   | .call f args=>call f args h:=by
  intro h;unfold FB;split
  ·rename_i h0;rw[i]at h0;cases h0
  ·rename_i h0;rw[i]at h0;cases h0
  ·rfl
 rw[c,fj]at hv;obtain⟨r,b,y⟩:=hv
 have u:∀h,(jz o).f t h=match wU ty with
   |some n=>oB ((rB (.tmp d)).f t h) λa=>oB ((rB x).f t h) λv=>xJ a λl off=>bB (Nat.beq v.cells.length n) (oB (CB h l off v.cells) λh=>some (.val .undef h))
   |none=>none:=by
  intro h;unfold jz;rw[m];simp only;generalize wU ty=z;cases z <;> rfl
 rw[u]at b
 cases hn:wU ty with
 |none=>rw[hn]at b;cases b
 | some n=>
   rw[hn]at b;simp only[fj,uc,gM]at b;obtain⟨a,A,vv,p,l,off,rfl,hlen,C,g,B⟩:=b;cases B;cases y;have j:jl t d = .ptr l off:=Option.some.inj (show some (jl t d)=some (V.ptr l off) from A);unfold CB at g;simp only[j8,gM,fj,X9]at g;obtain⟨e,sz,live,ro,cs,w,rfl,rfl,k,mR,q,GD⟩:=g;cases GD;refine⟨rfl,l,off,e,sz,cs,mR,j,w,rfl,λb s=>?_⟩;rw[c,fj];refine⟨.val .undef (b.put l (.cells e sz true false mR)),?_,rfl⟩;rw[u,hn];simp only[fj,uc,gM];refine⟨.ptr l off,by rw[<-j];rfl,vv,by rw[iE hx t b h];exact p,l,off,rfl,hlen,b.put l (.cells e sz true false mR),?_,rfl⟩;unfold CB;simp only[j8,gM,fj,X9];exact⟨e,sz,true,false,cs,by rw[s];exact w,rfl,rfl,k,mR,q,rfl⟩
theorem KI:∀{l:List It} {a b:It},Jn l=some (a,b)->∃p,l.length=p+2/\l[p]? =some a/\l[p+1]? =some b
 |[],_,_,h=>by cases h
 |[_],_,_,h=>by cases h
 |[x,y],a,b,h=>by cases h;exact⟨0,rfl,rfl,rfl⟩
 | _::y::z::l,a,b,h=>by
   obtain⟨p,c,d,e⟩:=KI (l:=y::z::l) h;exact⟨p+1,by simp only[CM]at c⊢;omega,by simpa using d,by simpa using e⟩
theorem Ff:∀{l:List It},FI l=true->∀(q:Nat) (a b:It),l[q]? =some a->l[q+1]? =some b->q+2<l.length->b.b.testBit a.i=true/\(q+3=l.length->∀c,l[q+2]? =some c->c.b.testBit a.i=true)
 |[],_,q,a,b,h,_,_=>by simp at h
 |[x],_,q,a,b,_,h,_=>by simp at h
 |[x,y],_,q,a,b,_,_,h=>by simp only[CM,VR]at h;omega
 | x::y::z::l,hc,0,a,b,d,f,_=>by
   simp at d f;subst d;subst f;simp only[FI,tN]at hc;refine⟨hc.1.1,λk c g=>?_⟩;simp at g;subst g;have:l=[]:=Rf (by have e:(x::y::z::l).length=l.length+3:=rfl;omega);subst this
   exact hc.1.2
 | x::y::z::l,hc,q+1,a,b,d,f,m=>by
   simp only[FI,tN]at hc;have:=Ff (l:=y::z::l) hc.2 q a b (by rw[O8]at d;exact d) (by rw[O8]at f;exact f) (by have e:(x::y::z::l).length=(y::z::l).length+1:=rfl;omega);refine⟨this.1,λk c j=>this.2 (by have e:(x::y::z::l).length=(y::z::l).length+1:=rfl;omega) c (by rw[show q+1+2=(q+2)+1 by omega,O8]at j;exact j)⟩
theorem Oc {jA ws:List It} {a b:It} {da db:Nat} (h:GH jA ws=some (a,b,da,db)) :
  Jn ws=some (a,b)/\storeAt a.o=some da/\storeAt b.o=some db/\fixed jA a=true/\fixed jA b=true/\Na jA a b=true/\FI ws=true:=by
 unfold GH at h;split at h
 ·rename_i j k d;split at h
  ·rename_i e f g i;split at h
   ·rename_i c;cases h;simp only[tN]at c;exact⟨d,g,i,c.1.1.1,c.1.1.2,c.1.2,c.2⟩
   ·cases h
  ·cases h
 ·cases h
structure Zz (n:Nat) (ops:Array Oper) (t0:Tm) (h0:Hp) (Δ0:Env) (w0:World) (T:Tc) (c:Nat) (e:Hp) (b:Array Bool) (Δ:Env) (t:Tm) (a:Act) (w:World):Prop where
 size:b.size=ops.size
 closed:yy (iy ops) (λi=>b.getD i false)
 ahead:∀x∈gK (iy ops),(b.getD x.i false=true↔x.i≠c)
 tmps:TR Δ n t a
 oA:∀d,jl t d=pP T.val (λi=>b.getD i false) d (iy ops) (jl t0 d)
 world:WR Δ e w
 frame:FR Δ0 Δ w0 w
 none:∀l,Δ0 l = .none->l<h0.next->Δ l = .none
 defers:t.ds=t0.ds
section
variable{a b:It}{da db p:Nat}
structure zaF (ops:Array Oper) (T:Tc) (a b:It) (da db p:Nat) (r:Tm×Hp):Prop where
 len:(gK (iy ops)).length=p+2
 ga:(gK (iy ops))[p]? =some a
 gb:(gK (iy ops))[p+1]? =some b
 sa:storeAt a.o=some da
 sb:storeAt b.o=some db
 fa:fixed (iy ops) a=true
 fb:fixed (iy ops) b=true
 op:Na (iy ops) a b=true
 ch:FI (gK (iy ops))=true
 apart:UA (jl r.1 da) (jl r.1 db)=true
theorem LD (h:Na (iy ops) a b=true) {x:It} (hx:x∈iy ops) (d:x.i≠a.i) (hb:x.i≠b.i) (e:¬(a.b.testBit x.i=true/\b.b.testBit x.i=true)) :
  cls x.o=0/\DM x.o=true/\x.o.guard=none/\x.b.testBit a.i=false/\x.b.testBit b.i=false:=by
 have:=KQ.1 h x hx;simp only[K6,tN,X9,Option.isNone_iff_eq_none]at this;rcases this with((c|c)|c)|c
 ·exact absurd (tU c) d
 ·exact absurd (tU c) hb
 ·exact absurd c e
 ·exact⟨tU c.1.1.1.1,c.1.1.1.2,c.1.1.2,c.1.2,c.2⟩
theorem Ht {l:List It} (m:sk n ops.toList (iy ops) (gK (iy ops)) call t0 h0 l 0 0 h0 [] r T T) {x:It} (hx:x∈iy ops) (g:fixed (iy ops) x=true) {D:Nat->Bool} (h:∀y∈iy ops,x.b.testBit y.i=true->D y.i=true)
  {d:Nat} (j:d∈Ay x.o.op.operands.toList) (a:V):pP T.val D d (iy ops) a=pP T.val (λ_=>true) d (iy ops) a:=by
 refine pT (λy e c=>?_) (λ_ _ _ _=>rfl) a;have f:=KQ.1 (KQ.1 g d j) y e;have k:writes y.o [d]=true:=by simp[writes,c]
 rw[k]at f;exact h y e (by simpa using f)
theorem z9 {o:Oper} {d:Nat} (h:storeAt o=some d):d∈Ay o.op.operands.toList:=by
 obtain⟨ty,x,a,_⟩:=pz h;rw[a];simp[Op.operands,Ay]
end
section
variable{a b:It}{da db p:Nat}{l:List It}
theorem Uh {H b g:Hp} {la lb:Nat} {l ob:O} (c:la<H.next) (d:lb<H.next) (i:la≠lb) (m:A9 (H.put la l) b) (n:A9 (b.put lb ob) g):A9 ((H.put lb ob).put la l) g:=by
 have a:H.next<=b.next:=m.1;have j:b.next<=g.next:=n.1;refine⟨Ez a j,λx hx=>?_⟩;have f:x<H.next:=hx;rw[n.2 x (Ac f a)];rw[oE (h:=H.put lb ob) _ _ c,oE (h:=b) _ _ (Ac d a),oE (h:=H) _ _ d];rw[m.2 x f,oE (h:=H) _ _ c];by_cases k:la=x
 ·subst k;rw[if_pos rfl,if_pos rfl,if_neg (λe=>i e.symm)]
 ·rw[if_neg k,if_neg k]
theorem ZA (hc:uj call) (hp:pW (iy ops)=true) (aO:(iy ops).all (BN (iy ops))=true) (au:(iy ops).all zP=true) (hl:∀a∈l,a∈iy ops)
    (hT:sk n ops.toList (iy ops) (gK (iy ops)) call t0 h0 l 0 0 h0 [] r T T) (A:zaF ops T a b da db p r)
    (aP:r.1.ds=t0.ds) (hQ:∀Δ' a' w',Ag Δ0 h0 w0 n r.1 r.2 Δ' a' w'->Q .normal a' w') {la lb:Nat} {ob:O} (aQ:la<(T.H p).next) (aw:lb<(T.H p).next) (ax:la≠lb)
    (aR:∀t:Tm,jl t da=jl r.1 da->∃oa,(T.G p)=(T.H p).put la oa/\∀g:Hp,g.get la=(T.H p).get la->(∀x∈a.o.op.operands.toList,Alike t (T.tt a.i) x)->(FB a.o).f call t g=some (.undef,g.put la oa))
    (aS:T.G (p+1)=(T.H (p+1)).put lb ob) :
    ∀(fuel:Nat) (c:Array Bool) (m:Act) (w:World) (Δ:Env) (t:Tm),c.toList.count false<=fuel->Zz n ops t0 h0 Δ0 w0 T a.i ((T.H p).put lb ob) c Δ t m w->wpAny P0 .any ops Q fuel c m w:=by
  have ha:a∈iy ops:=(nf (mA.2 ⟨_,A.ga⟩)).1;have hb:b∈iy ops:=(nf (mA.2 ⟨_,A.gb⟩)).1;have aT:=zM A.sa;have aU:=zM A.sb;have aV:a.i≠b.i:=λe=>by
    have:=Dd A.ga A.gb e;omega
  have ay:a∈gK (iy ops):=mA.2 ⟨_,A.ga⟩;have aA:b∈gK (iy ops):=mA.2 ⟨_,A.gb⟩;have V:∀{c Δ t m w},Zz n ops t0 h0 Δ0 w0 T a.i ((T.H p).put lb ob) c Δ t m w->c.getD a.i false=false:=λk=>by
    cases h:Array.getD _ a.i false with
    |false=>rfl
    |true=>exact absurd rfl ((k.ahead a ay).1 h)
  have C:∀{c Δ t m w},Zz n ops t0 h0 Δ0 w0 T a.i ((T.H p).put lb ob) c Δ t m w->c.getD b.i false=true:=λk=>(k.ahead b aA).2 (λe=>aV e.symm);intro fuel
  induction fuel with
  | zero=>
    intro c m w Δ t aB k;exfalso;have g:=V k;have W:a.i<c.size:=by rw[k.size];exact(Rl.1 (J3 ha)).1
    have:false∈c.toList:=by
      have:c[a.i]=false:=by simpa[W]using g
      rw[<-this];simp
    have:=List.count_pos_iff.2 this
    omega
  | succ fuel ih=>
    intro c m w Δ t aB k;refine⟨λhr=>?_,λi hi=>?_⟩
    ·exfalso
     have aC : ∀i,i<ops.size->c.getD i false=true:=by
       intro i
       induction i using Nat.strongRecOn with
       | _ i aW=>
         intro hi
         cases ab:c.getD i false with
         |true=>rfl
         | false=>
           exfalso;have ho:ops[i]? =some ops[i]:=Array.getElem?_eq_getElem hi;obtain⟨x,hx,aX,aY,_⟩:=Kc ho;have L:i∈Region.ready .any ops c:=by
             rw[mem_ready];refine⟨?_,ops[i],ho,λe he aD=>?_⟩
             ·have:i<c.size:=by rw[k.size];exact hi
              simp[this]at ab⊢;exact ab
             ·have g:=KQ.1 au x hx
              unfold zP at g;rw[aY,aX]at g;have h2:=KQ.1 g e (by simpa using he);rw[<-DU,aD]at h2;simp only[X6,Bool.false_or,LS]at h2;exact aW e.on h2 (by omega)
           rw[hr]at L;cases L
     have:=aC a.i (Rl.1 (J3 ha)).1;rw[V k]at this;cases this
    rw[mem_ready]at hi;obtain⟨sr,o,ho,ac⟩:=hi;obtain⟨y,N,ae,E,al⟩:=Kc ho;have W:i<c.size:=by rw[k.size];exact(Rl.1 ho).1
    have u:c.getD y.i false=false:=by rw[ae];simp[W]at sr⊢;exact sr
    have F:∀x∈iy ops,y.b.testBit x.i=true->c.getD x.i false=true:=by
      intro x hx ab;obtain⟨e,he,aZ,g⟩:=KA al ab;rw[E]at he;have P:=ac e (by simpa using he) (by rw[DU];exact aZ);rcases g with g|⟨z,s,I⟩
      ·rw[g];exact P
      ·have a4:=rz _ _ s
       exact k.closed z (mA.2 ⟨_,s⟩) (by show c.getD z.i false=true;rw[a4];exact P) x hx I
    have ag:∀y∈iy ops,y∈l:=by
      intro y N;rcases hT.done y N with g|g
      ·simp at g
      ·obtain⟨b,hb,a5⟩:=K2.1 g
       rw[tS N (hl b hb) a5.symm];exact hb
    obtain ⟨D,J⟩:=hT.item y (ag y N);have ah:∀d,d∈oK y.o->jl t d=jl (T.tt y.i) d:=λd U=>by
      rw[k.oA d,J.oA d];exact Fi rz hp N k.closed J.closed F J.fe u J.fresh U _ _
    have M:∀x∈y.o.op.operands.toList,Alike t (T.tt y.i) x:=FH λd U=>ah d (by simp[oK,U]);obtain⟨d,U⟩:=J.dst;have X:∀i',(c.setIfInBounds i true).getD i' false=(c.getD i' false ||decide (y.i=i')):=λi'=>by
      by_cases e:i=i'
      ·subst e;simp[W,ae]
      ·rw[getD_set_ne false e]
       have:¬y.i=i':=by rw[ae];exact e
       simp[this]
    have Y:(c.setIfInBounds i true).toList.count false<=fuel:=by
      have g:c.toList[i]? =some false:=by
        rw[QM];have:c.getD y.i false=false:=u;rw[ae]at this;simpa[W]using this
      have:=count_set c.toList i g;rw[wBx];omega
    have B:yy (iy ops) (λi'=>(c.setIfInBounds i true).getD i' false):=by
      intro x hx R z s I;simp only[X,K6,DY]at R⊢;rcases R with R|R
      ·exact .inl (k.closed x hx R z s I)
      ·have:=tS N hx R
       subst this;exact .inl (F z s I)
    have K:∀d',jl (d.f t (T.val y.i)) d' = pP T.val (λi'=>(c.setIfInBounds i true).getD i' false) d' (iy ops) (jl t0 d'):=λd'=>by
      rw[Gx U,DT rz hp N k.closed u X (val:=T.val) (IW:=T.val) (λ_ _=>rfl) d' (jl t0 d'),k.oA d']
    have aE:h0.next<=(T.H p).next:=Ez hT.more.1 (CT hT.chain p p (by omega) (by have:=A.len;omega));have am:y.i≠a.i->cls y.o=0/\DM y.o=true/\y.o.guard=none/\y.b.testBit a.i=false/\y.b.testBit b.i=false:=λak=>by
      have a6:y.i≠b.i:=λe=>by rw[e,C k]at u;cases u
      refine LD A.op N ak a6 λ⟨_,Z⟩=>?_;have:=k.closed b hb (C k) y N Z;simp only at this;rw[u]at this;cases this
    by_cases hya:y.i=a.i
    ·
      have aF:=tS N ha hya;subst aF;have P:Region.wanted o (yielded ops m.tmps)=true:=by
        obtain⟨_,_,_,hg,_⟩:=pz A.sa;unfold Region.wanted;rw[<-E,hg]
      unfold wpOp;simp only[ho];rw[P];simp only[if_true];left;obtain⟨oa,a7,aG⟩:=aR t (by
        rw[k.oA da,hT.oA da];exact Ht hT N A.fa F (z9 A.sa) _)
      have an:=aG ((T.H p).put lb ob) (by rw[oE _ _ aw,if_neg (λe=>ax e.symm)]) M;rw[<-E];refine Lr hc k.world k.tmps an λΔ' x w' hA=>?_;rw[E];have hlen:=A.len;have aH:=hT.chain p (Gl _) (by omega);have ao:=hT.chain (p+1) (Gl _) (by omega);have hm:A9 (((T.H p).put lb ob).put la oa) (T.H (p+2)):=Uh aQ aw ax (by rw[<-a7];exact aH.2) (by rw[<-aS];exact ao.2);have ap:∀q z,(gK (iy ops))[q]? =some z->((c.setIfInBounds i true).getD z.i false=true↔q<p+2):=λq z s=>by
        have a8:=(iB.1 s).1;constructor
        ·intro _;omega
        ·intro _
         rw[X];by_cases e:z.i=y.i
         ·simp[e]
         ·rw[(k.ahead z (mA.2 ⟨_,s⟩)).2 e];rfl
      have bg:T.val y.i = .undef\/True:= .inr trivial;have aI:(d.f t (T.val y.i)).ds=t0.ds:=by rw[vZ U];exact k.defers
      have ai:y.o.dst=none:=by obtain⟨_,_,_,_,h5,_⟩:=pz A.sa;exact h5
      have a9:TR Δ' n (d.f t (T.val y.i)) (m.put o.dst x):=by
        have g:=Hq (k.tmps.mono hA.frame.le) U (v:= .undef) hA.val;rw[E]at g;have e:d.f t (T.val y.i)=d.f t .undef:=by
          unfold wX at U;rw[ai]at U;cases U;rfl
        rw[e];exact g
      refine Rh hc hp aO au (T:=T) (p+2) (λfuel c m w j Δ t a' hj _ ba bb aJ aq _ ak=>?_) hl hT aP hQ fuel _ _ _ (p+2) Δ' (d.f t (T.val y.i)) (iW _) Y
        ⟨by simp[k.size],B,by omega,ap,a9,K,hA.world.MT hm,k.frame.trans hA.frame,λl' g h2=>hA.grow.none _ (k.none l' g h2) (Ac h2 aE),aI,λz s aK bh S _=>?_⟩
      ·exfalso
       have L:a'∈gK (iy ops):=by unfold gK;rw[NA];exact⟨bb,by rw[aJ];rfl⟩
       obtain⟨q,hq⟩:=mA.1 L;have g:=(iB.1 hq).1;have:=(ba.ahead _ a' hq).2 (by omega);rw[aq]at this;cases this
      ·exfalso
       rw[X]at S;simp only[Bool.or_eq_false_iff,decide_eq_false_iff_not]at S;have I:z.i≠b.i:=λe=>by rw[e,C k]at S;cases S.1
       have:=LD A.op s (λe=>S.2 e.symm) I (λ⟨_,Z⟩=>by
         have:=k.closed b hb (C k) z s Z;simp only at this;rw[S.1]at this;cases this)
       rw[this.1]at aK;cases aK
    ·
      obtain⟨aj,A6,aL,bc,Z⟩:=am hya;have bd:oO n ops.toList y.o (T.tt y.i)=some true:=by unfold oO jX;rw[aL]
      have P:T.on y.i=true:=by
        have:=J.oO;rw[bd]at this;exact(Option.some.inj this).symm
      have aa:Region.wanted o (yielded ops m.tmps)=true:=by
        unfold Region.wanted;rw[<-E,aL]
      have hlen :=A.len;have be:T.ep y.i<=p:=by
        have g:=J.epw (by rw[aj];decide)
        cases he:T.ep y.i with
        |zero=>omega
        | succ e=>
          rw[he]at g;simp only[Ji]at g;split at g
          ·rename_i z s
           have a8:=(iB.1 s).1;rcases Nq e p with h|h
           ·omega
           ·exfalso
            have:e=p\/e=p+1:=by omega
            rcases this with e1|e1
            ·subst e1
             rw[A.ga]at s;cases s;rw[bc]at g;cases g
            ·subst e1
             rw[A.gb]at s;cases s;rw[Z]at g;cases g
          ·cases g
      have ar:p<=late (gK (iy ops)) y:=by
        rcases Nq (late (gK (iy ops)) y) p with h|h
        ·exfalso
         obtain ⟨z,s,I⟩:=HS (gK (iy ops)) y (by omega);have aM:z∈gK (iy ops):=mA.2 ⟨_,s⟩;have bf:z.i≠a.i:=λe=>by
           have:=Dd s A.ga e;omega
         have:=k.closed z (nf aM).1 ((k.ahead z aM).2 bf) y N I;simp only at this;rw[u]at this;cases this
        ·exact h
      have aN:=J.pure aj P p be (by omega) ar;rw[<-Fy (h:=T.H p) M,O1 A6 t _ ((T.H p).put lb ob)]at aN;have an:(FB y.o).f call t ((T.H p).put lb ob)=some (T.val y.i,(T.H p).put lb ob):=by
        unfold FB;rw[aj];simp only[fj];exact⟨_,aN,rfl⟩
      unfold wpOp;simp only[ho];rw[aa];simp only[if_true];left;rw[<-E];refine Lr hc k.world k.tmps an λΔ' x w' hA=>?_;rw[E];refine ih _ _ _ Δ' (d.f t (T.val y.i)) Y ⟨by simp[k.size],B,λz s=>?_,?_,K,hA.world,k.frame.trans hA.frame,λl' g h2=>hA.grow.none _ (k.none l' g h2) (Ac h2 aE),by rw[vZ U];exact k.defers⟩
      ·rw[X]
       have:¬y.i=z.i:=λe=>by
         have g:=tS N (nf s).1 e;subst g;have:=(nf s).2;rw[aj]at this;cases this
       simp only[this,decide_false,Bool.or_false];exact k.ahead z s
      ·have g:=Hq (k.tmps.mono hA.frame.le) U hA.val
       rw[E]at g;exact g
end
section
variable{a b:It}{da db p:Nat}{l:List It}
theorem Uz (hc:uj call) (hp:pW (iy ops)=true) (aF:(iy ops).all (BN (iy ops))=true) (aG:(iy ops).all zP=true) (hl:∀a∈l,a∈iy ops)
  (M:sk n ops.toList (iy ops) (gK (iy ops)) call t0 h0 l 0 0 h0 [] r T T) (g:zaF ops T a b da db p r)
  (aH:r.1.ds=t0.ds) (hQ:∀Δ' a' w',Ag Δ0 h0 w0 n r.1 r.2 Δ' a' w'->Q .normal a' w')
  (fuel:Nat) (c:Array Bool) (N:Act) (w:World) (j:Nat) (Δ:Env) (t:Tm) (y:It) (_:0<=j) (a6:c.toList.count false<=fuel+1) (u:Inv n ops t0 h0 Δ0 w0 T c j Δ t N w) (S:y∈iy ops)
  (ae:cls y.o=2) (E:c.getD y.i false=false) (m:∀x∈iy ops,y.b.testBit x.i=true->c.getD x.i false=true) (aI:(gK (iy ops))[j]?≠some y) :
  wpOp P0 ops Q y.i (wpAny P0 .any ops Q fuel (c.setIfInBounds y.i true)) N w:=by
 have hlen:=g.len;have ha:a∈iy ops:=(nf (mA.2 ⟨_,g.ga⟩)).1;have hb:b∈iy ops:=(nf (mA.2 ⟨_,g.gb⟩)).1;have an:y∈gK (iy ops):=by unfold gK;rw[NA];exact⟨S,by rw[ae];rfl⟩
 obtain ⟨q,hq⟩:=mA.1 an;have bc:=(iB.1 hq).1;have bd:¬q<j:=λh=>by
  have:=(u.ahead _ y hq).2 h;rw[E]at this;cases this
 have be:q≠j:=λe=>aI (by rw[<-e];exact hq);have aJ:q=p+1/\j=p:=by
  obtain⟨e,rfl⟩:∃e,q=e+1:=⟨q-1,by omega⟩
  have Y:e<(gK (iy ops)).length:=by omega
  have hg:=gQ Y;rcases Nq e p with h|h
  ·exfalso;have ag:=(Ff g.ch e _ y hg hq (by omega)).1;have:=(u.ahead e _ hg).1 (m _ (nf (AO Y)).1 ag);omega
  ·have he:e=p:=by omega
   subst he;refine⟨rfl,?_⟩;rcases Nq j e with h2|h2
   ·exfalso;obtain⟨f,rfl⟩:∃f,e=f+1:=⟨e-1,by omega⟩
    have ao:f<(gK (iy ops)).length:=by omega
    have ap:=gQ ao;have ag:=(Ff g.ch f _ a ap g.ga (by omega)).2 (by omega) y hq;have:=(u.ahead f _ ap).1 (m _ (nf (AO ao)).1 ag);omega
   ·omega
 obtain⟨rfl,rfl⟩:=aJ;have aK:y=b:=by rw[g.gb]at hq;cases hq;rfl
 subst aK;have F:∀y∈iy ops,y∈l:=by
  intro y S;rcases M.done y S with s|s
  ·simp at s
  ·obtain⟨b,hb,aL⟩:=K2.1 s;rw[tS S (hl b hb) aL.symm];exact hb
 obtain ⟨D,A⟩:=M.item y (F y S);obtain⟨Da,B⟩:=M.item a (F a ha);have O:=zM g.sa;have epw:∀{x:It} {D:Nat->Bool} {k:Nat},Kz n ops.toList (iy ops) (gK (iy ops)) call t0 h0 T D x->cls x.o=2->(gK (iy ops))[k]? =some x->T.ep x.i=k:=λ{x D k} hx aM aN=>by
  have s:=(hx.write aM).1;unfold Yf at s;split at s
  ·rename_i z hz;exact Dd hz aN (tU s)
  ·cases s
 have aq:=epw A ae g.gb;have ar:=epw B O g.ga;have Z:∀{x:It} {D:Nat->Bool} {d:Nat},Kz n ops.toList (iy ops) (gK (iy ops)) call t0 h0 T D x->storeAt x.o=some d->T.on x.i=true:=λ{x D d} hx hs=>by
  obtain⟨_,_,_,hg,_⟩:=pz hs;have:=hx.oO;unfold oO jX at this;rw[hg]at this;exact(Option.some.inj this).symm
 have G:∀d,d∈oK y.o->jl t d=jl (T.tt y.i) d:=λd L=>by
  rw[u.oA d,A.oA d];exact Fi rz hp S u.closed A.closed m A.fe E A.fresh L _ _
 have U:∀x∈y.o.op.operands.toList,Alike t (T.tt y.i) x:=FH λd L=>G d (by simp[oK,L]);have aa:=(B.write O).2.1 (Z B g.sa);rw[ar]at aa;obtain⟨_,la,a7,ea,aO,bf,au,aP,aQ,ah,ai⟩:=Hz g.sa aa;have I:=(A.write ae).2.1 (Z A g.sb);rw[aq]at I;obtain⟨_,lb,a8,eb,bg,bh,a9,bi,bj,bm,_⟩:=Hz g.sb I;rw[<-JC (h:=T.H (j+1)) U]at I;obtain⟨_,C,aR,aS,aw,ba,aj,ab,bb,ax,ak⟩:=Hz g.sb I;have e1:=G db (by simp[oK,z9 g.sb]);have aT:jl (T.tt a.i) da=jl r.1 da:=by
  rw[B.oA da,M.oA da];exact Ht M ha g.fa B.fe (z9 g.sa) _
 have aU:jl t db=jl r.1 db:=by
  rw[u.oA db,M.oA db];exact Ht M S g.fb m (z9 g.sb) _
 have ay:la≠C:=λe=>by
  have:=g.apart;rw[<-aT,<-aU,aP,ab,e]at this;have h2:(!(Nat.beq C C))=true:=this;rw[MV]at h2;cases h2
 have aA:la<(T.H j).next:=Hp.KV aQ;have aB:C<(T.H j).next:=by
  have s:=u.tmps.rel db;rw[ab]at s
  cases hx:N.tmps.getD db undef with
  | pointer p=>
    rw[hx]at s
    cases s with
    |ptr _ _ d L=>exact u.world.fresh _ _ L
  |_=>rw[hx]at s;cases s
 have aV:=M.chain j (Gl _) (by omega);have aC:(T.H j).get C=(T.H (j+1)).get C:=by
  rw[aV.2.2 C (by rw[ah];exact aB),ah,oE _ _ aA,if_neg ay]
 have aW:=ak (T.H j) aC;have ac:=J3 S;have P:Region.wanted y.o (yielded ops N.tmps)=true:=by
  obtain⟨_,_,_,hg,_⟩:=pz g.sb;unfold Region.wanted;rw[hg]
 obtain⟨d,L⟩:=A.dst;have aD:y.i<c.size:=by rw[u.size];exact(Rl.1 ac).1
 have al:∀V,(c.setIfInBounds y.i true).getD V false=(c.getD V false ||decide (y.i=V)):=λV=>by
  by_cases e:y.i=V
  ·rw[<-e];simp[aD]
  ·rw[getD_set_ne false e];simp[e]
 have am:(c.setIfInBounds y.i true).toList.count false<=fuel:=by
  have s:c.toList[y.i]? =some false:=by
   rw[QM];simpa[aD]using E
  have:=count_set c.toList y.i s;rw[wBx];omega
 have J:yy (iy ops) (λV=>(c.setIfInBounds y.i true).getD V false):=by
  intro x hx K z hz aE;simp only[al,K6,DY]at K⊢;rcases K with K|K
  ·exact .inl (u.closed x hx K z hz aE)
  ·have:=tS S hx K;subst this;exact .inl (m z hz aE)
 have R:∀d',jl (d.f t (T.val y.i)) d' = pP T.val (λV=>(c.setIfInBounds y.i true).getD V false) d' (iy ops) (jl t0 d'):=λd'=>by
  rw[Gx L,DT rz hp S u.closed E al (val:=T.val) (IW:=T.val) (λ_ _=>rfl) d' (jl t0 d'),u.oA d']
 have aX:h0.next<=(T.H j).next:=Ez M.more.1 (CT M.chain j j (by omega) (by omega));unfold wpOp;simp only[ac];rw[P];simp only[if_true];left;refine Lr hc u.world u.tmps aW λΔ' x w' hA=>?_;have W:y.o.dst=none:=by obtain⟨_,_,_,_,h5,_⟩:=pz g.sb;exact h5
 have aY:TR Δ' n (d.f t (T.val y.i)) (N.put y.o.dst x):=by
  have s:=Hq (u.tmps.mono hA.frame.le) L (v:= .undef) hA.val;have e:d.f t (T.val y.i)=d.f t .undef:=by
   unfold wX at L;rw[W]at L;cases L;rfl
  rw[e];exact s
 refine ZA hc hp aF aG hl M g aH hQ (la:=la) (lb:=C) (ob:= .cells aS aw true false aj) aA aB ay (λt' bn=>⟨.cells ea aO true false au,ah,λs aZ a4=>?_⟩) ax fuel _ _ _ Δ' (d.f t (T.val y.i)) am
  ⟨by simp[u.size],J,λz hz=>?_,aY,R,hA.world,u.frame.trans hA.frame,λl' s h2=>hA.grow.none _ (u.none l' s h2) (Ac h2 aX),by rw[vZ L];exact u.defers⟩
 ·rw[JC (h:=s) a4];exact ai s aZ
 ·obtain ⟨k,X⟩:=mA.1 hz;have bo:=(iB.1 X).1;rw[al];simp only[K6,DY,u.ahead k z X];constructor
  ·rintro(h|h)
   ·intro e;have:=Dd X g.ga e;omega
   ·intro e;have h3:=Dd X g.ga e;have h4:=Dd X g.gb h.symm;omega
  ·intro a5;rcases Nq k j with h|h
   ·exact .inl h
   ·right;have bp:k≠j:=λe=>by
     subst e;rw[g.ga]at X;cases X;exact a5 rfl
    have:k=j+1:=by omega
    subst this;rw[g.gb]at X;cases X;rfl
end
end
