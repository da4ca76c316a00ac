/- Parts. -/
import Derived.Test.YtkpicojjjifmgabGreatDoorM04
set_option maxHeartbeats 4000000
namespace Go.Proofs.YtkpicojjjifmgabGreatDoor.Hx
theorem Ls:∀(ws:List It) (a:It),late ws a<ws.length->∃w,ws[late ws a]? =some w/\w.b.testBit a.i=true
 |[],a,h=>by simp_all
 | w ::ws,a,h=>by
   unfold late at h⊢;split
   ·simp_all
   ·rename_i hb
    simp only[hb,Rt]at h;obtain⟨w',c,d⟩:=Ls ws a (by omega)
    simp_all
theorem LN:∀{l:List It},Hy l=true->∀(q:Nat) (a b:It),l[q]? =some a->l[q+1]? =some b->b.b.testBit a.i=true
 |[],_,q,a,b,h,_=>by simp_all
 |[x],_,q,a,b,_,h=>by simp_all
 | x::y::l,hc,0,a,b,c,d=>by
   simp_all[Hy,vH]
 | x::y::l,hc,q+1,a,b,c,d=>by
   simp only[Hy,vH]at hc;exact LN (l:=y::l) hc.2 q a b (by simp_all) (by simp_all)
theorem count_set:∀(l:List Bool) (i:Nat),l[i]? =some false->(l.set i true).count false<l.count false
 |[],i,h=>by simp_all
 |b::l,0,h=>by simp_all
 | b::l,i+1,h=>by
   grind
theorem RD{n:Nat} {all:List Oper} {o:Oper} {t t':Tm} (h:∀j w a d,o.guard=some (j,w)->all[j]? =some a->a.dst=some d->kj t d=kj t' d):qJ n all o t=qJ n all o t':=by
 unfold qJ lP
 grind
theorem QQ{Δ:Env} {n:Nat} {t:Tm} {a:Act} (c:TR Δ n t a) {ops:Array Oper} {o:Oper} {b:Bool} (h:qJ n ops.toList o t=some b):Region.wanted o (yielded ops a.tmps)=b:=by
 grind[qJ,PJ,Pd]
section
variable{n:Nat}{ops:Array Oper}{call:Call}{t0:Tm}{h0:Hp}{Δ0:Env}{w0:World}{T:Tc}{r:Tm×Hp}{Q:Exit->Act->World->Prop}
abbrev jc(ops:Array Oper):List It:=items ops.toList 0 []
theorem vn(k:Nat) (x:It) (h:(jc ops)[k]? =some x):x.i=k:=by
 have:=(DA _ _ _ _ _ h).1;omega
theorem xG{x y:It} (hx:x∈jc ops) (a:y∈jc ops) (h:x.i=y.i):x=y:=by
 grind[oY,vn]
theorem NG{x:It} (hx:x∈jc ops):ops[x.i]? =some x.o:=by
 obtain⟨i,hi⟩:=oY.1 hx;have a:=vn i x hi;have b:=(DA _ _ _ _ _ hi).2
 simp_all
theorem NI{i:Nat} {o:Oper} (h:ops[i]? =some o):∃a,a∈jc ops/\a.i=i/\a.o=o/\(jc ops)[i]? =some a:=by
 have c:i<ops.size:=by grind
 have b:i<(jc ops).length:=by rw[Ke];simpa using c
 have d:(jc ops)[i]? =some (jc ops)[i]:=by simp_all
 refine⟨(jc ops)[i],AY b,vn _ _ d,?_,d⟩;have e:=(DA _ _ _ _ _ d).2
 simp_all
theorem rG{x:It} (h:x∈hZ (jc ops)):x∈jc ops/\cls x.o=2:=by
 grind[hZ,Cr]
theorem WG:(hZ (jc ops)).Pairwise λa b=>a.i<b.i:=by
 unfold hZ;refine List.Pairwise.filter _ ?_;rw[wA5];intro i j hi c d;have e:=vn (ops:=ops) i _ (iy hi);have f:=vn (ops:=ops) j _ (iy c);omega
theorem Lu{q a:Nat} {x y:It} (hq:(hZ (jc ops))[q]? =some x) (b:(hZ (jc ops))[a]? =some y) (h:x.i=y.i):q=a:=by
 grind[WG,wA5,ki,wBi]
structure Inv (n:Nat) (ops:Array Oper) (t0:Tm) (h0:Hp) (Δ0:Env) (w0:World) (T:Tc) (b:Array Bool) (j:Nat) (Δ:Env) (t:Tm) (a:Act) (w:World):Prop where
 size:b.size=ops.size
 closed:Ba (jc ops) (λi=>b.getD i false)
 Ym:j<=(hZ (jc ops)).length
 ahead:∀q x,(hZ (jc ops))[q]? =some x->(b.getD x.i false=true↔q<j)
 tmps:TR Δ n t a
 qd:∀d,kj t d=rk T.val (λi=>b.getD i false) d (jc ops) (kj t0 d)
 world:WR Δ (T.H j) w
 frame:FR Δ0 Δ w0 w
 none:∀l,Δ0 l = .none->l<h0.next->Δ l = .none
 defers:t.ds=t0.ds
 ze5:∀x∈jc ops,cls x.o=1->T.on x.i=true->b.getD x.i false=false->T.ep x.i<=j->Δ (T.pl x.i) = .none
theorem VW(hc:xe call) (hp:rY (jc ops)=true) (aY:(jc ops).all (EM (jc ops))=true) (aZ:(jc ops).all Cg=true)
  (j0:Nat) (bC:∀(fuel:Nat) (c:Array Bool) (W:Act) (w:World) (j:Nat) (Δ:Env) (t:Tm) (a:It),j0<=j->c.toList.count false<=fuel+1->Inv n ops t0 h0 Δ0 w0 T c j Δ t W w->a∈jc ops->cls a.o=2->c.getD a.i false=false->
   (∀x∈jc ops,a.b.testBit x.i=true->c.getD x.i false=true)->(hZ (jc ops))[j]?≠some a->wpOp P0 ops Q a.i (wpAny P0 .any ops Q fuel (c.setIfInBounds a.i true)) W w)
  {l:List It} (hl:∀a∈l,a∈jc ops) (L:vj n ops.toList (jc ops) (hZ (jc ops)) call t0 h0 l 0 0 h0 [] r T T)
  (a4:r.1.ds=t0.ds) (hQ:∀C a' w',CD Δ0 h0 w0 n r.1 r.2 C a' w'->Q .normal a' w') :
  ∀(fuel:Nat) (c:Array Bool) (a:Act) (w:World) (j:Nat) (Δ:Env) (t:Tm),j0<=j->c.toList.count false<=fuel->Inv n ops t0 h0 Δ0 w0 T c j Δ t a w->wpAny P0 .any ops Q fuel c a w:=by
 have X:∀(c:Array Bool),c.size=ops.size->Region.ready .any ops c=[]->∀x∈jc ops,c.getD x.i false=true:=by
  intro c bD hr;have a5:∀i,i<ops.size->c.getD i false=true:=by
   intro i
   induction i using Nat.strongRecOn with
   | _ i ih=>
     intro hi
     cases hb:c.getD i false with
     |true=>rfl
     | false=>
       exfalso;have ho:ops[i]? =some ops[i]:=Array.getElem?_eq_getElem hi;obtain⟨x,hx,a6,a7,_⟩:=NI ho;have aw:i∈Region.ready .any ops c:=by
         rw[mem_ready];refine⟨?_,ops[i],ho,λe he a8=>?_⟩
         ·simp_all
         ·have p:=Rp.1 aZ x hx
          unfold Cg at p;rw[a7,a6]at p;have v:=Rp.1 p e (by simpa using he);rw[<-Hk,a8]at v;simp only[wB3,Bool.false_or,Qq]at v;exact ih e.on v (by omega)
       rw[hr]at aw;cases aw
  intro x hx;exact a5 x.i (X1.1 (NG hx)).1
 have N:∀(c:Array Bool) (a:Act) (w:World) (j:Nat) (Δ:Env) (t:Tm),Inv n ops t0 h0 Δ0 w0 T c j Δ t a w->(∀x∈jc ops,c.getD x.i false=true)->Q .normal a w:=by
  intro c a w j Δ t k O;have hj:j=(hZ (jc ops)).length:=by
   rcases Tj j (hZ (jc ops)).length with h|h
   ·have hg:=iy h;have:=(k.ahead j _ hg).1 (O _ (rG (AY h)).1);omega
   ·have:=k.Ym;omega
  subst hj;refine hQ Δ a w ⟨⟨k.tmps.size,λi=>?_,by rw[a4,<-k.defers];exact k.tmps.ds⟩,by rw[L.last];exact k.world,k.frame,⟨?_,k.none⟩⟩
  ·have p:=k.tmps.rel i;rw[k.qd i,rA (D':=λ_=>true) (OT:=T.val) (λx hx _=>O x hx) (λ_ _ _ _=>rfl),<-L.qd i]at p;exact p
  ·rw[L.last];exact KG L.more.1 (GK L.chain _ _ (by rw[zO]) (jO _))
 intro fuel
 induction fuel with
 | zero =>
   intro c a w j Δ t _ aL k;have O:∀x∈jc ops,c.getD x.i false=true:=by
     intro x hx;have Y:x.i<c.size:=by rw[k.size];exact(X1.1 (NG hx)).1
     cases hb:c.getD x.i false with
     |true=>rfl
     | false=>
       exfalso;have:false∈c.toList:=by
         have:c[x.i]=false:=by simpa[Y]using hb
         rw[<-this];simp
       have:=List.count_pos_iff.2 this;omega
   refine⟨?_,N _ _ _ _ _ _ k O⟩;rw[List.eq_nil_iff_forall_not_mem]
   grind[mem_ready,NI,X1]
 | succ fuel ih=>
   intro c W w j Δ t a9 aL k;refine⟨λhr=>N _ _ _ _ _ _ k (X _ k.size hr),λi hi=>?_⟩;rw[mem_ready]at hi;obtain⟨qf,o,ho,am⟩:=hi;obtain⟨a,ha,ay,E,aA⟩:=NI ho;have Y:i<c.size:=by rw[k.size];exact(X1.1 ho).1
   have P:c.getD a.i false=false:=by rw[ay];simp[Y]at qf⊢;exact qf
   have R:∀x∈jc ops,a.b.testBit x.i=true->c.getD x.i false=true:=by
     intro x hx hb;obtain⟨e,he,ba,p⟩:=Nq aA hb;rw[E]at he;have F:=am e (by simpa using he) (by rw[Hk];exact ba);rcases p with p|⟨y,A,aB⟩
     ·rw[p];exact F
     ·have bE:=vn _ _ A
      exact k.closed y (oY.2 ⟨_,A⟩) (by simp_all) x hx aB
   by_cases hez:cls a.o=2/\(hZ (jc ops))[j]?≠some a
   ·grind
   obtain ⟨D,u⟩:∃D,NU n ops.toList (jc ops) (hZ (jc ops)) call t0 h0 T D a:=by
     rcases L.done a ha with p|p
     ·simp at p
     ·obtain⟨b,hb,aC⟩:=MI.1 p
      rw[xG ha (hl b hb) aC.symm];exact L.item b hb
   have I:∀y∈jc ops,y∈l:=by
     intro y A;rcases L.done y A with p|p
     ·simp at p
     ·grind[xG]
   have bb:=I a ha;have an:∀d,d∈qK a.o->kj t d=kj (T.tt a.i) d:=λd hd=>by
     rw[k.qd d,u.qd d];exact Jp vn hp ha k.closed u.closed R u.fi P u.fresh hd _ _
   have J:∀x∈a.o.op.operands.toList,Alike t (T.tt a.i) x:=Jq λd hd=>an d (by simp[qK,hd]);have ao:qJ n ops.toList a.o t=some (T.on a.i):=by
     rw[<-u.qJ];refine RD λjg wg oj d hg hj hd=>?_;have B:=Rp.1 aY a ha;unfold EM at B;rw[hg]at B;simp only at B
     cases hjt:(jc ops)[jg]? with
     |none=>rw[hjt]at B;cases B
     | some g=>
       rw[hjt]at B;simp only at B;have bc:g.o=oj:=by
         have:=(DA _ _ _ _ _ hjt).2;rw[hj]at this;cases this;rfl
       rw[bc,hd]at B;simp only[vH]at B;obtain⟨ax,aD⟩:=B;have aM:=vn _ _ hjt;have bd:g∈jc ops:=oY.2 ⟨_,hjt⟩;rw[k.qd d,u.qd d];refine rA (λx hx be=>?_) (λ_ _ _ _=>rfl) _;have p:=Rp.1 aD x hx;rw[be]at p;have v:x.i=jg:=by simpa using p
       have S:x=g:=xG hx bd (by omega);subst S;rw[R x hx (by rw[aM];exact ax),u.fi x hx (by rw[aM];exact ax)]
   have Z:Region.wanted o (yielded ops W.tmps)=T.on a.i:=by rw[<-E];exact QQ k.tmps ao
   obtain ⟨d,hd⟩:=u.dst;have aa:∀i',(c.setIfInBounds i true).getD i' false=(c.getD i' false ||decide (a.i=i')):=λi'=>by
     by_cases e:i=i'
     ·subst e;simp[Y,ay]
     simp_all
   have aE:(c.setIfInBounds i true).toList.count false<=fuel:=by
     have p:c.toList[i]? =some false:=by
       rw[wBD];have:c.getD a.i false=false:=P;rw[ay]at this;simpa[Y]using this
     have:=count_set c.toList i p;rw[Array.toList_setIfInBounds];omega
   have U:Ba (jc ops) (λi'=>(c.setIfInBounds i true).getD i' false):=by
     intro x hx ab y A aB;simp only[aa,KO,CU]at ab⊢;rcases ab with ab|ab
     ·exact .inl (k.closed x hx ab y A aB)
     ·grind[xG]
   have ac:∀d',kj (d.f t (T.val a.i)) d' = rk T.val (λi'=>(c.setIfInBounds i true).getD i' false) d' (jc ops) (kj t0 d'):=λd'=>by
     rw[Kz hd,HH vn hp ha k.closed P aa (val:=T.val) (OT:=T.val) (λ_ _=>rfl) d' (kj t0 d'),k.qd d']
   have next:∀(j':Nat) (C:Env) (x:Value) (w':World),fR C (T.val a.i) x->WR C (T.H j') w'->FR Δ C w w'->j'<=(hZ (jc ops)).length->
       (∀q y,(hZ (jc ops))[q]? =some y->((c.setIfInBounds i true).getD y.i false=true↔q<j'))->
       (∀y∈jc ops,cls y.o=1->T.on y.i=true->(c.setIfInBounds i true).getD y.i false=false->T.ep y.i<=j'->C (T.pl y.i)=none)->
       (∀l,Δ0 l=none->l<h0.next->C l=none)->wpAny P0 .any ops Q fuel (c.setIfInBounds i true) (W.put o.dst x) w':=by
     intro j' C x w' bf bg aN bh ae ap aq;have bi:j<=j':=by
       rcases Tj j' j with h|h
       ·exfalso
        have aO:j' < (hZ (jc ops)).length:=by have:=k.Ym;omega
        have hg:=iy aO;have p:=(k.ahead j' _ hg).2 h
        grind
       ·exact h
     refine ih _ _ _ j' C (d.f t (T.val a.i)) (KG a9 bi) aE ⟨by simp[k.size],U,bh,ae,?_,ac,bg,k.frame.trans aN,aq,by rw[zg hd];exact k.defers,ap⟩;have:=K0 (k.tmps.mono aN.le) hd bf;rw[E]at this;exact this
   have aP:h0.next<=(T.H j).next:=KG L.more.1 (GK L.chain j j (by omega) k.Ym);have ag:j<=late (hZ (jc ops)) a:=by
     rcases Tj (late (hZ (jc ops)) a) j with h|h
     ·exfalso
      obtain⟨x,hx,bj⟩:=Ls (hZ (jc ops)) a (by have:=k.Ym;omega);have p:=(k.ahead _ x hx).2 h;have:=k.closed x (rG (oY.2 ⟨_,hx⟩)).1 p a ha bj
      grind
     ·exact h
   have still:cls a.o≠2->∀q y,(hZ (jc ops))[q]? =some y->((c.setIfInBounds i true).getD y.i false=true↔q<j):=by
     intro ar q y hq;rw[aa,<-k.ahead q y hq];have A:=rG (oY.2 ⟨_,hq⟩);have:¬a.i=y.i:=by grind[xG]
     simp[this]
   have aF:cls a.o≠2->T.ep a.i<=j:=by
     intro ar;have p:=u.epw ar
     cases he:T.ep a.i with
     |zero=>omega
     | succ e=>
       rw[he]at p;simp only[MQ]at p
       grind[rG,oY]
   have s:∀y∈jc ops,cls y.o=1->T.on y.i=true->(c.setIfInBounds i true).getD y.i false=false->T.ep y.i<=j->Δ (T.pl y.i)=none/\y.i≠a.i:=by
     intro y A p v S h4;rw[aa]at S;simp only[Bool.or_eq_false_iff,decide_eq_false_iff_not]at S;exact⟨k.ze5 y A p v S.1 h4,λe=>S.2 e.symm⟩
   have K:∀y∈jc ops,cls y.o=1->T.on y.i=true->T.ep y.i<=j->T.pl y.i<(T.H j).next:=by
     intro y A p v S;rcases L.done y A with h4|h4
     ·simp at h4
     ·obtain⟨b,hb,aC⟩:=MI.1 h4
      have:=xG A (hl b hb) aC.symm;subst this;obtain⟨_,ah⟩:=L.item y hb;exact((ah.alloc p v).2.1 j S k.Ym).1
   have aG:cls a.o=2->isW (hZ (jc ops)) a (T.ep a.i)=true->T.ep a.i=j/\(hZ (jc ops))[j]? =some a:=by
     intro _ hw;unfold isW at hw;split at hw
     ·rename_i x hx
      have bm:=xG (rG (oY.2 ⟨_,hx⟩)).1 ha (Cr hw);subst bm;have aQ:(hZ (jc ops))[j]? =some x:=by
        apply Classical.byContradiction;intro ar;exact hez ⟨(rG (oY.2 ⟨_,hx⟩)).2,ar⟩
      exact⟨Lu hx aQ rfl,aQ⟩
     ·cases hw
   have ai:cls a.o=2->isW (hZ (jc ops)) a (T.ep a.i)=true->∀q y,(hZ (jc ops))[q]? =some y->((c.setIfInBounds i true).getD y.i false=true↔q<j+1):=by
     intro m hw q y hq;obtain⟨_,hx⟩:=aG m hw;rw[aa];simp only[KO,CU,k.ahead q y hq];constructor
     ·rintro(h|h)
      ·omega
      ·have:=Lu hx hq h;omega
     ·grind
   have aj:cls a.o=2->isW (hZ (jc ops)) a (T.ep a.i)=true->∀(C:Env) (w':World),WR C (T.G j) w'->Gr (T.H j) Δ (T.G j) C->
       ∀y∈jc ops,cls y.o=1->T.on y.i=true->(c.setIfInBounds i true).getD y.i false=false->T.ep y.i<=j+1->C (T.pl y.i)=none:=by
     intro m hw C w' bo br y A p v S h4;rcases Tj j (T.ep y.i)with h5|h5
     ·obtain⟨_,ah⟩:=L.item y (I y A)
      have aR:=(ah.alloc p v).2.2.1 j h5
      cases hd':C (T.pl y.i)with
      |none=>rfl
      |some e=>have:=bo.fresh _ _ hd';omega
     ·exact br.none _ (s y A p v S h5).1 (K y A p v h5)
   unfold wpOp;simp only[ho];rw[Z]
   cases F:T.on a.i with
   | false=>
     simp only[Rq,if_false];have hv:=u.off F;rcases LJ a.o with m|m|m
     ·exact next j Δ undef w (by rw[hv];exact .undef Δ) k.world (.refl _ _) k.Ym (still (by rw[m];decide)) (by grind) k.none
     ·exact next j Δ undef w (by rw[hv];exact .undef Δ) k.world (.refl _ _) k.Ym (still (by rw[m];decide)) (by grind) k.none
     ·obtain⟨z,_,aS⟩:=u.write m
      obtain⟨aH,aI⟩:=aG m z;have hG:=aS F;rw[aH]at hG;have ak:j<(hZ (jc ops)).length:=(ki.1 aI).1;obtain⟨bt,aJ⟩:=L.chain j (Mj _) ak;have aT:WR Δ (T.G j) w:=by rw[hG];exact k.world
      exact next (j+1) Δ undef w (by rw[hv];exact .undef Δ) (aT.Q6 aJ) (.refl _ _) ak (ai m z) (aj m z Δ w aT (by rw[hG];exact .refl _ _)) k.none
   | true=>
     simp only[if_true];left;rcases LJ a.o with m|m|m
     ·have aU:=u.pure m F j (aF (by rw[m];decide)) k.Ym ag
      rw[<-Jb (h:=T.H j) J]at aU;have au:(Ji a.o).f call t (T.H j)=some (T.val a.i,T.H j):=by
        unfold Ji;rw[m];simp only[fy];exact⟨_,aU,rfl⟩
      rw[<-E];refine Pr hc k.world k.tmps au λC x w' V=>?_;rw[E]
      exact next j C x w' V.val V.world V.frame k.Ym (still (by rw[m];decide)) (λy A p v S h4=>V.grow.none _ (s y A p v S h4).1 (K y A p v h4))
        (λl' p v=>V.grow.none _ (k.none l' p v) (EK v aP))
     ·obtain ⟨⟨mk,aV,aW⟩,bu,_,aR⟩:=u.alloc m F
      obtain⟨bw,bx⟩:=bu j (aF (by rw[m];decide)) k.Ym;have aX:=bx ag;rw[<-LX J]at aV;obtain⟨mo,mv,al,aK⟩:=Sh k.tmps aV;have M:=k.ze5 a ha m F P (aF (by rw[m];decide));obtain⟨dd,hb,bz,bA⟩:=aK (T.pl a.i) w.heap.size M;rw[<-E];unfold Oper.wp;rw[al w,Oper.upon_value,E];refine next j (Δ.set (T.pl a.i) dd) _ _ (by rw[aW];exact bA) (k.world.lay M bw aX hb bz) (FR.lay M hb) k.Ym (still (by rw[m];decide)) (λy A p v S h4=>?_) (λl' p v=>?_)
      ·obtain⟨e1,e2⟩:=s y A p v S h4
       have:=L.VI y (I y A) a bb p m v F e2;unfold Env.set;rw[if_neg this];exact e1
      ·have:l'≠T.pl a.i:=by omega
       unfold Env.set;rw[if_neg this];exact k.none l' p v
     ·obtain ⟨z,al,_⟩:=u.write m
      obtain⟨aH,aI⟩:=aG m z;have au:=al F;rw[aH,<-Oo (h:=T.H j) J]at au;have ak:j<(hZ (jc ops)).length:=(ki.1 aI).1;obtain⟨bt,aJ⟩:=L.chain j (Mj _) ak;rw[<-E];refine Pr hc k.world k.tmps au λC x w' V=>?_;rw[E]
      exact next (j+1) C x w' V.val (V.world.Q6 aJ) V.frame ak (ai m z) (aj m z C w' V.world V.grow)
        (λl' p v=>V.grow.none _ (k.none l' p v) (EK v aP))
theorem V9(l:Hy (hZ (jc ops))=true) (fuel:Nat) (c:Array Bool) (d:Act) (w:World) (j:Nat) (Δ:Env) (t:Tm) (a:It) (_:0<=j) (_:c.toList.count false<=fuel+1) (m:Inv n ops t0 h0 Δ0 w0 T c j Δ t d w) (z:a∈jc ops)
  (s:cls a.o=2) (p:c.getD a.i false=false) (k:∀x∈jc ops,a.b.testBit x.i=true->c.getD x.i false=true) (u:(hZ (jc ops))[j]?≠some a) :
  wpOp P0 ops Q a.i (wpAny P0 .any ops Q fuel (c.setIfInBounds a.i true)) d w:=by
 exfalso;have f:a∈hZ (jc ops):=by unfold hZ;rw[Rl];exact by simp_all
 obtain ⟨q,hq⟩:=oY.1 f;have v:¬q<j:=λh=>by
  have:=(m.ahead _ a hq).2 h
  simp_all
 have y:q≠j:=by grind
 obtain⟨e,rfl⟩:∃e,q=e+1:=⟨q-1,by omega⟩
 have g:e<(hZ (jc ops)).length:=by have:=(ki.1 hq).1;omega
 have r:=iy g;have hb:=LN l e _ a r hq;have:=(m.ahead e _ r).1 (by grind[rG,AY]);omega
theorem lN{x:Operand} (hx:P9 x=true) (t:Tm) (h h':Hp):(ud x).f t h=(ud x).f t h':=by
 cases x <;> first|rfl|grind[P9]
theorem Ty{o:Oper} (a:GI o=true) (t:Tm) (h h':Hp):(jb o).f t h=(jb o).f t h':=by
 unfold GI at a;unfold jb;split at a
 ·grind[lN]
 ·grind[AJ,lN]
 ·grind[qR,lN]
 ·rename_i b;rw[b];rw[vH]at a
  grind[ry,lN]
 ·cases a
theorem rJ{o:Oper} {d:Nat} (h:storeAt o=some d):∃ty x,o.op = .store ty (.tmp d) x/\o.guard=none/\o.dst=none/\P9 x=true:=by
 grind[storeAt]
theorem Cz{o:Oper} {d:Nat} (h:storeAt o=some d):cls o=2:=by
 grind[rJ,cls]
theorem LC{o:Oper} {d:Nat} (hs:storeAt o=some d) {call:Call} {t:Tm} {h h':Hp} {v:V} (hv:(Ji o).f call t h=some (v,h')) :
  v = .undef/\∃l off e sz cs ql,kj t d = .ptr l off/\h.get l=some (.cells e sz true false cs)/\h' = h.put l (.cells e sz true false ql)/\
   ∀b:Hp,b.get l=h.get l->(Ji o).f call t b=some (.undef,b.put l (.cells e sz true false ql)):=by
 obtain⟨ty,x,j,_,_,hx⟩:=rJ hs;have p:=Cz hs
 have c:∀h,(Ji o).f call t h=oB ((kO o).f t h) λr=>match r with
   | .val v h=>some (v,h)
   | .call f args=>call f args h:=by
  intro h;unfold Ji;split
  ·omega
  ·omega
  ·rfl
 rw[c,fy]at hv;obtain⟨r,b,q⟩:=hv
 have k:∀h,(kO o).f t h=match zR ty with
   |some n=>oB ((ud (.tmp d)).f t h) λa=>oB ((ud x).f t h) λv=>z6 a λl off=>bB (Nat.beq v.cells.length n) (oB (FX h l off v.cells) λh=>some (.val .undef h))
   |none=>none:=by
  intro h;unfold kO;rw[j];simp only;generalize zR ty=z;cases z <;> rfl
 rw[k]at b
 cases hn:zR ty with
 |none=>simp_all
 | some n=>
   rw[hn]at b;simp only[fy,yg,ie]at b;obtain⟨a,s,vv,u,l,off,rfl,hlen,C,g,w⟩:=b;cases w;cases q;have i:kj t d = .ptr l off:=Option.some.inj (show some (kj t d)=some (V.ptr l off) from s);unfold FX at g;simp only[lT,ie,fy,wBg]at g;obtain⟨e,sz,live,ro,cs,y,rfl,rfl,m,ql,A,J4⟩:=g;cases J4;refine⟨rfl,l,off,e,sz,cs,ql,i,y,rfl,λb B=>?_⟩;rw[c,fy];refine⟨.val .undef (b.put l (.cells e sz true false ql)),?_,rfl⟩;rw[k,hn];simp only[fy,yg,ie];refine⟨.ptr l off,by rw[<-i];rfl,vv,by grind[lN],l,off,rfl,hlen,b.put l (.cells e sz true false ql),?_,rfl⟩;unfold FX;simp only[lT,ie,fy,wBg]
   grind
theorem Oa:∀{l:List It} {a b:It},My l=some (a,b)->∃p,l.length=p+2/\l[p]? =some a/\l[p+1]? =some b
 |[],_,_,h=>by cases h
 |[_],_,_,h=>by cases h
 |[x,y],a,b,h=>by cases h;simp_all
 | _::y::z::l,a,b,h=>by
   obtain⟨p,c,d,e⟩:=Oa (l:=y::z::l) h;exact⟨p+1,by simp_all,by grind,by simp_all⟩
theorem Jo:∀{l:List It},JE l=true->∀(q:Nat) (a b:It),l[q]? =some a->l[q+1]? =some b->q+2<l.length->b.b.testBit a.i=true/\(q+3=l.length->∀c,l[q+2]? =some c->c.b.testBit a.i=true)
 |[],_,q,a,b,h,_,_=>by simp_all
 |[x],_,q,a,b,_,h,_=>by simp_all
 |[x,y],_,q,a,b,_,_,h=>by grind
 | x::y::z::l,hc,0,a,b,d,e,_=>by
   simp at d e;subst d;subst e;simp only[JE,vH]at hc
   grind
 | x::y::z::l,hc,q+1,a,b,d,e,f=>by
   simp only[JE,vH]at hc;have:=Jo (l:=y::z::l) hc.2 q a b (by simp_all) (by simp_all) (by simp_all)
   simp_all
theorem RC{kP ws:List It} {a b:It} {da db:Nat} (h:JU kP ws=some (a,b,da,db)) :
  My ws=some (a,b)/\storeAt a.o=some da/\storeAt b.o=some db/\fixed kP a=true/\fixed kP b=true/\QM kP a b=true/\JE ws=true:=by
 unfold JU at h
 grind
structure zde (n:Nat) (ops:Array Oper) (t0:Tm) (h0:Hp) (Δ0:Env) (w0:World) (T:Tc) (c:Nat) (e:Hp) (b:Array Bool) (Δ:Env) (t:Tm) (a:Act) (w:World):Prop where
 size:b.size=ops.size
 closed:Ba (jc ops) (λi=>b.getD i false)
 ahead:∀x∈hZ (jc ops),(b.getD x.i false=true↔x.i≠c)
 tmps:TR Δ n t a
 qd:∀d,kj t d=rk T.val (λi=>b.getD i false) d (jc ops) (kj t0 d)
 world:WR Δ e w
 frame:FR Δ0 Δ w0 w
 none:∀l,Δ0 l = .none->l<h0.next->Δ l = .none
 defers:t.ds=t0.ds
section
variable{a b:It}{da db p:Nat}
structure zdP (ops:Array Oper) (T:Tc) (a b:It) (da db p:Nat) (r:Tm×Hp):Prop where
 len:(hZ (jc ops)).length=p+2
 ga:(hZ (jc ops))[p]? =some a
 gb:(hZ (jc ops))[p+1]? =some b
 sa:storeAt a.o=some da
 sb:storeAt b.o=some db
 fa:fixed (jc ops) a=true
 fb:fixed (jc ops) b=true
 op:QM (jc ops) a b=true
 ch:JE (hZ (jc ops))=true
 apart:Yx (kj r.1 da) (kj r.1 db)=true
theorem PW(h:QM (jc ops) a b=true) {x:It} (hx:x∈jc ops) (c:x.i≠a.i) (hb:x.i≠b.i) (d:¬(a.b.testBit x.i=true/\b.b.testBit x.i=true)) :
  cls x.o=0/\GI x.o=true/\x.o.guard=none/\x.b.testBit a.i=false/\x.b.testBit b.i=false:=by
 have:=Rp.1 h x hx;simp only[KO,vH,wBg,Option.isNone_iff_eq_none]at this
 grind[absurd,Cr]
theorem Ld{l:List It} (h:vj n ops.toList (jc ops) (hZ (jc ops)) call t0 h0 l 0 0 h0 [] r T T) {x:It} (hx:x∈jc ops) (c:fixed (jc ops) x=true) {D:Nat->Bool} (j:∀y∈jc ops,x.b.testBit y.i=true->D y.i=true)
  {d:Nat} (e:d∈CE x.o.op.operands.toList) (a:V):rk T.val D d (jc ops) a=rk T.val (λ_=>true) d (jc ops) a:=by
 refine rA (λy f g=>?_) (by simp_all) a;have k:=Rp.1 (Rp.1 c d e) y f
 grind[writes]
theorem Ci{o:Oper} {d:Nat} (h:storeAt o=some d):d∈CE o.op.operands.toList:=by
 grind[rJ,Op.operands,CE]
end
section
variable{a b:It}{da db p:Nat}{l:List It}
theorem XK{H a e:Hp} {la lb:Nat} {i ob:O} (b:la<H.next) (f:lb<H.next) (l:la≠lb) (j:DD (H.put la i) a) (k:DD (a.put lb ob) e):DD ((H.put lb ob).put la i) e:=by
 have c:H.next<=a.next:=j.1;have g:a.next<=e.next:=k.1;refine⟨KG c g,λx hx=>?_⟩;have d:x<H.next:=hx;rw[k.2 x (EK d c)];rw[qL (h:=H.put lb ob) _ _ b,qL (h:=a) _ _ (by omega),qL (h:=H) _ _ f];rw[j.2 x d,qL (h:=H) _ _ b]
 grind
theorem zdo(hc : xe call) (hp:rY (jc ops)=true) (aL:(jc ops).all (EM (jc ops))=true) (ar:(jc ops).all Cg=true) (hl:∀a∈l,a∈jc ops)
    (Y:vj n ops.toList (jc ops) (hZ (jc ops)) call t0 h0 l 0 0 h0 [] r T T) (hP:zdP ops T a b da db p r)
    (aM:r.1.ds=t0.ds) (hQ:∀Δ' a' w',CD Δ0 h0 w0 n r.1 r.2 Δ' a' w'->Q .normal a' w') {la lb:Nat} {ob:O} (bc:la<(T.H p).next) (aN:lb<(T.H p).next) (aO:la≠lb)
    (aP:∀t:Tm,kj t da=kj r.1 da->∃oa,(T.G p)=(T.H p).put la oa/\∀k:Hp,k.get la=(T.H p).get la->(∀x∈a.o.op.operands.toList,Alike t (T.tt a.i) x)->(Ji a.o).f call t k=some (.undef,k.put la oa))
    (bd:T.G (p+1)=(T.H (p+1)).put lb ob) :
    ∀(fuel:Nat) (c:Array Bool) (m:Act) (w:World) (Δ:Env) (t:Tm),c.toList.count false<=fuel->zde n ops t0 h0 Δ0 w0 T a.i ((T.H p).put lb ob) c Δ t m w->wpAny P0 .any ops Q fuel c m w:=by
  have ha:a∈jc ops:=(rG (oY.2 ⟨_,hP.ga⟩)).1;have hb:b∈jc ops:=(rG (oY.2 ⟨_,hP.gb⟩)).1;have aQ:=Cz hP.sa;have aR:=Cz hP.sb;have aS:a.i≠b.i:=λe=>by
    have:=Lu hP.ga hP.gb e;omega
  have au:a∈hZ (jc ops):=oY.2 ⟨_,hP.ga⟩;have aw:b∈hZ (jc ops):=oY.2 ⟨_,hP.gb⟩;have L:∀{c Δ t m w},zde n ops t0 h0 Δ0 w0 T a.i ((T.H p).put lb ob) c Δ t m w->c.getD a.i false=false:=λg=>by
    cases h:Array.getD _ a.i false with
    |false=>rfl
    |true=>exact absurd rfl ((g.ahead a au).1 h)
  have ah:∀{c Δ t m w},zde n ops t0 h0 Δ0 w0 T a.i ((T.H p).put lb ob) c Δ t m w->c.getD b.i false=true:=λg=>(g.ahead b aw).2 (λe=>aS e.symm);intro fuel
  induction fuel with
  | zero=>
    intro c m w Δ t ax g;exfalso;have k:=L g;have M:a.i<c.size:=by rw[g.size];exact(X1.1 (NG ha)).1
    have:false∈c.toList:=by
      have:c[a.i]=false:=by simpa[M]using k
      rw[<-this];simp
    have:=List.count_pos_iff.2 this
    omega
  | succ fuel ih=>
    intro c m w Δ t ax g;refine⟨λhr=>?_,λi hi=>?_⟩
    ·exfalso
     have ay : ∀i,i<ops.size->c.getD i false=true:=by
       intro i
       induction i using Nat.strongRecOn with
       | _ i aT=>
         intro hi
         cases Z:c.getD i false with
         |true=>rfl
         | false=>
           exfalso;have ho:ops[i]? =some ops[i]:=Array.getElem?_eq_getElem hi;obtain⟨x,hx,aU,aV,_⟩:=NI ho;have F:i∈Region.ready .any ops c:=by
             rw[mem_ready];refine⟨?_,ops[i],ho,λe he aA=>?_⟩
             ·have:i<c.size:=by rw[g.size];exact hi
              simp[this]at Z⊢;exact Z
             ·have k:=Rp.1 ar x hx
              unfold Cg at k;rw[aV,aU]at k;have h2:=Rp.1 k e (by simpa using he);rw[<-Hk,aA]at h2;simp only[wB3,Bool.false_or,Qq]at h2;exact aT e.on h2 (by omega)
           rw[hr]at F;cases F
     have:=ay a.i (X1.1 (NG ha)).1;rw[L g]at this;cases this
    rw[mem_ready]at hi;obtain⟨qf,o,ho,aa⟩:=hi;obtain⟨y,X,ai,u,aj⟩:=NI ho;have M:i<c.size:=by rw[g.size];exact(X1.1 ho).1
    have N:c.getD y.i false=false:=by rw[ai];simp[M]at qf⊢;exact qf
    have I:∀x∈jc ops,y.b.testBit x.i=true->c.getD x.i false=true:=by
      intro x hx Z;obtain⟨e,he,aW,k⟩:=Nq aj Z;rw[u]at he;have P:=aa e (by simpa using he) (by rw[Hk];exact aW);rcases k with k|⟨z,A,E⟩
      ·rw[k];exact P
      ·have be:=vn _ _ A
       exact g.closed z (oY.2 ⟨_,A⟩) (by simp_all) x hx E
    have ab:∀y∈jc ops,y∈l:=by
      intro y X;rcases Y.done y X with k|k
      ·simp at k
      ·grind[xG]
    obtain ⟨D,B⟩:=Y.item y (ab y X);have ac:∀d,d∈qK y.o->kj t d=kj (T.tt y.i) d:=λd K=>by
      rw[g.qd d,B.qd d];exact Jp vn hp X g.closed B.closed I B.fi N B.fresh K _ _
    have J:∀x∈y.o.op.operands.toList,Alike t (T.tt y.i) x:=Jq λd K=>ac d (by simp[qK,K]);obtain⟨d,K⟩:=B.dst;have R:∀i',(c.setIfInBounds i true).getD i' false=(c.getD i' false ||decide (y.i=i')):=λi'=>by
      by_cases e:i=i'
      ·subst e;simp[M,ai]
      simp_all
    have S:(c.setIfInBounds i true).toList.count false<=fuel:=by
      have k:c.toList[i]? =some false:=by
        rw[wBD];have:c.getD y.i false=false:=N;rw[ai]at this;simpa[M]using this
      have:=count_set c.toList i k;rw[Array.toList_setIfInBounds];omega
    have s:Ba (jc ops) (λi'=>(c.setIfInBounds i true).getD i' false):=by
      intro x hx U z A E;simp only[R,KO,CU]at U⊢;rcases U with U|U
      ·exact .inl (g.closed x hx U z A E)
      ·grind[xG]
    have C:∀d',kj (d.f t (T.val y.i)) d' = rk T.val (λi'=>(c.setIfInBounds i true).getD i' false) d' (jc ops) (kj t0 d'):=λd'=>by
      rw[Kz K,HH vn hp X g.closed N R (val:=T.val) (OT:=T.val) (λ_ _=>rfl) d' (kj t0 d'),g.qd d']
    have aB:h0.next<=(T.H p).next:=KG Y.more.1 (GK Y.chain p p (by omega) (by have:=hP.len;omega));have ak:y.i≠a.i->cls y.o=0/\GI y.o=true/\y.o.guard=none/\y.b.testBit a.i=false/\y.b.testBit b.i=false:=λag=>by
      have aX:y.i≠b.i:=by grind
      refine PW hP.op X ag aX λ⟨_,aC⟩=>?_;have:=g.closed b hb (ah g) y X aC
      simp_all
    by_cases hya:y.i=a.i
    ·
      have aD:=xG X ha hya;subst aD;have P:Region.wanted o (yielded ops m.tmps)=true:=by
        obtain⟨_,_,_,hg,_⟩:=rJ hP.sa;unfold Region.wanted;rw[<-u,hg]
      unfold wpOp;simp only[ho];rw[P];simp only[if_true];left;obtain⟨oa,bf,aE⟩:=aP t (by
        rw[g.qd da,Y.qd da];exact Ld Y X hP.fa I (Ci hP.sa) _)
      have al:=aE ((T.H p).put lb ob) (by rw[qL _ _ aN,if_neg (λe=>aO e.symm)]) J;rw[<-u];refine Pr hc g.world g.tmps al λΔ' x w' V=>?_;rw[u];have hlen:=hP.len;have ba:=Y.chain p (Mj _) (by omega);have aY:=Y.chain (p+1) (Mj _) (by omega);have hm:DD (((T.H p).put lb ob).put la oa) (T.H (p+2)):=by grind[XK]
      have am:∀q z,(hZ (jc ops))[q]? =some z->((c.setIfInBounds i true).getD z.i false=true↔q<p+2):=λq z A=>by
        have aZ:=(ki.1 A).1;constructor
        ·intro _;omega
        ·intro _
         rw[R];by_cases e:z.i=y.i
         ·simp[e]
         ·rw[(g.ahead z (oY.2 ⟨_,A⟩)).2 e];rfl
      have bb:T.val y.i = .undef\/True:= .inr trivial;have aF:(d.f t (T.val y.i)).ds=t0.ds:=by rw[zg K];exact g.defers
      have ae:y.o.dst=none:=by obtain⟨_,_,_,_,h5,_⟩:=rJ hP.sa;exact h5
      have a4:TR Δ' n (d.f t (T.val y.i)) (m.put o.dst x):=by
        have k:=K0 (g.tmps.mono V.frame.le) K (v:= .undef) V.val;rw[u]at k;have e:d.f t (T.val y.i)=d.f t .undef:=by
          unfold zT at K;rw[ae]at K;cases K;rfl
        rw[e];exact k
      refine VW hc hp aL ar (T:=T) (p+2) (λfuel c m w j Δ t a' hj _ a5 a6 aG an _ ag=>?_) hl Y aM hQ fuel _ _ _ (p+2) Δ' (d.f t (T.val y.i)) (jO _) S
        ⟨by simp[g.size],s,by omega,am,a4,C,V.world.Q6 hm,g.frame.trans V.frame,λl' k h2=>V.grow.none _ (g.none l' k h2) (EK h2 aB),aF,λz A aH bg ao _=>?_⟩
      ·exfalso
       have F:a'∈hZ (jc ops):=by unfold hZ;rw[Rl];exact⟨a6,by rw[aG];rfl⟩
       obtain⟨q,hq⟩:=oY.1 F;have k:=(ki.1 hq).1;have:=(a5.ahead _ a' hq).2 (by omega);rw[an]at this;cases this
      ·exfalso
       rw[R]at ao;simp only[Bool.or_eq_false_iff,decide_eq_false_iff_not]at ao;have E:z.i≠b.i:=by grind
       have:=PW hP.op A (λe=>ao.2 e.symm) E (by grind);rw[this.1]at aH;cases aH
    ·
      obtain⟨ap,Ea,aI,bh,aC⟩:=ak hya;have a7:qJ n ops.toList y.o (T.tt y.i)=some true:=by unfold qJ lP;rw[aI]
      have P:T.on y.i=true:=by
        have:=B.qJ;rw[a7]at this;exact(Option.some.inj this).symm
      have W:Region.wanted o (yielded ops m.tmps)=true:=by
        unfold Region.wanted;rw[<-u,aI]
      have hlen :=hP.len;have a8:T.ep y.i<=p:=by
        have k:=B.epw (by rw[ap];decide)
        cases he:T.ep y.i with
        |zero=>omega
        | succ e=>
          rw[he]at k;simp only[MQ]at k;split at k
          ·rename_i z A
           have aZ:=(ki.1 A).1;rcases Tj e p with h|h
           ·omega
           ·exfalso
            have:e=p\/e=p+1:=by omega
            rcases this with e1|e1
            ·subst e1
             rw[hP.ga]at A;simp_all
            ·subst e1
             rw[hP.gb]at A;simp_all
          ·cases k
      have aq:p<=late (hZ (jc ops)) y:=by
        rcases Tj (late (hZ (jc ops)) y) p with h|h
        ·exfalso
         obtain ⟨z,A,E⟩:=Ls (hZ (jc ops)) y (by omega);have aJ:z∈hZ (jc ops):=oY.2 ⟨_,A⟩;have a9:z.i≠a.i:=λe=>by
           have:=Lu A hP.ga e;omega
         have:=g.closed z (rG aJ).1 ((g.ahead z aJ).2 a9) y X E
         simp_all
        ·exact h
      have aK:=B.pure ap P p a8 (by omega) aq;rw[<-Jb (h:=T.H p) J,Ty Ea t _ ((T.H p).put lb ob)]at aK;have al:(Ji y.o).f call t ((T.H p).put lb ob)=some (T.val y.i,(T.H p).put lb ob):=by
        unfold Ji;rw[ap];simp only[fy];exact⟨_,aK,rfl⟩
      unfold wpOp;simp only[ho];rw[W];simp only[if_true];left;rw[<-u];refine Pr hc g.world g.tmps al λΔ' x w' V=>?_;rw[u];refine ih _ _ _ Δ' (d.f t (T.val y.i)) S ⟨by simp[g.size],s,λz A=>?_,?_,C,V.world,g.frame.trans V.frame,λl' k h2=>V.grow.none _ (g.none l' k h2) (EK h2 aB),by rw[zg K];exact g.defers⟩
      ·rw[R]
       have:¬y.i=z.i:=by grind[xG,rG]
       simp only[this,decide_false,Bool.or_false];exact g.ahead z A
      ·have k:=K0 (g.tmps.mono V.frame.le) K V.val
       rw[u]at k;exact k
end
section
variable{a b:It}{da db p:Nat}{l:List It}
theorem XI(hc:xe call) (hp:rY (jc ops)=true) (aA:(jc ops).all (EM (jc ops))=true) (aB:(jc ops).all Cg=true) (hl:∀a∈l,a∈jc ops)
  (G:vj n ops.toList (jc ops) (hZ (jc ops)) call t0 h0 l 0 0 h0 [] r T T) (hP:zdP ops T a b da db p r)
  (aC:r.1.ds=t0.ds) (hQ:∀Δ' a' w',CD Δ0 h0 w0 n r.1 r.2 Δ' a' w'->Q .normal a' w')
  (fuel:Nat) (c:Array Bool) (I:Act) (w:World) (j:Nat) (Δ:Env) (t:Tm) (y:It) (_:0<=j) (aT:c.toList.count false<=fuel+1) (m:Inv n ops t0 h0 Δ0 w0 T c j Δ t I w) (hy:y∈jc ops)
  (ai:cls y.o=2) (J:c.getD y.i false=false) (g:∀x∈jc ops,y.b.testBit x.i=true->c.getD x.i false=true) (aZ:(hZ (jc ops))[j]?≠some y) :
  wpOp P0 ops Q y.i (wpAny P0 .any ops Q fuel (c.setIfInBounds y.i true)) I w:=by
 have hlen:=hP.len;have ha:a∈jc ops:=(rG (oY.2 ⟨_,hP.ga⟩)).1;have hb:b∈jc ops:=(rG (oY.2 ⟨_,hP.gb⟩)).1;have aj:y∈hZ (jc ops):=by unfold hZ;rw[Rl];exact by simp_all
 obtain ⟨q,hq⟩:=oY.1 aj;have a4:=(ki.1 hq).1;have a5:¬q<j:=λh=>by
  have:=(m.ahead _ y hq).2 h
  simp_all
 have a6:q≠j:=by grind
 have aD:q=p+1/\j=p:=by
  obtain⟨e,rfl⟩:∃e,q=e+1:=⟨q-1,by omega⟩
  have V:e<(hZ (jc ops)).length:=by omega
  have hg:=iy V;rcases Tj e p with h|h
  ·exfalso;have aa:=(Jo hP.ch e _ y hg hq (by omega)).1;have:=(m.ahead e _ hg).1 (g _ (rG (AY V)).1 aa);omega
  ·have he:e=p:=by omega
   subst he;refine⟨rfl,?_⟩;rcases Tj j e with h2|h2
   ·exfalso;obtain⟨f,rfl⟩:∃f,e=f+1:=⟨e-1,by omega⟩
    have ak:f<(hZ (jc ops)).length:=by omega
    have al:=iy ak;have aa:=(Jo hP.ch f _ a al hP.ga (by omega)).2 (by omega) y hq;have:=(m.ahead f _ al).1 (g _ (rG (AY ak)).1 aa);omega
   ·omega
 obtain⟨rfl,rfl⟩:=aD;have aE:y=b:=by rw[hP.gb]at hq;cases hq;rfl
 subst aE;have C:∀y∈jc ops,y∈l:=by
  intro y hy;rcases G.done y hy with B|B
  ·simp at B
  ·grind[xG]
 obtain ⟨D,s⟩:=G.item y (C y hy);obtain⟨Da,u⟩:=G.item a (C a ha);have K:=Cz hP.sa;have epw:∀{x:It} {D:Nat->Bool} {k:Nat},NU n ops.toList (jc ops) (hZ (jc ops)) call t0 h0 T D x->cls x.o=2->(hZ (jc ops))[k]? =some x->T.ep x.i=k:=λ{x D k} hx aF a7=>by
  have B:=(hx.write aF).1
  grind[isW,Lu,Cr]
 have am:=epw s ai hP.gb;have an:=epw u K hP.ga;have W:∀{x:It} {D:Nat->Bool} {d:Nat},NU n ops.toList (jc ops) (hZ (jc ops)) call t0 h0 T D x->storeAt x.o=some d->T.on x.i=true:=λ{x D d} hx hs=>by
  obtain⟨_,_,_,hg,_⟩:=rJ hs;have:=hx.qJ
  grind[qJ,lP,Option.some.inj]
 have P:∀d,d∈qK y.o->kj t d=kj (T.tt y.i) d:=λd O=>by
  rw[m.qd d,s.qd d];exact Jp vn hp hy m.closed s.closed g s.fi J s.fresh O _ _
 have R:∀x∈y.o.op.operands.toList,Alike t (T.tt y.i) x:=by grind[Jq,qK]
 have X:=(u.write K).2.1 (W u hP.sa);rw[an]at X;obtain⟨_,la,aU,ea,aG,a8,ao,aH,aI,ab,aJ⟩:=LC hP.sa X;have E:=(s.write ai).2.1 (W s hP.sb);rw[am]at E;obtain⟨_,lb,aV,eb,a9,ba,aW,bb,bc,bd,_⟩:=LC hP.sb E;rw[<-Oo (h:=T.H (j+1)) R]at E;obtain⟨_,A,aK,aL,ap,aX,ac,Y,aY,aq,ae⟩:=LC hP.sb E;have e1:=P db (by simp[qK,Ci hP.sb]);have aM:kj (T.tt a.i) da=kj r.1 da:=by
  rw[u.qd da,G.qd da];exact Ld G ha hP.fa u.fi (Ci hP.sa) _
 have aN:kj t db=kj r.1 db:=by
  rw[m.qd db,G.qd db];exact Ld G hy hP.fb g (Ci hP.sb) _
 have ar:la≠A:=λe=>by
  have:=hP.apart;rw[<-aM,<-aN,aH,Y,e]at this;have h2:(!(Nat.beq A A))=true:=this
  simp_all
 have au:la<(T.H j).next:=Hp.NB aI;have aw:A<(T.H j).next:=by
  have B:=m.tmps.rel db;rw[Y]at B
  cases hx:I.tmps.getD db undef with
  | pointer p=>
    rw[hx]at B
    cases B with
    |ptr _ _ d O=>exact m.world.fresh _ _ O
  |_=>rw[hx]at B;cases B
 have aO:=G.chain j (Mj _) (by omega);have ax:(T.H j).get A=(T.H (j+1)).get A:=by
  rw[aO.2.2 A (by rw[ab];exact aw),ab,qL _ _ au,if_neg ar]
 have aP:=ae (T.H j) ax;have Z:=NG hy;have L:Region.wanted y.o (yielded ops I.tmps)=true:=by
  obtain⟨_,_,_,hg,_⟩:=rJ hP.sb;unfold Region.wanted;rw[hg]
 obtain⟨d,O⟩:=s.dst;have ay:y.i<c.size:=by rw[m.size];exact(X1.1 Z).1
 have ag:∀S,(c.setIfInBounds y.i true).getD S false=(c.getD S false ||decide (y.i=S)):=λS=>by
  by_cases e:y.i=S
  ·rw[<-e];simp[ay]
  simp_all
 have ah:(c.setIfInBounds y.i true).toList.count false<=fuel:=by
  have B:c.toList[y.i]? =some false:=by
   rw[wBD];simpa[ay]using J
  have:=count_set c.toList y.i B;rw[Array.toList_setIfInBounds];omega
 have F:Ba (jc ops) (λS=>(c.setIfInBounds y.i true).getD S false):=by
  intro x hx M z hz aQ;simp only[ag,KO,CU]at M⊢;rcases M with M|M
  ·exact .inl (m.closed x hx M z hz aQ)
  ·grind[xG]
 have N:∀d',kj (d.f t (T.val y.i)) d' = rk T.val (λS=>(c.setIfInBounds y.i true).getD S false) d' (jc ops) (kj t0 d'):=λd'=>by
  rw[Kz O,HH vn hp hy m.closed J ag (val:=T.val) (OT:=T.val) (λ_ _=>rfl) d' (kj t0 d'),m.qd d']
 have aR:h0.next<=(T.H j).next:=KG G.more.1 (GK G.chain j j (by omega) (by omega));unfold wpOp;simp only[Z];rw[L];simp only[if_true];left;refine Pr hc m.world m.tmps aP λΔ' x w' hA=>?_;have U:y.o.dst=none:=by obtain⟨_,_,_,_,h5,_⟩:=rJ hP.sb;exact h5
 have aS:TR Δ' n (d.f t (T.val y.i)) (I.put y.o.dst x):=by
  have B:=K0 (m.tmps.mono hA.frame.le) O (v:= .undef) hA.val;have e:d.f t (T.val y.i)=d.f t .undef:=by
   unfold zT at O;rw[U]at O;cases O;rfl
  rw[e];exact B
 refine zdo hc hp aA aB hl G hP aC hQ (la:=la) (lb:=A) (ob:= .cells aL ap true false ac) au aw ar (λt' be=>⟨.cells ea aG true false ao,ab,λB bf bg=>?_⟩) aq fuel _ _ _ Δ' (d.f t (T.val y.i)) ah
  ⟨by simp[m.size],F,λz hz=>?_,aS,N,hA.world,m.frame.trans hA.frame,λl' B h2=>hA.grow.none _ (m.none l' B h2) (EK h2 aR),by rw[zg O];exact m.defers⟩
 ·grind[Oo]
 ·obtain ⟨k,hk⟩:=oY.1 hz;have bh:=(ki.1 hk).1;rw[ag];simp only[KO,CU,m.ahead k z hk];constructor
  ·rintro(h|h)
   ·intro e;have:=Lu hk hP.ga e;omega
   grind
  ·intro bi;rcases Tj k j with h|h
   ·exact .inl h
   ·right;have bj:k≠j:=λe=>by
     subst e;rw[hP.ga]at hk;simp_all
    have:k=j+1:=by omega
    simp_all
end
end
