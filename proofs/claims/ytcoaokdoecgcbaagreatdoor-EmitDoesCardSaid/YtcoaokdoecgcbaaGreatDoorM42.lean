/- Parts. -/
import Derived.Test.YtcoaokdoecgcbaaGreatDoorM41
import Derived.Test.YtcoaokdoecgcbaaGreatDoorM38
set_option maxHeartbeats 4000000
namespace Go.Proofs.YtcoaokdoecgcbaaGreatDoor.Hx
open Un Dm
section
variable{F F':Nat->Prop}{h h':Hp}{cs:List Pc}{Q:fj}{e:Ge}{s:Ga}{w:Gx}
theorem zdn(k:TO e){b:Nat}{B:Bk}(d:e.u.blocks[b]? =some B)(n:Nat):(jZ e.u e.of (B.ee.take n) s.ex.length).length<=4*B.ee.length/\(jD e.u e.of (B.ee.take n)).length<=B.ee.length:=by
 have hl:=List.length_take_le' n B.ee;have:∀l,(jD e.u e.of l).length<=l.length:=λl=>by
  induction l with
  |nil=>simp[jD]
  | cons v l c=>
    have:(tP e.u e.of v).length<=1:=by
      unfold tP;split
      ·unfold EG;split <;> simp
      ·simp
    unfold jD at c⊢;simp only[wA6,qu,Re];omega
 have a:∀l k,(jZ e.u e.of l k).length<=4*l.length:=λl=>by
  induction l with
  |nil=>intro k;simp[jZ]
  | cons v l c=>
    intro k;have f:(Aa e.u e.of v k).length<=4:=by
      unfold Aa;split
      ·rename_i x g
       unfold pt ki AP
       repeat' split
       all_goals simp
      ·simp
    have:=c (k+(tP e.u e.of v).length);simp[jZ,qu,Re];omega
 exact⟨by have:=a (B.ee.take n) s.ex.length;omega,by have:=this (B.ee.take n);omega⟩
theorem zb4(k:TO e)(E:Gm F h cs e s w)(hl:s.l.length<100000)(hj:s.js.length<100000)(he:s.ex.length<100000){b:Nat}{B:Bk}(r:e.u.blocks[b]? =some B)
  (H:∀F' h' w' c,Sn F h F' h'->zct e.u e.of b B s.ex.length c->Gm F' h' cs e {s with l:=s.l++c,js:=s.js++qO s.l.length c,ex:=s.ex++Dy e.u e.of B} w'->Q (.tuple []) h') :
  cP CS sU [.ptr e.le 0,.I b] h Q:=by
 refine HB ?_
 let⟨l1,o1,bv,bn,bp,_,b1,b2,rv,rn,rp,_⟩:=E.u.B8 r
 refine ec (eC _ _) (ec pf (oF (E.ld 5 rfl) (ec b1 (ec b2 ?_))));refine ud E.H rfl rfl (by simp only[pR,fe,rv.one,rn.one,rp.one];rfl) λF2 N l H2 s2 c2=>?_;have E2:=E.since s2 H2;have U:=rp.since s2;have aH:=tB k.g r;have r2:∀G A W a,Sn F h G A->LK e.u e.of b B a->a.length<=12000->(∀i∈a,tM i=false)->Cl G A l 79 (pR B bv bn bp)->Gm G A cs e {s with l:=s.l++a} W->lW Q [.ptr e.le 0,.I b,.ptr l 0] A:=by
  intro G A W a S y aI ag f E3;refine Ec ?_;unfold wA;have Y:=rv.since S;refine oF (f.ld rfl) (ec Y.len ?_)
  let J:Nat->LP:=λn l' h'=>∃F' j w',l' = [.ptr e.le 0,.I b,.ptr l 0,bv,.I B.ee.length,.I (j:Nat)]/\j+n=B.ee.length/\Sn G A F' h'/\
    Gm F' h' cs e {s with l:=s.l++(a++jZ e.u e.of (B.ee.take j) s.ex.length),ex:=s.ex++jD e.u e.of (B.ee.take j)} w'
  refine En J ?_ (k:=B.ee.length) (⟨G,0,W,rfl,by omega,.refl _ _,by simpa[jZ,jD]using E3⟩);intro n _ _ _ _ _ _ h4 ah;obtain⟨F4,j,w4,⟨⟩,hn,s4,Z⟩:=ah;unfold wD;have O:=f.since s4;have z:=(rn.since S).since s4
  let⟨vl1,vl2⟩:=zdn (s:=s) k r j
  by_cases hjl:j<B.ee.length
  ·have hv:=hZ hjl;have ai:=Ho hjl;generalize B.ee[j]=v at*
   let⟨l3,o3,_,C,I⟩:=(Y.since s4).nat hv .i64
   have aa:=k.g.uP v b j ⟨B,r,hv⟩;obtain⟨x,hx⟩:∃x,e.u.ee[v]? =some x:=⟨_,hZ aa⟩
   refine gy (ec C (ec I ?_));refine zb7 k Z (by simp[qu];omega) (by simp[qu];omega) hx λF5 h5 w5 o K=>?_;refine fG ⟨n-1,by omega,?_⟩;refine⟨F5,j+1,w5,rfl,by omega,s4.trans o,?_⟩;have e1:Aa e.u e.of v (s.ex.length+(jD e.u e.of (B.ee.take j)).length)=pt e.of v x (s.ex++jD e.u e.of (B.ee.take j)).length:=by unfold Aa;rw[hx,qu]
   have e2:tP e.u e.of v=EG e.u e.of v x:=by unfold tP;rw[hx]
   rw[ai,Xu,Xy,e1,e2];simp[Cy]at K⊢;exact K
  refine iA ?_;obtain rfl:j=B.ee.length:=by omega
  rw[PG]at Z vl1 vl2;have aj:=S.trans s4;have ak:∀m,qO m (a++jZ e.u e.of B.ee s.ex.length)=[]:=λm=>MR λi hi=>(yX.1 hi).elim (ag i) (YC k.g _ _ i);have jp:∀f m,qO m (a++jZ e.u e.of B.ee s.ex.length++f)=qO (m+(a++jZ e.u e.of B.ee s.ex.length).length) f:=λf m=>by rw[vQ,ak,RL]
  have fin:∀F9 h9 w9 f X,Sn F4 h4 F9 h9->RD e.u e.of b B (s.ex.length+(jD e.u e.of B.ee).length) f->Nv e.u e.of B=X->
    Gm F9 h9 cs e {s with l:=s.l++(a++jZ e.u e.of B.ee s.ex.length++f),js:=s.js++qO (s.l.length+(a++jZ e.u e.of B.ee s.ex.length).length) f,ex:=s.ex++(jD e.u e.of B.ee++X)} w9->Q (.tuple []) h9:=by
   rintro F9 h9 w9 f _ s9 A rfl E9;refine H F9 h9 w9 (a++jZ e.u e.of B.ee s.ex.length++f) (aj.trans s9) ⟨a,f,y,A,rfl⟩ ?_;rw[jp];exact E9
  refine oF (O.ld rfl) (fx ?_);have al:=λt ht=>k.g.nx b t (by unfold next;rw[r];exact ht);by_cases f1:B.fin=1
  ·refine io ?_;obtain⟨aG,am⟩:B.fin=1/\B.next.length=1:=by rcases k.g.fin b B r with h|h|h <;> omega
   have L:B.next[0]? =some (B.next.getD 0 0):=by rw[IY,hZ (by omega)];rfl
   have tm:=yN L;obtain⟨T,hT⟩:∃T,e.u.blocks[B.next.getD 0 0]? =some T:=⟨_,hZ (al _ tm)⟩
   have ab:0<T.fk.length:=by
    rw[k.g.fk _ T hT];exact List.length_pos_of_mem (mK.2 (by unfold next;rw[r];exact tm))
   have aJ:=tB k.g hT
   let⟨l3,o3,_,C,I⟩:=z.nat L .i64
   refine oF (O.ld rfl) (ec C (ec I ?_));refine YY k Z (by simp[qu];omega) hT ab λF5 h5 w5 d o hd K=>ec rfl ?_;have dl:=(PH (nb:=0) (ne:=0) k.g k.p hT ab hd).2
   let⟨l4,o4,_,t1,t2⟩:=(z.since o).nat L .i64
   refine oF ((O.since o).ld rfl) (ec t1 (ec t2 ?_));refine TA K (by simp[qu];omega) (by show s.js.length<_;omega) (x:=⟨23,0,0,0,0⟩) λF6 h6 w6 M P=>fin F6 h6 w6 (d++[⟨23,0,0,0,(B.next.getD 0 0:Nat)⟩]) [] (o.trans M) ?_ (by unfold Nv;rw[if_pos (.inl f1)]) ?_
   ·unfold RD;rw[if_pos f1];exact⟨d,hd,rfl⟩
   ·have j1:qO (s.l.length+(a++jZ e.u e.of B.ee s.ex.length).length) (d++[⟨23,0,0,0,(B.next.getD 0 0:Nat)⟩])=[(s.l++(a++jZ e.u e.of B.ee s.ex.length)++d).length]:=by
     rw[vQ,MR (za5 hd),RL];show[_]=[_]
     simp[qu,Zz]
    rw[j1,Ku];simp[Cy]at P⊢;exact P
  ·refine kw (fx ?_);by_cases f2:B.fin=2
   ·refine io ?_;obtain⟨am,an⟩:B.next.length=2/\nz e.u B.cond:=by
     rcases k.g.fin b B r with h|h|h
     ·omega
     ·exact h.2
     ·omega
    have L:B.next[0]? =some (B.next.getD 0 0):=by rw[IY,hZ (by omega)];rfl
    have g1:B.next[1]? =some (B.next.getD 1 0):=by rw[IY,hZ (by omega)];rfl
    have pc:=k.v (iy an);have a1:(ki (hO e.of B.cond) 12).length<=1:=by unfold ki;split <;> simp
    let⟨l3,o3,_,C,I⟩:=z.nat g1 .i64
    refine oF (O.ld rfl) (oF (O.ld rfl) (ec C (ec I ?_)));refine Dj Z (by simp[qu];omega) pc.1 pc.2 12 λF5 h5 w5 o K=>⟨o.next,ec rfl ?_⟩
    have c5:=O.since o;have R:ez (.ptr l3 o3) h5=some (.I (B.next.getD 1 0:Nat)):=by
     let⟨aK,aL,_,ac,R⟩:=(z.since o).nat g1 .i64
     rw[C]at ac;cases ac;exact R
    refine⟨R,c5.ld rfl,?_⟩;refine TA K (by simp[qu];omega) (by show s.js.length<_;omega) (x:=⟨24,lB (hO e.of B.cond) 12,0,0,0⟩) λF6 h6 w6 M P=>⟨M.next,ec rfl ?_⟩
    let⟨l4,o4,_,t1,t2⟩:=((z.since o).since M).nat L .i64
    refine oF ((c5.since M).ld rfl) (ec t1 (ec t2 ?_))
    refine TA P (by simp[qu,YX];omega) (by simp[qu,YX];omega) (x:=⟨23,0,0,0,0⟩) λF7 h7 w7 s7 E7=>
     fin F7 h7 w7 (ki (hO e.of B.cond) 12++[⟨24,lB (hO e.of B.cond) 12,0,0,(B.next.getD 1 0:Nat)⟩,⟨23,0,0,0,(B.next.getD 0 0:Nat)⟩]) [] ((o.trans M).trans s7) ?_ (by unfold Nv;rw[if_pos (.inr f2)]) ?_
    ·unfold RD;rw[if_neg f1,if_pos f2]
    ·have j1:qO (s.l.length+(a++jZ e.u e.of B.ee s.ex.length).length) (ki (hO e.of B.cond) 12++[⟨24,lB (hO e.of B.cond) 12,0,0,(B.next.getD 1 0:Nat)⟩,⟨23,0,0,0,(B.next.getD 0 0:Nat)⟩]) =
       [(s.l++(a++jZ e.u e.of B.ee s.ex.length)++ki (hO e.of B.cond) 12).length,(s.l++(a++jZ e.u e.of B.ee s.ex.length)++ki (hO e.of B.cond) 12++[(⟨24,lB (hO e.of B.cond) 12,0,0,(B.next.getD 1 0:Nat)⟩:Ni)]).length]:=by
      rw[vQ,MR (Du _ _),RL,zbI rfl rfl];simp[qu,YX,Zz]
     rw[j1,Ku];simp[Cy,wBS,RL]at E7⊢;exact E7
   ·refine kw ?_;have f3:B.fin=3/\B.state<e.u.eE.length:=by
     rcases k.g.fin b B r with h|h|h
     ·omega
     ·omega
     ·exact⟨h.1,h.2.2⟩
    obtain⟨fs,ao⟩:∃fs,e.u.eE[B.state]? =some fs:=⟨_,hZ f3.2⟩
    refine oF (O.ld rfl) ?_;refine Ts k Z (by simp[qu];omega) ao λF5 h5 w5 o K=>ec rfl ?_
    refine zP K (by simp[qu];omega) ⟨27,0,0,0,((s.ex++jD e.u e.of B.ee).length:Nat)⟩ λF6 h6 w6 M P=>
     fin F6 h6 w6 [⟨27,0,0,0,((s.ex++jD e.u e.of B.ee).length:Nat)⟩] [Ss e.u e.of B.state (-1)] (o.trans M) ?_ (by unfold Nv;rw[if_neg (by omega)]) ?_
    ·unfold RD;rw[if_neg f1,if_neg f2,qu]
    ·rw[MR (by simp[tM]),Ku];simp[Cy]at P⊢;exact P
 refine oF (c2.ld rfl) (ec U.len (ec (gS _ _ _ _) ?_));have ad:=λhh=>r2 F2 N w [] s2 hh (by simp) (by simp) c2 (by simpa using E2);by_cases hp1:B.fk.length=1
 ·have L:B.fk[0]? =some (B.fk.getD 0 0):=by rw[IY,hZ (by omega)];rfl
  have ae:B.fk.getD 0 0<e.u.blocks.length:=by
   have hm:B.fk.getD 0 0∈Un.ahead e.u b:=by rw[<-k.g.fk b B r];exact yN L
   rw[mK]at hm;unfold next at hm
   split at hm
   ·rename_i B' D;exact(ke.1 D).1
   ·cases hm
  generalize hq:B.fk.getD 0 0=q at*;obtain⟨B',D⟩:∃B',e.u.blocks[q]? =some B':=⟨_,hZ ae⟩
  let⟨l3,o3,_,C,I⟩:=U.nat L .i64
  let⟨l4,o4,bv',bn',bp',_,aq,aM,_,_,_,ba'⟩:=E2.u.B8 D
  have eA:iM (.bool (((B.fk.length:Nat):Int) == 1)) (oB (some (V.ptr e.le 0)) λar=>oB (fR ar) λau=>oB (fJ 2 au) λaw=>oB (fJ 3 aw) λax=>oB (ez ax N) λay=>oB (fJ 4 (.ptr l 0)) λaz=>oB (ez az N) λaA=>oB (gM 1 aA (V.I 0)) λaB=>oB (ez aB N) λaC=>oB (gM 6 ay aC) λaD=>oB (fJ 1 aD) λaE=>oB (ez aE N) λaF=>ef .eql 3 aF (V.I 2)) =
    some (.bool (isIf e.u q)):=by
   simp[eQ,eC,fo];rw[show ez (.ptr e.le (0+2+3)) N=some e.vb from E2.ld 5 rfl,eQ,show ez (.ptr l (0+4)) N=some bp from c2.ld rfl,eQ,show gM 1 bp (V.I 0)=_ from C,eQ,I,eQ,aq,eQ,fo,eQ,ba'.fin,eQ,gS,iT,hp1];unfold isIf;rw[D];simp only;congr 2;rw[WK];simp;omega
  refine ec eA (fX ?_);by_cases hif:isIf e.u q=true
  ·refine fO hif (oF (c2.ld rfl) (ec C (ec I ?_)));refine YY k E2 (by omega) r (by omega) λG A W a S y E3=>?_;have dl:=(PH (nb:=0) (ne:=0) k.g k.p r (by omega) y).2;exact r2 G A W a (s2.trans S) (by unfold LK;rw[hq,if_pos ⟨hp1,hif⟩];exact y) (by omega) (za5 y) (c2.since S) E3
  ·exact fH hif (ad (by unfold LK;rw[hq,if_neg λh=>hif h.2]))
 ·have eA:∀X,iM (.bool (((B.fk.length:Nat):Int) == 1)) X=some (.bool false):=λX=>by
   rw[show(((B.fk.length:Nat):Int) == 1)=false by rw[Ym];omega];rfl
  refine ec (eA _) (fX (fH (by simp) (ad ?_)));unfold LK;rw[if_neg λh=>hp1 h.1]
def Yf(out:List Nl)(n:Nat)(l:Nl):List Nl:=(out++List.replicate (n+1-out.length) (⟨4,0⟩:Nl)).set n l
def qQ(u:U)(of:List Int):Nat->List Nl
 |0=>[]
 | i+1=>match u.ee[i]? with
   |some x=>if x.op=1 then Yf (qQ u of i) x.n.toNat (lg (hO of i)) else qQ u of i
   |none=>qQ u of i
theorem zbJ(out:List Nl)(n:Nat)(l:Nl):(Yf out n l).length=max out.length (n+1):=by
 unfold Yf;rw[wBF,qu,wBM];omega
theorem QO{u:U}(g:Good u)(of:List Int):∀i,(qQ u of i).length<=40
 |0=>PM _
 | i + 1=>by
   have a:=QO g of i;unfold qQ;split
   ·rename_i x b
    split
    ·rename_i e
     have:=g.param i x b e;rw[zbJ];omega
    ·exact a
   ·exact a
theorem zbn(k:TO e)(E:Gm F h cs e s w)(H:∀F' h' we,Sn F h F' h'->Gm F' h' cs e s w->hD S9 F' h' (qQ e.u e.of e.u.ee.length) we->Q we h'):cP CS sd [.ptr e.le 0] h Q:=by
 refine HH ?_;have nv:=k.g.nv;refine ec (eC _ _) (ec pf (oF (E.ld 4 rfl) (ec E.u.v.len ?_)))
 let⟨jp,hjp⟩:=E.p
 let J:Nat->LP:=λn C h'=>∃F' i a,C=[.ptr e.le 0,a,e.vv,.I e.u.ee.length,.I (i:Nat)]/\i+n=e.u.ee.length/\Sn F h F' h'/\ej F' h' (ft S9 yf (qQ e.u e.of i) a::emP e s w cs)
 refine Ej J ?_ (k:=e.u.ee.length) (⟨F,0,.ed,rfl,by omega,.refl _ _,E.H.add .nil λ_ h=>h⟩);intro n _ D _ _ _ Y G;obtain⟨F1,i,_,⟨⟩,hn,s1,V⟩:=G;unfold vM;have Z:=E.u.since s1;by_cases hi:i<e.u.ee.length
 ·have c:=hZ hi;generalize e.u.ee[i]=x at*
  let⟨l1,o1,wa,_,i1,i2,ra,_⟩:=Z.val c
  refine gy (ec i1 (ec i2 ?_));refine ud V rfl rfl (by simp only[yM,fe,ra.one];rfl) λd I l r t c2=>?_;have K:=s1.trans t;have f:∀z A a,Sn d I z A->ej z A (ft S9 yf (qQ e.u e.of (i+1)) a::emP e s w cs)->lV Q (Pp J n) [.ptr e.le 0,a,e.vv,.I e.u.ee.length,.I i] A:=λz A a s9 H9=>by
   refine EO ?_;unfold vJ;refine fG ⟨n-1,by omega,?_⟩;exact⟨z,i+1,a,rfl,by omega,K.trans s9,H9⟩
  refine oF (c2.ld rfl) (xh ?_);by_cases ho:x.op=1
  ·refine io ?_
   let⟨p0,p1,_⟩:=k.g.param i x c ho
   obtain ⟨L,b⟩:∃L,L=λM C h'=>∃m a,C=[.ptr e.le 0,a,.I i,.ptr l 0,e.vv,.I e.u.ee.length,.I i]/\m+M=x.n.toNat+1-(qQ e.u e.of i).length/\Sn d I d h'/\
     ej d h' (ft S9 yf (qQ e.u e.of i++List.replicate m ⟨4,0⟩) a::emP e s w cs):=⟨_,rfl⟩
   refine Ea L ?_ (k:=x.n.toNat+1-(qQ e.u e.of i).length) (by rw[b];exact⟨0,D,rfl,by omega,.refl _ _,by simpa using r⟩);intro M _ o _ _ _ _ _ N q;rw[b]at q;obtain⟨m,_,⟨⟩,hm,O,B⟩:=q;unfold wk;have P:=c2.since O;refine ec (B.len 0 rfl) (oF (P.ld rfl) (zhu ?_));have NP:(qQ e.u e.of i++List.replicate m (⟨4,0⟩:Nl)).length=(qQ e.u e.of i).length+m:=by simp
   by_cases G6:(qQ e.u e.of i).length+m<=x.n.toNat
   ·refine fO (by rw[NP];omega) (ec rfl ?_);rw[show iO yf 2 1 (.agg [.I 0,.I 0]) [(0,.agg [.I 4,.I 0])]=some (.cells yf 2 true false (KW ⟨4,0⟩),λl=> .slice l 0 1) from rfl,fK]
    let⟨w4,W,e4,_,R,s4⟩:=B.pT 0 rfl (iU:=16) (MB:=yf) (ro:=false) (y:=(⟨4,0⟩:Nl)) (w:=KW ⟨4,0⟩) rfl (by decide) (by decide) (by rw[NP];omega)
    rw[show fg yf 2 16 o (.slice N.next 0 1) (N.new (.cells yf 2 true false (KW ⟨4,0⟩)))=_ from e4,eh];refine⟨M-1,by omega,?_⟩;rw[b];refine⟨m+1,w4,rfl,by omega,O.trans s4,?_⟩;rw[List.replicate_succ',<-Cy];exact R
   ·refine fH (by rw[NP];omega) ?_;have S:m=x.n.toNat+1-(qQ e.u e.of i).length:=by omega
    subst S;have T:fZ 2 (.ptr e.le (0+0)) N=some (.agg [e.xW,.I e.fF]):=(zy (B.get 1 rfl)).trans rfl;have pv:=k.v (ke.1 c).1;refine oF (P.ld rfl) (ec (eC _ _) (ec pf (ec T ?_)));refine Vm B (j:=jp+6) (by simpa[emP]using hjp) pv.1 pv.2 λF4 W s4 R=>?_;have U:=Int.toNat_of_nonneg p0
    let⟨l5,o5,h5,X,q2,q3,H5,s5⟩:=R.stE 0 rfl (k:=x.n.toNat) (by rw[NP];omega) (y:=lg (hO e.of i)) (ws:=KW (lg (hO e.of i))) rfl
    rw [U]at X;refine⟨s4.next,ec X ⟨(P.since s4).ld rfl,?_⟩⟩;rw[show gj 2 (.ptr l5 o5) (.agg (KW (lg (hO e.of i)))) W=_ from q2,eh];refine⟨q3,f F4 h5 o ((O.trans s4).trans s5) ?_⟩;have:qQ e.u e.of (i+1)=Yf (qQ e.u e.of i) x.n.toNat (lg (hO e.of i)):=by
     conv=>lhs;unfold qQ
     rw[c];simp[ho,if_true]
    rw[this];exact H5
  ·refine kw (f d I D (.refl _ _) ?_);have:qQ e.u e.of (i+1)=qQ e.u e.of i:=by
    conv=>lhs;unfold qQ
    rw[c];simp[ho,if_false]
   rw[this];exact r
 ·refine iA ?_;obtain rfl:i=e.u.ee.length:=by omega
  let⟨r,t,r2⟩:=V.hY 0 rfl
  exact H _ Y D (s1.trans t) (E.since (s1.trans t) r.tail) r2
variable{u:U}{of:List Int}{fF:Int}{In Out:Nat->Nat->Prop}
theorem zaK{c:Bool}(a:mn u (iu u) In Out)(b:kK u Out of fF)(h:c=false->(∀Out,¬kK u Out of fF)\/∃In Out,mn u (iu u) In Out/\¬kK u Out of fF):c=true:=by
 cases c with
 |true=>rfl
 | false=>
   rcases h rfl with h|⟨_,_,d,e⟩
   ·simp_all
   ·exact(e (b.congr a d)).elim
theorem EE(a:kK u Out of fF){v:Nat}(hv:v<u.ee.length):of[v]? =some (hO of v)/\OT fF (hO of v):=by
 have hl:v<of.length:=by rw[a.len];exact hv
 have e:hO of v=of[v]:=by unfold hO;rw[IY,hZ hl];rfl
 rw[e];exact⟨hZ hl,a.pl _ (AL hl)⟩
theorem zcc(g:Good u)(h:kK u Out of fF)(p t:Nat):(km (mN u of p t)).Nodup:=by
 unfold mN;split;rotate_left
 ·exact .nil
 rename_i B k;have d:∀n,(km ((B.ee.take n).flatMap (rA u of (jM p B.fk)))).Nodup/\∀x∈km ((B.ee.take n).flatMap (rA u of (jM p B.fk))),∃j v,j<n/\At u v t j/\gJ u v=true/\of[v]? =some x:=λn=>by
  induction n with
  |zero=>grind[km]
  | succ n m=>
    let⟨e,o⟩:=m
    by_cases hn:n<B.ee.length
    ·rw[Ho hn,wA2,wBm]
     have f:At u B.ee[n] t n:=⟨B,k,hZ hn⟩
     generalize B.ee[n]=v at*;have up:∀x∈km ((B.ee.take n).flatMap (rA u of (jM p B.fk))),∃j v,j<n+1/\At u v t j/\gJ u v=true/\of[v]? =some x:=by grind
     unfold rA;split
     ·rename_i x i
      split
      ·rename_i q
       have r:gJ u v=true:=by unfold gJ;rw[i];simp[iV,q]
       let⟨s,G⟩:=EE h (ke.1 i).1
       have e1:∀l,km (l++[(hO of (x.args.getD (jM p B.fk) 0),hO of v)])=km l++[hO of v]:=by grind[km]
       rw[e1];refine⟨wBk.2 ⟨e,by simp,λa z b A=>?_⟩,λy c=>?_⟩
       ·rw[Hh.1 A]
        rintro rfl
        let⟨j,w,C,D,E,F⟩:=o _ z
        exact(h.pa t n).hd v f r j w C D E (F.trans s.symm)
       ·rcases yX.1 c with c|c
        ·exact up y c
        grind
      ·rw[Ku]
       exact⟨e,up⟩
     ·rw[Ku]
      exact⟨e,up⟩
    grind[Xb]
 have:=(d B.ee.length).1
 simp_all
theorem Wm(g:Good u)(a:kK u Out of fF):KZ u of:=λv hv=>by
 have:=(EE a hv).2;have b:=a.s1
 grind[OT]
theorem Vs(g:Good u)(hp:KZ u of){m:Nat}(k:∀(t:Nat) T,u.blocks[t]? =some T->T.ee.length<=m)(nw:(mJ u of).length<=1048576){i:Nat}{cs:List (List Ni)}(h:zi u of (u.blocks.take i) 0 0 cs):cs.flatten.length<=u.blocks.length*(8*m+3)/\cs.length<=u.blocks.length/\∀x∈cs.flatten,rE u u.blocks.length (mJ u of).length x:=by
 have hl:=h.length;have l:=List.length_take_le' i u.blocks;have e:∀(n:Nat) c,cs[n]? =some c->(∀x∈c,rE u u.blocks.length (mJ u of).length x)/\c.length<=8*m+3:=λn c f=>by
  have o:=(ke.1 f).1;obtain⟨B,a⟩:∃B,(u.blocks.take i)[n]? =some B:=by simp_all
  let⟨c',j,b⟩:=h.get a
  rw [f]at j;cases j;rw[Jn,Jn]at b;have d:n<i:=by
   have:=(ke.1 a).1;rw[TV]at this;omega
  rw[List.getElem?_take_of_lt d]at a;rw[List.take_take,wBU (by omega)]at b
  let⟨p,q,r⟩:=YO g hp nw a b (Nw a) k
  grind
 refine⟨OA (MS λc hc=>?_) (wBJ _ (by omega)),by omega,λx s=>?_⟩
 ·grind[mz]
 grind[VH]
theorem ZR{a b c:V}{m n:Int}(d:a.one=true)(e:b.one=true):fq [V.I 0,V.I 0,V.ed,V.ed,V.ed] gc [(0,V.I m),(1,V.I n),(3,a),(4,b)]=some (.agg [.I m,.I n,.ed,a,b]):=by
 unfold fq;simp[yd,tD d,tD e];rfl
abbrev LS:Nat:=29
variable{vv vb vs xW:V}
theorem zdq(g:Good u)(H0:ej F h cs)(hu:EZ F h u vv vb vs){j:Nat}(hj:cs[j]? =some (ft eZ fN of xW))(hA:mn u (iu u) In Out)(hR:kK u Out of fF)
  {m:Nat} (hm:∀(t:Nat) T,u.blocks[t]? =some T->T.ee.length<=m) (aZ:u.blocks.length*(8*m+3)<=32768)
  (H:∀F' h' wc we wn l,Sn F h F' h'->ej F' h' cs->EmitC u of l->hD eY F' h' (xL l) wc->hD eEx F' h' (mJ u of) we->hD S9 F' h' (qQ u of u.ee.length) wn->Q (.tuple [.agg [.I u.func,.I u.pc,wc,we,wn],.I 0]) h') :
  cP CS Cq [.agg (uC u vv vb vs),.agg [xW,.I fF]] h Q:=by
 refine WB ?_;have nb:=g.nb;have nv:=g.nv;have a0:(mJ u of).length<=40000:=by
  have h1:=Sq (of:=of) hm;have h2:u.blocks.length*(m+1)<=u.blocks.length*(8*m+3):=by grind
  omega
 have C:=Wm g hR;refine tR H0 hu.one λF1 h1 lu H1 s1 f=>?_;refine tR H1 (by simp[ H1.one j hj];rfl) λF2 h2 lp H2 s2 c2=>?_;rw[fK]
 let⟨H3,s3⟩:=H2.xC LS [.I 0,.I 0,.ed,.ed,.ed]
 have H3:=H3;have s3:=s3;generalize h2.next=lr at*;have ab:=(s1.trans s2).trans s3;have f:=(f.since s2).since s3;have c2:=c2.since s3;refine ec (f.tj rfl) (QW g H3 (hu.since ab) λF4 h4 s4 H4=>?_);have f:=f.since s4;have c2:=c2.since s4;refine ec (rfl) ?_;refine fY (ec (f.tj rfl) (fY (ec (c2.tj rfl) ?_)));have S:=ab.trans s4;refine qC (zcW g H4 (hu.since S) (ii:=j+1) (by simpa using hj) (by rw[hR.len];omega) λF5 h5 c s5 H5 _ az=>?_);rw[zaK hA hR az];refine ec (rfl) (fX (fH (by simp) ?_));have f:=f.since s5;have c2:=c2.since s5;have u5:=(hu.since S).since s5;have aA:=S.trans s5;refine ec (c2.tj rfl) (ec rfl (ec (f.tj rfl) (ec rfl ?_)))
 have Ha:ej F5 h5 (ft Zm vE [] .ed::ft eN fN [] .ed::ft eN fN [] .ed::ft eEx De [] .ed::eD lr LS [.I 0,.I 0,.ed,.ed,.ed]::cs):=
  (((H5.add (p:=ft eEx De [] .ed) .nil λ_ h=>h).add (p:=ft eN fN [] .ed) .nil λ_ h=>h).add (p:=ft eN fN [] .ed) .nil λ_ h=>h).add .nil λ_ h=>h
 refine oC Ha (by simp only[fe,H1.one j hj,u5.v.one,u5.b.one,u5.s.one];rfl) λh6 H6 s6=>?_;generalize h5.next=le at*;obtain⟨e,he⟩:∃e:Ge,e=⟨le,u,vv,vb,vs,of,xW,fF⟩:=⟨_,rfl⟩
 have k:TO e:=by
  subst he;exact⟨g,C,hR.len,by grind[zcc]⟩
 have E6:Gm F5 h6 (eD lr LS [.I 0,.I 0,.ed,.ed,.ed]::cs) e ⟨[],[],[],[]⟩ ⟨.ed,.ed,.ed,.ed⟩:=by
  subst he;exact⟨H6,u5.since s6,⟨j+1,by simp_all⟩,by simp⟩
 have el:e.le=le:=by rw[he]
 have eu:e.u=u:=by rw[he]
 have eo:e.of=of:=by rw[he]
 rw[<-el];have f:=f.since s6;have aB:=aA.trans s6;have u6:=u5.since s6;refine oF (f.ld rfl) (ec u6.b.len ?_)
 let J:Nat->LP:=λn l' h'=>∃F' i w' xs,l' = [.ptr lu 0,.ptr lr 0,.ptr e.le 0,.I u.blocks.length,.I (i:Nat)]/\i+n=u.blocks.length/\Sn F5 h6 F' h'/\zi u of (u.blocks.take i) 0 0 xs/\
   Gm F' h' (eD lr LS [.I 0,.I 0,.ed,.ed,.ed]::cs) e ⟨xs.flatten,iL 0 xs,qO 0 xs.flatten,(u.blocks.take i).flatMap (Dy u of)⟩ w'
 refine Rm J ?_ (k:=u.blocks.length) (⟨F5,0,_,[],rfl,by omega,.refl _ _,.nil _ _,E6⟩);intro n _ _ _ _ _ h7 aC;obtain⟨F7,i,D,xs,⟨⟩,hn,s7,E,A⟩:=aC
 let⟨xl,xb,xp⟩:=Vs g C hm (by omega) E
 unfold HO;have jl:=VQ xs.flatten 0;by_cases hi:i<u.blocks.length
 ·refine gy (oN (A.ld 8 rfl) (oN (A.ld 7 rfl) (ec (A.H.len 1 rfl) ?_)));rw[show iO 3 1 1 (.I 0) [(0,.I xs.flatten.length)]=_ from F0 _,gI];obtain⟨v8,h8,e8,n8,H8,s8⟩:=A.H.pT 2 rfl (iU:=8) rfl (by decide) (by decide) (by grind[FH]);refine⟨⟨fh _ _,bq⟩,gz (A.ld 7 rfl) (fi _ (CY A.H 0 rfl)),gz (A.ld 8 rfl) (fi _ (CY A.H 0 rfl)),?_⟩;rw[show fg 3 1 8 D.b (.slice h7.next 0 1) (h7.new (.cells 3 1 true false (oY [xs.flatten.length])))=_ from e8,eh]
  let⟨h9,e9,n9,U,L⟩:=H8.st 0 rfl (o:=0+8) (by simp[emC]) (H8.one 2 rfl)
  refine⟨by simp_all,ec (eC _ _) (ec pf ?_)⟩;rw[e9,eh];have ac:=s8.trans L
  have E9:Gm F7 h9 (eD lr LS [.I 0,.I 0,.ed,.ed,.ed]::cs) e ⟨xs.flatten,iL 0 xs++[xs.flatten.length],qO 0 xs.flatten,(u.blocks.take i).flatMap (Dy u of)⟩ {D with b:=v8}:=
   ⟨U,A.u.since ac,A.p,by have:=A.n;grind[qu,FH,YX]⟩
  obtain⟨B,hB⟩:∃B,u.blocks[i]? =some B:=by simp_all
  have ad:((u.blocks.take i).flatMap (Dy u of)).length<100000:=by have:=Nw (of:=of) hB;omega
  refine ⟨n9,zb4 k E9 (by grind) (by grind) ad (by rw[eu];exact hB) λM ae ag c G hc d=>?_⟩;rw[eu,eo]at hc d;have ah:u.blocks.take (i+1)=u.blocks.take i++[B]:=by
   rw[Ho hi];rw[hZ hi]at hB;rw[Option.some.inj hB]
  have O:zi u of (u.blocks.take (i+1)) 0 0 (xs++[c]):=by
   rw[ah];refine E.snoc ?_;rw[Jn,Jn,TV,wBU (by omega)];exact hc
  let⟨yl,_,_⟩:=Vs g C hm (by omega) O
  have aD:(xs++[c]).flatten=xs.flatten++c:=by simp
  have d:Gm M ae (eD lr LS [.I 0,.I 0,.ed,.ed,.ed]::cs) e ⟨(xs++[c]).flatten,iL 0 (xs++[c]),qO 0 (xs++[c]).flatten,(u.blocks.take (i+1)).flatMap (Dy u of)⟩ ag:=by
   rw[OL,aD,vQ,ah,wA2,wBm,Jn];exact d
  refine oN (d.ld 7 rfl) (ec (d.H.len 1 rfl) (ec (by rfl) (fX (fH ?_ ?_))))
  ·grind
  refine fG ⟨n-1,by omega,?_⟩;exact⟨M,i+1,ag,xs++[c],rfl,by omega,(s7.trans ac).trans G,O,d⟩
 refine iA ?_;obtain rfl:i=u.blocks.length:=by omega
 rw[PG]at E A;have a1:=E.length;have ai:EmitC u of (xs.flatten.map (patch (iL 0 xs))):=⟨xs,E,rfl⟩
 refine oN (A.ld 9 rfl) (ec (A.H.len 3 rfl) ?_)
 obtain ⟨J1,W⟩:∃J1,J1=λn l' h'=>∃i a c,l' = [.ptr lu 0,.ptr lr 0,.ptr e.le 0,D.j,.I ((qO 0 xs.flatten).length:Nat),.I (i:Nat)]/\i+n=(qO 0 xs.flatten).length/\Sn F5 h6 F7 h'/\xs.flatten=a++c/\(qO 0 xs.flatten).drop i=qO a.length c/\
   Gm F7 h' (eD lr LS [.I 0,.I 0,.ed,.ed,.ed]::cs) e ⟨a.map (patch (iL 0 xs))++c,iL 0 xs,qO 0 xs.flatten,mJ u of⟩ D:=⟨_,rfl⟩
 refine QB J1 ?_ (k:=(qO 0 xs.flatten).length) (by rw[W];exact⟨0,[],xs.flatten,rfl,by omega,s7,rfl,rfl,A⟩);intro n1 _ _ _ _ _ _ h8 aj;rw[W]at aj;obtain⟨q,a,c,⟨⟩,hq,s8,ak,al,r⟩:=aj;unfold HZ;by_cases G6:q<(qO 0 xs.flatten).length
 ·have aE:=hZ G6;have am:=wAb G6;generalize (qO 0 xs.flatten)[q]=p at*;rw[al]at am;obtain⟨z,x,N,rfl,hp,aF,an,aG⟩:=Sa am;have aH:x∈xs.flatten:=by rw[ak];simp
  let⟨x0,x1⟩:=(xp x aH).j an
  obtain⟨bn,ao⟩:∃bn,(iL 0 xs)[x.n.toNat]? =some bn:=by grind[hZ,FH]
  have aI:x.n=((x.n.toNat:Nat):Int):=by omega
  have aq:(a.map (patch (iL 0 xs))++(z++x::N))[p]? =some x:=by
   rw[Ze (by simp;omega),RC,Ze (by omega),hp,show a.length+z.length-a.length-z.length=0 by omega];rfl
  have X:=(ke.1 aq).1
  let⟨l1,o1,p1,p2⟩:=r.H.Z5 3 rfl aE .i64
  let⟨l2,o2,ws,q1,q2,q3,q4⟩:=r.H.ixO 1 rfl X .i64
  have e3:=Option.some.inj ((hZ X).symm.trans aq);rw[e3]at q3;have q3:=q3;subst q3;have qn:ez (.ptr l2 (o2+4)) h8=some (.I ((x.n.toNat:Nat):Int)):=by rw[<-aI];exact q4 4 _ rfl
  let⟨l3,o3,r1,r2⟩:=r.H.Z5 2 rfl ao .i64
  obtain ⟨l4,o4,h9,t1,t2,t3,U,L⟩:=r.H.stP 1 rfl X (j:=4) (by decide) (y:={x with n:=(bn:Nat)}) rfl (λw hw=>by
   rw[e3]at hw;have hw:=hw;subst hw;rfl)
  refine gy (ec p1 (ec p2 (oN (r.ld 7 rfl) (oN (r.ld 8 rfl) (oN (r.ld 7 rfl) (ec q1 (oF qn (ec r1 (ec r2 (ec t1 (ec pf ?_)))))))))));rw[t2,eh];refine⟨t3,?_⟩;refine fG ⟨n1-1,by omega,?_⟩;rw[W];have aJ:patch (iL 0 xs) x = {x with n:=(bn:Nat)}:=by
   unfold patch;rw[if_pos an,IY,ao];rfl
  have ar:(a.map (patch (iL 0 xs))++(z++x::N)).set p {x with n:=(bn:Nat)} = (a++z++[x]).map (patch (iL 0 xs))++N:=by
   rw[List.set_append_right _ _ (by simp;omega),RC,List.set_append_right _ _ (by omega),hp,show a.length+z.length-a.length-z.length=0 by omega];simp[VZ aF,aJ]
  refine⟨q+1,a++z++[x],N,rfl,by omega,s8.trans L,by grind,?_,?_⟩
  ·grind
  ·rw[<-ar];exact⟨U,r.u.since L,r.p,by rw[wBF];exact r.n⟩
 ·refine iA ?_;rw[wBX (by omega)]at al;have aK:∀x∈c,tM x=false:=λx hx=>by
   cases hj:tM x with
   |false=>rfl
   | true=>
     obtain⟨s,t,rfl⟩:=wBt hx
     simp_all[qO,vQ,List.append_eq_nil_iff,if_pos]
  have aL:a.map (patch (iL 0 xs))++c=xs.flatten.map (patch (iL 0 xs)):=by rw[ak,SL,VZ aK]
  rw[aL]at r;have a2:=ZF g C ai hm (by omega);generalize xs.flatten.map (patch (iL 0 xs))=l at*;have f:=f.since s8;have aM:=aB.trans s8;have Y:=r.H.one 4 rfl;refine oF (f.ld rfl) (oF (f.ld rfl) (oN (r.ld 10 rfl) ?_));rw[gI]
  let⟨U,L⟩:=r.H.xC LS [.I 0,.I 0,.ed,.ed,.ed]
  have U:=U;have L:=L;have g9:=fh h8 (.cells LS 1 true false [.I 0,.I 0,.ed,.ed,.ed]);generalize h8.new (.cells LS 1 true false [.I 0,.I 0,.ed,.ed,.ed])=h9 at*;generalize h8.next=ln at*
  let⟨jp,hjp⟩:=r.p
  have E9:Gm F7 h9 (eD ln LS [.I 0,.I 0,.ed,.ed,.ed]::eD lr LS [.I 0,.I 0,.ed,.ed,.ed]::cs) e ⟨l,iL 0 xs,qO 0 xs.flatten,mJ u of⟩ D:=
   ⟨U.zbx,r.u.since L,⟨jp+1,by simp_all⟩,r.n⟩
  have f:=f.since L;refine⟨⟨g9,bq⟩,E9.ld 10 rfl,f.ld rfl,f.ld rfl,zbn k E9 λM ae wn G d rn=>⟨G.next,?_⟩⟩;rw[eu,eo]at rn;have f:=f.since G;refine ec (ZR (c:= .ed) Y rn.one) ⟨⟨(d.H.get 5 rfl),bq⟩,d.ld 10 rfl,f.ld rfl,f.ld rfl,?_⟩
  let⟨aN,aO,aP,aQ,Z⟩:=d.H.Tw 5 rfl (n:=5) (ws:=[.I u.func,.I u.pc,.ed,D.e,wn]) rfl rfl (by simp only[fe,Y,rn.one];rfl)
  rw[aO,eh]
  have au:Gm M aN (eD ln LS [.I u.func,.I u.pc,.ed,D.e,wn]::eD lr LS [.I 0,.I 0,.ed,.ed,.ed]::cs) e ⟨l,iL 0 xs,qO 0 xs.flatten,mJ u of⟩ D:=
   ⟨aQ,d.u.since Z,⟨jp+1,by simp_all⟩,d.n⟩
  refine⟨aP,oN (au.ld 7 rfl) ?_⟩
  let⟨aR,aS,aa⟩:=au.H.hY 1 rfl
  let⟨aT,P,aU⟩:=aR.hY 4 rfl
  have aa:=aa.since P;refine zaB aT aa (by grind) (by simp_all) λa3 a4 wc R aV rc=>?_;refine ec rfl (ec rfl (ec (rfl) (fX (fH (by simp) (ec pf ?_)))))
  let⟨aw,aW,_,ax,I⟩:=aV.st 5 rfl (o:=0+2) (by simp) rc.one
  rw[aW,eh];have o5:gi [V.I u.func,.I u.pc,wc,D.e,wn]=true:=by simp only[fe,Y,rn.one,rc.one];rfl
  refine ec (show fZ 5 (.ptr ln 0) aw=some (.agg [V.I u.func,.I u.pc,wc,D.e,wn]) from ax.tj 5 rfl rfl) ?_
  let⟨aX,aY,_,ay,K⟩:=ax.Tw 6 rfl (ws:=[.I u.func,.I u.pc,wc,D.e,wn]) rfl rfl o5
  rw[show gj 5 (.ptr lr 0) (.agg _) aw=_ from aY,eh];refine ec (ay.tj 6 rfl rfl) ?_;have sA:=aM.trans (L.trans (G.trans Z));have sB:=(aS.trans P).trans (R.trans (I.trans K));have sC:=R.trans (I.trans K);exact H _ aX wc D.e wn l (sA.trans sB) ay.tail.tail.tail.tail.tail.tail.tail ai (rc.since (I.trans K)) (aU.since sC) (rn.since (Z.trans sB))
