/- Parts. -/
import Derived.Test.YtcoaokdoecgcbaaGreatDoorM41
import Derived.Test.YtcoaokdoecgcbaaGreatDoorM38
set_option maxHeartbeats 4000000
namespace Go.Proofs.YtcoaokdoecgcbaaGreatDoor.Hx
open Un Dm
section
variable{F F':Nat->Prop}{h h':Hp}{cs:List Pc}{Q:fo}{e:Ge}{s:Ga}{w:Gx}
theorem zdr(k:S4 e){b:Nat}{B:Bk}(d:e.u.blocks[b]? =some B)(n:Nat):(jQ e.u e.of (B.ee.take n) s.ex.length).length<=4*B.ee.length/\(ju e.u e.of (B.ee.take n)).length<=B.ee.length:=by
 have hl:=List.length_take_le' n B.ee;have:∀l,(ju e.u e.of l).length<=l.length:=λl=>by
  induction l with
  |nil=>simp[ju]
  | cons v l c=>
    have:(rJ e.u e.of v).length<=1:=by
      unfold rJ;split
      ·unfold Bv;split <;> simp
      ·simp
    unfold ju at c⊢;simp only[Ob,nB,MZ];omega
 have a:∀l k,(jQ e.u e.of l k).length<=4*l.length:=λl=>by
  induction l with
  |nil=>intro k;simp[jQ]
  | cons v l c=>
    intro k;have f:(zQ e.u e.of v k).length<=4:=by
      unfold zQ;split
      ·rename_i x g
       unfold px ko Ad
       repeat' split
       all_goals simp
      ·simp
    have:=c (k+(rJ e.u e.of v).length);simp[jQ,nB,MZ];omega
 exact⟨by have:=a (B.ee.take n) s.ex.length;omega,by have:=this (B.ee.take n);omega⟩
theorem zbS(k:S4 e)(E:Gm F h cs e s w)(hl:s.l.length<100000)(hj:s.js.length<100000)(he:s.ex.length<100000){b:Nat}{B:Bk}(r:e.u.blocks[b]? =some B)
  (H:∀F' h' w' c,Sn F h F' h'->zap e.u e.of b B s.ex.length c->Gm F' h' cs e {s with l:=s.l++c,js:=s.js++qy s.l.length c,ex:=s.ex++Cu e.u e.of B} w'->Q (.tuple []) h') :
  cP CS rX [.ptr e.le 0,.I b] h Q:=by
 refine GH ?_
 let⟨l1,o1,bv,bn,bp,_,b1,b2,rv,rn,rp,_⟩:=E.u.Bt r
 refine ec (eC _ _) (ec pf (oF (E.ld 5 rfl) (ec b1 (ec b2 ?_))));refine yR E.H rfl rfl (by simp only[pY,fh,rv.one,rn.one,rp.one];rfl) λF2 N l H2 s2 c2=>?_;have E2:=E.since s2 H2;have U:=rp.since s2;have aH:=tw k.g r;have r2:∀G A W a,Sn F h G A->KJ e.u e.of b B a->a.length<=12000->(∀i∈a,tJ i=false)->Cl G A l 79 (pY B bv bn bp)->Gm G A cs e {s with l:=s.l++a} W->mg Q [.ptr e.le 0,.I b,.ptr l 0] A:=by
  intro G A W a S y aI ag f E3;refine DR ?_;unfold uX;have Y:=rv.since S;refine oF (f.ld rfl) (ec Y.len ?_)
  let J:Nat->LP:=λn l' h'=>∃F' j w',l' = [.ptr e.le 0,.I b,.ptr l 0,bv,.I B.ee.length,.I (j:Nat)]/\j+n=B.ee.length/\Sn G A F' h'/\
    Gm F' h' cs e {s with l:=s.l++(a++jQ e.u e.of (B.ee.take j) s.ex.length),ex:=s.ex++ju e.u e.of (B.ee.take j)} w'
  refine Ei J ?_ (k:=B.ee.length) (⟨G,0,W,rfl,by omega,.refl _ _,by simpa[jQ,ju]using E3⟩);intro n _ _ _ _ _ _ h4 ah;obtain⟨F4,j,w4,⟨⟩,hn,s4,Z⟩:=ah;unfold uY;have O:=f.since s4;have z:=(rn.since S).since s4
  let⟨vl1,vl2⟩:=zdr (s:=s) k r j
  by_cases hjl:j<B.ee.length
  ·have hv:=hN hjl;have ai:=JE hjl;generalize B.ee[j]=v at*
   let⟨l3,o3,_,C,I⟩:=(Y.since s4).nat hv .i64
   have aa:=k.g.uz v b j ⟨B,r,hv⟩;obtain⟨x,hx⟩:∃x,e.u.ee[v]? =some x:=⟨_,hN aa⟩
   refine gJ (ec C (ec I ?_));refine zbW k Z (by simp[nB];omega) (by simp[nB];omega) hx λF5 h5 w5 o K=>?_;refine fT ⟨n-1,by omega,?_⟩;refine⟨F5,j+1,w5,rfl,by omega,s4.trans o,?_⟩;have e1:zQ e.u e.of v (s.ex.length+(ju e.u e.of (B.ee.take j)).length)=px e.of v x (s.ex++ju e.u e.of (B.ee.take j)).length:=by unfold zQ;rw[hx,nB]
   have e2:rJ e.u e.of v=Bv e.u e.of v x:=by unfold rJ;rw[hx]
   rw[ai,WM,Wi,e1,e2];simp[Bo]at K⊢;exact K
  refine iY ?_;obtain rfl:j=B.ee.length:=by omega
  rw[QQ]at Z vl1 vl2;have aj:=S.trans s4;have ak:∀m,qy m (a++jQ e.u e.of B.ee s.ex.length)=[]:=λm=>Lr λi hi=>(vU.1 hi).elim (ag i) (X1 k.g _ _ i);have jp:∀f m,qy m (a++jQ e.u e.of B.ee s.ex.length++f)=qy (m+(a++jQ e.u e.of B.ee s.ex.length).length) f:=λf m=>by rw[vJ,ak,QX]
  have fin:∀F9 h9 w9 f X,Sn F4 h4 F9 h9->Qr e.u e.of b B (s.ex.length+(ju e.u e.of B.ee).length) f->Lv e.u e.of B=X->
    Gm F9 h9 cs e {s with l:=s.l++(a++jQ e.u e.of B.ee s.ex.length++f),js:=s.js++qy (s.l.length+(a++jQ e.u e.of B.ee s.ex.length).length) f,ex:=s.ex++(ju e.u e.of B.ee++X)} w9->Q (.tuple []) h9:=by
   rintro F9 h9 w9 f _ s9 A rfl E9;refine H F9 h9 w9 (a++jQ e.u e.of B.ee s.ex.length++f) (aj.trans s9) ⟨a,f,y,A,rfl⟩ ?_;rw[jp];exact E9
  refine oF (O.ld rfl) (fD ?_);have al:=λt ht=>k.g.nx b t (by unfold next;rw[r];exact ht);by_cases f1:B.fin=1
  ·refine fX (by omega) ?_;obtain⟨aG,am⟩:B.fin=1/\B.next.length=1:=by rcases k.g.fin b B r with h|h|h <;> omega
   have L:B.next[0]? =some (B.next.getD 0 0):=by rw[Dz,hN (by omega)];rfl
   have tm:=Ap L;obtain⟨T,hT⟩:∃T,e.u.blocks[B.next.getD 0 0]? =some T:=⟨_,hN (al _ tm)⟩
   have ab:0<T.fj.length:=by
    rw[k.g.fj _ T hT];exact List.length_pos_of_mem (mU.2 (by unfold next;rw[r];exact tm))
   have aJ:=tw k.g hT
   let⟨l3,o3,_,C,I⟩:=z.nat L .i64
   refine oF (O.ld rfl) (ec C (ec I ?_));refine X0 k Z (by simp[nB];omega) hT ab λF5 h5 w5 d o hd K=>ec rfl ?_;have dl:=(Oi (nb:=0) (ne:=0) k.g k.p hT ab hd).2
   let⟨l4,o4,_,t1,t2⟩:=(z.since o).nat L .i64
   refine oF ((O.since o).ld rfl) (ec t1 (ec t2 ?_));refine RY K (by simp[nB];omega) (by show s.js.length<_;omega) (x:=⟨23,0,0,0,0⟩) λF6 h6 w6 M P=>fin F6 h6 w6 (d++[⟨23,0,0,0,(B.next.getD 0 0:Nat)⟩]) [] (o.trans M) ?_ (by unfold Lv;rw[if_pos (.inl f1)]) ?_
   ·unfold Qr;rw[if_pos f1];exact⟨d,hd,rfl⟩
   ·have j1:qy (s.l.length+(a++jQ e.u e.of B.ee s.ex.length).length) (d++[⟨23,0,0,0,(B.next.getD 0 0:Nat)⟩])=[(s.l++(a++jQ e.u e.of B.ee s.ex.length)++d).length]:=by
     rw[vJ,Lr (zbL hd),QX];show[_]=[_]
     simp[nB,VB]
    rw[j1,GA];simp[Bo]at P⊢;exact P
  ·refine fN (by omega) (fD ?_);by_cases f2:B.fin=2
   ·refine fX (by omega) ?_;obtain⟨am,an⟩:B.next.length=2/\nD e.u B.cond:=by
     rcases k.g.fin b B r with h|h|h
     ·omega
     ·exact h.2
     ·omega
    have L:B.next[0]? =some (B.next.getD 0 0):=by rw[Dz,hN (by omega)];rfl
    have g1:B.next[1]? =some (B.next.getD 1 0):=by rw[Dz,hN (by omega)];rfl
    have pc:=k.v (iC an);have a1:(ko (hO e.of B.cond) 12).length<=1:=by unfold ko;split <;> simp
    let⟨l3,o3,_,C,I⟩:=z.nat g1 .i64
    refine oF (O.ld rfl) (oF (O.ld rfl) (ec C (ec I ?_)));refine CU Z (by simp[nB];omega) pc.1 pc.2 12 λF5 h5 w5 o K=>⟨o.next,ec rfl ?_⟩
    have c5:=O.since o;have R:eD (.ptr l3 o3) h5=some (.I (B.next.getD 1 0:Nat)):=by
     let⟨aK,aL,_,ac,R⟩:=(z.since o).nat g1 .i64
     rw[C]at ac;cases ac;exact R
    refine⟨R,c5.ld rfl,?_⟩;refine RY K (by simp[nB];omega) (by show s.js.length<_;omega) (x:=⟨24,lD (hO e.of B.cond) 12,0,0,0⟩) λF6 h6 w6 M P=>⟨M.next,ec rfl ?_⟩
    let⟨l4,o4,_,t1,t2⟩:=((z.since o).since M).nat L .i64
    refine oF ((c5.since M).ld rfl) (ec t1 (ec t2 ?_))
    refine RY P (by simp[nB,Tj];omega) (by simp[nB,Tj];omega) (x:=⟨23,0,0,0,0⟩) λF7 h7 w7 s7 E7=>
     fin F7 h7 w7 (ko (hO e.of B.cond) 12++[⟨24,lD (hO e.of B.cond) 12,0,0,(B.next.getD 1 0:Nat)⟩,⟨23,0,0,0,(B.next.getD 0 0:Nat)⟩]) [] ((o.trans M).trans s7) ?_ (by unfold Lv;rw[if_pos (.inr f2)]) ?_
    ·unfold Qr;rw[if_neg f1,if_pos f2]
    ·have j1:qy (s.l.length+(a++jQ e.u e.of B.ee s.ex.length).length) (ko (hO e.of B.cond) 12++[⟨24,lD (hO e.of B.cond) 12,0,0,(B.next.getD 1 0:Nat)⟩,⟨23,0,0,0,(B.next.getD 0 0:Nat)⟩]) =
       [(s.l++(a++jQ e.u e.of B.ee s.ex.length)++ko (hO e.of B.cond) 12).length,(s.l++(a++jQ e.u e.of B.ee s.ex.length)++ko (hO e.of B.cond) 12++[(⟨24,lD (hO e.of B.cond) 12,0,0,(B.next.getD 1 0:Nat)⟩:Ni)]).length]:=by
      rw[vJ,Lr (Cy _ _),QX,zbF rfl rfl];simp[nB,Tj,VB]
     rw[j1,GA];simp[Bo,wBT,QX]at E7⊢;exact E7
   ·refine fN (by omega) ?_;have f3:B.fin=3/\B.state<e.u.ez.length:=by
     rcases k.g.fin b B r with h|h|h
     ·omega
     ·omega
     ·exact⟨h.1,h.2.2⟩
    obtain⟨fs,ao⟩:∃fs,e.u.ez[B.state]? =some fs:=⟨_,hN f3.2⟩
    refine oF (O.ld rfl) ?_;refine Sg k Z (by simp[nB];omega) ao λF5 h5 w5 o K=>ec rfl ?_
    refine zp K (by simp[nB];omega) ⟨27,0,0,0,((s.ex++ju e.u e.of B.ee).length:Nat)⟩ λF6 h6 w6 M P=>
     fin F6 h6 w6 [⟨27,0,0,0,((s.ex++ju e.u e.of B.ee).length:Nat)⟩] [Rv e.u e.of B.state (-1)] (o.trans M) ?_ (by unfold Lv;rw[if_neg (by omega)]) ?_
    ·unfold Qr;rw[if_neg f1,if_neg f2,nB]
    ·rw[Lr (by simp[tJ]),GA];simp[Bo]at P⊢;exact P
 refine oF (c2.ld rfl) (ec U.len (ec (hZ _ _ _ _) ?_));have ad:=λhh=>r2 F2 N w [] s2 hh (by simp) (by simp) c2 (by simpa using E2);by_cases hp1:B.fj.length=1
 ·have L:B.fj[0]? =some (B.fj.getD 0 0):=by rw[Dz,hN (by omega)];rfl
  have ae:B.fj.getD 0 0<e.u.blocks.length:=by
   have hm:B.fj.getD 0 0∈Un.ahead e.u b:=by rw[<-k.g.fj b B r];exact Ap L
   rw[mU]at hm;unfold next at hm
   split at hm
   ·rename_i B' D;exact(j6.1 D).1
   ·cases hm
  generalize hq:B.fj.getD 0 0=q at*;obtain⟨B',D⟩:∃B',e.u.blocks[q]? =some B':=⟨_,hN ae⟩
  let⟨l3,o3,_,C,I⟩:=U.nat L .i64
  let⟨l4,o4,bv',bn',bp',_,aq,aM,_,_,_,ba'⟩:=E2.u.Bt D
  have eA:jm (.bool (((B.fj.length:Nat):Int) == 1)) (oB (some (V.ptr e.le 0)) λar=>oB (fR ar) λau=>oB (fV 2 au) λaw=>oB (fV 3 aw) λax=>oB (eD ax N) λay=>oB (fV 4 (.ptr l 0)) λaz=>oB (eD az N) λaA=>oB (gQ 1 aA (V.I 0)) λaB=>oB (eD aB N) λaC=>oB (gQ 6 ay aC) λaD=>oB (fV 1 aD) λaE=>oB (eD aE N) λaF=>eh .eql 3 aF (V.I 2)) =
    some (.bool (isIf e.u q)):=by
   simp[fe,eC,fx];rw[show eD (.ptr e.le (0+2+3)) N=some e.vb from E2.ld 5 rfl,fe,show eD (.ptr l (0+4)) N=some bp from c2.ld rfl,fe,show gQ 1 bp (V.I 0)=_ from C,fe,I,fe,aq,fe,fx,fe,ba'.fin,fe,hZ,jU,hp1];unfold isIf;rw[D];simp only;congr 2;rw[VC];simp;omega
  refine ec eA (gf ?_);by_cases hif:isIf e.u q=true
  ·refine fX hif (oF (c2.ld rfl) (ec C (ec I ?_)));refine X0 k E2 (by omega) r (by omega) λG A W a S y E3=>?_;have dl:=(Oi (nb:=0) (ne:=0) k.g k.p r (by omega) y).2;exact r2 G A W a (s2.trans S) (by unfold KJ;rw[hq,if_pos ⟨hp1,hif⟩];exact y) (by omega) (zbL y) (c2.since S) E3
  ·exact fN hif (ad (by unfold KJ;rw[hq,if_neg λh=>hif h.2]))
 ·have eA:∀X,jm (.bool (((B.fj.length:Nat):Int) == 1)) X=some (.bool false):=λX=>by
   rw[show(((B.fj.length:Nat):Int) == 1)=false by rw[Yz];omega];rfl
  refine ec (eA _) (gf (fN (by simp) (ad ?_)));unfold KJ;rw[if_neg λh=>hp1 h.1]
def V1(out:List Nl)(n:Nat)(l:Nl):List Nl:=(out++List.replicate (n+1-out.length) (⟨4,0⟩:Nl)).set n l
def pZ(u:U)(of:List Int):Nat->List Nl
 |0=>[]
 | i+1=>match u.ee[i]? with
   |some x=>if x.op=1 then V1 (pZ u of i) x.n.toNat (lE (hO of i)) else pZ u of i
   |none=>pZ u of i
theorem zbT(out:List Nl)(n:Nat)(l:Nl):(V1 out n l).length=max out.length (n+1):=by
 unfold V1;rw[YI,nB,wBF];omega
theorem Uc{u:U}(g:Good u)(of:List Int):∀i,(pZ u of i).length<=40
 |0=>L9 _
 | i + 1=>by
   have a:=Uc g of i;unfold pZ;split
   ·rename_i x b
    split
    ·rename_i e
     have:=g.param i x b e;rw[zbT];omega
    ·exact a
   ·exact a
theorem zbi(k:S4 e)(E:Gm F h cs e s w)(H:∀F' h' we,Sn F h F' h'->Gm F' h' cs e s w->iD WT F' h' (pZ e.u e.of e.u.ee.length) we->Q we h'):cP CS rO [.ptr e.le 0] h Q:=by
 refine GV ?_;have nv:=k.g.nv;refine ec (eC _ _) (ec pf (oF (E.ld 4 rfl) (ec E.u.v.len ?_)))
 let⟨jp,hjp⟩:=E.p
 let J:Nat->LP:=λn C h'=>∃F' i a,C=[.ptr e.le 0,a,e.vv,.I e.u.ee.length,.I (i:Nat)]/\i+n=e.u.ee.length/\Sn F h F' h'/\ej F' h' (fu WT xJ (pZ e.u e.of i) a::ZM e s w cs)
 refine De J ?_ (k:=e.u.ee.length) (⟨F,0,.ed,rfl,by omega,.refl _ _,E.H.add .nil λ_ h=>h⟩);intro n _ D _ _ _ Y G;obtain⟨F1,i,_,⟨⟩,hn,s1,V⟩:=G;unfold vH;have Z:=E.u.since s1;by_cases hi:i<e.u.ee.length
 ·have c:=hN hi;generalize e.u.ee[i]=x at*
  let⟨l1,o1,wa,_,i1,i2,ra,_⟩:=Z.val c
  refine gJ (ec i1 (ec i2 ?_));refine yR V rfl rfl (by simp only[ym,fh,ra.one];rfl) λd I l r t c2=>?_;have K:=s1.trans t;have f:∀z A a,Sn d I z A->ej z A (fu WT xJ (pZ e.u e.of (i+1)) a::ZM e s w cs)->mn Q (NG J n) [.ptr e.le 0,a,e.vv,.I e.u.ee.length,.I i] A:=λz A a s9 H9=>by
   refine DO ?_;unfold vm;refine fT ⟨n-1,by omega,?_⟩;exact⟨z,i+1,a,rfl,by omega,K.trans s9,H9⟩
  refine oF (c2.ld rfl) (Eo ?_);by_cases ho:x.op=1
  ·refine fX (by omega) ?_
   let⟨p0,p1,_⟩:=k.g.param i x c ho
   obtain ⟨L,b⟩:∃L,L=λM C h'=>∃m a,C=[.ptr e.le 0,a,.I i,.ptr l 0,e.vv,.I e.u.ee.length,.I i]/\m+M=x.n.toNat+1-(pZ e.u e.of i).length/\Sn d I d h'/\
     ej d h' (fu WT xJ (pZ e.u e.of i++List.replicate m ⟨4,0⟩) a::ZM e s w cs):=⟨_,rfl⟩
   refine Ed L ?_ (k:=x.n.toNat+1-(pZ e.u e.of i).length) (by rw[b];exact⟨0,D,rfl,by omega,.refl _ _,by simpa using r⟩);intro M _ o _ _ _ _ _ N q;rw[b]at q;obtain⟨m,_,⟨⟩,hm,O,B⟩:=q;unfold u9;have P:=c2.since O;refine ec (B.len 0 rfl) (oF (P.ld rfl) (zf0 ?_));have Ma:(pZ e.u e.of i++List.replicate m (⟨4,0⟩:Nl)).length=(pZ e.u e.of i).length+m:=by simp
   by_cases FX:(pZ e.u e.of i).length+m<=x.n.toNat
   ·refine fX (by rw[Ma];omega) (ec rfl ?_);rw[show iW xJ 2 1 (.agg [.I 0,.I 0]) [(0,.agg [.I 4,.I 0])]=some (.cells xJ 2 true false (KL ⟨4,0⟩),λl=> .slice l 0 1) from rfl,fH]
    let⟨w4,W,e4,_,R,s4⟩:=B.tz 0 rfl (jh:=16) (NM:=xJ) (ro:=false) (y:=(⟨4,0⟩:Nl)) (w:=KL ⟨4,0⟩) rfl (by decide) (by decide) (by rw[Ma];omega)
    rw[show fg xJ 2 16 o (.slice N.next 0 1) (N.new (.cells xJ 2 true false (KL ⟨4,0⟩)))=_ from e4,ef];refine⟨M-1,by omega,?_⟩;rw[b];refine⟨m+1,w4,rfl,by omega,O.trans s4,?_⟩;rw[List.replicate_succ',<-Bo];exact R
   ·refine fN (by rw[Ma];omega) ?_;have S:m=x.n.toNat+1-(pZ e.u e.of i).length:=by omega
    subst S;have T:gi 2 (.ptr e.le (0+0)) N=some (.agg [e.xx,.I e.fG]):=(yp (B.get 1 rfl)).trans rfl;have pv:=k.v (j6.1 c).1;refine oF (P.ld rfl) (ec (eC _ _) (ec pf (ec T ?_)));refine T3 B (j:=jp+6) (by simpa[ZM]using hjp) pv.1 pv.2 λF4 W s4 R=>?_;have U:=Int.toNat_of_nonneg p0
    let⟨l5,o5,h5,X,q2,q3,H5,s5⟩:=R.stE 0 rfl (k:=x.n.toNat) (by rw[Ma];omega) (y:=lE (hO e.of i)) (ws:=KL (lE (hO e.of i))) rfl
    rw [U]at X;refine⟨s4.next,ec X ⟨(P.since s4).ld rfl,?_⟩⟩;rw[show gw 2 (.ptr l5 o5) (.agg (KL (lE (hO e.of i)))) W=_ from q2,ef];refine⟨q3,f F4 h5 o ((O.trans s4).trans s5) ?_⟩;have:pZ e.u e.of (i+1)=V1 (pZ e.u e.of i) x.n.toNat (lE (hO e.of i)):=by
     conv=>lhs;unfold pZ
     rw[c];simp[ho,if_true]
    rw[this];exact H5
  ·refine fN (by omega) (f d I D (.refl _ _) ?_);have:pZ e.u e.of (i+1)=pZ e.u e.of i:=by
    conv=>lhs;unfold pZ
    rw[c];simp[ho,if_false]
   rw[this];exact r
 ·refine iY ?_;obtain rfl:i=e.u.ee.length:=by omega
  let⟨r,t,r2⟩:=V.jG 0 rfl
  exact H _ Y D (s1.trans t) (E.since (s1.trans t) r.tail) r2
variable{u:U}{of:List Int}{fG:Int}{In Out:Nat->Nat->Prop}
theorem YQ{c:Bool}(b:mK u (iy u) In Out)(a:lI u Out of fG)(h:c=false->(∀Out,¬lI u Out of fG)\/∃In Out,mK u (iy u) In Out/\¬lI u Out of fG):c=true:=by
 cases c with
 |true=>rfl
 | false=>
   rcases h rfl with h|⟨_,_,d,e⟩
   ·exact(h _ a).elim
   ·exact(e (a.congr b d)).elim
theorem DT(a:lI u Out of fG){v:Nat}(hv:v<u.ee.length):of[v]? =some (hO of v)/\NQ fG (hO of v):=by
 have hl:v<of.length:=by rw[a.len];exact hv
 have e:hO of v=of[v]:=by unfold hO;rw[Dz,hN hl];rfl
 rw[e];exact⟨hN hl,a.pl _ (AQ hl)⟩
theorem zaa(g:Good u)(k:lI u Out of fG)(p t:Nat):(kr (mZ u of p t)).Nodup:=by
 unfold mZ;split;rotate_left
 ·exact .nil
 rename_i B q;have i:∀n,(kr ((B.ee.take n).flatMap (oL u of (j9 p B.fj)))).Nodup/\∀x∈kr ((B.ee.take n).flatMap (oL u of (j9 p B.fj))),∃j v,j<n/\At u v t j/\gD u v=true/\of[v]? =some x:=λn=>by
  induction n with
  |zero=>exact⟨.nil,by simp[kr]⟩
  | succ n r =>
    let⟨d,h⟩:=r
    by_cases hn:n<B.ee.length
    ·rw[JE hn,WQ,wBb]
     have e:At u B.ee[n] t n:=⟨B,q,hN hn⟩
     generalize B.ee[n]=v at*;have up:∀x∈kr ((B.ee.take n).flatMap (oL u of (j9 p B.fj))),∃j v,j<n+1/\At u v t j/\gD u v=true/\of[v]? =some x:=λx c=>by
       let⟨j,v,a,b⟩:=h x c
       exact⟨j,v,by omega,b⟩
     unfold oL;split
     ·rename_i x c
      split
      ·rename_i s
       have m:gD u v=true:=by unfold gD;rw[c];simp[iX,s]
       let⟨o,G⟩:=DT k (j6.1 c).1
       have e1:∀l,kr (l++[(hO of (x.args.getD (j9 p B.fj) 0),hO of v)])=kr l++[hO of v]:=λl=>by simp[kr]
       rw[e1];refine⟨wBm.2 ⟨d,by simp,λa z b A=>?_⟩,λy f=>?_⟩
       ·rw[Et.1 A]
        rintro rfl
        let⟨j,w,C,D,E,F⟩:=h _ z
        exact(k.pa t n).hd v e m j w C D E (F.trans o.symm)
       ·rcases vU.1 f with f|f
        ·exact up y f
        ·rw[Et.1 f]
         exact⟨n,v,by omega,e,m,o⟩
      ·rw[GA]
       exact⟨d,up⟩
     ·rw[GA]
      exact⟨d,up⟩
    ·rw[Vz (by omega)]
     rw[Vz (by omega)]at d h;exact⟨d,λx c=>by let⟨j,v,a,b⟩:=h x c;exact⟨j,v,by omega,b⟩⟩
 have:=(i B.ee.length).1
 rwa [QQ]at this
theorem Ur(g:Good u)(a:lI u Out of fG):JP u of:=λv hv=>by
 have:=(DT a hv).2;have b:=a.s1;unfold NQ at this;omega
theorem Vu(g:Good u)(hp:JP u of){m:Nat}(k:∀(t:Nat) T,u.blocks[t]? =some T->T.ee.length<=m)(mD:(qf u of).length<=1048576){i:Nat}{cs:List (List Ni)}(h:zV u of (u.blocks.take i) 0 0 cs):cs.flatten.length<=u.blocks.length*(8*m+3)/\cs.length<=u.blocks.length/\∀x∈cs.flatten,rj u u.blocks.length (qf u of).length x:=by
 have hl:=h.length;have l:=List.length_take_le' i u.blocks;have a:∀(n:Nat) c,cs[n]? =some c->(∀x∈c,rj u u.blocks.length (qf u of).length x)/\c.length<=8*m+3:=λn c e=>by
  have o:=(j6.1 e).1;obtain⟨B,b⟩:∃B,(u.blocks.take i)[n]? =some B:=⟨_,hN (by omega)⟩
  let⟨c',f,d⟩:=h.get b
  rw [e]at f;cases f;rw[Gg,Gg]at d;have j:n<i:=by
   have:=(j6.1 b).1;rw[Sr]at this;omega
  rw[List.getElem?_take_of_lt j]at b;rw[List.take_take,wBV (by omega)]at d
  let⟨p,r,s⟩:=Yt g hp mD b d (M0 b) k
  have:=k n B b;exact⟨p,by omega⟩
 refine⟨MT (KT λc hc=>?_) (wBM _ (by omega)),by omega,λx q=>?_⟩
 ·let⟨n,e⟩:=mG.1 hc
  exact(a n c e).2
 ·let⟨n,c,f,d⟩:=Uk q
  exact(a n c f).1 x d
theorem Y0{a b c:V}{m n:Int}(d:a.one=true)(e:b.one=true):fq [V.I 0,V.I 0,V.ed,V.ed,V.ed] [(0,1),(1,1),(2,1),(3,1),(4,1)] [(0,V.I m),(1,V.I n),(3,a),(4,b)]=some (.agg [.I m,.I n,.ed,a,b]):=by
 unfold fq;simp[xz,th d,th e];rfl
abbrev LK:Nat:=29
variable{vv vb vs xx:V}
theorem zdb(g:Good u)(H0:ej F h cs)(hu:Ff F h u vv vb vs){j:Nat}(hj:cs[j]? =some (fu eZ fJ of xx))(hA:mK u (iy u) In Out)(hR:lI u Out of fG)
  {m:Nat} (hm:∀(t:Nat) T,u.blocks[t]? =some T->T.ee.length<=m) (aC:u.blocks.length*(8*m+3)<=32768)
  (H:∀F' h' wc we wn l,Sn F h F' h'->ej F' h' cs->EmitC u of l->iD eY F' h' (Ah l) wc->iD eEx F' h' (qf u of) we->iD WT F' h' (pZ u of u.ee.length) wn->Q (.tuple [.agg [.I u.func,.I u.pc,wc,we,wn],.I 0]) h') :
  cP CS BU [.agg (uC u vv vb vs),.agg [xx,.I fG]] h Q:=by
 refine TN ?_;have nb:=g.nb;have nv:=g.nv;have a2:(qf u of).length<=40000:=by
  have h1:=RA (of:=of) hm;have h2:u.blocks.length*(m+1)<=u.blocks.length*(8*m+3):=Nat.mul_le_mul_left _ (by omega);omega
 have C:=Ur g hR;refine yq H0 hu.one λF1 h1 lu H1 s1 f=>?_;refine yq H1 (by simp[ H1.one j hj];rfl) λF2 h2 lp H2 s2 c2=>?_;rw[fH]
 let⟨H3,s3⟩:=H2.Dy LK [.I 0,.I 0,.ed,.ed,.ed]
 have H3:=H3;have s3:=s3;generalize h2.next=lr at*;have ag:=(s1.trans s2).trans s3;have f:=(f.since s2).since s3;have c2:=c2.since s3;refine ec (f.xk rfl) (ON g H3 (hu.since ag) λF4 h4 s4 H4=>?_);have f:=f.since s4;have c2:=c2.since s4;refine ec (rfl) ?_;refine gR (ec (f.xk rfl) (gR (ec (c2.xk rfl) ?_)));have U:=ag.trans s4;refine xu (zb2 g H4 (hu.since U) (ii:=j+1) (by simpa using hj) (by rw[hR.len];omega) λF5 h5 c s5 H5 _ aD=>?_);rw[YQ hA hR aD];refine ec (rfl) (gf (fN (by simp) ?_));have f:=f.since s5;have c2:=c2.since s5;have u5:=(hu.since U).since s5;have aE:=U.trans s5;refine ec (c2.xk rfl) (ec rfl (ec (f.xk rfl) (ec rfl ?_)))
 have Ha:ej F5 h5 (fu eIn CI [] .ed::fu eN fJ [] .ed::fu eN fJ [] .ed::fu eEx B5 [] .ed::fi lr LK [.I 0,.I 0,.ed,.ed,.ed]::cs):=
  (((H5.add (p:=fu eEx B5 [] .ed) .nil λ_ h=>h).add (p:=fu eN fJ [] .ed) .nil λ_ h=>h).add (p:=fu eN fJ [] .ed) .nil λ_ h=>h).add .nil λ_ h=>h
 refine pz Ha (by simp only[fh,H1.one j hj,u5.v.one,u5.b.one,u5.s.one];rfl) λh6 H6 s6=>?_;generalize h5.next=le at*;obtain⟨e,O⟩:∃e:Ge,e=⟨le,u,vv,vb,vs,of,xx,fG⟩:=⟨_,rfl⟩
 have k:S4 e:=by
  subst O;exact⟨g,C,hR.len,λp t=>zaa g hR p t⟩
 have E6:Gm F5 h6 (fi lr LK [.I 0,.I 0,.ed,.ed,.ed]::cs) e ⟨[],[],[],[]⟩ ⟨.ed,.ed,.ed,.ed⟩:=by
  subst O;exact⟨H6,u5.since s6,⟨j+1,by simpa using hj⟩,by simp⟩
 have el:e.le=le:=by rw[O]
 have eu:e.u=u:=by rw[O]
 have eo:e.of=of:=by rw[O]
 rw[<-el];have f:=f.since s6;have aF:=aE.trans s6;have u6:=u5.since s6;refine oF (f.ld rfl) (ec u6.b.len ?_)
 let J:Nat->LP:=λn l' h'=>∃F' i w' xs,l' = [.ptr lu 0,.ptr lr 0,.ptr e.le 0,.I u.blocks.length,.I (i:Nat)]/\i+n=u.blocks.length/\Sn F5 h6 F' h'/\zV u of (u.blocks.take i) 0 0 xs/\
   Gm F' h' (fi lr LK [.I 0,.I 0,.ed,.ed,.ed]::cs) e ⟨xs.flatten,iJ 0 xs,qy 0 xs.flatten,(u.blocks.take i).flatMap (Cu u of)⟩ w'
 refine Pj J ?_ (k:=u.blocks.length) (⟨F5,0,_,[],rfl,by omega,.refl _ _,.nil _ _,E6⟩);intro n _ _ _ _ _ h7 aG;obtain⟨F7,i,D,xs,⟨⟩,hn,s7,E,A⟩:=aG
 let⟨xl,xb,xp⟩:=Vu g C hm (by omega) E
 unfold G6;have jl:=Um xs.flatten 0;by_cases hi:i<u.blocks.length
 ·refine gJ (oN (A.ld 8 rfl) (oN (A.ld 7 rfl) (ec (A.H.len 1 rfl) ?_)));rw[show iW 3 1 1 (.I 0) [(0,.I xs.flatten.length)]=_ from FG _,gU];obtain⟨v8,h8,e8,n8,H8,s8⟩:=A.H.tz 2 rfl (jh:=8) rfl (by decide) (by decide) (by rw[Fy];omega);refine⟨⟨eQ _ _,bq⟩,gS (A.ld 7 rfl) (eE _ (CB A.H 0 rfl)),gS (A.ld 8 rfl) (eE _ (CB A.H 0 rfl)),?_⟩;rw[show fg 3 1 8 D.b (.slice h7.next 0 1) (h7.new (.cells 3 1 true false (oJ [xs.flatten.length])))=_ from e8,ef]
  let⟨h9,e9,n9,W,L⟩:=H8.st 0 rfl (o:=0+8) (by simp[emC]) (H8.one 2 rfl)
  refine⟨by have:(h7.new (.cells 3 1 true false (oJ [xs.flatten.length]))).next=h7.next+1:=rfl;omega,ec (eC _ _) (ec pf ?_)⟩;rw[e9,ef];have ah:=s8.trans L
  have E9:Gm F7 h9 (fi lr LK [.I 0,.I 0,.ed,.ed,.ed]::cs) e ⟨xs.flatten,iJ 0 xs++[xs.flatten.length],qy 0 xs.flatten,(u.blocks.take i).flatMap (Cu u of)⟩ {D with b:=v8}:=
   ⟨W,A.u.since ah,A.p,by have:=A.n;rw[nB,Fy,Tj];exact⟨this.1,by omega,this.2.2⟩⟩
  obtain⟨B,hB⟩:∃B,u.blocks[i]? =some B:=⟨_,hN hi⟩
  have ai:((u.blocks.take i).flatMap (Cu u of)).length<100000:=by have:=M0 (of:=of) hB;omega
  refine ⟨n9,zbS k E9 (by show xs.flatten.length<_;omega) (by show(qy 0 xs.flatten).length<_;omega) ai (by rw[eu];exact hB) λM aj ak c G hc d=>?_⟩;rw[eu,eo]at hc d;have al:u.blocks.take (i+1)=u.blocks.take i++[B]:=by
   rw[JE hi];rw[hN hi]at hB;rw[Option.some.inj hB]
  have P:zV u of (u.blocks.take (i+1)) 0 0 (xs++[c]):=by
   rw[al];refine E.snoc ?_;rw[Gg,Gg,Sr,wBV (by omega)];exact hc
  let⟨yl,_,_⟩:=Vu g C hm (by omega) P
  have aH:(xs++[c]).flatten=xs.flatten++c:=by simp
  have d:Gm M aj (fi lr LK [.I 0,.I 0,.ed,.ed,.ed]::cs) e ⟨(xs++[c]).flatten,iJ 0 (xs++[c]),qy 0 (xs++[c]).flatten,(u.blocks.take (i+1)).flatMap (Cu u of)⟩ ak:=by
   rw[Nv,aH,vJ,al,WQ,wBb,Gg];exact d
  refine oN (d.ld 7 rfl) (ec (d.H.len 1 rfl) (ec (iT _ _ _ _) (gf (fN ?_ ?_))))
  ·simp only[xX];omega
  refine fT ⟨n-1,by omega,?_⟩;exact⟨M,i+1,ak,xs++[c],rfl,by omega,(s7.trans ah).trans G,P,d⟩
 refine iY ?_;obtain rfl:i=u.blocks.length:=by omega
 rw[QQ]at E A;have a3:=E.length;have am:EmitC u of (xs.flatten.map (patch (iJ 0 xs))):=⟨xs,E,rfl⟩
 refine oN (A.ld 9 rfl) (ec (A.H.len 3 rfl) ?_)
 obtain ⟨J1,X⟩:∃J1,J1=λn l' h'=>∃i a c,l' = [.ptr lu 0,.ptr lr 0,.ptr e.le 0,D.j,.I ((qy 0 xs.flatten).length:Nat),.I (i:Nat)]/\i+n=(qy 0 xs.flatten).length/\Sn F5 h6 F7 h'/\xs.flatten=a++c/\(qy 0 xs.flatten).drop i=qy a.length c/\
   Gm F7 h' (fi lr LK [.I 0,.I 0,.ed,.ed,.ed]::cs) e ⟨a.map (patch (iJ 0 xs))++c,iJ 0 xs,qy 0 xs.flatten,qf u of⟩ D:=⟨_,rfl⟩
 refine PM J1 ?_ (k:=(qy 0 xs.flatten).length) (by rw[X];exact⟨0,[],xs.flatten,rfl,by omega,s7,rfl,rfl,A⟩);intro n1 _ _ _ _ _ _ h8 an;rw[X]at an;obtain⟨q,a,c,⟨⟩,hq,s8,Y,Z,r⟩:=an;unfold Hh;by_cases FX:q<(qy 0 xs.flatten).length
 ·have aI:=hN FX;have ao:=ZH FX;generalize (qy 0 xs.flatten)[q]=p at*;rw[Z]at ao;obtain⟨z,x,N,rfl,hp,aJ,aq,aa⟩:=Rt ao;have aK:x∈xs.flatten:=by rw[Y];simp
  let⟨x0,x1⟩:=(xp x aK).j aq
  obtain⟨bn,ar⟩:∃bn,(iJ 0 xs)[x.n.toNat]? =some bn:=⟨_,hN (by rw[Fy];omega)⟩
  have aL:x.n=((x.n.toNat:Nat):Int):=by omega
  have au:(a.map (patch (iJ 0 xs))++(z++x::N))[p]? =some x:=by
   rw[ZQ (by simp;omega),Qv,ZQ (by omega),hp,show a.length+z.length-a.length-z.length=0 by omega];rfl
  have ab:=(j6.1 au).1
  let⟨l1,o1,p1,p2⟩:=r.H.Zd 3 rfl aI .i64
  let⟨l2,o2,ws,q1,q2,q3,q4⟩:=r.H.ixO 1 rfl ab .i64
  have e3:=Option.some.inj ((hN ab).symm.trans au);rw[e3]at q3;have q3:=q3;subst q3;have qn:eD (.ptr l2 (o2+4)) h8=some (.I ((x.n.toNat:Nat):Int)):=by rw[<-aL];exact q4 4 _ rfl
  let⟨l3,o3,r1,r2⟩:=r.H.Zd 2 rfl ar .i64
  obtain ⟨l4,o4,h9,t1,t2,t3,W,L⟩:=r.H.stP 1 rfl ab (j:=4) (by decide) (y:={x with n:=(bn:Nat)}) rfl (λw hw=>by
   rw[e3]at hw;have hw:=hw;subst hw;rfl)
  refine gJ (ec p1 (ec p2 (oN (r.ld 7 rfl) (oN (r.ld 8 rfl) (oN (r.ld 7 rfl) (ec q1 (oF qn (ec r1 (ec r2 (ec t1 (ec pf ?_)))))))))));rw[t2,ef];refine⟨t3,?_⟩;refine fT ⟨n1-1,by omega,?_⟩;rw[X];have aM:patch (iJ 0 xs) x = {x with n:=(bn:Nat)}:=by
   unfold patch;rw[if_pos aq,Dz,ar];rfl
  have aw:(a.map (patch (iJ 0 xs))++(z++x::N)).set p {x with n:=(bn:Nat)} = (a++z++[x]).map (patch (iJ 0 xs))++N:=by
   rw[List.set_append_right _ _ (by simp;omega),Qv,List.set_append_right _ _ (by omega),hp,show a.length+z.length-a.length-z.length=0 by omega];simp[Vq aJ,aM]
  refine⟨q+1,a++z++[x],N,rfl,by omega,s8.trans L,by rw[Y];simp,?_,?_⟩
  ·rw[aa,hp];congr 1;simp;omega
  ·rw[<-aw];exact⟨W,r.u.since L,r.p,by rw[YI];exact r.n⟩
 ·refine iY ?_;rw[wBa (by omega)]at Z;have aN:∀x∈c,tJ x=false:=λx hx=>by
   cases hj:tJ x with
   |false=>rfl
   | true=>
     obtain ⟨s,t,rfl⟩:=wBw hx;have:qy a.length (s++x::t)≠[]:=λO=>by
       rw[vJ]at O;have h2:=(List.append_eq_nil_iff.1 O).2;rw[qy,if_pos hj]at h2;cases h2
     exact(this Z.symm).elim
  have aO:a.map (patch (iJ 0 xs))++c=xs.flatten.map (patch (iJ 0 xs)):=by rw[Y,UB,Vq aN]
  rw[aO]at r;have ax:=Xl g C am hm (by omega);generalize xs.flatten.map (patch (iJ 0 xs))=l at*;have f:=f.since s8;have aP:=aF.trans s8;have ac:=r.H.one 4 rfl;refine oF (f.ld rfl) (oF (f.ld rfl) (oN (r.ld 10 rfl) ?_));rw[gU]
  let⟨W,L⟩:=r.H.Dy LK [.I 0,.I 0,.ed,.ed,.ed]
  have W:=W;have L:=L;have g9:=eQ h8 (.cells LK 1 true false [.I 0,.I 0,.ed,.ed,.ed]);generalize h8.new (.cells LK 1 true false [.I 0,.I 0,.ed,.ed,.ed])=h9 at*;generalize h8.next=ln at*
  let⟨jp,hjp⟩:=r.p
  have E9:Gm F7 h9 (fi ln LK [.I 0,.I 0,.ed,.ed,.ed]::fi lr LK [.I 0,.I 0,.ed,.ed,.ed]::cs) e ⟨l,iJ 0 xs,qy 0 xs.flatten,qf u of⟩ D:=
   ⟨W.zaT,r.u.since L,⟨jp+1,by simpa using hjp⟩,r.n⟩
  have f:=f.since L;refine⟨⟨g9,bq⟩,E9.ld 10 rfl,f.ld rfl,f.ld rfl,zbi k E9 λM aj wn G d rn=>⟨G.next,?_⟩⟩;rw[eu,eo]at rn;have f:=f.since G;refine ec (Y0 (c:= .ed) ac rn.one) ⟨⟨(d.H.get 5 rfl),bq⟩,d.ld 10 rfl,f.ld rfl,f.ld rfl,?_⟩
  let⟨aQ,aR,aS,aT,ad⟩:=d.H.Wh 5 rfl (n:=5) (ws:=[.I u.func,.I u.pc,.ed,D.e,wn]) rfl rfl (by simp only[fh,ac,rn.one];rfl)
  rw[aR,ef]
  have ay:Gm M aQ (fi ln LK [.I u.func,.I u.pc,.ed,D.e,wn]::fi lr LK [.I 0,.I 0,.ed,.ed,.ed]::cs) e ⟨l,iJ 0 xs,qy 0 xs.flatten,qf u of⟩ D:=
   ⟨aT,d.u.since ad,⟨jp+1,by simpa using hjp⟩,d.n⟩
  refine⟨aS,oN (ay.ld 7 rfl) ?_⟩
  let⟨aU,aV,ae⟩:=ay.H.jG 1 rfl
  let⟨aW,R,aX⟩:=aU.jG 4 rfl
  have ae:=ae.since R;refine Y3 aW ae (MT ax.2.1 aC) (λx hx=>(ax.1 x hx).1) λa4 a5 wc S aY rc=>?_;refine ec rfl (ec rfl (ec (rfl) (gf (fN (by simp) (ec pf ?_)))))
  let⟨az,aZ,_,aA,I⟩:=aY.st 5 rfl (o:=0+2) (by simp) rc.one
  rw[aZ,ef];have o5:gj [V.I u.func,.I u.pc,wc,D.e,wn]=true:=by simp only[fh,ac,rn.one,rc.one];rfl
  refine ec (show gi 5 (.ptr ln 0) az=some (.agg [V.I u.func,.I u.pc,wc,D.e,wn]) from aA.xk 5 rfl rfl) ?_
  let⟨a0,a1,_,aB,K⟩:=aA.Wh 6 rfl (ws:=[.I u.func,.I u.pc,wc,D.e,wn]) rfl rfl o5
  rw[show gw 5 (.ptr lr 0) (.agg _) az=_ from a1,ef];refine ec (aB.xk 6 rfl rfl) ?_;have sA:=aP.trans (L.trans (G.trans ad));have sB:=(aV.trans R).trans (S.trans (I.trans K));have sC:=S.trans (I.trans K);exact H _ a0 wc D.e wn l (sA.trans sB) aB.tail.tail.tail.tail.tail.tail.tail am (rc.since (I.trans K)) (aX.since sC) (rn.since (ad.trans sB))
