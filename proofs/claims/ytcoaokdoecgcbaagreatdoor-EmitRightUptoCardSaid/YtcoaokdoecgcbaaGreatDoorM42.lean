/- Parts. -/
import Derived.Test.YtcoaokdoecgcbaaGreatDoorM41
import Derived.Test.YtcoaokdoecgcbaaGreatDoorM38
set_option maxHeartbeats 400000
namespace Go.Proofs.YtcoaokdoecgcbaaGreatDoor.Hx
open Un Dm
section
variable{F F':Nat->Prop}{h h':Hp}{cs:List Pc}{Q:fo}{e:Ge}{s:Ga}{w:Gx}
theorem zb4(k:QY e){b:Nat}{B:Bk}(d:e.u.blocks[b]? =some B)(n:Nat):(mc e.u e.of (B.ee.take n) s.ex.length).length<=4*B.ee.length/\(oG e.u e.of (B.ee.take n)).length<=B.ee.length:=by
 have hl:=List.length_take_le' n B.ee;have:∀l:List Nat,(oG e.u e.of l).length<=l.length:=λl=>by
  induction l with
  |nil=>simp[oG]
  | cons v l c=>
    have:(Eb e.u e.of v).length<=1:=by
      unfold Eb;split
      ·unfold IY;split <;> simp
      ·simp
    unfold oG at c⊢;simp only[TB,oQ,Jo];omega
 have a:∀(l:List Nat) (k:Nat),(mc e.u e.of l k).length<=4*l.length:=λl=>by
  induction l with
  |nil=>intro k;simp[mc]
  | cons v l c=>
    intro k;have f:(Iq e.u e.of v k).length<=4:=by
      unfold Iq;split
      ·rename_i x g
       unfold EM wX NB
       repeat' split
       all_goals simp
      ·simp
    have:=c (k+(Eb e.u e.of v).length);simp only[mc,oQ,Jo];omega
 exact⟨by have:=a (B.ee.take n) s.ex.length;omega,by have:=this (B.ee.take n);omega⟩
theorem zas(k:QY e)(E:Gm F h cs e s w)(hl:s.l.length<100000)(hj:s.js.length<100000)(he:s.ex.length<100000){b:Nat}{B:Bk}(f:e.u.blocks[b]? =some B)
  (H:∀F' h' w' c,Sn F h F' h'->ZW e.u e.of b B s.ex.length c->Gm F' h' cs e {s with l:=s.l++c,js:=s.js++oC s.l.length c,ex:=s.ex++EV e.u e.of B} w'->Q (.tuple []) h') :
  cP CS mO [.ptr e.le 0,.I b] h Q:=by
 refine Fz rfl rfl ?_;unfold xd;obtain⟨l1,o1,bv,bn,bp,_,b1,b2,rv,rn,rp,_⟩:=E.u.AA f;refine ec (fi _ _) (ec pf (oF (E.ld 5 rfl) (ec b1 (ec b2 ?_))));refine tW E.H rfl rfl (by simp only[rr,fe,rv.one,rn.one,rp.one];rfl) λF2 G l H2 s2 c2=>?_;have E2:=E.since s2 H2;have U:=rp.since s2;have aK:=Je k.g f;have aL:=qT k.g f;have r2:∀I A W a,Sn F h I A->M4 e.u e.of b B a->a.length<=12000->(∀i∈a,A1 i=false)->Cl I A l 79 (rr B bv bn bp)->Gm I A cs e {s with l:=s.l++a} W->jM CS Q [.ptr e.le 0,.I b,.ptr l 0] A:=by
  intro I A W a S y aM ah o E3;refine B4 ?_;unfold sS;have Y:=rv.since S;refine oF (o.ld rfl) (ec Y.len ?_)
  obtain ⟨J,hJ⟩:∃J:Nat->LP,J=λn l' h'=>∃F' j w',l' = [.ptr e.le 0,.I b,.ptr l 0,bv,.I B.ee.length,.I (j:Nat)]/\j+n=B.ee.length/\Sn I A F' h'/\
    Gm F' h' cs e {s with l:=s.l++(a++mc e.u e.of (B.ee.take j) s.ex.length),ex:=s.ex++oG e.u e.of (B.ee.take j)} w':=⟨_,rfl⟩
  refine CM J ?_ (k:=B.ee.length) (by rw[hJ];exact⟨I,0,W,rfl,by omega,.refl _ _,by simpa[mc,oG]using E3⟩);intro n _ _ _ _ _ _ h4 Z;rw[hJ]at Z;obtain⟨F4,j,w4,⟨⟩,hn,s4,E4⟩:=Z;unfold td;have O:=o.since s4;have z:=(rn.since S).since s4;obtain⟨ai,aj⟩:=zb4 (s:=s) k f j;by_cases hjl:j<B.ee.length
  ·have hv:=iz hjl;have ak:=Nt hjl;generalize B.ee[j]=v at*;obtain⟨l3,o3,_,C,K⟩:=(Y.since s4).nat hv .i64;have aa:=k.g.DW v b j ⟨B,f,hv⟩;obtain⟨x,hx⟩:∃x,e.u.ee[v]? =some x:=⟨_,iz aa⟩
   refine gU (ec C (ec K ?_));refine zaa k E4 (by simp only[oQ];omega) (by simp only[oQ];omega) hx λF5 h5 w5 r L=>?_;refine gf ⟨n-1,by omega,?_⟩;rw[hJ];refine⟨F5,j+1,w5,rfl,by omega,s4.trans r,?_⟩;have e1:Iq e.u e.of v (s.ex.length+(oG e.u e.of (B.ee.take j)).length)=EM e.of v x (s.ex++oG e.u e.of (B.ee.take j)).length:=by unfold Iq;rw[hx,oQ]
   have e2:Eb e.u e.of v=IY e.u e.of v x:=by unfold Eb;rw[hx]
   rw[ak,Vd,UF,e1,e2];simp only[KB]at L⊢;exact L
  refine iY ?_;obtain rfl:j=B.ee.length:=by omega
  rw[SM]at E4 ai aj;have al:=S.trans s4;have am:∀m,oC m (a++mc e.u e.of B.ee s.ex.length)=[]:=λm=>KG λi hi=>(xU.1 hi).elim (ah i) (VF k.g _ _ i);have jp:∀(o:List Ni) m,oC m (a++mc e.u e.of B.ee s.ex.length++o)=oC (m+(a++mc e.u e.of B.ee s.ex.length).length) o:=λo m=>by rw[sY,am,OJ]
  have fin:∀F9 h9 w9 o (X:List Nx),Sn F4 h4 F9 h9->Wq e.u e.of b B (s.ex.length+(oG e.u e.of B.ee).length) o->N4 e.u e.of B=X->
    Gm F9 h9 cs e {s with l:=s.l++(a++mc e.u e.of B.ee s.ex.length++o),js:=s.js++oC (s.l.length+(a++mc e.u e.of B.ee s.ex.length).length) o,ex:=s.ex++(oG e.u e.of B.ee++X)} w9->Q (.tuple []) h9:=by
   rintro F9 h9 w9 o _ s9 A rfl E9;refine H F9 h9 w9 (a++mc e.u e.of B.ee s.ex.length++o) (al.trans s9) ⟨a,o,y,A,rfl⟩ ?_;rw[jp];exact E9
  refine oF (O.ld rfl) (gw ?_);have an:∀t∈B.next,t<e.u.blocks.length:=λt ht=>k.g.nx b t (by unfold next;rw[f];exact ht);by_cases f1:B.fin=1
  ·refine gN (by omega) ?_;obtain⟨aJ,ao⟩:B.fin=1/\B.next.length=1:=by rcases k.g.fin b B f with h|h|h <;> omega
   have M:B.next[0]? =some (B.next.getD 0 0):=by rw[OV,iz (by omega)];rfl
   have tm:=zQ M;obtain⟨T,hT⟩:∃T,e.u.blocks[B.next.getD 0 0]? =some T:=⟨_,iz (an _ tm)⟩
   have ab:0<T.fu.length:=by
    rw[k.g.fu _ T hT];exact List.length_pos_of_mem (wu.2 (by unfold next;rw[f];exact tm))
   have aN:=qT k.g hT;obtain⟨l3,o3,_,C,K⟩:=z.nat M .i64;refine oF (O.ld rfl) (ec C (ec K ?_));refine Vg k E4 (by simp only[oQ];omega) hT ab λF5 h5 w5 d r hd L=>ec rfl ?_;have dl:d.length<=2*T.ee.length:=(MR (nb:=0) (ne:=0) k.g k.p hT ab hd).2;obtain⟨l4,o4,_,t1,t2⟩:=(z.since r).nat M .i64;refine oF ((O.since r).ld rfl) (ec t1 (ec t2 ?_));refine RH L (by simp only[oQ];omega) (by show s.js.length<_;omega) (x:=⟨23,0,0,0,0⟩) λF6 h6 w6 N P=>fin F6 h6 w6 (d++[⟨23,0,0,0,(B.next.getD 0 0:Nat)⟩]) [] (r.trans N) ?_ (by unfold N4;rw[if_pos (.inl f1)]) ?_
   ·unfold Wq;rw[if_pos f1];exact⟨d,hd,rfl⟩
   ·have j1:oC (s.l.length+(a++mc e.u e.of B.ee s.ex.length).length) (d++[⟨23,0,0,0,(B.next.getD 0 0:Nat)⟩])=[(s.l++(a++mc e.u e.of B.ee s.ex.length)++d).length]:=by
     rw[sY,KG (Yv hd),OJ];show[_]=[_]
     simp only[oQ,X8]
    rw[j1,Hf];simp only[KB]at P⊢;exact P
  ·refine gD (by omega) (gw ?_);by_cases f2:B.fin=2
   ·refine gN (by omega) ?_;obtain⟨ao,aq⟩:B.next.length=2/\FD e.u B.cond:=by
     rcases k.g.fin b B f with h|h|h
     ·omega
     ·exact h.2
     ·omega
    have M:B.next[0]? =some (B.next.getD 0 0):=by rw[OV,iz (by omega)];rfl
    have g1:B.next[1]? =some (B.next.getD 1 0):=by rw[OV,iz (by omega)];rfl
    have pc:=k.v (qf aq);have a1:(wX (jK e.of B.cond) 12).length<=1:=by unfold wX;split <;> simp
    obtain⟨l3,o3,_,C,K⟩:=z.nat g1 .i64;refine oF (O.ld rfl) (oF (O.ld rfl) (ec C (ec K ?_)));refine BF E4 (by simp only[oQ];omega) pc.1 pc.2 12 λF5 h5 w5 r L=>⟨r.next,ec rfl ?_⟩
    have c5:=O.since r;have R:eC (.ptr l3 o3) h5=some (.I (B.next.getD 1 0:Nat)):=by
     obtain⟨aO,aP,_,ac,R⟩:=(z.since r).nat g1 .i64;rw[C]at ac;cases ac;exact R
    refine⟨R,c5.ld rfl,?_⟩;refine RH L (by simp only[oQ];omega) (by show s.js.length<_;omega) (x:=⟨24,tQ (jK e.of B.cond) 12,0,0,0⟩) λF6 h6 w6 N P=>⟨N.next,ec rfl ?_⟩
    obtain⟨l4,o4,_,t1,t2⟩:=((z.since r).since N).nat M .i64;refine oF ((c5.since N).ld rfl) (ec t1 (ec t2 ?_))
    refine RH P (by simp only[oQ,Qv];omega) (by simp only[oQ,Qv];omega) (x:=⟨23,0,0,0,0⟩) λF7 h7 w7 s7 E7=>
     fin F7 h7 w7 (wX (jK e.of B.cond) 12++[⟨24,tQ (jK e.of B.cond) 12,0,0,(B.next.getD 1 0:Nat)⟩,⟨23,0,0,0,(B.next.getD 0 0:Nat)⟩]) [] ((r.trans N).trans s7) ?_ (by unfold N4;rw[if_pos (.inr f2)]) ?_
    ·unfold Wq;rw[if_neg f1,if_pos f2]
    ·have j1:oC (s.l.length+(a++mc e.u e.of B.ee s.ex.length).length) (wX (jK e.of B.cond) 12++[⟨24,tQ (jK e.of B.cond) 12,0,0,(B.next.getD 1 0:Nat)⟩,⟨23,0,0,0,(B.next.getD 0 0:Nat)⟩]) =
       [(s.l++(a++mc e.u e.of B.ee s.ex.length)++wX (jK e.of B.cond) 12).length,(s.l++(a++mc e.u e.of B.ee s.ex.length)++wX (jK e.of B.cond) 12++[(⟨24,tQ (jK e.of B.cond) 12,0,0,(B.next.getD 1 0:Nat)⟩:Ni)]).length]:=by
      rw[sY,KG (Bq _ _),OJ,Zx rfl rfl];simp only[oQ,Qv,X8]
     rw[j1,Hf];simp only[KB,wBQ,OJ]at E7⊢;exact E7
   ·refine gD (by omega) ?_;have f3:B.fin=3/\B.state<e.u.ez.length:=by
     rcases k.g.fin b B f with h|h|h
     ·omega
     ·omega
     ·exact⟨h.1,h.2.2⟩
    obtain⟨fs,ar⟩:∃fs,e.u.ez[B.state]? =some fs:=⟨_,iz f3.2⟩
    refine oF (O.ld rfl) ?_;refine Rr k E4 (by simp only[oQ];omega) ar λF5 h5 w5 r L=>ec rfl ?_
    refine yj L (by simp only[oQ];omega) ⟨27,0,0,0,((s.ex++oG e.u e.of B.ee).length:Nat)⟩ λF6 h6 w6 N P=>
     fin F6 h6 w6 [⟨27,0,0,0,((s.ex++oG e.u e.of B.ee).length:Nat)⟩] [exC e.u e.of B.state (-1)] (r.trans N) ?_ (by unfold N4;rw[if_neg (by omega)]) ?_
    ·unfold Wq;rw[if_neg f1,if_neg f2,oQ]
    ·rw[KG (by simp[A1]),Hf];simp only[KB]at P⊢;exact P
 refine oF (c2.ld rfl) (ec U.len (ec (iE _ _ _ _) ?_));have ae:M4 e.u e.of b B []->jM CS Q [.ptr e.le 0,.I b,.ptr l 0] G:=λhh=>r2 F2 G w [] s2 hh (by simp) (by simp) c2 (by simpa using E2);by_cases hp1:B.fu.length=1
 ·have M:B.fu[0]? =some (B.fu.getD 0 0):=by rw[OV,iz (by omega)];rfl
  have ag:B.fu.getD 0 0<e.u.blocks.length:=by
   have hm:B.fu.getD 0 0∈Un.ahead e.u b:=by rw[<-k.g.fu b B f];exact zQ M
   rw[wu]at hm;unfold next at hm
   split at hm
   ·rename_i B' D;exact(kE.1 D).1
   ·cases hm
  generalize hq:B.fu.getD 0 0=q at*;obtain⟨B',D⟩:∃B',e.u.blocks[q]? =some B':=⟨_,iz ag⟩
  obtain⟨l3,o3,_,C,K⟩:=U.nat M .i64;obtain⟨l4,o4,aQ,aR,aS,_,au,aT,_,_,_,aw⟩:=E2.u.AA D
  have eA:iM (.bool (((B.fu.length:Nat):Int) == 1)) (oB (some (V.ptr e.le 0)) λax=>oB (gq ax) λay=>oB (fK 2 ay) λaz=>oB (fK 3 az) λaA=>oB (eC aA G) λaB=>oB (fK 4 (.ptr l 0)) λaC=>oB (eC aC G) λaD=>oB (gP 1 aD (V.I 0)) λaE=>oB (eC aE G) λaF=>oB (gP 6 aB aF) λaG=>oB (fK 1 aG) λaH=>oB (eC aH G) λaI=>ef .eql 3 aI (V.I 2)) =
    some (.bool (isIf e.u q)):=by
   simp only[eD,fi,fN];rw[show eC (.ptr e.le (0+2+3)) G=some e.vb from E2.ld 5 rfl,eD,show eC (.ptr l (0+4)) G=some bp from c2.ld rfl,eD,show gP 1 bp (V.I 0)=_ from C,eD,K,eD,au,eD,fN,eD,aw.fin,eD,iE,gQ,hp1];unfold isIf;rw[D];simp only;congr 2;rw[Uv];simp;omega
  refine ec eA (gh ?_);by_cases hif:isIf e.u q=true
  ·refine gN hif (oF (c2.ld rfl) (ec C (ec K ?_)));refine Vg k E2 (by omega) f (by omega) λI A W a S y E3=>?_;have dl:a.length<=2*B.ee.length:=(MR (nb:=0) (ne:=0) k.g k.p f (by omega) y).2;exact r2 I A W a (s2.trans S) (by unfold M4;rw[hq,if_pos ⟨hp1,hif⟩];exact y) (by omega) (Yv y) (c2.since S) E3
  ·exact gD hif (ae (by unfold M4;rw[hq,if_neg λh=>hif h.2]))
 ·have eA:∀X,iM (.bool (((B.fu.length:Nat):Int) == 1)) X=some (.bool false):=λX=>by
   rw[show(((B.fu.length:Nat):Int) == 1)=false by rw[wBA];omega];rfl
  refine ec (eA _) (gh (gD (by simp) (ae ?_)));unfold M4;rw[if_neg λh=>hp1 h.1]
end
open Un Dm
def zbO(out:List Nl)(n:Nat)(l:Nl):List Nl:=(out++List.replicate (n+1-out.length) (⟨4,0⟩:Nl)).set n l
def zq(u:U)(of:List Int):Nat->List Nl
 |0=>[]
 | i+1=>match u.ee[i]? with
   |some x=>if x.op=1 then zbO (zq u of i) x.n.toNat (nV (jK of i)) else zq u of i
   |none=>zq u of i
theorem ZR(out:List Nl)(n:Nat)(l:Nl):(zbO out n l).length=max out.length (n+1):=by
 unfold zbO;rw[X1,oQ,List.length_replicate];omega
theorem Oa{u:U}(g:Good u)(of:List Int):∀i,(zq u of i).length<=40
 |0=>Ll _
 | i + 1=>by
   have a:=Oa g of i;unfold zq;split
   ·rename_i x b
    split
    ·rename_i e
     have:=g.param i x b e;rw[ZR];omega
    ·exact a
   ·exact a
section
variable{F F':Nat->Prop}{h h':Hp}{cs:List Pc}{Q:fo}{e:Ge}{s:Ga}{w:Gx}
theorem X7(k:QY e)(E:Gm F h cs e s w)(H:∀F' h' Y,Sn F h F' h'->Gm F' h' cs e s w->iH KI F' h' (zq e.u e.of e.u.ee.length) Y->Q Y h'):cP CS mZ [.ptr e.le 0] h Q:=by
 refine FM rfl rfl ?_;unfold xy;have nv:=k.g.nv;refine ec (fi _ _) (ec pf (oF (E.ld 4 rfl) (ec E.u.v.len ?_)));obtain⟨jp,G⟩:=E.p;obtain⟨J,I⟩:∃J:Nat->LP,J=λn K h'=>∃F' i a,K=[.ptr e.le 0,a,e.vv,.I e.u.ee.length,.I (i:Nat)]/\i+n=e.u.ee.length/\Sn F h F' h'/\ej F' h' (fE KI mq (zq e.u e.of i) a::Uz e s w cs):=⟨_,rfl⟩
 refine CK J ?_ (k:=e.u.ee.length) (by rw[I];exact⟨F,0,.ed,rfl,by omega,.refl _ _,E.H.add .nil λ_ h=>h⟩);intro n _ L _ _ _ h1 c;rw[I]at c;obtain⟨F1,i,_,⟨⟩,hn,s1,Z⟩:=c;unfold tN;have u1:=E.u.since s1;by_cases hi:i<e.u.ee.length
 ·have d:=iz hi;generalize e.u.ee[i]=x at*;obtain⟨l1,o1,wa,_,i1,i2,ra,_⟩:=u1.val d;refine gU (ec i1 (ec i2 ?_));refine tW Z rfl rfl (by simp only[yH,fe,ra.one];rfl) λf M l z A c2=>?_;have N:=s1.trans A;have o:∀B C a,Sn f M B C->ej B C (fE KI mq (zq e.u e.of (i+1)) a::Uz e s w cs)->lG CS Q (KJ J n) [.ptr e.le 0,a,e.vv,.I e.u.ee.length,.I i] C:=λB C a s9 H9=>by
   refine CB ?_;unfold tB;refine gf ⟨n-1,by omega,?_⟩;rw[I];exact⟨B,i+1,a,rfl,by omega,N.trans s9,H9⟩
  refine oF (c2.ld rfl) (Ef ?_);by_cases ho:x.op=1
  ·refine gN (by omega) ?_;obtain⟨p0,p1,_⟩:=k.g.param i x d ho;have aa:=Oa k.g e.of i
   obtain ⟨O,b⟩:∃O:Nat->LP,O=λP K h'=>∃m a,K=[.ptr e.le 0,a,.I i,.ptr l 0,e.vv,.I e.u.ee.length,.I i]/\m+P=x.n.toNat+1-(zq e.u e.of i).length/\Sn f M f h'/\
     ej f h' (fE KI mq (zq e.u e.of i++List.replicate m ⟨4,0⟩) a::Uz e s w cs):=⟨_,rfl⟩
   refine Cb O ?_ (k:=x.n.toNat+1-(zq e.u e.of i).length) (by rw[b];exact⟨0,L,rfl,by omega,.refl _ _,by simpa using z⟩);intro P _ q _ _ _ _ _ R r;rw[b]at r;obtain⟨m,_,⟨⟩,hm,S,D⟩:=r;unfold tJ;have T:=c2.since S;refine ec (D.len 0 rfl) (oF (T.ld rfl) (zfl ?_));have OM:(zq e.u e.of i++List.replicate m (⟨4,0⟩:Nl)).length=(zq e.u e.of i).length+m:=by simp
   by_cases EO:(zq e.u e.of i).length+m<=x.n.toNat
   ·refine gN (by rw[OM];omega) (ec rfl ?_);rw[show iK mq 2 1 (.agg [.I 0,.I 0]) [(0,.agg [.I 4,.I 0])]=some (.cells mq 2 true false (AB ⟨4,0⟩),λl=> .slice l 0 1) from rfl,fI];obtain⟨w4,h4,e4,_,U,t⟩:=D.wi 0 rfl (lE:=16) (IZ:=mq) (ro:=false) (y:=(⟨4,0⟩:Nl)) (w:=AB ⟨4,0⟩) rfl (by decide) (by decide) (by rw[OM];omega);rw[show eQ mq 2 16 q (.slice R.next 0 1) (R.new (.cells mq 2 true false (AB ⟨4,0⟩)))=_ from e4,eh];refine⟨P-1,by omega,?_⟩;rw[b];refine⟨m+1,w4,rfl,by omega,S.trans t,?_⟩;rw[List.replicate_succ',<-KB];exact U
   ·refine gD (by rw[OM];omega) ?_;have V:m=x.n.toNat+1-(zq e.u e.of i).length:=by omega
    subst V;have W:gy 2 (.ptr e.le (0+0)) R=some (.agg [e.tR,.I e.fM]):=(xn (D.get 1 rfl)).trans rfl;have pv:=k.v (kE.1 d).1;refine oF (T.ld rfl) (ec (fi _ _) (ec pf (ec W ?_)));refine S9 D (j:=jp+6) (by simpa[Uz]using G) pv.1 pv.2 λF4 h4 t U=>?_;have X:((x.n.toNat:Nat):Int)=x.n:=wBs p0;obtain⟨l5,o5,h5,q1,q2,q3,H5,s5⟩:=U.stE 0 rfl (k:=x.n.toNat) (by rw[OM];omega) (y:=nV (jK e.of i)) (ws:=AB (nV (jK e.of i))) rfl;rw[X]at q1;refine⟨t.next,ec q1 ⟨(T.since t).ld rfl,?_⟩⟩;rw[show gL 2 (.ptr l5 o5) (.agg (AB (nV (jK e.of i)))) h4=_ from q2,eh];refine⟨q3,o F4 h5 q ((S.trans t).trans s5) ?_⟩;have:zq e.u e.of (i+1)=zbO (zq e.u e.of i) x.n.toNat (nV (jK e.of i)):=by
     conv=>lhs;unfold zq
     rw[d];simp only[ho,if_true]
    rw[this];exact H5
  ·refine gD (by omega) (o f M L (.refl _ _) ?_);have:zq e.u e.of (i+1)=zq e.u e.of i:=by
    conv=>lhs;unfold zq
    rw[d];simp only[ho,if_false]
   rw[this];exact z
 ·refine iY ?_;obtain rfl:i=e.u.ee.length:=by omega
  obtain⟨z,A,r2⟩:=Z.ji 0 rfl;exact H _ h1 L (s1.trans A) (E.since (s1.trans A) z.tail) r2
end
open Un Dm
section
variable{F F':Nat->Prop}{h h':Hp}{cs:List Pc}{Q:fo}{e:Ge}{s:Ga}{w:Gx}{u:U}{of:List Int}{fM:Int}{In Out:Nat->Nat->Prop}
theorem Wy{c:Bool}(b:rk u (jN u) In Out)(a:pJ u Out of fM)(h:c=false->(∀Out,¬pJ u Out of fM)\/∃In Out,rk u (jN u) In Out/\¬pJ u Out of fM):c=true:=by
 cases c with
 |true=>rfl
 | false=>
   rcases h rfl with h|⟨_,_,d,e⟩
   ·exact(h _ a).elim
   ·exact(e (a.congr b d)).elim
theorem Pd(a:pJ u Out of fM){v:Nat}(hv:v<u.ee.length):of[v]? =some (jK of v)/\OT fM (jK of v):=by
 have hl:v<of.length:=by rw[a.len];exact hv
 have e:jK of v=of[v]:=by unfold jK;rw[OV,iz hl];rfl
 rw[e];exact⟨iz hl,a.pl _ (Dg hl)⟩
theorem X5(g:Good u)(k:pJ u Out of fM)(p t:Nat):(jP (rE u of p t)).Nodup:=by
 unfold rE;split;rotate_left
 ·exact .nil
 rename_i B q;have i:∀n,(jP ((B.ee.take n).flatMap (sU u of (qy p B.fu)))).Nodup/\∀x∈jP ((B.ee.take n).flatMap (sU u of (qy p B.fu))),∃j v,j<n/\At u v t j/\hD u v=true/\of[v]? =some x:=λn=>by
  induction n with
  |zero=>exact⟨.nil,by simp[jP]⟩
  | succ n r =>
    obtain⟨d,h⟩:=r;by_cases hn:n<B.ee.length
    ·rw[Nt hn,wA4,wBT]
     have e:At u B.ee[n] t n:=⟨B,q,iz hn⟩
     generalize B.ee[n]=v at*;have up:∀x∈jP ((B.ee.take n).flatMap (sU u of (qy p B.fu))),∃j v,j<n+1/\At u v t j/\hD u v=true/\of[v]? =some x:=λx c=>by
       obtain⟨j,v,a,b⟩:=h x c;exact⟨j,v,by omega,b⟩
     unfold sU;split
     ·rename_i x c
      split
      ·rename_i s
       have m:hD u v=true:=by unfold hD;rw[c];simp[kh,s]
       obtain⟨o,G⟩:=Pd k (kE.1 c).1;have e1:∀l:List Mv,jP (l++[(jK of (x.args.getD (qy p B.fu) 0),jK of v)])=jP l++[jK of v]:=λl=>by simp[jP]
       rw[e1];refine⟨wB0.2 ⟨d,by simp,λa z b A=>?_⟩,λy f=>?_⟩
       ·rw[EI.1 A]
        rintro rfl;obtain⟨j,w,C,D,E,F⟩:=h _ z;exact(k.pa t n).hd v e m j w C D E (F.trans o.symm)
       ·rcases xU.1 f with f|f
        ·exact up y f
        ·rw[EI.1 f]
         exact⟨n,v,by omega,e,m,o⟩
      ·rw[Hf]
       exact⟨d,up⟩
     ·rw[Hf]
      exact⟨d,up⟩
    ·rw[Uj (by omega)]
     rw[Uj (by omega)]at d h;exact⟨d,λx c=>by obtain⟨j,v,a,b⟩:=h x c;exact⟨j,v,by omega,b⟩⟩
 have:=(i B.ee.length).1
 rwa [SM]at this
theorem Tt(g:Good u)(a:pJ u Out of fM):OU u of:=λv hv=>by
 have:=(Pd a hv).2;have b:=a.s1;unfold OT at this;omega
theorem Th(g:Good u)(l:OU u of){m:Nat}(k:∀(t:Nat) T,u.blocks[t]? =some T->T.ee.length<=m)(oS:(nK u of).length<=1048576){i:Nat}{cs:List (List Ni)}(h:Bb u of (u.blocks.take i) 0 0 cs):cs.flatten.length<=u.blocks.length*(8*m+3)/\cs.length<=u.blocks.length/\∀x∈cs.flatten,pW u.blocks.length (nK u of).length x:=by
 have hl:=h.length;have o:=List.length_take_le' i u.blocks;have a:∀(n:Nat) c,cs[n]? =some c->(∀x∈c,pW u.blocks.length (nK u of).length x)/\c.length<=8*m+3:=λn c e=>by
  have p:=(kE.1 e).1;obtain⟨B,b⟩:∃B,(u.blocks.take i)[n]? =some B:=⟨_,iz (by omega)⟩
  obtain ⟨c',f,d⟩:=h.get b;rw[e]at f;cases f;rw[HP,HP]at d;have j:n<i:=by
   have:=(kE.1 b).1;rw[Rh]at this;omega
  rw[List.getElem?_take_of_lt j]at b;rw[List.take_take,wBm (by omega)]at d;obtain⟨q,s,v⟩:=Wh g l oS b d (GV b) k;have:=k n B b;exact⟨q,by omega⟩
 refine⟨KK (J9 (m:=8*m+3) λc hc=>?_) (wA9 _ (by omega)),by omega,λx r=>?_⟩
 ·obtain⟨n,e⟩:=oR.1 hc;exact(a n c e).2
 ·obtain⟨n,c,f,d⟩:=SA r;exact(a n c f).1 x d
theorem Xk{a b c:V}{m n:Int}(d:a.one=true)(e:b.one=true):fm [V.I 0,V.I 0,V.ed,V.ed,V.ed] [(0,1),(1,1),(2,1),(3,1),(4,1)] [(0,V.I m),(1,V.I n),(3,a),(4,b)]=some (.agg [.I m,.I n,.ed,a,b]):=by
 unfold fm;simp[xE,tM d,tM e];rfl
end
open Un Dm
abbrev p6:Nat:=29
section
variable{F F':Nat->Prop}{h h':Hp}{cs:List Pc}{Q:fo}{e:Ge}{s:Ga}{w:Gx}{u:U}{of:List Int}{fM:Int}{In Out:Nat->Nat->Prop}{vv vb vs tR:V}
theorem za3(g:Good u)(H0:ej F h cs)(hu:Is F h u vv vb vs){j:Nat}(hj:cs[j]? =some (fE eZ fw of tR))(hA:rk u (jN u) In Out)(hR:pJ u Out of fM)
  {m:Nat} (hm:∀(t:Nat) T,u.blocks[t]? =some T->T.ee.length<=m) (aH:u.blocks.length*(8*m+3)<=32768)
  (H:∀F' h' wc we O l,Sn F h F' h'->ej F' h' cs->EmitC u of l->iH eY F' h' (EK l) wc->iH Tb F' h' (nK u of) we->iH KI F' h' (zq u of u.ee.length) O->Q (.tuple [.agg [.I u.func,.I u.pc,wc,we,O],.I 0]) h') :
  cP CS Bg [.agg (uC u vv vb vs),.agg [tR,.I fM]] h Q:=by
 refine RT rfl rfl ?_;unfold L4;have nb:=g.nb;have nv:=g.nv;have a5:(nK u of).length<=40000:=by
  have h1:=Pk (of:=of) hm;have M:u.blocks.length*(m+1)<=u.blocks.length*(8*m+3):=Nat.mul_le_mul_left _ (by omega);omega
 have C:=Tt g hR;refine xX H0 hu.one λF1 h1 lu H1 s1 f=>?_;refine xX H1 (by simp only[fe,H1.one j hj];rfl) λF2 M lp H2 s2 c2=>?_;rw[fI];obtain⟨H3,s3⟩:=H2.HM p6 [.I 0,.I 0,.ed,.ed,.ed];have H3:ej F2 (M.new (.cells p6 1 true false [.I 0,.I 0,.ed,.ed,.ed])) (ft M.next p6 [.I 0,.I 0,.ed,.ed,.ed]::cs):=H3;have s3:Sn F2 M F2 (M.new (.cells p6 1 true false [.I 0,.I 0,.ed,.ed,.ed])):=s3;generalize M.new (.cells p6 1 true false [.I 0,.I 0,.ed,.ed,.ed])=h3 at*;generalize M.next=lr at*;have aj:=(s1.trans s2).trans s3;have f:=(f.since s2).since s3;have c2:=c2.since s3;refine ec (f.zB rfl) (NM g H3 (hu.since aj) λF4 h4 s4 H4=>?_);have f:=f.since s4;have c2:=c2.since s4;refine ec (show qH .not (.bool true)=some (.bool false) from rfl) ?_;refine gZ (ec (f.zB rfl) (gZ (ec (c2.zB rfl) ?_)));have aa:=aj.trans s4;refine vh (zaK g H4 (hu.since aa) (ii:=j+1) (by simpa using hj) (by rw[hR.len];omega) λF5 h5 c s5 H5 _ aI=>?_);rw[Wy hA hR aI];refine ec (show mm (.bool false) (qH .not (.bool true))=some (.bool false) from rfl) (gh (gD (by simp) ?_));have f:=f.since s5;have c2:=c2.since s5;have u5:=(hu.since aa).since s5;have aJ:=aa.trans s5;refine ec (c2.zB rfl) (ec rfl (ec (f.zB rfl) (ec rfl ?_)))
 have Ha:ej F5 h5 (fE XX qL [] .ed::fE eN fw [] .ed::fE eN fw [] .ed::fE Tb ny [] .ed::ft lr p6 [.I 0,.I 0,.ed,.ed,.ed]::cs):=
  (((H5.add (p:=fE Tb ny [] .ed) .nil λ_ h=>h).add (p:=fE eN fw [] .ed) .nil λ_ h=>h).add (p:=fE eN fw [] .ed) .nil λ_ h=>h).add (p:=fE XX qL [] .ed) .nil λ_ h=>h
 refine rL Ha (by simp only[fe,H1.one j hj,u5.v.one,u5.b.one,u5.s.one];rfl) λh6 H6 s6=>?_;generalize h5.next=le at*;obtain⟨e,W⟩:∃e:Ge,e=⟨le,u,vv,vb,vs,of,tR,fM⟩:=⟨_,rfl⟩
 have k:QY e:=by
  subst W;exact⟨g,C,hR.len,λp t=>X5 g hR p t⟩
 have E6:Gm F5 h6 (ft lr p6 [.I 0,.I 0,.ed,.ed,.ed]::cs) e ⟨[],[],[],[]⟩ ⟨.ed,.ed,.ed,.ed⟩:=by
  subst W;exact⟨H6,u5.since s6,⟨j+1,by simpa using hj⟩,by simp⟩
 have el:e.le=le:=by rw[W]
 have eu:e.u=u:=by rw[W]
 have eo:e.of=of:=by rw[W]
 rw[<-el];have f:=f.since s6;have aK:=aJ.trans s6;have u6:=u5.since s6;refine oF (f.ld rfl) (ec u6.b.len ?_)
 obtain ⟨J,hJ⟩:∃J:Nat->LP,J=λn l' h'=>∃F' i w' xs,l' = [.ptr lu 0,.ptr lr 0,.ptr e.le 0,.I u.blocks.length,.I (i:Nat)]/\i+n=u.blocks.length/\Sn F5 h6 F' h'/\Bb u of (u.blocks.take i) 0 0 xs/\
   Gm F' h' (ft lr p6 [.I 0,.I 0,.ed,.ed,.ed]::cs) e ⟨xs.flatten,jU 0 xs,oC 0 xs.flatten,(u.blocks.take i).flatMap (EV u of)⟩ w':=⟨_,rfl⟩
 refine N9 J ?_ (k:=u.blocks.length) (by rw[hJ];exact⟨F5,0,_,[],rfl,by omega,.refl _ _,.nil _ _,E6⟩);intro n _ _ _ _ _ h7 ak;rw[hJ]at ak;obtain⟨F7,i,D,xs,⟨⟩,hn,s7,E,A⟩:=ak;obtain⟨xl,xb,xp⟩:=Th g C hm (by omega) E;unfold E0;have jl:=RY xs.flatten 0;by_cases hi:i<u.blocks.length
 ·refine gU (oN (A.ld 8 rfl) (oN (A.ld 7 rfl) (ec (A.H.len 1 rfl) ?_)));rw[show iK 3 1 1 (.I 0) [(0,.I xs.flatten.length)]=_ from DG _,hH];obtain⟨v8,P,e8,n8,H8,s8⟩:=A.H.wi 2 rfl (lE:=8) (IZ:=3) (y:=xs.flatten.length) (w:=[.I xs.flatten.length]) (ro:=false) rfl (by decide) (by decide) (by rw[De];omega);refine⟨⟨eJ _ _,bq⟩,iJ (A.ld 7 rfl) (eE _ (BD A.H 0 rfl)),iJ (A.ld 8 rfl) (eE _ (BD A.H 0 rfl)),?_⟩;rw[show eQ 3 1 8 D.b (.slice h7.next 0 1) (h7.new (.cells 3 1 true false (nD [xs.flatten.length])))=_ from e8,eh];obtain⟨h9,e9,n9,H9,N⟩:=H8.st 0 rfl (o:=0+8) (by simp[emC]) (H8.one 2 rfl);refine⟨by have:(h7.new (.cells 3 1 true false (nD [xs.flatten.length]))).next=h7.next+1:=rfl;omega,ec (fi _ _) (ec pf ?_)⟩;rw[e9,eh];have al:=s8.trans N
  have E9:Gm F7 h9 (ft lr p6 [.I 0,.I 0,.ed,.ed,.ed]::cs) e ⟨xs.flatten,jU 0 xs++[xs.flatten.length],oC 0 xs.flatten,(u.blocks.take i).flatMap (EV u of)⟩ {D with b:=v8}:=
   ⟨H9,A.u.since al,A.p,by have:=A.n;rw[oQ,De,Qv];exact⟨this.1,by omega,this.2.2⟩⟩
  obtain⟨B,hB⟩:∃B,u.blocks[i]? =some B:=⟨_,iz hi⟩
  have am:((u.blocks.take i).flatMap (EV u of)).length<100000:=by have:=GV (of:=of) hB;omega
  refine ⟨n9,zas k E9 (by show xs.flatten.length<_;omega) (by show(oC 0 xs.flatten).length<_;omega) am (B:=B) (by rw[eu];exact hB) λR an ao c G hc d=>?_⟩;rw[eu,eo]at hc d;have aq:u.blocks.take (i+1)=u.blocks.take i++[B]:=by
   rw[Nt hi];rw[iz hi]at hB;rw[Option.some.inj hB]
  have X:Bb u of (u.blocks.take (i+1)) 0 0 (xs++[c]):=by
   rw[aq];refine E.snoc ?_;rw[HP,HP,Rh,wBm (by omega)];exact hc
  obtain⟨yl,_,_⟩:=Th g C hm (by omega) X;have aL:(xs++[c]).flatten=xs.flatten++c:=by simp
  have d:Gm R an (ft lr p6 [.I 0,.I 0,.ed,.ed,.ed]::cs) e ⟨(xs++[c]).flatten,jU 0 (xs++[c]),oC 0 (xs++[c]).flatten,(u.blocks.take (i+1)).flatMap (EV u of)⟩ ao:=by
   rw[LY,aL,sY,aq,wA4,wBT,HP];exact d
  refine oN (d.ld 7 rfl) (ec (d.H.len 1 rfl) (ec (iG _ _ _ _) (gh (gD ?_ ?_))))
  ·simp only[AL];omega
  refine gf ⟨n-1,by omega,?_⟩;rw[hJ];exact⟨R,i+1,ao,xs++[c],rfl,by omega,(s7.trans al).trans G,X,d⟩
 refine iY ?_;obtain rfl:i=u.blocks.length:=by omega
 rw[SM]at E A;have a6:=E.length;have ar:EmitC u of (xs.flatten.map (patch (jU 0 xs))):=⟨xs,E,rfl⟩
 refine oN (A.ld 9 rfl) (ec (A.H.len 3 rfl) ?_)
 obtain ⟨J1,ab⟩:∃J1:Nat->LP,J1=λn l' h'=>∃i a c,l' = [.ptr lu 0,.ptr lr 0,.ptr e.le 0,D.j,.I ((oC 0 xs.flatten).length:Nat),.I (i:Nat)]/\i+n=(oC 0 xs.flatten).length/\Sn F5 h6 F7 h'/\xs.flatten=a++c/\(oC 0 xs.flatten).drop i=oC a.length c/\
   Gm F7 h' (ft lr p6 [.I 0,.I 0,.ed,.ed,.ed]::cs) e ⟨a.map (patch (jU 0 xs))++c,jU 0 xs,oC 0 xs.flatten,nK u of⟩ D:=⟨_,rfl⟩
 refine NC J1 ?_ (k:=(oC 0 xs.flatten).length) (by rw[ab];exact⟨0,[],xs.flatten,rfl,by omega,s7,rfl,rfl,A⟩);intro n1 _ _ _ _ _ _ P au;rw[ab]at au;obtain⟨q,a,c,⟨⟩,hq,s8,S,U,z⟩:=au;unfold Ft;by_cases EO:q<(oC 0 xs.flatten).length
 ·have aM:=iz EO;have aw:=wAj EO;generalize (oC 0 xs.flatten)[q]=p at*;rw[U]at aw;obtain⟨r,x,I,rfl,hp,aN,ax,ac⟩:=PZ aw;have aO:x∈xs.flatten:=by rw[S];simp
  obtain⟨x0,x1⟩:=(xp x aO).j ax;obtain⟨bn,ay⟩:∃bn,(jU 0 xs)[x.n.toNat]? =some bn:=⟨_,iz (by rw[De];omega)⟩
  have aP:x.n=((x.n.toNat:Nat):Int):=by omega
  have az:(a.map (patch (jU 0 xs))++(r++x::I))[p]? =some x:=by
   rw[wBR (by simp;omega),XS,wBR (by omega),hp,show a.length+r.length-a.length-r.length=0 by omega];rfl
  have ae:=(kE.1 az).1;obtain⟨l1,o1,p1,p2⟩:=z.H.Xx 3 rfl aM .i64;obtain⟨l2,o2,ws,q1,q2,q3,q4⟩:=z.H.ixO 1 rfl ae .i64;have e3:(a.map (patch (jU 0 xs))++(r++x::I))[p]=x:=Option.some.inj ((iz ae).symm.trans az);rw[e3]at q3;have q3:ws=BQ x:=q3;subst q3;have qn:eC (.ptr l2 (o2+4)) P=some (.I ((x.n.toNat:Nat):Int)):=by rw[<-aP];exact q4 4 _ rfl
  obtain ⟨l3,o3,r1,r2⟩:=z.H.Xx 2 rfl ay .i64;obtain⟨l4,o4,h9,t1,t2,t3,H9,N⟩:=z.H.stP 1 rfl ae (j:=4) (by decide) (y:={x with n:=(bn:Nat)}) (u:= .I bn) rfl (λw hw=>by
   rw[e3]at hw;have hw:w=BQ x:=hw;subst hw;rfl)
  refine gU (ec p1 (ec p2 (oN (z.ld 7 rfl) (oN (z.ld 8 rfl) (oN (z.ld 7 rfl) (ec q1 (oF qn (ec r1 (ec r2 (ec t1 (ec pf ?_)))))))))));rw[t2,eh];refine⟨t3,?_⟩;have a7:(oC 0 xs.flatten).length<=xs.flatten.length:=jl;refine gf ⟨n1-1,by omega,?_⟩;rw[ab];have aQ:patch (jU 0 xs) x = {x with n:=(bn:Nat)}:=by
   unfold patch;rw[if_pos ax,OV,ay];rfl
  have aA:(a.map (patch (jU 0 xs))++(r++x::I)).set p {x with n:=(bn:Nat)} = (a++r++[x]).map (patch (jU 0 xs))++I:=by
   rw[List.set_append_right _ _ (by simp;omega),XS,List.set_append_right _ _ (by omega),hp,show a.length+r.length-a.length-r.length=0 by omega];simp[SQ aN,aQ]
  refine⟨q+1,a++r++[x],I,rfl,by omega,s8.trans N,by rw[S];simp,?_,?_⟩
  ·rw[ac,hp];congr 1;simp;omega
  ·rw[<-aA];exact⟨H9,z.u.since N,z.p,by rw[X1];exact z.n⟩
 ·refine iY ?_;rw[wBS (by omega)]at U;have aR:∀x∈c,A1 x=false:=λx hx=>by
   cases hj:A1 x with
   |false=>rfl
   | true=>
     obtain ⟨s,t,rfl⟩:=wBv hx;have:oC a.length (s++x::t)≠[]:=λW=>by
       rw[sY]at W;have M:=(List.append_eq_nil_iff.1 W).2;rw[oC,if_pos hj]at M;cases M
     exact(this U.symm).elim
  have aS:a.map (patch (jU 0 xs))++c=xs.flatten.map (patch (jU 0 xs)):=by rw[S,List.map_append,SQ aR]
  rw[aS]at z;clear U S;have aB:=VS g C ar hm (by omega);generalize xs.flatten.map (patch (jU 0 xs))=l at*;have f:=f.since s8;have aT:=aK.trans s8;have ag:=z.H.one 4 rfl;refine oF (f.ld rfl) (oF (f.ld rfl) (oN (z.ld 10 rfl) ?_));rw[hH];obtain⟨H9,N⟩:=z.H.HM p6 [.I 0,.I 0,.ed,.ed,.ed];have H9:ej F7 (P.new (.cells p6 1 true false [.I 0,.I 0,.ed,.ed,.ed])) (ft P.next p6 [.I 0,.I 0,.ed,.ed,.ed]::Uz e ⟨l,jU 0 xs,oC 0 xs.flatten,nK u of⟩ D (ft lr p6 [.I 0,.I 0,.ed,.ed,.ed]::cs)):=H9;have N:Sn F7 P F7 (P.new (.cells p6 1 true false [.I 0,.I 0,.ed,.ed,.ed])):=N;have g9:=eJ P (.cells p6 1 true false [.I 0,.I 0,.ed,.ed,.ed]);generalize P.new (.cells p6 1 true false [.I 0,.I 0,.ed,.ed,.ed])=h9 at*;generalize P.next=ln at*;obtain⟨jp,aC⟩:=z.p
  have E9:Gm F7 h9 (ft ln p6 [.I 0,.I 0,.ed,.ed,.ed]::ft lr p6 [.I 0,.I 0,.ed,.ed,.ed]::cs) e ⟨l,jU 0 xs,oC 0 xs.flatten,nK u of⟩ D:=
   ⟨H9.YI,z.u.since N,⟨jp+1,by simpa using aC⟩,z.n⟩
  have f:=f.since N;refine⟨⟨g9,bq⟩,E9.ld 10 rfl,f.ld rfl,f.ld rfl,X7 k E9 λR an O G d rn=>⟨G.next,?_⟩⟩;rw[eu,eo]at rn;have f:=f.since G;refine ec (Xk (c:= .ed) ag rn.one) ⟨⟨(d.H.get 5 rfl),bq⟩,d.ld 10 rfl,f.ld rfl,f.ld rfl,?_⟩;obtain⟨aU,aV,aW,aX,ah⟩:=d.H.XM 5 rfl (n:=5) (ws:=[.I u.func,.I u.pc,.ed,D.e,O]) rfl rfl (by simp only[fe,ag,rn.one];rfl);rw[aV,eh]
  have aD:Gm R aU (ft ln p6 [.I u.func,.I u.pc,.ed,D.e,O]::ft lr p6 [.I 0,.I 0,.ed,.ed,.ed]::cs) e ⟨l,jU 0 xs,oC 0 xs.flatten,nK u of⟩ D:=
   ⟨aX,d.u.since ah,⟨jp+1,by simpa using aC⟩,d.n⟩
  refine⟨aW,oN (aD.ld 7 rfl) ?_⟩;obtain⟨aY,aZ,ai⟩:=aD.H.ji 1 rfl;obtain⟨a0,Y,a1⟩:=aY.ji 4 rfl;have ai:=ai.since Y;refine WN a0 ai (KK aB.2.1 aH) (λx hx=>(aB.1 x hx).1) λa8 a9 wc Z a2 rc=>?_;refine ec rfl (ec rfl (ec (show ef .neq 40 (.I 0) (.I 0)=some (.bool false) from rfl) (gh (gD (by simp) (ec pf ?_)))));obtain⟨aE,a3,_,aF,K⟩:=a2.st 5 rfl (o:=0+2) (by simp) rc.one;rw[a3,eh];have o5:gz [V.I u.func,.I u.pc,wc,D.e,O]=true:=by simp only[fe,ag,rn.one,rc.one];rfl
  refine ec (show gy 5 (.ptr ln 0) aE=some (.agg [V.I u.func,.I u.pc,wc,D.e,O]) from aF.zB 5 rfl rfl) ?_;obtain⟨a4,e16,_,aG,L⟩:=aF.XM 6 rfl (n:=5) (ws:=[.I u.func,.I u.pc,wc,D.e,O]) rfl rfl o5;rw[show gL 5 (.ptr lr 0) (.agg _) aE=_ from e16,eh];refine ec (aG.zB 6 rfl rfl) ?_;have sA:=aT.trans (N.trans (G.trans ah));have sB:=(aZ.trans Y).trans (Z.trans (K.trans L));have sC:=Z.trans (K.trans L);exact H _ a4 wc D.e O l (sA.trans sB) aG.tail.tail.tail.tail.tail.tail.tail ar (rc.since (K.trans L)) (a1.since sC) (rn.since (ah.trans sB))
end
