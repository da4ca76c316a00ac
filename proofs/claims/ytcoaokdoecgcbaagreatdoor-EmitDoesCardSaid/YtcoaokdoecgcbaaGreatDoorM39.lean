/- Parts. -/
import Derived.Test.YtcoaokdoecgcbaaGreatDoorM38
import Derived.Test.YtcoaokdoecgcbaaGreatDoorM45
set_option maxHeartbeats 4000000
namespace Go.Proofs.YtcoaokdoecgcbaaGreatDoor.Hx
open Un Dm
theorem P1{len n l o m:Nat}{a:IntKind}(b:m<len):qy len n (.ptr l o) (.int a (m:Nat))=some (.ptr l (o+m*n)):=by
 show bB (Nat.blt m len) _=_;rw[show Nat.blt m len=true from wAh b];rfl
def Vw(op:Nat):Bool:=op == 1 ||op == 3 ||op == 4 ||op == 24 ||op == 25 ||op == 19 ||op == 21 ||op == 23 ||op == 26 ||op == 27
section
variable{F F':Nat->Prop}{h h':Hp}{cs:List Pc}{Q:fj}
theorem VJ{op:Nat}(j:1<=op)(k:op<=27)(H:Q (.tuple [.I (kG op:Nat),.bool (Vw op)]) h):cP CS qk [.I op] h Q:=by
 refine Fu ?_;have H:∀r b,kG op=r->Vw op=b->Q (.tuple [.I (r:Nat),.bool b]) h:=by rintro _ _ rfl rfl;exact H
 have d:∀b,(b=true↔op=1\/op=3\/op=4\/op=24\/op=25\/op=19\/op=21\/op=23\/op=26\/op=27)->Vw op=b:=λb a=>by
  rw[WK,a];unfold Vw;simp[JD,Ey];omega
 have f:∀b,(b=true↔op=1\/op=3\/op=4\/op=24\/op=25)->iq Q [.I op,.bool b] h:=λb a=>by
  refine B4 ?_;unfold tT;refine fX (iY (λe=>?_) λe=>?_)
  ·have e:=a.1 e;exact H 1 true (by unfold kG;rw[if_pos e]) (d _ (by simp;omega))
  have m1:¬(op=1\/op=3\/op=4\/op=24\/op=25):=λh=>e (a.2 h);have g:∀b,(b=true↔op=2\/op=10\/op=11\/op=17\/op=18)->ir Q [.I op,.bool b] h:=λb a=>by
   refine B2 ?_;unfold tG;refine fX (iY (λe=>?_) λe=>?_)
   ·have e:=a.1 e;exact H 2 false (by unfold kG;rw[if_neg m1,if_pos (by omega)]) (d _ (by simp;omega))
   have l:¬(op=2\/op=10\/op=11\/op=17\/op=18):=λh=>e (a.2 h);have i:∀b,(b=true↔op=19\/op=21)->ko Q [.I op,.bool b] h:=λb a=>by
    refine Bu ?_;unfold sO;refine fX (iY (λe=>?_) λe=>?_)
    ·have e:=a.1 e;exact H 2 true (by unfold kG;rw[if_neg m1,if_pos (by omega)]) (d _ (by simp;omega))
    have m:¬(op=19\/op=21):=λh=>e (a.2 h);have c:∀b,(b=true↔op=23\/op=26\/op=27)->jB Q [.bool b] h:=λb a=>by
     refine Bm ?_;unfold sZ;refine fX (iY (λe=>?_) λe=>?_)
     ·have e:=a.1 e;exact H 0 true (by unfold kG;rw[if_neg m1,if_neg (by omega),if_neg (by omega)]) (d _ (by simp;omega))
     ·have n:¬(op=23\/op=26\/op=27):=λh=>e (a.2 h);exact H 3 false (by unfold kG;rw[if_neg m1,if_neg (by omega),if_pos (by omega)]) (d _ (by simp;omega))
    refine fM (fX (iY (λe=>c _ (by simp at e⊢;omega)) λe=>?_));refine fM (fX (iY (λe=>c _ (by simp at e⊢;omega)) λe=>?_));exact fM (c _ (by simp at*;omega))
   refine fM (fX (iY (λe=>i _ (by simp at e⊢;omega)) λe=>?_));exact fM (i _ (by simp at*;omega))
  refine fM (fX (iY (λe=>g _ (by simp at e⊢;omega)) λe=>?_));refine fM (fX (iY (λe=>g _ (by simp at e⊢;omega)) λe=>?_));refine fM (fX (iY (λe=>g _ (by simp at e⊢;omega)) λe=>?_));refine fM (fX (iY (λe=>g _ (by simp at e⊢;omega)) λe=>?_));exact fM (g _ (by simp at*;omega))
 refine fM (fX (iY (λe=>f _ (by simp at e⊢;omega)) λe=>?_));refine fM (fX (iY (λe=>f _ (by simp at e⊢;omega)) λe=>?_));refine fM (fX (iY (λe=>f _ (by simp at e⊢;omega)) λe=>?_));refine fM (fX (iY (λe=>f _ (by simp at e⊢;omega)) λe=>?_));exact fM (f _ (by simp at*;omega))
theorem zaf{α:Type}{l:List α}{P:α->Nat->Prop}{i:Nat}{x:α}(b:l[i]? =some x)(hp:P x i)(h:∀j x,j<i->l[j]? =some x->P x j):∀j x,j<i+1->l[j]? =some x->P x j:=λj y c a=>by
 by_cases e:j=i
 ·subst e;rw[b]at a;cases a;exact hp
 ·exact h j y (by omega) a
theorem Of{x:Ni}{n:Nat}(M:ej F h cs)(H:∀F' h' b,Sn F h F' h'->ej F' h' cs->(b=true↔AH n x)->Q (.bool b) h'):cP CS kY [.agg (JM x),.I n] h Q:=by
 refine BW ?_;refine tR M rfl λN G l I s1 m=>?_;have B:ez (.ptr l (0+0)) G=some (.I x.op):=m.ld rfl;refine oF B (ec (iF _ _ _ _) ?_);simp only[fo,eQ,B,jr,jj];by_cases hop:1<=x.op/\x.op<=27;rotate_left
 ·refine fX (fO ?_ (H N G false s1 I (V5 λe=>hop e.1)));simp[ yU];omega
 refine fX (fH ?_ ?_)
 ·simp[ yU];omega
 first|refine oF B (VJ hop.1 hop.2 (ec rfl (ec rfl (oF (m.ld rfl) (oF (m.ld rfl) (oF (m.ld rfl) (ec rfl ?_)))))))|refine VJ hop.1 hop.2 (ec rfl (ec rfl (ec (m.ld rfl) (ec (m.ld rfl) (ec (m.ld rfl) (ec rfl ?_))))))
 refine ud I rfl rfl rfl λJ O lr K L c2=>?_;have u:=m.since L;have v:=s1.trans L;refine zI (λk P h'=>∃i,P=[.I n,.ptr l 0,.I (kG x.op:Nat),.bool (Vw x.op),.ptr lr 0,.I (i:Nat)]/\i+k=3/\h' = O/\∀j r,j<i->([x.a,x.b,x.c]:List Nat)[j]? =some r->pI (kG x.op) r j) ?_ (k:=3) ⟨0,rfl,rfl,rfl,by omega⟩;rintro k _ _ _ _ _ _ g ⟨i,⟨⟩,T,rfl,A⟩;unfold qH;have t:ez (.ptr l (0+4)) g=some (.I x.n):=u.ld rfl;by_cases hi:i<3
 ·obtain ⟨r,d⟩:∃r,([x.a,x.b,x.c]:List Nat)[i]? =some r:=⟨_,hZ (by simpa using hi)⟩
  have R:ez (.ptr lr (0+i*1)) g=some (.I r):=by
   refine c2.ld ?_
   match i,d with
   |0,d=>cases d;rfl
   |1,d=>cases d;rfl
   |2,d=>cases d;rfl
  have C:¬pI (kG x.op) r i->¬AH n x:=λo D=>o (by
   match i,d with
   |0,d=>cases d;exact D.2.2.1
   |1,d=>cases d;exact D.2.2.2.1
   |2,d=>cases d;exact D.2.2.2.2)
  refine gy (ec (iF _ _ _ _) ?_);have w:((decide (((i:Nat):Int)<(kG x.op:Nat))&&(decide (((r:Nat):Int)<0) ||decide ((15:Int)<((r:Nat):Int)))) ||(decide (((kG x.op:Nat):Int)<=((i:Nat):Int))&&((r:Nat):Int) != 0))=true↔¬pI (kG x.op) r i:=by
   unfold pI;simp[ yF];omega
  simp only[eQ,P1 hi,R,iF,jr,jK,rZ,jj,iT,gQ];refine fX (iY (λe=>H J g false v K (V5 (C (w.1 e)))) λe=>?_);refine fG ⟨k-1,by omega,i+1,rfl,by omega,rfl,zaf d (Classical.byContradiction λo=>e (w.2 o)) A⟩
 refine iA ?_;obtain rfl:i=3:=by omega
 have H:∀b,(b=true↔rS x.op x.n n)->Q (.bool b) g:=λb f=>H J g b v K ⟨λe=>⟨hop,f.1 e,A 0 _ (by omega) rfl,A 1 _ (by omega) rfl,A 2 _ (by omega) rfl⟩,λe=>f.2 e.2.1⟩;have lt:∀c,iM (.bool (decide (0<=x.n))) (oB (fJ 4 (.ptr l 0)) λp=>oB (ez p g) λq=>ef .lss 2 q (V.I c))=some (.bool (decide (0<=x.n/\x.n<c))):=λc=>by
  rw[fo,eQ,t,eQ,iF,iT,Bool.decide_and]
 have le:∀c,iM (.bool (decide (0<=x.n))) (oB (fJ 4 (.ptr l 0)) λp=>oB (ez p g) λq=>ef .leq 2 q (V.I c))=some (.bool (decide (0<=x.n/\x.n<=c))):=λc=>by
  rw[fo,eQ,t,eQ,VM,iT,Bool.decide_and]
 refine py ?_;have E:Vw x.op=true↔x.op=1\/x.op=3\/x.op=4\/x.op=24\/x.op=25\/x.op=19\/x.op=21\/x.op=23\/x.op=26\/x.op=27:=by
  unfold Vw;simp[JD,Ey];omega
 unfold rS at H;by_cases o:Vw x.op=true;rotate_left
 ·refine fH o (oF t (fM (H _ ?_)));rw[E]at o;rw[if_neg (by omega),if_neg (by omega),if_neg (by omega),if_neg (by omega),yU]
 rw [E]at o;refine fO (E.2 o) (oF (u.ld rfl) ?_);have y:∀b,(b=true↔x.op=3\/x.op=4)->jQ Q [.I n,.ptr l 0,.I x.op,.bool b] g:=λb f=>by
  refine zr ?_;unfold p9;refine fX (iY (λe=>?_) λe=>?_)
  ·have e:=f.1 e;rw[if_neg (by omega),if_pos e]at H;exact oF t (ec (jK _ _ _ _) (ec (lt 400) (H _ decide_eq_true_iff)))
  have m1:¬(x.op=3\/x.op=4):=λh=>e (f.2 h);have z:∀b,(b=true↔x.op=23\/x.op=24)->jO Q [.I n,.ptr l 0,.I x.op,.bool b] g:=λb f=>by
   refine zf ?_;unfold p8;refine fX (iY (λe=>?_) λe=>?_)
   ·have e:=f.1 e;rw[if_neg (by omega),if_neg m1,if_pos e]at H;exact oF t (ec (jK _ _ _ _) (ec (le n) (H _ decide_eq_true_iff)))
   have S:¬(x.op=23\/x.op=24):=λh=>e (f.2 h);have s:∀b,(b=true↔x.op=25\/x.op=26\/x.op=27)->iS Q [.ptr l 0,.bool b] g:=λb f=>by
    refine zx ?_;unfold p5;refine fX (iY (λe=>?_) λe=>?_)
    ·have e:=f.1 e;rw[if_neg (by omega),if_neg m1,if_neg S,if_pos e]at H;exact oF t (ec (jK _ _ _ _) (ec (le 1048576) (H _ decide_eq_true_iff)))
    ·have U:¬(x.op=25\/x.op=26\/x.op=27):=λh=>e (f.2 h);exact H true (by rw[if_pos (by omega)];simp)
   refine fM (fX (iY (λe=>s _ (by simp at e⊢;omega)) λe=>?_));refine fM (fX (iY (λe=>s _ (by simp at e⊢;omega)) λe=>?_));exact fM (s _ (by simp at*;omega))
  refine fM (fX (iY (λe=>z _ (by simp at e⊢;omega)) λe=>?_));exact fM (z _ (by simp at*;omega))
 refine fM (fX (iY (λe=>y _ (by simp at e⊢;omega)) λe=>?_));exact fM (y _ (by simp at*;omega))
theorem S6{l:List Ni}{v:V}(d:ej F h cs)(hl:hD Zm F h l v)(y:l.length<1000000)(H:∀F' h' b,Sn F h F' h'->ej F' h' cs->(b=true↔l.length<=32768/\∀x∈l,AH l.length x)->Q (.bool b) h'):cP CS mR [v] h Q:=by
 refine BO ?_;refine ec hl.len (ec (jr _ _ _ _) (fX ?_));by_cases z:32768<l.length
 ·exact fO (by simp;omega) (H F h false (.refl _ _) d (V5 λe=>by omega))
 refine fH (by simp;omega) ?_;refine yR (λk q h'=>∃F' i,q=[v,.I (i:Nat)]/\i+k=l.length/\Sn F h F' h'/\ej F' h' cs/\∀j x,j<i->l[j]? =some x->AH l.length x) ?_ (k:=l.length) ⟨F,0,rfl,by omega,.refl _ _,d,by omega⟩;rintro k _ _ r ⟨s,i,⟨⟩,A,a,f,g⟩;unfold pZ;refine ec hl.len ?_;by_cases hi:i<l.length
 ·have m:=hZ hi
  let⟨B,C,ws,_,t,u,c,_⟩:=(hl.since a).ix hi .i64
  generalize l[i]=x at*;have c:=c;subst c;refine gy (ec t (ec u (ec hl.len (Of f λn w b s4 o p=>?_))));refine py ?_;by_cases hb1:AH l.length x
  ·exact fO (p.2 hb1) (fG ⟨k-1,by omega,n,i+1,rfl,by omega,a.trans s4,o,zg m hb1 g⟩)
  ·exact fH (λe=>hb1 (p.1 e)) (H n w false (a.trans s4) o (V5 λe=>hb1 (e.2 x (yN m))))
 ·exact iA (H s r true a f (tru ⟨by omega,CT (by omega) g⟩))
variable{bs:List Nat}{v:V}
def Vo(b:List Nat)(i:Nat):Nat->Nat
 |0=>0
 |k+1=>256*Vo b i k+b.getD (i+(7-k)) 0
theorem OG(b:List Nat)(i:Nat):∀k,ye b i (k+1)=b.getD i 0+256*ye b (i+1) k
 |0=>by simp[ye]
 | k+1=>by
   have a:=OG b i k;unfold ye;rw[a]
   conv=>rhs;rw[Nat.mul_add,<-Zz]
   congr 1;rw[Nat.pow_succ,show i+(k+1)=i+1+k by omega,wB1 (256 ^ k) 256,Nat.mul_left_comm]
theorem TY(b:List Nat)(i:Nat):∀k,k<=8->Vo b i k=ye b (i+(8-k)) k
 |0,_=>rfl
 | k+1,h=>by
   unfold Vo;rw[TY b i k (by omega),OG,show i+(8-(k+1))=i+(7-k) by omega,show i+(8-k)=i+(7-k)+1 by omega];omega
theorem MW(U:ej F h cs)(hl:hD eY F h bs v)(hn:bs.length<=2000000)(Z:∀F' h' w l,Sn F h F' h'->ej F' h' cs->Mq bs l->hD Zm F' h' l w->Q (.tuple [w,.I 0]) h')
  (O:∀F' h' e,Sn F h F' h'->ej F' h' cs->e≠0->(∀l,¬Mq bs l)->Q (.tuple [.ed,.I e]) h'):cP CS mg [v] h Q:=by
 refine Ep ?_;have f:ef .rem 3 (.I bs.length) (.I 11)=some (.I ((bs.length % 11:Nat):Int)):=by
  show some (V.I (Int.tmod (bs.length:Int) 11))=_;rw[wBQ (by omega)];rfl
 refine ec hl.len (ec f (xh ?_));by_cases g:bs.length % 11=0;rotate_left
 ·exact kw (O F h 7 (.refl _ _) U (by decide) λl hd=>g hd.len)
 refine io ?_;have p:=zeX hl;obtain⟨J,P⟩:∃J:Nat->LP,J=λn R h'=>∃F' i x4,R=[v,x4,.I ((11*i:Nat):Int)]/\i+n=bs.length / 11/\Sn F h F' h'/\ej F' h' (ft Zm vE ((Bo bs).take i) x4::cs):=⟨_,rfl⟩
 refine Bf J ?_ (k:=bs.length / 11) (by rw[P];exact⟨F,0,_,rfl,by omega,.refl _ _,U.add .nil λ_ h=>h⟩);intro n x0 x4 x5 q r;rw[P]at r;obtain⟨D,i,_,⟨⟩,aa,s1,E⟩:=r;unfold sP;have r1:=hl.since s1;refine ec r1.len ?_;by_cases hi:i<bs.length / 11
 ·refine gy ?_;have G:∀j,j<11->bs[11*i+j]? =some (bs.getD (11*i+j) 0):=λj hj=>by
   rw[IY,hZ (by omega)];rfl
  let⟨l0,o0,f0,p0,q0,b0⟩:=r1.byte (G 0 (by omega)) .i64
  let⟨l1,o1,f1,p1,H,b1⟩:=r1.byte (G 1 (by omega)) .i64
  let⟨l2,o2,f2,p2,W,b2⟩:=r1.byte (G 2 (by omega)) .i64
  have I:∀{n:Nat},n<1000->jo .i64 ((n:Nat):Int)=(n:Nat):=λh=>AV (by omega);refine ec p0 (ec q0 (ec (by rw[gg,I (by omega)]) ?_));refine fG (ec p1 (ec H (ec (zfi b1) (ec (by rw[gg,I (by omega)]) ?_))));refine fG (ec p1 (ec H (ec zfo (ec (by rw[gg,I (by omega)]) ?_))));refine j9 (m:=2) (by omega) (by omega) (ec p2 (ec W (ec (by rw[gg,I (by omega)]) (ec (show _=some (V.agg (JM {rB bs (11*i)with n:=0})) from rfl) ?_))));rw[gI]
  let⟨s,K⟩:=E.xC vE [.I 0,.I 0,.I 0,.I 0,.I 0]
  let⟨L,e3,n3,M,t⟩:=s.Tw 0 (ws:=JM {rB bs (11*i)with n:=0}) rfl rfl rfl rfl
  have N:∀{l o:Nat} {x:Int},D l->ez (.ptr l o) q=some (.int .u8 x)->ez (.ptr l o) (q.new (.cells vE 1 true false [.I 0,.I 0,.I 0,.I 0,.I 0]))=some (.int .u8 x):=λhf h=>gz h (fi _ (E.fl _ hf));refine⟨⟨fh _ _,bq⟩,N f2 W,N f1 H,N f1 H,N f0 q0,?_⟩;rw[show gj 5 (.ptr q.next 0) (.agg _) (q.new (.cells vE 1 true false [.I 0,.I 0,.I 0,.I 0,.I 0]))=_ from e3,eh];generalize q.next=lx at*;have y:=K.trans t;refine⟨n3,?_⟩;obtain⟨S,a⟩:∃S:Nat->LP,S=λn R h'=>∃j:Nat,R=[v,x4,.I ((11*i:Nat):Int),.ptr lx 0,.int .u64 ((Vo bs (11*i+3) j:Nat):Int),.I (7-(j:Nat))]/\j+n=8/\h' = L:=⟨_,rfl⟩
  refine Bl S ?_ (k:=8) (by rw[a];exact⟨0,rfl,rfl,rfl⟩);intro n1 _ _ _ _ _ _ h4 z;rw[a]at z;obtain⟨j,⟨⟩,ab,rfl⟩:=z;unfold sk;have r3:=r1.since y;by_cases hj:j<8
  ·let⟨l4,o4,_,p4,q4,b4⟩:=r3.byte (G (3+(7-j)) (by omega)) .i64
   have ac:Vo bs (11*i+3) j<256 ^ j:=by rw[TY _ _ j (by omega)];exact Is p _ j
   have tp:=XW (by omega);rw[Nat.pow_succ,wB1]at tp;refine MG (io ?_);rw[Bn,gQ,gG (by simp[ml];omega)];refine j9 (m:=3) (by omega) (by omega) ?_;rw[show(7:Int)-(j:Nat)=((7-j:Nat):Int) by omega];refine j9 (by omega) (by omega) ?_;rw[show 11*i+(3+(7-j))=11*i+3+(7-j) by omega]at*;refine ec p4 (ec q4 (ec (by rw[gg,gG (by simp only[ml];omega)]) ?_));rw[jf,gQ,gG (by simp only[ml];omega),jx,gQ,gG (by simp[ml];omega)];refine⟨n1-1,by omega,?_⟩;rw[a];exact⟨j+1,by rw[show(7:Int)-((j+1:Nat):Int)=((7-j:Nat):Int)-1 by omega];rfl,by omega,rfl⟩
  ·refine MG (kw ?_);obtain rfl:j=8:=by omega
   rw [TY bs (11*i+3) 8 (jJ _),show 11*i+3+(8-8)=11*i+3 by omega];have T:ye bs (11*i+3) 8<18446744073709551616:=by
    have:=Is p (11*i+3) 8;simpa using this
   refine ec (by rw[gg,zfm T]) (ec pf ?_)
   let⟨A,e5,_,d,s5⟩:=M.st 0 rfl (o:=0+4) (by simp[JM]) (u:= .I (sN (ye bs (11*i+3) 8))) rfl
   rw[e5,eh];have d:ej D A (eD lx vE (JM (rB bs (11*i)))::ft Zm vE ((Bo bs).take i) x4::cs):=d;have B:ez (.ptr lx (0+0)) A=some (.I ((rB bs (11*i)).op:Nat)):=d.ld 0 rfl rfl;refine oF B (ec (iF _ _ _ _) ?_);simp only[fo,eQ,B,jr,jj,gQ];have C:=(s1.trans y).trans s5;refine fX (iY (λe=>O D A 30 C d.tail.tail (by decide) λl hd=>?_) λe=>?_)
   ·have:=(hd.ok (rB bs (11*i)) (by rw[hd.eq];exact yN (PX hi))).1;simp[JD,yU]at e;omega
   refine ec (d.tj 0 rfl rfl) ?_;rw[show iO vE 5 1 (.agg [.I 0,.I 0,.I 0,.I 0,.I 0]) [(0,.agg (JM (rB bs (11*i))))]=some (.cells vE 5 true false (JM (rB bs (11*i))),λl=> .slice l 0 1) from rfl,fK];obtain⟨w6,h6,e6,_,H6,s6⟩:=d.pT 1 rfl (iU:=40) rfl (by decide) (by decide) (by
    have:=List.length_take_le i (Bo bs);omega)
   rw[show fg vE 5 40 x4 (.slice A.next 0 1) (A.new (.cells vE 5 true false (JM (rB bs (11*i)))))=_ from e6,eh];refine j9 (m:=11) (by omega) (by omega) ⟨n-1,by omega,?_⟩;rw[P];exact⟨D,i+1,_,rfl,by omega,C.trans s6,by rw[Sw hi];exact H6.tail⟩
 ·refine iA ?_;obtain rfl:i=bs.length / 11:=by omega
  rw[<-HU,PG]at E
  let⟨s,K,r2⟩:=E.hY 0 rfl
  have s:=s.tail;refine S6 s r2 (by rw[HU];omega) λX L b t M Y=>?_;refine py ?_;by_cases hd:(Bo bs).length<=32768/\∀x∈Bo bs,AH (Bo bs).length x
  ·exact fO (Y.2 hd) (Z X L x4 (Bo bs) ((s1.trans K).trans t) M ⟨g,rfl,hd.1,hd.2⟩ (r2.since t))
  ·refine fH (λe=>hd (Y.1 e)) (O X L 5 ((s1.trans K).trans t) M (by decide) λl c=>hd ?_);have:=c.eq;subst this;exact⟨c.zcj,c.ok⟩
theorem ZA{l:Nl}{en:Bool}(i:ej F h cs)(H:∀F' h' b,Sn F h F' h'->ej F' h' cs->(b=true↔pq l en)->Q (.bool b) h'):cP CS nQ [.agg (KW l),.bool en] h Q:=by
 refine Hm ?_;refine tR i rfl λj d lx k s1 a=>?_;have H:=λb=>H j d b s1 k;unfold pq at H;have lt:∀c,iM (.bool (decide (0<=l.n))) (oB (fJ 1 (.ptr lx 0)) λf=>oB (ez f d) λg=>ef .lss 2 g (V.I c))=some (.bool (decide (0<=l.n/\l.n<c))):=λc=>by
  rw[fo,eQ,show ez (.ptr lx (0+1)) d=some (.I l.n) from a.ld rfl,eQ,iF,iT,Bool.decide_and]
 refine oF (a.ld rfl) (fx ?_);split
 ·rename_i e;rw[if_pos e]at H;exact oF (a.ld rfl) (ec (jK _ _ _ _) (ec (lt 16) (H _ decide_eq_true_iff)))
 rename_i m;rw[if_neg m]at H;refine fx ?_;split
 ·rename_i e;rw[if_pos e]at H;exact oF (a.ld rfl) (ec (jK _ _ _ _) (ec (lt 400) (H _ decide_eq_true_iff)))
 rename_i o;rw[if_neg o]at H;refine fx ?_;split
 ·rename_i e;rw[if_pos e]at H;exact T8 (H _ (by cases en <;> simp))
 rename_i p;rw[if_neg p]at H;refine fx ?_;split
 ·rename_i e;refine ec (show _=some (V.bool (en&&(l.n == 0))) from ?_) (H _ ?_)
  ·rw[fo,eQ,show ez (.ptr lx (0+1)) d=some (.I l.n) from a.ld rfl,eQ,gS,iT]
  ·simp[e]
 ·rename_i e;exact H false (V5 λh=>e h.1)
