/- Parts. -/
import Derived.Test.YtcoaokdoecgcbaaGreatDoorM38
import Derived.Test.YtcoaokdoecgcbaaGreatDoorM45
set_option maxHeartbeats 4000000
namespace Go.Proofs.YtcoaokdoecgcbaaGreatDoor.Hx
open Un Dm
theorem OI{len n l o m:Nat}{a:IntKind}(b:m<len):rH len n (.ptr l o) (.int a (m:Nat))=some (.ptr l (o+m*n)):=by
 show bB (Nat.blt m len) _=_;rw[show Nat.blt m len=true from ZP b];rfl
def UL(op:Nat):Bool:=op == 1 ||op == 3 ||op == 4 ||op == 24 ||op == 25 ||op == 19 ||op == 21 ||op == 23 ||op == 26 ||op == 27
section
variable{F F':Nat->Prop}{h h':Hp}{cs:List Pc}{Q:fo}
theorem U5{op:Nat}(j:1<=op)(k:op<=27)(H:Q (.tuple [.I (kK op:Nat),.bool (UL op)]) h):cP CS ql [.I op] h Q:=by
 refine ET ?_;have H:∀r b,kK op=r->UL op=b->Q (.tuple [.I (r:Nat),.bool b]) h:=by rintro _ _ rfl rfl;exact H
 have d:∀b,(b=true↔op=1\/op=3\/op=4\/op=24\/op=25\/op=19\/op=21\/op=23\/op=26\/op=27)->UL op=b:=λb a=>by
  rw[VC,a];unfold UL;simp[Jz,Gi];omega
 have f:∀b,(b=true↔op=1\/op=3\/op=4\/op=24\/op=25)->ir Q [.I op,.bool b] h:=λb a=>by
  refine By ?_;unfold tH;refine gf (je (λe=>?_) λe=>?_)
  ·have e:=a.1 e;exact H 1 true (by unfold kK;rw[if_pos e]) (d _ (by simp;omega))
  have m1:¬(op=1\/op=3\/op=4\/op=24\/op=25):=λh=>e (a.2 h);have g:∀b,(b=true↔op=2\/op=10\/op=11\/op=17\/op=18)->iu Q [.I op,.bool b] h:=λb a=>by
   refine Bu ?_;unfold tE;refine gf (je (λe=>?_) λe=>?_)
   ·have e:=a.1 e;exact H 2 false (by unfold kK;rw[if_neg m1,if_pos (by omega)]) (d _ (by simp;omega))
   have l:¬(op=2\/op=10\/op=11\/op=17\/op=18):=λh=>e (a.2 h);have i:∀b,(b=true↔op=19\/op=21)->ku Q [.I op,.bool b] h:=λb a=>by
    refine AD ?_;unfold sQ;refine gf (je (λe=>?_) λe=>?_)
    ·have e:=a.1 e;exact H 2 true (by unfold kK;rw[if_neg m1,if_pos (by omega)]) (d _ (by simp;omega))
    have m:¬(op=19\/op=21):=λh=>e (a.2 h);have c:∀b,(b=true↔op=23\/op=26\/op=27)->jC Q [.bool b] h:=λb a=>by
     refine Ax ?_;unfold sD;refine gf (je (λe=>?_) λe=>?_)
     ·have e:=a.1 e;exact H 0 true (by unfold kK;rw[if_neg m1,if_neg (by omega),if_neg (by omega)]) (d _ (by simp;omega))
     ·have n:¬(op=23\/op=26\/op=27):=λh=>e (a.2 h);exact H 3 false (by unfold kK;rw[if_neg m1,if_neg (by omega),if_pos (by omega)]) (d _ (by simp;omega))
    refine fK (gf (je (λe=>c _ (by simp at e⊢;omega)) λe=>?_));refine fK (gf (je (λe=>c _ (by simp at e⊢;omega)) λe=>?_));exact fK (c _ (by simp at*;omega))
   refine fK (gf (je (λe=>i _ (by simp at e⊢;omega)) λe=>?_));exact fK (i _ (by simp at*;omega))
  refine fK (gf (je (λe=>g _ (by simp at e⊢;omega)) λe=>?_));refine fK (gf (je (λe=>g _ (by simp at e⊢;omega)) λe=>?_));refine fK (gf (je (λe=>g _ (by simp at e⊢;omega)) λe=>?_));refine fK (gf (je (λe=>g _ (by simp at e⊢;omega)) λe=>?_));exact fK (g _ (by simp at*;omega))
 refine fK (gf (je (λe=>f _ (by simp at e⊢;omega)) λe=>?_));refine fK (gf (je (λe=>f _ (by simp at e⊢;omega)) λe=>?_));refine fK (gf (je (λe=>f _ (by simp at e⊢;omega)) λe=>?_));refine fK (gf (je (λe=>f _ (by simp at e⊢;omega)) λe=>?_));exact fK (f _ (by simp at*;omega))
theorem YK{α:Type}{l:List α}{P:α->Nat->Prop}{i:Nat}{x:α}(b:l[i]? =some x)(hp:P x i)(h:∀j x,j<i->l[j]? =some x->P x j):∀j x,j<i+1->l[j]? =some x->P x j:=λj y c a=>by
 by_cases e:j=i
 ·subst e;rw[b]at a;cases a;exact hp
 ·exact h j y (by omega) a
theorem NK{x:Ni}{n:Nat}(M:ej F h cs)(H:∀F' h' b,Sn F h F' h'->ej F' h' cs->(b=true↔Bw n x)->Q (.bool b) h'):cP CS ly [.agg (Nw x),.I n] h Q:=by
 refine BI ?_;refine yq M rfl λN G l I s1 m=>?_;have B:eD (.ptr l (0+0)) G=some (.I x.op):=m.ld rfl;refine oF B (ec (gX _ _ _ _) ?_);simp only[fx,fe,B,iT,jB];by_cases hop:1<=x.op/\x.op<=27;rotate_left
 ·refine gf (fX ?_ (H N G false s1 I (YE λe=>hop e.1)));simp[ xX];omega
 refine gf (fN ?_ ?_)
 ·simp[ xX];omega
 first|refine oF B (U5 hop.1 hop.2 (ec rfl (ec rfl (oF (m.ld rfl) (oF (m.ld rfl) (oF (m.ld rfl) (ec rfl ?_)))))))|refine U5 hop.1 hop.2 (ec rfl (ec rfl (ec (m.ld rfl) (ec (m.ld rfl) (ec (m.ld rfl) (ec rfl ?_))))))
 refine yR I rfl rfl rfl λJ O lr K L c2=>?_;have u:=m.since L;have v:=s1.trans L;refine zq (λk P h'=>∃i,P=[.I n,.ptr l 0,.I (kK x.op:Nat),.bool (UL x.op),.ptr lr 0,.I (i:Nat)]/\i+k=3/\h' = O/\∀j r,j<i->([x.a,x.b,x.c]:List Nat)[j]? =some r->pK (kK x.op) r j) ?_ (k:=3) ⟨0,rfl,rfl,rfl,by omega⟩;rintro k _ _ _ _ _ _ g ⟨i,⟨⟩,T,rfl,A⟩;unfold qJ;have t:eD (.ptr l (0+4)) g=some (.I x.n):=u.ld rfl;by_cases hi:i<3
 ·obtain ⟨r,d⟩:∃r,([x.a,x.b,x.c]:List Nat)[i]? =some r:=⟨_,hN (by simpa using hi)⟩
  have R:eD (.ptr lr (0+i*1)) g=some (.I r):=by
   refine c2.ld ?_
   match i,d with
   |0,d=>cases d;rfl
   |1,d=>cases d;rfl
   |2,d=>cases d;rfl
  have C:¬pK (kK x.op) r i->¬Bw n x:=λo D=>o (by
   match i,d with
   |0,d=>cases d;exact D.2.2.1
   |1,d=>cases d;exact D.2.2.2.1
   |2,d=>cases d;exact D.2.2.2.2)
  refine gJ (ec (gX _ _ _ _) ?_);have w:((decide (((i:Nat):Int)<(kK x.op:Nat))&&(decide (((r:Nat):Int)<0) ||decide ((15:Int)<((r:Nat):Int)))) ||(decide (((kK x.op:Nat):Int)<=((i:Nat):Int))&&((r:Nat):Int) != 0))=true↔¬pK (kK x.op) r i:=by
   unfold pK;simp[ xB];omega
  simp only[fe,OI hi,R,gX,iT,jt,wj,jB,jU,gz];refine gf (je (λe=>H J g false v K (YE (C (w.1 e)))) λe=>?_);refine fT ⟨k-1,by omega,i+1,rfl,by omega,rfl,YK d (Classical.byContradiction λo=>e (w.2 o)) A⟩
 refine iY ?_;obtain rfl:i=3:=by omega
 have H:∀b,(b=true↔sR x.op x.n n)->Q (.bool b) g:=λb f=>H J g b v K ⟨λe=>⟨hop,f.1 e,A 0 _ (by omega) rfl,A 1 _ (by omega) rfl,A 2 _ (by omega) rfl⟩,λe=>f.2 e.2.1⟩;have lt:∀c,jm (.bool (decide (0<=x.n))) (oB (fV 4 (.ptr l 0)) λp=>oB (eD p g) λq=>eh .lss 2 q (V.I c))=some (.bool (decide (0<=x.n/\x.n<c))):=λc=>by
  rw[fx,fe,t,fe,gX,jU,Bool.decide_and]
 have le:∀c,jm (.bool (decide (0<=x.n))) (oB (fV 4 (.ptr l 0)) λp=>oB (eD p g) λq=>eh .leq 2 q (V.I c))=some (.bool (decide (0<=x.n/\x.n<=c))):=λc=>by
  rw[fx,fe,t,fe,Ls,jU,Bool.decide_and]
 refine qS ?_;have E:UL x.op=true↔x.op=1\/x.op=3\/x.op=4\/x.op=24\/x.op=25\/x.op=19\/x.op=21\/x.op=23\/x.op=26\/x.op=27:=by
  unfold UL;simp[Jz,Gi];omega
 unfold sR at H;by_cases o:UL x.op=true;rotate_left
 ·refine fN o (oF t (fK (H _ ?_)));rw[E]at o;rw[if_neg (by omega),if_neg (by omega),if_neg (by omega),if_neg (by omega),xX]
 rw [E]at o;refine fX (E.2 o) (oF (u.ld rfl) ?_);have y:∀b,(b=true↔x.op=3\/x.op=4)->jR Q [.I n,.ptr l 0,.I x.op,.bool b] g:=λb f=>by
  refine yK ?_;unfold qb;refine gf (je (λe=>?_) λe=>?_)
  ·have e:=f.1 e;rw[if_neg (by omega),if_pos e]at H;exact oF t (ec (jt _ _ _ _) (ec (lt 400) (H _ decide_eq_true_iff)))
  have m1:¬(x.op=3\/x.op=4):=λh=>e (f.2 h);have z:∀b,(b=true↔x.op=23\/x.op=24)->jN Q [.I n,.ptr l 0,.I x.op,.bool b] g:=λb f=>by
   refine yU ?_;unfold qe;refine gf (je (λe=>?_) λe=>?_)
   ·have e:=f.1 e;rw[if_neg (by omega),if_neg m1,if_pos e]at H;exact oF t (ec (jt _ _ _ _) (ec (le n) (H _ decide_eq_true_iff)))
   have S:¬(x.op=23\/x.op=24):=λh=>e (f.2 h);have s:∀b,(b=true↔x.op=25\/x.op=26\/x.op=27)->iS Q [.ptr l 0,.bool b] g:=λb f=>by
    refine y5 ?_;unfold p6;refine gf (je (λe=>?_) λe=>?_)
    ·have e:=f.1 e;rw[if_neg (by omega),if_neg m1,if_neg S,if_pos e]at H;exact oF t (ec (jt _ _ _ _) (ec (le 1048576) (H _ decide_eq_true_iff)))
    ·have U:¬(x.op=25\/x.op=26\/x.op=27):=λh=>e (f.2 h);exact H true (by rw[if_pos (by omega)];simp)
   refine fK (gf (je (λe=>s _ (by simp at e⊢;omega)) λe=>?_));refine fK (gf (je (λe=>s _ (by simp at e⊢;omega)) λe=>?_));exact fK (s _ (by simp at*;omega))
  refine fK (gf (je (λe=>z _ (by simp at e⊢;omega)) λe=>?_));exact fK (z _ (by simp at*;omega))
 refine fK (gf (je (λe=>y _ (by simp at e⊢;omega)) λe=>?_));exact fK (y _ (by simp at*;omega))
theorem Tf{l:List Ni}{v:V}(d:ej F h cs)(hl:iD eIn F h l v)(y:l.length<1000000)(H:∀F' h' b,Sn F h F' h'->ej F' h' cs->(b=true↔l.length<=32768/\∀x∈l,Bw l.length x)->Q (.bool b) h'):cP CS nq [v] h Q:=by
 refine Bj ?_;refine ec hl.len (ec (iT _ _ _ _) (gf ?_));by_cases z:32768<l.length
 ·exact fX (by simp;omega) (H F h false (.refl _ _) d (YE λe=>by omega))
 refine fN (by simp;omega) ?_;refine yM (λk q h'=>∃F' i,q=[v,.I (i:Nat)]/\i+k=l.length/\Sn F h F' h'/\ej F' h' cs/\∀j x,j<i->l[j]? =some x->Bw l.length x) ?_ (k:=l.length) ⟨F,0,rfl,by omega,.refl _ _,d,by omega⟩;rintro k _ _ r ⟨s,i,⟨⟩,A,a,f,g⟩;unfold p7;refine ec hl.len ?_;by_cases hi:i<l.length
 ·have m:=hN hi
  let⟨B,C,ws,_,t,u,c,_⟩:=(hl.since a).ix hi .i64
  generalize l[i]=x at*;have c:=c;subst c;refine gJ (ec t (ec u (ec hl.len (NK f λn w b s4 o p=>?_))));refine qS ?_;by_cases hb1:Bw l.length x
  ·exact fX (p.2 hb1) (fT ⟨k-1,by omega,n,i+1,rfl,by omega,a.trans s4,o,CY m hb1 g⟩)
  ·exact fN (λe=>hb1 (p.1 e)) (H n w false (a.trans s4) o (YE λe=>hb1 (e.2 x (Ap m))))
 ·exact iY (H s r true a f (tru ⟨by omega,Ml (by omega) g⟩))
variable{bs:List Nat}{v:V}
def Uo(b:List Nat)(i:Nat):Nat->Nat
 |0=>0
 |k+1=>256*Uo b i k+b.getD (i+(7-k)) 0
theorem NH(b:List Nat)(i:Nat):∀k,Au b i (k+1)=b.getD i 0+256*Au b (i+1) k
 |0=>by simp[Au]
 | k+1=>by
   have a:=NH b i k;unfold Au;rw[a]
   conv=>rhs;rw[Nat.mul_add,<-VB]
   congr 1;rw[Nat.pow_succ,show i+(k+1)=i+1+k by omega,wB5 (256 ^ k) 256,Nat.mul_left_comm]
theorem SB(b:List Nat)(i:Nat):∀k,k<=8->Uo b i k=Au b (i+(8-k)) k
 |0,_=>rfl
 | k+1,h=>by
   unfold Uo;rw[SB b i k (by omega),NH,show i+(8-(k+1))=i+(7-k) by omega,show i+(8-k)=i+(7-k)+1 by omega];omega
theorem K6(U:ej F h cs)(hl:iD eY F h bs v)(hn:bs.length<=2000000)(Z:∀F' h' w l,Sn F h F' h'->ej F' h' cs->Qw bs l->iD eIn F' h' l w->Q (.tuple [w,.I 0]) h')
  (O:∀F' h' e,Sn F h F' h'->ej F' h' cs->e≠0->(∀l,¬Qw bs l)->Q (.tuple [.ed,.I e]) h'):cP CS lY [v] h Q:=by
 refine Ec ?_;have f:eh .rem 3 (.I bs.length) (.I 11)=some (.I ((bs.length % 11:Nat):Int)):=by
  show some (V.I (Int.tmod (bs.length:Int) 11))=_;rw[wBR (by omega)];rfl
 refine ec hl.len (ec f (Eo ?_));by_cases g:bs.length % 11=0;rotate_left
 ·exact fN (by omega) (O F h 7 (.refl _ _) U (by decide) λl hd=>g hd.len)
 refine fX (by omega) ?_;have p:=zfQ hl;obtain⟨J,P⟩:∃J:Nat->LP,J=λn R h'=>∃F' i x4,R=[v,x4,.I ((11*i:Nat):Int)]/\i+n=bs.length / 11/\Sn F h F' h'/\ej F' h' (fu eIn CI ((Jf bs).take i) x4::cs):=⟨_,rfl⟩
 refine Bb J ?_ (k:=bs.length / 11) (by rw[P];exact⟨F,0,_,rfl,by omega,.refl _ _,U.add .nil λ_ h=>h⟩);intro n x0 x4 x5 q r;rw[P]at r;obtain⟨D,i,_,⟨⟩,aa,s1,E⟩:=r;unfold sr;have r1:=hl.since s1;refine ec r1.len ?_;by_cases hi:i<bs.length / 11
 ·refine gJ ?_;have G:∀j,j<11->bs[11*i+j]? =some (bs.getD (11*i+j) 0):=λj hj=>by
   rw[Dz,hN (by omega)];rfl
  let⟨l0,o0,f0,p0,q0,b0⟩:=r1.byte (G 0 (by omega)) .i64
  let⟨l1,o1,f1,p1,H,b1⟩:=r1.byte (G 1 (by omega)) .i64
  let⟨l2,o2,f2,p2,W,b2⟩:=r1.byte (G 2 (by omega)) .i64
  have I:∀{n:Nat},n<1000->jo .i64 ((n:Nat):Int)=(n:Nat):=λh=>DD (by omega);refine ec p0 (ec q0 (ec (by rw[gB,I (by omega)]) ?_));refine fT (ec p1 (ec H (ec (zfJ b1) (ec (by rw[gB,I (by omega)]) ?_))));refine fT (ec p1 (ec H (ec zft (ec (by rw[gB,I (by omega)]) ?_))));refine km (m:=2) (by omega) (by omega) (ec p2 (ec W (ec (by rw[gB,I (by omega)]) (ec (show _=some (V.agg (Nw {Dj bs (11*i)with n:=0})) from rfl) ?_))));rw[gU]
  let⟨s,K⟩:=E.Dy CI [.I 0,.I 0,.I 0,.I 0,.I 0]
  let⟨L,e3,n3,M,t⟩:=s.Wh 0 (ws:=Nw {Dj bs (11*i)with n:=0}) rfl rfl rfl rfl
  have N:∀{l o:Nat} {x:Int},D l->eD (.ptr l o) q=some (.int .u8 x)->eD (.ptr l o) (q.new (.cells CI 1 true false [.I 0,.I 0,.I 0,.I 0,.I 0]))=some (.int .u8 x):=λhf h=>gS h (eE _ (E.fl _ hf));refine⟨⟨eQ _ _,bq⟩,N f2 W,N f1 H,N f1 H,N f0 q0,?_⟩;rw[show gw 5 (.ptr q.next 0) (.agg _) (q.new (.cells CI 1 true false [.I 0,.I 0,.I 0,.I 0,.I 0]))=_ from e3,ef];generalize q.next=lx at*;have y:=K.trans t;refine⟨n3,?_⟩;obtain⟨S,a⟩:∃S:Nat->LP,S=λn R h'=>∃j:Nat,R=[v,x4,.I ((11*i:Nat):Int),.ptr lx 0,.int .u64 ((Uo bs (11*i+3) j:Nat):Int),.I (7-(j:Nat))]/\j+n=8/\h' = L:=⟨_,rfl⟩
  refine A1 S ?_ (k:=8) (by rw[a];exact⟨0,rfl,rfl,rfl⟩);intro n1 _ _ _ _ _ _ h4 z;rw[a]at z;obtain⟨j,⟨⟩,ab,rfl⟩:=z;unfold sO;have r3:=r1.since y;by_cases hj:j<8
  ·let⟨l4,o4,_,p4,q4,b4⟩:=r3.byte (G (3+(7-j)) (by omega)) .i64
   have ac:Uo bs (11*i+3) j<256 ^ j:=by rw[SB _ _ j (by omega)];exact PU p _ j
   have tp:=zew (by omega);rw[Nat.pow_succ,wB5]at tp;refine LG (fX (by omega) ?_);rw[Dk,gz,gK (by simp[mR];omega)];refine km (m:=3) (by omega) (by omega) ?_;rw[show(7:Int)-(j:Nat)=((7-j:Nat):Int) by omega];refine km (by omega) (by omega) ?_;rw[show 11*i+(3+(7-j))=11*i+3+(7-j) by omega]at*;refine ec p4 (ec q4 (ec (by rw[gB,gK (by simp only[mR];omega)]) ?_));rw[iU,gz,gK (by simp only[mR];omega),iI,gz,gK (by simp[mR];omega)];refine⟨n1-1,by omega,?_⟩;rw[a];exact⟨j+1,by rw[show(7:Int)-((j+1:Nat):Int)=((7-j:Nat):Int)-1 by omega];rfl,by omega,rfl⟩
  ·refine LG (fN (by omega) ?_);obtain rfl:j=8:=by omega
   rw [SB bs (11*i+3) 8 (jj _),show 11*i+3+(8-8)=11*i+3 by omega];have T:Au bs (11*i+3) 8<18446744073709551616:=by
    have:=PU p (11*i+3) 8;simpa using this
   refine ec (by rw[gB,zfs T]) (ec pf ?_)
   let⟨A,e5,_,d,s5⟩:=M.st 0 rfl (o:=0+4) (by simp[Nw]) (u:= .I (sN (Au bs (11*i+3) 8))) rfl
   rw[e5,ef];have d:ej D A (fi lx CI (Nw (Dj bs (11*i)))::fu eIn CI ((Jf bs).take i) x4::cs):=d;have B:eD (.ptr lx (0+0)) A=some (.I ((Dj bs (11*i)).op:Nat)):=d.ld 0 rfl rfl;refine oF B (ec (gX _ _ _ _) ?_);simp only[fx,fe,B,iT,jB,gz];have C:=(s1.trans y).trans s5;refine gf (je (λe=>O D A 30 C d.tail.tail (by decide) λl hd=>?_) λe=>?_)
   ·have:=(hd.ok (Dj bs (11*i)) (by rw[hd.eq];exact Ap (Uw hi))).1;simp[Jz,xX]at e;omega
   refine ec (d.xk 0 rfl rfl) ?_;rw[show iW CI 5 1 (.agg [.I 0,.I 0,.I 0,.I 0,.I 0]) [(0,.agg (Nw (Dj bs (11*i))))]=some (.cells CI 5 true false (Nw (Dj bs (11*i))),λl=> .slice l 0 1) from rfl,fH];obtain⟨w6,h6,e6,_,H6,s6⟩:=d.tz 1 rfl (jh:=40) rfl (by decide) (by decide) (by
    have:=List.length_take_le i (Jf bs);omega)
   rw[show fg CI 5 40 x4 (.slice A.next 0 1) (A.new (.cells CI 5 true false (Nw (Dj bs (11*i)))))=_ from e6,ef];refine km (m:=11) (by omega) (by omega) ⟨n-1,by omega,?_⟩;rw[P];exact⟨D,i+1,_,rfl,by omega,C.trans s6,by rw[Zh hi];exact H6.tail⟩
 ·refine iY ?_;obtain rfl:i=bs.length / 11:=by omega
  rw[<-PZ,QQ]at E
  let⟨s,K,r2⟩:=E.jG 0 rfl
  have s:=s.tail;refine Tf s r2 (by rw[PZ];omega) λX L b t M Y=>?_;refine qS ?_;by_cases hd:(Jf bs).length<=32768/\∀x∈Jf bs,Bw (Jf bs).length x
  ·exact fX (Y.2 hd) (Z X L x4 (Jf bs) ((s1.trans K).trans t) M ⟨g,rfl,hd.1,hd.2⟩ (r2.since t))
  ·refine fN (λe=>hd (Y.1 e)) (O X L 5 ((s1.trans K).trans t) M (by decide) λl c=>hd ?_);have:=c.eq;subst this;exact⟨c.zcR,c.ok⟩
theorem Yq{l:Nl}{en:Bool}(i:ej F h cs)(H:∀F' h' b,Sn F h F' h'->ej F' h' cs->(b=true↔yP l en)->Q (.bool b) h'):cP CS nT [.agg (KL l),.bool en] h Q:=by
 refine Hz ?_;refine yq i rfl λj d lx k s1 a=>?_;have H:=λb=>H j d b s1 k;unfold yP at H;have lt:∀c,jm (.bool (decide (0<=l.n))) (oB (fV 1 (.ptr lx 0)) λf=>oB (eD f d) λg=>eh .lss 2 g (V.I c))=some (.bool (decide (0<=l.n/\l.n<c))):=λc=>by
  rw[fx,fe,show eD (.ptr lx (0+1)) d=some (.I l.n) from a.ld rfl,fe,gX,jU,Bool.decide_and]
 refine oF (a.ld rfl) (fD ?_);split
 ·rename_i e;rw[if_pos e]at H;exact oF (a.ld rfl) (ec (jt _ _ _ _) (ec (lt 16) (H _ decide_eq_true_iff)))
 rename_i m;rw[if_neg m]at H;refine fD ?_;split
 ·rename_i e;rw[if_pos e]at H;exact oF (a.ld rfl) (ec (jt _ _ _ _) (ec (lt 400) (H _ decide_eq_true_iff)))
 rename_i o;rw[if_neg o]at H;refine fD ?_;split
 ·rename_i e;rw[if_pos e]at H;exact Xz (H _ (by cases en <;> simp))
 rename_i p;rw[if_neg p]at H;refine fD ?_;split
 ·rename_i e;refine ec (show _=some (V.bool (en&&(l.n == 0))) from ?_) (H _ ?_)
  ·rw[fx,fe,show eD (.ptr lx (0+1)) d=some (.I l.n) from a.ld rfl,fe,hZ,jU]
  ·simp[e]
 ·rename_i e;exact H false (YE λh=>e h.1)
