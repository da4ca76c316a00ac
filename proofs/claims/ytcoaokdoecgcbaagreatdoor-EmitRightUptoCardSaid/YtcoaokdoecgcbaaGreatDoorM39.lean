/- Parts. -/
import Derived.Test.YtcoaokdoecgcbaaGreatDoorM38
import Derived.Test.YtcoaokdoecgcbaaGreatDoorM45
set_option maxHeartbeats 400000
namespace Go.Proofs.YtcoaokdoecgcbaaGreatDoor.Hx
open Un Dm
theorem X3{len n l o m:Nat}{a:IntKind}(b:m<len):zbN len n (.ptr l o) (.int a (m:Nat))=some (.ptr l (o+m*n)):=by
 show bB (Nat.blt m len) _=_;rw[show Nat.blt m len=true from X2 b];rfl
def SK(op:Nat):Bool:=op == 1 ||op == 3 ||op == 4 ||op == 24 ||op == 25 ||op == 19 ||op == 21 ||op == 23 ||op == 26 ||op == 27
section
variable{F F':Nat->Prop}{h h':Hp}{cs:List Pc}{Q:fo}
theorem zav{op:Nat}(g:1<=op)(i:op<=27)(H:Q (.tuple [.I (jO op:Nat),.bool (SK op)]) h):cP CS mg [.I op] h Q:=by
 refine Dk rfl rfl ?_;unfold um;have H:∀r b,jO op=r->SK op=b->Q (.tuple [.I (r:Nat),.bool b]) h:=by rintro _ _ rfl rfl;exact H
 have c:∀b:Bool,(b=true↔op=1\/op=3\/op=4\/op=24\/op=25\/op=19\/op=21\/op=23\/op=26\/op=27)->SK op=b:=λb a=>by
  rw[Uv,a];unfold SK;simp only[GY,KC];omega
 have r4:∀b:Bool,(b=true↔op=1\/op=3\/op=4\/op=24\/op=25)->ik CS Q [.I op,.bool b] h:=λb a=>by
  refine AN ?_;unfold rh;refine gh (jn (λe=>?_) λe=>?_)
  ·have e:=a.1 e;exact H 1 true (by unfold jO;rw[if_pos e]) (c _ (by simp;omega))
  have m1:¬(op=1\/op=3\/op=4\/op=24\/op=25):=λh=>e (a.2 h);clear a e;have f:∀b:Bool,(b=true↔op=2\/op=10\/op=11\/op=17\/op=18)->ij CS Q [.I op,.bool b] h:=λb a=>by
   refine AP ?_;unfold qY;refine gh (jn (λe=>?_) λe=>?_)
   ·have e:=a.1 e;exact H 2 false (by unfold jO;rw[if_neg m1,if_pos (by omega)]) (c _ (by simp;omega))
   have j:¬(op=2\/op=10\/op=11\/op=17\/op=18):=λh=>e (a.2 h);clear a e;have OD:∀b:Bool,(b=true↔op=19\/op=21)->jR CS Q [.I op,.bool b] h:=λb a=>by
    refine Az ?_;unfold p7;refine gh (jn (λe=>?_) λe=>?_)
    ·have e:=a.1 e;exact H 2 true (by unfold jO;rw[if_neg m1,if_pos (by omega)]) (c _ (by simp;omega))
    have k:¬(op=19\/op=21):=λh=>e (a.2 h);clear a e;have d:∀b:Bool,(b=true↔op=23\/op=26\/op=27)->jf CS Q [.bool b] h:=λb a=>by
     refine zI ?_;unfold qm;refine gh (jn (λe=>?_) λe=>?_)
     ·have e:=a.1 e;exact H 0 true (by unfold jO;rw[if_neg m1,if_neg (by omega),if_neg (by omega)]) (c _ (by simp;omega))
     ·have l:¬(op=23\/op=26\/op=27):=λh=>e (a.2 h);exact H 3 false (by unfold jO;rw[if_neg m1,if_neg (by omega),if_pos (by omega)]) (c _ (by simp;omega))
    clear H c;refine fH (gh (jn (λe=>d _ (by simp at e⊢;omega)) λe=>?_));refine fH (gh (jn (λe=>d _ (by simp at e⊢;omega)) λe=>?_));exact fH (d _ (by simp at*;omega))
   clear H c;refine fH (gh (jn (λe=>OD _ (by simp at e⊢;omega)) λe=>?_));exact fH (OD _ (by simp at*;omega))
  clear H c;refine fH (gh (jn (λe=>f _ (by simp at e⊢;omega)) λe=>?_));refine fH (gh (jn (λe=>f _ (by simp at e⊢;omega)) λe=>?_));refine fH (gh (jn (λe=>f _ (by simp at e⊢;omega)) λe=>?_));refine fH (gh (jn (λe=>f _ (by simp at e⊢;omega)) λe=>?_));exact fH (f _ (by simp at*;omega))
 clear H c;refine fH (gh (jn (λe=>r4 _ (by simp at e⊢;omega)) λe=>?_));refine fH (gh (jn (λe=>r4 _ (by simp at e⊢;omega)) λe=>?_));refine fH (gh (jn (λe=>r4 _ (by simp at e⊢;omega)) λe=>?_));refine fH (gh (jn (λe=>r4 _ (by simp at e⊢;omega)) λe=>?_));exact fH (r4 _ (by simp at*;omega))
theorem Wo{α:Type}{l:List α}{P:α->Nat->Prop}{i:Nat}{x:α}(b:l[i]? =some x)(c:P x i)(h:∀(j:Nat) x,j<i->l[j]? =some x->P x j):∀(j:Nat) x,j<i+1->l[j]? =some x->P x j:=λj y d a=>by
 by_cases e:j=i
 ·subst e;rw[b]at a;cases a;exact c
 ·exact h j y (by omega) a
theorem TD{x:Ni}{n:Nat}(K:ej F h cs)(H:∀F' h' b,Sn F h F' h'->ej F' h' cs->(b=true↔Hl n x)->Q (.bool b) h'):cP CS ki [.agg (BQ x),.I n] h Q:=by
 refine AG rfl rfl ?_;unfold rm;refine xX K rfl λL C l D s1 s=>?_;have E:eC (.ptr l (0+0)) C=some (.I x.op):=s.ld rfl;refine oF E (ec (jC _ _ _ _) ?_);simp only[fN,eD,E,iG,iC,fY];by_cases hop:1<=x.op/\x.op<=27;rotate_left
 ·refine gh (gN ?_ (H L C false s1 D (Ro λe=>hop e.1)));simp only[GY,AL];omega
 refine gh (gD ?_ (oF E (zav hop.1 hop.2 ?_)))
 ·simp only[GY,AL];omega
 refine ec rfl (ec rfl (oF (s.ld rfl) (oF (s.ld rfl) (oF (s.ld rfl) (ec rfl ?_)))));refine tW D rfl rfl rfl λG M lr I J c2=>?_;have t:=s.since J;have u:=s1.trans J;refine yk (λk N h'=>∃i,N=[.I n,.ptr l 0,.I (jO x.op:Nat),.bool (SK x.op),.ptr lr 0,.I (i:Nat)]/\i+k=3/\h' = M/\∀j r,j<i->([x.a,x.b,x.c]:List Nat)[j]? =some r->oO (jO x.op) r j) ?_ (k:=3) ⟨0,rfl,rfl,rfl,by omega⟩;rintro k _ _ _ _ _ _ g ⟨i,⟨⟩,R,rfl,y⟩;unfold pt;have l4:eC (.ptr l (0+4)) g=some (.I x.n):=t.ld rfl;by_cases hi:i<3
 ·obtain ⟨r,d⟩:∃r,([x.a,x.b,x.c]:List Nat)[i]? =some r:=⟨_,iz (by simpa using hi)⟩
  have O:eC (.ptr lr (0+i*1)) g=some (.I r):=by
   refine c2.ld ?_
   match i,d with
   |0,d=>cases d;rfl
   |1,d=>cases d;rfl
   |2,d=>cases d;rfl
  have z:¬oO (jO x.op) r i->¬Hl n x:=λm A=>m (by
   match i,d with
   |0,d=>cases d;exact A.2.2.1
   |1,d=>cases d;exact A.2.2.2.1
   |2,d=>cases d;exact A.2.2.2.2)
  refine gU (ec (jC _ _ _ _) ?_);have v:((decide (((i:Nat):Int)<(jO x.op:Nat))&&(decide (((r:Nat):Int)<0) ||decide ((15:Int)<((r:Nat):Int)))) ||(decide (((jO x.op:Nat):Int)<=((i:Nat):Int))&&((r:Nat):Int) != 0))=true↔¬oO (jO x.op) r i:=by
   unfold oO;simp only[GY,sJ,AL,wB3,ne_eq];omega
  simp only[eD,X3 hi,O,jC,iG,jc,vB,iC,gQ,fY];refine gh (jn (λe=>H G g false u I (Ro (z (v.1 e)))) λe=>?_);refine gf ⟨k-1,by omega,i+1,rfl,by omega,rfl,Wo d (Classical.byContradiction λm=>e (v.2 m)) y⟩
 refine iY ?_;obtain rfl:i=3:=by omega
 have H:∀b:Bool,(b=true↔tF x.op x.n n)->Q (.bool b) g:=λb f=>H G g b u I ⟨λe=>⟨hop,f.1 e,y 0 _ (by omega) rfl,y 1 _ (by omega) rfl,y 2 _ (by omega) rfl⟩,λe=>f.2 e.2.1⟩;have lt:∀c:Int,iM (.bool (decide (0<=x.n))) (oB (fK 4 (.ptr l 0)) λo=>oB (eC o g) λp=>ef .lss 2 p (V.I c))=some (.bool (decide (0<=x.n/\x.n<c))):=λc=>by
  rw[fN,eD,l4,eD,jC,gQ,wBq]
 have le:∀c:Int,iM (.bool (decide (0<=x.n))) (oB (fK 4 (.ptr l 0)) λo=>oB (eC o g) λp=>ef .leq 2 p (V.I c))=some (.bool (decide (0<=x.n/\x.n<=c))):=λc=>by
  rw[fN,eD,l4,eD,Of,gQ,wBq]
 refine po ?_;have B:SK x.op=true↔x.op=1\/x.op=3\/x.op=4\/x.op=24\/x.op=25\/x.op=19\/x.op=21\/x.op=23\/x.op=26\/x.op=27:=by
  unfold SK;simp only[GY,KC];omega
 unfold tF at H;by_cases m:SK x.op=true;rotate_left
 ·refine gD m (oF l4 (fH (H _ ?_)));rw[B]at m;rw[if_neg (by omega),if_neg (by omega),if_neg (by omega),if_neg (by omega),AL]
 rw [B]at m;refine gN (B.2 m) (oF (t.ld rfl) ?_);have r18:∀b:Bool,(b=true↔x.op=3\/x.op=4)->jx CS Q [.I n,.ptr l 0,.I x.op,.bool b] g:=λb f=>by
  refine yh ?_;unfold oV;refine gh (jn (λe=>?_) λe=>?_)
  ·have e:=f.1 e;rw[if_neg (by omega),if_pos e]at H;exact oF l4 (ec (jc _ _ _ _) (ec (lt 400) (H _ decide_eq_true_iff)))
  have m1:¬(x.op=3\/x.op=4):=λh=>e (f.2 h);clear f e;have w:∀b:Bool,(b=true↔x.op=23\/x.op=24)->jy CS Q [.I n,.ptr l 0,.I x.op,.bool b] g:=λb f=>by
   refine xi ?_;unfold oU;refine gh (jn (λe=>?_) λe=>?_)
   ·have e:=f.1 e;rw[if_neg (by omega),if_neg m1,if_pos e]at H;exact oF l4 (ec (jc _ _ _ _) (ec (le n) (H _ decide_eq_true_iff)))
   have P:¬(x.op=23\/x.op=24):=λh=>e (f.2 h);clear f e;have q:∀b:Bool,(b=true↔x.op=25\/x.op=26\/x.op=27)->iI CS Q [.ptr l 0,.bool b] g:=λb f=>by
    refine xL ?_;unfold oT;refine gh (jn (λe=>?_) λe=>?_)
    ·have e:=f.1 e;rw[if_neg (by omega),if_neg m1,if_neg P,if_pos e]at H;exact oF l4 (ec (jc _ _ _ _) (ec (le 1048576) (H _ decide_eq_true_iff)))
    ·have S:¬(x.op=25\/x.op=26\/x.op=27):=λh=>e (f.2 h);exact H true (by rw[if_pos (by omega)];simp)
   clear H;refine fH (gh (jn (λe=>q _ (by simp at e⊢;omega)) λe=>?_));refine fH (gh (jn (λe=>q _ (by simp at e⊢;omega)) λe=>?_));exact fH (q _ (by simp at*;omega))
  clear H;refine fH (gh (jn (λe=>w _ (by simp at e⊢;omega)) λe=>?_));exact fH (w _ (by simp at*;omega))
 clear H;refine fH (gh (jn (λe=>r18 _ (by simp at e⊢;omega)) λe=>?_));exact fH (r18 _ (by simp at*;omega))
theorem QK{l:List Ni}{v:V}(d:ej F h cs)(hl:iH XX F h l v)(A:l.length<1000000)(H:∀F' h' b,Sn F h F' h'->ej F' h' cs->(b=true↔l.length<=32768/\∀x∈l,Hl l.length x)->Q (.bool b) h'):cP CS jd [v] h Q:=by
 refine Ak rfl rfl ?_;unfold qD;refine ec hl.len (ec (iG _ _ _ _) (gh ?_));by_cases B:32768<l.length
 ·exact gN (by simp;omega) (H F h false (.refl _ _) d (Ro λe=>by omega))
 refine gD (by simp;omega) ?_;refine xg (λk s h'=>∃F' i,s=[v,.I (i:Nat)]/\i+k=l.length/\Sn F h F' h'/\ej F' h' cs/\∀(j:Nat) x,j<i->l[j]? =some x->Hl l.length x) ?_ (k:=l.length) ⟨F,0,rfl,by omega,.refl _ _,d,by omega⟩;rintro k _ _ t ⟨u,i,⟨⟩,C,a,f,g⟩;unfold oZ;refine ec hl.len ?_;by_cases hi:i<l.length
 ·have m:=iz hi;obtain⟨l1,D,ws,_,w,y,c,_⟩:=(hl.since a).ix hi .i64;generalize l[i]=x at*;have c:ws=BQ x:=c;subst c;refine gU (ec w (ec y (ec hl.len (TD f λo z b p q r=>?_))));refine po ?_;by_cases hb1:Hl l.length x
  ·exact gN (r.2 hb1) (gf ⟨k-1,by omega,o,i+1,rfl,by omega,a.trans p,q,rS m hb1 g⟩)
  ·exact gD (λe=>hb1 (r.1 e)) (H o z false (a.trans p) q (Ro λe=>hb1 (e.2 x (zQ m))))
 ·exact iY (H u t true a f (tru ⟨by omega,BN (n:=i) (by omega) g⟩))
end
open Un Dm
section
variable{F F':Nat->Prop}{h h':Hp}{cs:List Pc}{Q:fo}{bs:List Nat}{v:V}
def TE(b:List Nat)(i:Nat):Nat->Nat
 |0=>0
 |k+1=>256*TE b i k+b.getD (i+(7-k)) 0
theorem L5(b:List Nat)(i:Nat):∀k,A5 b i (k+1)=b.getD i 0+256*A5 b (i+1) k
 |0=>by simp[A5]
 | k+1=>by
   have a:=L5 b i k;unfold A5;rw[a]
   conv=>rhs;rw[Nat.mul_add,<-X8]
   congr 1;rw[Nat.pow_succ,show i+(k+1)=i+1+k by omega,wB6 (256 ^ k) 256,Nat.mul_left_comm]
theorem Rl(b:List Nat)(i:Nat):∀k,k<=8->TE b i k=A5 b (i+(8-k)) k
 |0,_=>rfl
 | k+1,h=>by
   unfold TE;rw[Rl b i k (by omega),L5,show i+(8-(k+1))=i+(7-k) by omega,show i+(8-k)=i+(7-k)+1 by omega];omega
theorem QL(Y:ej F h cs)(hl:iH eY F h bs v)(hn:bs.length<=2000000)(HY:∀F' h' w l,Sn F h F' h'->ej F' h' cs->SV bs l->iH XX F' h' l w->Q (.tuple [w,.I 0]) h')
  (S:∀F' h' e,Sn F h F' h'->ej F' h' cs->e≠0->(∀l,¬SV bs l)->Q (.tuple [.ed,.I e]) h'):cP CS iW [v] h Q:=by
 refine CD rfl rfl ?_;unfold ou;have g:ef .rem 3 (.I bs.length) (.I 11)=some (.I ((bs.length % 11:Nat):Int)):=by
  show some (V.I (Int.tmod (bs.length:Int) 11))=_;rw[Int.tmod_eq_emod_of_nonneg (by omega)];rfl
 refine ec hl.len (ec g (Ef ?_));by_cases p:bs.length % 11=0;rotate_left
 ·exact gD (by omega) (S F h 7 (.refl _ _) Y (by decide) λl hd=>p hd.len)
 refine gN (by omega) ?_;have q:=zcO hl;obtain⟨J,T⟩:∃J:Nat->MA,J=λn U E Z h'=>∃F' i,U=v/\Z = .I ((11*i:Nat):Int)/\i+n=bs.length / 11/\Sn F h F' h'/\ej F' h' (fE XX qL ((AJ bs).take i) E::cs):=⟨_,rfl⟩
 refine zV J ?_ (k:=bs.length / 11) (by rw[T];exact⟨F,0,rfl,rfl,by omega,.refl _ _,Y.add .nil λ_ h=>h⟩);intro n U E Z d r;rw[T]at r;obtain⟨G,i,rfl,rfl,aa,s1,H⟩:=r;unfold mC;have r1:=hl.since s1;refine ec r1.len ?_;by_cases hi:i<bs.length / 11
 ·refine gU ?_;have I:∀j,j<11->bs[11*i+j]? =some (bs.getD (11*i+j) 0):=λj hj=>by
   rw[OV,iz (by omega)];rfl
  obtain⟨l0,o0,f0,p0,q0,b0⟩:=r1.byte (I 0 (by omega)) .i64;obtain⟨l1,o1,f1,p1,K,b1⟩:=r1.byte (I 1 (by omega)) .i64;obtain⟨l2,o2,f2,p2,q2,b2⟩:=r1.byte (I 2 (by omega)) .i64;have L:∀{n:Nat},n<1000->iy .i64 ((n:Nat):Int)=(n:Nat):=λh=>Qg (by omega);refine ec p0 (ec q0 (ec (by rw[jB,L (by omega)]) ?_));refine gf (ec p1 (ec K (ec (zcq b1) (ec (by rw[jB,L (by omega)]) ?_))));refine gf (ec p1 (ec K (ec zcX (ec (by rw[jB,L (by omega)]) ?_))));refine ju (m:=2) (by omega) (by omega) (ec p2 (ec q2 (ec (by rw[jB,L (by omega)]) (ec (show _=some (V.agg (BQ {oX bs (11*i)with n:=0})) from rfl) ?_))));rw[hH];obtain⟨s,M⟩:=H.HM qL [.I 0,.I 0,.I 0,.I 0,.I 0];obtain⟨N,e3,n3,O,t⟩:=s.XM 0 (n:=5) (ws:=BQ {oX bs (11*i)with n:=0}) rfl rfl rfl rfl;have P:∀{l o:Nat} {x:Int},G l->eC (.ptr l o) d=some (.int .u8 x)->eC (.ptr l o) (d.new (.cells qL 1 true false [.I 0,.I 0,.I 0,.I 0,.I 0]))=some (.int .u8 x):=λhf h=>iJ h (eE _ (H.fl _ hf));refine⟨⟨eJ _ _,bq⟩,P f2 q2,P f1 K,P f1 K,P f0 q0,?_⟩;rw[show gL 5 (.ptr d.next 0) (.agg _) (d.new (.cells qL 1 true false [.I 0,.I 0,.I 0,.I 0,.I 0]))=_ from e3,eh];generalize d.next=lx at*;have z:=M.trans t;refine⟨n3,?_⟩;obtain⟨W,a⟩:∃W:Nat->OF,W=λn y0 R y5 y6 y7 y8 h'=>∃j,y0=U/\R=E/\y5 = .I ((11*i:Nat):Int)/\y6 = .ptr lx 0/\y7 = .int .u64 ((TE bs (11*i+3) j:Nat):Int)/\y8 = .I (7-(j:Nat))/\j+n=8/\h' = N:=⟨_,rfl⟩
  refine zX W ?_ (k:=8) (by rw[a];exact⟨0,rfl,rfl,rfl,rfl,rfl,rfl,rfl,rfl⟩);intro n1 y0 R y5 y6 y7 y8 h4 A;rw[a]at A;obtain⟨j,rfl,rfl,rfl,rfl,rfl,rfl,ab,rfl⟩:=A;unfold my;have r3:=r1.since z;by_cases hj:j<8
  ·obtain⟨l4,o4,_,p4,q4,b4⟩:=r3.byte (I (3+(7-j)) (by omega)) .i64;have ac:TE bs (11*i+3) j<256 ^ j:=by rw[Rl _ _ j (by omega)];exact F0 q _ j
   have tp:=UG (k:=j) (by omega);rw[Nat.pow_succ,wB6]at tp;refine PS (gN (by omega) ?_);rw[Gb,fY,gS (by simp only[Cf];omega)];refine ju (n:=11*i) (m:=3) (by omega) (by omega) ?_;rw[show(7:Int)-(j:Nat)=((7-j:Nat):Int) by omega];refine ju (by omega) (by omega) ?_;rw[show 11*i+(3+(7-j))=11*i+3+(7-j) by omega]at*;refine ec p4 (ec q4 (ec (by rw[jB,gS (by simp only[Cf];omega)]) ?_));rw[Cv,fY,gS (by simp only[Cf];omega),iu,fY,gS (by simp only[Cf];omega)];refine⟨n1-1,by omega,?_⟩;rw[a];refine⟨j+1,rfl,rfl,rfl,rfl,?_,?_,by omega,rfl⟩
   ·congr 1
   ·congr 1;omega
  ·refine PS (gD (by omega) ?_);obtain rfl:j=8:=by omega
   rw [Rl bs (11*i+3) 8 (jv _),show 11*i+3+(8-8)=11*i+3 by omega];have X:A5 bs (11*i+3) 8<18446744073709551616:=by
    have:=F0 q (11*i+3) 8;simpa using this
   refine ec (by rw[jB,zcw X]) (ec pf ?_);obtain⟨B,e5,_,f,s5⟩:=O.st 0 rfl (o:=0+4) (by simp[BQ]) (u:= .I (sN (A5 bs (11*i+3) 8))) rfl;rw[e5,eh];have f:ej G B (ft lx qL (BQ (oX bs (11*i)))::fE XX qL ((AJ bs).take i) R::cs):=f;have C:eC (.ptr lx (0+0)) B=some (.I ((oX bs (11*i)).op:Nat)):=f.ld 0 rfl rfl;refine oF C (ec (jC _ _ _ _) ?_);simp only[fN,eD,C,iG,iC,fY];have D:=(s1.trans z).trans s5;refine gh (jn (λe=>S G B 30 D f.tail.tail (by decide) λl hd=>?_) λe=>?_)
   ·have:=(hd.ok (oX bs (11*i)) (by rw[hd.eq];exact zQ (NL hi))).1;simp only[GY,AL]at e;omega
   refine ec (f.zB 0 rfl rfl) ?_;rw[show iK qL 5 1 (.agg [.I 0,.I 0,.I 0,.I 0,.I 0]) [(0,.agg (BQ (oX bs (11*i))))]=some (.cells qL 5 true false (BQ (oX bs (11*i))),λl=> .slice l 0 1) from rfl,fI];obtain⟨w6,h6,e6,_,H6,s6⟩:=f.wi 1 rfl (lE:=40) (IZ:=qL) (y:=oX bs (11*i)) (w:=BQ (oX bs (11*i))) (ro:=false) rfl (by decide) (by decide) (by
    have:=List.length_take_le i (AJ bs);omega)
   rw[show eQ qL 5 40 R (.slice B.next 0 1) (B.new (.cells qL 5 true false (BQ (oX bs (11*i)))))=_ from e6,eh];refine ju (m:=11) (by omega) (by omega) ⟨n-1,by omega,?_⟩;rw[T];exact⟨G,i+1,rfl,rfl,by omega,D.trans s6,by rw[Qe hi];exact H6.tail⟩
 ·refine iY ?_;obtain rfl:i=bs.length / 11:=by omega
  rw[<-ER,SM]at H;obtain⟨s,M,r2⟩:=H.ji 0 rfl;have s:ej _ d cs:=s.tail;refine QK s r2 (by rw[ER];omega) λF3 N b t O hb=>?_;refine po ?_;by_cases hd:(AJ bs).length<=32768/\∀x∈AJ bs,Hl (AJ bs).length x
  ·exact gN (hb.2 hd) (HY F3 N E (AJ bs) ((s1.trans M).trans t) O ⟨p,rfl,hd.1,hd.2⟩ (r2.since t))
  ·refine gD (λe=>hd (hb.1 e)) (S F3 N 5 ((s1.trans M).trans t) O (by decide) λl c=>hd ?_);have:=c.eq;subst this;exact⟨c.zbC,c.ok⟩
theorem Wd{l:Nl}{en:Bool}(i:ej F h cs)(H:∀F' h' b,Sn F h F' h'->ej F' h' cs->(b=true↔vU l en)->Q (.bool b) h'):cP CS lB [.agg (AB l),.bool en] h Q:=by
 refine FH rfl rfl ?_;unfold xj;refine xX i rfl λj d lx k s1 a=>?_;have H:=λb=>H j d b s1 k;unfold vU at H;have lt:∀c:Int,iM (.bool (decide (0<=l.n))) (oB (fK 1 (.ptr lx 0)) λf=>oB (eC f d) λg=>ef .lss 2 g (V.I c))=some (.bool (decide (0<=l.n/\l.n<c))):=λc=>by
  rw[fN,eD,show eC (.ptr lx (0+1)) d=some (.I l.n) from a.ld rfl,eD,jC,gQ,wBq]
 refine oF (a.ld rfl) (gw ?_);split
 ·rename_i e;rw[if_pos e]at H;exact oF (a.ld rfl) (ec (jc _ _ _ _) (ec (lt 16) (H _ decide_eq_true_iff)))
 rename_i m;rw[if_neg m]at H;refine gw ?_;split
 ·rename_i e;rw[if_pos e]at H;exact oF (a.ld rfl) (ec (jc _ _ _ _) (ec (lt 400) (H _ decide_eq_true_iff)))
 rename_i o;rw[if_neg o]at H;refine gw ?_;split
 ·rename_i e;rw[if_pos e]at H;exact Rx (H _ (by cases en <;> simp))
 rename_i p;rw[if_neg p]at H;refine gw ?_;split
 ·rename_i e;refine ec (show _=some (V.bool (en&&(l.n == 0))) from ?_) (H _ ?_)
  ·rw[fN,eD,show eC (.ptr lx (0+1)) d=some (.I l.n) from a.ld rfl,eD,iE,gQ]
  ·simp[e]
 ·rename_i e;exact H false (Ro λh=>e h.1)
end
open Un Dm
section
variable{F F':Nat->Prop}{h h':Hp}{cs:List Pc}{Q:fo}
theorem M3{f p:Int}{bs:List Nat}{ex:List Nx}{en:List Nl}{wc we wn:V}(H0:ej F h cs)(hc:iH eY F h bs wc)(he:iH Tb F h ex we)(G:iH KI F h en wn)(nb:bs.length<=2000000)(ne:ex.length<100000000)(nn:en.length<100000000)
  (H:∀F' h' b,Sn F h F' h'->ej F' h' cs->(b=true↔Yh bs ex en)->Q (.bool b) h'):cP CS jF [.agg (OE f p wc we wn)] h Q:=by
 refine yp rfl rfl ?_;unfold pz;refine xX H0 (by simp only[fe,hc.one,he.one,G.one];rfl) λF1 h1 lx H1 s1 c1=>?_;refine oF (c1.ld rfl) (QL H1 (hc.since s1) nb (λF2 h2 w l s2 H2 hd rl=>?_) λF2 h2 er s2 H2 h0 au=>?_);rotate_left
 ·refine ec rfl (ec rfl (ec (vB _ _ _ _) ?_));rw[show(er != 0)=true from wB3.2 h0];exact gh (gN rfl (H F2 h2 false (s1.trans s2) H2 (Ro λe=>let⟨l,h1,_⟩:=e.dec;au l h1)))
 have c2:=c1.since s2;have C:=s1.trans s2;refine ec rfl (ec rfl (ec (show ef .neq 40 (.I 0) (.I 0)=some (.bool false) from rfl) (gh (gD (by simp) ?_))));have ll:=hd.zbC;have M:=he.since C;have no:∀{F9 v},Sn F2 h2 F9 v->ej F9 v cs->¬Yh bs ex en->Q (.bool false) v:=λN O G=>H _ _ false (C.trans N) O (Ro G);refine vI (λk A h'=>∃i,A=[.ptr lx 0,w,.I (i:Nat)]/\i+k=l.length/\h' = h2/\∀(j:Nat) x,j<i->l[j]? =some x->DR ex.length x) ?_ (k:=l.length) ⟨0,rfl,by omega,rfl,by omega⟩;rintro k _ _ _ h3 ⟨i,⟨⟩,hk,rfl,hr⟩;unfold nJ;refine ec rl.len ?_;by_cases hi:i<l.length
 ·have hx:=iz hi;obtain⟨l1,o1,ws,_,i1,i2,P,i4⟩:=rl.ix hi .i64;generalize l[i]=x at*;have P:ws=BQ x:=P;subst P;have l0:eC (.ptr l1 (o1+0)) h3=some (.I x.op):=i4 0 _ rfl;have l4:eC (.ptr l1 (o1+4)) h3=some (.I x.n):=i4 4 _ rfl;have l3:eC (.ptr lx (0+3)) h3=some we:=c2.ld rfl;have i1:gP 5 w (.I i)=some (.ptr l1 o1):=i1;refine gU (ec i1 (oF l0 (ec (iE _ _ _ _) ?_)));simp only[fN,eD,i1,l0,l4,l3,M.len,iE,jc,iC,gQ,fY];have ac:(((((x.op:Nat):Int) == 25 ||((x.op:Nat):Int) == 26) ||((x.op:Nat):Int) == 27)&&decide (((ex.length:Nat):Int)<=x.n))=true↔¬DR ex.length x:=by
   unfold DR;simp only[sJ,GY,KC,AL];omega
  refine gh (jn (λe=>no (.refl _ _) H2 λR=>?_) λe=>?_)
  ·obtain⟨A,d1,d2⟩:=R.dec;rw[<-hd.uniq d1]at d2;exact ac.1 e (d2 x (zQ hx))
  ·exact gf ⟨k-1,by omega,i+1,rfl,by omega,rfl,rS hx (Classical.byContradiction λG=>e (ac.2 G)) hr⟩
 refine iY ?_;have aw:∀x∈l,DR ex.length x:=BN (n:=i) (by omega) hr;obtain⟨J1,S⟩:∃J1:Nat->LP,J1=λk A h'=>∃F' i,A=[.ptr lx 0,.I (i:Nat)]/\i+k=ex.length/\Sn F2 h3 F' h'/\ej F' h' cs/\∀(j:Nat) x,j<i->ex[j]? =some x->WO x:=⟨_,rfl⟩
 refine vF J1 ?_ (k:=ex.length) (by rw[S];exact⟨F2,0,rfl,by omega,.refl _ _,H2,by omega⟩);intro k1 _ _ h5 ae;rw[S]at ae;obtain⟨F5,q,⟨⟩,aL,s5,H5,ag⟩:=ae;unfold nQ;have c5:=c2.since s5;have l3:eC (.ptr lx (0+3)) h5=some we:=c5.ld rfl;refine oF l3 (ec (M.since s5).len ?_);by_cases hq:q<ex.length
 ·have hx:=iz hq;obtain⟨l1,o1,ws,_,i1,_,⟨fv,P,rf⟩,i4⟩:=(M.since s5).ix hq .i64;generalize ex[q]=x at*;subst P;have l0:eC (.ptr l1 (o1+0)) h5=some fv:=i4 0 _ rfl;refine gU (oF l3 (ec i1 (oF l0 (ec rf.len (ec (jC _ _ _ _) ?_)))));simp only[eD,rf.len,iG,iC,fY];refine gh (jn (λe=>no s5 H5 λR=>?_) λe=>?_)
  ·have:=R.ex x (zQ hx);unfold WO at this;simp only[GY,AL]at e;omega
  have ah:1<=x.il.length/\x.il.length<=30:=by
   simp only[GY,AL]at e;omega
  obtain⟨J3,T⟩:∃J3:Nat->LP,J3=λk A h'=>∃F' i,A=[.ptr lx 0,.I q,fv,.I (i:Nat)]/\i+k=x.il.length/\Sn F5 h5 F' h'/\ej F' h' cs/\∀(j:Nat) f,j<i->x.il[j]? =some f->zab f:=⟨_,rfl⟩
  refine vH J3 ?_ (k:=x.il.length) (by rw[T];exact⟨F5,0,rfl,by omega,.refl _ _,H5,by omega⟩);intro k2 _ _ _ _ a d;rw[T]at d;obtain⟨D,r,⟨⟩,ax,B,U,g⟩:=d;unfold nE;have ai:=rf.since B;have aj:=s5.trans B;refine ec ai.len ?_;by_cases hrl:r<x.il.length
  ·have hy:=iz hrl;obtain⟨l2,o2,ws,f2,j1,_,⟨la,sa,P,ra,rb⟩,j4⟩:=ai.ix hrl .i64;generalize x.il[r]=y at*;subst P;have j1:gP 4 fv (.I r)=some (.ptr l2 o2):=j1;have m2:eC (.ptr l2 (o2+2)) a=some la:=j4 2 _ rfl;have m3:eC (.ptr l2 (o2+3)) a=some sa:=j4 3 _ rfl;have ak:∀{F9 v},Sn D a F9 v->ej F9 v cs->¬zab y->Q (.bool false) v:=λN O G=>no (aj.trans N) O λR=>G ((R.ex x (zQ hx)).2.2 y (zQ hy));refine gU (ec j1 (oF m2 (ec ra.len (ec (iG _ _ _ _) ?_))));simp only[fN,eD,j1,m3,rb.len,iG,iC,fY];refine gh (jn (λe=>ak (.refl _ _) U λhf=>?_) λe=>?_)
   ·have h1:=hf.1;have h2:=hf.2.1;simp only[GY,AL]at e;omega
   have al:y.locals.length<=40/\y.stack.length<=60:=by
    simp only[GY,AL]at e;omega
   rw[tY,hH];obtain⟨H8,s8⟩:=U.NX (E:=KI) (xs:=[]) (ws:=[]) (n:=0) mq rfl trivial rfl;have g8:=eJ a (.cells mq 2 true false []);have k8:∀{o:Nat} {u:V},eC (.ptr l2 o) a=some u->eC (.ptr l2 o) (a.new (.cells mq 2 true false []))=some u:=λh=>iJ h (eE _ (U.fl _ f2));have H8:ej D (a.new (.cells mq 2 true false [])) (fE KI mq [] (.slice a.next 0 0)::cs):=H8;have s8:Sn D a D (a.new (.cells mq 2 true false [])):=s8;have ay:=ra.since s8;have az:=rb.since s8;refine ec j1 (oF (k8 m2) (ec (k8 m3) ⟨⟨g8,bq⟩,?_⟩));have aA:=k8 m3;generalize a.new (.cells mq 2 true false [])=h8 at*;generalize V.slice a.next 0 0=w8 at*;obtain⟨w9,v,e9,n9,O,N⟩:=H8.O9 0 rfl (lE:=16) ay (by decide) (by decide) (by simp;omega);rw[show eQ mq 2 16 w8 la h8=_ from e9,eh];have O:ej D v (fE KI mq ([]++y.locals) w9::cs):=O;obtain⟨am,aB,aC,aD,aE,aF⟩:=O.O9 0 rfl (lE:=16) (az.since N) (by decide) (by decide) (by simp;omega);refine⟨n9,iJ aA (N.fh _ f2),?_⟩;rw[show eQ mq 2 16 w9 sa v=_ from aC,eh];obtain⟨W,aG,an⟩:=aE.ji 0 rfl;have W:ej _ aB cs:=W.tail;rw[OJ]at an;have ao:=((s8.trans N).trans aF).trans aG;refine⟨aD,?_⟩;obtain⟨J4,X⟩:∃J4:Nat->LP,J4=λk A h'=>∃F' i,A=[.ptr lx 0,.I q,fv,.I r,am,.I (i:Nat)]/\i+k=(y.locals++y.stack).length/\Sn D a F' h'/\ej F' h' cs/\iH KI F' h' (y.locals++y.stack) am/\∀(j:Nat) z,j<i->(y.locals++y.stack)[j]? =some z->vU z false:=⟨_,rfl⟩
   refine vG J4 ?_ (k:=(y.locals++y.stack).length) (by rw[X];exact⟨_,0,rfl,by omega,ao,W,an,by omega⟩);intro k4 _ _ _ _ _ _ aM I;rw[X]at I;obtain⟨aH,t,⟨⟩,aN,m,aq,Y,J⟩:=I;unfold nG;refine ec Y.len ?_;by_cases ht:t<(y.locals++y.stack).length
   ·have K:=iz ht;have aI:=Dg ht;obtain⟨l5,o5,ws,_,t1,t2,Z,_⟩:=Y.ix ht .i64;generalize (y.locals++y.stack)[t]=z at*;have Z:ws=AB z:=Z;subst Z;refine gU (ec t1 (ec t2 (Wd aq λaa aJ b c s hb=>?_)));refine po ?_;have OM:(y.locals++y.stack).length<=100:=by rw[oQ];omega
    by_cases hlz:vU z false
    ·refine gN (hb.2 hlz) (gf ⟨k4-1,by omega,?_⟩);rw[X];exact⟨aa,t+1,rfl,by omega,m.trans c,s,Y.since c,rS K hlz J⟩
    ·refine gD (λe=>hlz (hb.1 e)) (ak (m.trans c) s λhf=>hlz ?_);rcases xU.1 aI with hm|hm
     ·exact hf.2.2.1 z hm
     ·exact hf.2.2.2 z hm
   ·refine iY (gf ⟨k2-1,by omega,?_⟩);rw[T];have L:∀z∈y.locals++y.stack,vU z false:=BN (n:=t) (by omega) J;exact⟨aH,r+1,rfl,by omega,B.trans m,aq,rS hy ⟨al.1,al.2,λz K=>L z (XR _ K),λz K=>L z (wBY _ K)⟩ g⟩
  ·refine iY (gf ⟨k1-1,by omega,?_⟩);rw[S];exact⟨D,q+1,rfl,by omega,aj,U,rS hx ⟨ah.1,ah.2,BN (n:=r) (by omega) g⟩ ag⟩
 refine iY ?_;have aK:∀x∈ex,WO x:=BN (n:=q) (by omega) ag;have ar:=G.since C;obtain⟨J2,ab⟩:∃J2:Nat->LP,J2=λk A h'=>∃F' i,A=[.ptr lx 0,.I (i:Nat)]/\i+k=en.length/\Sn F2 h3 F' h'/\ej F' h' cs/\∀(j:Nat) x,j<i->en[j]? =some x->vU x true:=⟨_,rfl⟩
 refine vK J2 ?_ (k:=en.length) (by rw[ab];exact⟨F5,0,rfl,by omega,s5,H5,by omega⟩);intro k2 _ _ a d;rw[ab]at d;obtain⟨D,r,⟨⟩,ax,B,U,g⟩:=d;unfold nN;have l4:eC (.ptr lx (0+4)) a=some wn:=(c2.since B).ld rfl;refine oF l4 (ec (ar.since B).len ?_);by_cases hrl:r<en.length
 ·have K:=iz hrl;obtain⟨l5,o5,ws,_,t1,t2,Z,_⟩:=(ar.since B).ix hrl .i64;generalize en[r]=z at*;have Z:ws=AB z:=Z;subst Z;refine gU (oF l4 (ec t1 (ec t2 (Wd U λaa aJ b c s hb=>?_))));refine po ?_;by_cases hlz:vU z true
  ·refine gN (hb.2 hlz) (gf ⟨k2-1,by omega,?_⟩);rw[ab];exact⟨aa,r+1,rfl,by omega,B.trans c,s,rS K hlz g⟩
  ·exact gD (λe=>hlz (hb.1 e)) (no (B.trans c) s λR=>hlz (R.en z (zQ K)))
 ·exact iY (H D a true (C.trans B) U (tru ⟨⟨l,hd,aw⟩,BN (n:=r) (by omega) g,aK⟩))
end
