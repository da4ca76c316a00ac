/- Parts. -/
import Derived.Test.YtcoaokdoecgcbaaGreatDoorM37
import Derived.Test.YtcoaokdoecgcbaaGreatDoorM36
set_option maxHeartbeats 4000000
namespace Go.Proofs.YtcoaokdoecgcbaaGreatDoor.Hx
open Un Dm
theorem Xo(h:Hp):∀op:Nat,1<=op->op<=27->∃s,s≠[]/\CS.K lD [.I (op:Nat)] h=some (.str s)
 |0,a,_=>by omega
 |1,_,_=>⟨_,by decide,rfl⟩
 |2,_,_=>⟨_,by decide,rfl⟩
 |3,_,_=>⟨_,by decide,rfl⟩
 |4,_,_=>⟨_,by decide,rfl⟩
 |5,_,_=>⟨_,by decide,rfl⟩
 |6,_,_=>⟨_,by decide,rfl⟩
 |7,_,_=>⟨_,by decide,rfl⟩
 |8,_,_=>⟨_,by decide,rfl⟩
 |9,_,_=>⟨_,by decide,rfl⟩
 |10,_,_=>⟨_,by decide,rfl⟩
 |11,_,_=>⟨_,by decide,rfl⟩
 |12,_,_=>⟨_,by decide,rfl⟩
 |13,_,_=>⟨_,by decide,rfl⟩
 |14,_,_=>⟨_,by decide,rfl⟩
 |15,_,_=>⟨_,by decide,rfl⟩
 |16,_,_=>⟨_,by decide,rfl⟩
 |17,_,_=>⟨_,by decide,rfl⟩
 |18,_,_=>⟨_,by decide,rfl⟩
 |19,_,_=>⟨_,by decide,rfl⟩
 |20,_,_=>⟨_,by decide,rfl⟩
 |21,_,_=>⟨_,by decide,rfl⟩
 |22,_,_=>⟨_,by decide,rfl⟩
 |23,_,_=>⟨_,by decide,rfl⟩
 |24,_,_=>⟨_,by decide,rfl⟩
 |25,_,_=>⟨_,by decide,rfl⟩
 |26,_,_=>⟨_,by decide,rfl⟩
 |27,_,_=>⟨_,by decide,rfl⟩
 |n+28,_,h=>by omega
theorem U9(h:Hp):∀op:Nat,¬(1<=op/\op<=27)->CS.K lD [.I (op:Nat)] h=none
 |0,_=>rfl
 |n+28,_=>rfl
 |1,h=>by omega
 |2,h=>by omega
 |3,h=>by omega
 |4,h=>by omega
 |5,h=>by omega
 |6,h=>by omega
 |7,h=>by omega
 |8,h=>by omega
 |9,h=>by omega
 |10,h=>by omega
 |11,h=>by omega
 |12,h=>by omega
 |13,h=>by omega
 |14,h=>by omega
 |15,h=>by omega
 |16,h=>by omega
 |17,h=>by omega
 |18,h=>by omega
 |19,h=>by omega
 |20,h=>by omega
 |21,h=>by omega
 |22,h=>by omega
 |23,h=>by omega
 |24,h=>by omega
 |25,h=>by omega
 |26,h=>by omega
 |27,h=>by omega
section
variable{F F':Nat->Prop}{h h':Hp}{cs:List Pc}{Q:fo}
theorem SR{op:Nat}(H:∀s,(s=[]↔¬(1<=op/\op<=27))->Q (.str s) h):cP CS lD [.I op] h Q:=by
 by_cases hop:1<=op/\op<=27
 ·obtain⟨fn,c,a,b⟩:=Tp;obtain⟨s,hs,d⟩:=Xo h op hop.1 hop.2;exact cP.known a b d rfl rfl (H s ⟨λe=>(hs e).elim,λe=>(e hop).elim⟩)
 ·refine Ov rfl (U9 h op hop) ?_;unfold Gt;refine ec (jC _ _ _ _) ?_;have e:mm (.bool (decide (((op:Nat):Int)<1))) (oB (some (V.I op)) λf=>ef .gtr 3 f (V.I 27))=some (.bool true):=by
   simp only[eD,iG,iC];congr 2;rw[GY,AL,AL];omega
  exact ec e (gh (gN rfl (H [] ⟨λ_=>hop,λ_=>rfl⟩)))
theorem zbg{op:Nat}(H:Q (.I (jO op:Nat)) h):cP CS ui [.I op] h Q:=by
 refine Od rfl rfl ?_;unfold Fh;unfold jO at H;have r4:∀b:Bool,(b=true↔op=1\/op=3\/op=4\/op=24\/op=25)->jX CS Q [.I op,.bool b] h:=λb a=>by
  refine KD ?_;unfold AU;refine gh (jn (λe=>?_) λe=>?_)
  ·rw[if_pos (a.1 e)]at H;exact H
  rw [if_neg λh=>e (a.2 h)]at H;clear a e;have c:∀b:Bool,(b=true↔op=2\/op=10\/op=11\/op=17\/op=18\/op=19\/op=21)->iU CS Q [.I op,.bool b] h:=λb a=>by
   refine Kz ?_;unfold AZ;refine gh (jn (λe=>?_) λe=>?_)
   ·rw[if_pos (a.1 e)]at H;exact H
   rw [if_neg λh=>e (a.2 h)]at H;clear a e;have OD:∀b:Bool,(b=true↔(5<=op/\op<=9)\/(12<=op/\op<=16)\/op=20\/op=22)->gI CS Q [.bool b] h:=λb a=>by
    refine IA ?_;unfold Ar;refine gh (jn (λe=>?_) λe=>?_)
    ·rw[if_pos (a.1 e)]at H;exact H
    ·rw[if_neg λh=>e (a.2 h)]at H;exact H
   clear H;refine fH (gh (jn (λe=>OD _ (by simp at e⊢;omega)) λe=>?_));refine fH (gh (jn (λe=>OD _ (by simp at e⊢;omega)) λe=>?_));refine fH (gh (jn (λe=>OD _ (by simp at e⊢;omega)) λe=>?_));refine fH (gh (jn (λe=>OD _ (by simp at e⊢;omega)) λe=>?_));refine fH (gh (jn (λe=>OD _ (by simp at e⊢;omega)) λe=>?_));refine fH (gh (jn (λe=>OD _ (by simp at e⊢;omega)) λe=>?_));refine fH (gh (jn (λe=>OD _ (by simp at e⊢;omega)) λe=>?_));refine fH (gh (jn (λe=>OD _ (by simp at e⊢;omega)) λe=>?_));refine fH (gh (jn (λe=>OD _ (by simp at e⊢;omega)) λe=>?_));refine fH (gh (jn (λe=>OD _ (by simp at e⊢;omega)) λe=>?_));refine fH (gh (jn (λe=>OD _ (by simp at e⊢;omega)) λe=>?_));exact fH (OD _ (by simp at*;omega))
  clear H;refine fH (gh (jn (λe=>c _ (by simp at e⊢;omega)) λe=>?_));refine fH (gh (jn (λe=>c _ (by simp at e⊢;omega)) λe=>?_));refine fH (gh (jn (λe=>c _ (by simp at e⊢;omega)) λe=>?_));refine fH (gh (jn (λe=>c _ (by simp at e⊢;omega)) λe=>?_));refine fH (gh (jn (λe=>c _ (by simp at e⊢;omega)) λe=>?_));refine fH (gh (jn (λe=>c _ (by simp at e⊢;omega)) λe=>?_));exact fH (c _ (by simp at*;omega))
 clear H;refine fH (gh (jn (λe=>r4 _ (by simp at e⊢;omega)) λe=>?_));refine fH (gh (jn (λe=>r4 _ (by simp at e⊢;omega)) λe=>?_));refine fH (gh (jn (λe=>r4 _ (by simp at e⊢;omega)) λe=>?_));refine fH (gh (jn (λe=>r4 _ (by simp at e⊢;omega)) λe=>?_));exact fH (r4 _ (by simp at*;omega))
end
open Un Dm
section
variable{F F':Nat->Prop}{h h':Hp}{cs:List Pc}{Q:fo}
theorem PG{C:fj}{f:Nat}{a:List V}{h:Hp}{K:fo}(H:K .undef h):oP (gW false (.bool true)) λb=>oP (gC b (some (f,a))) λy=>AS C y h K:=H
theorem Ro{b:Prop}(h:¬b):(false=true↔b):=⟨λe=>(nomatch e),λe=>(h e).elim⟩
theorem tru{b:Prop}(h:b):(true=true↔b):=⟨λ_=>h,λ_=>rfl⟩
theorem za4{a b c:Int}{t:Nat}:iM (.bool (decide (a<=b))) (oB (some (V.I b)) λv=>ef .leq t v (V.I c))=some (.bool (decide (a<=b/\b<=c))):=by
 simp only[eD,Of,gQ,wBq]
theorem za2{a b c:Int}{t:Nat}:iM (.bool (decide (a<=b))) (oB (some (V.I b)) λv=>ef .lss t v (V.I c))=some (.bool (decide (a<=b/\b<c))):=by
 simp only[eD,jC,gQ,wBq]
theorem Xq{op n:Nat}{x:Int}(H:∀b:Bool,(b=true↔tF op x n)->Q (.bool b) h):cP CS qR [.I op,.I x,.I n] h Q:=by
 refine La rfl rfl ?_;unfold BZ;unfold tF at H;have r4:∀b:Bool,(b=true↔op=1\/op=19\/op=21)->lZ CS Q [.I x,.I n,.I op,.bool b] h:=λb a=>by
  refine Hw ?_;unfold zb;refine gh (jn (λe=>?_) λe=>?_)
  ·exact H true (by rw[if_pos (a.1 e)];simp)
  rw [if_neg λh=>e (a.2 h)]at H;clear a e;have f:∀b:Bool,(b=true↔op=3\/op=4)->oe CS Q [.I x,.I n,.I op,.bool b] h:=λb a=>by
   refine HS ?_;unfold yF;refine gh (jn (λe=>?_) λe=>?_)
   ·rw[if_pos (a.1 e)]at H;exact ec (jc _ _ _ _) (ec za2 (H _ decide_eq_true_iff))
   rw [if_neg λh=>e (a.2 h)]at H;clear a e;have d:∀b:Bool,(b=true↔op=23\/op=24)->nr CS Q [.I x,.I n,.I op,.bool b] h:=λb a=>by
    refine FU ?_;unfold wV;refine gh (jn (λe=>?_) λe=>?_)
    ·rw[if_pos (a.1 e)]at H;refine ec (jc _ _ _ _) (ec ?_ (H _ decide_eq_true_iff));simp only[eD,Of,gQ,wBq]
    rw [if_neg λh=>e (a.2 h)]at H;clear a e;have c:∀b:Bool,(b=true↔op=25\/op=26\/op=27)->kY CS Q [.I x,.bool b] h:=λb a=>by
     refine FN ?_;unfold xK;refine gh (jn (λe=>?_) λe=>?_)
     ·rw[if_pos (a.1 e)]at H;exact ec (jc _ _ _ _) (ec za4 (H _ decide_eq_true_iff))
     ·rw[if_neg λh=>e (a.2 h)]at H;exact fH (H _ decide_eq_true_iff)
    clear H;refine fH (gh (jn (λe=>c _ (by simp at e⊢;omega)) λe=>?_));refine fH (gh (jn (λe=>c _ (by simp at e⊢;omega)) λe=>?_));exact fH (c _ (by simp at*;omega))
   clear H;refine fH (gh (jn (λe=>d _ (by simp at e⊢;omega)) λe=>?_));exact fH (d _ (by simp at*;omega))
  clear H;refine fH (gh (jn (λe=>f _ (by simp at e⊢;omega)) λe=>?_));exact fH (f _ (by simp at*;omega))
 clear H;refine fH (gh (jn (λe=>r4 _ (by simp at e⊢;omega)) λe=>?_));refine fH (gh (jn (λe=>r4 _ (by simp at e⊢;omega)) λe=>?_));exact fH (r4 _ (by simp at*;omega))
theorem Xz{x:Ni}{n:Nat}(K:ej F h cs)(H:∀F' h' b,Sn F h F' h'->ej F' h' cs->(b=true↔Hl n x)->Q (.bool b) h'):cP CS sy [.agg (BQ x),.I n] h Q:=by
 refine Mw rfl rfl ?_;unfold DZ;refine xX K rfl λG I l t s1 f=>?_;refine oF (f.ld rfl) (SR λL u=>?_);refine ec (PD _ _ _) ?_;have o:(L == ([]:List UInt8))=decide (¬(1<=x.op/\x.op<=27)):=by
  rw[Uv,KC,AL];exact u
 rw[o];by_cases hop:1<=x.op/\x.op<=27;rotate_left
 ·rw[XJ hop];refine vr (vr (vr (vr (vr ?_))));refine PG ?_;exact ec rfl (gh (gN rfl (H G I false s1 t (Ro λe=>hop e.1))))
 rw[V7 (λh=>h hop)];refine gZ (ec pf (gZ (ec (f.ld rfl) (gZ (ec pf (gZ (ec (f.ld rfl) (gZ (ec rfl ?_)))))))));refine vh (Xq λb J=>?_);refine ec (show mm (.bool false) (qH .not (.bool b))=some (.bool (!b)) by cases b <;> rfl) (gh ?_);by_cases hnk:tF x.op x.n n;rotate_left
 ·have:b=false:=by cases b;·rfl
                   ·exact(hnk (J.1 rfl)).elim
  rw[this];exact gN rfl (H G I false s1 t (Ro λe=>hnk e.2.1))
 rw [J.2 hnk];refine gD (by simp) (oF (f.ld rfl) (oF (f.ld rfl) (oF (f.ld rfl) ?_)));rw[show iK 3 1 3 (.I 0) [(0,.I x.a),(1,.I x.b),(2,.I x.c)]=some (.cells 3 1 true false (nD [x.a,x.b,x.c]),λl=> .slice l 0 3) from rfl];refine Zl [x.a,x.b,x.c] rfl t λw M v y z r2=>?_;have c2:=f.since z;refine ec r2.len ?_;have P:∀i r,([x.a,x.b,x.c]:List Nat)[i]? =some r->i<3:=λi r m=>by
  have:=(kE.1 m).1;simpa using this
 refine IH (λk N h'=>∃i,N=[.ptr l 0,v,.I ((3:Nat):Int),.I (i:Nat)]/\i+k=3/\h' = M/\∀j r,j<i->([x.a,x.b,x.c]:List Nat)[j]? =some r->oO (jO x.op) r j) ?_ (k:=3) ⟨0,rfl,rfl,rfl,by omega⟩;rintro k _ _ _ _ _ ⟨i,⟨⟩,R,rfl,m⟩;unfold Ac;by_cases hi:i<3
 ·obtain ⟨r,d⟩:∃r,([x.a,x.b,x.c]:List Nat)[i]? =some r:=⟨_,iz (by simpa using hi)⟩
  obtain ⟨l1,S,_,p1,p2⟩:=r2.nat d .i64;refine gU (ec p1 (ec p2 (ec (jC _ _ _ _) ?_)));have e1:mm (.bool (decide (((r:Nat):Int)<0))) (oB (some (V.I r)) λA=>ef .geq 3 A (V.I 16))=some (.bool (decide (16<=r))):=by
   simp only[eD,jc,iC];congr 2;rw[Uv,GY,AL,AL,AL];omega
  refine ec e1 ?_;have p:¬oO (jO x.op) r i->¬Hl n x:=λO B=>O (by
   match i,d with
   |0,d=>cases d;exact B.2.2.1
   |1,d=>cases d;exact B.2.2.2.1
   |2,d=>cases d;exact B.2.2.2.2)
  have q:=s1.trans z;by_cases s:16<=r
  ·rw[XJ s];refine vr (vr (vr (PG ?_)));exact ec rfl (gh (gN rfl (H w _ false q y (Ro (p λh=>by unfold oO at h;omega)))))
  ·rw [V7 s];refine gZ (ec rfl (gZ (ec pf (gZ (ec (c2.ld rfl) (vh (zbg ?_)))))));have e2:mm (.bool false) (oB (ef .geq 3 (V.I i) (V.I (jO x.op:Nat))) λC=>oB (some C) λD=>iM D (oB (some (V.I r)) λE=>ef .neq 3 E (V.I 0)))=some (.bool (decide (jO x.op<=i/\r≠0))):=by
    simp only[eD,jc,vB,gQ,iC];congr 2;rw[Uv];simp
   refine ec e2 (gh ?_);by_cases hc:jO x.op<=i/\r≠0
   ·exact gN (by simpa using hc) (H w _ false q y (Ro (p λh=>by unfold oO at h;omega)))
   ·refine gD (by simpa using hc) (gf ⟨k-1,by omega,i+1,rfl,by omega,rfl,λj r' T g=>?_⟩);by_cases e:j=i
    ·subst e;rw[d]at g;cases g;unfold oO;omega
    ·exact m j r' (by omega) g
 ·refine iY (H w _ true (s1.trans z) y ⟨λ_=>?_,λ_=>rfl⟩);exact⟨hop,hnk,m 0 _ (by omega) rfl,m 1 _ (by omega) rfl,m 2 _ (by omega) rfl⟩
theorem Py{l:List Ni}{v:V}(m:ej F h cs)(hl:iH XX F h l v)(G:l.length<1000000)(H:∀F' h' b,Sn F h F' h'->ej F' h' cs->(b=true↔l.length<=32768/\∀x∈l,Hl l.length x)->Q (.bool b) h'):cP CS mI [v] h Q:=by
 refine Mg rfl rfl ?_;unfold Eu;refine ec hl.len (ec (iG _ _ _ _) (gh ?_));by_cases I:32768<l.length
 ·exact gN (by simp;omega) (H F h false (.refl _ _) m (Ro λe=>by omega))
 refine gD (by simp;omega) (ec hl.len ?_);refine Jk (λk u h'=>∃F' i,u=[v,v,.I l.length,.I (i:Nat)]/\i+k=l.length/\Sn F h F' h'/\ej F' h' cs/\∀(j:Nat) x,j<i->l[j]? =some x->Hl l.length x) ?_ (k:=l.length) ⟨F,0,rfl,by omega,.refl _ _,m,by omega⟩;rintro k _ _ _ _ w ⟨z,i,⟨⟩,J,a,n,o⟩;unfold Ai;by_cases hi:i<l.length
 ·have c:=iz hi;obtain⟨l1,K,ws,_,A,B,d,_⟩:=(hl.since a).ix hi .i64;generalize l[i]=x at*;have d:ws=BQ x:=d;subst d;refine gU (ec A (ec B ?_));refine tW n rfl rfl rfl λL M lx C p D=>?_;refine ec (D.zB rfl) (ec hl.len (Xz C λq E b r s t=>?_));refine po ?_;by_cases hb1:Hl l.length x
  ·refine gN (t.2 hb1) (gf ⟨k-1,by omega,q,i+1,rfl,by omega,(a.trans p).trans r,s,λj y f g=>?_⟩);by_cases e:j=i
   ·subst e;rw[c]at g;cases g;exact hb1
   ·exact o j y (by omega) g
  ·exact gD (λe=>hb1 (t.1 e)) (H q E false ((a.trans p).trans r) s (Ro λe=>hb1 (e.2 x (zQ c))))
 ·refine iY (H z w true a n ⟨λ_=>⟨by omega,λx c=>?_⟩,λ_=>rfl⟩);obtain⟨j,f⟩:=oR.1 c;exact o j x (by have:=(kE.1 f).1;omega) f
end
open Un Dm
def eY:rG Nat where
 sz:=1
 rel _ _ n cs:=cs=[.int .u8 (n:Nat)]/\n<256
 len h:=by obtain⟨rfl,_⟩:=h;rfl
 one h:=by obtain⟨rfl,_⟩:=h;rfl
 fh _ h:=h
 mono _ h:=h
theorem PO(n:Int):iy .u8 n=n % 256:=by
 rw[pA];simp only[IntKind.wrap,IntKind.signed,IntKind.bits,Bool.false_and,PM,if_false];rfl
theorem wrap64(n:Int):iy .u64 n=(uN n:Nat):=by
 rw[pA];simp only[IntKind.wrap,IntKind.signed,IntKind.bits,Bool.false_and,PM,if_false];unfold uN;have:n % 2 ^ 64=n % 18446744073709551616:=rfl;omega
theorem zcw{n:Nat}(h:n<18446744073709551616):iy .i64 (n:Int)=sN n:=by
 rw[pA];simp only[IntKind.wrap,IntKind.signed,IntKind.bits,Bool.true_and,AL,Nat.reduceSub,Int.reducePow,ge_iff_le,sN];split <;> split <;> omega
theorem zaJ{n k:Nat}(a:n<18446744073709551616)(b:k<8):ef .shr 63 (.int .u64 (n:Nat)) (.I ((8*k:Nat):Int))=some (.int .u64 ((n / 256 ^ k:Nat):Int)):=by
 show some (V.int .u64 (Int.fdiv (n:Int) (2 ^ (min (8*k) 64))))=_;rw[wBm (by omega),show((2:Int) ^ (8*k))=((256 ^ k:Nat):Int) by rw[Int.pow_mul,Int.natCast_pow];rfl,Int.fdiv_eq_ediv_of_nonneg _ (Int.natCast_nonneg _)];rfl
section
variable{F F':Nat->Prop}{h h':Hp}{cs:List Pc}{Q:fo}
theorem Pw(F:Nat->Prop)(h:Hp):∀(l:List Nat),(∀x∈l,x<256)->pU eY F h (l.map λn=>V.int .u8 (n:Nat)) l
 |[],_=>trivial
 |n::l,hl=>⟨[.int .u8 (n:Nat)],_,rfl,⟨rfl,hl n (by simp)⟩,Pw F h l λx a=>hl x (by simp[a])⟩
theorem ej.zg1{α:Type}{E:rG α}{ty:Nat}{xs:List α}{v:V}(H:ej F h cs)(i:Nat)(hi:cs[i]? =some (fE E ty xs v)){lE IZ:Nat}{ys:List α}{ws:List V}{ro:Bool}(d:pU E F h ws ys)(hl:ws.length=ys.length*E.sz)(h0:0<ys.length)(e:0<E.sz)(f:lE<=1000)(b:xs.length+ys.length<=10000000) :
  ∃a h',eQ ty E.sz lE v (.slice h.next 0 ys.length) (h.new (.cells IZ E.sz true ro ws))=some (.val a h')/\h.next+1<=h'.next/\ej F h' (cs.set i (fE E ty (xs++ys) a))/\Sn F h F h':=by
 obtain ⟨g,s1⟩:=H.grow (lU.new h (.cells IZ E.sz true ro ws));have j:kV (h.new (.cells IZ E.sz true ro ws)) E.sz (.slice h.next 0 ys.length)=some (ys.length,ws):=by
  obtain⟨k,c⟩:∃k,ys.length=k+1:=⟨ys.length-1,by omega⟩
  rw[c];exact nC (by rw[hl,c])
 obtain⟨a,h',e1,e2,m,n⟩:=g.app i hi j (d.fh λl hl=>eE _ (H.fl l hl)) hl e f b;exact⟨a,h',e1,e2,m,s1.trans n⟩
theorem WN{l:List Ni}{v:V}(X:ej F h cs)(hl:iH XX F h l v)(Y:l.length<=32768)(ok:∀x∈l,Hl l.length x)(H:∀F' h' w,Sn F h F' h'->ej F' h' cs->iH eY F' h' (EK l) w->Q (.tuple [w,.I 0]) h'):cP CS qM [v] h Q:=by
 refine Lj rfl rfl ?_;unfold CI;refine Py X hl (by omega) λZ h1 b s1 H1 hb=>?_;rw[hb.2 ⟨Y,ok⟩];refine po (gN rfl (ec (hl.since s1).len ?_));have e:∀i,(EK (l.take i)).length<=400000:=λi=>by
  rw[Nb];have:=List.length_take_le' i l;omega
 obtain⟨J,p⟩:∃J:Nat->LP,J=λk q h'=>∃F' i w,q=[w,v,.I l.length,.I (i:Nat)]/\i+k=l.length/\Sn F h F' h'/\ej F' h' (fE eY 5 (EK (l.take i)) w::cs):=⟨_,rfl⟩
 refine Ho J ?_ (k:=l.length) (by rw[p];exact⟨Z,0,.ed,rfl,by omega,s1,H1.add .nil λ_ h=>h⟩);intro k L _ _ _ h2 f;rw[p]at f;obtain⟨F2,i,_,⟨⟩,hk,r,s⟩:=f;unfold yW;by_cases hi:i<l.length
 ·have hx:=iz hi;have t:=Nt hi;have u:=ok _ (Dg hi);obtain⟨l1,o1,ws,_,i1,i2,z,_⟩:=(hl.since r).ix hi .i64;generalize l[i]=x at*;have z:ws=BQ x:=z;subst z;refine gU (ec i1 (ec i2 ?_));refine tW s rfl rfl rfl λA B lx C D g=>?_;obtain⟨aa,_,ha,E,hc⟩:=u;have M:=ha.1;have N:=E.1;have O:=hc.1;have e0:iy .u8 ((x.op:Nat):Int)=((x.op % 256:Nat):Int):=by rw[PO];omega
  have e1:iy .u8 (((16*x.a+x.b:Nat):Int))=(((16*x.a+x.b) % 256:Nat):Int):=by rw[PO];omega
  have e2:iy .u8 ((x.c:Nat):Int)=((x.c % 256:Nat):Int):=by rw[PO];omega
  refine oF (g.ld rfl) (ec (by rw[jB,e0]) (oF (g.ld rfl) ?_));rw[Gb,fY,gS (by simp only[Cf];omega)];refine oF (g.ld rfl) ?_;rw[Cv,fY,gS (by simp only[Cf];omega),show(16:Int)*(x.a:Nat)+(x.b:Nat)=((16*x.a+x.b:Nat):Int) by omega];refine ec (by rw[jB,e1]) (oF (g.ld rfl) (ec (by rw[jB,e2]) ?_));rw[show iK 5 1 3 (.int .u8 0) [(0,.int .u8 ((x.op % 256:Nat):Int)),(1,.int .u8 (((16*x.a+x.b) % 256:Nat):Int)),(2,.int .u8 ((x.c % 256:Nat):Int))]=some (.cells 5 1 true false ([x.op % 256,(16*x.a+x.b) % 256,x.c % 256].map λn=>V.int .u8 (n:Nat)),λl=> .slice l 0 3) from rfl,fI];have G:∀y∈[x.op % 256,(16*x.a+x.b) % 256,x.c % 256],y<256:=λy P=>by
   simp only[wM,wBg,or_false]at P;rcases P with rfl|rfl|rfl <;> exact Nat.mod_lt _ (by decide)
  obtain⟨w4,h4,e4,_,H4,R⟩:=C.zg1 0 rfl (lE:=1) (IZ:=5) (ro:=false) (Pw A B _ G) (by simp[eY]) (by simp) (by decide) (by decide) (by have:=e i;simp;omega);rw[show eQ 5 1 1 L (.slice B.next 0 3) (B.new (.cells 5 1 true false ([x.op % 256,(16*x.a+x.b) % 256,x.c % 256].map λn=>V.int .u8 (n:Nat))))=_ from e4,eh]
  obtain ⟨I,d⟩:∃I:Nat->LP,I=λk q h'=>∃F' j w,q=[w,.ptr lx 0,.I (j:Nat),v,.I l.length,.I i]/\j+k=8/\Sn A h4 F' h'/\
    ej F' h' (fE eY 5 (EK (l.take i)++([x.op % 256,(16*x.a+x.b) % 256,x.c % 256]++(List.range j).map (By (uN x.n)))) w::cs):=⟨_,rfl⟩
  refine Hh I ?_ (k:=8) (by rw[d];exact⟨A,0,w4,rfl,by omega,.refl _ _,by simpa using H4⟩);intro k1 m _ _ _ _ _ S o;rw[d]at o;obtain⟨T,j,_,⟨⟩,ab,K,U⟩:=o;have c5:=(g.since R).since K;unfold yD;by_cases hj:j<8
  ·refine gU (oF (c5.ld rfl) (ec (by rw[jB,wrap64]) ?_));rw[Gb,fY,gS (by simp only[Cf];omega),show(8:Int)*(j:Nat)=((8*j:Nat):Int) by omega];have eb:iy .u8 (((uN x.n / 256 ^ j:Nat):Int))=((By (uN x.n) j:Nat):Int):=by rw[PO];unfold By;omega
   refine ec (zaJ (zfz _) hj) (ec (by rw[jB,eb]) ?_);rw[show iK 5 1 1 (.int .u8 0) [(0,.int .u8 ((By (uN x.n) j:Nat):Int))]=some (.cells 5 1 true false [.int .u8 ((By (uN x.n) j:Nat):Int)],λl=> .slice l 0 1) from rfl,fI];obtain⟨w6,h6,e6,_,W,s6⟩:=U.wi 0 rfl (lE:=1) (IZ:=5) (ro:=false) (y:=By (uN x.n) j) (w:=[.int .u8 ((By (uN x.n) j:Nat):Int)]) ⟨rfl,Nat.mod_lt _ (by decide)⟩ (by decide) (by decide) (by have:=e i;simp;omega);rw[show eQ 5 1 1 m (.slice S.next 0 1) (S.new (.cells 5 1 true false [.int .u8 ((By (uN x.n) j:Nat):Int)]))=_ from e6,eh];refine gf ⟨k1-1,by omega,?_⟩;rw[d];refine⟨T,j+1,w6,rfl,by omega,K.trans s6,?_⟩;rw[wBf,List.map_append,List.map_singleton];simp only[<-KB];simp only[AD,<-KB]at W;exact W
  ·refine iY (gf ⟨k-1,by omega,?_⟩);obtain rfl:j=8:=by omega
   rw [p];refine⟨T,i+1,m,rfl,by omega,((r.trans D).trans R).trans K,?_⟩;have:EK (l.take (i+1))=EK (l.take i)++([x.op % 256,(16*x.a+x.b) % 256,x.c % 256]++(List.range 8).map (By (uN x.n))):=by
    rw[t];unfold EK;rw[wA4,wBT];rfl
   rw[this];exact U
 ·refine iY ?_;obtain rfl:i=l.length:=by omega
  rw[SM]at s;obtain⟨C,D,r3⟩:=s.ji 0 rfl;exact H _ h2 L (r.trans D) C.tail r3
end
open Un
theorem U5(l:List V):gz l=l.all V.one:=by
 induction l with
 |nil=>rfl
 |cons a l b=>rw[fe,b];rfl
theorem UZ{l ws:List V}(h:gz l=true)(b:gz ws=true)(n m:Nat):gz (l.take n++ws++l.drop m)=true:=by
 rw[U5,PX]at*;intro x a;rcases xU.1 a with a|a
 ·rcases xU.1 a with a|a
  ·exact h x (wBk a)
  ·exact b x a
 ·exact h x (List.mem_of_mem_drop a)
section
variable{F F':Nat->Prop}{h h':Hp}{cs:List Pc}
theorem ej.stP{α:Type}{E:rG α}{ty:Nat}{xs:List α}{v:V}(H:ej F h cs)(i:Nat)(hi:cs[i]? =some (fE E ty xs v)){k j:Nat}(b:k<xs.length)(c:j<E.sz){y:α}{u:V}(d:u.one=true)(e:∀w,E.rel F h xs[k] w->E.rel F h y (w.set j u)) :
  ∃l o h',gP E.sz v (.I k)=some (.ptr l o)/\gL 1 (.ptr l (o+j)) u h=some (.val .undef h')/\h.next<=h'.next/\ej F h' (cs.set i (fE E ty (xs.set k y) v))/\Sn F h F h':=by
 obtain⟨t,h',_,f,g,m,a⟩:=(H.row i hi).store b c d e;exact⟨t,_,h',f,g,a.next,H.Bm hi a m λ_ h=> .inl h⟩
theorem ej.ixO{α:Type}{E:rG α}{ty:Nat}{xs:List α}{v:V}(H:ej F h cs)(i:Nat)(hi:cs[i]? =some (fE E ty xs v)){k:Nat}(a:k<xs.length)(f:IntKind) :
  ∃l o w,gP E.sz v (.int f k)=some (.ptr l o)/\gy E.sz (.ptr l o) h=some (.agg w)/\E.rel F h xs[k] w/\∀j u,w[j]? =some u->eC (.ptr l (o+j)) h=some u:=by
 rcases H.row i hi with⟨_,rfl⟩|⟨t,ws,rfl,p,q,c,g,r⟩
 ·simp at a
 ·obtain ⟨w,d,m,e⟩:=g.get (i:=k) (x:=xs[k]) (iz a);refine⟨t,0+k*E.sz,w,wx _ _ _ _ _ _ a,?_,e,λj u b=>?_⟩
  ·rw[xn c,HP,Gk m,d];rfl
  ·rw[RA c,Qx];have n:j<E.sz:=by rw[<-E.len e];exact(kE.1 b).1
   rw[<-d,List.getElem?_take_of_lt n,wBZ]at b;rw[HP];exact b
theorem ej.stE{α:Type}{E:rG α}{ty:Nat}{xs:List α}{v:V}(H:ej F h cs)(i:Nat)(hi:cs[i]? =some (fE E ty xs v)){k:Nat}(a:k<xs.length){y:α}{ws:List V}(b:E.rel F h y ws) :
  ∃l o h',gP E.sz v (.I k)=some (.ptr l o)/\gL E.sz (.ptr l o) (.agg ws) h=some (.val .undef h')/\h.next<=h'.next/\ej F h' (cs.set i (fE E ty (xs.set k y) v))/\Sn F h F h':=by
 rcases H.row i hi with⟨_,rfl⟩|⟨t,ds,rfl,c,d,g,f,j⟩
 ·simp at a
 ·obtain ⟨w,s,m,u⟩:=f.get (i:=k) (x:=xs[k]) (iz a);have hl:=E.len b
  obtain ⟨n,q⟩:=H.Bm (p:=fE E ty (xs.set k y) (.slice t 0 xs.length)) (h':=h.put t (.cells ty E.sz true false (ds.take (k*E.sz)++ws++ds.drop (k*E.sz+E.sz)))) hi (lU.put _ rfl c)
   (.inr ⟨t,_,by simp,c,d,fT _ c,pU.fh (h:=h) (λl r=>gi _ c λe=>d (e▸r)) (f.set a b),UZ j (E.one b) _ _⟩) λ_ h=> .inl h
  exact⟨t,k*E.sz,_,by rw[wx _ _ _ _ _ _ a,HP],zdp g hl m (E.one b),jv _,n,q⟩
end
open Un Dm
theorem UG{k:Nat}(a:k<8):256 ^ (k+1)<=18446744073709551616:=by
 have:256 ^ (k+1)<=256 ^ 8:=Nat.pow_le_pow_right (by decide) (by omega);simpa using this
theorem Yu{b k:Nat}(a:b<256)(c:k<8):ef .shl 63 (.int .u64 (b:Nat)) (.I ((8*k:Nat):Int))=some (.int .u64 ((b*256 ^ k:Nat):Int)):=by
 have d:=UG c;have e:b*256 ^ k+256 ^ k<=256*256 ^ k:=by rw[<-Nat.succ_mul];exact wA9 _ a
 have f:0<256 ^ k:=Nat.pow_pos (by decide);rw[Nat.pow_succ,wB6]at d;show some (V.int .u64 (IntKind.wrap .u64 ((b:Int)*2 ^ (min (8*k) 64))))=_;rw[wBm (by omega),<-pA,show((2:Int) ^ (8*k))=((256 ^ k:Nat):Int) by rw[Int.pow_mul,Int.natCast_pow];rfl,<-Int.natCast_mul,wrap64];congr 2;unfold uN;omega
theorem zby{n b k:Nat}(c:n<256 ^ k)(d:b<256)(f:k<8):ef .or 63 (.int .u64 (n:Nat)) (.int .u64 ((b*256 ^ k:Nat):Int))=some (.int .u64 ((n+b*256 ^ k:Nat):Int)):=by
 have g:=UG f;have h:b*256 ^ k+256 ^ k<=256*256 ^ k:=by rw[<-Nat.succ_mul];exact wA9 _ d
 rw[Nat.pow_succ,wB6]at g;show some (V.int .u64 (IntKind.wrap .u64 (((BitVec.ofInt 64 (n:Int) |||BitVec.ofInt 64 ((b*256 ^ k:Nat):Int)).toNat:Nat):Int)))=_;rw[<-pA,wrap64,BitVec.toNat_or,BitVec.ofInt_natCast,BitVec.ofInt_natCast,BitVec.toNat_ofNat,BitVec.toNat_ofNat,Nat.mod_eq_of_lt (by omega),Nat.mod_eq_of_lt (by omega)];have e:(256:Nat) ^ k=2 ^ (8*k):=by rw[Nat.pow_mul]
 have a:=Nat.shiftLeft_add_eq_or_of_lt (b:=n) (i:=8*k) (by rw[<-e];exact c) b;rw[Nat.shiftLeft_eq,<-e]at a;rw[Nat.or_comm,<-a];congr 2;unfold uN;omega
theorem iH.byte{F:Nat->Prop}{h:Hp}{xs:List Nat}{v:V}(a:iH eY F h xs v){i x:Nat}(c:xs[i]? =some x)(b:IntKind):∃l o,F l/\gP 1 v (.int b (i:Nat))=some (.ptr l o)/\eC (.ptr l o) h=some (.int .u8 (x:Nat))/\x<256:=by
 obtain⟨hi,rfl⟩:=kE.1 c;obtain⟨l,o,w,d,f,g,e,j⟩:=a.XZ hi b rfl;cases e;exact⟨l,o,d,f,g,j⟩
theorem zcq{b:Nat}(a:b<256):ef .quo 5 (.int .u8 (b:Nat)) (.int .u8 16)=some (.int .u8 ((b / 16:Nat):Int)):=by
 show some (V.int .u8 (iy .u8 (Int.tdiv (b:Int) 16)))=_;rw[Int.tdiv_eq_ediv_of_nonneg (by omega),PO];congr 2;omega
theorem zcX{b:Nat}:ef .rem 5 (.int .u8 (b:Nat)) (.int .u8 16)=some (.int .u8 ((b % 16:Nat):Int)):=by
 show some (V.int .u8 (Int.tmod (b:Int) 16))=_;rw[Int.tmod_eq_emod_of_nonneg (by omega)];rfl
section
variable{F F':Nat->Prop}{h h':Hp}{cs:List Pc}{Q:fo}{bs:List Nat}{v:V}
theorem NL{i:Nat}(hi:i<bs.length / 11):(AJ bs)[i]? =some (oX bs (11*i)):=by
 unfold AJ;rw[wBn,List.getElem?_range hi];rfl
theorem ER:(AJ bs).length=bs.length / 11:=by simp[AJ]
theorem Qe{i:Nat}(hi:i<bs.length / 11):(AJ bs).take (i+1)=(AJ bs).take i++[oX bs (11*i)]:=by
 have hl:i<(AJ bs).length:=by rw[ER];exact hi
 rw[Nt hl];have:=NL hi;rw[iz hl]at this;rw[Option.some.inj this]
theorem zcO(hl:iH eY F h bs v):∀x∈bs,x<256:=λx a=>by
 obtain⟨i,hi⟩:=oR.1 a;obtain⟨_,_,_,_,_,h⟩:=hl.byte hi .i64;exact h
theorem Uq(H0:ej F h cs)(hl:iH eY F h bs v)(hn:bs.length<=2000000)(HY:∀F' h' w l,Sn F h F' h'->ej F' h' cs->SV bs l->iH XX F' h' l w->Q (.tuple [w,.I 0]) h')
  (R:∀F' h' e,Sn F h F' h'->ej F' h' cs->e≠0->(∀l,¬SV bs l)->Q (.tuple [.ed,.I e]) h'):cP CS ml [v] h Q:=by
 refine Ld rfl rfl ?_;unfold wh;have p:ef .rem 3 (.I bs.length) (.I 11)=some (.I ((bs.length % 11:Nat):Int)):=by
  show some (V.I (Int.tmod (bs.length:Int) 11))=_;rw[Int.tmod_eq_emod_of_nonneg (by omega)];rfl
 refine ec hl.len (ec p (Ef ?_));by_cases r:bs.length % 11=0;rotate_left
 ·exact gD (by omega) (R F h 7 (.refl _ _) H0 (by decide) λl hd=>r hd.len)
 refine gN (by omega) ?_;have s:=zcO hl;obtain⟨J,S⟩:∃J:Nat->Xw,J=λn T E h'=>∃F' i,i+n=bs.length / 11/\Sn F h F' h'/\ej F' h' (fE XX qL ((AJ bs).take i) E::cs)/\iH eY F' h' (bs.drop (11*i)) T/\∀j,j<i->1<=(oX bs (11*j)).op/\(oX bs (11*j)).op<=27:=⟨_,rfl⟩
 refine Hu J ?_ (k:=bs.length / 11) (by rw[S];exact⟨F,0,by omega,.refl _ _,H0.add .nil λ_ h=>h,by simpa using hl,by omega⟩);intro n T E f t;rw[S]at t;obtain⟨G,i,ab,s1,H,r1,U⟩:=t;unfold rI;refine ec r1.len (ec (iG _ _ _ _) (gh ?_));rw[wBa];by_cases hi:i<bs.length / 11
 ·refine gN (by simp;omega) ?_;have I:∀j,j<11->(bs.drop (11*i))[j]? =some (bs.getD (11*i+j) 0):=λj W=>by
   rw[wBZ,OV,iz (by omega)];rfl
  obtain⟨l0,o0,f0,p0,q0,b0⟩:=r1.byte (I 0 (by omega)) .i64;obtain⟨l1,o1,f1,p1,K,b1⟩:=r1.byte (I 1 (by omega)) .i64;obtain⟨l2,o2,f2,p2,q2,b2⟩:=r1.byte (I 2 (by omega)) .i64;have L:∀{n:Nat},n<1000->iy .i64 ((n:Nat):Int)=(n:Nat):=λh=>Qg (by omega);refine ec p0 (ec q0 (ec (by rw[jB,L (by omega)]) ?_));refine ec p1 (ec K (ec (zcq b1) (ec (by rw[jB,L (by omega)]) ?_)));refine ec p1 (ec K (ec zcX (ec (by rw[jB,L (by omega)]) ?_)));refine ec p2 (ec q2 (ec (by rw[jB,L (by omega)]) (ec (show _=some (V.agg (BQ {oX bs (11*i)with n:=0})) from rfl) ?_)));rw[hH];obtain⟨z,M⟩:=H.HM qL [.I 0,.I 0,.I 0,.I 0,.I 0];obtain⟨A,e3,n3,g,B⟩:=z.XM 0 (n:=5) (ws:=BQ {oX bs (11*i)with n:=0}) rfl rfl rfl rfl;have N:∀{l o:Nat} {x:Int},G l->eC (.ptr l o) f=some (.int .u8 x)->eC (.ptr l o) (f.new (.cells qL 1 true false [.I 0,.I 0,.I 0,.I 0,.I 0]))=some (.int .u8 x):=λhf h=>iJ h (eE _ (H.fl _ hf));refine⟨⟨eJ _ _,bq⟩,N f2 q2,N f1 K,N f1 K,N f0 q0,?_⟩;rw[show gL 5 (.ptr f.next 0) (.agg _) (f.new (.cells qL 1 true false [.I 0,.I 0,.I 0,.I 0,.I 0]))=_ from e3,eh];generalize f.next=lx at*;have a:=M.trans B;refine⟨n3,oF (g.ld 0 rfl rfl) (SR λnm C=>?_)⟩;refine ec (PD _ _ _) (gh ?_);by_cases hopi:1<=(oX bs (11*i)).op/\(oX bs (11*i)).op<=27;rotate_left
  ·refine gN (by rw[KC];exact C.2 hopi) (R G A 30 (s1.trans a) g.tail.tail (by decide) λl hd=>hopi ?_);have:=hd.ok (oX bs (11*i)) (by rw[hd.eq];exact zQ (NL hi));exact this.1
  refine gD (λe=>C.1 (KC.1 e) hopi) ?_;obtain⟨X,c⟩:∃X:Nat->AE,X=λn y0 O y5 y6 y7 h'=>∃j,y0=T/\O=E/\y5 = .ptr lx 0/\y6 = .int .u64 ((A5 bs (11*i+3) j:Nat):Int)/\y7 = .I (j:Nat)/\j+n=8/\h' = A:=⟨_,rfl⟩
  refine HE X ?_ (k:=8) (by rw[c];exact⟨0,rfl,rfl,rfl,rfl,rfl,rfl,rfl⟩);intro n1 y0 O y5 y6 y7 h4 D;rw[c]at D;obtain⟨j,rfl,rfl,rfl,rfl,rfl,ac,rfl⟩:=D;unfold rC;have r3:=r1.since a;by_cases W:j<8
  ·obtain⟨l4,o4,_,p4,q4,b4⟩:=r3.byte (I (3+j) (by omega)) .i64;refine gU (ju (n:=3) (m:=j) (by omega) (by omega) (ec p4 (ec q4 ?_)));rw[show 11*i+(3+j)=11*i+3+j by omega]at*;refine ec (by rw[jB,gS (by simp only[Cf];omega)]) ?_;rw[Gb,fY,gS (by simp only[Cf];omega),show(8:Int)*(j:Nat)=((8*j:Nat):Int) by omega];refine ec (Yu b4 W) (ec (zby (F0 s _ j) b4 W) (gf ⟨n1-1,by omega,?_⟩));rw[c];exact⟨j+1,rfl,rfl,rfl,rfl,rfl,by omega,rfl⟩
  ·refine iY ?_;obtain rfl:j=8:=by omega
   have Y:A5 bs (11*i+3) 8<18446744073709551616:=by
    have:=F0 s (11*i+3) 8;simpa using this
   refine ec (by rw[jB,zcw Y]) (ec pf ?_);obtain⟨Z,e5,_,P,s5⟩:=g.st 0 rfl (o:=0+4) (by simp[BQ]) (u:= .I (sN (A5 bs (11*i+3) 8))) rfl;rw[e5,eh];have P:ej G Z (ft lx qL (BQ (oX bs (11*i)))::fE XX qL ((AJ bs).take i) O::cs):=P;refine ec (P.zB 0 rfl rfl) ?_;rw[show iK qL 5 1 (.agg [.I 0,.I 0,.I 0,.I 0,.I 0]) [(0,.agg (BQ (oX bs (11*i))))]=some (.cells qL 5 true false (BQ (oX bs (11*i))),λl=> .slice l 0 1) from rfl,fI];obtain⟨w6,h6,e6,_,H6,s6⟩:=P.wi 1 rfl (lE:=40) (IZ:=qL) (y:=oX bs (11*i)) (w:=BQ (oX bs (11*i))) (ro:=false) rfl (by decide) (by decide) (by
    have:=List.length_take_le i (AJ bs);omega)
   rw[show eQ qL 5 40 O (.slice Z.next 0 1) (Z.new (.cells qL 5 true false (BQ (oX bs (11*i)))))=_ from e6,eh];have aa:=((s1.trans a).trans s5).trans s6;have r6:=(r3.since s5).since s6;obtain⟨x7,g1,g2⟩:=r6.cut (lo:=some (.I 11)) (hi:=none) (m:=11) (n:=(bs.drop (11*i)).length) rfl rfl (by rw[wBa];omega) (jv _);refine ec g1 ⟨n-1,by omega,?_⟩;rw[S];refine⟨G,i+1,by omega,aa,by rw[Qe hi];exact H6.tail,?_,λq hq=>?_⟩
   ·rw[SM,wBe,show 11*i+11=11*(i+1) by omega]at g2;exact g2
   ·by_cases e:q=i
    ·subst e;exact hopi
    ·exact U q (by omega)
 ·refine gD (by simp;omega) ?_;obtain rfl:i=bs.length / 11:=by omega
  rw[<-ER,SM]at H;obtain⟨z,M,r2⟩:=H.ji 0 rfl;have z:ej _ f cs:=z.tail;refine Py z r2 (by rw[ER];omega) λF3 A b B g hb=>?_;refine po ?_;by_cases hd:(AJ bs).length<=32768/\∀x∈AJ bs,Hl (AJ bs).length x
  ·exact gN (hb.2 hd) (HY F3 A E (AJ bs) ((s1.trans M).trans B) g ⟨r,rfl,hd.1,hd.2⟩ (r2.since B))
  ·refine gD (λe=>hd (hb.1 e)) (R F3 A 5 ((s1.trans M).trans B) g (by decide) λl d=>hd ?_);have:=d.eq;subst this;exact⟨d.zbC,d.ok⟩
end
open Un Dm
def vU(l:Nl)(en:Bool):Prop:=if l.kind=1 then 0<=l.n/\l.n<16 else if l.kind=2 then 0<=l.n/\l.n<400 else if l.kind=3 then en=false else l.kind=4/\en=true/\l.n=0
def zab(f:Nf):Prop:=f.locals.length<=40/\f.stack.length<=60/\(∀x∈f.locals,vU x false)/\∀x∈f.stack,vU x false
def WO(x:Nx):Prop:=1<=x.il.length/\x.il.length<=30/\∀f∈x.il,zab f
def DR(n:Nat)(x:Ni):Prop:=x.op=25\/x.op=26\/x.op=27->x.n<n
structure Yh (bs:List Nat) (ex:List Nx) (en:List Nl):Prop where
 dec:∃l,SV bs l/\∀x∈l,DR ex.length x
 en:∀x∈en,vU x true
 ex:∀x∈ex,WO x
abbrev OE(f p:Int)(a b c:V):List V:=[.I f,.I p,a,b,c]
theorem BN{α:Type}{l:List α}{P:α->Prop}{n:Nat}(b:n=l.length)(h:∀(j:Nat) x,j<n->l[j]? =some x->P x):∀x∈l,P x:=λx c=>by
 obtain⟨j,a⟩:=oR.1 c;exact h j x (by rw[b];exact(kE.1 a).1) a
theorem rS{α:Type}{l:List α}{P:α->Prop}{i:Nat}{x:α}(b:l[i]? =some x)(c:P x)(h:∀(j:Nat) x,j<i->l[j]? =some x->P x):∀(j:Nat) x,j<i+1->l[j]? =some x->P x:=λj y d a=>by
 by_cases e:j=i
 ·subst e;rw[b]at a;cases a;exact c
 ·exact h j y (by omega) a
section
variable{F F':Nat->Prop}{h h':Hp}{cs:List Pc}{Q:fo}
theorem zaF{l:Nl}{en:Bool}(i:ej F h cs)(H:∀F' h' b,Sn F h F' h'->ej F' h' cs->(b=true↔vU l en)->Q (.bool b) h'):cP CS zv [.agg (AB l),.bool en] h Q:=by
 refine Q9 rfl rfl ?_;unfold J7;refine xX i rfl λj d lx k s1 a=>?_;have H:=λb=>H j d b s1 k;unfold vU at H;have lt:∀c:Int,iM (.bool (decide (0<=l.n))) (oB (fK 1 (.ptr lx 0)) λf=>oB (eC f d) λg=>ef .lss 2 g (V.I c))=some (.bool (decide (0<=l.n/\l.n<c))):=λc=>by
  rw[fN,eD,show eC (.ptr lx (0+1)) d=some (.I l.n) from a.ld rfl,eD,jC,gQ,wBq]
 refine oF (a.ld rfl) (gw ?_);split
 ·rename_i e;rw[if_pos e]at H;exact oF (a.ld rfl) (ec (jc _ _ _ _) (ec (lt 16) (H _ decide_eq_true_iff)))
 rename_i m;rw[if_neg m]at H;refine gw ?_;split
 ·rename_i e;rw[if_pos e]at H;exact oF (a.ld rfl) (ec (jc _ _ _ _) (ec (lt 400) (H _ decide_eq_true_iff)))
 rename_i o;rw[if_neg o]at H;refine gw ?_;split
 ·rename_i e;rw[if_pos e]at H;exact Rx (H _ (by cases en <;> simp))
 rename_i p;rw[if_neg p]at H;refine oF (a.ld rfl) (ec (iE _ _ _ _) (ec (show iM (.bool (l.kind == 4)) (some (.bool en))=some (.bool (l.kind == 4&&en)) by rw[gQ]) ?_));refine ec (show _=some (V.bool (l.kind == 4&&en&&(l.n == 0))) from ?_) (H _ ?_)
 ·rw[fN,eD,show eC (.ptr lx (0+1)) d=some (.I l.n) from a.ld rfl,eD,iE,gQ]
 ·simp[and_assoc]
theorem QS{l:List Nl}{en:Bool}{v:V}(r:ej F h cs)(hl:iH KI F h l v)(E:l.length<100000000)(H:∀F' h' b,Sn F h F' h'->ej F' h' cs->(b=true↔∀x∈l,vU x en)->Q (.bool b) h'):cP CS wE [v,.bool en] h Q:=by
 refine Vb rfl rfl ?_;unfold NY;refine ec hl.len ?_;refine OS (λk s h'=>∃F' i,s=[.bool en,v,.I l.length,.I (i:Nat)]/\i+k=l.length/\Sn F h F' h'/\ej F' h' cs/\∀(j:Nat) x,j<i->l[j]? =some x->vU x en) ?_ (k:=l.length) ⟨F,0,rfl,by omega,.refl _ _,r,by omega⟩;rintro k _ _ _ _ t ⟨u,i,⟨⟩,G,c,f,g⟩;unfold Iw;by_cases hi:i<l.length
 ·have m:=iz hi;obtain⟨l1,I,ws,_,w,y,d,_⟩:=(hl.since c).ix hi .i64;generalize l[i]=x at*;have d:ws=AB x:=d;subst d;refine gU (ec w (ec y ?_));refine tW f rfl rfl rfl λJ K lx z A B=>?_;refine ec (B.zB rfl) (zaF z λo C b D p q=>?_);have a:=(c.trans A).trans D;refine po ?_;by_cases hb1:vU x en
  ·exact gN (q.2 hb1) (gf ⟨k-1,by omega,o,i+1,rfl,by omega,a,p,rS m hb1 g⟩)
  ·exact gD (λe=>hb1 (q.1 e)) (H o C false a p (Ro λe=>hb1 (e x (zQ m))))
 ·exact iY (H u t true c f (tru (BN (n:=i) (by omega) g)))
theorem Xr{f p:Int}{bs:List Nat}{ex:List Nx}{en:List Nl}{wc I wn:V}(H0:ej F h cs)(hc:iH eY F h bs wc)(he:iH Tb F h ex I)(B:iH KI F h en wn)(nb:bs.length<=2000000)(ne:ex.length<100000000)(nn:en.length<100000000)
  (H:∀F' h' b,Sn F h F' h'->ej F' h' cs->(b=true↔Yh bs ex en)->Q (.bool b) h'):cP CS zx [.agg (OE f p wc I wn)] h Q:=by
 refine QZ rfl rfl ?_;unfold Kr;refine xX H0 (by simp only[fe,hc.one,he.one,B.one];rfl) λF1 h1 lx H1 s1 c1=>?_;refine oF (c1.ld rfl) (Uq H1 (hc.since s1) nb (λF2 h2 w l s2 H2 hd rl=>?_) λF2 h2 er s2 H2 h0 ah=>?_);rotate_left
 ·refine ec rfl (ec rfl (ec (vB _ _ _ _) ?_));rw[show(er != 0)=true from wB3.2 h0];refine vr (vr (PG ?_));exact ec rfl (gh (gN rfl (H F2 h2 false (s1.trans s2) H2 (Ro λe=>let⟨l,h1,_⟩:=e.dec;ah l h1))))
 have c2:=c1.since s2;have J:=s1.trans s2;refine ec rfl (ec rfl (ec (show ef .neq 40 (.I 0) (.I 0)=some (.bool false) from rfl) ?_));refine gZ (ec pf (gZ (ec (c2.ld rfl) ?_)));refine vh (QS H2 (B.since J) nn λF3 h3 b s3 H3 hb=>?_);refine ec (show mm (.bool false) (qH .not (.bool b))=some (.bool (!b)) by cases b <;> rfl) (gh ?_);have c:=J.trans s3;by_cases hen:∀x∈en,vU x true;rotate_left
 ·have:b=false:=by
   cases b with
   |false=>rfl
   |true=>exact(hen (hb.1 rfl)).elim
  rw[this];exact gN rfl (H F3 h3 false c H3 (Ro λe=>hen e.en))
 rw[hb.2 hen];have c3:=c2.since s3;have K:=rl.since s3;have ll:=hd.zbC;refine gD (by simp) (ec K.len ?_);refine My (λk C h'=>∃F' i,C=[.ptr lx 0,w,.I l.length,.I (i:Nat)]/\i+k=l.length/\Sn F3 h3 F' h'/\ej F' h' cs/\∀(j:Nat) x,j<i->l[j]? =some x->DR ex.length x) ?_ (k:=l.length) ⟨F3,0,rfl,by omega,.refl _ _,H3,by omega⟩;rintro k _ _ _ _ h4 ⟨F4,i,⟨⟩,hk,m,H4,hr⟩;unfold Et;have c4:=c3.since m;have o:=(he.since c).since m;by_cases hi:i<l.length
 ·have D:=iz hi;obtain⟨l1,o1,ws,_,L,M,s,_⟩:=(K.since m).ix hi .i64;generalize l[i]=x at*;have s:ws=BQ x:=s;subst s;refine gU (ec L (ec M ?_));refine tW H4 rfl rfl rfl λF5 E ly N d c5=>?_;have ai:=c4.since d;have O:eC (.ptr ly (0+0)) E=some (.I x.op):=c5.ld rfl;have l4:eC (.ptr ly (0+4)) E=some (.I x.n):=c5.ld rfl;have l3:eC (.ptr lx (0+3)) E=some I:=ai.ld rfl;refine oF O (ec (iE _ _ _ _) ?_);simp only[fN,eD,O,l4,l3,(o.since d).len,iE,jc,iC,gQ,fY];have P:(((((x.op:Nat):Int) == 25 ||((x.op:Nat):Int) == 26) ||((x.op:Nat):Int) == 27)&&decide (((ex.length:Nat):Int)<=x.n))=true↔¬DR ex.length x:=by
   unfold DR;simp only[sJ,GY,KC,AL];omega
  refine gh (jn (λe=>H F5 E false ((c.trans m).trans d) N (Ro λR=>?_)) λe=>?_)
  ·obtain⟨C,d1,d2⟩:=R.dec;rw[<-hd.uniq d1]at d2;exact P.1 e (d2 x (zQ D))
  ·exact gf ⟨k-1,by omega,F5,i+1,rfl,by omega,m.trans d,N,rS D (Classical.byContradiction λB=>e (P.2 B)) hr⟩
 refine iY ?_;have aj:∀x∈l,DR ex.length x:=BN (n:=i) (by omega) hr;refine oF (c4.ld rfl) (ec o.len ?_);have S:=c.trans m;obtain⟨J1,t⟩:∃J1:Nat->LP,J1=λk C h'=>∃F' i,C=[I,.I ex.length,.I (i:Nat)]/\i+k=ex.length/\Sn F h F' h'/\ej F' h' cs/\∀(j:Nat) x,j<i->ex[j]? =some x->WO x:=⟨_,rfl⟩
 refine Mk J1 ?_ (k:=ex.length) (by rw[t];exact⟨F4,0,rfl,by omega,S,H4,by omega⟩);clear S o c4 H4 m hr;intro k1 _ _ _ E T;rw[t]at T;obtain⟨F5,q,⟨⟩,al,d,N,U⟩:=T;unfold Es;by_cases hq:q<ex.length
 ·have D:=iz hq;obtain⟨l1,o1,ws,_,L,M,⟨fv,s,rf⟩,_⟩:=(he.since d).ix hq .i64;generalize ex[q]=x at*;subst s;refine gU (ec L (ec M ?_));refine tW N rfl rfl (by simp only[fe,rf.one];rfl) λF6 h6 ly H6 s6 c6=>?_;have u:=rf.since s6;have O:eC (.ptr ly (0+0)) h6=some fv:=c6.ld rfl;refine oF O (ec u.len (ec (iE _ _ _ _) ?_));simp only[fN,eD,O,u.len,iG,iC,fY];refine gh (jn (λe=>H F6 h6 false (d.trans s6) H6 (Ro λR=>?_)) λe=>?_)
  ·have:=R.ex x (zQ D);unfold WO at this;simp only[GY,KC,AL]at e;omega
  have W:1<=x.il.length/\x.il.length<=30:=by
   simp only[GY,KC,AL]at e;omega
  obtain⟨J2,v⟩:∃J2:Nat->LP,J2=λk C h'=>∃F' i,C=[I,.I ex.length,.I q,fv,.I x.il.length,.I (i:Nat)]/\i+k=x.il.length/\Sn F6 h6 F' h'/\ej F' h' cs/\∀(j:Nat) f,j<i->x.il[j]? =some f->zab f:=⟨_,rfl⟩
  refine oF O (ec u.len ?_);refine Mj J2 ?_ (k:=x.il.length) (by rw[v];exact⟨F6,0,rfl,by omega,.refl _ _,H6,by omega⟩);intro k2 _ _ _ _ _ _ h7 X;rw[v]at X;obtain⟨F7,r,⟨⟩,am,s7,H7,Y⟩:=X;unfold Ep;have Z:=(d.trans s6).trans s7;by_cases hrl:r<x.il.length
  ·have hy:=iz hrl;obtain⟨l1,o1,ws,_,L,M,⟨la,sa,s,ra,rb⟩,_⟩:=(u.since s7).ix hrl .i64;generalize x.il[r]=y at*;subst s;refine gU (ec L (ec M ?_));refine tW H7 rfl rfl (by simp only[fe,ra.one,rb.one];rfl) λF8 h8 lz H8 s8 c8=>?_;have aa:=ra.since s8;have ab:=rb.since s8;have l2:eC (.ptr lz (0+2)) h8=some la:=c8.ld rfl;have l3:eC (.ptr lz (0+3)) h8=some sa:=c8.ld rfl;have no:∀{F9 h9},Sn F8 h8 F9 h9->ej F9 h9 cs->¬zab y->Q (.bool false) h9:=λA H9 B=>H _ _ false ((Z.trans s8).trans A) H9 (Ro λR=>B ((R.ex x (zQ D)).2.2 y (zQ hy)));refine oF l2 (ec aa.len (ec (iG _ _ _ _) ?_));simp only[fN,eD,l3,ab.len,iG,iC,fY];by_cases hsz:y.locals.length<=40/\y.stack.length<=60;rotate_left
   ·rw [show(decide ((40:Int)<((y.locals.length:Nat):Int)) ||decide ((60:Int)<((y.stack.length:Nat):Int)))=true by
     simp only[GY,AL];omega]
    refine vr (vr (PG ?_));refine ec rfl (vr (vr (PG ?_)));exact ec rfl (gh (gN rfl (no (.refl _ _) H8 λG=>hsz ⟨G.1,G.2.1⟩)))
   rw[show(decide ((40:Int)<((y.locals.length:Nat):Int)) ||decide ((60:Int)<((y.stack.length:Nat):Int)))=false by
     simp only[wBj,decide_eq_false_iff_not];omega]
   refine gZ (ec rfl (gZ (ec l2 ?_)));refine vh (QS H8 aa (by omega) λF9 h9 b9 A H9 ac=>?_);refine ec (show mm (.bool false) (qH .not (.bool b9))=some (.bool (!b9)) by cases b9 <;> rfl) ?_;by_cases hlo:∀z∈y.locals,vU z false;rotate_left
   ·have:b9=false:=by
     cases b9 with
     |false=>rfl
     |true=>exact(hlo (ac.1 rfl)).elim
    rw[this];refine vr (vr (PG ?_));exact ec rfl (gh (gN rfl (no A H9 λG=>hlo G.2.2.1)))
   rw[ac.2 hlo];refine gZ (ec pf (gZ (ec ((c8.since A).ld rfl) ?_)));refine vh (QS H9 (ab.since A) (by omega) λak an a ae ag g=>?_);refine ec (show mm (.bool (!true)) (qH .not (.bool a))=some (.bool (!a)) by cases a <;> rfl) (gh ?_);by_cases hst:∀z∈y.stack,vU z false
   ·refine gD (by rw[g.2 hst];simp) (gf ⟨k2-1,by omega,?_⟩);rw[v];exact⟨ak,r+1,rfl,by omega,((s7.trans s8).trans A).trans ae,ag,rS hy ⟨hsz.1,hsz.2,hlo,hst⟩ Y⟩
   ·have:a=false:=by
     cases a with
     |false=>rfl
     |true=>exact(hst (g.1 rfl)).elim
    rw[this];exact gN rfl (no (A.trans ae) ag λG=>hst G.2.2.2)
  ·refine iY (gf ⟨k1-1,by omega,?_⟩);rw[t];exact⟨F7,q+1,rfl,by omega,Z,H7,rS D ⟨W.1,W.2,BN (n:=r) (by omega) Y⟩ U⟩
 ·exact iY (H F5 E true d N (tru ⟨⟨l,hd,aj⟩,hen,BN (n:=q) (by omega) U⟩))
end
