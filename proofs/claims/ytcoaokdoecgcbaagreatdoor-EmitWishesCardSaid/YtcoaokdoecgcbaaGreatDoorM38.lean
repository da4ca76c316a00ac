/- Parts. -/
import Derived.Test.YtcoaokdoecgcbaaGreatDoorM37
import Derived.Test.YtcoaokdoecgcbaaGreatDoorM36
set_option maxHeartbeats 4000000
namespace Go.Proofs.YtcoaokdoecgcbaaGreatDoor.Hx
open Un Dm
variable{α:Type}{xs:List α}{n:Nat}{E:ue α}{v:V}{ty op:Nat}
theorem Ze(h:Hp):∀op,1<=op->op<=27->∃s,s≠[]/\CS.K sX [.I (op:Nat)] h=some (.str s)
 |0,a,_=>by omega
 |1,_,_=>⟨_,by decide,rfl⟩
 |2,_,_=>⟨_,by decide,rfl⟩
 |3,_,_=>⟨_,by decide,rfl⟩
 |4,_,_=>⟨_,by decide,rfl⟩
 |5,_,_=>⟨_,by decide,rfl⟩
 |6,_,_=>⟨_,by decide,rfl⟩
 |7,_,_=>⟨_,by decide,rfl⟩
 |8,_,_=>⟨_,by decide,rfl⟩
 |9,_,_=>⟨_,by decide,rfl⟩
 |10,_,_=>⟨_,by decide,rfl⟩
 |11,_,_=>⟨_,by decide,rfl⟩
 |12,_,_=>⟨_,by decide,rfl⟩
 |13,_,_=>⟨_,by decide,rfl⟩
 |14,_,_=>⟨_,by decide,rfl⟩
 |15,_,_=>⟨_,by decide,rfl⟩
 |16,_,_=>⟨_,by decide,rfl⟩
 |17,_,_=>⟨_,by decide,rfl⟩
 |18,_,_=>⟨_,by decide,rfl⟩
 |19,_,_=>⟨_,by decide,rfl⟩
 |20,_,_=>⟨_,by decide,rfl⟩
 |21,_,_=>⟨_,by decide,rfl⟩
 |22,_,_=>⟨_,by decide,rfl⟩
 |23,_,_=>⟨_,by decide,rfl⟩
 |24,_,_=>⟨_,by decide,rfl⟩
 |25,_,_=>⟨_,by decide,rfl⟩
 |26,_,_=>⟨_,by decide,rfl⟩
 |27,_,_=>⟨_,by decide,rfl⟩
 |n+28,_,h=>by omega
theorem WH(h:Hp):∀op,¬(1<=op/\op<=27)->CS.K sX [.I (op:Nat)] h=none
 |0,_=>rfl
 |n+28,_=>rfl
 |1,h=>by omega
 |2,h=>by omega
 |3,h=>by omega
 |4,h=>by omega
 |5,h=>by omega
 |6,h=>by omega
 |7,h=>by omega
 |8,h=>by omega
 |9,h=>by omega
 |10,h=>by omega
 |11,h=>by omega
 |12,h=>by omega
 |13,h=>by omega
 |14,h=>by omega
 |15,h=>by omega
 |16,h=>by omega
 |17,h=>by omega
 |18,h=>by omega
 |19,h=>by omega
 |20,h=>by omega
 |21,h=>by omega
 |22,h=>by omega
 |23,h=>by omega
 |24,h=>by omega
 |25,h=>by omega
 |26,h=>by omega
 |27,h=>by omega
section
variable{F F':Nat->Prop}{h h':Hp}{cs:List Pc}{Q:fo}
theorem zbm(H:∀s,(s=[]↔¬(1<=op/\op<=27))->Q (.str s) h):cP CS sX [.I op] h Q:=by
 by_cases hop:1<=op/\op<=27
 ·let⟨fn,c,hf,hb⟩:=Vd
  let⟨s,hs,hk⟩:=Ze h op hop.1 hop.2
  exact cP.known hf hb hk rfl rfl (H s ⟨λe=>(hs e).elim,λe=>(e hop).elim⟩)
 ·refine PO (WH h op hop) ?_;unfold Hu;refine ec (gX _ _ _ _) ?_;have e:nr (.bool (decide (((op:Nat):Int)<1))) (oB (some (V.I op)) λa=>eh .gtr 3 a (V.I 27))=some (.bool true):=by
   simp only[fe,iT,jB];congr 2;rw[Jz,xX,xX];omega
  exact ec e (gf (fX rfl (H [] ⟨λ_=>hop,λ_=>rfl⟩)))
theorem zdJ(H:Q (.I (kK op:Nat)) h):cP CS Av [.I op] h Q:=by
 refine Ph ?_;unfold kK at H;have f:∀b,(b=true↔op=1\/op=3\/op=4\/op=24\/op=25)->kT Q [.I op,.bool b] h:=λb c=>by
  refine Ll ?_;unfold BY;refine gf (je (λe=>?_) λe=>?_)
  ·rw[if_pos (c.1 e)]at H;exact H
  rw [if_neg λh=>e (c.2 h)]at H;have d:∀b,(b=true↔op=2\/op=10\/op=11\/op=17\/op=18\/op=19\/op=21)->jr Q [.I op,.bool b] h:=λb c=>by
   refine Ln ?_;unfold BN;refine gf (je (λe=>?_) λe=>?_)
   ·rw[if_pos (c.1 e)]at H;exact H
   rw [if_neg λh=>e (c.2 h)]at H;have a:∀b,(b=true↔(5<=op/\op<=9)\/(12<=op/\op<=16)\/op=20\/op=22)->gN Q [.bool b] h:=λb c=>by
    refine KF ?_;unfold Bn;refine gf (je (λe=>?_) λe=>?_)
    ·rw[if_pos (c.1 e)]at H;exact H
    ·rw[if_neg λh=>e (c.2 h)]at H;exact H
   refine fK (gf (je (λe=>a _ (by simp at e⊢;omega)) λe=>?_));refine fK (gf (je (λe=>a _ (by simp at e⊢;omega)) λe=>?_));refine fK (gf (je (λe=>a _ (by simp at e⊢;omega)) λe=>?_));refine fK (gf (je (λe=>a _ (by simp at e⊢;omega)) λe=>?_));refine fK (gf (je (λe=>a _ (by simp at e⊢;omega)) λe=>?_));refine fK (gf (je (λe=>a _ (by simp at e⊢;omega)) λe=>?_));refine fK (gf (je (λe=>a _ (by simp at e⊢;omega)) λe=>?_));refine fK (gf (je (λe=>a _ (by simp at e⊢;omega)) λe=>?_));refine fK (gf (je (λe=>a _ (by simp at e⊢;omega)) λe=>?_));refine fK (gf (je (λe=>a _ (by simp at e⊢;omega)) λe=>?_));refine fK (gf (je (λe=>a _ (by simp at e⊢;omega)) λe=>?_));exact fK (a _ (by simp at*;omega))
  refine fK (gf (je (λe=>d _ (by simp at e⊢;omega)) λe=>?_));refine fK (gf (je (λe=>d _ (by simp at e⊢;omega)) λe=>?_));refine fK (gf (je (λe=>d _ (by simp at e⊢;omega)) λe=>?_));refine fK (gf (je (λe=>d _ (by simp at e⊢;omega)) λe=>?_));refine fK (gf (je (λe=>d _ (by simp at e⊢;omega)) λe=>?_));refine fK (gf (je (λe=>d _ (by simp at e⊢;omega)) λe=>?_));exact fK (d _ (by simp at*;omega))
 refine fK (gf (je (λe=>f _ (by simp at e⊢;omega)) λe=>?_));refine fK (gf (je (λe=>f _ (by simp at e⊢;omega)) λe=>?_));refine fK (gf (je (λe=>f _ (by simp at e⊢;omega)) λe=>?_));refine fK (gf (je (λe=>f _ (by simp at e⊢;omega)) λe=>?_));exact fK (f _ (by simp at*;omega))
theorem Z1{C:mw}{f:Nat}{a:List V}{h:Hp}{K:fo}(H:K .undef h):oP (iE false (.bool true)) λb=>oP (gC b (some (f,a))) λy=>Gn C y h K:=H
theorem YE{b:Prop}(h:¬b):(false=true↔b):=⟨λe=>(nomatch e),λe=>(h e).elim⟩
theorem tru{b:Prop}(h:b):(true=true↔b):=⟨λ_=>h,λ_=>rfl⟩
theorem zcB{a b c:Int}{t:Nat}:jm (.bool (decide (a<=b))) (oB (some (V.I b)) λv=>eh .leq t v (V.I c))=some (.bool (decide (a<=b/\b<=c))):=by
 simp[ Ls]
theorem zdI{a b c:Int}{t:Nat}:jm (.bool (decide (a<=b))) (oB (some (V.I b)) λv=>eh .lss t v (V.I c))=some (.bool (decide (a<=b/\b<c))):=by
 simp[ gX]
theorem Zp{x:Int}(H:∀b,(b=true↔sR op x n)->Q (.bool b) h):cP CS xE [.I op,.I x,.I n] h Q:=by
 refine M6 ?_;unfold sR at H;have f:∀b,(b=true↔op=1\/op=19\/op=21)->mB Q [.I x,.I n,.I op,.bool b] h:=λb a=>by
  refine Jp ?_;unfold zU;refine gf (je (λe=>?_) λe=>?_)
  ·exact H true (by rw[if_pos (a.1 e)];simp)
  rw [if_neg λh=>e (a.2 h)]at H;have g:∀b,(b=true↔op=3\/op=4)->pk Q [.I x,.I n,.I op,.bool b] h:=λb a=>by
   refine IY ?_;unfold zY;refine gf (je (λe=>?_) λe=>?_)
   ·rw[if_pos (a.1 e)]at H;exact ec (jt _ _ _ _) (ec zdI (H _ decide_eq_true_iff))
   rw [if_neg λh=>e (a.2 h)]at H;have d:∀b,(b=true↔op=23\/op=24)->oe Q [.I x,.I n,.I op,.bool b] h:=λb a=>by
    refine HG ?_;unfold yW;refine gf (je (λe=>?_) λe=>?_)
    ·rw[if_pos (a.1 e)]at H;refine ec (jt _ _ _ _) (ec ?_ (H _ decide_eq_true_iff));simp[ Ls]
    rw [if_neg λh=>e (a.2 h)]at H;have c:∀b,(b=true↔op=25\/op=26\/op=27)->lU Q [.I x,.bool b] h:=λb a=>by
     refine GM ?_;unfold yx;refine gf (je (λe=>?_) λe=>?_)
     ·rw[if_pos (a.1 e)]at H;exact ec (jt _ _ _ _) (ec zcB (H _ decide_eq_true_iff))
     ·rw[if_neg λh=>e (a.2 h)]at H;exact fK (H _ decide_eq_true_iff)
    refine fK (gf (je (λe=>c _ (by simp at e⊢;omega)) λe=>?_));refine fK (gf (je (λe=>c _ (by simp at e⊢;omega)) λe=>?_));exact fK (c _ (by simp at*;omega))
   refine fK (gf (je (λe=>d _ (by simp at e⊢;omega)) λe=>?_));exact fK (d _ (by simp at*;omega))
  refine fK (gf (je (λe=>g _ (by simp at e⊢;omega)) λe=>?_));exact fK (g _ (by simp at*;omega))
 refine fK (gf (je (λe=>f _ (by simp at e⊢;omega)) λe=>?_));refine fK (gf (je (λe=>f _ (by simp at e⊢;omega)) λe=>?_));exact fK (f _ (by simp at*;omega))
theorem YN{x:Ni}(K:ej F h cs)(H:∀F' h' b,Sn F h F' h'->ej F' h' cs->(b=true↔Bw n x)->Q (.bool b) h'):cP CS zu [.agg (Nw x),.I n] h Q:=by
 refine NT ?_;refine yq K rfl λG I l t s1 f=>?_;refine oF (f.ld rfl) (zbm λnm u=>?_);refine ec (Y8 _ _ _) ?_;have o:(nm == ([]:List UInt8))=decide (¬(1<=x.op/\x.op<=27)):=by
  rw[VC,Gi,xX];exact u
 rw[o];by_cases hop:1<=x.op/\x.op<=27;rotate_left
 ·rw[No hop];refine BP (BP (BP (BP (BP ?_))));refine Z1 ?_;exact ec rfl (gf (fX rfl (H G I false s1 t (YE λe=>hop e.1))))
 rw[JH (λh=>h hop)];refine gR (ec pf (gR (ec (f.ld rfl) (gR (ec pf (gR (ec (f.ld rfl) (gR (ec rfl ?_)))))))));refine xu (Zp λb J=>?_);refine ec (show nr (.bool false) (za .not (.bool b))=some (.bool (!b)) by cases b <;> rfl) (gf ?_);by_cases hnk:sR x.op x.n n;rotate_left
 ·have:b=false:=by cases b;·rfl
                   ·exact(hnk (J.1 rfl)).elim
  rw[this];exact fX rfl (H G I false s1 t (YE λe=>hnk e.2.1))
 rw [J.2 hnk];refine fN (by simp) (oF (f.ld rfl) (oF (f.ld rfl) (oF (f.ld rfl) ?_)));rw[show iW 3 1 3 (.I 0) [(0,.I x.a),(1,.I x.b),(2,.I x.c)]=some (.cells 3 1 true false (oJ [x.a,x.b,x.c]),λl=> .slice l 0 3) from rfl];refine zb4 [x.a,x.b,x.c] rfl t λw L v y z r2=>?_;have c2:=f.since z;refine ec r2.len ?_;have O:∀i r,([x.a,x.b,x.c]:List Nat)[i]? =some r->i<3:=λi r m=>by
  have:=(j6.1 m).1;simpa using this
 refine JS (λk M h'=>∃i,M=[.ptr l 0,v,.I ((3:Nat):Int),.I (i:Nat)]/\i+k=3/\h' = L/\∀j r,j<i->([x.a,x.b,x.c]:List Nat)[j]? =some r->pK (kK x.op) r j) ?_ (k:=3) ⟨0,rfl,rfl,rfl,by omega⟩;rintro k _ _ _ _ _ ⟨i,⟨⟩,P,rfl,m⟩;unfold A4;by_cases hi:i<3
 ·obtain ⟨r,d⟩:∃r,([x.a,x.b,x.c]:List Nat)[i]? =some r:=⟨_,hN (by simpa using hi)⟩
  let⟨R,S,_,p1,p2⟩:=r2.nat d .i64
  refine gJ (ec p1 (ec p2 (ec (gX _ _ _ _) ?_)));have e1:nr (.bool (decide (((r:Nat):Int)<0))) (oB (some (V.I r)) λA=>eh .geq 3 A (V.I 16))=some (.bool (decide (16<=r))):=by
   simp[fe,jt,jB];congr 2;rw[VC,Jz,xX,xX,xX];omega
  refine ec e1 ?_;have p:¬pK (kK x.op) r i->¬Bw n x:=λN B=>N (by
   match i,d with
   |0,d=>cases d;exact B.2.2.1
   |1,d=>cases d;exact B.2.2.2.1
   |2,d=>cases d;exact B.2.2.2.2)
  have q:=s1.trans z;by_cases s:16<=r
  ·rw[No s];refine BP (BP (BP (Z1 ?_)));exact ec rfl (gf (fX rfl (H w _ false q y (YE (p λh=>by unfold pK at h;omega)))))
  ·rw [JH s];refine gR (ec rfl (gR (ec pf (gR (ec (c2.ld rfl) (xu (zdJ ?_)))))));have e2:nr (.bool false) (oB (eh .geq 3 (V.I i) (V.I (kK x.op:Nat))) λC=>oB (some C) λD=>jm D (oB (some (V.I r)) λE=>eh .neq 3 E (V.I 0)))=some (.bool (decide (kK x.op<=i/\r≠0))):=by
    simp[fe,jt,wj,jU,jB];congr 2;rw[VC];simp
   refine ec e2 (gf ?_);by_cases hc:kK x.op<=i/\r≠0
   ·exact fX (by simpa using hc) (H w _ false q y (YE (p λh=>by unfold pK at h;omega)))
   ·refine fN (by simpa using hc) (fT ⟨k-1,by omega,i+1,rfl,by omega,rfl,λj r' T g=>?_⟩);by_cases e:j=i
    ·subst e;rw[d]at g;cases g;unfold pK;omega
    ·exact m j r' (by omega) g
 ·refine iY (H w _ true (s1.trans z) y ⟨λ_=>?_,λ_=>rfl⟩);exact⟨hop,hnk,m 0 _ (by omega) rfl,m 1 _ (by omega) rfl,m 2 _ (by omega) rfl⟩
theorem ZI{l:List Ni}(m:ej F h cs)(hl:iD eIn F h l v)(E:l.length<1000000)(H:∀F' h' b,Sn F h F' h'->ej F' h' cs->(b=true↔l.length<=32768/\∀x∈l,Bw l.length x)->Q (.bool b) h'):cP CS zm [v] h Q:=by
 refine N3 ?_;refine ec hl.len (ec (iT _ _ _ _) (gf ?_));by_cases G:32768<l.length
 ·exact fX (by simp;omega) (H F h false (.refl _ _) m (YE λe=>by omega))
 refine fN (by simp;omega) (ec hl.len ?_);refine Km (λk t h'=>∃F' i,t=[v,v,.I l.length,.I (i:Nat)]/\i+k=l.length/\Sn F h F' h'/\ej F' h' cs/\∀j x,j<i->l[j]? =some x->Bw l.length x) ?_ (k:=l.length) ⟨F,0,rfl,by omega,.refl _ _,m,by omega⟩;rintro k _ _ _ _ u ⟨w,i,⟨⟩,I,a,n,o⟩;unfold Ba;by_cases hi:i<l.length
 ·have c:=hN hi
  let⟨J,K,ws,_,z,A,d,_⟩:=(hl.since a).ix hi .i64
  generalize l[i]=x at*;have d:=d;subst d;refine gJ (ec z (ec A ?_));refine yR n rfl rfl rfl λL M lx B p C=>?_;refine ec (C.xk rfl) (ec hl.len (YN B λq D b s4 r s=>?_));refine qS ?_;by_cases hb1:Bw l.length x
  ·refine fX (s.2 hb1) (fT ⟨k-1,by omega,q,i+1,rfl,by omega,(a.trans p).trans s4,r,λj y f g=>?_⟩);by_cases e:j=i
   ·subst e;rw[c]at g;cases g;exact hb1
   ·exact o j y (by omega) g
  ·exact fN (λe=>hb1 (s.1 e)) (H q D false ((a.trans p).trans s4) r (YE λe=>hb1 (e.2 x (Ap c))))
 ·refine iY (H w u true a n ⟨λ_=>⟨by omega,λx c=>?_⟩,λ_=>rfl⟩)
  let⟨j,f⟩:=mG.1 c
  exact o j x (by have:=(j6.1 f).1;omega) f
def eY:ue Nat where
 sz:=1
 rel _ _ n cs:=cs=[.int .u8 (n:Nat)]/\n<256
 len h:=by obtain⟨rfl,_⟩:=h;rfl
 one h:=by obtain⟨rfl,_⟩:=h;rfl
 fm _ h:=h
 mono _ h:=h
theorem U4(n:Int):jo .u8 n=n % 256:=by
 rw[pD];simp only[IntKind.wrap,IntKind.signed];rfl
theorem wrap64(n:Int):jo .u64 n=(uN n:Nat):=by
 rw[pD];simp[IntKind.wrap,IntKind.signed,IntKind.bits];unfold uN;have:n % 2 ^ 64=n % 18446744073709551616:=rfl;omega
theorem zfs(h:n<18446744073709551616):jo .i64 (n:Int)=sN n:=by
 rw[pD];simp[IntKind.wrap,IntKind.signed,IntKind.bits,sN];split <;> split <;> omega
theorem zbe{k:Nat}(a:n<18446744073709551616)(b:k<8):eh .shr 63 (.int .u64 (n:Nat)) (.I ((8*k:Nat):Int))=some (.int .u64 ((n / 256 ^ k:Nat):Int)):=by
 show some (V.int .u64 (Int.fdiv (n:Int) (2 ^ (min (8*k) 64))))=_;rw[wBV (by omega),show((2:Int) ^ (8*k))=((256 ^ k:Nat):Int) by rw[Int.pow_mul,Int.natCast_pow];rfl,Int.fdiv_eq_ediv_of_nonneg _ (Int.natCast_nonneg _)];rfl
theorem Ri(F:Nat->Prop)(h:Hp):∀l,(∀x∈l,x<256)->rF eY F h (l.map λn=>V.int .u8 (n:Nat)) l
 |[],_=>trivial
 |n::l,hl=>⟨[.int .u8 (n:Nat)],_,rfl,⟨rfl,hl n (by simp)⟩,Ri F h l λx a=>hl x (by simp[a])⟩
theorem ej.zgQ(H:ej F h cs)(i:Nat)(hi:cs[i]? =some (fu E ty xs v)){jh NM:Nat}{ys:List α}{ws:List V}{ro:Bool}(d:rF E F h ws ys)(hl:ws.length=ys.length*E.sz)(h0:0<ys.length)(e:0<E.sz)(f:jh<=1000)(b:xs.length+ys.length<=10000000) :
  ∃a h',fg ty E.sz jh v (.slice h.next 0 ys.length) (h.new (.cells NM E.sz true ro ws))=some (.val a h')/\h.next+1<=h'.next/\ej F h' (cs.set i (fu E ty (xs++ys) a))/\Sn F h F h':=by
 let⟨g,s1⟩:=H.grow (mr.new h (.cells NM E.sz true ro ws))
 have j:lT (h.new (.cells NM E.sz true ro ws)) E.sz (.slice h.next 0 ys.length)=some (ys.length,ws):=by
  obtain⟨k,c⟩:∃k,ys.length=k+1:=⟨ys.length-1,by omega⟩
  rw[c];exact oI (by rw[hl,c])
 let⟨a,h',e1,e2,m,n⟩:=g.app i hi j (d.fm λl hl=>eE _ (H.fl l hl)) hl e f b
 exact⟨a,h',e1,e2,m,s1.trans n⟩
theorem Y3{l:List Ni}(R:ej F h cs)(hl:iD eIn F h l v)(S:l.length<=32768)(ok:∀x∈l,Bw l.length x)(H:∀F' h' w,Sn F h F' h'->ej F' h' cs->iD eY F' h' (Ah l) w->Q (.tuple [w,.I 0]) h'):cP CS xO [v] h Q:=by
 refine MM ?_;refine ZI R hl (by omega) λT h1 b s1 U W=>?_;rw[W.2 ⟨S,ok⟩];refine qS (fX rfl (ec (hl.since s1).len ?_));have e:∀i,(Ah (l.take i)).length<=400000:=λi=>by
  rw[Du];have:=List.length_take_le' i l;omega
 let J:Nat->LP:=λk o h'=>∃F' i w,o=[w,v,.I l.length,.I (i:Nat)]/\i+k=l.length/\Sn F h F' h'/\ej F' h' (fu eY 5 (Ah (l.take i)) w::cs)
 refine I4 J ?_ (k:=l.length) (⟨T,0,.ed,rfl,by omega,s1,U.add .nil λ_ h=>h⟩);intro k x4 _ _ _ X p;obtain⟨F2,i,_,⟨⟩,hk,q,r⟩:=p;unfold zz;by_cases hi:i<l.length
 ·have hx:=hN hi;have s:=JE hi;have t:=ok _ (AQ hi)
  let⟨l1,o1,ws,_,Y,Z,u,_⟩:=(hl.since q).ix hi .i64
  generalize l[i]=x at*;have u:=u;subst u;refine gJ (ec Y (ec Z ?_));refine yR r rfl rfl rfl λz A lx B C f=>?_
  let⟨hop,_,ha,hb',hc⟩:=t
  have I:=ha.1;have K:=hb'.1;have e0:jo .u8 ((x.op:Nat):Int)=((x.op % 256:Nat):Int):=by rw[U4];omega
  have e1:jo .u8 (((16*x.a+x.b:Nat):Int))=(((16*x.a+x.b) % 256:Nat):Int):=by rw[U4];omega
  have e2:jo .u8 ((x.c:Nat):Int)=((x.c % 256:Nat):Int):=by rw[U4];omega
  refine oF (f.ld rfl) (ec (by rw[gB,e0]) (oF (f.ld rfl) ?_));rw[Dk,gz,gK (by simp[mR];omega)];refine oF (f.ld rfl) ?_;rw[iU,gz,gK (by simp[mR];omega),show(16:Int)*(x.a:Nat)+(x.b:Nat)=((16*x.a+x.b:Nat):Int) by omega];refine ec (by rw[gB,e1]) (oF (f.ld rfl) (ec (by rw[gB,e2]) ?_));rw[show iW 5 1 3 (.int .u8 0) [(0,.int .u8 ((x.op % 256:Nat):Int)),(1,.int .u8 (((16*x.a+x.b) % 256:Nat):Int)),(2,.int .u8 ((x.c % 256:Nat):Int))]=some (.cells 5 1 true false ([x.op % 256,(16*x.a+x.b) % 256,x.c % 256].map λn=>V.int .u8 (n:Nat)),λl=> .slice l 0 3) from rfl,fH];have D:∀y∈[x.op % 256,(16*x.a+x.b) % 256,x.c % 256],y<256:=λy L=>by
   simp[yt,wBp,or_false]at L;rcases L with rfl|rfl|rfl <;> exact Nat.mod_lt _ (by decide)
  obtain⟨w4,h4,e4,_,H4,s4⟩:=B.zgQ 0 rfl (jh:=1) (Ri z A _ D) (by simp[eY]) (by simp) (by decide) (by decide) (by have:=e i;simp;omega);rw[show fg 5 1 1 x4 (.slice A.next 0 3) (A.new (.cells 5 1 true false ([x.op % 256,(16*x.a+x.b) % 256,x.c % 256].map λn=>V.int .u8 (n:Nat))))=_ from e4,ef]
  obtain ⟨E,d⟩:∃E,E=λk o h'=>∃F' j w,o=[w,.ptr lx 0,.I (j:Nat),v,.I l.length,.I i]/\j+k=8/\Sn z h4 F' h'/\
    ej F' h' (fu eY 5 (Ah (l.take i)++([x.op % 256,(16*x.a+x.b) % 256,x.c % 256]++(List.range j).map (Cz (uN x.n)))) w::cs):=⟨_,rfl⟩
  refine IW E ?_ (k:=8) (by rw[d];exact⟨z,0,w4,rfl,by omega,.refl _ _,by simpa using H4⟩);intro k1 g _ _ _ _ _ M m;rw[d]at m;obtain⟨N,j,_,⟨⟩,aa,G,O⟩:=m;have c5:=(f.since s4).since G;unfold zX;by_cases hj:j<8
  ·refine gJ (oF (c5.ld rfl) (ec (by rw[gB,wrap64]) ?_));rw[Dk,gz,gK (by simp[mR];omega),show(8:Int)*(j:Nat)=((8*j:Nat):Int) by omega];have eb:jo .u8 (((uN x.n / 256 ^ j:Nat):Int))=((Cz (uN x.n) j:Nat):Int):=by rw[U4];unfold Cz;omega
   refine ec (zbe (zea _) hj) (ec (by rw[gB,eb]) ?_);rw[show iW 5 1 1 (.int .u8 0) [(0,.int .u8 ((Cz (uN x.n) j:Nat):Int))]=some (.cells 5 1 true false [.int .u8 ((Cz (uN x.n) j:Nat):Int)],λl=> .slice l 0 1) from rfl,fH];obtain⟨w6,h6,e6,_,P,s6⟩:=O.tz 0 rfl (jh:=1) ⟨rfl,Nat.mod_lt _ (by decide)⟩ (by decide) (by decide) (by have:=e i;simp;omega);rw[show fg 5 1 1 g (.slice M.next 0 1) (M.new (.cells 5 1 true false [.int .u8 ((Cz (uN x.n) j:Nat):Int)]))=_ from e6,ef];refine fT ⟨k1-1,by omega,?_⟩;rw[d];refine⟨N,j+1,w6,rfl,by omega,G.trans s6,?_⟩;rw[wBn,UB,List.map_singleton];simp only[<-Bo];simp only[CW,<-Bo]at P;exact P
  ·refine iY (fT ⟨k-1,by omega,?_⟩);obtain rfl:j=8:=by omega
   refine ⟨N,i+1,g,rfl,by omega,((q.trans C).trans s4).trans G,?_⟩;have:Ah (l.take (i+1))=Ah (l.take i)++([x.op % 256,(16*x.a+x.b) % 256,x.c % 256]++(List.range 8).map (Cz (uN x.n))):=by
    rw[s];unfold Ah;rw[WQ,wBb];rfl
   rw[this];exact O
 ·refine iY ?_;obtain rfl:i=l.length:=by omega
  rw[QQ]at r
  let⟨B,C,r3⟩:=r.jG 0 rfl
  exact H _ X x4 (q.trans C) B.tail r3
theorem W9(l:List V):gj l=l.all V.one:=by
 induction l with
 |nil=>rfl
 |cons a l b=>rw[fh,b];rfl
theorem V0{l ws:List V}(h:gj l=true)(b:gj ws=true)(n m:Nat):gj (l.take n++ws++l.drop m)=true:=by
 rw[W9,Rh]at*;intro x a;rcases vU.1 a with a|a
 ·rcases vU.1 a with a|a
  ·exact h x (wBs a)
  ·exact b x a
 ·exact h x (List.mem_of_mem_drop a)
theorem ej.stP(H:ej F h cs)(i:Nat)(hi:cs[i]? =some (fu E ty xs v)){k j:Nat}(b:k<xs.length)(c:j<E.sz){y:α}{u:V}(d:u.one=true)(e:∀w,E.rel F h xs[k] w->E.rel F h y (w.set j u)) :
  ∃l o h',gQ E.sz v (.I k)=some (.ptr l o)/\gw 1 (.ptr l (o+j)) u h=some (.val .undef h')/\h.next<=h'.next/\ej F h' (cs.set i (fu E ty (xs.set k y) v))/\Sn F h F h':=by
 let⟨t,h',_,f,g,m,a⟩:=(H.row i hi).store b c d e
 exact⟨t,_,h',f,g,a.next,H.BV hi a m λ_ h=> .inl h⟩
theorem ej.ixO(H:ej F h cs)(i:Nat)(hi:cs[i]? =some (fu E ty xs v)){k:Nat}(a:k<xs.length)(f:IntKind) :
  ∃l o w,gQ E.sz v (.int f k)=some (.ptr l o)/\gi E.sz (.ptr l o) h=some (.agg w)/\E.rel F h xs[k] w/\∀j u,w[j]? =some u->eD (.ptr l (o+j)) h=some u:=by
 rcases H.row i hi with⟨_,rfl⟩|⟨t,ws,rfl,p,q,c,g,r⟩
 ·simp at a
 ·let ⟨w,d,m,e⟩:=g.get (hN a)
  refine⟨t,0+k*E.sz,w,vG _ _ _ _ _ _ a,?_,e,λj u b=>?_⟩
  ·rw[yp c,Gg,HP m,d];rfl
  ·rw[Tg c,Tn];have n:j<E.sz:=by rw[<-E.len e];exact(j6.1 b).1
   rw[<-d,List.getElem?_take_of_lt n,wBX]at b;rw[Gg];exact b
theorem ej.stE(H:ej F h cs)(i:Nat)(hi:cs[i]? =some (fu E ty xs v)){k:Nat}(a:k<xs.length){y:α}{ws:List V}(b:E.rel F h y ws) :
  ∃l o h',gQ E.sz v (.I k)=some (.ptr l o)/\gw E.sz (.ptr l o) (.agg ws) h=some (.val .undef h')/\h.next<=h'.next/\ej F h' (cs.set i (fu E ty (xs.set k y) v))/\Sn F h F h':=by
 rcases H.row i hi with⟨_,rfl⟩|⟨t,ds,rfl,c,d,g,f,j⟩
 ·simp at a
 ·let ⟨w,s,m,u⟩:=f.get (hN a)
  have hl:=E.len b
  let ⟨n,q⟩:=H.BV (p:=fu E ty (xs.set k y) (.slice t 0 xs.length)) hi (mr.put _ rfl c)
   (.inr ⟨t,_,by simp,c,d,fY _ c,rF.fm (λl r=>gq _ c λe=>d (e▸r)) (f.set a b),V0 j (E.one b) _ _⟩) λ_ h=> .inl h
  exact⟨t,k*E.sz,_,by rw[vG _ _ _ _ _ _ a,Gg],zeZ g hl m (E.one b),jj _,n,q⟩
theorem zew{k:Nat}(a:k<8):256 ^ (k+1)<=18446744073709551616:=by
 have:256 ^ (k+1)<=256 ^ 8:=Nat.pow_le_pow_right (by decide) (by omega);simpa using this
theorem iD.byte{F:Nat->Prop}{h:Hp}{xs:List Nat}(a:iD eY F h xs v){i x:Nat}(c:xs[i]? =some x)(b:IntKind):∃l o,F l/\gQ 1 v (.int b (i:Nat))=some (.ptr l o)/\eD (.ptr l o) h=some (.int .u8 (x:Nat))/\x<256:=by
 obtain⟨hi,rfl⟩:=j6.1 c
 let⟨l,o,w,d,f,g,e,j⟩:=a.Yk hi b rfl
 cases e;exact⟨l,o,d,f,g,j⟩
theorem zfJ{b:Nat}(a:b<256):eh .quo 5 (.int .u8 (b:Nat)) (.int .u8 16)=some (.int .u8 ((b / 16:Nat):Int)):=by
 show some (V.int .u8 (jo .u8 (Int.tdiv (b:Int) 16)))=_;rw[Int.tdiv_eq_ediv_of_nonneg (by omega),U4];congr 2;omega
theorem zft{b:Nat}:eh .rem 5 (.int .u8 (b:Nat)) (.int .u8 16)=some (.int .u8 ((b % 16:Nat):Int)):=by
 show some (V.int .u8 (Int.tmod (b:Int) 16))=_;rw[wBR (by omega)];rfl
variable{bs:List Nat}{v:V}
theorem Uw{i:Nat}(hi:i<bs.length / 11):(Jf bs)[i]? =some (Dj bs (11*i)):=by
 unfold Jf;rw[wA8,wBv hi];rfl
theorem PZ:(Jf bs).length=bs.length / 11:=by simp[Jf]
theorem Zh{i:Nat}(hi:i<bs.length / 11):(Jf bs).take (i+1)=(Jf bs).take i++[Dj bs (11*i)]:=by
 have hl:i<(Jf bs).length:=by rw[PZ];exact hi
 rw[JE hl];have:=Uw hi;rw[hN hl]at this;rw[Option.some.inj this]
theorem zfQ(hl:iD eY F h bs v):∀x∈bs,x<256:=λx a=>by
 let⟨i,hi⟩:=mG.1 a
 let⟨_,_,_,_,_,h⟩:=hl.byte hi .i64
 exact h
def yP(l:Nl)(en:Bool):Prop:=if l.kind=1 then 0<=l.n/\l.n<16 else if l.kind=2 then 0<=l.n/\l.n<400 else if l.kind=3 then en=false else l.kind=4/\en=true/\l.n=0
def ze6(f:Nf):Prop:=f.locals.length<=40/\f.stack.length<=60/\(∀x∈f.locals,yP x false)/\∀x∈f.stack,yP x false
def Y6(x:Nx):Prop:=1<=x.iG.length/\x.iG.length<=30/\∀f∈x.iG,ze6 f
def Tb(n:Nat)(x:Ni):Prop:=x.op=25\/x.op=26\/x.op=27->x.n<n
structure Vw (bs:List Nat) (ex:List Nx) (en:List Nl):Prop where
 dec:∃l,Qw bs l/\∀x∈l,Tb ex.length x
 en:∀x∈en,yP x true
 ex:∀x∈ex,Y6 x
abbrev ntC(f p:Int)(wc we wn:V):List V:=[.I f,.I p,wc,we,wn]
theorem Ml{α:Type}{l:List α}{P:α->Prop}(a:n=l.length)(h:∀j x,j<n->l[j]? =some x->P x):∀x∈l,P x:=λx b=>by
 let⟨j,hj⟩:=mG.1 b
 exact h j x (by rw[a];exact(j6.1 hj).1) hj
theorem CY{α:Type}{l:List α}{P:α->Prop}{i:Nat}{x:α}(b:l[i]? =some x)(hp:P x)(h:∀j x,j<i->l[j]? =some x->P x):∀j x,j<i+1->l[j]? =some x->P x:=λj y c a=>by
 by_cases e:j=i
 ·subst e;rw[b]at a;cases a;exact hp
 ·exact h j y (by omega) a
