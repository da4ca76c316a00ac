/- Parts. -/
import Derived.Test.YtcoaokdoecgcbaaGreatDoorM37
import Derived.Test.YtcoaokdoecgcbaaGreatDoorM36
set_option maxHeartbeats 4000000
namespace Go.Proofs.YtcoaokdoecgcbaaGreatDoor.Hx
open Un Dm
variable{α:Type}{xs:List α}{v:V}{E:tq α}{b ty i op:Nat}
theorem zae(h:Hp):∀op,1<=op->op<=27->∃s,s≠[]/\CS.K nh [.I (op:Nat)] h=some (.str s)
 |0,a,_=>by omega
 |1,_,_=>⟨_,by decide,rfl⟩
 |2,_,_=>⟨_,by decide,rfl⟩
 |3,_,_=>⟨_,by decide,rfl⟩
 |4,_,_=>⟨_,by decide,rfl⟩
 |5,_,_=>⟨_,by decide,rfl⟩
 |6,_,_=>⟨_,by decide,rfl⟩
 |7,_,_=>⟨_,by decide,rfl⟩
 |8,_,_=>⟨_,by decide,rfl⟩
 |9,_,_=>⟨_,by decide,rfl⟩
 |10,_,_=>⟨_,by decide,rfl⟩
 |11,_,_=>⟨_,by decide,rfl⟩
 |12,_,_=>⟨_,by decide,rfl⟩
 |13,_,_=>⟨_,by decide,rfl⟩
 |14,_,_=>⟨_,by decide,rfl⟩
 |15,_,_=>⟨_,by decide,rfl⟩
 |16,_,_=>⟨_,by decide,rfl⟩
 |17,_,_=>⟨_,by decide,rfl⟩
 |18,_,_=>⟨_,by decide,rfl⟩
 |19,_,_=>⟨_,by decide,rfl⟩
 |20,_,_=>⟨_,by decide,rfl⟩
 |21,_,_=>⟨_,by decide,rfl⟩
 |22,_,_=>⟨_,by decide,rfl⟩
 |23,_,_=>⟨_,by decide,rfl⟩
 |24,_,_=>⟨_,by decide,rfl⟩
 |25,_,_=>⟨_,by decide,rfl⟩
 |26,_,_=>⟨_,by decide,rfl⟩
 |27,_,_=>⟨_,by decide,rfl⟩
 |n+28,_,h=>by omega
theorem Xr(h:Hp):∀op,¬(1<=op/\op<=27)->CS.K nh [.I (op:Nat)] h=none
 |0,_=>rfl
 |n+28,_=>rfl
 |1,h=>by omega
 |2,h=>by omega
 |3,h=>by omega
 |4,h=>by omega
 |5,h=>by omega
 |6,h=>by omega
 |7,h=>by omega
 |8,h=>by omega
 |9,h=>by omega
 |10,h=>by omega
 |11,h=>by omega
 |12,h=>by omega
 |13,h=>by omega
 |14,h=>by omega
 |15,h=>by omega
 |16,h=>by omega
 |17,h=>by omega
 |18,h=>by omega
 |19,h=>by omega
 |20,h=>by omega
 |21,h=>by omega
 |22,h=>by omega
 |23,h=>by omega
 |24,h=>by omega
 |25,h=>by omega
 |26,h=>by omega
 |27,h=>by omega
section
variable{F F':Nat->Prop}{h h':Hp}{cs:List Pc}{Q:fj}
theorem VB(H:∀s,(s=[]↔¬(1<=op/\op<=27))->Q (.str s) h):cP CS nh [.I op] h Q:=by
 by_cases hop:1<=op/\op<=27
 ·let⟨fn,c,hf,hb⟩:=Wq
  let⟨s,hs,hk⟩:=zae h op hop.1 hop.2
  exact cP.known hf hb hk rfl rfl (H s ⟨λe=>(hs e).elim,λe=>(e hop).elim⟩)
 ·refine QJ (Xr h op hop) ?_;unfold Ip;refine ec (iF _ _ _ _) ?_;have e:mi (.bool (decide (((op:Nat):Int)<1))) (oB (some (V.I op)) λa=>ef .gtr 3 a (V.I 27))=some (.bool true):=by
   simp only[eQ,jr,jj];congr 2;rw[JD,yU,yU];omega
  exact ec e (fX (fO rfl (H [] ⟨λ_=>hop,λ_=>rfl⟩)))
theorem zey(H:Q (.I (kG op:Nat)) h):cP CS By [.I op] h Q:=by
 refine Q8 ?_;unfold kG at H;have f:∀b,(b=true↔op=1\/op=3\/op=4\/op=24\/op=25)->kI Q [.I op,.bool b] h:=λb c=>by
  refine Mz ?_;unfold CB;refine fX (iY (λe=>?_) λe=>?_)
  ·rw[if_pos (c.1 e)]at H;exact H
  rw [if_neg λh=>e (c.2 h)]at H;have d:∀b,(b=true↔op=2\/op=10\/op=11\/op=17\/op=18\/op=19\/op=21)->jq Q [.I op,.bool b] h:=λb c=>by
   refine MD ?_;unfold Cz;refine fX (iY (λe=>?_) λe=>?_)
   ·rw[if_pos (c.1 e)]at H;exact H
   rw [if_neg λh=>e (c.2 h)]at H;have a:∀b,(b=true↔(5<=op/\op<=9)\/(12<=op/\op<=16)\/op=20\/op=22)->gO Q [.bool b] h:=λb c=>by
    refine Lw ?_;unfold BM;refine fX (iY (λe=>?_) λe=>?_)
    ·rw[if_pos (c.1 e)]at H;exact H
    ·rw[if_neg λh=>e (c.2 h)]at H;exact H
   refine fM (fX (iY (λe=>a _ (by simp at e⊢;omega)) λe=>?_));refine fM (fX (iY (λe=>a _ (by simp at e⊢;omega)) λe=>?_));refine fM (fX (iY (λe=>a _ (by simp at e⊢;omega)) λe=>?_));refine fM (fX (iY (λe=>a _ (by simp at e⊢;omega)) λe=>?_));refine fM (fX (iY (λe=>a _ (by simp at e⊢;omega)) λe=>?_));refine fM (fX (iY (λe=>a _ (by simp at e⊢;omega)) λe=>?_));refine fM (fX (iY (λe=>a _ (by simp at e⊢;omega)) λe=>?_));refine fM (fX (iY (λe=>a _ (by simp at e⊢;omega)) λe=>?_));refine fM (fX (iY (λe=>a _ (by simp at e⊢;omega)) λe=>?_));refine fM (fX (iY (λe=>a _ (by simp at e⊢;omega)) λe=>?_));refine fM (fX (iY (λe=>a _ (by simp at e⊢;omega)) λe=>?_));exact fM (a _ (by simp at*;omega))
  refine fM (fX (iY (λe=>d _ (by simp at e⊢;omega)) λe=>?_));refine fM (fX (iY (λe=>d _ (by simp at e⊢;omega)) λe=>?_));refine fM (fX (iY (λe=>d _ (by simp at e⊢;omega)) λe=>?_));refine fM (fX (iY (λe=>d _ (by simp at e⊢;omega)) λe=>?_));refine fM (fX (iY (λe=>d _ (by simp at e⊢;omega)) λe=>?_));refine fM (fX (iY (λe=>d _ (by simp at e⊢;omega)) λe=>?_));exact fM (d _ (by simp at*;omega))
 refine fM (fX (iY (λe=>f _ (by simp at e⊢;omega)) λe=>?_));refine fM (fX (iY (λe=>f _ (by simp at e⊢;omega)) λe=>?_));refine fM (fX (iY (λe=>f _ (by simp at e⊢;omega)) λe=>?_));refine fM (fX (iY (λe=>f _ (by simp at e⊢;omega)) λe=>?_));exact fM (f _ (by simp at*;omega))
theorem Q5{C:mh}{f:Nat}{a:List V}{h:Hp}{K:fj}(H:K .undef h):oP (gD false (.bool true)) λb=>oP (gC b (some (f,a))) λy=>zL C y h K:=H
theorem V5{b:Prop}(h:¬b):(false=true↔b):=by simp_all
theorem tru{b:Prop}(h:b):(true=true↔b):=by simp_all
theorem zeu{a b c:Int}{t:Nat}:iM (.bool (decide (a<=b))) (oB (some (V.I b)) λv=>ef .leq t v (V.I c))=some (.bool (decide (a<=b/\b<=c))):=by
 simp_all
theorem zep{a b c:Int}{t:Nat}:iM (.bool (decide (a<=b))) (oB (some (V.I b)) λv=>ef .lss t v (V.I c))=some (.bool (decide (a<=b/\b<c))):=by
 simp_all
theorem zad{n:Nat}{x:Int}(H:∀b,(b=true↔rS op x n)->Q (.bool b) h):cP CS yr [.I op,.I x,.I n] h Q:=by
 refine Ob ?_;unfold rS at H;have f:∀b,(b=true↔op=1\/op=19\/op=21)->mr Q [.I x,.I n,.I op,.bool b] h:=λb a=>by
  refine Kh ?_;unfold Af;refine fX (iY (λe=>?_) λe=>?_)
  ·grind
  rw [if_neg (by simp_all)]at H;have g:∀b,(b=true↔op=3\/op=4)->pg Q [.I x,.I n,.I op,.bool b] h:=λb a=>by
   refine Kw ?_;unfold Ar;refine fX (iY (λe=>?_) λe=>?_)
   ·rw[if_pos (a.1 e)]at H;exact ec (by rfl) (ec zep (H _ decide_eq_true_iff))
   rw [if_neg (by simp_all)]at H;have c:∀b,(b=true↔op=23\/op=24)->ot Q [.I x,.I n,.I op,.bool b] h:=λb a=>by
    refine IX ?_;unfold yO;refine fX (iY (λe=>?_) λe=>?_)
    ·rw[if_pos (a.1 e)]at H;refine ec (by rfl) (ec ?_ (H _ decide_eq_true_iff))
     simp_all
    rw [if_neg (by simp_all)]at H;have d:∀b,(b=true↔op=25\/op=26\/op=27)->lS Q [.I x,.bool b] h:=λb a=>by
     refine Ia ?_;unfold yW;refine fX (iY (λe=>?_) λe=>?_)
     ·rw[if_pos (a.1 e)]at H;exact ec (by rfl) (ec zeu (H _ decide_eq_true_iff))
     ·rw[if_neg (by simp_all)]at H;exact fM (H _ decide_eq_true_iff)
    refine fM (fX (iY (by grind) λe=>?_));refine fM (fX (iY (by grind) λe=>?_));exact fM (d _ (by simp at*;omega))
   refine fM (fX (iY (by grind) λe=>?_));exact fM (c _ (by simp at*;omega))
  refine fM (fX (iY (by grind) λe=>?_));exact fM (g _ (by simp at*;omega))
 refine fM (fX (iY (by grind) λe=>?_));refine fM (fX (iY (by grind) λe=>?_));exact fM (f _ (by simp at*;omega))
theorem Z6{x:Ni}{n:Nat}(G:ej F h cs)(H:∀F' h' b,Sn F h F' h'->ej F' h' cs->(b=true↔AH n x)->Q (.bool b) h'):cP CS zO [.agg (JM x),.I n] h Q:=by
 refine OR ?_;refine tR G rfl λD E l p s1 f=>?_;refine oF (f.ld rfl) (VB λnm q=>?_);refine ec (by rfl) ?_;have g:(nm == ([]:List UInt8))=decide (¬(1<=x.op/\x.op<=27)):=by
  rw[WK,Ey,yU];exact q
 rw[g];by_cases hop:1<=x.op/\x.op<=27;rotate_left
 ·rw[Ov hop];refine tX (tX (tX (tX (tX ?_))));refine Q5 ?_;exact ec rfl (fX (fO rfl (H D E false s1 p (V5 λe=>hop e.1))))
 rw[LI (by omega)];refine fY (ec pf (fY (ec (f.ld rfl) (fY (ec pf (fY (ec (f.ld rfl) (fY (ec rfl ?_)))))))));refine qC (zad λb I=>?_);refine ec (by rfl) (fX ?_);by_cases hnk:rS x.op x.n n;rotate_left
 ·have:b=false:=by cases b;·rfl
                   ·simp_all
  rw[this];exact fO rfl (H D E false s1 p (V5 λe=>hnk e.2.1))
 rw[I.2 hnk];refine fH (by simp) (oF (f.ld rfl) (oF (f.ld rfl) (oF (f.ld rfl) ?_)));rw[show iO 3 1 3 (.I 0) [(0,.I x.a),(1,.I x.b),(2,.I x.c)]=some (.cells 3 1 true false (oY [x.a,x.b,x.c]),λl=> .slice l 0 3) from rfl];refine za1 [x.a,x.b,x.c] rfl p λs J v t u r2=>?_;have c2:=f.since u;refine ec r2.len ?_;have O:∀i r,([x.a,x.b,x.c]:List Nat)[i]? =some r->i<3:=by grind
 refine KO (λk K h'=>∃i,K=[.ptr l 0,v,.I ((3:Nat):Int),.I (i:Nat)]/\i+k=3/\h' = J/\∀j r,j<i->([x.a,x.b,x.c]:List Nat)[j]? =some r->pI (kG x.op) r j) ?_ (k:=3) (by grind);rintro k _ _ _ _ _ ⟨i,⟨⟩,P,rfl,w⟩;unfold A0;by_cases hi:i<3
 ·obtain ⟨r,d⟩:∃r,([x.a,x.b,x.c]:List Nat)[i]? =some r:=by simp_all
  let⟨R,S,_,p1,p2⟩:=r2.nat d .i64
  refine gy (ec p1 (ec p2 (ec (by rfl) ?_)));have e1:mi (.bool (decide (((r:Nat):Int)<0))) (oB (some (V.I r)) λy=>ef .geq 3 y (V.I 16))=some (.bool (decide (16<=r))):=by
   simp[eQ,jK,jj];congr 2;rw[WK,JD,yU,yU,yU];omega
  refine ec e1 ?_;have L:¬pI (kG x.op) r i->¬AH n x:=λM z=>M (by
   match i,d with
   |0,d=>cases d;exact z.2.2.1
   |1,d=>cases d;exact z.2.2.2.1
   |2,d=>cases d;exact z.2.2.2.2)
  have m:=s1.trans u;by_cases o:16<=r
  ·rw[Ov o];refine tX (tX (tX (Q5 ?_)));exact ec rfl (fX (fO rfl (H s _ false m t (V5 (by grind[pI])))))
  ·rw [LI o];refine fY (ec rfl (fY (ec pf (fY (ec (c2.ld rfl) (qC (zey ?_)))))));have e2:mi (.bool false) (oB (ef .geq 3 (V.I i) (V.I (kG x.op:Nat))) λA=>oB (some A) λB=>iM B (oB (some (V.I r)) λC=>ef .neq 3 C (V.I 0)))=some (.bool (decide (kG x.op<=i/\r≠0))):=by
    simp[eQ,jK,rZ,iT,jj];congr 2;rw[WK];simp
   refine ec e2 (fX ?_);by_cases hc:kG x.op<=i/\r≠0
   ·exact fO (by simp_all) (H s _ false m t (by simp_all[V5,pI]))
   ·refine fH (by simp_all) (fG ⟨k-1,by omega,i+1,rfl,by omega,rfl,λj r' T N=>?_⟩)
    grind[pI]
 ·refine iA (H s _ true (s1.trans u) t ⟨λ_=>?_,λ_=>rfl⟩);exact⟨hop,hnk,w 0 _ (by omega) rfl,w 1 _ (by omega) rfl,w 2 _ (by omega) rfl⟩
theorem SD{l:List Ni}(d:ej F h cs)(hl:hD Zm F h l v)(A:l.length<1000000)(H:∀F' h' b,Sn F h F' h'->ej F' h' cs->(b=true↔l.length<=32768/\∀x∈l,AH l.length x)->Q (.bool b) h'):cP CS vw [v] h Q:=by
 refine OP ?_;refine ec hl.len (ec (by rfl) (fX ?_));by_cases B:32768<l.length
 ·exact fO (by simp;omega) (H F h false (.refl _ _) d (by grind))
 refine fH (by simp;omega) (ec hl.len ?_);refine Lt (λk n h'=>∃F' i,n=[v,v,.I l.length,.I (i:Nat)]/\i+k=l.length/\Sn F h F' h'/\ej F' h' cs/\∀j x,j<i->l[j]? =some x->AH l.length x) ?_ (k:=l.length) ⟨F,0,rfl,by omega,.refl _ _,d,by omega⟩;rintro k _ _ _ _ o ⟨p,i,⟨⟩,C,a,e,D⟩;unfold BF;by_cases hi:i<l.length
 ·have q:=hZ hi
  let⟨E,G,ws,_,r,s,c,_⟩:=(hl.since a).ix hi .i64
  generalize l[i]=x at*;have c:=c;subst c;refine gy (ec r (ec s ?_));refine ud e rfl rfl rfl λI J lx t f u=>?_;refine ec (u.tj rfl) (ec hl.len (Z6 t λg w b s4 m z=>?_));refine py ?_;by_cases hb1:AH l.length x
  ·refine fO (z.2 hb1) (fG ⟨k-1,by omega,g,i+1,rfl,by omega,(a.trans f).trans s4,m,λj y K L=>?_⟩)
   grind
  ·exact fH (by simp_all) (H g w false ((a.trans f).trans s4) m (by grind))
 ·refine iA (H p o true a e ⟨λ_=>⟨by omega,λx q=>?_⟩,λ_=>rfl⟩)
  grind[mz,ke]
def eY:tq Nat where
 sz:=1
 rel _ _ n cs:=cs=[.int .u8 (n:Nat)]/\n<256
 len h:=by simp_all
 one h:=by obtain⟨rfl,_⟩:=h;rfl
 fy _ h:=h
 mono _ h:=h
theorem Wb(n:Int):jo .u8 n=n % 256:=by
 rw[mU];rfl
theorem wrap64(n:Int):jo .u64 n=(uN n:Nat):=by
 rw[mU];simp[IntKind.wrap,IntKind.signed,IntKind.bits];unfold uN;omega
theorem zfm{n:Nat}(h:n<18446744073709551616):jo .i64 (n:Int)=sN n:=by
 grind[mU,IntKind.wrap,IntKind.signed,IntKind.bits,sN]
theorem zcx{n k:Nat}(a:n<18446744073709551616)(b:k<8):ef .shr 63 (.int .u64 (n:Nat)) (.I ((8*k:Nat):Int))=some (.int .u64 ((n / 256 ^ k:Nat):Int)):=by
 show some (V.int .u64 (Int.fdiv (n:Int) (2 ^ (min (8*k) 64))))=_
 grind[wBU,Int,Nat,Int.pow_mul,Int.natCast_pow,Int.fdiv_eq_ediv_of_nonneg,Int.natCast_nonneg]
theorem SH(F:Nat->Prop)(h:Hp):∀l,(∀x∈l,x<256)->rL eY F h (l.map λn=>V.int .u8 (n:Nat)) l
 |[],_=>trivial
 |n::l,hl=>⟨[.int .u8 (n:Nat)],_,rfl,⟨rfl,hl n (by simp)⟩,SH F h l (by simp_all)⟩
theorem ej.zh8(H:ej F h cs)(i:Nat)(hi:cs[i]? =some (ft E ty xs v)){iU MB:Nat}{ys:List α}{ws:List V}{ro:Bool}(c:rL E F h ws ys)(hl:ws.length=ys.length*E.sz)(h0:0<ys.length)(d:0<E.sz)(e:iU<=1000)(b:xs.length+ys.length<=10000000) :
  ∃a h',fg ty E.sz iU v (.slice h.next 0 ys.length) (h.new (.cells MB E.sz true ro ws))=some (.val a h')/\h.next+1<=h'.next/\ej F h' (cs.set i (ft E ty (xs++ys) a))/\Sn F h F h':=by
 let⟨f,s1⟩:=H.grow (uE.new h (.cells MB E.sz true ro ws))
 have g:mV (h.new (.cells MB E.sz true ro ws)) E.sz (.slice h.next 0 ys.length)=some (ys.length,ws):=by
  obtain⟨k,j⟩:∃k,ys.length=k+1:=by simp_all
  rw[j];exact by grind[rP]
 let⟨a,h',e1,e2,m,n⟩:=f.app i hi g (c.fy λl hl=>fi _ (H.fl l hl)) hl d e b
 exact⟨a,h',e1,e2,m,s1.trans n⟩
theorem zaB{l:List Ni}(N:ej F h cs)(hl:hD Zm F h l v)(O:l.length<=32768)(ok:∀x∈l,AH l.length x)(H:∀F' h' w,Sn F h F' h'->ej F' h' cs->hD eY F' h' (xL l) w->Q (.tuple [w,.I 0]) h'):cP CS yq [v] h Q:=by
 refine Nt ?_;refine SD N hl (by omega) λP h1 b s1 R S=>?_;rw[S.2 ⟨O,ok⟩];refine py (fO rfl (ec (hl.since s1).len ?_));have T:∀i,(xL (l.take i)).length<=400000:=by grind[IQ,List.length_take_le']
 let J:Nat->LP:=λk m h'=>∃F' i w,m=[w,v,.I l.length,.I (i:Nat)]/\i+k=l.length/\Sn F h F' h'/\ej F' h' (ft eY 5 (xL (l.take i)) w::cs)
 refine JO J ?_ (k:=l.length) (⟨P,0,.ed,rfl,by omega,s1,R.add .nil λ_ h=>h⟩);intro k x4 _ _ _ U o;obtain⟨F2,i,_,⟨⟩,hk,p,q⟩:=o;unfold An;by_cases hi:i<l.length
 ·have hx:=hZ hi;have r:=Ho hi;have s:=ok _ (AL hi)
  let⟨l1,o1,ws,_,W,X,t,_⟩:=(hl.since p).ix hi .i64
  generalize l[i]=x at*;have t:=t;subst t;refine gy (ec W (ec X ?_));refine ud q rfl rfl rfl λu z lx A B e=>?_
  let⟨hop,_,ha,hb',hc⟩:=s
  have G:=ha.1;have I:=hb'.1;have e0:jo .u8 ((x.op:Nat):Int)=((x.op % 256:Nat):Int):=by rw[Wb];omega
  have e1:jo .u8 (((16*x.a+x.b:Nat):Int))=(((16*x.a+x.b) % 256:Nat):Int):=by rw[Wb];omega
  have e2:jo .u8 ((x.c:Nat):Int)=((x.c % 256:Nat):Int):=by rw[Wb];omega
  refine oF (e.ld rfl) (ec (by rw[gg,e0]) (oF (e.ld rfl) ?_));rw[Bn,gQ,gG (by grind[ml])];refine oF (e.ld rfl) ?_;rw[jf,gQ,gG (by grind[ml]),show(16:Int)*(x.a:Nat)+(x.b:Nat)=((16*x.a+x.b:Nat):Int) by omega];refine ec (by rw[gg,e1]) (oF (e.ld rfl) (ec (by rw[gg,e2]) ?_));rw[show iO 5 1 3 (.int .u8 0) [(0,.int .u8 ((x.op % 256:Nat):Int)),(1,.int .u8 (((16*x.a+x.b) % 256:Nat):Int)),(2,.int .u8 ((x.c % 256:Nat):Int))]=some (.cells 5 1 true false ([x.op % 256,(16*x.a+x.b) % 256,x.c % 256].map λn=>V.int .u8 (n:Nat)),λl=> .slice l 0 3) from rfl,fK];have C:∀y∈[x.op % 256,(16*x.a+x.b) % 256,x.c % 256],y<256:=by grind
  obtain⟨Y,Z,e4,_,H4,s4⟩:=A.zh8 0 rfl (iU:=1) (SH u z _ C) (by simp[eY]) (by simp) (by decide) (by decide) (by grind);rw[show fg 5 1 1 x4 (.slice z.next 0 3) (z.new (.cells 5 1 true false ([x.op % 256,(16*x.a+x.b) % 256,x.c % 256].map λn=>V.int .u8 (n:Nat))))=_ from e4,eh]
  obtain ⟨D,d⟩:∃D,D=λk m h'=>∃F' j w,m=[w,.ptr lx 0,.I (j:Nat),v,.I l.length,.I i]/\j+k=8/\Sn u Z F' h'/\
    ej F' h' (ft eY 5 (xL (l.take i)++([x.op % 256,(16*x.a+x.b) % 256,x.c % 256]++(List.range j).map (CM (uN x.n)))) w::cs):=⟨_,rfl⟩
  refine Kv D ?_ (k:=8) (by rw[d];exact⟨u,0,Y,rfl,by omega,.refl _ _,by simp_all⟩);intro k1 f _ _ _ _ _ K g;rw[d]at g;obtain⟨L,j,_,⟨⟩,aa,E,H5⟩:=g;have c5:=(e.since s4).since E;unfold Ad;by_cases hj:j<8
  ·refine gy (oF (c5.ld rfl) (ec (by rw[gg,wrap64]) ?_));rw[Bn,gQ,gG (by grind[ml]),show(8:Int)*(j:Nat)=((8*j:Nat):Int) by omega];have eb:jo .u8 (((uN x.n / 256 ^ j:Nat):Int))=((CM (uN x.n) j:Nat):Int):=by rw[Wb];unfold CM;omega
   refine ec (zcx (zfe _) hj) (ec (by rw[gg,eb]) ?_);rw[show iO 5 1 1 (.int .u8 0) [(0,.int .u8 ((CM (uN x.n) j:Nat):Int))]=some (.cells 5 1 true false [.int .u8 ((CM (uN x.n) j:Nat):Int)],λl=> .slice l 0 1) from rfl,fK];obtain⟨w6,h6,e6,_,M,s6⟩:=H5.pT 0 rfl (iU:=1) ⟨rfl,Nat.mod_lt _ (by decide)⟩ (by decide) (by decide) (by grind);rw[show fg 5 1 1 f (.slice K.next 0 1) (K.new (.cells 5 1 true false [.int .u8 ((CM (uN x.n) j:Nat):Int)]))=_ from e6,eh];refine fG ⟨k1-1,by omega,?_⟩;rw[d];refine⟨L,j+1,w6,rfl,by omega,E.trans s6,?_⟩;rw[wBl,SL,List.map_singleton];simp only[<-Cy];simp only[DR,<-Cy]at M;exact M
  ·refine iA (fG ⟨k-1,by omega,?_⟩);obtain rfl:j=8:=by omega
   refine ⟨L,i+1,f,rfl,by omega,((p.trans B).trans s4).trans E,?_⟩;have:xL (l.take (i+1))=xL (l.take i)++([x.op % 256,(16*x.a+x.b) % 256,x.c % 256]++(List.range 8).map (CM (uN x.n))):=by
    rw[r];unfold xL;rw[wA2,wBm];rfl
   simp_all
 ·refine iA ?_;obtain rfl:i=l.length:=by omega
  rw[PG]at q
  let⟨A,B,r3⟩:=q.hY 0 rfl
  exact H _ U x4 (p.trans B) A.tail r3
theorem Xl(l:List V):gi l=l.all V.one:=by
 induction l with
 |nil=>rfl
 |cons a l b=>rw[fe,b];rfl
theorem Yk{l ws:List V}(h:gi l=true)(b:gi ws=true)(n m:Nat):gi (l.take n++ws++l.drop m)=true:=by
 rw[Xl,Sx]at*;intro x a;rcases yX.1 a with a|a
 ·rcases yX.1 a with a|a
  ·exact h x (wBq a)
  ·exact b x a
 ·exact h x (List.mem_of_mem_drop a)
theorem ej.stP(H:ej F h cs)(i:Nat)(hi:cs[i]? =some (ft E ty xs v)){k j:Nat}(b:k<xs.length)(c:j<E.sz){y:α}{u:V}(d:u.one=true)(e:∀w,E.rel F h xs[k] w->E.rel F h y (w.set j u)) :
  ∃l o h',gM E.sz v (.I k)=some (.ptr l o)/\gj 1 (.ptr l (o+j)) u h=some (.val .undef h')/\h.next<=h'.next/\ej F h' (cs.set i (ft E ty (xs.set k y) v))/\Sn F h F h':=by
 let⟨t,h',_,f,g,m,a⟩:=(H.row i hi).store b c d e
 exact⟨t,_,h',f,g,a.next,H.z8 hi a m λ_ h=> .inl h⟩
theorem ej.ixO(H:ej F h cs)(i:Nat)(hi:cs[i]? =some (ft E ty xs v)){k:Nat}(a:k<xs.length)(f:IntKind) :
  ∃l o w,gM E.sz v (.int f k)=some (.ptr l o)/\fZ E.sz (.ptr l o) h=some (.agg w)/\E.rel F h xs[k] w/\∀j u,w[j]? =some u->ez (.ptr l (o+j)) h=some u:=by
 rcases H.row i hi with⟨_,rfl⟩|⟨t,ws,rfl,p,q,c,g,r⟩
 ·simp at a
 ·let ⟨w,d,m,e⟩:=g.get (hZ a)
  refine⟨t,0+k*E.sz,w,wz _ _ _ _ _ _ a,?_,e,λj u b=>?_⟩
  ·rw[zy c,Jn,I4 m,d];rfl
  ·rw[S7 c,Uj];have n:j<E.sz:=by rw[<-E.len e];exact(ke.1 b).1
   rw[<-d,List.getElem?_take_of_lt n,wBc]at b;rw[Jn];exact b
theorem ej.stE(H:ej F h cs)(i:Nat)(hi:cs[i]? =some (ft E ty xs v)){k:Nat}(a:k<xs.length){y:α}{ws:List V}(b:E.rel F h y ws) :
  ∃l o h',gM E.sz v (.I k)=some (.ptr l o)/\gj E.sz (.ptr l o) (.agg ws) h=some (.val .undef h')/\h.next<=h'.next/\ej F h' (cs.set i (ft E ty (xs.set k y) v))/\Sn F h F h':=by
 rcases H.row i hi with⟨_,rfl⟩|⟨t,ds,rfl,c,d,g,f,j⟩
 ·simp at a
 ·let ⟨w,s,m,u⟩:=f.get (hZ a)
  have hl:=E.len b
  let ⟨n,q⟩:=H.z8 (p:=ft E ty (xs.set k y) (.slice t 0 xs.length)) hi (uE.put _ rfl c)
   (.inr ⟨t,_,by simp,c,d,iB _ c,rL.fy (λl r=>lE _ c λe=>d (e▸r)) (f.set a b),Yk j (E.one b) _ _⟩) λ_ h=> .inl h
  exact⟨t,k*E.sz,_,by rw[wz _ _ _ _ _ _ a,Jn],zfS g hl m (E.one b),jJ _,n,q⟩
theorem XW{k:Nat}(a:k<8):256 ^ (k+1)<=18446744073709551616:=by
 have:256 ^ (k+1)<=256 ^ 8:=Nat.pow_le_pow_right (by decide) (by omega);simpa using this
theorem zda{k:Nat}(a:b<256)(c:k<8):ef .shl 63 (.int .u64 (b:Nat)) (.I ((8*k:Nat):Int))=some (.int .u64 ((b*256 ^ k:Nat):Int)):=by
 have d:=XW c;have e:b*256 ^ k+256 ^ k<=256*256 ^ k:=by rw[<-Nat.succ_mul];exact wBJ _ a
 rw[Nat.pow_succ,wB1]at d;show some (V.int .u64 (IntKind.wrap .u64 ((b:Int)*2 ^ (min (8*k) 64))))=_;rw[wBU (by omega),<-mU,show((2:Int) ^ (8*k))=((256 ^ k:Nat):Int) by rw[Int.pow_mul,Int.natCast_pow];rfl,wrap64];congr 2;unfold uN;omega
theorem zed{n k:Nat}(c:n<256 ^ k)(d:b<256)(f:k<8):ef .or 63 (.int .u64 (n:Nat)) (.int .u64 ((b*256 ^ k:Nat):Int))=some (.int .u64 ((n+b*256 ^ k:Nat):Int)):=by
 have g:=XW f;have h:b*256 ^ k+256 ^ k<=256*256 ^ k:=by rw[<-Nat.succ_mul];exact wBJ _ d
 rw[Nat.pow_succ,wB1]at g;show some (V.int .u64 (IntKind.wrap .u64 (((BitVec.ofInt 64 (n:Int) |||BitVec.ofInt 64 ((b*256 ^ k:Nat):Int)).toNat:Nat):Int)))=_;rw[<-mU,wrap64,BitVec.toNat_or,BitVec.ofInt_natCast,BitVec.ofInt_natCast,BitVec.toNat_ofNat,BitVec.toNat_ofNat,Nat.mod_eq_of_lt (by omega),Nat.mod_eq_of_lt (by omega)];have e:(256:Nat) ^ k=2 ^ (8*k):=by rw[Nat.pow_mul]
 have a:=Nat.shiftLeft_add_eq_or_of_lt (by rw[<-e];exact c) b;rw[Nat.shiftLeft_eq,<-e]at a;rw[Nat.or_comm,<-a];congr 2;unfold uN;omega
theorem hD.byte{F:Nat->Prop}{h:Hp}{xs:List Nat}(a:hD eY F h xs v){i x:Nat}(c:xs[i]? =some x)(b:IntKind):∃l o,F l/\gM 1 v (.int b (i:Nat))=some (.ptr l o)/\ez (.ptr l o) h=some (.int .u8 (x:Nat))/\x<256:=by
 obtain⟨hi,rfl⟩:=ke.1 c
 let⟨l,o,w,d,f,g,e,j⟩:=a.Yt hi b rfl
 cases e;exact⟨l,o,d,f,g,j⟩
theorem zfi(a:b<256):ef .quo 5 (.int .u8 (b:Nat)) (.int .u8 16)=some (.int .u8 ((b / 16:Nat):Int)):=by
 show some (V.int .u8 (jo .u8 (Int.tdiv (b:Int) 16)))=_;rw[Int.tdiv_eq_ediv_of_nonneg (by omega),Wb];congr 2;omega
theorem zfo:ef .rem 5 (.int .u8 (b:Nat)) (.int .u8 16)=some (.int .u8 ((b % 16:Nat):Int)):=by
 show some (V.int .u8 (Int.tmod (b:Int) 16))=_;rw[wBQ (by omega)];rfl
variable{bs:List Nat}{v:V}
theorem PX(hi:i<bs.length / 11):(Bo bs)[i]? =some (rB bs (11*i)):=by
 unfold Bo;rw[wBH,wBs hi];rfl
theorem HU:(Bo bs).length=bs.length / 11:=by simp[Bo]
theorem Sw(hi:i<bs.length / 11):(Bo bs).take (i+1)=(Bo bs).take i++[rB bs (11*i)]:=by
 have hl:i<(Bo bs).length:=by rw[HU];exact hi
 rw[Ho hl];have:=PX hi;rw[hZ hl]at this;rw[Option.some.inj this]
theorem zeX(hl:hD eY F h bs v):∀x∈bs,x<256:=λx a=>by
 let⟨i,hi⟩:=mz.1 a
 let⟨_,_,_,_,_,h⟩:=hl.byte hi .i64
 exact h
theorem Xe(Z:ej F h cs)(hl:hD eY F h bs v)(hn:bs.length<=2000000)(HY:∀F' h' w l,Sn F h F' h'->ej F' h' cs->Mq bs l->hD Zm F' h' l w->Q (.tuple [w,.I 0]) h')
  (O:∀F' h' e,Sn F h F' h'->ej F' h' cs->e≠0->(∀l,¬Mq bs l)->Q (.tuple [.ed,.I e]) h'):cP CS yB [v] h Q:=by
 refine NB ?_;have g:ef .rem 3 (.I bs.length) (.I 11)=some (.I ((bs.length % 11:Nat):Int)):=by
  show some (V.I (Int.tmod (bs.length:Int) 11))=_;rw[wBQ (by omega)];rfl
 refine ec hl.len (ec g (xh ?_));by_cases p:bs.length % 11=0;rotate_left
 ·exact kw (O F h 7 (.refl _ _) Z (by decide) λl hd=>p hd.len)
 refine io ?_;have r:=zeX hl;obtain⟨J,P⟩:∃J:Nat->LP,J=λn R h'=>∃F' i D x4,R=[D,x4]/\i+n=bs.length / 11/\Sn F h F' h'/\ej F' h' (ft Zm vE ((Bo bs).take i) x4::cs)/\hD eY F' h' (bs.drop (11*i)) D/\∀j,j<i->1<=(rB bs (11*j)).op/\(rB bs (11*j)).op<=27:=⟨_,rfl⟩
 refine Ki J ?_ (k:=bs.length / 11) (by rw[P];exact⟨F,0,_,_,rfl,by omega,.refl _ _,Z.add .nil λ_ h=>h,by simpa using hl,by omega⟩);intro n D x4 s t;rw[P]at t;obtain⟨E,i,_,_,⟨⟩,aa,s1,G,r1,S⟩:=t;unfold Az;refine ec r1.len (ec (jr _ _ _ _) (fX ?_));rw[wBn];by_cases hi:i<bs.length / 11
 ·refine fO (by simp;omega) ?_;have H:∀j,j<11->(bs.drop (11*i))[j]? =some (bs.getD (11*i+j) 0):=λj T=>by
   rw[wBc,IY,hZ (by omega)];rfl
  let⟨l0,o0,f0,p0,q0,b0⟩:=r1.byte (H 0 (by omega)) .i64
  let⟨l1,o1,f1,p1,I,b1⟩:=r1.byte (H 1 (by omega)) .i64
  let⟨l2,o2,f2,p2,q2,b2⟩:=r1.byte (H 2 (by omega)) .i64
  have K:∀{n:Nat},n<1000->jo .i64 ((n:Nat):Int)=(n:Nat):=λh=>AV (by omega);refine ec p0 (ec q0 (ec (by rw[gg,K (by omega)]) ?_));refine ec p1 (ec I (ec (zfi b1) (ec (by rw[gg,K (by omega)]) ?_)));refine ec p1 (ec I (ec zfo (ec (by rw[gg,K (by omega)]) ?_)));refine ec p2 (ec q2 (ec (by rw[gg,K (by omega)]) (ec (show _=some (V.agg (JM {rB bs (11*i)with n:=0})) from rfl) ?_)));rw[gI]
  let⟨y,L⟩:=G.xC vE [.I 0,.I 0,.I 0,.I 0,.I 0]
  let⟨z,e3,n3,f,A⟩:=y.Tw 0 (ws:=JM {rB bs (11*i)with n:=0}) rfl rfl rfl rfl
  have M:∀{l o:Nat} {x:Int},E l->ez (.ptr l o) s=some (.int .u8 x)->ez (.ptr l o) (s.new (.cells vE 1 true false [.I 0,.I 0,.I 0,.I 0,.I 0]))=some (.int .u8 x):=λhf h=>gz h (fi _ (G.fl _ hf));refine⟨⟨fh _ _,bq⟩,M f2 q2,M f1 I,M f1 I,M f0 q0,?_⟩;rw[show gj 5 (.ptr s.next 0) (.agg _) (s.new (.cells vE 1 true false [.I 0,.I 0,.I 0,.I 0,.I 0]))=_ from e3,eh];generalize s.next=lx at*;have a:=L.trans A;refine⟨n3,oF (f.ld 0 rfl rfl) (VB λnm B=>?_)⟩;refine ec (Z7 _ _ _) (fX ?_);by_cases hopi:1<=(rB bs (11*i)).op/\(rB bs (11*i)).op<=27;rotate_left
  ·refine fO (by rw[Ey];exact B.2 hopi) (O E z 30 (s1.trans a) f.tail.tail (by decide) λl hd=>hopi ?_);have:=hd.ok (rB bs (11*i)) (by rw[hd.eq];exact yN (PX hi));exact this.1
  refine fH (λe=>B.1 (Ey.1 e) hopi) ?_;obtain⟨U,c⟩:∃U:Nat->LP,U=λn R h'=>∃j:Nat,R=[D,x4,.ptr lx 0,.int .u64 ((ye bs (11*i+3) j:Nat):Int),.I (j:Nat)]/\j+n=8/\h' = z:=⟨_,rfl⟩
  refine Kd U ?_ (k:=8) (by rw[c];exact⟨0,rfl,rfl,rfl⟩);intro n1 _ _ _ _ _ h4 C;rw[c]at C;obtain⟨j,⟨⟩,ab,rfl⟩:=C;unfold Av;have r3:=r1.since a;by_cases T:j<8
  ·let⟨l4,o4,_,p4,q4,b4⟩:=r3.byte (H (3+j) (by omega)) .i64
   refine gy (j9 (n:=3) (by omega) (by omega) (ec p4 (ec q4 ?_)));rw[show 11*i+(3+j)=11*i+3+j by omega]at*;refine ec (by rw[gg,gG (by simp only[ml];omega)]) ?_;rw[Bn,gQ,gG (by simp[ml];omega),show(8:Int)*(j:Nat)=((8*j:Nat):Int) by omega];refine ec (zda b4 T) (ec (zed (Is r _ j) b4 T) (fG ⟨n1-1,by omega,?_⟩));rw[c];exact⟨j+1,rfl,by omega,rfl⟩
  ·refine iA ?_;obtain rfl:j=8:=by omega
   have W:ye bs (11*i+3) 8<18446744073709551616:=by
    have:=Is r (11*i+3) 8;simpa using this
   refine ec (by rw[gg,zfm W]) (ec pf ?_)
   let⟨X,e5,_,N,s5⟩:=f.st 0 rfl (o:=0+4) (by simp[JM]) (u:= .I (sN (ye bs (11*i+3) 8))) rfl
   rw [e5,eh];have N:ej E X (eD lx vE (JM (rB bs (11*i)))::ft Zm vE ((Bo bs).take i) x4::cs):=N;refine ec (N.tj 0 rfl rfl) ?_;rw[show iO vE 5 1 (.agg [.I 0,.I 0,.I 0,.I 0,.I 0]) [(0,.agg (JM (rB bs (11*i))))]=some (.cells vE 5 true false (JM (rB bs (11*i))),λl=> .slice l 0 1) from rfl,fK];obtain⟨w6,h6,e6,_,H6,s6⟩:=N.pT 1 rfl (iU:=40) rfl (by decide) (by decide) (by
    have:=List.length_take_le i (Bo bs);omega)
   rw[show fg vE 5 40 x4 (.slice X.next 0 1) (X.new (.cells vE 5 true false (JM (rB bs (11*i)))))=_ from e6,eh];have Y:=((s1.trans a).trans s5).trans s6;have r6:=(r3.since s5).since s6
   let⟨x7,g1,g2⟩:=r6.cut (lo:=some (.I 11)) (hi:=none) (m:=11) rfl rfl (by rw[wBn];omega) (jJ _)
   refine ec g1 ⟨n-1,by omega,?_⟩;rw[P];refine⟨E,i+1,_,_,rfl,by omega,Y,by rw[Sw hi];exact H6.tail,?_,λq hq=>?_⟩
   ·rw[PG,wBi,show 11*i+11=11*(i+1) by omega]at g2;exact g2
   ·by_cases e:q=i
    ·subst e;exact hopi
    ·exact S q (by omega)
 ·refine fH (by simp;omega) ?_;obtain rfl:i=bs.length / 11:=by omega
  rw[<-HU,PG]at G
  let⟨y,L,r2⟩:=G.hY 0 rfl
  have y:=y.tail;refine SD y r2 (by rw[HU];omega) λF3 z b A f hb=>?_;refine py ?_;by_cases hd:(Bo bs).length<=32768/\∀x∈Bo bs,AH (Bo bs).length x
  ·exact fO (hb.2 hd) (HY F3 z x4 (Bo bs) ((s1.trans L).trans A) f ⟨p,rfl,hd.1,hd.2⟩ (r2.since A))
  ·refine fH (λe=>hd (hb.1 e)) (O F3 z 5 ((s1.trans L).trans A) f (by decide) λl d=>hd ?_);have:=d.eq;subst this;exact⟨d.zcj,d.ok⟩
def pq(l:Nl)(en:Bool):Prop:=if l.kind=1 then 0<=l.n/\l.n<16 else if l.kind=2 then 0<=l.n/\l.n<400 else if l.kind=3 then en=false else l.kind=4/\en=true/\l.n=0
def zbC(f:Nf):Prop:=f.locals.length<=40/\f.stack.length<=60/\(∀x∈f.locals,pq x false)/\∀x∈f.stack,pq x false
def TX(x:Nx):Prop:=1<=x.gB.length/\x.gB.length<=30/\∀f∈x.gB,zbC f
def Lv(n:Nat)(x:Ni):Prop:=x.op=25\/x.op=26\/x.op=27->x.n<n
structure OI (bs:List Nat) (ex:List Nx) (en:List Nl):Prop where
 dec:∃l,Mq bs l/\∀x∈l,Lv ex.length x
 en:∀x∈en,pq x true
 ex:∀x∈ex,TX x
abbrev ntC(f p:Int)(wc we wn:V):List V:=[.I f,.I p,wc,we,wn]
theorem CT{α:Type}{l:List α}{P:α->Prop}{n:Nat}(a:n=l.length)(h:∀j x,j<n->l[j]? =some x->P x):∀x∈l,P x:=by grind[mz,ke]
theorem zg{α:Type}{l:List α}{P:α->Prop}{x:α}(a:l[i]? =some x)(hp:P x)(h:∀j x,j<i->l[j]? =some x->P x):∀j x,j<i+1->l[j]? =some x->P x:=by grind
theorem zbb{l:Nl}{en:Bool}(i:ej F h cs)(H:∀F' h' b,Sn F h F' h'->ej F' h' cs->(b=true↔pq l en)->Q (.bool b) h'):cP CS FT [.agg (KW l),.bool en] h Q:=by
 refine Uy ?_;refine tR i rfl λj d lx k s1 a=>?_;have H:=λb=>H j d b s1 k;unfold pq at H;have lt:∀c,iM (.bool (decide (0<=l.n))) (oB (fJ 1 (.ptr lx 0)) λf=>oB (ez f d) λg=>ef .lss 2 g (V.I c))=some (.bool (decide (0<=l.n/\l.n<c))):=λc=>by
  rw[fo,eQ,show ez (.ptr lx (0+1)) d=some (.I l.n) from a.ld rfl,eQ,iF,iT,Bool.decide_and]
 refine oF (a.ld rfl) (fx ?_);split
 ·rename_i e;rw[if_pos e]at H;exact oF (a.ld rfl) (ec (by rfl) (ec (lt 16) (H _ decide_eq_true_iff)))
 rename_i m;rw[if_neg m]at H;refine fx ?_;split
 ·rename_i e;rw[if_pos e]at H;exact oF (a.ld rfl) (ec (by rfl) (ec (lt 400) (H _ decide_eq_true_iff)))
 rename_i o;rw[if_neg o]at H;refine fx ?_;split
 ·rename_i e;rw[if_pos e]at H;exact T8 (H _ (by cases en <;> simp))
 rename_i p;rw[if_neg p]at H;refine oF (a.ld rfl) (ec (by rfl) (ec (by rw[iT]) ?_));refine ec (show _=some (V.bool (l.kind == 4&&en&&(l.n == 0))) from ?_) (H _ ?_)
 ·rw[fo,eQ,show ez (.ptr lx (0+1)) d=some (.I l.n) from a.ld rfl,eQ,gS,iT]
 grind
theorem Ur{l:List Nl}{en:Bool}(o:ej F h cs)(hl:hD S9 F h l v)(C:l.length<100000000)(H:∀F' h' b,Sn F h F' h'->ej F' h' cs->(b=true↔∀x∈l,pq x en)->Q (.bool b) h'):cP CS BC [v,.bool en] h Q:=by
 refine XM ?_;refine ec hl.len ?_;refine Ry (λk p h'=>∃F' i,p=[.bool en,v,.I l.length,.I (i:Nat)]/\i+k=l.length/\Sn F h F' h'/\ej F' h' cs/\∀j x,j<i->l[j]? =some x->pq x en) ?_ (k:=l.length) ⟨F,0,rfl,by omega,.refl _ _,o,by omega⟩;rintro k _ _ _ _ q ⟨r,i,⟨⟩,D,c,f,s⟩;unfold Ky;by_cases hi:i<l.length
 ·have t:=hZ hi
  let⟨E,G,ws,_,u,w,d,_⟩:=(hl.since c).ix hi .i64
  generalize l[i]=x at*;have d:=d;subst d;refine gy (ec u (ec w ?_));refine ud f rfl rfl rfl λI J lx y z A=>?_;refine ec (A.tj rfl) (zbb y λg B b s4 m n=>?_);have a:=(c.trans z).trans s4;refine py ?_;by_cases hb1:pq x en
  ·exact fO (n.2 hb1) (fG ⟨k-1,by omega,g,i+1,rfl,by omega,a,m,by grind⟩)
  ·exact fH (λe=>hb1 (n.1 e)) (H g B false a m (V5 λe=>hb1 (e x (yN t))))
 ·exact iA (H r q true c f (tru (CT (by omega) s)))
theorem zap{f p:Int}{bs:List Nat}{ex:List Nx}{en:List Nl}{wc we wn:V}(H0:ej F h cs)(hc:hD eY F h bs wc)(he:hD eEx F h ex we)(X:hD S9 F h en wn)(nb:bs.length<=2000000)(ne:ex.length<100000000)(nn:en.length<100000000)
  (H:∀F' h' b,Sn F h F' h'->ej F' h' cs->(b=true↔OI bs ex en)->Q (.bool b) h'):cP CS FX [.agg (ntC f p wc we wn)] h Q:=by
 refine Tz ?_;refine tR H0 (by simp only[fe,hc.one,he.one,X.one];rfl) λF1 h1 lx H1 s1 c1=>?_;refine oF (c1.ld rfl) (Xe H1 (hc.since s1) nb (λF2 h2 w l Y H2 hd rl=>?_) λF2 h2 er Y H2 h0 aa=>?_);rotate_left
 ·refine ec rfl (ec rfl (ec (by rfl) ?_));rw[show(er != 0)=true from bne_iff_ne.2 h0];refine tX (tX (Q5 ?_));exact ec rfl (fX (fO rfl (H F2 h2 false (s1.trans Y) H2 (V5 λe=>let⟨l,h1,_⟩:=e.dec;aa l h1))))
 have c2:=c1.since Y;have A:=s1.trans Y;refine ec rfl (ec rfl (ec (rfl) ?_));refine fY (ec pf (fY (ec (c2.ld rfl) ?_)));refine qC (Ur H2 (X.since A) nn λF3 h3 b s3 H3 hb=>?_);refine ec (by rfl) (fX ?_);have a:=A.trans s3;by_cases hen:∀x∈en,pq x true;rotate_left
 ·have:b=false:=by
   cases b with
   |false=>rfl
   |true=>grind
  rw[this];exact fO rfl (H F3 h3 false a H3 (V5 λe=>hen e.en))
 rw[hb.2 hen];have c3:=c2.since s3;have B:=rl.since s3;have ll:=hd.zcj;refine fH (by simp) (ec B.len ?_);refine Pd (λk s h'=>∃F' i,s=[.ptr lx 0,w,.I l.length,.I (i:Nat)]/\i+k=l.length/\Sn F3 h3 F' h'/\ej F' h' cs/\∀j x,j<i->l[j]? =some x->Lv ex.length x) ?_ (k:=l.length) ⟨F3,0,rfl,by omega,.refl _ _,H3,by omega⟩;rintro k _ _ _ _ h4 ⟨F4,i,⟨⟩,hk,s4,H4,hr⟩;unfold Gy;have c4:=c3.since s4;have C:=(he.since a).since s4;by_cases hi:i<l.length
 ·have Z:=hZ hi
  let⟨l1,o1,ws,_,D,E,g,_⟩:=(B.since s4).ix hi .i64
  generalize l[i]=x at*;have g:=g;subst g;refine gy (ec D (ec E ?_));refine ud H4 rfl rfl rfl λF5 t ly G c c5=>?_;have ab:=c4.since c;have u:ez (.ptr ly (0+0)) t=some (.I x.op):=c5.ld rfl;have l4:ez (.ptr ly (0+4)) t=some (.I x.n):=c5.ld rfl;have l3:ez (.ptr lx (0+3)) t=some we:=ab.ld rfl;refine oF u (ec (by rfl) ?_);simp only[fo,eQ,u,l4,l3,(C.since c).len,gS,jK,jj,iT,gQ];have ah:(((((x.op:Nat):Int) == 25 ||((x.op:Nat):Int) == 26) ||((x.op:Nat):Int) == 27)&&decide (((ex.length:Nat):Int)<=x.n))=true↔¬Lv ex.length x:=by
   unfold Lv;simp[yF,JD,Ey,yU];omega
  refine fX (iY (λe=>H F5 t false ((a.trans s4).trans c) G (V5 λI=>?_)) λe=>?_)
  ·let⟨s,d1,d2⟩:=I.dec
   rw[<-hd.uniq d1]at d2
   grind
  ·exact fG ⟨k-1,by omega,F5,i+1,rfl,by omega,s4.trans c,G,by grind⟩
 refine iA ?_;have ac:=CT (by omega) hr;refine oF (c4.ld rfl) (ec C.len ?_);have ai:=a.trans s4;obtain⟨J1,J⟩:∃J1,J1=λk s h'=>∃F' i,s=[we,.I ex.length,.I (i:Nat)]/\i+k=ex.length/\Sn F h F' h'/\ej F' h' cs/\∀j x,j<i->ex[j]? =some x->TX x:=⟨_,rfl⟩
 refine OQ J1 ?_ (k:=ex.length) (by grind);intro k1 _ _ _ t K;rw[J]at K;obtain⟨F5,q,⟨⟩,aj,c,G,L⟩:=K;unfold GB;by_cases hq:q<ex.length
 ·have Z:=hZ hq
  let⟨l1,o1,ws,_,D,E,⟨fv,g,rf⟩,_⟩:=(he.since c).ix hq .i64
  generalize ex[q]=x at*;subst g;refine gy (ec D (ec E ?_));refine ud G rfl rfl (by simp only[fe,rf.one];rfl) λF6 h6 ly H6 s6 c6=>?_;have d:=rf.since s6;have u:ez (.ptr ly (0+0)) h6=some fv:=c6.ld rfl;refine oF u (ec d.len (ec (by rfl) ?_));simp only[fo,eQ,u,d.len,jr,jj,gQ];refine fX (iY (λe=>H F6 h6 false (c.trans s6) H6 (V5 λI=>?_)) λe=>?_)
  ·have:=I.ex x (yN Z);unfold TX at this
   grind
  have M:1<=x.gB.length/\x.gB.length<=30:=by
   simp only[JD,Ey,yU]at e;omega
  obtain⟨J2,m⟩:∃J2,J2=λk s h'=>∃F' i,s=[we,.I ex.length,.I q,fv,.I x.gB.length,.I (i:Nat)]/\i+k=x.gB.length/\Sn F6 h6 F' h'/\ej F' h' cs/\∀j f,j<i->x.gB[j]? =some f->zbC f:=⟨_,rfl⟩
  first|refine oF u (ec d.len ?_)|skip
  refine OO J2 ?_ (k:=x.gB.length) (by rw[m];exact⟨F6,0,rfl,by omega,.refl _ _,H6,by omega⟩);intro k2 _ _ _ _ _ _ h7 N;rw[m]at N;obtain⟨F7,r,⟨⟩,ak,s7,H7,O⟩:=N;unfold GO;have P:=(c.trans s6).trans s7;by_cases hrl:r<x.gB.length
  ·have hy:=hZ hrl
   let⟨l1,o1,ws,_,D,E,⟨la,sa,g,ra,rb⟩,_⟩:=(d.since s7).ix hrl .i64
   generalize x.gB[r]=y at*;subst g;refine gy (ec D (ec E ?_));refine ud H7 rfl rfl (by simp only[fe,ra.one,rb.one];rfl) λF8 h8 lz H8 s8 c8=>?_;have R:=ra.since s8;have S:=rb.since s8;have l2:ez (.ptr lz (0+2)) h8=some la:=c8.ld rfl;have l3:ez (.ptr lz (0+3)) h8=some sa:=c8.ld rfl;have no:∀{F9 h9},Sn F8 h8 F9 h9->ej F9 h9 cs->¬zbC y->Q (.bool false) h9:=λo H9 X=>H _ _ false ((P.trans s8).trans o) H9 (V5 λI=>X ((I.ex x (yN Z)).2.2 y (yN hy)));refine oF l2 (ec R.len (ec (by rfl) ?_));simp only[fo,eQ,l3,S.len,jr,jj,gQ];by_cases hsz:y.locals.length<=40/\y.stack.length<=60;rotate_left
   ·rw [show(decide ((40:Int)<((y.locals.length:Nat):Int)) ||decide ((60:Int)<((y.stack.length:Nat):Int)))=true by
     grind]
    refine tX (tX (Q5 ?_));refine ec rfl (tX (tX (Q5 ?_)));exact ec rfl (fX (fO rfl (no (.refl _ _) H8 λv=>hsz ⟨v.1,v.2.1⟩)))
   rw[show(decide ((40:Int)<((y.locals.length:Nat):Int)) ||decide ((60:Int)<((y.stack.length:Nat):Int)))=false by
     grind]
   refine fY (ec rfl (fY (ec l2 ?_)));refine qC (Ur H8 R (by omega) λF9 h9 b9 o H9 ad=>?_);refine ec (by rfl) ?_;by_cases hlo:∀z∈y.locals,pq z false;rotate_left
   ·have:b9=false:=by
     cases b9 with
     |false=>rfl
     |true=>grind
    rw[this];refine tX (tX (Q5 ?_));exact ec rfl (fX (fO rfl (no o H9 λv=>hlo v.2.2.1)))
   rw[ad.2 hlo];refine fY (ec pf (fY (ec ((c8.since o).ld rfl) ?_)));refine qC (Ur H9 (S.since o) (by omega) λae al T U W ag=>?_);refine ec (by rfl) (fX ?_);by_cases hst:∀z∈y.stack,pq z false
   ·refine fH (by simp_all) (fG ⟨k2-1,by omega,?_⟩);rw[m];exact⟨ae,r+1,rfl,by omega,((s7.trans s8).trans o).trans U,W,zg hy ⟨hsz.1,hsz.2,hlo,hst⟩ O⟩
   ·have:T=false:=by
     cases T with
     |false=>rfl
     |true=>grind
    rw[this];exact fO rfl (no (o.trans U) W λv=>hst v.2.2.2)
  ·refine iA (fG ⟨k1-1,by omega,?_⟩);rw[J];exact⟨F7,q+1,rfl,by omega,P,H7,zg Z ⟨M.1,M.2,CT (by omega) O⟩ L⟩
 ·exact iA (H F5 t true c G (tru ⟨⟨l,hd,ac⟩,hen,CT (by omega) L⟩))
