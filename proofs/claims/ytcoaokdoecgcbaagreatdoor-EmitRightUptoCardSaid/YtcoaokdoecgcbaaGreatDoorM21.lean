/- Parts. -/
import Derived.Test.YtcoaokdoecgcbaaGreatDoorM20
set_option maxHeartbeats 4000000
namespace Go.Proofs.YtcoaokdoecgcbaaGreatDoor.Hx
open Un
theorem gh{b:Bool}{A B:Prop}(h:if b=true then A else B):bP (.bool b) A B:=by simp_all
theorem W0(ops:List Int)(s:Ds):rows ops 0 s=s:=rfl
theorem Xd(ops:List Int)(k:Nat)(s:Ds)(h:¬s.ee.length<200):rows ops k s=s:=by
 cases k <;> simp_all[rows,if_neg]
theorem WW(ops:List Int)(k:Nat)(s:Ds)(h:s.ee.length<200):rows ops (k+1) s=rows ops k (ux ops s):=by
 simp_all[rows,if_pos]
section
variable{F F' G G':Nat->Prop}{h h':Hp}{L:Lc}{ops:List Int}{t t':Dt}{R R':Rw}{Q:fo}
theorem Sm.one{s:Ds}{n:Nat}(a:Sm s n):Sm (fJ ops s).2 n:=a.pos _
theorem Sm.num{s:Ds}{n:Nat}(a:Sm s n)(m:Nat):Sm (num ops s m).2 n:=a.pos _
theorem zfP{s:Ds}{n:Nat}(a:Sm s n)(ops:List Int)(x:Vl):Sm (put (fG ops s).2 x) (n+1):=by
 let⟨p,hp⟩:=GA ops (num ops s 4).1 (num ops s 4).2 []
 have e:(fG ops s).2 = {s with pos:=p,ez:=(fG ops s).2.ez}:=by
  unfold fG;simp only[hp];rfl
 have h:=a.state ops;rw[e]at h⊢;exact⟨wi a.v,wi a.c,h.k,h.st,h.k0⟩
theorem zdw(q:Dq F G h L ops t R)(w:ops.length<9223372036854775808){n:Nat}(hn:Sm t.s n)(ae:n<900)
  (H:∀F' h' R',(∀l,F l->F' l)->Kp F (gm G L.nW) h h'->Dq F' G h' L ops {t with s:=row ops t.s} R'->Sm (row ops t.s) (n+6)->Q (.tuple []) h') :
  cP CS jj [.ptr L.pT 0,.ptr L.lu 0,.ptr L.ie 0,.ptr L.zt 0,.ptr L.VN 0] h Q:=by
 refine CQ rfl rfl ?_;unfold uq;refine ec q.uj ?_;show cP CS fq [.I ((6:Nat):Int),.ptr L.nW 0,.ptr L.lr 0] h _;refine wN q (by decide) (by decide) w λh0 k0 q0=>?_;have hr:(draw ops t.s.pos 6).1<6:=by simp_all[wG]
 refine ju (n:=1) (by decide) (by omega) ?_
 refine AM (λk O P S T U W h'=>∃(F':Nat->Prop) (R':Rw) (s:Ds),O = .ptr L.pT 0/\P = .ptr L.lu 0/\S = .ptr L.ie 0/\T = .ptr L.zt 0/\U = .ptr L.VN 0/\W = .I (k:Nat)/\(∀l,F l->F' l)/\
  Kp F (gm G L.nW) h h'/\Dq F' G h' L ops {t with s:=s} R'/\rows ops k s=row ops t.s/\∃m,Sm s m/\m+k<=n+6) ?_
  ⟨F,R,(num ops t.s 6).2,rfl,rfl,rfl,rfl,rfl,rfl,λ_ h=>h,k0,q0,rfl,n,hn.num 6,by omega⟩
 rintro k O P S T U W h' ⟨r,R1,s,rfl,rfl,rfl,rfl,rfl,rfl,J,X,B,p,m,K,ag⟩;unfold qZ;refine ec (by rw[iG]) ?_;have lv:=B.D.ov.len;have eA:iM (.bool (decide ((0:Int)<(k:Nat)))) (oB (fK 2 (.ptr L.lu 0)) λaa=>oB (eC aa h') λab=>oB (fD ab) λac=>ef .lss 3 ac (V.I 200))=some (.bool (decide ((0:Int)<(k:Nat))&&decide (((s.ee.length:Nat):Int)<200))):=by
  simp only[fN,eD,HP,B.D.XP,lv,jC,gQ]
 refine ec eA (gh ?_)
 cases k with
 | zero=>
   refine gD (by simp) ?_;rw[W0]at p
   refine H r h' R1 J X (by simp_all) (by rw[<-p];exact K.le (by omega))
 | succ k=>
   by_cases EO:s.ee.length<200;rotate_left
   ·refine gD (by simp;omega) ?_
    rw[Xd _ _ _ EO]at p;refine H r h' R1 J X (by simp_all) (by rw[<-p];exact K.le (by omega))
   refine gN (by simp;omega) ?_;have C:rows ops k (ux ops s)=row ops t.s:=by rw[<-p,WW _ _ _ EO]
   clear p eA;refine ec B.D.Ae (ec B.uj (ec B.D.Ae (ec B.D.ok.len ?_)));show cP CS fq [.I (s.known.length:Nat),.ptr L.nW 0,.ptr L.lr 0] h' _;refine Nz B w K (by omega) λh2 l o k2 E _ i1 I=>⟨k2.next,ec i1 (ec I ⟨E.D.Ae,?_⟩)⟩
   have I:True:=trivial;refine ec E.D.Ae (ec E.uj (ec E.D.Ae (ec E.D.ok.len ?_)));show cP CS fq [.I ((fJ ops s).2.known.length:Nat),.ptr L.nW 0,.ptr L.lr 0] h2 _;refine Nz E w K.one (by omega) λh3 l' o' k3 Y _ j1 j2=>⟨k3.next,ec j1 (ec j2 ⟨Y.D.Ae,?_⟩)⟩
   refine ec Y.uj ?_;show cP CS fq [.I ((20:Nat):Int),.ptr L.nW 0,.ptr L.lr 0] h3 _;refine wN Y (by decide) (by decide) w λA k4 d=>?_;have d:Dq r G A L ops {t with s:=(num ops (fJ ops (fJ ops s).2).2 20).2} R1:=d;have j:Sm (num ops (fJ ops (fJ ops s).2).2 20).2 m:=K.one.one.num 20;have kk:Kp F (gm G L.nW) h A:=((X.trans k2 J).trans k3 J).trans k4 J;have x:ux ops s=tE ops (num ops (fJ ops (fJ ops s).2).2 20).2 (num ops (fJ ops (fJ ops s).2).2 20).1 (fJ ops s).1 (fJ ops (fJ ops s).2).1:=rfl;rw[x]at C;have ek:(draw ops ({t with s:=(fJ ops ({t with s:=(fJ ops ({t with s:=s}:Dt).s).2}:Dt).s).2}:Dt).s.pos 20).1=(num ops (fJ ops (fJ ops s).2).2 20).1:=rfl;rw[ek];clear ek;have ah:(num ops (fJ ops (fJ ops s).2).2 20).1<20:=wG _ _ (by decide);generalize (num ops (fJ ops (fJ ops s).2).2 20).2=f at*;generalize (num ops (fJ ops (fJ ops s).2).2 20).1=kd at*;have ea:(fJ ops ({t with s:=s}:Dt).s).1=(fJ ops s).1:=rfl;have eb:(fJ ops ({t with s:=(fJ ops ({t with s:=s}:Dt).s).2}:Dt).s).1=(fJ ops (fJ ops s).2).1:=rfl;rw[ea,eb];generalize (fJ ops s).1=a at*;generalize (fJ ops (fJ ops s).2).1=b at*;clear Y E B X k2 k3 k4 j1 j2 lv x
   have fin:∀(Z:Nat->Prop) (e:Hp) (R2:Rw) (M:Ds),(∀l,r l->Z l)->Kp r (gm G L.nW) A e->Dq Z G e L ops {t with s:=M} R2->M=tE ops f kd a b->Sm M (m+1)->
       gv CS Q (λO P S T U W hh=>∃k',k' < k+1/\∃(F':Nat->Prop) (R':Rw) (s:Ds),O = .ptr L.pT 0/\P = .ptr L.lu 0/\S = .ptr L.ie 0/\T = .ptr L.zt 0/\U = .ptr L.VN 0/\W = .I (k':Nat)/\(∀l,F l->F' l)/\
         Kp F (gm G L.nW) h hh/\Dq F' G hh L ops {t with s:=s} R'/\rows ops k' s=row ops t.s/\∃m,Sm s m/\m+k'<=n+6) (.ptr L.pT 0) (.ptr L.lu 0) (.ptr L.ie 0) (.ptr L.zt 0) (.ptr L.VN 0) (.I ((k+1:Nat):Int)) e:=by
     intro Z e R2 M ai g c e5 m5;refine AK ?_;unfold ry;refine zr (by omega) (by omega) ?_;exact⟨k,by omega,Z,R2,M,rfl,rfl,rfl,rfl,rfl,rfl,by simp_all,kk.trans g J,c,by simp_all,m+1,m5,by omega⟩
   by_cases c0:kd<12
   ·refine gU ?_
    refine ec d.D.Ae (ec d.px (ju (n:=3) (by decide) (by omega) ?_));have eP:∀o:Nat,fm [(V.I 0),(V.I 0),(V.I 0),(V.I 0),V.ed,(V.I 0)] [(0,1),(1,1),(2,1),(3,1),(4,1),(5,1)] [(0,.I (o:Nat)),(1,.I (a:Nat)),(2,.I (b:Nat))]=some (.agg (yH (vl o a b 0 [] 0) .ed)):=λ_=>rfl;refine ec (eP _) ?_;exact Hc d j (by omega) ⟨_,rfl,.nil⟩ λe R5 g c=>fin r e R5 _ (by simp_all) (g.gm _) c (by simp_all[tE,if_pos]) (j.hO _)
   refine iY ?_;by_cases c1:kd=12
   ·refine gw (gN (by omega) ?_)
    refine ec d.D.Ae (ec d.px (ec d.uj ?_));show cP CS fq [.I ((1048576:Nat):Int),.ptr L.nW 0,.ptr L.lr 0] A _;refine wN d (by decide) (by decide) w λe g c=>⟨g.next,?_⟩
    have c:Dq r G e L ops {t with s:=(num ops f 1048576).2} R1:=c;have hd:(draw ops f.pos 1048576).1<1048576:=by simp_all[wG]
    have ew:iy .i64 (((draw ops f.pos 1048576).1:Int)-9)=((draw ops f.pos 1048576).1:Int)-9:=by grind[gS,Cf]
    refine ec (by rw[iu]) ?_;rw[show(iy .i64 (((draw ops ({t with s:=f}:Dt).s.pos 1048576).1:Int)-9))=((draw ops f.pos 1048576).1:Int)-9 from ew];have eP:∀i:Int,fm [(V.I 0),(V.I 0),(V.I 0),(V.I 0),V.ed,(V.I 0)] [(0,1),(1,1),(2,1),(3,1),(4,1),(5,1)] [(0,(V.I 2)),(3,.I i)]=some (.agg (yH (vl 2 0 0 i [] 0) .ed)):=λ_=>rfl;refine ec (eP _) ⟨c.px,c.D.Ae,?_⟩;exact Hc c (j.num _) (by omega) ⟨_,rfl,.nil⟩ λy R6 u v=>fin r y R6 _ (by simp_all) (g.trans (u.gm _) λ_ h=>h) v (by unfold tE;rw[if_neg c0,if_pos c1];rfl) ((j.num _).hO _)
   refine gw (gD (by omega) ?_);by_cases c2:kd=13
   ·refine gw (gN (by omega) ?_)
    refine ec d.D.Ae (ec d.px (ec d.uj ?_));show cP CS fq [.I ((5:Nat):Int),.ptr L.nW 0,.ptr L.lr 0] A _;refine wN d (by decide) (by decide) w λe g c=>⟨g.next,?_⟩
    have c:Dq r G e L ops {t with s:=(num ops f 5).2} R1:=c;have eP:∀n:Nat,fm [(V.I 0),(V.I 0),(V.I 0),(V.I 0),V.ed,(V.I 0)] [(0,1),(1,1),(2,1),(3,1),(4,1),(5,1)] [(0,(V.I 17)),(1,.I (a:Nat)),(3,.I (n:Nat))]=some (.agg (yH (vl 17 a 0 (n:Nat) [] 0) .ed)):=λ_=>rfl;refine ec (eP _) ⟨c.px,c.D.Ae,?_⟩;exact Hc c (j.num _) (by omega) ⟨_,rfl,.nil⟩ λy R6 u v=>fin r y R6 _ (by simp_all) (g.trans (u.gm _) λ_ h=>h) v (by unfold tE;rw[if_neg c0,if_neg c1,if_pos c2];rfl) ((j.num _).hO _)
   refine gw (gD (by omega) ?_);by_cases c3:kd=14
   ·refine gw (gN (by omega) ?_)
    refine ec d.D.Ae (ec d.px ?_);have eP:fm [(V.I 0),(V.I 0),(V.I 0),(V.I 0),V.ed,(V.I 0)] [(0,1),(1,1),(2,1),(3,1),(4,1),(5,1)] [(0,(V.I 18)),(1,.I (a:Nat)),(2,.I (b:Nat))]=some (.agg (yH (vl 18 a b 0 [] 0) .ed)):=rfl;refine ec eP ?_;exact Hc d j (by omega) ⟨_,rfl,.nil⟩ λe R5 g c=>fin r e R5 _ (by simp_all) (g.gm _) c (by simp_all[tE,if_neg,if_pos]) (j.hO _)
   refine gw (gD (by omega) ?_);by_cases c4:kd=15
   ·refine gw (gN (by omega) ?_)
    refine ec d.px (ec d.uj ?_);show cP CS fq [.I ((5:Nat):Int),.ptr L.nW 0,.ptr L.lr 0] A _;refine wN d (by decide) (by decide) w λe g c=>⟨g.next,?_⟩
    have c:Dq r G e L ops {t with s:=(num ops f 5).2} R1:=c;have eP:∀n:Nat,fm [(V.I 0),(V.I 0),(V.I 0),(V.I 0),V.ed,(V.I 0)] [(0,1),(1,1),(2,1),(3,1),(4,1),(5,1)] [(0,(V.I 19)),(1,.I (a:Nat)),(3,.I (n:Nat)),(2,.I (b:Nat))]=some (.agg (yH (vl 19 a b (n:Nat) [] 0) .ed)):=λ_=>rfl;refine ec (eP _) ⟨c.px,?_⟩;refine Kt c (j.num _) (by omega) ⟨_,rfl,.nil⟩ λy R6 u _ v=>⟨u.next,?_⟩
    exact fin r y R6 _ (by simp_all) (g.trans (u.gm _) λ_ h=>h) v (by unfold tE;rw[if_neg c0,if_neg c1,if_neg c2,if_neg c3,if_pos c4];rfl) ((j.num _).put _)
   refine gw (gD (by omega) ?_);by_cases c5:kd=16
   ·refine gw (gN (by omega) ?_)
    refine ec d.px (ec d.D.Ae (ec d.uj (ec d.D.Ae (ec d.D.ok.len ?_))));show cP CS fq [.I (f.known.length:Nat),.ptr L.nW 0,.ptr L.lr 0] A _;refine Nz d w j (by omega) λe l o g c hl i1 I=>⟨g.next,ec i1 (ec I ?_)⟩
    have c:Dq r G e L ops {t with s:=(fJ ops f).2} R1:=c;have I:eC (.ptr l o) e=some (.I ((fJ ops f).1:Nat)):=I;have e3:iK 3 1 1 (V.I 0) [(0,V.I ((fJ ops f).1:Nat))]=some (.cells 3 1 true false [V.I ((fJ ops f).1:Nat)],λl=> .slice l 0 1):=rfl;show vj (iK 3 1 1 (V.I 0) [(0,V.I ((fJ ops f).1:Nat))]) e _;rw[e3,hH];have eP:∀n:Nat,fm [(V.I 0),(V.I 0),(V.I 0),(V.I 0),V.ed,(V.I 0)] [(0,1),(1,1),(2,1),(3,1),(4,1),(5,1)] [(0,(V.I 20)),(1,.I (a:Nat)),(2,.I (b:Nat)),(4,.slice n 0 1)]=some (.agg (yH (vl 20 a b 0 [(fJ ops f).1] 0) (.slice n 0 1))):=λ_=>rfl;have D6:=c.D.new (.cells 3 1 true false [V.I ((fJ ops f).1:Nat)]);have u:=c.D.yA (.cells 3 1 true false [V.I ((fJ ops f).1:Nat)]);have v:=c.step u D6 (pP _ _) c.gl c.hq rfl;have g6:(e.new (.cells 3 1 true false [V.I ((fJ ops f).1:Nat)])).get e.next=_:=eJ _ _;refine ec (eP _) ⟨by simp_all,iJ I (eE _ hl),D6.Ae,v.px,?_⟩
    have hs:iH eN (fz r e.next) (e.new (.cells 3 1 true false [V.I ((fJ ops f).1:Nat)])) [(fJ ops f).1] (.slice e.next 0 1):=
      .inr ⟨e.next,0,3,true,false,[V.I ((fJ ops f).1:Nat)],rfl,.inr rfl,g6,.inr rfl,Ll _,⟨_,[],rfl,rfl,trivial⟩⟩
    refine Kt v (j.one) (by omega) ⟨_,rfl,hs⟩ λh7 R7 k7 _ q7=>⟨k7.next,?_⟩
    exact fin (fz r e.next) h7 R7 _ (pP _ _) ((g.trans (u.gm _) λ_ h=>h).trans (k7.gm _) (pP _ _)) q7 (by simp_all[tE,if_neg,if_pos]) (j.one.put _)
   refine gw (gD (by omega) ?_);by_cases c6:kd=17
   ·refine gw (gN (by omega) ?_)
    refine ec d.px (ec d.Ke ?_);show cP CS fU [.ptr L.lu 0,.ptr L.pT 0,.ptr L.ie 0] A _;refine Nm d j.k0 (by have:=j.k;grind) (by have:=j.st;grind) w λN e R5 z g c _=>⟨g.next,?_⟩
    have c:Dq N G e L ops {t with s:=(fG ops f).2} R5:=c;have eP:∀n:Nat,fm [(V.I 0),(V.I 0),(V.I 0),(V.I 0),V.ed,(V.I 0)] [(0,1),(1,1),(2,1),(3,1),(4,1),(5,1)] [(0,(V.I 22)),(1,.I (a:Nat)),(5,.I (n:Nat))]=some (.agg (yH (vl 22 a 0 0 [] n) .ed)):=λ_=>rfl;refine ec (eP _) ⟨c.px,?_⟩;refine Kt c (j.state ops) (by omega) ⟨_,rfl,.nil⟩ λy R6 u _ v=>⟨u.next,?_⟩
    exact fin N y R6 _ z (g.trans (u.gm _) z) v (by simp_all[tE,if_neg,if_pos]) (zfP j ops _)
   refine gw (gD (by omega) ?_);by_cases c7:kd=18
   ·refine gw (gN (by omega) ?_)
    refine ec d.px (ec d.Ke ?_);show cP CS fU [.ptr L.lu 0,.ptr L.pT 0,.ptr L.ie 0] A _;refine Nm d j.k0 (by have:=j.k;grind) (by have:=j.st;grind) w λN e R5 z g c _=>⟨g.next,?_⟩
    have c:Dq N G e L ops {t with s:=(fG ops f).2} R5:=c;have eP:∀n:Nat,fm [(V.I 0),(V.I 0),(V.I 0),(V.I 0),V.ed,(V.I 0)] [(0,1),(1,1),(2,1),(3,1),(4,1),(5,1)] [(0,(V.I 23)),(5,.I (n:Nat))]=some (.agg (yH (vl 23 0 0 0 [] n) .ed)):=λ_=>rfl;refine ec (eP _) ⟨c.px,?_⟩;refine Kt c (j.state ops) (by omega) ⟨_,rfl,.nil⟩ λy R6 u _ v=>⟨u.next,?_⟩
    exact fin N y R6 _ z (g.trans (u.gm _) z) v (by simp_all[tE,if_neg,if_pos]) (zfP j ops _)
   refine gw (gD (by omega) ?_);refine ec d.D.Ae (ec d.px (ec d.uj ?_));show cP CS fq [.I ((2:Nat):Int),.ptr L.nW 0,.ptr L.lr 0] A _;refine wN d (by decide) (by decide) w λe g c=>⟨g.next,?_⟩
   have c:Dq r G e L ops {t with s:=(num ops f 2).2} R1:=c;have hd:(draw ops f.pos 2).1<2:=by simp_all[wG]
   refine ju (n:=15) (by decide) (by grind) ?_;have eP:∀o:Nat,fm [(V.I 0),(V.I 0),(V.I 0),(V.I 0),V.ed,(V.I 0)] [(0,1),(1,1),(2,1),(3,1),(4,1),(5,1)] [(0,.I (o:Nat)),(1,.I (a:Nat))]=some (.agg (yH (vl o a 0 0 [] 0) .ed)):=λ_=>rfl;refine ec (eP _) ⟨c.px,c.D.Ae,?_⟩;exact Hc c (j.num _) (by omega) ⟨_,rfl,.nil⟩ λy R6 u v=>fin r y R6 _ (by simp_all) (g.trans (u.gm _) λ_ h=>h) v (by unfold tE;rw[if_neg c0,if_neg c1,if_neg c2,if_neg c3,if_neg c4,if_neg c5,if_neg c6,if_neg c7];rfl) ((j.num _).hO _)
end
open Un
structure HD (s a:Ds):Prop where
 k:∃l,a.known=s.known++l
 v:∃l,a.ee=s.ee++l
theorem HD.refl(s:Ds):HD s s:=⟨by simp_all,by simp_all⟩
theorem HD.trans{s d c:Ds}(a:HD s d)(b:HD d c):HD s c:=by
 let⟨⟨e,f⟩,⟨g,h⟩⟩:=a
 let⟨⟨i,j⟩,⟨k,l⟩⟩:=b
 exact⟨by simp_all,by simp_all⟩
theorem HD.kl{s b:Ds}(a:HD s b):s.known.length<=b.known.length:=by
 let⟨⟨c,d⟩,_⟩:=a
 simp_all
theorem K1(ops:List Int)(s:Ds):HD s (fG ops s).2:=by
 let⟨p,hp⟩:=GA ops (num ops s 4).1 (num ops s 4).2 []
 unfold fG;simp[hp];exact⟨by simp_all[num],by simp_all[num]⟩
theorem FL(s:Ds)(x:Vl):HD s (hO s x):=⟨⟨_,rfl⟩,⟨_,rfl⟩⟩
theorem MQ(s:Ds)(x:Vl):HD s (put s x):=⟨by simp_all[put],⟨_,rfl⟩⟩
theorem GW(ops:List Int)(s:Ds)(m:Nat):HD s (num ops s m).2:=⟨by simp_all[num],by simp_all[num]⟩
theorem QR(ops:List Int)(s:Ds):HD s (fJ ops s).2:=⟨by simp_all[fJ],by simp_all[fJ]⟩
theorem Yq(ops:List Int)(s:Ds)(k a b:Nat):HD s (tE ops s k a b):=by
 unfold tE;split
 ·grind[FL]
 split
 ·exact(GW _ _ _).trans (FL _ _)
 split
 ·exact(GW _ _ _).trans (FL _ _)
 split
 ·grind[FL]
 split
 ·exact(GW _ _ _).trans (MQ _ _)
 split
 ·exact(QR _ _).trans (MQ _ _)
 split
 ·exact(K1 _ _).trans (MQ _ _)
 split
 ·exact(K1 _ _).trans (MQ _ _)
 ·exact(GW _ _ _).trans (FL _ _)
theorem TG(ops:List Int):∀i s,HD s (rows ops i s)
 |0,s=> .refl s
 | i+1,s=>by
   unfold rows;split
   ·exact(((QR ops s).trans (QR ops _)).trans ((GW ops _ 20).trans (Yq _ _ _ _ _))).trans (TG ops i _)
   ·exact .refl s
theorem GP(ops:List Int)(s:Ds):HD s (row ops s):=(GW ops s 6).trans (TG ops _ _)
def Lq(L:Lc):V:= .func jj [] [.ptr L.pT 0,.ptr L.lu 0,.ptr L.ie 0,.ptr L.zt 0,.ptr L.VN 0]
def Js(L:Lc):V:= .func jS [] [.ptr L.jq 0,.ptr L.lu 0]
def nD(xs:List Nat):List V:=xs.map λn=> .I (n:Nat)
section
variable{F F' G G':Nat->Prop}{h h':Hp}{L:Lc}{ops:List Int}{t t':Dt}{R R':Rw}{Q:fo}
theorem GK(q:Dq F G h L ops t R)(xs:List Nat):Dq (fz F h.next) G (h.new (.cells 3 1 true false (nD xs))) L ops t R/\iH eN (fz F h.next) (h.new (.cells 3 1 true false (nD xs))) xs (.slice h.next 0 xs.length)/\Kp F G h (h.new (.cells 3 1 true false (nD xs))):=by
 have k:=q.D.yA (.cells 3 1 true false (nD xs));exact⟨q.step k (q.D.new _) (pP _ _) q.gl q.hq rfl,.inr ⟨h.next,0,3,true,false,nD xs,rfl,.inr rfl,eJ _ _,.inr rfl,Ll _,zY _ _ xs⟩,k⟩
theorem xP(q:Dq F G h L ops t R)(xs:List Nat){b:Option (O×(Nat->V))}(e:b=some (O.cells 3 1 true false (nD xs),λl=> .slice l 0 xs.length)){K:Hp->Prop}
  (H:∀F' h' R',(∀l,F l->F' l)->Kp F G h h'->Dq F' G h' L ops {t with fu:=xs} R'->K h') :
  hZ b h λv f=>oP (fK 4 (.ptr L.jq 0)) λg=>fg (gL 1 g v f) λ_ i=>K i:=by
 subst e
 let⟨a,s1,j⟩:=GK q xs
 rw[fI,fN,fY];have e1:=nY (o:=4) (oY:=[R.cc,.I 0,.I 0,.ed,.slice h.next 0 xs.length,.I 0]) a.D.gb (by simp) rfl rfl
 let⟨d,D2⟩:=a.D.zcM (c:=R.cc) s1
 rw[ e1];exact H _ _ _ (pP _ _) (j.trans d (pP _ _)) (a.step d D2 (by simp_all) q.gl a.hq rfl)
theorem Uy(q:Dq F G h L ops t R)(d:t.blocks.length<1000)(b:Bk){w nv:V}(e:w = .agg (rr b .ed nv .ed))(XK:b.ee=[])(a:b.fu=[])(c:iH eN F h b.next nv){K:fo}
  (H:∀F' h' R',(∀l,F l->F' l)->Kp F G h h'->Dq F' G h' L ops {s:={t.s with cur:=[]},blocks:=t.blocks++[⟨t.s.cur,b.fin,b.cond,b.next,t.fu,b.state⟩],fu:=[]} R'->K (.I t.blocks.length) h') :
  gO CS (fX (Js L) [w]) h K:=by
 subst e;exact zeh (n:=0) q d XK a c H
theorem FT(q:Dq F G h L ops t R)(b:ops.length<9223372036854775808){n:Nat}(c:Sm t.s n)(a:n<900){K:fo}
  (H:∀F' h' R',(∀l,F l->F' l)->Kp F (gm G L.nW) h h'->Dq F' G h' L ops {t with s:=row ops t.s} R'->Sm (row ops t.s) (n+6)->K (.tuple []) h') :
  gO CS (fX (Lq L) []) h K:=zdw q b c a H
theorem Vn(q:Dq F G h L ops t R)(c:0<t.s.known.length)(d:t.s.known.length<1000){K:V->Prop}(H:K (.I (t.s.known.getLastD 0:Nat))) :
  oP (eC (.ptr L.ie 0) h) λa=>oP (eC (.ptr L.ie 0) h) λb=>oP (fD b) λn=>oP (ef .sub 3 n (.I 1)) λi=>oP (gP 1 a i) λp=>oP (eC p h) K:=by
 let⟨l,o,_,_,e,f⟩:=q.GQ (i:=t.s.known.length-1) (by omega)
 refine ec q.D.Ae (ec q.D.Ae (ec q.D.ok.len (zr (by omega) c (ec e (ec f ?_)))))
 grind
theorem QD(q:Dq F G h L ops t R){m:Nat}(c:m<=t.s.known.length){K:Hp->Prop}(H:∀h' R',Kp F G h h'->Dq F G h' L ops {t with s:=cut m t.s} R'->K h') :
  oP (eC (.ptr L.ie 0) h) λa=>oP (iL 1 a none (some (.I m)) h) λs=>fg (gL 1 (.ptr L.ie 0) s h) λ_ b=>K b:=by
 let⟨v',b,e1,e2,_,k,D2⟩:=q.D.zg0 c
 refine ec q.D.Ae (ec e1 ?_);rw[e2,eh];exact H _ _ k (q.step k D2 (by simp_all) q.gl q.hq rfl)
theorem U7(q:Dq F G h L ops t R)(j:ops.length<9223372036854775808){n:Nat}(k:Sm t.s n)(d:n<1000){K:fo}
  (H:∀h',Kp F (gm G L.nW) h h'->Dq F G h' L ops {t with s:=(fJ ops t.s).2} R->K (.I ((fJ ops t.s).1:Nat)) h') :
  oP (eC (.ptr L.ie 0) h) λa=>oP (eC (.ptr L.pT 0) h) λf=>oP (eC (.ptr L.ie 0) h) λb=>oP (fD b) λn=>gO CS (fX f [n]) h λi c=>(h.next<=c.next/\oP (gP 1 a i) λp=>oP (eC p c) λv=>((eC (.ptr L.ie 0) c=some a)/\K v c)):=by
 refine ec q.D.Ae (ec q.uj (ec q.D.Ae (ec q.D.ok.len ?_)));show cP CS fq [.I t.s.known.length,.ptr L.nW 0,.ptr L.lr 0] h _;exact Nz q j k d λc l o e g _ m r=>⟨e.next,ec m (ec r ⟨g.D.Ae,H _ e g⟩)⟩
theorem N3(q:Dq F G h L ops t R)(e:ops.length<9223372036854775808){n:Nat}(d:Sm t.s n)(f:n<999){K:fo}
  (H:∀F' h' R',(∀l,F l->F' l)->Kp F (gm G L.nW) h h'->Dq F' G h' L ops {t with s:=(fG ops t.s).2} R'->Sm (fG ops t.s).2 (n+1)->K (.I ((fG ops t.s).1:Nat)) h') :
  gO CS (fX (T7 L) []) h K:=by
 show cP CS fU [.ptr L.lu 0,.ptr L.pT 0,.ptr L.ie 0] h _;have g:=d.k;have i:=d.st;exact Nm q d.k0 (by omega) (by omega) e λF' h' R' a b c _=>H F' h' R' a b c (d.state ops)
theorem Sm.end_{t:Dt}{n:Nat}(a:Sm t.s n)(f c:Nat)(nx:List Nat)(s:Nat)(p:List Nat):Sm (Un.end_ t f c nx s p).s n:=⟨a.v,Ll _,a.k,a.st,a.k0⟩
theorem Sm.cut{s:Ds}{n m:Nat}(a:Sm s n)(h0:0<m)(b:m<=s.known.length):Sm (Un.cut m s) n:=
 ⟨a.v,a.c,by show(s.known.take m).length<=n;rw[Rh];have:=a.k;omega,a.st,by show 0<(s.known.take m).length;simp_all⟩
theorem Sm.setArgs{s:Ds}{n:Nat}(a:Sm s n)(v:Nat)(l:List Nat):Sm (Un.setArgs s v l) n:=⟨by rw[(DP s v l).1];exact a.v,a.c,a.k,a.st,a.k0⟩
theorem Dd(q:Dq F G h L ops t R)(e:t.blocks.length<1000)(fin cond:Nat)(nx:List Nat)(state:Nat){d:Option (O×(Nat->V))}(f:d=some (O.cells 3 1 true false (nD nx),λl=> .slice l 0 nx.length)){B:V->Option V}
  (g:∀m,B (.slice m 0 nx.length)=some (.agg (rr ⟨[],fin,cond,nx,[],state⟩ .ed (.slice m 0 nx.length) .ed))) {K:fo}
  (H:∀F' h' R',(∀l,F l->F' l)->Kp F G h h'->Dq F' G h' L ops {s:={t.s with cur:=[]},blocks:=t.blocks++[⟨t.s.cur,fin,cond,nx,t.fu,state⟩],fu:=[]} R'->K (.I t.blocks.length) h') :
  hZ d h λv i=>oP (B v) λw=>gO CS (fX (Js L) [w]) i K:=by
 subst f
 let⟨j,s1,k⟩:=GK q nx
 rw[fI];refine ec (g _) ?_;exact Uy j e ⟨[],fin,cond,nx,[],state⟩ rfl rfl rfl s1 λF' h' R' a b c=>H F' h' R' (by grind[pP]) (k.trans b (pP _ _)) c
end
open Un
section
variable{F F' G G':Nat->Prop}{h h':Hp}{L:Lc}{ops:List Int}{t t':Dt}{R R':Rw}{Q:fo}
theorem XT(q:Dq F G h L ops t R){t':Dt}(e:t=t'):Dq F G h L ops t' R:=e▸q
theorem kgm{F F' G:Nat->Prop}{h h' b:Hp}{a:Nat}(x:Kp F (gm G a) h h')(y:Kp F' G h' b)(c:∀l,F l->F' l):Kp F (gm G a) h b:=x.trans (y.gm a) c
theorem zbj(q:Dq F G h L ops t R)(ho:ops.length<9223372036854775808){n:Nat}(hn:Sm t.s n)(b3:n<800)(hb:t.blocks.length<900){K:Hp->Prop}
  (H:∀F' h' R',(∀l,F l->F' l)->Kp F (gm G L.nW) h h'->Dq F' G h' L ops (fork ops t) R'->Sm (fork ops t).s (n+30)->K h') :
  oP (eC (.ptr L.ie 0) h) λp=>
  oP (eC (.ptr L.pT 0) h) λW=>
  oP (eC (.ptr L.ie 0) h) λX=>
  oP (fD X) λY=>
  gO CS (fX W [Y]) h λZ r=>
  (h.next<=r.next/\
  oP (gP 1 p Z) λaa=>
  oP (eC aa r) λab=>
  ((eC (.ptr L.ie 0) r=some p)/\
  oP (eC (.ptr L.ie 0) r) λac=>
  oP (fD ac) λu=>
  oP (fK 3 (.ptr L.lu 0)) λae=>
  oP (eC ae r) λag=>
  oP (fD ag) λah=>
  oP (ef .add 3 ah (V.I 1)) λai=>
  oP (fK 3 (.ptr L.lu 0)) λaj=>
  oP (eC aj r) λak=>
  oP (fD ak) λal=>
  oP (ef .add 3 al (V.I 2)) λam=>
  hZ (iK 3 1 2 (V.I 0) [(0,ai),(1,am)]) r λan h3=>
  oP (fm [V.ed,(V.I 0),(V.I 0),V.ed,V.ed,(V.I 0)] [(0,1),(1,1),(2,1),(3,1),(4,1),(5,1)] [(1,(V.I 2)),(2,ab),(3,an)]) λao=>
  gO CS (fX (Js L) [ao]) h3 λv h4=>
  hZ (iK 3 1 1 (V.I 0) [(0,v)]) h4 λaq h5=>
  oP (fK 4 (.ptr L.jq 0)) λar=>
  fg (gL 1 ar aq h5) λvu h6=>
  gO CS (fX (Lq L) []) h6 λbQ y=>
  oP (eC (.ptr L.ie 0) y) λau=>
  oP (eC (.ptr L.ie 0) y) λaw=>
  oP (fD aw) λax=>
  oP (ef .sub 3 ax (V.I 1)) λay=>
  oP (gP 1 au ay) λaz=>
  oP (eC az y) λaA=>
  oP (eC (.ptr L.ie 0) y) λaB=>
  oP (iL 1 aB none (some u) y) λaC=>
  fg (gL 1 (.ptr L.ie 0) aC y) λbR h8=>
  oP (fK 3 (.ptr L.lu 0)) λaD=>
  oP (eC aD h8) λaE=>
  oP (fD aE) λaF=>
  oP (ef .add 3 aF (V.I 2)) λaG=>
  hZ (iK 3 1 1 (V.I 0) [(0,aG)]) h8 λaH h9=>
  oP (fm [V.ed,(V.I 0),(V.I 0),V.ed,V.ed,(V.I 0)] [(0,1),(1,1),(2,1),(3,1),(4,1),(5,1)] [(1,(V.I 1)),(3,aH)]) λaI=>
  gO CS (fX (Js L) [aI]) h9 λaJ aK=>
  hZ (iK 3 1 1 (V.I 0) [(0,v)]) aK λaL bi=>
  oP (fK 4 (.ptr L.jq 0)) λaM=>
  fg (gL 1 aM aL bi) λbS aN=>
  gO CS (fX (Lq L) []) aN λbU b=>
  oP (eC (.ptr L.ie 0) b) λaO=>
  oP (eC (.ptr L.ie 0) b) λaP=>
  oP (fD aP) λaQ=>
  oP (ef .sub 3 aQ (V.I 1)) λaR=>
  oP (gP 1 aO aR) λaS=>
  oP (eC aS b) λaT=>
  oP (eC (.ptr L.ie 0) b) λaU=>
  oP (iL 1 aU none (some u) b) λaV=>
  fg (gL 1 (.ptr L.ie 0) aV b) λbV z=>
  oP (fK 3 (.ptr L.lu 0)) λaW=>
  oP (eC aW z) λaX=>
  oP (fD aX) λaY=>
  oP (ef .add 3 aY (V.I 1)) λaZ=>
  hZ (iK 3 1 1 (V.I 0) [(0,aZ)]) z λa0 bj=>
  oP (fm [V.ed,(V.I 0),(V.I 0),V.ed,V.ed,(V.I 0)] [(0,1),(1,1),(2,1),(3,1),(4,1),(5,1)] [(1,(V.I 1)),(3,a0)]) λa1=>
  gO CS (fX (Js L) [a1]) bj λa2 a3=>
  hZ (iK 3 1 2 (V.I 0) [(0,aJ),(1,a2)]) a3 λa4 bm=>
  oP (fK 4 (.ptr L.jq 0)) λa5=>
  fg (gL 1 a5 a4 bm) λbW a=>
  oP (eC (.ptr L.ie 0) a) λe=>
  oP (eC (.ptr L.zt 0) a) λw=>
  vj (iK 3 1 2 (V.I 0) [(0,aA),(1,aT)]) a λo4 a6 d=>
  oP (fm [(V.I 0),(V.I 0),(V.I 0),(V.I 0),V.ed,(V.I 0)] [(0,1),(1,1),(2,1),(3,1),(4,1),(5,1)] [(0,(V.I 21)),(4,a6)]) λa7=>
  ((d.get (a.next)=some o4/\O.beq o4 o4=true)/\
  ((eC (.ptr L.zt 0) d=some w)/\
  ((eC (.ptr L.ie 0) d=some e)/\
  gO CS (fX w [a7]) d λa8 A=>
  (d.next<=A.next/\
  vj (iK 3 1 1 (V.I 0) [(0,a8)]) A λo7 a9 i=>
  ((i.get (A.next)=some o7/\O.beq o7 o7=true)/\
  ((eC (.ptr L.ie 0) i=some e)/\
  fg (eQ 3 1 8 e a9 i) λba B=>
  (i.next<=B.next/\
  fg (gL 1 (.ptr L.ie 0) ba B) λbX C=>
  (B.next<=C.next/\
  gO CS (fX (Lq L) []) C λbY E=>K E)))))))))):=by
 have bb:=hn.k0;refine U7 q ho hn (by omega) λr k2 I=>?_;refine ec I.D.Ae (ec I.D.ok.len ?_);refine ec (by rfl) (ec I.D.ldB (ec I.D.ob.len (ju (m:=1) (show t.blocks.length<_ by omega) (by omega) ?_)));refine ec (by rfl) (ec I.D.ldB (ec I.D.ob.len (ju (m:=2) (show t.blocks.length<_ by omega) (by omega) ?_)));have n2:Sm (fJ ops t.s).2 n:=hn.one;refine Dd I (show t.blocks.length<_ by omega) 2 (fJ ops t.s).1 [t.blocks.length+1,t.blocks.length+2] 0 rfl (λ_=>rfl) λF4 h4 R4 f4 k4 q4=>?_;refine xP q4 [t.blocks.length] rfl λF6 h6 R6 f6 k6 q6=>?_;have q6:=XT (t':=end_ {t with s:=(fJ ops t.s).2} 2 (fJ ops t.s).1 [t.blocks.length+1,t.blocks.length+2] 0 [t.blocks.length]) q6 rfl;have n6:Sm (end_ {t with s:=(fJ ops t.s).2} 2 (fJ ops t.s).1 [t.blocks.length+1,t.blocks.length+2] 0 [t.blocks.length]).s n:=n2.end_ _ _ _ _ _;have J:(end_ {t with s:=(fJ ops t.s).2} 2 (fJ ops t.s).1 [t.blocks.length+1,t.blocks.length+2] 0 [t.blocks.length]).blocks.length=t.blocks.length+1:=by simp[end_]
 have b4:(end_ {t with s:=(fJ ops t.s).2} 2 (fJ ops t.s).1 [t.blocks.length+1,t.blocks.length+2] 0 [t.blocks.length]).s.known.length=t.s.known.length:=rfl;have c:fork ops t=fork ops t:=rfl
 conv at c=>rhs;unfold fork
 simp only at c;have el:({t with s:=(fJ ops t.s).2}:Dt).s.known.length=t.s.known.length:=rfl;rw[el];have kA:=kgm k2 (k4.trans k6 f4) λ_ h=>h;have fA:∀l,F l->F6 l:=by simp_all
 generalize end_ {t with s:=(fJ ops t.s).2} 2 (fJ ops t.s).1 [t.blocks.length+1,t.blocks.length+2] 0 [t.blocks.length]=f at*;refine FT q6 ho n6 (by omega) λF7 y R7 f7 k7 q7 n7=>?_;have x7:=GP ops f.s;have b5:=x7.kl;generalize row ops f.s=s1 at*;have b6:=n7.k;refine Vn q7 (by grind) (by grind) ?_;refine QD q7 (by simp_all) λh8 R8 k8 q8=>?_;have n8:=n7.cut bb (by omega);refine ec (by rfl) (ec q8.D.ldB (ec q8.D.ob.len (ju (m:=2) (show f.blocks.length<_ by omega) (by omega) ?_)));refine Dd q8 (show f.blocks.length<_ by omega) 1 0 [t.blocks.length+3] 0 (by show iK 3 1 1 (V.I 0) [(0,.I ((f.blocks.length+2:Nat):Int))]=_;rw[J];rfl) (λ_=>rfl) λb7 aK Jp b8 bn bo=>?_;refine xP bo [t.blocks.length] rfl λbp aN R12 b9 br M=>?_;have M:=XT (t':=end_ {f with s:=cut t.s.known.length s1} 1 0 [t.blocks.length+3] 0 [t.blocks.length]) M rfl;have bt:Sm (end_ {f with s:=cut t.s.known.length s1} 1 0 [t.blocks.length+3] 0 [t.blocks.length]).s (n+6):=n8.end_ _ _ _ _ _;have x:(end_ {f with s:=cut t.s.known.length s1} 1 0 [t.blocks.length+3] 0 [t.blocks.length]).blocks.length=t.blocks.length+2:=by simp[end_,J]
 have bZ:(end_ {f with s:=cut t.s.known.length s1} 1 0 [t.blocks.length+3] 0 [t.blocks.length]).s.known.length=t.s.known.length:=by
  show(s1.known.take t.s.known.length).length=_;rw[Rh];omega
 have bc:=J;rw[bc];have N:({f with s:=s1}:Dt).s.known.getLastD 0=s1.known.getLastD 0:=rfl;rw[N];have kB:=(((kA.trans k7 fA).trans ((k8.gm L.nW).trans (bn.gm L.nW) λ_ h=>h) (by grind)).trans (br.gm L.nW) (by grind))
 have fB:∀l,F l->bp l:=by grind
 generalize s1.known.getLastD 0=S at*;generalize end_ {f with s:=cut t.s.known.length s1} 1 0 [t.blocks.length+3] 0 [t.blocks.length]=j at*;refine FT M ho bt (by omega) λca b R13 cb bu bd be=>?_;have bv:=GP ops j.s;have b1:=bv.kl;generalize row ops j.s=T at*;have b2:=be.k;refine Vn bd (by grind) (by grind) ?_;refine QD bd (by simp_all) λz R14 bw P=>?_;have bx:=be.cut bb (by omega);refine ec (by rfl) (ec P.D.ldB (ec P.D.ob.len (ju (m:=1) (show j.blocks.length<_ by omega) (by omega) ?_)));refine Dd P (show j.blocks.length<_ by omega) 1 0 [t.blocks.length+3] 0 (by show iK 3 1 1 (V.I 0) [(0,.I ((j.blocks.length+1:Nat):Int))]=_;rw[x];rfl) (λ_=>rfl) λcd a3 ce cf Hi bz=>?_;have bf:=x;rw[bf];refine xP bz [t.blocks.length+1,t.blocks.length+2] rfl λbA a R18 cg bC g=>?_;have g:=XT (t':=end_ {j with s:=cut t.s.known.length T} 1 0 [t.blocks.length+3] 0 [t.blocks.length+1,t.blocks.length+2]) g rfl;have bg:Sm (end_ {j with s:=cut t.s.known.length T} 1 0 [t.blocks.length+3] 0 [t.blocks.length+1,t.blocks.length+2]).s (n+12):=(bx.le (by omega)).end_ _ _ _ _ _;have o:({j with s:=T}:Dt).s.known.getLastD 0=T.known.getLastD 0:=rfl;rw[o];have kC:=(((kB.trans bu fB).trans ((bw.gm L.nW).trans (Hi.gm L.nW) λ_ h=>h) (by simp_all)).trans (bC.gm L.nW) (by grind))
 have fC:∀l,F l->bA l:=by grind
 generalize T.known.getLastD 0=U at*;generalize end_ {j with s:=cut t.s.known.length T} 1 0 [t.blocks.length+3] 0 [t.blocks.length+1,t.blocks.length+2]=t3 at*;refine ec g.D.Ae (ec g.px ?_);have e3:iK 3 1 2 (V.I 0) [(0,V.I S),(1,V.I U)]=some (.cells 3 1 true false (nD [S,U]),λl=> .slice l 0 2):=rfl;rw[e3,hH]
 let⟨Q,bD,bE⟩:=GK g [S,U]
 have ci:(a.new (.cells 3 1 true false (nD [S,U]))).get a.next=_:=eJ _ _;have eP:∀n,fm [(V.I 0),(V.I 0),(V.I 0),(V.I 0),V.ed,(V.I 0)] [(0,1),(1,1),(2,1),(3,1),(4,1),(5,1)] [(0,(V.I 21)),(4,.slice n 0 2)]=some (.agg (yH (vl 21 0 0 0 [S,U] 0) (.slice n 0 2))):=λ_=>rfl;refine ec (eP _) ⟨by simp_all,Q.px,Q.D.Ae,?_⟩;generalize a.new (.cells 3 1 true false (nD [S,U]))=d at*;refine Hc Q bg (by omega) ⟨_,rfl,bD⟩ λC cj bG bH=>?_;refine FT bH ho (bg.hO _) (by omega) λbI E bJ cm bK cn bL=>?_;refine H bI E bJ (by grind[pP]) ((kC.trans ((bE.gm L.nW).trans (bG.gm L.nW) (pP _ _)) fC).trans bK (by grind[pP])) (by simp_all) ?_;rw[c];exact bL.le (by omega)
end
open Un
section
variable{F F' G G':Nat->Prop}{h h':Hp}{L:Lc}{ops:List Int}{t t':Dt}{R R':Rw}{Q:fo}
theorem zbd(q:Dq F G h L ops t R)(O:ops.length<9223372036854775808){n:Nat}(P:Sm t.s n)(aK:n<800)(hb:t.blocks.length<900){K:Hp->Prop}
  (H:∀F' h' R',(∀l,F l->F' l)->Kp F (gm G L.nW) h h'->Dq F' G h' L ops (zJ ops t) R'->Sm (zJ ops t).s (n+30)->K h') :
  oP (eC (.ptr L.ie 0) h) λg=>
  oP (eC (.ptr L.pT 0) h) λU=>
  oP (eC (.ptr L.ie 0) h) λW=>
  oP (fD W) λX=>
  gO CS (fX U [X]) h λY a=>
  (h.next<=a.next/\
  oP (gP 1 g Y) λZ=>
  oP (eC Z a) λaa=>
  ((eC (.ptr L.ie 0) a=some g)/\
  oP (fK 3 (.ptr L.lu 0)) λab=>
  oP (eC ab a) λac=>
  oP (fD ac) λae=>
  oP (ef .add 3 ae (V.I 1)) λag=>
  oP (fK 3 (.ptr L.lu 0)) λah=>
  oP (eC ah a) λi=>
  oP (fD i) λj=>
  oP (ef .add 3 j (V.I 2)) λo=>
  hZ (iK 3 1 2 (V.I 0) [(0,ag),(1,o)]) a λp ai=>
  oP (fm [V.ed,(V.I 0),(V.I 0),V.ed,V.ed,(V.I 0)] [(0,1),(1,1),(2,1),(3,1),(4,1),(5,1)] [(1,(V.I 2)),(2,aa),(3,p)]) λr=>
  gO CS (fX (Js L) [r]) ai λb u=>
  oP (eC (.ptr L.ie 0) u) λv=>
  oP (fD v) λw=>
  hZ (iK 3 1 1 (V.I 0) [(0,b)]) u λx aj=>
  oP (fK 4 (.ptr L.jq 0)) λy=>
  fg (gL 1 y x aj) λak al=>
  gO CS (fX (Lq L) []) al λaH z=>
  oP (eC (.ptr L.VN 0) z) λA=>
  gO CS (fX A []) z λB am=>
  oP (fm [V.ed,(V.I 0),(V.I 0),V.ed,V.ed,(V.I 0)] [(0,1),(1,1),(2,1),(3,1),(4,1),(5,1)] [(1,(V.I 3)),(5,B)]) λC=>
  gO CS (fX (Js L) [C]) am λaI d=>
  oP (eC (.ptr L.ie 0) d) λE=>
  oP (iL 1 E none (some w) d) λI=>
  fg (gL 1 (.ptr L.ie 0) I d) λan ao=>
  hZ (iK 3 1 1 (V.I 0) [(0,b)]) ao λJ aq=>
  oP (fK 4 (.ptr L.jq 0)) λM=>
  fg (gL 1 M J aq) λar au=>
  gO CS (fX (Lq L) []) au λaJ aw=>K aw)):=by
 have ax:=P.k0;have hk:=P.k;refine U7 q O P (by omega) λh2 Q f=>?_;refine ec (by rfl) (ec f.D.ldB (ec f.D.ob.len (ju (m:=1) (show t.blocks.length<_ by omega) (by omega) ?_)));refine ec (by rfl) (ec f.D.ldB (ec f.D.ob.len (ju (m:=2) (show t.blocks.length<_ by omega) (by omega) ?_)));have n2:Sm (fJ ops t.s).2 n:=P.one;refine Dd f (show t.blocks.length<_ by omega) 2 (fJ ops t.s).1 [t.blocks.length+1,t.blocks.length+2] 0 rfl (λ_=>rfl) λF4 h4 R4 f4 k4 S=>?_;refine ec S.D.Ae (ec S.D.ok.len ?_);refine xP S [t.blocks.length] rfl λF6 h6 R6 f6 k6 q6=>?_;have q6:=XT (t':=end_ {t with s:=(fJ ops t.s).2} 2 (fJ ops t.s).1 [t.blocks.length+1,t.blocks.length+2] 0 [t.blocks.length]) q6 rfl;have n6:Sm (end_ {t with s:=(fJ ops t.s).2} 2 (fJ ops t.s).1 [t.blocks.length+1,t.blocks.length+2] 0 [t.blocks.length]).s n:=n2.end_ (t:={t with s:=(fJ ops t.s).2}) _ _ _ _ _;have aL:(end_ {t with s:=(fJ ops t.s).2} 2 (fJ ops t.s).1 [t.blocks.length+1,t.blocks.length+2] 0 [t.blocks.length]).blocks.length=t.blocks.length+1:=by simp[end_]
 have aM:(end_ {t with s:=(fJ ops t.s).2} 2 (fJ ops t.s).1 [t.blocks.length+1,t.blocks.length+2] 0 [t.blocks.length]).s.known.length=t.s.known.length:=rfl;have hx:zJ ops t=zJ ops t:=rfl
 conv at hx=>rhs;unfold zJ
 simp only at hx;have kA:=kgm Q (k4.trans k6 f4) λ_ h=>h;have fA:∀l,F l->F6 l:=by simp_all
 generalize end_ {t with s:=(fJ ops t.s).2} 2 (fJ ops t.s).1 [t.blocks.length+1,t.blocks.length+2] 0 [t.blocks.length]=c at*;clear f S Q k4 k6;refine FT q6 O n6 (by omega) λF7 h7 R7 f7 k7 q7 n7=>?_;have x7:=GP ops c.s;have aN:=x7.kl;generalize row ops c.s=s1 at*;refine ec q7.Ke ?_;refine N3 q7 O n7 (by omega) λF8 h8 R8 f8 k8 q8 T=>?_;have x8:=K1 ops s1;have aO:=x8.kl;have e8:fG ops ({c with s:=s1}:Dt).s=fG ops s1:=rfl;rw[e8];have q8:Dq F8 G h8 L ops {c with s:=(fG ops s1).2} R8:=q8;have T:Sm (fG ops s1).2 (n+6+1):=T;generalize (fG ops s1).2=s2 at*;generalize (fG ops s1).1=N at*;have eB:fm [V.ed,(V.I 0),(V.I 0),V.ed,V.ed,(V.I 0)] [(0,1),(1,1),(2,1),(3,1),(4,1),(5,1)] [(1,(V.I 3)),(5,.I N)]=some (.agg (rr ⟨[],3,0,[],[],N⟩ .ed .ed .ed)):=rfl;refine ec eB ?_;have aP:=T.k;refine Uy q8 (show c.blocks.length<_ by omega) ⟨[],3,0,[],[],N⟩ rfl rfl rfl .nil λF9 h9 R9 f9 k9 q9=>?_;refine QD q9 (m:=t.s.known.length) (by grind) λaQ Jp ay az=>?_;refine xP az [t.blocks.length] rfl λaR aS R11 aT aA e=>?_;have e:=XT (t':=end_ {c with s:=cut t.s.known.length s2} 3 0 [] N [t.blocks.length]) e rfl;have aB:Sm (end_ {c with s:=cut t.s.known.length s2} 3 0 [] N [t.blocks.length]).s (n+7):=(T.cut ax (by omega)).end_ (t:={c with s:=cut t.s.known.length s2}) _ _ _ _ _;refine FT e O aB (by omega) λaC aD R12 aU aE aV aF=>?_;have aG:∀l,F l->F8 l:=by grind
 refine H aC aD R12 (by grind) ?_ (by simp_all) ?_
 ·have k1:=(kA.trans k7 fA).trans k8 (by grind);have Q:=((k9.gm L.nW).trans (ay.gm L.nW) f9).trans (aA.gm L.nW) f9;exact(k1.trans Q aG).trans aE (by grind)
 ·rw[hx];exact aF.le (by omega)
end
