/- Parts. -/
import Derived.Test.YtloecllhljfidaaGreatDoorM20
set_option maxHeartbeats 4000000
namespace Go.Proofs.YtloecllhljfidaaGreatDoor.Hx
open Un
variable{s:Ds}
theorem iB{b:Bool}{A B:Prop}(h:if b=true then A else B):bP (.bool b) A B:=by simp_all
theorem XU(ops:List Int)(s:Ds):rows ops 0 s=s:=rfl
theorem Xo(ops:List Int)(k:Nat)(s:Ds)(h:¬s.ej.length<200):rows ops k s=s:=by
 cases k <;> simp_all[rows,if_neg]
theorem Yh(ops:List Int)(k:Nat)(s:Ds)(h:s.ej.length<200):rows ops (k+1) s=rows ops k (vL ops s):=by
 simp_all[rows,if_pos]
section
variable{F F' G G':Nat->Prop}{h h':Hp}{L:Lc}{ops:List Int}{t t':Dt}{R R':Rw}{Q:fq}
theorem Sm.one{n:Nat}(a:Sm s n):Sm (fQ ops s).2 n:=a.pos _
theorem Sm.num{n:Nat}(a:Sm s n)(m:Nat):Sm (num ops s m).2 n:=a.pos _
theorem zfJ{n:Nat}(a:Sm s n)(ops:List Int)(x:Vl):Sm (put (fN ops s).2 x) (n+1):=by
 let⟨p,hp⟩:=Hv ops (num ops s 4).1 (num ops s 4).2 []
 have e:(fN ops s).2 = {s with pos:=p,eo:=(fN ops s).2.eo}:=by
  unfold fN;simp only[hp];rfl
 have h:=a.state ops;rw[e]at h⊢;exact⟨rZ a.v,rZ a.c,h.k,h.st,h.k0⟩
theorem zdz(q:Dq F G h L ops t R)(v:ops.length<9223372036854775808){n:Nat}(hn:Sm t.s n)(ad:n<900)
  (H:∀F' h' R',(∀l,F l->F' l)->Kp F (gm G L.oY) h h'->Dq F' G h' L ops {t with s:=row ops t.s} R'->Sm (row ops t.s) (n+6)->Q (.tuple []) h') :
  cP CS j8 [.ptr L.qQ 0,.ptr L.lu 0,.ptr L.iA 0,.ptr L.Aa 0,.ptr L.WQ 0] h Q:=by
 refine EF ?_;refine eh q.xY ?_;show cP CS fD [.I ((6:Nat):Int),.ptr L.oY 0,.ptr L.lr 0] h _;refine yR q (by decide) (by decide) v λh0 k0 q0=>?_;have hr:(draw ops t.s.pos 6).1<6:=by simp_all[yS]
 refine ka (n:=1) (by decide) (by omega) ?_
 refine Bo (λk S T U W X Y h'=>∃(F':Nat->Prop) (R':Rw) (s:Ds),S = .ptr L.qQ 0/\T = .ptr L.lu 0/\U = .ptr L.iA 0/\W = .ptr L.Aa 0/\X = .ptr L.WQ 0/\Y = .I (k:Nat)/\(∀l,F l->F' l)/\
  Kp F (gm G L.oY) h h'/\Dq F' G h' L ops {t with s:=s} R'/\rows ops k s=row ops t.s/\∃m,Sm s m/\m+k<=n+6) ?_
  ⟨F,R,(num ops t.s 6).2,rfl,rfl,rfl,rfl,rfl,rfl,λ_ h=>h,k0,q0,rfl,n,hn.num 6,by omega⟩
 rintro k S T U W X Y h' ⟨p,B,s,rfl,rfl,rfl,rfl,rfl,rfl,M,Z,C,j,m,N,ae⟩;unfold na;refine eh (by rw[nN]) ?_;have lv:=C.D.ov.len;have eA:jI (.bool (decide ((0:Int)<(k:Nat)))) (oB (fI 2 (.ptr L.lu 0)) λaa=>oB (fe aa h') λab=>oB (fE ab) λac=>ez .lss 3 ac (V.I 200))=some (.bool (decide ((0:Int)<(k:Nat))&&decide (((s.ej.length:Nat):Int)<200))):=by
  simp only[gf,ft,C7,C.D.YG,lv,j7,mb]
 refine eh eA (iB ?_)
 cases k with
 | zero=>
   refine fP (by simp) ?_;rw[XU]at j
   refine H p h' B M Z (by simp_all) (by rw[<-j];exact N.le (by omega))
 | succ k=>
   by_cases Nr:s.ej.length<200;rotate_left
   ·refine fP (by simp;omega) ?_
    rw[Xo _ _ _ Nr]at j;refine H p h' B M Z (by simp_all) (by rw[<-j];exact N.le (by omega))
   refine fW (by simp;omega) ?_;have E:rows ops k (vL ops s)=row ops t.s:=by rw[<-j,Yh _ _ _ Nr]
   clear j eA;refine eh C.D.AW (eh C.xY (eh C.D.AW (eh C.D.ok.len ?_)));show cP CS fD [.I (s.known.length:Nat),.ptr L.oY 0,.ptr L.lr 0] h' _;refine Nw C v N (by omega) λh2 l o k2 I _ i1 J=>⟨k2.next,eh i1 (eh J ⟨I.D.AW,?_⟩)⟩
   have J:True:=trivial;refine eh I.D.AW (eh I.xY (eh I.D.AW (eh I.D.ok.len ?_)));show cP CS fD [.I ((fQ ops s).2.known.length:Nat),.ptr L.oY 0,.ptr L.lr 0] h2 _;refine Nw I v N.one (by omega) λh3 l' o' k3 q3 _ j1 j2=>⟨k3.next,eh j1 (eh j2 ⟨q3.D.AW,?_⟩)⟩
   refine eh q3.xY ?_;show cP CS fD [.I ((20:Nat):Int),.ptr L.oY 0,.ptr L.lr 0] h3 _;refine yR q3 (by decide) (by decide) v λA k4 d=>?_;have d:Dq p G A L ops {t with s:=(num ops (fQ ops (fQ ops s).2).2 20).2} B:=d;have g:Sm (num ops (fQ ops (fQ ops s).2).2 20).2 m:=N.one.one.num 20;have kk:Kp F (gm G L.oY) h A:=((Z.trans k2 M).trans k3 M).trans k4 M;have w:vL ops s=tp ops (num ops (fQ ops (fQ ops s).2).2 20).2 (num ops (fQ ops (fQ ops s).2).2 20).1 (fQ ops s).1 (fQ ops (fQ ops s).2).1:=rfl;rw[w]at E;have ek:(draw ops ({t with s:=(fQ ops ({t with s:=(fQ ops ({t with s:=s}:Dt).s).2}:Dt).s).2}:Dt).s.pos 20).1=(num ops (fQ ops (fQ ops s).2).2 20).1:=rfl;rw[ek];clear ek;have ag:(num ops (fQ ops (fQ ops s).2).2 20).1<20:=yS _ _ (by decide);generalize (num ops (fQ ops (fQ ops s).2).2 20).2=s4 at*;generalize (num ops (fQ ops (fQ ops s).2).2 20).1=kd at*;have ea:(fQ ops ({t with s:=s}:Dt).s).1=(fQ ops s).1:=rfl;have eb:(fQ ops ({t with s:=(fQ ops ({t with s:=s}:Dt).s).2}:Dt).s).1=(fQ ops (fQ ops s).2).1:=rfl;rw[ea,eb];generalize (fQ ops s).1=a at*;generalize (fQ ops (fQ ops s).2).1=b at*;clear q3 I C Z k2 k3 k4 j1 j2 lv w
   have fin:∀(F2:Nat->Prop) (e:Hp) (R2:Rw) (O:Ds),(∀l,p l->F2 l)->Kp p (gm G L.oY) A e->Dq F2 G e L ops {t with s:=O} R2->O=tp ops s4 kd a b->Sm O (m+1)->
       gD Q (λS T U W X Y hh=>∃k',k' < k+1/\∃(F':Nat->Prop) (R':Rw) (s:Ds),S = .ptr L.qQ 0/\T = .ptr L.lu 0/\U = .ptr L.iA 0/\W = .ptr L.Aa 0/\X = .ptr L.WQ 0/\Y = .I (k':Nat)/\(∀l,F l->F' l)/\
         Kp F (gm G L.oY) h hh/\Dq F' G hh L ops {t with s:=s} R'/\rows ops k' s=row ops t.s/\∃m,Sm s m/\m+k'<=n+6) (.ptr L.qQ 0) (.ptr L.lu 0) (.ptr L.iA 0) (.ptr L.Aa 0) (.ptr L.WQ 0) (.I ((k+1:Nat):Int)) e:=by
     intro F2 e R2 O ah f c e5 m5;refine BI ?_;unfold nz;refine sR (by omega) (by omega) ?_;exact⟨k,by omega,F2,R2,O,rfl,rfl,rfl,rfl,rfl,rfl,by simp_all,kk.trans f M,c,by simp_all,m+1,m5,by omega⟩
   by_cases c0:kd<12
   ·refine gy ?_
    refine eh d.D.AW (eh d.qk (ka (n:=3) (by decide) (by omega) ?_));have eP:∀o:Nat,fT [(V.I 0),(V.I 0),(V.I 0),(V.I 0),V.ei,(V.I 0)] [(0,1),(1,1),(2,1),(3,1),(4,1),(5,1)] [(0,.I (o:Nat)),(1,.I (a:Nat)),(2,.I (b:Nat))]=some (.agg (mh (vl o a b 0 [] 0) .ei)):=λ_=>rfl;refine eh (eP _) ?_;exact Ir d g (by omega) ⟨_,rfl,.nil⟩ λe K f c=>fin p e K _ (by simp_all) (f.gm _) c (by simp_all[tp,if_pos]) (g.iO _)
   refine hY ?_;by_cases c1:kd=12
   ·refine fX (fW (by omega) ?_)
    refine eh d.D.AW (eh d.qk (eh d.xY ?_));show cP CS fD [.I ((1048576:Nat):Int),.ptr L.oY 0,.ptr L.lr 0] A _;refine yR d (by decide) (by decide) v λe f c=>⟨f.next,?_⟩
    have c:Dq p G e L ops {t with s:=(num ops s4 1048576).2} B:=c;have hd:(draw ops s4.pos 1048576).1<1048576:=by simp_all[yS]
    have ew:lO .i64 (((draw ops s4.pos 1048576).1:Int)-9)=((draw ops s4.pos 1048576).1:Int)-9:=by grind[qi,sO]
    refine eh (by rw[pI]) ?_;rw[show(lO .i64 (((draw ops ({t with s:=s4}:Dt).s.pos 1048576).1:Int)-9))=((draw ops s4.pos 1048576).1:Int)-9 from ew];have eP:∀i:Int,fT [(V.I 0),(V.I 0),(V.I 0),(V.I 0),V.ei,(V.I 0)] [(0,1),(1,1),(2,1),(3,1),(4,1),(5,1)] [(0,(V.I 2)),(3,.I i)]=some (.agg (mh (vl 2 0 0 i [] 0) .ei)):=λ_=>rfl;refine eh (eP _) ⟨c.qk,c.D.AW,?_⟩;exact Ir c (g.num _) (by omega) ⟨_,rfl,.nil⟩ λx y r u=>fin p x y _ (by simp_all) (f.trans (r.gm _) λ_ h=>h) u (by unfold tp;rw[if_neg c0,if_pos c1];rfl) ((g.num _).iO _)
   refine fX (fP (by omega) ?_);by_cases c2:kd=13
   ·refine fX (fW (by omega) ?_)
    refine eh d.D.AW (eh d.qk (eh d.xY ?_));show cP CS fD [.I ((5:Nat):Int),.ptr L.oY 0,.ptr L.lr 0] A _;refine yR d (by decide) (by decide) v λe f c=>⟨f.next,?_⟩
    have c:Dq p G e L ops {t with s:=(num ops s4 5).2} B:=c;have eP:∀n:Nat,fT [(V.I 0),(V.I 0),(V.I 0),(V.I 0),V.ei,(V.I 0)] [(0,1),(1,1),(2,1),(3,1),(4,1),(5,1)] [(0,(V.I 17)),(1,.I (a:Nat)),(3,.I (n:Nat))]=some (.agg (mh (vl 17 a 0 (n:Nat) [] 0) .ei)):=λ_=>rfl;refine eh (eP _) ⟨c.qk,c.D.AW,?_⟩;exact Ir c (g.num _) (by omega) ⟨_,rfl,.nil⟩ λx y r u=>fin p x y _ (by simp_all) (f.trans (r.gm _) λ_ h=>h) u (by unfold tp;rw[if_neg c0,if_neg c1,if_pos c2];rfl) ((g.num _).iO _)
   refine fX (fP (by omega) ?_);by_cases c3:kd=14
   ·refine fX (fW (by omega) ?_)
    refine eh d.D.AW (eh d.qk ?_);have eP:fT [(V.I 0),(V.I 0),(V.I 0),(V.I 0),V.ei,(V.I 0)] [(0,1),(1,1),(2,1),(3,1),(4,1),(5,1)] [(0,(V.I 18)),(1,.I (a:Nat)),(2,.I (b:Nat))]=some (.agg (mh (vl 18 a b 0 [] 0) .ei)):=rfl;refine eh eP ?_;exact Ir d g (by omega) ⟨_,rfl,.nil⟩ λe K f c=>fin p e K _ (by simp_all) (f.gm _) c (by simp_all[tp,if_neg,if_pos]) (g.iO _)
   refine fX (fP (by omega) ?_);by_cases c4:kd=15
   ·refine fX (fW (by omega) ?_)
    refine eh d.qk (eh d.xY ?_);show cP CS fD [.I ((5:Nat):Int),.ptr L.oY 0,.ptr L.lr 0] A _;refine yR d (by decide) (by decide) v λe f c=>⟨f.next,?_⟩
    have c:Dq p G e L ops {t with s:=(num ops s4 5).2} B:=c;have eP:∀n:Nat,fT [(V.I 0),(V.I 0),(V.I 0),(V.I 0),V.ei,(V.I 0)] [(0,1),(1,1),(2,1),(3,1),(4,1),(5,1)] [(0,(V.I 19)),(1,.I (a:Nat)),(3,.I (n:Nat)),(2,.I (b:Nat))]=some (.agg (mh (vl 19 a b (n:Nat) [] 0) .ei)):=λ_=>rfl;refine eh (eP _) ⟨c.qk,?_⟩;refine KY c (g.num _) (by omega) ⟨_,rfl,.nil⟩ λx y r _ u=>⟨r.next,?_⟩
    exact fin p x y _ (by simp_all) (f.trans (r.gm _) λ_ h=>h) u (by unfold tp;rw[if_neg c0,if_neg c1,if_neg c2,if_neg c3,if_pos c4];rfl) ((g.num _).put _)
   refine fX (fP (by omega) ?_);by_cases c5:kd=16
   ·refine fX (fW (by omega) ?_)
    refine eh d.qk (eh d.D.AW (eh d.xY (eh d.D.AW (eh d.D.ok.len ?_))));show cP CS fD [.I (s4.known.length:Nat),.ptr L.oY 0,.ptr L.lr 0] A _;refine Nw d v g (by omega) λe l o f c hl i1 J=>⟨f.next,eh i1 (eh J ?_)⟩
    have c:Dq p G e L ops {t with s:=(fQ ops s4).2} B:=c;have J:fe (.ptr l o) e=some (.I ((fQ ops s4).1:Nat)):=J;have e3:iS 3 1 1 (V.I 0) [(0,V.I ((fQ ops s4).1:Nat))]=some (.cells 3 1 true false [V.I ((fQ ops s4).1:Nat)],λl=> .slice l 0 1):=rfl;show xB (iS 3 1 1 (V.I 0) [(0,V.I ((fQ ops s4).1:Nat))]) e _;rw[e3,gO];have eP:∀n:Nat,fT [(V.I 0),(V.I 0),(V.I 0),(V.I 0),V.ei,(V.I 0)] [(0,1),(1,1),(2,1),(3,1),(4,1),(5,1)] [(0,(V.I 20)),(1,.I (a:Nat)),(2,.I (b:Nat)),(4,.slice n 0 1)]=some (.agg (mh (vl 20 a b 0 [(fQ ops s4).1] 0) (.slice n 0 1))):=λ_=>rfl;have D6:=c.D.new (.cells 3 1 true false [V.I ((fQ ops s4).1:Nat)]);have r:=c.D.zN (.cells 3 1 true false [V.I ((fQ ops s4).1:Nat)]);have u:=c.step r D6 (qR _ _) c.gl c.hq rfl;have g6:(e.new (.cells 3 1 true false [V.I ((fQ ops s4).1:Nat)])).get e.next=_:=fm _ _;refine eh (eP _) ⟨by simp_all,ij J (fo _ hl),D6.AW,u.qk,?_⟩
    have hs:il eN (fz p e.next) (e.new (.cells 3 1 true false [V.I ((fQ ops s4).1:Nat)])) [(fQ ops s4).1] (.slice e.next 0 1):=
      .inr ⟨e.next,0,3,true,false,[V.I ((fQ ops s4).1:Nat)],rfl,.inr rfl,g6,.inr rfl,Mr _,⟨_,[],rfl,rfl,trivial⟩⟩
    refine KY u (g.one) (by omega) ⟨_,rfl,hs⟩ λh7 R7 k7 _ q7=>⟨k7.next,?_⟩
    exact fin (fz p e.next) h7 R7 _ (qR _ _) ((f.trans (r.gm _) λ_ h=>h).trans (k7.gm _) (qR _ _)) q7 (by simp_all[tp,if_neg,if_pos]) (g.one.put _)
   refine fX (fP (by omega) ?_);by_cases c6:kd=17
   ·refine fX (fW (by omega) ?_)
    refine eh d.qk (eh d.KN ?_);show cP CS gz [.ptr L.lu 0,.ptr L.qQ 0,.ptr L.iA 0] A _;refine Oq d g.k0 (by have:=g.k;grind) (by have:=g.st;grind) v λP e K z f c _=>⟨f.next,?_⟩
    have c:Dq P G e L ops {t with s:=(fN ops s4).2} K:=c;have eP:∀n:Nat,fT [(V.I 0),(V.I 0),(V.I 0),(V.I 0),V.ei,(V.I 0)] [(0,1),(1,1),(2,1),(3,1),(4,1),(5,1)] [(0,(V.I 22)),(1,.I (a:Nat)),(5,.I (n:Nat))]=some (.agg (mh (vl 22 a 0 0 [] n) .ei)):=λ_=>rfl;refine eh (eP _) ⟨c.qk,?_⟩;refine KY c (g.state ops) (by omega) ⟨_,rfl,.nil⟩ λx y r _ u=>⟨r.next,?_⟩
    exact fin P x y _ z (f.trans (r.gm _) z) u (by simp_all[tp,if_neg,if_pos]) (zfJ g ops _)
   refine fX (fP (by omega) ?_);by_cases c7:kd=18
   ·refine fX (fW (by omega) ?_)
    refine eh d.qk (eh d.KN ?_);show cP CS gz [.ptr L.lu 0,.ptr L.qQ 0,.ptr L.iA 0] A _;refine Oq d g.k0 (by have:=g.k;grind) (by have:=g.st;grind) v λP e K z f c _=>⟨f.next,?_⟩
    have c:Dq P G e L ops {t with s:=(fN ops s4).2} K:=c;have eP:∀n:Nat,fT [(V.I 0),(V.I 0),(V.I 0),(V.I 0),V.ei,(V.I 0)] [(0,1),(1,1),(2,1),(3,1),(4,1),(5,1)] [(0,(V.I 23)),(5,.I (n:Nat))]=some (.agg (mh (vl 23 0 0 0 [] n) .ei)):=λ_=>rfl;refine eh (eP _) ⟨c.qk,?_⟩;refine KY c (g.state ops) (by omega) ⟨_,rfl,.nil⟩ λx y r _ u=>⟨r.next,?_⟩
    exact fin P x y _ z (f.trans (r.gm _) z) u (by simp_all[tp,if_neg,if_pos]) (zfJ g ops _)
   refine fX (fP (by omega) ?_);refine eh d.D.AW (eh d.qk (eh d.xY ?_));show cP CS fD [.I ((2:Nat):Int),.ptr L.oY 0,.ptr L.lr 0] A _;refine yR d (by decide) (by decide) v λe f c=>⟨f.next,?_⟩
   have c:Dq p G e L ops {t with s:=(num ops s4 2).2} B:=c;have hd:(draw ops s4.pos 2).1<2:=by simp_all[yS]
   refine ka (n:=15) (by decide) (by grind) ?_;have eP:∀o:Nat,fT [(V.I 0),(V.I 0),(V.I 0),(V.I 0),V.ei,(V.I 0)] [(0,1),(1,1),(2,1),(3,1),(4,1),(5,1)] [(0,.I (o:Nat)),(1,.I (a:Nat))]=some (.agg (mh (vl o a 0 0 [] 0) .ei)):=λ_=>rfl;refine eh (eP _) ⟨c.qk,c.D.AW,?_⟩;exact Ir c (g.num _) (by omega) ⟨_,rfl,.nil⟩ λx y r u=>fin p x y _ (by simp_all) (f.trans (r.gm _) λ_ h=>h) u (by unfold tp;rw[if_neg c0,if_neg c1,if_neg c2,if_neg c3,if_neg c4,if_neg c5,if_neg c6,if_neg c7];rfl) ((g.num _).iO _)
end
open Un
structure II (s s':Ds):Prop where
 k:∃l,s'.known=s.known++l
 v:∃l,s'.ej=s.ej++l
theorem II.refl(s:Ds):II s s:=⟨by simp_all,by simp_all⟩
theorem II.trans{s' c:Ds}(a:II s s')(b:II s' c):II s c:=by
 let⟨⟨d,e⟩,⟨f,g⟩⟩:=a
 let⟨⟨h,i⟩,⟨j,k⟩⟩:=b
 exact⟨by simp_all,by simp_all⟩
theorem II.kl{s':Ds}(a:II s s'):s.known.length<=s'.known.length:=by
 let⟨⟨b,c⟩,_⟩:=a
 simp_all
theorem LI(ops:List Int)(s:Ds):II s (fN ops s).2:=by
 let⟨p,hp⟩:=Hv ops (num ops s 4).1 (num ops s 4).2 []
 unfold fN;simp[hp];exact⟨by simp_all[num],by simp_all[num]⟩
theorem Hi(s:Ds)(x:Vl):II s (iO s x):=⟨⟨_,rfl⟩,⟨_,rfl⟩⟩
theorem Nl(s:Ds)(x:Vl):II s (put s x):=⟨by simp_all[put],⟨_,rfl⟩⟩
theorem HX(ops:List Int)(s:Ds)(m:Nat):II s (num ops s m).2:=⟨by simp_all[num],by simp_all[num]⟩
theorem Rq(ops:List Int)(s:Ds):II s (fQ ops s).2:=⟨by simp_all[fQ],by simp_all[fQ]⟩
theorem zam(ops:List Int)(s:Ds)(k a b:Nat):II s (tp ops s k a b):=by
 unfold tp;split
 ·grind[Hi]
 split
 ·exact(HX _ _ _).trans (Hi _ _)
 split
 ·exact(HX _ _ _).trans (Hi _ _)
 split
 ·grind[Hi]
 split
 ·exact(HX _ _ _).trans (Nl _ _)
 split
 ·exact(Rq _ _).trans (Nl _ _)
 split
 ·exact(LI _ _).trans (Nl _ _)
 split
 ·exact(LI _ _).trans (Nl _ _)
 ·exact(HX _ _ _).trans (Hi _ _)
theorem SQ(ops:List Int):∀i s,II s (rows ops i s)
 |0,s=> .refl s
 | i+1,s=>by
   unfold rows;split
   ·exact(((Rq ops s).trans (Rq ops _)).trans ((HX ops _ 20).trans (zam _ _ _ _ _))).trans (SQ ops i _)
   ·exact .refl s
theorem HT(ops:List Int)(s:Ds):II s (row ops s):=(HX ops s 6).trans (SQ ops _ _)
def Mm(L:Lc):V:= .func j8 [] [.ptr L.qQ 0,.ptr L.lu 0,.ptr L.iA 0,.ptr L.Aa 0,.ptr L.WQ 0]
def Lq(L:Lc):V:= .func mA [] [.ptr L.jx 0,.ptr L.lu 0]
def ig(xs:List Nat):List V:=xs.map λn=> .I (n:Nat)
section
variable{F F' G G':Nat->Prop}{h h':Hp}{L:Lc}{ops:List Int}{t t':Dt}{R R':Rw}{Q:fq}
theorem GR(q:Dq F G h L ops t R)(xs:List Nat):Dq (fz F h.next) G (h.new (.cells 3 1 true false (ig xs))) L ops t R/\il eN (fz F h.next) (h.new (.cells 3 1 true false (ig xs))) xs (.slice h.next 0 xs.length)/\Kp F G h (h.new (.cells 3 1 true false (ig xs))):=by
 have k:=q.D.zN (.cells 3 1 true false (ig xs));exact⟨q.step k (q.D.new _) (qR _ _) q.gl q.hq rfl,.inr ⟨h.next,0,3,true,false,ig xs,rfl,.inr rfl,fm _ _,.inr rfl,Mr _,xC _ _ xs⟩,k⟩
theorem zd(q:Dq F G h L ops t R)(xs:List Nat){b:Option (O×(Nat->V))}(hx:b=some (O.cells 3 1 true false (ig xs),λl=> .slice l 0 xs.length)){K:Hp->Prop}
  (H:∀F' h' R',(∀l,F l->F' l)->Kp F G h h'->Dq F' G h' L ops {t with fh:=xs} R'->K h') :
  gS b h λv e=>oP (fI 4 (.ptr L.jx 0)) λf=>fj (gq 1 f v e) λ_ g=>K g:=by
 subst hx
 let⟨a,i,j⟩:=GR q xs
 rw[fu,gf,iQ];have k:=o0 (o:=4) (qY:=[R.cc,.I 0,.I 0,.ei,.slice h.next 0 xs.length,.I 0]) a.D.gb (by simp) rfl rfl
 let⟨d,D2⟩:=a.D.zc6 (c:=R.cc) i
 rw[ k];exact H _ _ _ (qR _ _) (j.trans d (qR _ _)) (a.step d D2 (by simp_all) q.gl a.hq rfl)
theorem VP(q:Dq F G h L ops t R)(e:t.blocks.length<1000)(b:Bk){w nv:V}(f:w = .agg (ku b .ei nv .ei))(a:b.ej=[])(c:b.fh=[])(d:il eN F h b.next nv){K:fq}
  (H:∀F' h' R',(∀l,F l->F' l)->Kp F G h h'->Dq F' G h' L ops {s:={t.s with cur:=[]},blocks:=t.blocks++[⟨t.s.cur,b.fin,b.cond,b.next,t.fh,b.state⟩],fh:=[]} R'->K (.I t.blocks.length) h') :
  gY CS (gi (Lq L) [w]) h K:=by
 subst f;exact zed (n:=0) q e a c d H
theorem G9(q:Dq F G h L ops t R)(b:ops.length<9223372036854775808){n:Nat}(c:Sm t.s n)(a:n<900){K:fq}
  (H:∀F' h' R',(∀l,F l->F' l)->Kp F (gm G L.oY) h h'->Dq F' G h' L ops {t with s:=row ops t.s} R'->Sm (row ops t.s) (n+6)->K (.tuple []) h') :
  gY CS (gi (Mm L) []) h K:=zdz q b c a H
theorem Wn(q:Dq F G h L ops t R)(hk:0<t.s.known.length)(c:t.s.known.length<1000){K:V->Prop}(H:K (.I (t.s.known.getLastD 0:Nat))) :
  oP (fe (.ptr L.iA 0) h) λa=>oP (fe (.ptr L.iA 0) h) λb=>oP (fE b) λn=>oP (ez .sub 3 n (.I 1)) λi=>oP (gB 1 a i) λp=>oP (fe p h) K:=by
 let⟨l,o,_,_,d,e⟩:=q.Ib (i:=t.s.known.length-1) (by omega)
 refine eh q.D.AW (eh q.D.AW (eh q.D.ok.len (sR (by omega) hk (eh d (eh e ?_)))))
 grind
theorem QL(q:Dq F G h L ops t R){m:Nat}(c:m<=t.s.known.length){K:Hp->Prop}(H:∀h' R',Kp F G h h'->Dq F G h' L ops {t with s:=cut m t.s} R'->K h') :
  oP (fe (.ptr L.iA 0) h) λa=>oP (iY 1 a none (some (.I m)) h) λs=>fj (gq 1 (.ptr L.iA 0) s h) λ_ b=>K b:=by
 let⟨v',b,d,e,_,k,D2⟩:=q.D.zgC c
 refine eh q.D.AW (eh d ?_);rw[e,en];exact H _ _ k (q.step k D2 (by simp_all) q.gl q.hq rfl)
theorem Vm(q:Dq F G h L ops t R)(j:ops.length<9223372036854775808){n:Nat}(k:Sm t.s n)(d:n<1000){K:fq}
  (H:∀h',Kp F (gm G L.oY) h h'->Dq F G h' L ops {t with s:=(fQ ops t.s).2} R->K (.I ((fQ ops t.s).1:Nat)) h') :
  oP (fe (.ptr L.iA 0) h) λa=>oP (fe (.ptr L.qQ 0) h) λf=>oP (fe (.ptr L.iA 0) h) λb=>oP (fE b) λn=>gY CS (gi f [n]) h λi c=>(h.next<=c.next/\oP (gB 1 a i) λp=>oP (fe p c) λv=>((fe (.ptr L.iA 0) c=some a)/\K v c)):=by
 refine eh q.D.AW (eh q.xY (eh q.D.AW (eh q.D.ok.len ?_)));show cP CS fD [.I t.s.known.length,.ptr L.oY 0,.ptr L.lr 0] h _;exact Nw q j k d λc l o e g _ m r=>⟨e.next,eh m (eh r ⟨g.D.AW,H _ e g⟩)⟩
theorem OI(q:Dq F G h L ops t R)(e:ops.length<9223372036854775808){n:Nat}(d:Sm t.s n)(f:n<999){K:fq}
  (H:∀F' h' R',(∀l,F l->F' l)->Kp F (gm G L.oY) h h'->Dq F' G h' L ops {t with s:=(fN ops t.s).2} R'->Sm (fN ops t.s).2 (n+1)->K (.I ((fN ops t.s).1:Nat)) h') :
  gY CS (gi (Vn L) []) h K:=by
 show cP CS gz [.ptr L.lu 0,.ptr L.qQ 0,.ptr L.iA 0] h _;have g:=d.k;have i:=d.st;exact Oq q d.k0 (by omega) (by omega) e λF' h' R' a b c _=>H F' h' R' a b c (d.state ops)
theorem Sm.end_{t:Dt}{n:Nat}(a:Sm t.s n)(f c:Nat)(nx:List Nat)(s:Nat)(p:List Nat):Sm (Un.end_ t f c nx s p).s n:=⟨a.v,Mr _,a.k,a.st,a.k0⟩
theorem Sm.cut{n m:Nat}(a:Sm s n)(h0:0<m)(b:m<=s.known.length):Sm (Un.cut m s) n:=
 ⟨a.v,a.c,by show(s.known.take m).length<=n;rw[Pw];have:=a.k;omega,a.st,by show 0<(s.known.take m).length;simp_all⟩
theorem Sm.setArgs{n:Nat}(a:Sm s n)(v:Nat)(l:List Nat):Sm (Un.setArgs s v l) n:=⟨by rw[(E6 s v l).1];exact a.v,a.c,a.k,a.st,a.k0⟩
theorem Fh(q:Dq F G h L ops t R)(e:t.blocks.length<1000)(fin cond:Nat)(nx:List Nat)(state:Nat){d:Option (O×(Nat->V))}(hx:d=some (O.cells 3 1 true false (ig nx),λl=> .slice l 0 nx.length)){B:V->Option V}
  (f:∀m,B (.slice m 0 nx.length)=some (.agg (ku ⟨[],fin,cond,nx,[],state⟩ .ei (.slice m 0 nx.length) .ei))) {K:fq}
  (H:∀F' h' R',(∀l,F l->F' l)->Kp F G h h'->Dq F' G h' L ops {s:={t.s with cur:=[]},blocks:=t.blocks++[⟨t.s.cur,fin,cond,nx,t.fh,state⟩],fh:=[]} R'->K (.I t.blocks.length) h') :
  gS d h λv g=>oP (B v) λw=>gY CS (gi (Lq L) [w]) g K:=by
 subst hx
 let⟨i,j,k⟩:=GR q nx
 rw[fu];refine eh (f _) ?_;exact VP i e ⟨[],fin,cond,nx,[],state⟩ rfl rfl rfl j λF' h' R' a b c=>H F' h' R' (by grind[qR]) (k.trans b (qR _ _)) c
end
open Un
section
variable{F F' G G':Nat->Prop}{h h':Hp}{L:Lc}{ops:List Int}{t t':Dt}{R R':Rw}{Q:fq}
theorem YM(q:Dq F G h L ops t R){t':Dt}(e:t=t'):Dq F G h L ops t' R:=e▸q
theorem kgm{F F' G:Nat->Prop}{h h' b:Hp}{a:Nat}(x:Kp F (gm G a) h h')(y:Kp F' G h' b)(c:∀l,F l->F' l):Kp F (gm G a) h b:=x.trans (y.gm a) c
theorem zbz(q:Dq F G h L ops t R)(ho:ops.length<9223372036854775808){n:Nat}(hn:Sm t.s n)(cf:n<800)(hb:t.blocks.length<900){K:Hp->Prop}
  (H:∀F' h' R',(∀l,F l->F' l)->Kp F (gm G L.oY) h h'->Dq F' G h' L ops (fork ops t) R'->Sm (fork ops t).s (n+30)->K h') :
  oP (fe (.ptr L.iA 0) h) λr=>
  oP (fe (.ptr L.qQ 0) h) λX=>
  oP (fe (.ptr L.iA 0) h) λY=>
  oP (fE Y) λZ=>
  gY CS (gi X [Z]) h λaa u=>
  (h.next<=u.next/\
  oP (gB 1 r aa) λab=>
  oP (fe ab u) λac=>
  ((fe (.ptr L.iA 0) u=some r)/\
  oP (fe (.ptr L.iA 0) u) λad=>
  oP (fE ad) λv=>
  oP (fI 3 (.ptr L.lu 0)) λae=>
  oP (fe ae u) λag=>
  oP (fE ag) λah=>
  oP (ez .add 3 ah (V.I 1)) λai=>
  oP (fI 3 (.ptr L.lu 0)) λaj=>
  oP (fe aj u) λak=>
  oP (fE ak) λal=>
  oP (ez .add 3 al (V.I 2)) λam=>
  gS (iS 3 1 2 (V.I 0) [(0,ai),(1,am)]) u λan h3=>
  oP (fT [V.ei,(V.I 0),(V.I 0),V.ei,V.ei,(V.I 0)] [(0,1),(1,1),(2,1),(3,1),(4,1),(5,1)] [(1,(V.I 2)),(2,ac),(3,an)]) λao=>
  gY CS (gi (Lq L) [ao]) h3 λw h4=>
  gS (iS 3 1 1 (V.I 0) [(0,w)]) h4 λap h5=>
  oP (fI 4 (.ptr L.jx 0)) λaq=>
  fj (gq 1 aq ap h5) λvu h6=>
  gY CS (gi (Mm L) []) h6 λbZ z=>
  oP (fe (.ptr L.iA 0) z) λar=>
  oP (fe (.ptr L.iA 0) z) λau=>
  oP (fE au) λaw=>
  oP (ez .sub 3 aw (V.I 1)) λax=>
  oP (gB 1 ar ax) λay=>
  oP (fe ay z) λaA=>
  oP (fe (.ptr L.iA 0) z) λaB=>
  oP (iY 1 aB none (some v) z) λaC=>
  fj (gq 1 (.ptr L.iA 0) aC z) λb4 h8=>
  oP (fI 3 (.ptr L.lu 0)) λaD=>
  oP (fe aD h8) λaE=>
  oP (fE aE) λaF=>
  oP (ez .add 3 aF (V.I 2)) λaG=>
  gS (iS 3 1 1 (V.I 0) [(0,aG)]) h8 λaH h9=>
  oP (fT [V.ei,(V.I 0),(V.I 0),V.ei,V.ei,(V.I 0)] [(0,1),(1,1),(2,1),(3,1),(4,1),(5,1)] [(1,(V.I 1)),(3,aH)]) λaI=>
  gY CS (gi (Lq L) [aI]) h9 λaJ aK=>
  gS (iS 3 1 1 (V.I 0) [(0,w)]) aK λaL br=>
  oP (fI 4 (.ptr L.jx 0)) λaM=>
  fj (gq 1 aM aL br) λb5 aN=>
  gY CS (gi (Mm L) []) aN λb6 b=>
  oP (fe (.ptr L.iA 0) b) λaO=>
  oP (fe (.ptr L.iA 0) b) λaP=>
  oP (fE aP) λaQ=>
  oP (ez .sub 3 aQ (V.I 1)) λaR=>
  oP (gB 1 aO aR) λaS=>
  oP (fe aS b) λaT=>
  oP (fe (.ptr L.iA 0) b) λaU=>
  oP (iY 1 aU none (some v) b) λaV=>
  fj (gq 1 (.ptr L.iA 0) aV b) λb7 A=>
  oP (fI 3 (.ptr L.lu 0)) λaW=>
  oP (fe aW A) λaX=>
  oP (fE aX) λaY=>
  oP (ez .add 3 aY (V.I 1)) λaZ=>
  gS (iS 3 1 1 (V.I 0) [(0,aZ)]) A λa5 bt=>
  oP (fT [V.ei,(V.I 0),(V.I 0),V.ei,V.ei,(V.I 0)] [(0,1),(1,1),(2,1),(3,1),(4,1),(5,1)] [(1,(V.I 1)),(3,a5)]) λa6=>
  gY CS (gi (Lq L) [a6]) bt λa7 a8=>
  gS (iS 3 1 2 (V.I 0) [(0,aJ),(1,a7)]) a8 λa9 bu=>
  oP (fI 4 (.ptr L.jx 0)) λba=>
  fj (gq 1 ba a9 bu) λb8 a=>
  oP (fe (.ptr L.iA 0) a) λe=>
  oP (fe (.ptr L.Aa 0) a) λx=>
  xB (iS 3 1 2 (V.I 0) [(0,aA),(1,aT)]) a λo4 bb d=>
  oP (fT [(V.I 0),(V.I 0),(V.I 0),(V.I 0),V.ei,(V.I 0)] [(0,1),(1,1),(2,1),(3,1),(4,1),(5,1)] [(0,(V.I 21)),(4,bb)]) λbc=>
  ((d.get (a.next)=some o4/\O.beq o4 o4=true)/\
  ((fe (.ptr L.Aa 0) d=some x)/\
  ((fe (.ptr L.iA 0) d=some e)/\
  gY CS (gi x [bc]) d λbd B=>
  (d.next<=B.next/\
  xB (iS 3 1 1 (V.I 0) [(0,bd)]) B λo7 be i=>
  ((i.get (B.next)=some o7/\O.beq o7 o7=true)/\
  ((fe (.ptr L.iA 0) i=some e)/\
  fj (fi 3 1 8 e be i) λbf C=>
  (i.next<=C.next/\
  fj (gq 1 (.ptr L.iA 0) bf C) λb9 E=>
  (C.next<=E.next/\
  gY CS (gi (Mm L) []) E λca I=>K I)))))))))):=by
 have bg:=hn.k0;refine Vm q ho hn (by omega) λu k2 J=>?_;refine eh J.D.AW (eh J.D.ok.len ?_);refine eh (by rfl) (eh J.D.ldB (eh J.D.ob.len (ka (m:=1) (show t.blocks.length<_ by omega) (by omega) ?_)));refine eh (by rfl) (eh J.D.ldB (eh J.D.ob.len (ka (m:=2) (show t.blocks.length<_ by omega) (by omega) ?_)));have n2:Sm (fQ ops t.s).2 n:=hn.one;refine Fh J (show t.blocks.length<_ by omega) 2 (fQ ops t.s).1 [t.blocks.length+1,t.blocks.length+2] 0 rfl (λ_=>rfl) λF4 h4 R4 f4 k4 q4=>?_;refine zd q4 [t.blocks.length] rfl λF6 h6 R6 f6 k6 q6=>?_;have q6:=YM (t':=end_ {t with s:=(fQ ops t.s).2} 2 (fQ ops t.s).1 [t.blocks.length+1,t.blocks.length+2] 0 [t.blocks.length]) q6 rfl;have n6:Sm (end_ {t with s:=(fQ ops t.s).2} 2 (fQ ops t.s).1 [t.blocks.length+1,t.blocks.length+2] 0 [t.blocks.length]).s n:=n2.end_ _ _ _ _ _;have M:(end_ {t with s:=(fQ ops t.s).2} 2 (fQ ops t.s).1 [t.blocks.length+1,t.blocks.length+2] 0 [t.blocks.length]).blocks.length=t.blocks.length+1:=by simp[end_]
 have cg:(end_ {t with s:=(fQ ops t.s).2} 2 (fQ ops t.s).1 [t.blocks.length+1,t.blocks.length+2] 0 [t.blocks.length]).s.known.length=t.s.known.length:=rfl;have c:fork ops t=fork ops t:=rfl
 conv at c=>rhs;unfold fork
 simp only at c;have el:({t with s:=(fQ ops t.s).2}:Dt).s.known.length=t.s.known.length:=rfl;rw[el];have kA:=kgm k2 (k4.trans k6 f4) λ_ h=>h;have fA:∀l,F l->F6 l:=by simp_all
 generalize end_ {t with s:=(fQ ops t.s).2} 2 (fQ ops t.s).1 [t.blocks.length+1,t.blocks.length+2] 0 [t.blocks.length]=f at*;refine G9 q6 ho n6 (by omega) λF7 z R7 f7 k7 q7 n7=>?_;have x7:=HT ops f.s;have ci:=x7.kl;generalize row ops f.s=j at*;have cj:=n7.k;refine Wn q7 (by grind) (by grind) ?_;refine QL q7 (by simp_all) λh8 R8 k8 q8=>?_;have n8:=n7.cut bg (by omega);refine eh (by rfl) (eh q8.D.ldB (eh q8.D.ob.len (ka (m:=2) (show f.blocks.length<_ by omega) (by omega) ?_)));refine Fh q8 (show f.blocks.length<_ by omega) 1 0 [t.blocks.length+3] 0 (by show iS 3 1 1 (V.I 0) [(0,.I ((f.blocks.length+2:Nat):Int))]=_;rw[M];rfl) (λ_=>rfl) λcm aK cn co bw bx=>?_;refine zd bx [t.blocks.length] rfl λbz aN cp cq bA N=>?_;have N:=YM (t':=end_ {f with s:=cut t.s.known.length j} 1 0 [t.blocks.length+3] 0 [t.blocks.length]) N rfl;have bC:Sm (end_ {f with s:=cut t.s.known.length j} 1 0 [t.blocks.length+3] 0 [t.blocks.length]).s (n+6):=n8.end_ _ _ _ _ _;have y:(end_ {f with s:=cut t.s.known.length j} 1 0 [t.blocks.length+3] 0 [t.blocks.length]).blocks.length=t.blocks.length+2:=by simp[end_,M]
 have cb:(end_ {f with s:=cut t.s.known.length j} 1 0 [t.blocks.length+3] 0 [t.blocks.length]).s.known.length=t.s.known.length:=by
  show(j.known.take t.s.known.length).length=_;rw[Pw];omega
 have bh:=M;rw[bh];have P:({f with s:=j}:Dt).s.known.getLastD 0=j.known.getLastD 0:=rfl;rw[P];have kB:=(((kA.trans k7 fA).trans ((k8.gm L.oY).trans (bw.gm L.oY) λ_ h=>h) (by grind)).trans (bA.gm L.oY) (by grind))
 have fB:∀l,F l->bz l:=by grind
 generalize j.known.getLastD 0=T at*;generalize end_ {f with s:=cut t.s.known.length j} 1 0 [t.blocks.length+3] 0 [t.blocks.length]=o at*;refine G9 N ho bC (by omega) λcr b ct cu bD bi bj=>?_;have bE:=HT ops o.s;have cd:=bE.kl;generalize row ops o.s=U at*;have ce:=bj.k;refine Wn bi (by grind) (by grind) ?_;refine QL bi (by simp_all) λA cv bG Q=>?_;have bH:=bj.cut bg (by omega);refine eh (by rfl) (eh Q.D.ldB (eh Q.D.ob.len (ka (m:=1) (show o.blocks.length<_ by omega) (by omega) ?_)));refine Fh Q (show o.blocks.length<_ by omega) 1 0 [t.blocks.length+3] 0 (by show iS 3 1 1 (V.I 0) [(0,.I ((o.blocks.length+1:Nat):Int))]=_;rw[y];rfl) (λ_=>rfl) λcw a8 cx cy bI bJ=>?_;have bm:=y;rw[bm];refine zd bJ [t.blocks.length+1,t.blocks.length+2] rfl λbK a cz cA bL g=>?_;have g:=YM (t':=end_ {o with s:=cut t.s.known.length U} 1 0 [t.blocks.length+3] 0 [t.blocks.length+1,t.blocks.length+2]) g rfl;have bo:Sm (end_ {o with s:=cut t.s.known.length U} 1 0 [t.blocks.length+3] 0 [t.blocks.length+1,t.blocks.length+2]).s (n+12):=(bH.le (by omega)).end_ _ _ _ _ _;have p:({o with s:=U}:Dt).s.known.getLastD 0=U.known.getLastD 0:=rfl;rw[p];have kC:=(((kB.trans bD fB).trans ((bG.gm L.oY).trans (bI.gm L.oY) λ_ h=>h) (by simp_all)).trans (bL.gm L.oY) (by grind))
 have fC:∀l,F l->bK l:=by grind
 generalize U.known.getLastD 0=W at*;generalize end_ {o with s:=cut t.s.known.length U} 1 0 [t.blocks.length+3] 0 [t.blocks.length+1,t.blocks.length+2]=t3 at*;refine eh g.D.AW (eh g.qk ?_);have e3:iS 3 1 2 (V.I 0) [(0,V.I T),(1,V.I W)]=some (.cells 3 1 true false (ig [T,W]),λl=> .slice l 0 2):=rfl;rw[e3,gO]
 let⟨S,bQ,bR⟩:=GR g [T,W]
 have cB:(a.new (.cells 3 1 true false (ig [T,W]))).get a.next=_:=fm _ _;have eP:∀n,fT [(V.I 0),(V.I 0),(V.I 0),(V.I 0),V.ei,(V.I 0)] [(0,1),(1,1),(2,1),(3,1),(4,1),(5,1)] [(0,(V.I 21)),(4,.slice n 0 2)]=some (.agg (mh (vl 21 0 0 0 [T,W] 0) (.slice n 0 2))):=λ_=>rfl;refine eh (eP _) ⟨by simp_all,S.qk,S.D.AW,?_⟩;generalize a.new (.cells 3 1 true false (ig [T,W]))=d at*;refine Ir S bo (by omega) ⟨_,rfl,bQ⟩ λE cC bS bU=>?_;refine G9 bU ho (bo.iO _) (by omega) λbV I bW cD bX cE bY=>?_;refine H bV I bW (by grind[qR]) ((kC.trans ((bR.gm L.oY).trans (bS.gm L.oY) (qR _ _)) fC).trans bX (by grind[qR])) (by simp_all) ?_;rw[c];exact bY.le (by omega)
end
open Un
section
variable{F F' G G':Nat->Prop}{h h':Hp}{L:Lc}{ops:List Int}{t t':Dt}{R R':Rw}{Q:fq}
theorem zbu(q:Dq F G h L ops t R)(O:ops.length<9223372036854775808){n:Nat}(P:Sm t.s n)(aI:n<800)(hb:t.blocks.length<900){K:Hp->Prop}
  (H:∀F' h' R',(∀l,F l->F' l)->Kp F (gm G L.oY) h h'->Dq F' G h' L ops (zj ops t) R'->Sm (zj ops t).s (n+30)->K h') :
  oP (fe (.ptr L.iA 0) h) λi=>
  oP (fe (.ptr L.qQ 0) h) λU=>
  oP (fe (.ptr L.iA 0) h) λW=>
  oP (fE W) λX=>
  gY CS (gi U [X]) h λY a=>
  (h.next<=a.next/\
  oP (gB 1 i Y) λZ=>
  oP (fe Z a) λaa=>
  ((fe (.ptr L.iA 0) a=some i)/\
  oP (fI 3 (.ptr L.lu 0)) λab=>
  oP (fe ab a) λac=>
  oP (fE ac) λad=>
  oP (ez .add 3 ad (V.I 1)) λae=>
  oP (fI 3 (.ptr L.lu 0)) λag=>
  oP (fe ag a) λj=>
  oP (fE j) λo=>
  oP (ez .add 3 o (V.I 2)) λp=>
  gS (iS 3 1 2 (V.I 0) [(0,ae),(1,p)]) a λr ah=>
  oP (fT [V.ei,(V.I 0),(V.I 0),V.ei,V.ei,(V.I 0)] [(0,1),(1,1),(2,1),(3,1),(4,1),(5,1)] [(1,(V.I 2)),(2,aa),(3,r)]) λu=>
  gY CS (gi (Lq L) [u]) ah λb v=>
  oP (fe (.ptr L.iA 0) v) λw=>
  oP (fE w) λx=>
  gS (iS 3 1 1 (V.I 0) [(0,b)]) v λy ai=>
  oP (fI 4 (.ptr L.jx 0)) λz=>
  fj (gq 1 z y ai) λaj ak=>
  gY CS (gi (Mm L) []) ak λaF A=>
  oP (fe (.ptr L.WQ 0) A) λB=>
  gY CS (gi B []) A λC al=>
  oP (fT [V.ei,(V.I 0),(V.I 0),V.ei,V.ei,(V.I 0)] [(0,1),(1,1),(2,1),(3,1),(4,1),(5,1)] [(1,(V.I 3)),(5,C)]) λE=>
  gY CS (gi (Lq L) [E]) al λaG d=>
  oP (fe (.ptr L.iA 0) d) λI=>
  oP (iY 1 I none (some x) d) λJ=>
  fj (gq 1 (.ptr L.iA 0) J d) λam an=>
  gS (iS 3 1 1 (V.I 0) [(0,b)]) an λM ao=>
  oP (fI 4 (.ptr L.jx 0)) λN=>
  fj (gq 1 N M ao) λap aq=>
  gY CS (gi (Mm L) []) aq λaH ar=>K ar)):=by
 have au:=P.k0;have hk:=P.k;refine Vm q O P (by omega) λh2 Q g=>?_;refine eh (by rfl) (eh g.D.ldB (eh g.D.ob.len (ka (m:=1) (show t.blocks.length<_ by omega) (by omega) ?_)));refine eh (by rfl) (eh g.D.ldB (eh g.D.ob.len (ka (m:=2) (show t.blocks.length<_ by omega) (by omega) ?_)));have n2:Sm (fQ ops t.s).2 n:=P.one;refine Fh g (show t.blocks.length<_ by omega) 2 (fQ ops t.s).1 [t.blocks.length+1,t.blocks.length+2] 0 rfl (λ_=>rfl) λF4 h4 R4 f4 k4 S=>?_;refine eh S.D.AW (eh S.D.ok.len ?_);refine zd S [t.blocks.length] rfl λF6 h6 R6 f6 k6 q6=>?_;have q6:=YM (t':=end_ {t with s:=(fQ ops t.s).2} 2 (fQ ops t.s).1 [t.blocks.length+1,t.blocks.length+2] 0 [t.blocks.length]) q6 rfl;have n6:Sm (end_ {t with s:=(fQ ops t.s).2} 2 (fQ ops t.s).1 [t.blocks.length+1,t.blocks.length+2] 0 [t.blocks.length]).s n:=n2.end_ (t:={t with s:=(fQ ops t.s).2}) _ _ _ _ _;have aJ:(end_ {t with s:=(fQ ops t.s).2} 2 (fQ ops t.s).1 [t.blocks.length+1,t.blocks.length+2] 0 [t.blocks.length]).blocks.length=t.blocks.length+1:=by simp[end_]
 have aK:(end_ {t with s:=(fQ ops t.s).2} 2 (fQ ops t.s).1 [t.blocks.length+1,t.blocks.length+2] 0 [t.blocks.length]).s.known.length=t.s.known.length:=rfl;have hx:zj ops t=zj ops t:=rfl
 conv at hx=>rhs;unfold zj
 simp only at hx;have kA:=kgm Q (k4.trans k6 f4) λ_ h=>h;have fA:∀l,F l->F6 l:=by simp_all
 generalize end_ {t with s:=(fQ ops t.s).2} 2 (fQ ops t.s).1 [t.blocks.length+1,t.blocks.length+2] 0 [t.blocks.length]=c at*;clear g S Q k4 k6;refine G9 q6 O n6 (by omega) λF7 h7 R7 f7 k7 q7 n7=>?_;have x7:=HT ops c.s;have aL:=x7.kl;generalize row ops c.s=e at*;refine eh q7.KN ?_;refine OI q7 O n7 (by omega) λF8 h8 R8 f8 k8 q8 T=>?_;have x8:=LI ops e;have aM:=x8.kl;have e8:fN ops ({c with s:=e}:Dt).s=fN ops e:=rfl;rw[e8];have q8:Dq F8 G h8 L ops {c with s:=(fN ops e).2} R8:=q8;have T:Sm (fN ops e).2 (n+6+1):=T;generalize (fN ops e).2=s2 at*;generalize (fN ops e).1=sn at*;have eB:fT [V.ei,(V.I 0),(V.I 0),V.ei,V.ei,(V.I 0)] [(0,1),(1,1),(2,1),(3,1),(4,1),(5,1)] [(1,(V.I 3)),(5,.I sn)]=some (.agg (ku ⟨[],3,0,[],[],sn⟩ .ei .ei .ei)):=rfl;refine eh eB ?_;have aN:=T.k;refine VP q8 (show c.blocks.length<_ by omega) ⟨[],3,0,[],[],sn⟩ rfl rfl rfl .nil λF9 h9 R9 f9 k9 q9=>?_;refine QL q9 (m:=t.s.known.length) (by grind) λaO aP aw ax=>?_;refine zd ax [t.blocks.length] rfl λaQ aR aS aT UB f=>?_;have f:=YM (t':=end_ {c with s:=cut t.s.known.length s2} 3 0 [] sn [t.blocks.length]) f rfl;have ay:Sm (end_ {c with s:=cut t.s.known.length s2} 3 0 [] sn [t.blocks.length]).s (n+7):=(T.cut au (by omega)).end_ (t:={c with s:=cut t.s.known.length s2}) _ _ _ _ _;refine G9 f O ay (by omega) λaA aB aC aU aD aV aE=>?_;have g11:∀l,F l->F8 l:=by grind
 refine H aA aB aC (by grind) ?_ (by simp_all) ?_
 ·have k1:=(kA.trans k7 fA).trans k8 (by grind);have Q:=((k9.gm L.oY).trans (aw.gm L.oY) f9).trans (UB.gm L.oY) f9;exact(k1.trans Q g11).trans aD (by grind)
 ·rw[hx];exact aE.le (by omega)
end
