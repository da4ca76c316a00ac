/- Parts. -/
import Derived.Test.YtkpicojjjifmgabGreatDoorM20
set_option maxHeartbeats 4000000
namespace Go.Proofs.YtkpicojjjifmgabGreatDoor.Hx
open Un
theorem jj{b:Bool}{A B:Prop}(h:if b=true then A else B):bP (.bool b) A B:=by simp_all
theorem Wb(ops:List Int)(s:Ds):rows ops 0 s=s:=rfl
theorem WE(ops:List Int)(k:Nat)(s:Ds)(h:¬s.ej.length<200):rows ops k s=s:=by
 cases k <;> simp_all[rows,if_neg]
theorem WT(ops:List Int)(k:Nat)(s:Ds)(h:s.ej.length<200):rows ops (k+1) s=rows ops k (vf ops s):=by
 simp_all[rows,if_pos]
section
variable{F F' G G':Nat->Prop}{h h':Hp}{L:Lc}{ops:List Int}{t t':Dt}{R R':Rw}{Q:fD}
theorem Sm.one{s:Ds}{n:Nat}(a:Sm s n):Sm (fO ops s).2 n:=a.pos _
theorem Sm.num{s:Ds}{n:Nat}(a:Sm s n)(m:Nat):Sm (num ops s m).2 n:=a.pos _
theorem zeh{s:Ds}{n:Nat}(a:Sm s n)(ops:List Int)(x:Vl):Sm (put (fK ops s).2 x) (n+1):=by
 obtain ⟨p,hp⟩:=Gp ops (num ops s 4).1 (num ops s 4).2 [];have e:(fK ops s).2 = {s with pos:=p,ev:=(fK ops s).2.ev}:=by
  unfold fK;simp only[hp];rfl
 have h:=a.state ops;rw[e]at h⊢;exact⟨rU a.v,rU a.c,h.k,h.st,h.k0⟩
theorem zcU(q:Dq F G h L ops t R)(v:ops.length<9223372036854775808){n:Nat}(hn:Sm t.s n)(ae:n<900)
  (H:∀F' h' R',(∀l,F l->F' l)->Kp F (gm G L.oT) h h'->Dq F' G h' L ops {t with s:=row ops t.s} R'->Sm (row ops t.s) (n+6)->Q (.tuple []) h') :
  cP CS jS [.ptr L.qH 0,.ptr L.lu 0,.ptr L.iH 0,.ptr L.AD 0,.ptr L.VS 0] h Q:=by
 refine EJ rfl rfl ?_;unfold wY;refine eh q.xx ?_;show cP CS ft [.I ((6:Nat):Int),.ptr L.oT 0,.ptr L.lr 0] h _;refine zd q (by decide) (by decide) v λh0 k0 q0=>?_;have hr:(draw ops t.s.pos 6).1<6:=by simp_all[zf]
 refine lZ (n:=1) (by decide) (by omega) ?_
 refine B6 (λk N O P S T U h'=>∃(F':Nat->Prop) (R':Rw) (s:Ds),N = .ptr L.qH 0/\O = .ptr L.lu 0/\P = .ptr L.iH 0/\S = .ptr L.AD 0/\T = .ptr L.VS 0/\U = .I (k:Nat)/\(∀l,F l->F' l)/\
  Kp F (gm G L.oT) h h'/\Dq F' G h' L ops {t with s:=s} R'/\rows ops k s=row ops t.s/\∃m,Sm s m/\m+k<=n+6) ?_
  ⟨F,R,(num ops t.s 6).2,rfl,rfl,rfl,rfl,rfl,rfl,λ_ h=>h,k0,q0,rfl,n,hn.num 6,by omega⟩
 rintro k N O P S T U h' ⟨p,R1,s,rfl,rfl,rfl,rfl,rfl,rfl,I,W,A,j,m,J,ag⟩;unfold sq;refine eh (by rw[qn]) ?_;have lv:=A.D.ov.len;have eA:kE (.bool (decide ((0:Int)<(k:Nat)))) (oB (fJ 2 (.ptr L.lu 0)) λaa=>oB (fe aa h') λab=>oB (fI ab) λac=>ez .lss 3 ac (V.I 200))=some (.bool (decide ((0:Int)<(k:Nat))&&decide (((s.ej.length:Nat):Int)<200))):=by
  simp only[fM,fo,zO,A.D.Xq,lv,kX,j8]
 refine eh eA (jj ?_)
 cases k with
 | zero=>
   refine gh (by simp) ?_;rw[Wb]at j
   refine H p h' R1 I W (by simp_all) (by rw[<-j];exact J.le (by omega))
 | succ k=>
   by_cases OY:s.ej.length<200;rotate_left
   ·refine gh (by simp;omega) ?_
    rw[WE _ _ _ OY]at j;refine H p h' R1 I W (by simp_all) (by rw[<-j];exact J.le (by omega))
   refine gz (by simp;omega) ?_;have B:rows ops k (vf ops s)=row ops t.s:=by rw[<-j,WT _ _ _ OY]
   clear j eA;refine eh A.D.Bg (eh A.xx (eh A.D.Bg (eh A.D.ok.len ?_)));show cP CS ft [.I (s.known.length:Nat),.ptr L.oT 0,.ptr L.lr 0] h' _;refine Ov A v J (by omega) λh2 l o k2 C _ i1 E=>⟨k2.next,eh i1 (eh E ⟨C.D.Bg,?_⟩)⟩
   have E:True:=trivial;refine eh C.D.Bg (eh C.xx (eh C.D.Bg (eh C.D.ok.len ?_)));show cP CS ft [.I ((fO ops s).2.known.length:Nat),.ptr L.oT 0,.ptr L.lr 0] h2 _;refine Ov C v J.one (by omega) λh3 l' o' k3 X _ j1 j2=>⟨k3.next,eh j1 (eh j2 ⟨X.D.Bg,?_⟩)⟩
   refine eh X.xx ?_;show cP CS ft [.I ((20:Nat):Int),.ptr L.oT 0,.ptr L.lr 0] h3 _;refine zd X (by decide) (by decide) v λz k4 d=>?_;have d:Dq p G z L ops {t with s:=(num ops (fO ops (fO ops s).2).2 20).2} R1:=d;have g:Sm (num ops (fO ops (fO ops s).2).2 20).2 m:=J.one.one.num 20;have kk:Kp F (gm G L.oT) h z:=((W.trans k2 I).trans k3 I).trans k4 I;have w:vf ops s=tS ops (num ops (fO ops (fO ops s).2).2 20).2 (num ops (fO ops (fO ops s).2).2 20).1 (fO ops s).1 (fO ops (fO ops s).2).1:=rfl;rw[w]at B;have ek:(draw ops ({t with s:=(fO ops ({t with s:=(fO ops ({t with s:=s}:Dt).s).2}:Dt).s).2}:Dt).s.pos 20).1=(num ops (fO ops (fO ops s).2).2 20).1:=rfl;rw[ek];clear ek;have ah:(num ops (fO ops (fO ops s).2).2 20).1<20:=zf _ _ (by decide);generalize (num ops (fO ops (fO ops s).2).2 20).2=s4 at*;generalize (num ops (fO ops (fO ops s).2).2 20).1=kd at*;have ea:(fO ops ({t with s:=s}:Dt).s).1=(fO ops s).1:=rfl;have eb:(fO ops ({t with s:=(fO ops ({t with s:=s}:Dt).s).2}:Dt).s).1=(fO ops (fO ops s).2).1:=rfl;rw[ea,eb];generalize (fO ops s).1=a at*;generalize (fO ops (fO ops s).2).1=b at*;clear X C A W k2 k3 k4 j1 j2 lv w
   have fin:∀(Y:Nat->Prop) (e:Hp) (R2:Rw) (K:Ds),(∀l,p l->Y l)->Kp p (gm G L.oT) z e->Dq Y G e L ops {t with s:=K} R2->K=tS ops s4 kd a b->Sm K (m+1)->
       gL CS Q (λN O P S T U hh=>∃k',k' < k+1/\∃(F':Nat->Prop) (R':Rw) (s:Ds),N = .ptr L.qH 0/\O = .ptr L.lu 0/\P = .ptr L.iH 0/\S = .ptr L.AD 0/\T = .ptr L.VS 0/\U = .I (k':Nat)/\(∀l,F l->F' l)/\
         Kp F (gm G L.oT) h hh/\Dq F' G hh L ops {t with s:=s} R'/\rows ops k' s=row ops t.s/\∃m,Sm s m/\m+k'<=n+6) (.ptr L.qH 0) (.ptr L.lu 0) (.ptr L.iH 0) (.ptr L.AD 0) (.ptr L.VS 0) (.I ((k+1:Nat):Int)) e:=by
     intro Y e R2 K ai f c e5 m5;refine BC ?_;unfold tR;refine ze (by omega) (by omega) ?_;exact⟨k,by omega,Y,R2,K,rfl,rfl,rfl,rfl,rfl,rfl,by simp_all,kk.trans f I,c,by simp_all,m+1,m5,by omega⟩
   by_cases Z:kd<12
   ·refine gK ?_
    refine eh d.D.Bg (eh d.qt (lZ (n:=3) (by decide) (by omega) ?_));have eP:∀o:Nat,fV [(V.I 0),(V.I 0),(V.I 0),(V.I 0),V.ei,(V.I 0)] [(0,1),(1,1),(2,1),(3,1),(4,1),(5,1)] [(0,.I (o:Nat)),(1,.I (a:Nat)),(2,.I (b:Nat))]=some (.agg (mF (vl o a b 0 [] 0) .ei)):=λ_=>rfl;refine eh (eP _) ?_;exact HP d g (by omega) ⟨_,rfl,.nil⟩ λe R5 f c=>fin p e R5 _ (by simp_all) (f.gm _) c (by simp_all[tS,if_pos]) (g.jd _)
   refine iQ ?_;by_cases c1:kd=12
   ·refine gy (gz (by omega) ?_)
    refine eh d.D.Bg (eh d.qt (eh d.xx ?_));show cP CS ft [.I ((1048576:Nat):Int),.ptr L.oT 0,.ptr L.lr 0] z _;refine zd d (by decide) (by decide) v λe f c=>⟨f.next,?_⟩
    have c:Dq p G e L ops {t with s:=(num ops s4 1048576).2} R1:=c;have hd:(draw ops s4.pos 1048576).1<1048576:=by simp_all[zf]
    have ew:mI .i64 (((draw ops s4.pos 1048576).1:Int)-9)=((draw ops s4.pos 1048576).1:Int)-9:=by grind[qj,uO]
    refine eh (by rw[qh]) ?_;rw[show(mI .i64 (((draw ops ({t with s:=s4}:Dt).s.pos 1048576).1:Int)-9))=((draw ops s4.pos 1048576).1:Int)-9 from ew];have eP:∀i:Int,fV [(V.I 0),(V.I 0),(V.I 0),(V.I 0),V.ei,(V.I 0)] [(0,1),(1,1),(2,1),(3,1),(4,1),(5,1)] [(0,(V.I 2)),(3,.I i)]=some (.agg (mF (vl 2 0 0 i [] 0) .ei)):=λ_=>rfl;refine eh (eP _) ⟨c.qt,c.D.Bg,?_⟩;exact HP c (g.num _) (by omega) ⟨_,rfl,.nil⟩ λx R6 r u=>fin p x R6 _ (by simp_all) (f.trans (r.gm _) λ_ h=>h) u (by unfold tS;rw[if_neg Z,if_pos c1];rfl) ((g.num _).jd _)
   refine gy (gh (by omega) ?_);by_cases c2:kd=13
   ·refine gy (gz (by omega) ?_)
    refine eh d.D.Bg (eh d.qt (eh d.xx ?_));show cP CS ft [.I ((5:Nat):Int),.ptr L.oT 0,.ptr L.lr 0] z _;refine zd d (by decide) (by decide) v λe f c=>⟨f.next,?_⟩
    have c:Dq p G e L ops {t with s:=(num ops s4 5).2} R1:=c;have eP:∀n:Nat,fV [(V.I 0),(V.I 0),(V.I 0),(V.I 0),V.ei,(V.I 0)] [(0,1),(1,1),(2,1),(3,1),(4,1),(5,1)] [(0,(V.I 17)),(1,.I (a:Nat)),(3,.I (n:Nat))]=some (.agg (mF (vl 17 a 0 (n:Nat) [] 0) .ei)):=λ_=>rfl;refine eh (eP _) ⟨c.qt,c.D.Bg,?_⟩;exact HP c (g.num _) (by omega) ⟨_,rfl,.nil⟩ λx R6 r u=>fin p x R6 _ (by simp_all) (f.trans (r.gm _) λ_ h=>h) u (by unfold tS;rw[if_neg Z,if_neg c1,if_pos c2];rfl) ((g.num _).jd _)
   refine gy (gh (by omega) ?_);by_cases c3:kd=14
   ·refine gy (gz (by omega) ?_)
    refine eh d.D.Bg (eh d.qt ?_);have eP:fV [(V.I 0),(V.I 0),(V.I 0),(V.I 0),V.ei,(V.I 0)] [(0,1),(1,1),(2,1),(3,1),(4,1),(5,1)] [(0,(V.I 18)),(1,.I (a:Nat)),(2,.I (b:Nat))]=some (.agg (mF (vl 18 a b 0 [] 0) .ei)):=rfl;refine eh eP ?_;exact HP d g (by omega) ⟨_,rfl,.nil⟩ λe R5 f c=>fin p e R5 _ (by simp_all) (f.gm _) c (by simp_all[tS,if_neg,if_pos]) (g.jd _)
   refine gy (gh (by omega) ?_);by_cases c4:kd=15
   ·refine gy (gz (by omega) ?_)
    refine eh d.qt (eh d.xx ?_);show cP CS ft [.I ((5:Nat):Int),.ptr L.oT 0,.ptr L.lr 0] z _;refine zd d (by decide) (by decide) v λe f c=>⟨f.next,?_⟩
    have c:Dq p G e L ops {t with s:=(num ops s4 5).2} R1:=c;have eP:∀n:Nat,fV [(V.I 0),(V.I 0),(V.I 0),(V.I 0),V.ei,(V.I 0)] [(0,1),(1,1),(2,1),(3,1),(4,1),(5,1)] [(0,(V.I 19)),(1,.I (a:Nat)),(3,.I (n:Nat)),(2,.I (b:Nat))]=some (.agg (mF (vl 19 a b (n:Nat) [] 0) .ei)):=λ_=>rfl;refine eh (eP _) ⟨c.qt,?_⟩;refine Ko c (g.num _) (by omega) ⟨_,rfl,.nil⟩ λx R6 r _ u=>⟨r.next,?_⟩
    exact fin p x R6 _ (by simp_all) (f.trans (r.gm _) λ_ h=>h) u (by unfold tS;rw[if_neg Z,if_neg c1,if_neg c2,if_neg c3,if_pos c4];rfl) ((g.num _).put _)
   refine gy (gh (by omega) ?_);by_cases c5:kd=16
   ·refine gy (gz (by omega) ?_)
    refine eh d.qt (eh d.D.Bg (eh d.xx (eh d.D.Bg (eh d.D.ok.len ?_))));show cP CS ft [.I (s4.known.length:Nat),.ptr L.oT 0,.ptr L.lr 0] z _;refine Ov d v g (by omega) λe l o f c hl i1 E=>⟨f.next,eh i1 (eh E ?_)⟩
    have c:Dq p G e L ops {t with s:=(fO ops s4).2} R1:=c;have E:fe (.ptr l o) e=some (.I ((fO ops s4).1:Nat)):=E;have e3:jz 3 1 1 (V.I 0) [(0,V.I ((fO ops s4).1:Nat))]=some (.cells 3 1 true false [V.I ((fO ops s4).1:Nat)],λl=> .slice l 0 1):=rfl;show yp (jz 3 1 1 (V.I 0) [(0,V.I ((fO ops s4).1:Nat))]) e _;rw[e3,hX];have eP:∀n:Nat,fV [(V.I 0),(V.I 0),(V.I 0),(V.I 0),V.ei,(V.I 0)] [(0,1),(1,1),(2,1),(3,1),(4,1),(5,1)] [(0,(V.I 20)),(1,.I (a:Nat)),(2,.I (b:Nat)),(4,.slice n 0 1)]=some (.agg (mF (vl 20 a b 0 [(fO ops s4).1] 0) (.slice n 0 1))):=λ_=>rfl;have D6:=c.D.new (.cells 3 1 true false [V.I ((fO ops s4).1:Nat)]);have r:=c.D.Al (.cells 3 1 true false [V.I ((fO ops s4).1:Nat)]);have u:=c.step r D6 (qM _ _) c.gl c.hq rfl;have g6:(e.new (.cells 3 1 true false [V.I ((fO ops s4).1:Nat)])).get e.next=_:=fq _ _;refine eh (eP _) ⟨by simp_all,iA E (fk _ hl),D6.Bg,u.qt,?_⟩
    have hs:im eN (fz p e.next) (e.new (.cells 3 1 true false [V.I ((fO ops s4).1:Nat)])) [(fO ops s4).1] (.slice e.next 0 1):=
      .inr ⟨e.next,0,3,true,false,[V.I ((fO ops s4).1:Nat)],rfl,.inr rfl,g6,.inr rfl,Mj _,⟨_,[],rfl,rfl,trivial⟩⟩
    refine Ko u (g.one) (by omega) ⟨_,rfl,hs⟩ λh7 R7 k7 _ q7=>⟨k7.next,?_⟩
    exact fin (fz p e.next) h7 R7 _ (qM _ _) ((f.trans (r.gm _) λ_ h=>h).trans (k7.gm _) (qM _ _)) q7 (by simp_all[tS,if_neg,if_pos]) (g.one.put _)
   refine gy (gh (by omega) ?_);by_cases c6:kd=17
   ·refine gy (gz (by omega) ?_)
    refine eh d.qt (eh d.Kj ?_);show cP CS gf [.ptr L.lu 0,.ptr L.qH 0,.ptr L.iH 0] z _;refine Oi d g.k0 (by have:=g.k;grind) (by have:=g.st;grind) v λM e R5 y f c _=>⟨f.next,?_⟩
    have c:Dq M G e L ops {t with s:=(fK ops s4).2} R5:=c;have eP:∀n:Nat,fV [(V.I 0),(V.I 0),(V.I 0),(V.I 0),V.ei,(V.I 0)] [(0,1),(1,1),(2,1),(3,1),(4,1),(5,1)] [(0,(V.I 22)),(1,.I (a:Nat)),(5,.I (n:Nat))]=some (.agg (mF (vl 22 a 0 0 [] n) .ei)):=λ_=>rfl;refine eh (eP _) ⟨c.qt,?_⟩;refine Ko c (g.state ops) (by omega) ⟨_,rfl,.nil⟩ λx R6 r _ u=>⟨r.next,?_⟩
    exact fin M x R6 _ y (f.trans (r.gm _) y) u (by simp_all[tS,if_neg,if_pos]) (zeh g ops _)
   refine gy (gh (by omega) ?_);by_cases c7:kd=18
   ·refine gy (gz (by omega) ?_)
    refine eh d.qt (eh d.Kj ?_);show cP CS gf [.ptr L.lu 0,.ptr L.qH 0,.ptr L.iH 0] z _;refine Oi d g.k0 (by have:=g.k;grind) (by have:=g.st;grind) v λM e R5 y f c _=>⟨f.next,?_⟩
    have c:Dq M G e L ops {t with s:=(fK ops s4).2} R5:=c;have eP:∀n:Nat,fV [(V.I 0),(V.I 0),(V.I 0),(V.I 0),V.ei,(V.I 0)] [(0,1),(1,1),(2,1),(3,1),(4,1),(5,1)] [(0,(V.I 23)),(5,.I (n:Nat))]=some (.agg (mF (vl 23 0 0 0 [] n) .ei)):=λ_=>rfl;refine eh (eP _) ⟨c.qt,?_⟩;refine Ko c (g.state ops) (by omega) ⟨_,rfl,.nil⟩ λx R6 r _ u=>⟨r.next,?_⟩
    exact fin M x R6 _ y (f.trans (r.gm _) y) u (by simp_all[tS,if_neg,if_pos]) (zeh g ops _)
   refine gy (gh (by omega) ?_);refine eh d.D.Bg (eh d.qt (eh d.xx ?_));show cP CS ft [.I ((2:Nat):Int),.ptr L.oT 0,.ptr L.lr 0] z _;refine zd d (by decide) (by decide) v λe f c=>⟨f.next,?_⟩
   have c:Dq p G e L ops {t with s:=(num ops s4 2).2} R1:=c;have hd:(draw ops s4.pos 2).1<2:=by simp_all[zf]
   refine lZ (n:=15) (by decide) (by grind) ?_;have eP:∀o:Nat,fV [(V.I 0),(V.I 0),(V.I 0),(V.I 0),V.ei,(V.I 0)] [(0,1),(1,1),(2,1),(3,1),(4,1),(5,1)] [(0,.I (o:Nat)),(1,.I (a:Nat))]=some (.agg (mF (vl o a 0 0 [] 0) .ei)):=λ_=>rfl;refine eh (eP _) ⟨c.qt,c.D.Bg,?_⟩;exact HP c (g.num _) (by omega) ⟨_,rfl,.nil⟩ λx R6 r u=>fin p x R6 _ (by simp_all) (f.trans (r.gm _) λ_ h=>h) u (by unfold tS;rw[if_neg Z,if_neg c1,if_neg c2,if_neg c3,if_neg c4,if_neg c5,if_neg c6,if_neg c7];rfl) ((g.num _).jd _)
end
open Un
structure Is (s s':Ds):Prop where
 k:∃l,s'.known=s.known++l
 v:∃l,s'.ej=s.ej++l
theorem Is.refl(s:Ds):Is s s:=⟨by simp_all,by simp_all⟩
theorem Is.trans{s s' c:Ds}(a:Is s s')(b:Is s' c):Is s c:=by
 obtain⟨⟨d,e⟩,⟨f,g⟩⟩:=a;obtain⟨⟨h,i⟩,⟨j,k⟩⟩:=b;exact⟨by simp_all,by simp_all⟩
theorem Is.kl{s s':Ds}(a:Is s s'):s.known.length<=s'.known.length:=by
 obtain⟨⟨b,c⟩,_⟩:=a
 simp_all
theorem Lo(ops:List Int)(s:Ds):Is s (fK ops s).2:=by
 obtain⟨p,hp⟩:=Gp ops (num ops s 4).1 (num ops s 4).2 [];unfold fK;simp only[hp];exact⟨by simp_all[num],by simp_all[num]⟩
theorem Gz(s:Ds)(x:Vl):Is s (jd s x):=⟨⟨_,rfl⟩,⟨_,rfl⟩⟩
theorem ML(s:Ds)(x:Vl):Is s (put s x):=⟨by simp_all[put],⟨_,rfl⟩⟩
theorem HU(ops:List Int)(s:Ds)(m:Nat):Is s (num ops s m).2:=⟨by simp_all[num],by simp_all[num]⟩
theorem Qu(ops:List Int)(s:Ds):Is s (fO ops s).2:=⟨by simp_all[fO],by simp_all[fO]⟩
theorem Xy(ops:List Int)(s:Ds)(k a b:Nat):Is s (tS ops s k a b):=by
 unfold tS;split
 ·grind[Gz]
 split
 ·exact(HU _ _ _).trans (Gz _ _)
 split
 ·exact(HU _ _ _).trans (Gz _ _)
 split
 ·grind[Gz]
 split
 ·exact(HU _ _ _).trans (ML _ _)
 split
 ·exact(Qu _ _).trans (ML _ _)
 split
 ·exact(Lo _ _).trans (ML _ _)
 split
 ·exact(Lo _ _).trans (ML _ _)
 ·exact(HU _ _ _).trans (Gz _ _)
theorem TE(ops:List Int):∀(i:Nat)(s:Ds),Is s (rows ops i s)
 |0,s=> .refl s
 | i+1,s=>by
   unfold rows;split
   ·exact(((Qu ops s).trans (Qu ops _)).trans ((HU ops _ 20).trans (Xy _ _ _ _ _))).trans (TE ops i _)
   ·exact .refl s
theorem Hu(ops:List Int)(s:Ds):Is s (row ops s):=(HU ops s 6).trans (TE ops _ _)
def Lm(L:Lc):V:= .func jS [] [.ptr L.qH 0,.ptr L.lu 0,.ptr L.iH 0,.ptr L.AD 0,.ptr L.VS 0]
def J5(L:Lc):V:= .func kS [] [.ptr L.jT 0,.ptr L.lu 0]
def ic(xs:List Nat):List V:=xs.map λn=> .I (n:Nat)
section
variable{F F' G G':Nat->Prop}{h h':Hp}{L:Lc}{ops:List Int}{t t':Dt}{R R':Rw}{Q:fD}
theorem G8(q:Dq F G h L ops t R)(xs:List Nat):Dq (fz F h.next) G (h.new (.cells 3 1 true false (ic xs))) L ops t R/\im eN (fz F h.next) (h.new (.cells 3 1 true false (ic xs))) xs (.slice h.next 0 xs.length)/\Kp F G h (h.new (.cells 3 1 true false (ic xs))):=by
 have k:=q.D.Al (.cells 3 1 true false (ic xs));exact⟨q.step k (q.D.new _) (qM _ _) q.gl q.hq rfl,.inr ⟨h.next,0,3,true,false,ic xs,rfl,.inr rfl,fq _ _,.inr rfl,Mj _,zI _ _ xs⟩,k⟩
theorem zk(q:Dq F G h L ops t R)(xs:List Nat){ps:Option (O×(Nat->V))}(hx:ps=some (O.cells 3 1 true false (ic xs),λl=> .slice l 0 xs.length)){K:Hp->Prop}
  (H:∀F' h' R',(∀l,F l->F' l)->Kp F G h h'->Dq F' G h' L ops {t with fi:=xs} R'->K h') :
  hV ps h λv d=>oP (fJ 4 (.ptr L.jT 0)) λe=>fm (gJ 1 e v d) λ_ f=>K f:=by
 subst hx;obtain⟨a,g,i⟩:=G8 q xs;rw[fE,fM,iB];have j:=pD (o:=4) (v:= .slice h.next 0 xs.length) (ql:=[R.cc,.I 0,.I 0,.ei,.slice h.next 0 xs.length,.I 0]) a.D.gb (by simp) rfl rfl;obtain⟨b,k⟩:=a.D.zbt (c:=R.cc) g;rw[zO,j,en];exact H _ _ _ (qM _ _) (i.trans b (qM _ _)) (a.step b k (by simp_all) q.gl a.hq rfl)
theorem TK(q:Dq F G h L ops t R)(e:t.blocks.length<1000)(b:Bk){w nv:V}(f:w = .agg (km b .ei nv .ei))(a:b.ej=[])(c:b.fi=[])(d:im eN F h b.next nv){K:fD}
  (H:∀F' h' R',(∀l,F l->F' l)->Kp F G h h'->Dq F' G h' L ops {s:={t.s with cur:=[]},blocks:=t.blocks++[⟨t.s.cur,b.fin,b.cond,b.next,t.fi,b.state⟩],fi:=[]} R'->K (.I t.blocks.length) h') :
  ij CS (gv (J5 L) [w]) h K:=by
 subst f;exact zcM (n:=0) q e a c d H
theorem Hc(q:Dq F G h L ops t R)(b:ops.length<9223372036854775808){n:Nat}(c:Sm t.s n)(a:n<900){K:fD}
  (H:∀F' h' R',(∀l,F l->F' l)->Kp F (gm G L.oT) h h'->Dq F' G h' L ops {t with s:=row ops t.s} R'->Sm (row ops t.s) (n+6)->K (.tuple []) h') :
  ij CS (gv (Lm L) []) h K:=zcU q b c a H
theorem VZ(q:Dq F G h L ops t R)(c:0<t.s.known.length)(d:t.s.known.length<1000){K:V->Prop}(H:K (.I (t.s.known.getLastD 0:Nat))) :
  oP (fe (.ptr L.iH 0) h) λa=>oP (fe (.ptr L.iH 0) h) λb=>oP (fI b) λn=>oP (ez .sub 3 n (.I 1)) λi=>oP (gB 1 a i) λp=>oP (fe p h) K:=by
 obtain⟨l,o,_,_,e,f⟩:=q.HV (i:=t.s.known.length-1) (by omega);refine eh q.D.Bg (eh q.D.Bg (eh q.D.ok.len (ze (by omega) c (eh e (eh f ?_)))))
 grind
theorem QZ(q:Dq F G h L ops t R){m:Nat}(c:m<=t.s.known.length){K:Hp->Prop}(H:∀h' R',Kp F G h h'->Dq F G h' L ops {t with s:=cut m t.s} R'->K h') :
  oP (fe (.ptr L.iH 0) h) λa=>oP (jA 1 a none (some (.I m)) h) λs=>fm (gJ 1 (.ptr L.iH 0) s h) λ_ b=>K b:=by
 obtain⟨g,b,d,e,_,k,f⟩:=q.D.zfC c;refine eh q.D.Bg (eh d ?_);rw[e,en];exact H _ _ k (q.step k f (by simp_all) q.gl q.hq rfl)
theorem UF(q:Dq F G h L ops t R)(j:ops.length<9223372036854775808){n:Nat}(k:Sm t.s n)(d:n<1000){K:fD}
  (H:∀h',Kp F (gm G L.oT) h h'->Dq F G h' L ops {t with s:=(fO ops t.s).2} R->K (.I ((fO ops t.s).1:Nat)) h') :
  oP (fe (.ptr L.iH 0) h) λa=>oP (fe (.ptr L.qH 0) h) λf=>oP (fe (.ptr L.iH 0) h) λb=>oP (fI b) λn=>ij CS (gv f [n]) h λi c=>(h.next<=c.next/\oP (gB 1 a i) λp=>oP (fe p c) λv=>((fe (.ptr L.iH 0) c=some a)/\K v c)):=by
 refine eh q.D.Bg (eh q.xx (eh q.D.Bg (eh q.D.ok.len ?_)));show cP CS ft [.I t.s.known.length,.ptr L.oT 0,.ptr L.lr 0] h _;exact Ov q j k d λc l o e g _ m r=>⟨e.next,eh m (eh r ⟨g.D.Bg,H _ e g⟩)⟩
theorem Oy(q:Dq F G h L ops t R)(e:ops.length<9223372036854775808){n:Nat}(d:Sm t.s n)(f:n<999){K:fD}
  (H:∀F' h' R',(∀l,F l->F' l)->Kp F (gm G L.oT) h h'->Dq F' G h' L ops {t with s:=(fK ops t.s).2} R'->Sm (fK ops t.s).2 (n+1)->K (.I ((fK ops t.s).1:Nat)) h') :
  ij CS (gv (T2 L) []) h K:=by
 show cP CS gf [.ptr L.lu 0,.ptr L.qH 0,.ptr L.iH 0] h _;have g:=d.k;have i:=d.st;exact Oi q d.k0 (by omega) (by omega) e λF' h' R' a b c _=>H F' h' R' a b c (d.state ops)
theorem Sm.end_{t:Dt}{n:Nat}(a:Sm t.s n)(f c:Nat)(nx:List Nat)(s:Nat)(p:List Nat):Sm (Un.end_ t f c nx s p).s n:=⟨a.v,Mj _,a.k,a.st,a.k0⟩
theorem Sm.cut{s:Ds}{n m:Nat}(a:Sm s n)(h0:0<m)(b:m<=s.known.length):Sm (Un.cut m s) n:=
 ⟨a.v,a.c,by show(s.known.take m).length<=n;rw[Mq];have:=a.k;omega,a.st,by show 0<(s.known.take m).length;simp_all⟩
theorem Sm.setArgs{s:Ds}{n:Nat}(a:Sm s n)(v:Nat)(l:List Nat):Sm (Un.setArgs s v l) n:=⟨by rw[(Fs s v l).1];exact a.v,a.c,a.k,a.st,a.k0⟩
theorem EX(q:Dq F G h L ops t R)(d:t.blocks.length<1000)(fin cond:Nat)(nx:List Nat)(state:Nat){ps:Option (O×(Nat->V))}(hx:ps=some (O.cells 3 1 true false (ic nx),λl=> .slice l 0 nx.length)){B:V->Option V}
  (e:∀m,B (.slice m 0 nx.length)=some (.agg (km ⟨[],fin,cond,nx,[],state⟩ .ei (.slice m 0 nx.length) .ei))) {K:fD}
  (H:∀F' h' R',(∀l,F l->F' l)->Kp F G h h'->Dq F' G h' L ops {s:={t.s with cur:=[]},blocks:=t.blocks++[⟨t.s.cur,fin,cond,nx,t.fi,state⟩],fi:=[]} R'->K (.I t.blocks.length) h') :
  hV ps h λv f=>oP (B v) λw=>ij CS (gv (J5 L) [w]) f K:=by
 subst hx;obtain⟨g,i,j⟩:=G8 q nx;rw[fE];refine eh (e _) ?_;exact TK g d ⟨[],fin,cond,nx,[],state⟩ rfl rfl rfl i λF' h' R' a b c=>H F' h' R' (by grind[qM]) (j.trans b (qM _ _)) c
end
open Un
section
variable{F F' G G':Nat->Prop}{h h':Hp}{L:Lc}{ops:List Int}{t t':Dt}{R R':Rw}{Q:fD}
theorem Xs(q:Dq F G h L ops t R){t':Dt}(e:t=t'):Dq F G h L ops t' R:=e▸q
theorem kgm{F F' G:Nat->Prop}{h h' b:Hp}{a:Nat}(x:Kp F (gm G a) h h')(y:Kp F' G h' b)(c:∀l,F l->F' l):Kp F (gm G a) h b:=x.trans (y.gm a) c
theorem zar(q:Dq F G h L ops t R)(ho:ops.length<9223372036854775808){n:Nat}(hn:Sm t.s n)(cf:n<800)(hb:t.blocks.length<900){K:Hp->Prop}
  (H:∀F' h' R',(∀l,F l->F' l)->Kp F (gm G L.oT) h h'->Dq F' G h' L ops (fork ops t) R'->Sm (fork ops t).s (n+30)->K h') :
  oP (fe (.ptr L.iH 0) h) λw=>
  oP (fe (.ptr L.qH 0) h) λY=>
  oP (fe (.ptr L.iH 0) h) λZ=>
  oP (fI Z) λaa=>
  ij CS (gv Y [aa]) h λab x=>
  (h.next<=x.next/\
  oP (gB 1 w ab) λac=>
  oP (fe ac x) λae=>
  ((fe (.ptr L.iH 0) x=some w)/\
  oP (fe (.ptr L.iH 0) x) λag=>
  oP (fI ag) λy=>
  oP (fJ 3 (.ptr L.lu 0)) λah=>
  oP (fe ah x) λai=>
  oP (fI ai) λaj=>
  oP (ez .add 3 aj (V.I 1)) λak=>
  oP (fJ 3 (.ptr L.lu 0)) λal=>
  oP (fe al x) λam=>
  oP (fI am) λan=>
  oP (ez .add 3 an (V.I 2)) λao=>
  hV (jz 3 1 2 (V.I 0) [(0,ak),(1,ao)]) x λap h3=>
  oP (fV [V.ei,(V.I 0),(V.I 0),V.ei,V.ei,(V.I 0)] [(0,1),(1,1),(2,1),(3,1),(4,1),(5,1)] [(1,(V.I 2)),(2,ae),(3,ap)]) λaq=>
  ij CS (gv (J5 L) [aq]) h3 λz h4=>
  hV (jz 3 1 1 (V.I 0) [(0,z)]) h4 λar h5=>
  oP (fJ 4 (.ptr L.jT 0)) λau=>
  fm (gJ 1 au ar h5) λvu h6=>
  ij CS (gv (Lm L) []) h6 λbZ E=>
  oP (fe (.ptr L.iH 0) E) λaw=>
  oP (fe (.ptr L.iH 0) E) λax=>
  oP (fI ax) λay=>
  oP (ez .sub 3 ay (V.I 1)) λaA=>
  oP (gB 1 aw aA) λaB=>
  oP (fe aB E) λaC=>
  oP (fe (.ptr L.iH 0) E) λaD=>
  oP (jA 1 aD none (some y) E) λaE=>
  fm (gJ 1 (.ptr L.iH 0) aE E) λb4 h8=>
  oP (fJ 3 (.ptr L.lu 0)) λaF=>
  oP (fe aF h8) λaG=>
  oP (fI aG) λaH=>
  oP (ez .add 3 aH (V.I 2)) λaI=>
  hV (jz 3 1 1 (V.I 0) [(0,aI)]) h8 λaJ h9=>
  oP (fV [V.ei,(V.I 0),(V.I 0),V.ei,V.ei,(V.I 0)] [(0,1),(1,1),(2,1),(3,1),(4,1),(5,1)] [(1,(V.I 1)),(3,aJ)]) λaK=>
  ij CS (gv (J5 L) [aK]) h9 λaL aM=>
  hV (jz 3 1 1 (V.I 0) [(0,z)]) aM λaN bD=>
  oP (fJ 4 (.ptr L.jT 0)) λaO=>
  fm (gJ 1 aO aN bD) λb5 aP=>
  ij CS (gv (Lm L) []) aP λb6 b=>
  oP (fe (.ptr L.iH 0) b) λaQ=>
  oP (fe (.ptr L.iH 0) b) λaR=>
  oP (fI aR) λaS=>
  oP (ez .sub 3 aS (V.I 1)) λaT=>
  oP (gB 1 aQ aT) λaU=>
  oP (fe aU b) λaV=>
  oP (fe (.ptr L.iH 0) b) λaW=>
  oP (jA 1 aW none (some y) b) λaX=>
  fm (gJ 1 (.ptr L.iH 0) aX b) λb7 I=>
  oP (fJ 3 (.ptr L.lu 0)) λaY=>
  oP (fe aY I) λaZ=>
  oP (fI aZ) λa4=>
  oP (ez .add 3 a4 (V.I 1)) λa5=>
  hV (jz 3 1 1 (V.I 0) [(0,a5)]) I λa6 bE=>
  oP (fV [V.ei,(V.I 0),(V.I 0),V.ei,V.ei,(V.I 0)] [(0,1),(1,1),(2,1),(3,1),(4,1),(5,1)] [(1,(V.I 1)),(3,a6)]) λa7=>
  ij CS (gv (J5 L) [a7]) bE λa8 a9=>
  hV (jz 3 1 2 (V.I 0) [(0,aL),(1,a8)]) a9 λba bG=>
  oP (fJ 4 (.ptr L.jT 0)) λbb=>
  fm (gJ 1 bb ba bG) λb8 a=>
  oP (fe (.ptr L.iH 0) a) λg=>
  oP (fe (.ptr L.AD 0) a) λA=>
  yp (jz 3 1 2 (V.I 0) [(0,aC),(1,aV)]) a λo4 bc d=>
  oP (fV [(V.I 0),(V.I 0),(V.I 0),(V.I 0),V.ei,(V.I 0)] [(0,1),(1,1),(2,1),(3,1),(4,1),(5,1)] [(0,(V.I 21)),(4,bc)]) λbd=>
  ((d.get (a.next)=some o4/\O.beq o4 o4=true)/\
  ((fe (.ptr L.AD 0) d=some A)/\
  ((fe (.ptr L.iH 0) d=some g)/\
  ij CS (gv A [bd]) d λbe J=>
  (d.next<=J.next/\
  yp (jz 3 1 1 (V.I 0) [(0,be)]) J λo7 bf o=>
  ((o.get (J.next)=some o7/\O.beq o7 o7=true)/\
  ((fe (.ptr L.iH 0) o=some g)/\
  fm (fh 3 1 8 g bf o) λbg M=>
  (o.next<=M.next/\
  fm (gJ 1 (.ptr L.iH 0) bg M) λb9 N=>
  (M.next<=N.next/\
  ij CS (gv (Lm L) []) N λca P=>K P)))))))))):=by
 have bh:=hn.k0;have hk:=hn.k;refine UF q ho hn (by omega) λx k2 B=>?_;refine eh B.D.Bg (eh B.D.ok.len ?_);refine eh (by rfl) (eh B.D.ldB (eh B.D.ob.len (lZ (m:=1) (show t.blocks.length<_ by omega) (by omega) ?_)));refine eh (by rfl) (eh B.D.ldB (eh B.D.ob.len (lZ (m:=2) (show t.blocks.length<_ by omega) (by omega) ?_)));have n2:Sm (fO ops t.s).2 n:=hn.one;refine EX B (show t.blocks.length<_ by omega) 2 (fO ops t.s).1 [t.blocks.length+1,t.blocks.length+2] 0 rfl (λ_=>rfl) λF4 h4 R4 f4 k4 q4=>?_;refine zk q4 [t.blocks.length] rfl λF6 h6 R6 f6 k6 q6=>?_;have q6:=Xs (t':=end_ {t with s:=(fO ops t.s).2} 2 (fO ops t.s).1 [t.blocks.length+1,t.blocks.length+2] 0 [t.blocks.length]) q6 rfl;have n6:Sm (end_ {t with s:=(fO ops t.s).2} 2 (fO ops t.s).1 [t.blocks.length+1,t.blocks.length+2] 0 [t.blocks.length]).s n:=n2.end_ (t:={t with s:=(fO ops t.s).2}) _ _ _ _ _;have Q:(end_ {t with s:=(fO ops t.s).2} 2 (fO ops t.s).1 [t.blocks.length+1,t.blocks.length+2] 0 [t.blocks.length]).blocks.length=t.blocks.length+1:=by simp[end_]
 have cg:(end_ {t with s:=(fO ops t.s).2} 2 (fO ops t.s).1 [t.blocks.length+1,t.blocks.length+2] 0 [t.blocks.length]).s.known.length=t.s.known.length:=rfl;have c:fork ops t=fork ops t:=rfl
 conv at c=>rhs;unfold fork
 simp only at c;have el:({t with s:=(fO ops t.s).2}:Dt).s.known.length=t.s.known.length:=rfl;rw[el];have kA:=kgm k2 (k4.trans k6 f4) λ_ h=>h;have fA:∀l,F l->F6 l:=by simp_all
 generalize end_ {t with s:=(fO ops t.s).2} 2 (fO ops t.s).1 [t.blocks.length+1,t.blocks.length+2] 0 [t.blocks.length]=e at*;clear B q4 k2 k4 k6;refine Hc q6 ho n6 (by omega) λF7 E R7 f7 k7 q7 n7=>?_;have x7:=Hu ops e.s;have ci:=x7.kl;generalize row ops e.s=f at*;have cj:=n7.k;refine VZ q7 (by grind) (by grind) ?_;refine QZ q7 (m:=t.s.known.length) (by simp_all) λh8 R8 k8 q8=>?_;have n8:Sm (cut t.s.known.length f) (n+6):=n7.cut bh (by omega);refine eh (by rfl) (eh q8.D.ldB (eh q8.D.ob.len (lZ (m:=2) (show e.blocks.length<_ by omega) (by omega) ?_)));refine EX q8 (show e.blocks.length<_ by omega) 1 0 [t.blocks.length+3] 0 (by show jz 3 1 1 (V.I 0) [(0,.I ((e.blocks.length+2:Nat):Int))]=_;rw[Q];rfl) (λ_=>rfl) λcm aM FN cn bi bj=>?_;refine zk bj [t.blocks.length] rfl λbH aP R12 co bm p=>?_;have p:=Xs (t':=end_ {e with s:=cut t.s.known.length f} 1 0 [t.blocks.length+3] 0 [t.blocks.length]) p rfl;have bI:Sm (end_ {e with s:=cut t.s.known.length f} 1 0 [t.blocks.length+3] 0 [t.blocks.length]).s (n+6):=n8.end_ (t:={e with s:=cut t.s.known.length f}) _ _ _ _ _;have C:(end_ {e with s:=cut t.s.known.length f} 1 0 [t.blocks.length+3] 0 [t.blocks.length]).blocks.length=t.blocks.length+2:=by simp[end_,Q]
 have cb:(end_ {e with s:=cut t.s.known.length f} 1 0 [t.blocks.length+3] 0 [t.blocks.length]).s.known.length=t.s.known.length:=by
  show(f.known.take t.s.known.length).length=_;rw[Mq];omega
 have bo:({e with s:=cut t.s.known.length f}:Dt).blocks.length=t.blocks.length+1:=Q;rw[bo];have S:({e with s:=f}:Dt).s.known.getLastD 0=f.known.getLastD 0:=rfl;rw[S];have kB:=(((kA.trans k7 fA).trans ((k8.gm L.oT).trans (bi.gm L.oT) λ_ h=>h) (by grind)).trans (bm.gm L.oT) (by grind))
 have fB:∀l,F l->bH l:=by grind
 generalize f.known.getLastD 0=W at*;generalize end_ {e with s:=cut t.s.known.length f} 1 0 [t.blocks.length+3] 0 [t.blocks.length]=i at*;clear q6 q7 q8 bj k7 k8 bi bm kA;refine Hc p ho bI (by omega) λcp b R13 cq br T bt=>?_;have bJ:=Hu ops i.s;have cd:=bJ.kl;generalize row ops i.s=r at*;have ce:=bt.k;refine VZ T (by grind) (by grind) ?_;refine QZ T (m:=t.s.known.length) (by simp_all) λI R14 bu u=>?_;have bK:Sm (cut t.s.known.length r) (n+6+6):=bt.cut bh (by omega);refine eh (by rfl) (eh u.D.ldB (eh u.D.ob.len (lZ (m:=1) (show i.blocks.length<_ by omega) (by omega) ?_)));refine EX u (show i.blocks.length<_ by omega) 1 0 [t.blocks.length+3] 0 (by show jz 3 1 1 (V.I 0) [(0,.I ((i.blocks.length+1:Nat):Int))]=_;rw[C];rfl) (λ_=>rfl) λcr a9 ct cu bw bx=>?_;have bz:({i with s:=cut t.s.known.length r}:Dt).blocks.length=t.blocks.length+2:=C;rw[bz];refine zk bx [t.blocks.length+1,t.blocks.length+2] rfl λbL a R18 cv bA j=>?_;have j:=Xs (t':=end_ {i with s:=cut t.s.known.length r} 1 0 [t.blocks.length+3] 0 [t.blocks.length+1,t.blocks.length+2]) j rfl;have bC:Sm (end_ {i with s:=cut t.s.known.length r} 1 0 [t.blocks.length+3] 0 [t.blocks.length+1,t.blocks.length+2]).s (n+12):=(bK.le (by omega)).end_ (t:={i with s:=cut t.s.known.length r}) _ _ _ _ _;have v:({i with s:=r}:Dt).s.known.getLastD 0=r.known.getLastD 0:=rfl;rw[v];have kC:=(((kB.trans br fB).trans ((bu.gm L.oT).trans (bw.gm L.oT) λ_ h=>h) (by simp_all)).trans (bA.gm L.oT) (by grind))
 have fC:∀l,F l->bL l:=by grind
 generalize r.known.getLastD 0=X at*;generalize end_ {i with s:=cut t.s.known.length r} 1 0 [t.blocks.length+3] 0 [t.blocks.length+1,t.blocks.length+2]=t3 at*;clear p T u bx br bu bw bA kB;refine eh j.D.Bg (eh j.qt ?_);have e3:jz 3 1 2 (V.I 0) [(0,V.I W),(1,V.I X)]=some (.cells 3 1 true false (ic [W,X]),λl=> .slice l 0 2):=rfl;rw[e3,hX];obtain⟨U,bQ,bR⟩:=G8 j [W,X];have cw:(a.new (.cells 3 1 true false (ic [W,X]))).get a.next=_:=fq _ _;have eP:∀n:Nat,fV [(V.I 0),(V.I 0),(V.I 0),(V.I 0),V.ei,(V.I 0)] [(0,1),(1,1),(2,1),(3,1),(4,1),(5,1)] [(0,(V.I 21)),(4,.slice n 0 2)]=some (.agg (mF (vl 21 0 0 0 [W,X] 0) (.slice n 0 2))):=λ_=>rfl;refine eh (eP _) ⟨by simp_all,U.qt,U.D.Bg,?_⟩;generalize a.new (.cells 3 1 true false (ic [W,X]))=d at*;refine HP U bC (by omega) ⟨_,rfl,bQ⟩ λN cx bS bU=>?_;refine Hc bU ho (bC.jd _) (by omega) λbV P bW cy bX cz bY=>?_;refine H bV P bW (by grind[qM]) ((kC.trans ((bR.gm L.oT).trans (bS.gm L.oT) (qM _ _)) fC).trans bX (by grind[qM])) (by simp_all) ?_;rw[c];exact bY.le (by omega)
end
open Un
section
variable{F F' G G':Nat->Prop}{h h':Hp}{L:Lc}{ops:List Int}{t t':Dt}{R R':Rw}{Q:fD}
theorem zaN(q:Dq F G h L ops t R)(O:ops.length<9223372036854775808){n:Nat}(P:Sm t.s n)(aI:n<800)(hb:t.blocks.length<900){K:Hp->Prop}
  (H:∀F' h' R',(∀l,F l->F' l)->Kp F (gm G L.oT) h h'->Dq F' G h' L ops (zl ops t) R'->Sm (zl ops t).s (n+30)->K h') :
  oP (fe (.ptr L.iH 0) h) λi=>
  oP (fe (.ptr L.qH 0) h) λU=>
  oP (fe (.ptr L.iH 0) h) λW=>
  oP (fI W) λX=>
  ij CS (gv U [X]) h λY a=>
  (h.next<=a.next/\
  oP (gB 1 i Y) λZ=>
  oP (fe Z a) λaa=>
  ((fe (.ptr L.iH 0) a=some i)/\
  oP (fJ 3 (.ptr L.lu 0)) λab=>
  oP (fe ab a) λac=>
  oP (fI ac) λae=>
  oP (ez .add 3 ae (V.I 1)) λag=>
  oP (fJ 3 (.ptr L.lu 0)) λah=>
  oP (fe ah a) λj=>
  oP (fI j) λo=>
  oP (ez .add 3 o (V.I 2)) λp=>
  hV (jz 3 1 2 (V.I 0) [(0,ag),(1,p)]) a λr ai=>
  oP (fV [V.ei,(V.I 0),(V.I 0),V.ei,V.ei,(V.I 0)] [(0,1),(1,1),(2,1),(3,1),(4,1),(5,1)] [(1,(V.I 2)),(2,aa),(3,r)]) λu=>
  ij CS (gv (J5 L) [u]) ai λb v=>
  oP (fe (.ptr L.iH 0) v) λw=>
  oP (fI w) λx=>
  hV (jz 3 1 1 (V.I 0) [(0,b)]) v λy aj=>
  oP (fJ 4 (.ptr L.jT 0)) λz=>
  fm (gJ 1 z y aj) λak al=>
  ij CS (gv (Lm L) []) al λaF A=>
  oP (fe (.ptr L.VS 0) A) λB=>
  ij CS (gv B []) A λC am=>
  oP (fV [V.ei,(V.I 0),(V.I 0),V.ei,V.ei,(V.I 0)] [(0,1),(1,1),(2,1),(3,1),(4,1),(5,1)] [(1,(V.I 3)),(5,C)]) λE=>
  ij CS (gv (J5 L) [E]) am λaG d=>
  oP (fe (.ptr L.iH 0) d) λI=>
  oP (jA 1 I none (some x) d) λJ=>
  fm (gJ 1 (.ptr L.iH 0) J d) λan ao=>
  hV (jz 3 1 1 (V.I 0) [(0,b)]) ao λM ap=>
  oP (fJ 4 (.ptr L.jT 0)) λN=>
  fm (gJ 1 N M ap) λaq ar=>
  ij CS (gv (Lm L) []) ar λaH au=>K au)):=by
 have aw:=P.k0;have hk:=P.k;refine UF q O P (by omega) λh2 Q g=>?_;refine eh (by rfl) (eh g.D.ldB (eh g.D.ob.len (lZ (m:=1) (show t.blocks.length<_ by omega) (by omega) ?_)));refine eh (by rfl) (eh g.D.ldB (eh g.D.ob.len (lZ (m:=2) (show t.blocks.length<_ by omega) (by omega) ?_)));have n2:Sm (fO ops t.s).2 n:=P.one;refine EX g (show t.blocks.length<_ by omega) 2 (fO ops t.s).1 [t.blocks.length+1,t.blocks.length+2] 0 rfl (λ_=>rfl) λF4 h4 R4 f4 k4 S=>?_;refine eh S.D.Bg (eh S.D.ok.len ?_);refine zk S [t.blocks.length] rfl λF6 h6 R6 f6 k6 q6=>?_;have q6:=Xs (t':=end_ {t with s:=(fO ops t.s).2} 2 (fO ops t.s).1 [t.blocks.length+1,t.blocks.length+2] 0 [t.blocks.length]) q6 rfl;have n6:Sm (end_ {t with s:=(fO ops t.s).2} 2 (fO ops t.s).1 [t.blocks.length+1,t.blocks.length+2] 0 [t.blocks.length]).s n:=n2.end_ (t:={t with s:=(fO ops t.s).2}) _ _ _ _ _;have aJ:(end_ {t with s:=(fO ops t.s).2} 2 (fO ops t.s).1 [t.blocks.length+1,t.blocks.length+2] 0 [t.blocks.length]).blocks.length=t.blocks.length+1:=by simp[end_]
 have aK:(end_ {t with s:=(fO ops t.s).2} 2 (fO ops t.s).1 [t.blocks.length+1,t.blocks.length+2] 0 [t.blocks.length]).s.known.length=t.s.known.length:=rfl;have hx:zl ops t=zl ops t:=rfl
 conv at hx=>rhs;unfold zl
 simp only at hx;have kA:=kgm Q (k4.trans k6 f4) λ_ h=>h;have fA:∀l,F l->F6 l:=by simp_all
 generalize end_ {t with s:=(fO ops t.s).2} 2 (fO ops t.s).1 [t.blocks.length+1,t.blocks.length+2] 0 [t.blocks.length]=c at*;clear g S Q k4 k6;refine Hc q6 O n6 (by omega) λF7 h7 R7 f7 k7 q7 n7=>?_;have x7:=Hu ops c.s;have aL:=x7.kl;generalize row ops c.s=e at*;refine eh q7.Kj ?_;refine Oy q7 O n7 (by omega) λF8 h8 R8 f8 k8 q8 T=>?_;have x8:=Lo ops e;have aM:=x8.kl;have e8:fK ops ({c with s:=e}:Dt).s=fK ops e:=rfl;rw[e8];have q8:Dq F8 G h8 L ops {c with s:=(fK ops e).2} R8:=q8;have T:Sm (fK ops e).2 (n+6+1):=T;generalize (fK ops e).2=s2 at*;generalize (fK ops e).1=sn at*;have eB:fV [V.ei,(V.I 0),(V.I 0),V.ei,V.ei,(V.I 0)] [(0,1),(1,1),(2,1),(3,1),(4,1),(5,1)] [(1,(V.I 3)),(5,.I sn)]=some (.agg (km ⟨[],3,0,[],[],sn⟩ .ei .ei .ei)):=rfl;refine eh eB ?_;have aN:=T.k;refine TK q8 (show c.blocks.length<_ by omega) ⟨[],3,0,[],[],sn⟩ rfl rfl rfl .nil λF9 h9 R9 f9 k9 q9=>?_;refine QZ q9 (m:=t.s.known.length) (by grind) λaO FN ax ay=>?_;refine zk ay [t.blocks.length] rfl λaP aQ R11 aR RK f=>?_;have f:=Xs (t':=end_ {c with s:=cut t.s.known.length s2} 3 0 [] sn [t.blocks.length]) f rfl;have aA:Sm (end_ {c with s:=cut t.s.known.length s2} 3 0 [] sn [t.blocks.length]).s (n+7):=(T.cut aw (by omega)).end_ (t:={c with s:=cut t.s.known.length s2}) _ _ _ _ _;refine Hc f O aA (by omega) λaB aC R12 aS aD aT aE=>?_;have g11:∀l,F l->F8 l:=by grind
 refine H aB aC R12 (by grind) ?_ (by simp_all) ?_
 ·have k1:=(kA.trans k7 fA).trans k8 (by grind);have Q:=((k9.gm L.oT).trans (ax.gm L.oT) f9).trans (RK.gm L.oT) f9;exact(k1.trans Q g11).trans aD (by grind)
 ·rw[hx];exact aE.le (by omega)
end
