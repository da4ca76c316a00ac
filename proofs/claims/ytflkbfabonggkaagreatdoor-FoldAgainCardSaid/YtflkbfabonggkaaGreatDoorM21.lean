/- Parts. -/
import Derived.Test.YtflkbfabonggkaaGreatDoorM20
set_option maxHeartbeats 4000000
namespace Go.Proofs.YtflkbfabonggkaaGreatDoor.Hx
open Un
theorem iO{b:Bool}{A B:Prop}(h:if b=true then A else B):bP (.bool b) A B:=by simp_all
theorem Wi(ops:List Int)(s:Ds):rows ops 0 s=s:=rfl
theorem V2(ops:List Int)(k:Nat)(s:Ds)(h:¬s.ef.length<200):rows ops k s=s:=by
 cases k <;> simp_all[rows,if_neg]
theorem Xg(ops:List Int)(k:Nat)(s:Ds)(h:s.ef.length<200):rows ops (k+1) s=rows ops k (uk ops s):=by
 simp_all[rows,if_pos]
section
variable{F F' G G':Nat->Prop}{h h':Hp}{L:Lc}{ops:List Int}{t t':Dt}{R R':Rw}{Q:ft}
theorem Sm.one{s:Ds}{n:Nat}(a:Sm s n):Sm (fJ ops s).2 n:=a.pos _
theorem Sm.num{s:Ds}{n:Nat}(a:Sm s n)(m:Nat):Sm (num ops s m).2 n:=a.pos _
theorem zel{s:Ds}{n:Nat}(a:Sm s n)(ops:List Int)(x:Vl):Sm (put (fF ops s).2 x) (n+1):=by
 obtain ⟨p,hp⟩:=FO ops (num ops s 4).1 (num ops s 4).2 [];have e:(fF ops s).2 = {s with pos:=p,eh:=(fF ops s).2.eh}:=by
  unfold fF;simp only[hp];rfl
 have h:=a.state ops;rw[e]at h⊢;exact⟨vR a.v,vR a.c,h.k,h.st,h.k0⟩
theorem zck(q:Dq F G h L ops t R)(v:ops.length<9223372036854775808){n:Nat}(hn:Sm t.s n)(ae:n<900)
  (H:∀F' h' R',(∀l,F l->F' l)->Kp F (gm G L.nr) h h'->Dq F' G h' L ops {t with s:=row ops t.s} R'->Sm (row ops t.s) (n+6)->Q (.tuple []) h') :
  cP CS jx [.ptr L.qa 0,.ptr L.lu 0,.ptr L.iq 0,.ptr L.z6 0,.ptr L.VV 0] h Q:=by
 refine ED rfl rfl ?_;unfold wJ;refine ed q.xB ?_;show cP CS fk [.I ((6:Nat):Int),.ptr L.nr 0,.ptr L.lr 0] h _;refine yy q (by decide) (by decide) v λh0 k0 q0=>?_;have hr:(draw ops t.s.pos 6).1<6:=by simp_all[yx]
 refine kZ (n:=1) (by decide) (by omega) ?_
 refine Bl (λk N O P S T U h'=>∃(F':Nat->Prop) (R':Rw) (s:Ds),N = .ptr L.qa 0/\O = .ptr L.lu 0/\P = .ptr L.iq 0/\S = .ptr L.z6 0/\T = .ptr L.VV 0/\U = .I (k:Nat)/\(∀l,F l->F' l)/\
  Kp F (gm G L.nr) h h'/\Dq F' G h' L ops {t with s:=s} R'/\rows ops k s=row ops t.s/\∃m,Sm s m/\m+k<=n+6) ?_
  ⟨F,R,(num ops t.s 6).2,rfl,rfl,rfl,rfl,rfl,rfl,λ_ h=>h,k0,q0,rfl,n,hn.num 6,by omega⟩
 rintro k N O P S T U h' ⟨p,R1,s,rfl,rfl,rfl,rfl,rfl,rfl,I,W,A,j,m,J,ag⟩;unfold rW;refine ed (by rw[nw]) ?_;have lv:=A.D.ov.len;have eA:jO (.bool (decide ((0:Int)<(k:Nat)))) (oB (fH 2 (.ptr L.lu 0)) λaa=>oB (ez aa h') λab=>oB (fE ab) λac=>en .lss 3 ac (V.I 200))=some (.bool (decide ((0:Int)<(k:Nat))&&decide (((s.ef.length:Nat):Int)<200))):=by
  simp only[fT,fe,zj,A.D.Xy,lv,jB,jc]
 refine ed eA (iO ?_)
 cases k with
 | zero=>
   refine fU (by simp) ?_;rw[Wi]at j
   refine H p h' R1 I W (by simp_all) (by rw[<-j];exact J.le (by omega))
 | succ k=>
   by_cases Ob:s.ef.length<200;rotate_left
   ·refine fU (by simp;omega) ?_
    rw[V2 _ _ _ Ob]at j;refine H p h' R1 I W (by simp_all) (by rw[<-j];exact J.le (by omega))
   refine gi (by simp;omega) ?_;have B:rows ops k (uk ops s)=row ops t.s:=by rw[<-j,Xg _ _ _ Ob]
   clear j eA;refine ed A.D.AD (ed A.xB (ed A.D.AD (ed A.D.ok.len ?_)));show cP CS fk [.I (s.known.length:Nat),.ptr L.nr 0,.ptr L.lr 0] h' _;refine MD A v J (by omega) λh2 l o k2 C _ i1 E=>⟨k2.next,ed i1 (ed E ⟨C.D.AD,?_⟩)⟩
   have E:True:=trivial;refine ed C.D.AD (ed C.xB (ed C.D.AD (ed C.D.ok.len ?_)));show cP CS fk [.I ((fJ ops s).2.known.length:Nat),.ptr L.nr 0,.ptr L.lr 0] h2 _;refine MD C v J.one (by omega) λh3 l' o' k3 X _ j1 j2=>⟨k3.next,ed j1 (ed j2 ⟨X.D.AD,?_⟩)⟩
   refine ed X.xB ?_;show cP CS fk [.I ((20:Nat):Int),.ptr L.nr 0,.ptr L.lr 0] h3 _;refine yy X (by decide) (by decide) v λz k4 d=>?_;have d:Dq p G z L ops {t with s:=(num ops (fJ ops (fJ ops s).2).2 20).2} R1:=d;have g:Sm (num ops (fJ ops (fJ ops s).2).2 20).2 m:=J.one.one.num 20;have kk:Kp F (gm G L.nr) h z:=((W.trans k2 I).trans k3 I).trans k4 I;have w:uk ops s=rY ops (num ops (fJ ops (fJ ops s).2).2 20).2 (num ops (fJ ops (fJ ops s).2).2 20).1 (fJ ops s).1 (fJ ops (fJ ops s).2).1:=rfl;rw[w]at B;have ek:(draw ops ({t with s:=(fJ ops ({t with s:=(fJ ops ({t with s:=s}:Dt).s).2}:Dt).s).2}:Dt).s.pos 20).1=(num ops (fJ ops (fJ ops s).2).2 20).1:=rfl;rw[ek];clear ek;have ah:(num ops (fJ ops (fJ ops s).2).2 20).1<20:=yx _ _ (by decide);generalize (num ops (fJ ops (fJ ops s).2).2 20).2=s4 at*;generalize (num ops (fJ ops (fJ ops s).2).2 20).1=kd at*;have ea:(fJ ops ({t with s:=s}:Dt).s).1=(fJ ops s).1:=rfl;have eb:(fJ ops ({t with s:=(fJ ops ({t with s:=s}:Dt).s).2}:Dt).s).1=(fJ ops (fJ ops s).2).1:=rfl;rw[ea,eb];generalize (fJ ops s).1=a at*;generalize (fJ ops (fJ ops s).2).1=b at*;clear X C A W k2 k3 k4 j1 j2 lv w
   have fin:∀(Y:Nat->Prop) (e:Hp) (R2:Rw) (K:Ds),(∀l,p l->Y l)->Kp p (gm G L.nr) z e->Dq Y G e L ops {t with s:=K} R2->K=rY ops s4 kd a b->Sm K (m+1)->
       gy CS Q (λN O P S T U hh=>∃k',k' < k+1/\∃(F':Nat->Prop) (R':Rw) (s:Ds),N = .ptr L.qa 0/\O = .ptr L.lu 0/\P = .ptr L.iq 0/\S = .ptr L.z6 0/\T = .ptr L.VV 0/\U = .I (k':Nat)/\(∀l,F l->F' l)/\
         Kp F (gm G L.nr) h hh/\Dq F' G hh L ops {t with s:=s} R'/\rows ops k' s=row ops t.s/\∃m,Sm s m/\m+k'<=n+6) (.ptr L.qa 0) (.ptr L.lu 0) (.ptr L.iq 0) (.ptr L.z6 0) (.ptr L.VV 0) (.I ((k+1:Nat):Int)) e:=by
     intro Y e R2 K ai f c e5 m5;refine Bp ?_;unfold rO;refine Aa (by omega) (by omega) ?_;exact⟨k,by omega,Y,R2,K,rfl,rfl,rfl,rfl,rfl,rfl,by simp_all,kk.trans f I,c,by simp_all,m+1,m5,by omega⟩
   by_cases Z:kd<12
   ·refine gG ?_
    refine ed d.D.AD (ed d.pE (kZ (n:=3) (by decide) (by omega) ?_));have eP:∀o:Nat,fV [(V.I 0),(V.I 0),(V.I 0),(V.I 0),V.ee,(V.I 0)] [(0,1),(1,1),(2,1),(3,1),(4,1),(5,1)] [(0,.I (o:Nat)),(1,.I (a:Nat)),(2,.I (b:Nat))]=some (.agg (my (vl o a b 0 [] 0) .ee)):=λ_=>rfl;refine ed (eP _) ?_;exact Hm d g (by omega) ⟨_,rfl,.nil⟩ λe R5 f c=>fin p e R5 _ (by simp_all) (f.gm _) c (by simp_all[rY,if_pos]) (g.iP _)
   refine iJ ?_;by_cases c1:kd=12
   ·refine fX (gi (by omega) ?_)
    refine ed d.D.AD (ed d.pE (ed d.xB ?_));show cP CS fk [.I ((1048576:Nat):Int),.ptr L.nr 0,.ptr L.lr 0] z _;refine yy d (by decide) (by decide) v λe f c=>⟨f.next,?_⟩
    have c:Dq p G e L ops {t with s:=(num ops s4 1048576).2} R1:=c;have hd:(draw ops s4.pos 1048576).1<1048576:=by simp_all[yx]
    have ew:lH .i64 (((draw ops s4.pos 1048576).1:Int)-9)=((draw ops s4.pos 1048576).1:Int)-9:=by grind[pD,qc]
    refine ed (by rw[oR]) ?_;rw[show(lH .i64 (((draw ops ({t with s:=s4}:Dt).s.pos 1048576).1:Int)-9))=((draw ops s4.pos 1048576).1:Int)-9 from ew];have eP:∀i:Int,fV [(V.I 0),(V.I 0),(V.I 0),(V.I 0),V.ee,(V.I 0)] [(0,1),(1,1),(2,1),(3,1),(4,1),(5,1)] [(0,(V.I 2)),(3,.I i)]=some (.agg (my (vl 2 0 0 i [] 0) .ee)):=λ_=>rfl;refine ed (eP _) ⟨c.pE,c.D.AD,?_⟩;exact Hm c (g.num _) (by omega) ⟨_,rfl,.nil⟩ λx R6 r u=>fin p x R6 _ (by simp_all) (f.trans (r.gm _) λ_ h=>h) u (by unfold rY;rw[if_neg Z,if_pos c1];rfl) ((g.num _).iP _)
   refine fX (fU (by omega) ?_);by_cases c2:kd=13
   ·refine fX (gi (by omega) ?_)
    refine ed d.D.AD (ed d.pE (ed d.xB ?_));show cP CS fk [.I ((5:Nat):Int),.ptr L.nr 0,.ptr L.lr 0] z _;refine yy d (by decide) (by decide) v λe f c=>⟨f.next,?_⟩
    have c:Dq p G e L ops {t with s:=(num ops s4 5).2} R1:=c;have eP:∀n:Nat,fV [(V.I 0),(V.I 0),(V.I 0),(V.I 0),V.ee,(V.I 0)] [(0,1),(1,1),(2,1),(3,1),(4,1),(5,1)] [(0,(V.I 17)),(1,.I (a:Nat)),(3,.I (n:Nat))]=some (.agg (my (vl 17 a 0 (n:Nat) [] 0) .ee)):=λ_=>rfl;refine ed (eP _) ⟨c.pE,c.D.AD,?_⟩;exact Hm c (g.num _) (by omega) ⟨_,rfl,.nil⟩ λx R6 r u=>fin p x R6 _ (by simp_all) (f.trans (r.gm _) λ_ h=>h) u (by unfold rY;rw[if_neg Z,if_neg c1,if_pos c2];rfl) ((g.num _).iP _)
   refine fX (fU (by omega) ?_);by_cases c3:kd=14
   ·refine fX (gi (by omega) ?_)
    refine ed d.D.AD (ed d.pE ?_);have eP:fV [(V.I 0),(V.I 0),(V.I 0),(V.I 0),V.ee,(V.I 0)] [(0,1),(1,1),(2,1),(3,1),(4,1),(5,1)] [(0,(V.I 18)),(1,.I (a:Nat)),(2,.I (b:Nat))]=some (.agg (my (vl 18 a b 0 [] 0) .ee)):=rfl;refine ed eP ?_;exact Hm d g (by omega) ⟨_,rfl,.nil⟩ λe R5 f c=>fin p e R5 _ (by simp_all) (f.gm _) c (by simp_all[rY,if_neg,if_pos]) (g.iP _)
   refine fX (fU (by omega) ?_);by_cases c4:kd=15
   ·refine fX (gi (by omega) ?_)
    refine ed d.pE (ed d.xB ?_);show cP CS fk [.I ((5:Nat):Int),.ptr L.nr 0,.ptr L.lr 0] z _;refine yy d (by decide) (by decide) v λe f c=>⟨f.next,?_⟩
    have c:Dq p G e L ops {t with s:=(num ops s4 5).2} R1:=c;have eP:∀n:Nat,fV [(V.I 0),(V.I 0),(V.I 0),(V.I 0),V.ee,(V.I 0)] [(0,1),(1,1),(2,1),(3,1),(4,1),(5,1)] [(0,(V.I 19)),(1,.I (a:Nat)),(3,.I (n:Nat)),(2,.I (b:Nat))]=some (.agg (my (vl 19 a b (n:Nat) [] 0) .ee)):=λ_=>rfl;refine ed (eP _) ⟨c.pE,?_⟩;refine Kd c (g.num _) (by omega) ⟨_,rfl,.nil⟩ λx R6 r _ u=>⟨r.next,?_⟩
    exact fin p x R6 _ (by simp_all) (f.trans (r.gm _) λ_ h=>h) u (by unfold rY;rw[if_neg Z,if_neg c1,if_neg c2,if_neg c3,if_pos c4];rfl) ((g.num _).put _)
   refine fX (fU (by omega) ?_);by_cases c5:kd=16
   ·refine fX (gi (by omega) ?_)
    refine ed d.pE (ed d.D.AD (ed d.xB (ed d.D.AD (ed d.D.ok.len ?_))));show cP CS fk [.I (s4.known.length:Nat),.ptr L.nr 0,.ptr L.lr 0] z _;refine MD d v g (by omega) λe l o f c hl i1 E=>⟨f.next,ed i1 (ed E ?_)⟩
    have c:Dq p G e L ops {t with s:=(fJ ops s4).2} R1:=c;have E:ez (.ptr l o) e=some (.I ((fJ ops s4).1:Nat)):=E;have e3:jr 3 1 1 (V.I 0) [(0,V.I ((fJ ops s4).1:Nat))]=some (.cells 3 1 true false [V.I ((fJ ops s4).1:Nat)],λl=> .slice l 0 1):=rfl;show yn (jr 3 1 1 (V.I 0) [(0,V.I ((fJ ops s4).1:Nat))]) e _;rw[e3,gR];have eP:∀n:Nat,fV [(V.I 0),(V.I 0),(V.I 0),(V.I 0),V.ee,(V.I 0)] [(0,1),(1,1),(2,1),(3,1),(4,1),(5,1)] [(0,(V.I 20)),(1,.I (a:Nat)),(2,.I (b:Nat)),(4,.slice n 0 1)]=some (.agg (my (vl 20 a b 0 [(fJ ops s4).1] 0) (.slice n 0 1))):=λ_=>rfl;have D6:=c.D.new (.cells 3 1 true false [V.I ((fJ ops s4).1:Nat)]);have r:=c.D.zO (.cells 3 1 true false [V.I ((fJ ops s4).1:Nat)]);have u:=c.step r D6 (pU _ _) c.gl c.hq rfl;have g6:(e.new (.cells 3 1 true false [V.I ((fJ ops s4).1:Nat)])).get e.next=_:=fg _ _;refine ed (eP _) ⟨by simp_all,iK E (fj _ hl),D6.AD,u.pE,?_⟩
    have hs:iy eN (fz p e.next) (e.new (.cells 3 1 true false [V.I ((fJ ops s4).1:Nat)])) [(fJ ops s4).1] (.slice e.next 0 1):=
      .inr ⟨e.next,0,3,true,false,[V.I ((fJ ops s4).1:Nat)],rfl,.inr rfl,g6,.inr rfl,NJ _,⟨_,[],rfl,rfl,trivial⟩⟩
    refine Kd u (g.one) (by omega) ⟨_,rfl,hs⟩ λh7 R7 k7 _ q7=>⟨k7.next,?_⟩
    exact fin (fz p e.next) h7 R7 _ (pU _ _) ((f.trans (r.gm _) λ_ h=>h).trans (k7.gm _) (pU _ _)) q7 (by simp_all[rY,if_neg,if_pos]) (g.one.put _)
   refine fX (fU (by omega) ?_);by_cases c6:kd=17
   ·refine fX (gi (by omega) ?_)
    refine ed d.pE (ed d.JU ?_);show cP CS fW [.ptr L.lu 0,.ptr L.qa 0,.ptr L.iq 0] z _;refine MP d g.k0 (by have:=g.k;grind) (by have:=g.st;grind) v λM e R5 y f c _=>⟨f.next,?_⟩
    have c:Dq M G e L ops {t with s:=(fF ops s4).2} R5:=c;have eP:∀n:Nat,fV [(V.I 0),(V.I 0),(V.I 0),(V.I 0),V.ee,(V.I 0)] [(0,1),(1,1),(2,1),(3,1),(4,1),(5,1)] [(0,(V.I 22)),(1,.I (a:Nat)),(5,.I (n:Nat))]=some (.agg (my (vl 22 a 0 0 [] n) .ee)):=λ_=>rfl;refine ed (eP _) ⟨c.pE,?_⟩;refine Kd c (g.state ops) (by omega) ⟨_,rfl,.nil⟩ λx R6 r _ u=>⟨r.next,?_⟩
    exact fin M x R6 _ y (f.trans (r.gm _) y) u (by simp_all[rY,if_neg,if_pos]) (zel g ops _)
   refine fX (fU (by omega) ?_);by_cases c7:kd=18
   ·refine fX (gi (by omega) ?_)
    refine ed d.pE (ed d.JU ?_);show cP CS fW [.ptr L.lu 0,.ptr L.qa 0,.ptr L.iq 0] z _;refine MP d g.k0 (by have:=g.k;grind) (by have:=g.st;grind) v λM e R5 y f c _=>⟨f.next,?_⟩
    have c:Dq M G e L ops {t with s:=(fF ops s4).2} R5:=c;have eP:∀n:Nat,fV [(V.I 0),(V.I 0),(V.I 0),(V.I 0),V.ee,(V.I 0)] [(0,1),(1,1),(2,1),(3,1),(4,1),(5,1)] [(0,(V.I 23)),(5,.I (n:Nat))]=some (.agg (my (vl 23 0 0 0 [] n) .ee)):=λ_=>rfl;refine ed (eP _) ⟨c.pE,?_⟩;refine Kd c (g.state ops) (by omega) ⟨_,rfl,.nil⟩ λx R6 r _ u=>⟨r.next,?_⟩
    exact fin M x R6 _ y (f.trans (r.gm _) y) u (by simp_all[rY,if_neg,if_pos]) (zel g ops _)
   refine fX (fU (by omega) ?_);refine ed d.D.AD (ed d.pE (ed d.xB ?_));show cP CS fk [.I ((2:Nat):Int),.ptr L.nr 0,.ptr L.lr 0] z _;refine yy d (by decide) (by decide) v λe f c=>⟨f.next,?_⟩
   have c:Dq p G e L ops {t with s:=(num ops s4 2).2} R1:=c;have hd:(draw ops s4.pos 2).1<2:=by simp_all[yx]
   refine kZ (n:=15) (by decide) (by grind) ?_;have eP:∀o:Nat,fV [(V.I 0),(V.I 0),(V.I 0),(V.I 0),V.ee,(V.I 0)] [(0,1),(1,1),(2,1),(3,1),(4,1),(5,1)] [(0,.I (o:Nat)),(1,.I (a:Nat))]=some (.agg (my (vl o a 0 0 [] 0) .ee)):=λ_=>rfl;refine ed (eP _) ⟨c.pE,c.D.AD,?_⟩;exact Hm c (g.num _) (by omega) ⟨_,rfl,.nil⟩ λx R6 r u=>fin p x R6 _ (by simp_all) (f.trans (r.gm _) λ_ h=>h) u (by unfold rY;rw[if_neg Z,if_neg c1,if_neg c2,if_neg c3,if_neg c4,if_neg c5,if_neg c6,if_neg c7];rfl) ((g.num _).iP _)
end
open Un
structure HH (s s':Ds):Prop where
 k:∃l,s'.known=s.known++l
 v:∃l,s'.ef=s.ef++l
theorem HH.refl(s:Ds):HH s s:=⟨by simp_all,by simp_all⟩
theorem HH.trans{s s' c:Ds}(a:HH s s')(b:HH s' c):HH s c:=by
 obtain⟨⟨d,e⟩,⟨f,g⟩⟩:=a;obtain⟨⟨h,i⟩,⟨j,k⟩⟩:=b;exact⟨by simp_all,by simp_all⟩
theorem HH.kl{s s':Ds}(a:HH s s'):s.known.length<=s'.known.length:=by
 obtain⟨⟨b,c⟩,_⟩:=a
 simp_all
theorem KS(ops:List Int)(s:Ds):HH s (fF ops s).2:=by
 obtain⟨p,hp⟩:=FO ops (num ops s 4).1 (num ops s 4).2 [];unfold fF;simp only[hp];exact⟨by simp_all[num],by simp_all[num]⟩
theorem GA(s:Ds)(x:Vl):HH s (iP s x):=⟨⟨_,rfl⟩,⟨_,rfl⟩⟩
theorem Mr(s:Ds)(x:Vl):HH s (put s x):=⟨by simp_all[put],⟨_,rfl⟩⟩
theorem G3(ops:List Int)(s:Ds)(m:Nat):HH s (num ops s m).2:=⟨by simp_all[num],by simp_all[num]⟩
theorem Qd(ops:List Int)(s:Ds):HH s (fJ ops s).2:=⟨by simp_all[fJ],by simp_all[fJ]⟩
theorem XS(ops:List Int)(s:Ds)(k a b:Nat):HH s (rY ops s k a b):=by
 unfold rY;split
 ·grind[GA]
 split
 ·exact(G3 _ _ _).trans (GA _ _)
 split
 ·exact(G3 _ _ _).trans (GA _ _)
 split
 ·grind[GA]
 split
 ·exact(G3 _ _ _).trans (Mr _ _)
 split
 ·exact(Qd _ _).trans (Mr _ _)
 split
 ·exact(KS _ _).trans (Mr _ _)
 split
 ·exact(KS _ _).trans (Mr _ _)
 ·exact(G3 _ _ _).trans (GA _ _)
theorem RN(ops:List Int):∀(i:Nat)(s:Ds),HH s (rows ops i s)
 |0,s=> .refl s
 | i+1,s=>by
   unfold rows;split
   ·exact(((Qd ops s).trans (Qd ops _)).trans ((G3 ops _ 20).trans (XS _ _ _ _ _))).trans (RN ops i _)
   ·exact .refl s
theorem Hk(ops:List Int)(s:Ds):HH s (row ops s):=(G3 ops s 6).trans (RN ops _ _)
def Kv(L:Lc):V:= .func jx [] [.ptr L.qa 0,.ptr L.lu 0,.ptr L.iq 0,.ptr L.z6 0,.ptr L.VV 0]
def JJ(L:Lc):V:= .func kh [] [.ptr L.jw 0,.ptr L.lu 0]
def gP(xs:List Nat):List V:=xs.map λn=> .I (n:Nat)
section
variable{F F' G G':Nat->Prop}{h h':Hp}{L:Lc}{ops:List Int}{t t':Dt}{R R':Rw}{Q:ft}
theorem Gu(q:Dq F G h L ops t R)(xs:List Nat):Dq (fz F h.next) G (h.new (.cells 3 1 true false (gP xs))) L ops t R/\iy eN (fz F h.next) (h.new (.cells 3 1 true false (gP xs))) xs (.slice h.next 0 xs.length)/\Kp F G h (h.new (.cells 3 1 true false (gP xs))):=by
 have k:=q.D.zO (.cells 3 1 true false (gP xs));exact⟨q.step k (q.D.new _) (pU _ _) q.gl q.hq rfl,.inr ⟨h.next,0,3,true,false,gP xs,rfl,.inr rfl,fg _ _,.inr rfl,NJ _,wF _ _ xs⟩,k⟩
theorem yW(q:Dq F G h L ops t R)(xs:List Nat){ps:Option (O×(Nat->V))}(d:ps=some (O.cells 3 1 true false (gP xs),λl=> .slice l 0 xs.length)){K:Hp->Prop}
  (H:∀F' h' R',(∀l,F l->F' l)->Kp F G h h'->Dq F' G h' L ops {t with eQ:=xs} R'->K h') :
  ig ps h λv e=>oP (fH 4 (.ptr L.jw 0)) λf=>fi (gI 1 f v e) λ_ g=>K g:=by
 subst d;obtain⟨a,i,j⟩:=Gu q xs;rw[fx,fT,hX];have k:=oG (o:=4) (v:= .slice h.next 0 xs.length) (px:=[R.cc,.I 0,.I 0,.ee,.slice h.next 0 xs.length,.I 0]) a.D.gb (by simp) rfl rfl;obtain⟨b,m⟩:=a.D.zb4 (c:=R.cc) i;rw[zj,k,ei];exact H _ _ _ (pU _ _) (j.trans b (pU _ _)) (a.step b m (by simp_all) q.gl a.hq rfl)
theorem Ur(q:Dq F G h L ops t R)(e:t.blocks.length<1000)(b:Bk){w nv:V}(f:w = .agg (kI b .ee nv .ee))(a:b.ef=[])(c:b.eQ=[])(d:iy eN F h b.next nv){K:ft}
  (H:∀F' h' R',(∀l,F l->F' l)->Kp F G h h'->Dq F' G h' L ops {s:={t.s with cur:=[]},blocks:=t.blocks++[⟨t.s.cur,b.fin,b.cond,b.next,t.eQ,b.state⟩],eQ:=[]} R'->K (.I t.blocks.length) h') :
  hH CS (gh (JJ L) [w]) h K:=by
 subst f;exact zce (n:=0) q e a c d H
theorem GJ(q:Dq F G h L ops t R)(b:ops.length<9223372036854775808){n:Nat}(c:Sm t.s n)(a:n<900){K:ft}
  (H:∀F' h' R',(∀l,F l->F' l)->Kp F (gm G L.nr) h h'->Dq F' G h' L ops {t with s:=row ops t.s} R'->Sm (row ops t.s) (n+6)->K (.tuple []) h') :
  hH CS (gh (Kv L) []) h K:=zck q b c a H
theorem U9(q:Dq F G h L ops t R)(hk:0<t.s.known.length)(c:t.s.known.length<1000){K:V->Prop}(H:K (.I (t.s.known.getLastD 0:Nat))) :
  oP (ez (.ptr L.iq 0) h) λa=>oP (ez (.ptr L.iq 0) h) λb=>oP (fE b) λn=>oP (en .sub 3 n (.I 1)) λi=>oP (gz 1 a i) λp=>oP (ez p h) K:=by
 obtain⟨l,o,_,_,d,e⟩:=q.Hq (i:=t.s.known.length-1) (by omega);refine ed q.D.AD (ed q.D.AD (ed q.D.ok.len (Aa (by omega) hk (ed d (ed e ?_)))))
 grind
theorem PW(q:Dq F G h L ops t R){m:Nat}(c:m<=t.s.known.length){K:Hp->Prop}(H:∀h' R',Kp F G h h'->Dq F G h' L ops {t with s:=cut m t.s} R'->K h') :
  oP (ez (.ptr L.iq 0) h) λa=>oP (jf 1 a none (some (.I m)) h) λs=>fi (gI 1 (.ptr L.iq 0) s h) λ_ b=>K b:=by
 obtain⟨g,b,d,e,_,k,f⟩:=q.D.zfq c;refine ed q.D.AD (ed d ?_);rw[e,ei];exact H _ _ k (q.step k f (by simp_all) q.gl q.hq rfl)
theorem Ty(q:Dq F G h L ops t R)(j:ops.length<9223372036854775808){n:Nat}(k:Sm t.s n)(d:n<1000){K:ft}
  (H:∀h',Kp F (gm G L.nr) h h'->Dq F G h' L ops {t with s:=(fJ ops t.s).2} R->K (.I ((fJ ops t.s).1:Nat)) h') :
  oP (ez (.ptr L.iq 0) h) λa=>oP (ez (.ptr L.qa 0) h) λf=>oP (ez (.ptr L.iq 0) h) λb=>oP (fE b) λn=>hH CS (gh f [n]) h λi c=>(h.next<=c.next/\oP (gz 1 a i) λp=>oP (ez p c) λv=>((ez (.ptr L.iq 0) c=some a)/\K v c)):=by
 refine ed q.D.AD (ed q.xB (ed q.D.AD (ed q.D.ok.len ?_)));show cP CS fk [.I t.s.known.length,.ptr L.nr 0,.ptr L.lr 0] h _;exact MD q j k d λc l o e g _ m r=>⟨e.next,ed m (ed r ⟨g.D.AD,H _ e g⟩)⟩
theorem Mw(q:Dq F G h L ops t R)(e:ops.length<9223372036854775808){n:Nat}(d:Sm t.s n)(f:n<999){K:ft}
  (H:∀F' h' R',(∀l,F l->F' l)->Kp F (gm G L.nr) h h'->Dq F' G h' L ops {t with s:=(fF ops t.s).2} R'->Sm (fF ops t.s).2 (n+1)->K (.I ((fF ops t.s).1:Nat)) h') :
  hH CS (gh (UF L) []) h K:=by
 show cP CS fW [.ptr L.lu 0,.ptr L.qa 0,.ptr L.iq 0] h _;have g:=d.k;have i:=d.st;exact MP q d.k0 (by omega) (by omega) e λF' h' R' a b c _=>H F' h' R' a b c (d.state ops)
theorem Sm.end_{t:Dt}{n:Nat}(a:Sm t.s n)(f c:Nat)(nx:List Nat)(s:Nat)(p:List Nat):Sm (Un.end_ t f c nx s p).s n:=⟨a.v,NJ _,a.k,a.st,a.k0⟩
theorem Sm.cut{s:Ds}{n m:Nat}(a:Sm s n)(h0:0<m)(b:m<=s.known.length):Sm (Un.cut m s) n:=
 ⟨a.v,a.c,by show(s.known.take m).length<=n;rw[Mo];have:=a.k;omega,a.st,by show 0<(s.known.take m).length;simp_all⟩
theorem Sm.setArgs{s:Ds}{n:Nat}(a:Sm s n)(v:Nat)(l:List Nat):Sm (Un.setArgs s v l) n:=⟨by rw[(Es s v l).1];exact a.v,a.c,a.k,a.st,a.k0⟩
theorem EZ(q:Dq F G h L ops t R)(d:t.blocks.length<1000)(fin cond:Nat)(nx:List Nat)(state:Nat){ps:Option (O×(Nat->V))}(e:ps=some (O.cells 3 1 true false (gP nx),λl=> .slice l 0 nx.length)){B:V->Option V}
  (f:∀m,B (.slice m 0 nx.length)=some (.agg (kI ⟨[],fin,cond,nx,[],state⟩ .ee (.slice m 0 nx.length) .ee))) {K:ft}
  (H:∀F' h' R',(∀l,F l->F' l)->Kp F G h h'->Dq F' G h' L ops {s:={t.s with cur:=[]},blocks:=t.blocks++[⟨t.s.cur,fin,cond,nx,t.eQ,state⟩],eQ:=[]} R'->K (.I t.blocks.length) h') :
  ig ps h λv g=>oP (B v) λw=>hH CS (gh (JJ L) [w]) g K:=by
 subst e;obtain⟨i,j,k⟩:=Gu q nx;rw[fx];refine ed (f _) ?_;exact Ur i d ⟨[],fin,cond,nx,[],state⟩ rfl rfl rfl j λF' h' R' a b c=>H F' h' R' (by grind[pU]) (k.trans b (pU _ _)) c
end
open Un
section
variable{F F' G G':Nat->Prop}{h h':Hp}{L:Lc}{ops:List Int}{t t':Dt}{R R':Rw}{Q:ft}
theorem Xw(q:Dq F G h L ops t R){t':Dt}(e:t=t'):Dq F G h L ops t' R:=e▸q
theorem kgm{F F' G:Nat->Prop}{h h' b:Hp}{a:Nat}(x:Kp F (gm G a) h h')(y:Kp F' G h' b)(c:∀l,F l->F' l):Kp F (gm G a) h b:=x.trans (y.gm a) c
theorem zbl(q:Dq F G h L ops t R)(ho:ops.length<9223372036854775808){n:Nat}(hn:Sm t.s n)(cf:n<800)(hb:t.blocks.length<900){K:Hp->Prop}
  (H:∀F' h' R',(∀l,F l->F' l)->Kp F (gm G L.nr) h h'->Dq F' G h' L ops (fork ops t) R'->Sm (fork ops t).s (n+30)->K h') :
  oP (ez (.ptr L.iq 0) h) λw=>
  oP (ez (.ptr L.qa 0) h) λY=>
  oP (ez (.ptr L.iq 0) h) λZ=>
  oP (fE Z) λaa=>
  hH CS (gh Y [aa]) h λab x=>
  (h.next<=x.next/\
  oP (gz 1 w ab) λac=>
  oP (ez ac x) λae=>
  ((ez (.ptr L.iq 0) x=some w)/\
  oP (ez (.ptr L.iq 0) x) λag=>
  oP (fE ag) λy=>
  oP (fH 3 (.ptr L.lu 0)) λah=>
  oP (ez ah x) λai=>
  oP (fE ai) λaj=>
  oP (en .add 3 aj (V.I 1)) λak=>
  oP (fH 3 (.ptr L.lu 0)) λal=>
  oP (ez al x) λam=>
  oP (fE am) λan=>
  oP (en .add 3 an (V.I 2)) λao=>
  ig (jr 3 1 2 (V.I 0) [(0,ak),(1,ao)]) x λap h3=>
  oP (fV [V.ee,(V.I 0),(V.I 0),V.ee,V.ee,(V.I 0)] [(0,1),(1,1),(2,1),(3,1),(4,1),(5,1)] [(1,(V.I 2)),(2,ae),(3,ap)]) λaq=>
  hH CS (gh (JJ L) [aq]) h3 λz h4=>
  ig (jr 3 1 1 (V.I 0) [(0,z)]) h4 λar h5=>
  oP (fH 4 (.ptr L.jw 0)) λau=>
  fi (gI 1 au ar h5) λvu h6=>
  hH CS (gh (Kv L) []) h6 λbZ E=>
  oP (ez (.ptr L.iq 0) E) λaw=>
  oP (ez (.ptr L.iq 0) E) λax=>
  oP (fE ax) λay=>
  oP (en .sub 3 ay (V.I 1)) λaA=>
  oP (gz 1 aw aA) λaB=>
  oP (ez aB E) λaC=>
  oP (ez (.ptr L.iq 0) E) λaD=>
  oP (jf 1 aD none (some y) E) λaE=>
  fi (gI 1 (.ptr L.iq 0) aE E) λb4 h8=>
  oP (fH 3 (.ptr L.lu 0)) λaF=>
  oP (ez aF h8) λaG=>
  oP (fE aG) λaH=>
  oP (en .add 3 aH (V.I 2)) λaI=>
  ig (jr 3 1 1 (V.I 0) [(0,aI)]) h8 λaJ h9=>
  oP (fV [V.ee,(V.I 0),(V.I 0),V.ee,V.ee,(V.I 0)] [(0,1),(1,1),(2,1),(3,1),(4,1),(5,1)] [(1,(V.I 1)),(3,aJ)]) λaK=>
  hH CS (gh (JJ L) [aK]) h9 λaL aM=>
  ig (jr 3 1 1 (V.I 0) [(0,z)]) aM λaN bD=>
  oP (fH 4 (.ptr L.jw 0)) λaO=>
  fi (gI 1 aO aN bD) λb5 aP=>
  hH CS (gh (Kv L) []) aP λb6 b=>
  oP (ez (.ptr L.iq 0) b) λaQ=>
  oP (ez (.ptr L.iq 0) b) λaR=>
  oP (fE aR) λaS=>
  oP (en .sub 3 aS (V.I 1)) λaT=>
  oP (gz 1 aQ aT) λaU=>
  oP (ez aU b) λaV=>
  oP (ez (.ptr L.iq 0) b) λaW=>
  oP (jf 1 aW none (some y) b) λaX=>
  fi (gI 1 (.ptr L.iq 0) aX b) λb7 I=>
  oP (fH 3 (.ptr L.lu 0)) λaY=>
  oP (ez aY I) λaZ=>
  oP (fE aZ) λa4=>
  oP (en .add 3 a4 (V.I 1)) λa5=>
  ig (jr 3 1 1 (V.I 0) [(0,a5)]) I λa6 bE=>
  oP (fV [V.ee,(V.I 0),(V.I 0),V.ee,V.ee,(V.I 0)] [(0,1),(1,1),(2,1),(3,1),(4,1),(5,1)] [(1,(V.I 1)),(3,a6)]) λa7=>
  hH CS (gh (JJ L) [a7]) bE λa8 a9=>
  ig (jr 3 1 2 (V.I 0) [(0,aL),(1,a8)]) a9 λba bG=>
  oP (fH 4 (.ptr L.jw 0)) λbb=>
  fi (gI 1 bb ba bG) λb8 a=>
  oP (ez (.ptr L.iq 0) a) λg=>
  oP (ez (.ptr L.z6 0) a) λA=>
  yn (jr 3 1 2 (V.I 0) [(0,aC),(1,aV)]) a λo4 bc d=>
  oP (fV [(V.I 0),(V.I 0),(V.I 0),(V.I 0),V.ee,(V.I 0)] [(0,1),(1,1),(2,1),(3,1),(4,1),(5,1)] [(0,(V.I 21)),(4,bc)]) λbd=>
  ((d.get (a.next)=some o4/\O.beq o4 o4=true)/\
  ((ez (.ptr L.z6 0) d=some A)/\
  ((ez (.ptr L.iq 0) d=some g)/\
  hH CS (gh A [bd]) d λbe J=>
  (d.next<=J.next/\
  yn (jr 3 1 1 (V.I 0) [(0,be)]) J λo7 bf o=>
  ((o.get (J.next)=some o7/\O.beq o7 o7=true)/\
  ((ez (.ptr L.iq 0) o=some g)/\
  fi (eR 3 1 8 g bf o) λbg M=>
  (o.next<=M.next/\
  fi (gI 1 (.ptr L.iq 0) bg M) λb9 N=>
  (M.next<=N.next/\
  hH CS (gh (Kv L) []) N λca P=>K P)))))))))):=by
 have bh:=hn.k0;have hk:=hn.k;refine Ty q ho hn (by omega) λx k2 B=>?_;refine ed B.D.AD (ed B.D.ok.len ?_);refine ed (by rfl) (ed B.D.ldB (ed B.D.ob.len (kZ (m:=1) (show t.blocks.length<_ by omega) (by omega) ?_)));refine ed (by rfl) (ed B.D.ldB (ed B.D.ob.len (kZ (m:=2) (show t.blocks.length<_ by omega) (by omega) ?_)));have n2:Sm (fJ ops t.s).2 n:=hn.one;refine EZ B (show t.blocks.length<_ by omega) 2 (fJ ops t.s).1 [t.blocks.length+1,t.blocks.length+2] 0 rfl (λ_=>rfl) λF4 h4 R4 f4 k4 q4=>?_;refine yW q4 [t.blocks.length] rfl λF6 h6 R6 f6 k6 q6=>?_;have q6:=Xw (t':=end_ {t with s:=(fJ ops t.s).2} 2 (fJ ops t.s).1 [t.blocks.length+1,t.blocks.length+2] 0 [t.blocks.length]) q6 rfl;have n6:Sm (end_ {t with s:=(fJ ops t.s).2} 2 (fJ ops t.s).1 [t.blocks.length+1,t.blocks.length+2] 0 [t.blocks.length]).s n:=n2.end_ (t:={t with s:=(fJ ops t.s).2}) _ _ _ _ _;have Q:(end_ {t with s:=(fJ ops t.s).2} 2 (fJ ops t.s).1 [t.blocks.length+1,t.blocks.length+2] 0 [t.blocks.length]).blocks.length=t.blocks.length+1:=by simp[end_]
 have cg:(end_ {t with s:=(fJ ops t.s).2} 2 (fJ ops t.s).1 [t.blocks.length+1,t.blocks.length+2] 0 [t.blocks.length]).s.known.length=t.s.known.length:=rfl;have c:fork ops t=fork ops t:=rfl
 conv at c=>rhs;unfold fork
 simp only at c;have el:({t with s:=(fJ ops t.s).2}:Dt).s.known.length=t.s.known.length:=rfl;rw[el];have kA:=kgm k2 (k4.trans k6 f4) λ_ h=>h;have fA:∀l,F l->F6 l:=by simp_all
 generalize end_ {t with s:=(fJ ops t.s).2} 2 (fJ ops t.s).1 [t.blocks.length+1,t.blocks.length+2] 0 [t.blocks.length]=e at*;clear B q4 k2 k4 k6;refine GJ q6 ho n6 (by omega) λF7 E R7 f7 k7 q7 n7=>?_;have x7:=Hk ops e.s;have ci:=x7.kl;generalize row ops e.s=f at*;have cj:=n7.k;refine U9 q7 (by grind) (by grind) ?_;refine PW q7 (m:=t.s.known.length) (by simp_all) λh8 R8 k8 q8=>?_;have n8:Sm (cut t.s.known.length f) (n+6):=n7.cut bh (by omega);refine ed (by rfl) (ed q8.D.ldB (ed q8.D.ob.len (kZ (m:=2) (show e.blocks.length<_ by omega) (by omega) ?_)));refine EZ q8 (show e.blocks.length<_ by omega) 1 0 [t.blocks.length+3] 0 (by show jr 3 1 1 (V.I 0) [(0,.I ((e.blocks.length+2:Nat):Int))]=_;rw[Q];rfl) (λ_=>rfl) λcl aM Fc cm bi bj=>?_;refine yW bj [t.blocks.length] rfl λbH aP R12 cn bm p=>?_;have p:=Xw (t':=end_ {e with s:=cut t.s.known.length f} 1 0 [t.blocks.length+3] 0 [t.blocks.length]) p rfl;have bI:Sm (end_ {e with s:=cut t.s.known.length f} 1 0 [t.blocks.length+3] 0 [t.blocks.length]).s (n+6):=n8.end_ (t:={e with s:=cut t.s.known.length f}) _ _ _ _ _;have C:(end_ {e with s:=cut t.s.known.length f} 1 0 [t.blocks.length+3] 0 [t.blocks.length]).blocks.length=t.blocks.length+2:=by simp[end_,Q]
 have cb:(end_ {e with s:=cut t.s.known.length f} 1 0 [t.blocks.length+3] 0 [t.blocks.length]).s.known.length=t.s.known.length:=by
  show(f.known.take t.s.known.length).length=_;rw[Mo];omega
 have bo:({e with s:=cut t.s.known.length f}:Dt).blocks.length=t.blocks.length+1:=Q;rw[bo];have S:({e with s:=f}:Dt).s.known.getLastD 0=f.known.getLastD 0:=rfl;rw[S];have kB:=(((kA.trans k7 fA).trans ((k8.gm L.nr).trans (bi.gm L.nr) λ_ h=>h) (by grind)).trans (bm.gm L.nr) (by grind))
 have fB:∀l,F l->bH l:=by grind
 generalize f.known.getLastD 0=W at*;generalize end_ {e with s:=cut t.s.known.length f} 1 0 [t.blocks.length+3] 0 [t.blocks.length]=i at*;clear q6 q7 q8 bj k7 k8 bi bm kA;refine GJ p ho bI (by omega) λco b R13 cp br T bt=>?_;have bJ:=Hk ops i.s;have cd:=bJ.kl;generalize row ops i.s=r at*;have ce:=bt.k;refine U9 T (by grind) (by grind) ?_;refine PW T (m:=t.s.known.length) (by simp_all) λI R14 bu u=>?_;have bK:Sm (cut t.s.known.length r) (n+6+6):=bt.cut bh (by omega);refine ed (by rfl) (ed u.D.ldB (ed u.D.ob.len (kZ (m:=1) (show i.blocks.length<_ by omega) (by omega) ?_)));refine EZ u (show i.blocks.length<_ by omega) 1 0 [t.blocks.length+3] 0 (by show jr 3 1 1 (V.I 0) [(0,.I ((i.blocks.length+1:Nat):Int))]=_;rw[C];rfl) (λ_=>rfl) λcq a9 cr ct bw bx=>?_;have bz:({i with s:=cut t.s.known.length r}:Dt).blocks.length=t.blocks.length+2:=C;rw[bz];refine yW bx [t.blocks.length+1,t.blocks.length+2] rfl λbL a R18 cu bA j=>?_;have j:=Xw (t':=end_ {i with s:=cut t.s.known.length r} 1 0 [t.blocks.length+3] 0 [t.blocks.length+1,t.blocks.length+2]) j rfl;have bC:Sm (end_ {i with s:=cut t.s.known.length r} 1 0 [t.blocks.length+3] 0 [t.blocks.length+1,t.blocks.length+2]).s (n+12):=(bK.le (by omega)).end_ (t:={i with s:=cut t.s.known.length r}) _ _ _ _ _;have v:({i with s:=r}:Dt).s.known.getLastD 0=r.known.getLastD 0:=rfl;rw[v];have kC:=(((kB.trans br fB).trans ((bu.gm L.nr).trans (bw.gm L.nr) λ_ h=>h) (by simp_all)).trans (bA.gm L.nr) (by grind))
 have fC:∀l,F l->bL l:=by grind
 generalize r.known.getLastD 0=X at*;generalize end_ {i with s:=cut t.s.known.length r} 1 0 [t.blocks.length+3] 0 [t.blocks.length+1,t.blocks.length+2]=t3 at*;clear p T u bx br bu bw bA kB;refine ed j.D.AD (ed j.pE ?_);have e3:jr 3 1 2 (V.I 0) [(0,V.I W),(1,V.I X)]=some (.cells 3 1 true false (gP [W,X]),λl=> .slice l 0 2):=rfl;rw[e3,gR];obtain⟨U,bQ,bR⟩:=Gu j [W,X];have cv:(a.new (.cells 3 1 true false (gP [W,X]))).get a.next=_:=fg _ _;have eP:∀n:Nat,fV [(V.I 0),(V.I 0),(V.I 0),(V.I 0),V.ee,(V.I 0)] [(0,1),(1,1),(2,1),(3,1),(4,1),(5,1)] [(0,(V.I 21)),(4,.slice n 0 2)]=some (.agg (my (vl 21 0 0 0 [W,X] 0) (.slice n 0 2))):=λ_=>rfl;refine ed (eP _) ⟨by simp_all,U.pE,U.D.AD,?_⟩;generalize a.new (.cells 3 1 true false (gP [W,X]))=d at*;refine Hm U bC (by omega) ⟨_,rfl,bQ⟩ λN cw bS bU=>?_;refine GJ bU ho (bC.iP _) (by omega) λbV P bW cx bX cy bY=>?_;refine H bV P bW (by grind[pU]) ((kC.trans ((bR.gm L.nr).trans (bS.gm L.nr) (pU _ _)) fC).trans bX (by grind[pU])) (by simp_all) ?_;rw[c];exact bY.le (by omega)
end
open Un
section
variable{F F' G G':Nat->Prop}{h h':Hp}{L:Lc}{ops:List Int}{t t':Dt}{R R':Rw}{Q:ft}
theorem zaO(q:Dq F G h L ops t R)(P:ops.length<9223372036854775808){n:Nat}(Q:Sm t.s n)(aL:n<800)(hb:t.blocks.length<900){K:Hp->Prop}
  (H:∀F' h' R',(∀l,F l->F' l)->Kp F (gm G L.nr) h h'->Dq F' G h' L ops (za ops t) R'->Sm (za ops t).s (n+30)->K h') :
  oP (ez (.ptr L.iq 0) h) λi=>
  oP (ez (.ptr L.qa 0) h) λW=>
  oP (ez (.ptr L.iq 0) h) λX=>
  oP (fE X) λY=>
  hH CS (gh W [Y]) h λZ a=>
  (h.next<=a.next/\
  oP (gz 1 i Z) λaa=>
  oP (ez aa a) λab=>
  ((ez (.ptr L.iq 0) a=some i)/\
  oP (fH 3 (.ptr L.lu 0)) λac=>
  oP (ez ac a) λae=>
  oP (fE ae) λag=>
  oP (en .add 3 ag (V.I 1)) λah=>
  oP (fH 3 (.ptr L.lu 0)) λai=>
  oP (ez ai a) λj=>
  oP (fE j) λo=>
  oP (en .add 3 o (V.I 2)) λp=>
  ig (jr 3 1 2 (V.I 0) [(0,ah),(1,p)]) a λr aj=>
  oP (fV [V.ee,(V.I 0),(V.I 0),V.ee,V.ee,(V.I 0)] [(0,1),(1,1),(2,1),(3,1),(4,1),(5,1)] [(1,(V.I 2)),(2,ab),(3,r)]) λu=>
  hH CS (gh (JJ L) [u]) aj λb v=>
  oP (ez (.ptr L.iq 0) v) λw=>
  oP (fE w) λx=>
  ig (jr 3 1 1 (V.I 0) [(0,b)]) v λy ak=>
  oP (fH 4 (.ptr L.jw 0)) λz=>
  fi (gI 1 z y ak) λal am=>
  hH CS (gh (Kv L) []) am λaI A=>
  oP (ez (.ptr L.VV 0) A) λB=>
  hH CS (gh B []) A λC an=>
  oP (fV [V.ee,(V.I 0),(V.I 0),V.ee,V.ee,(V.I 0)] [(0,1),(1,1),(2,1),(3,1),(4,1),(5,1)] [(1,(V.I 3)),(5,C)]) λE=>
  hH CS (gh (JJ L) [E]) an λaJ d=>
  oP (ez (.ptr L.iq 0) d) λI=>
  oP (jf 1 I none (some x) d) λJ=>
  fi (gI 1 (.ptr L.iq 0) J d) λao ap=>
  ig (jr 3 1 1 (V.I 0) [(0,b)]) ap λM aq=>
  oP (fH 4 (.ptr L.jw 0)) λN=>
  fi (gI 1 N M aq) λar au=>
  hH CS (gh (Kv L) []) au λaK aw=>K aw)):=by
 have ax:=Q.k0;have hk:=Q.k;refine Ty q P Q (by omega) λh2 S g=>?_;refine ed (by rfl) (ed g.D.ldB (ed g.D.ob.len (kZ (m:=1) (show t.blocks.length<_ by omega) (by omega) ?_)));refine ed (by rfl) (ed g.D.ldB (ed g.D.ob.len (kZ (m:=2) (show t.blocks.length<_ by omega) (by omega) ?_)));have n2:Sm (fJ ops t.s).2 n:=Q.one;refine EZ g (show t.blocks.length<_ by omega) 2 (fJ ops t.s).1 [t.blocks.length+1,t.blocks.length+2] 0 rfl (λ_=>rfl) λF4 h4 R4 f4 k4 T=>?_;refine ed T.D.AD (ed T.D.ok.len ?_);refine yW T [t.blocks.length] rfl λF6 h6 R6 f6 k6 q6=>?_;have q6:=Xw (t':=end_ {t with s:=(fJ ops t.s).2} 2 (fJ ops t.s).1 [t.blocks.length+1,t.blocks.length+2] 0 [t.blocks.length]) q6 rfl;have n6:Sm (end_ {t with s:=(fJ ops t.s).2} 2 (fJ ops t.s).1 [t.blocks.length+1,t.blocks.length+2] 0 [t.blocks.length]).s n:=n2.end_ (t:={t with s:=(fJ ops t.s).2}) _ _ _ _ _;have aM:(end_ {t with s:=(fJ ops t.s).2} 2 (fJ ops t.s).1 [t.blocks.length+1,t.blocks.length+2] 0 [t.blocks.length]).blocks.length=t.blocks.length+1:=by simp[end_]
 have aN:(end_ {t with s:=(fJ ops t.s).2} 2 (fJ ops t.s).1 [t.blocks.length+1,t.blocks.length+2] 0 [t.blocks.length]).s.known.length=t.s.known.length:=rfl;have hx:za ops t=za ops t:=rfl
 conv at hx=>rhs;unfold za
 simp only at hx;have kA:=kgm S (k4.trans k6 f4) λ_ h=>h;have fA:∀l,F l->F6 l:=by simp_all
 generalize end_ {t with s:=(fJ ops t.s).2} 2 (fJ ops t.s).1 [t.blocks.length+1,t.blocks.length+2] 0 [t.blocks.length]=c at*;clear g T S k4 k6;refine GJ q6 P n6 (by omega) λF7 h7 R7 f7 k7 q7 n7=>?_;have x7:=Hk ops c.s;have aO:=x7.kl;generalize row ops c.s=e at*;refine ed q7.JU ?_;refine Mw q7 P n7 (by omega) λF8 h8 R8 f8 k8 q8 U=>?_;have x8:=KS ops e;have aP:=x8.kl;have e8:fF ops ({c with s:=e}:Dt).s=fF ops e:=rfl;rw[e8];have q8:Dq F8 G h8 L ops {c with s:=(fF ops e).2} R8:=q8;have U:Sm (fF ops e).2 (n+6+1):=U;generalize (fF ops e).2=s2 at*;generalize (fF ops e).1=O at*;have eB:fV [V.ee,(V.I 0),(V.I 0),V.ee,V.ee,(V.I 0)] [(0,1),(1,1),(2,1),(3,1),(4,1),(5,1)] [(1,(V.I 3)),(5,.I O)]=some (.agg (kI ⟨[],3,0,[],[],O⟩ .ee .ee .ee)):=rfl;refine ed eB ?_;have aQ:=U.k;refine Ur q8 (show c.blocks.length<_ by omega) ⟨[],3,0,[],[],O⟩ rfl rfl rfl .nil λF9 h9 R9 f9 k9 q9=>?_;refine PW q9 (m:=t.s.known.length) (by grind) λaR Fc ay aA=>?_;refine yW aA [t.blocks.length] rfl λaS aT R11 aU aB f=>?_;have f:=Xw (t':=end_ {c with s:=cut t.s.known.length s2} 3 0 [] O [t.blocks.length]) f rfl;have aC:Sm (end_ {c with s:=cut t.s.known.length s2} 3 0 [] O [t.blocks.length]).s (n+7):=(U.cut ax (by omega)).end_ (t:={c with s:=cut t.s.known.length s2}) _ _ _ _ _;refine GJ f P aC (by omega) λaD aE R12 aV aF aW aG=>?_;have aH:∀l,F l->F8 l:=by grind
 refine H aD aE R12 (by grind) ?_ (by simp_all) ?_
 ·have k1:=(kA.trans k7 fA).trans k8 (by grind);have S:=((k9.gm L.nr).trans (ay.gm L.nr) f9).trans (aB.gm L.nr) f9;exact(k1.trans S aH).trans aF (by grind)
 ·rw[hx];exact aG.le (by omega)
end
