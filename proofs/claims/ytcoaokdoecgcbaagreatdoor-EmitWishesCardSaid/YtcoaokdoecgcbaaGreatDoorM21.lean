/- Parts. -/
import Derived.Test.YtcoaokdoecgcbaaGreatDoorM20
set_option maxHeartbeats 4000000
namespace Go.Proofs.YtcoaokdoecgcbaaGreatDoor.Hx
open Un
variable{s:Ds}
theorem gf{b:Bool}{A B:Prop}(h:if b=true then A else B):bP (.bool b) A B:=by simp_all
theorem YP(ops:List Int)(s:Ds):rows ops 0 s=s:=rfl
theorem YO(ops:List Int)(k:Nat)(s:Ds)(h:¬s.ee.length<200):rows ops k s=s:=by
 cases k <;> simp_all[rows,if_neg]
theorem ZC(ops:List Int)(k:Nat)(s:Ds)(h:s.ee.length<200):rows ops (k+1) s=rows ops k (uJ ops s):=by
 simp_all[rows,if_pos]
section
variable{F F' G G':Nat->Prop}{h h':Hp}{L:Lc}{ops:List Int}{t t':Dt}{R R':Rw}{Q:fo}
theorem Sm.one{n:Nat}(a:Sm s n):Sm (fO ops s).2 n:=a.pos _
theorem Sm.num{n:Nat}(a:Sm s n)(m:Nat):Sm (num ops s m).2 n:=a.pos _
theorem zgm{n:Nat}(a:Sm s n)(ops:List Int)(x:Vl):Sm (put (fI ops s).2 x) (n+1):=by
 let⟨p,hp⟩:=GK ops (num ops s 4).1 (num ops s 4).2 []
 have e:(fI ops s).2 = {s with pos:=p,ez:=(fI ops s).2.ez}:=by
  unfold fI;simp only[hp];rfl
 have h:=a.state ops;rw[e]at h⊢;exact⟨tz a.v,tz a.c,h.k,h.st,h.k0⟩
theorem zeY(q:Dq F G h L ops t R)(v:ops.length<9223372036854775808){n:Nat}(hn:Sm t.s n)(ad:n<900)
  (H:∀F' h' R',(∀l,F l->F' l)->Kp F (gm G L.pb) h h'->Dq F' G h' L ops {t with s:=row ops t.s} R'->Sm (row ops t.s) (n+6)->Q (.tuple []) h') :
  cP CS kO [.ptr L.rz 0,.ptr L.lu 0,.ptr L.im 0,.ptr L.Aj 0,.ptr L.Qq 0] h Q:=by
 refine EW ?_;refine ec q.wX ?_;show cP CS ft [.I ((6:Nat):Int),.ptr L.pb 0,.ptr L.lr 0] h _;refine yh q (by decide) (by decide) v λh0 k0 q0=>?_;have hr:(draw ops t.s.pos 6).1<6:=by simp_all[wV]
 refine km (n:=1) (by decide) (by omega) ?_
 refine BA (λk S T U W x4 X h'=>∃(F':Nat->Prop) (R':Rw) (s:Ds),S = .ptr L.rz 0/\T = .ptr L.lu 0/\U = .ptr L.im 0/\W = .ptr L.Aj 0/\x4 = .ptr L.Qq 0/\X = .I (k:Nat)/\(∀l,F l->F' l)/\
  Kp F (gm G L.pb) h h'/\Dq F' G h' L ops {t with s:=s} R'/\rows ops k s=row ops t.s/\∃m,Sm s m/\m+k<=n+6) ?_
  ⟨F,R,(num ops t.s 6).2,rfl,rfl,rfl,rfl,rfl,rfl,λ_ h=>h,k0,q0,rfl,n,hn.num 6,by omega⟩
 rintro k S T U W x4 X h' ⟨p,B,s,rfl,rfl,rfl,rfl,rfl,rfl,M,Y,C,j,m,N,ae⟩;unfold nH;refine ec (by rw[iT]) ?_;have lv:=C.D.ov.len;have eA:jm (.bool (decide ((0:Int)<(k:Nat)))) (oB (fV 2 (.ptr L.lu 0)) λaa=>oB (eD aa h') λab=>oB (fM ab) λac=>eh .lss 3 ac (V.I 200))=some (.bool (decide ((0:Int)<(k:Nat))&&decide (((s.ee.length:Nat):Int)<200))):=by
  simp only[fx,fe,Gg,C.D.ZX,lv,gX,jU]
 refine ec eA (gf ?_)
 cases k with
 | zero=>
   refine fN (by simp) ?_;rw[YP]at j
   refine H p h' B M Y (by simp_all) (by rw[<-j];exact N.le (by omega))
 | succ k=>
   by_cases FX:s.ee.length<200;rotate_left
   ·refine fN (by simp;omega) ?_
    rw[YO _ _ _ FX]at j;refine H p h' B M Y (by simp_all) (by rw[<-j];exact N.le (by omega))
   refine fX (by simp;omega) ?_;have E:rows ops k (uJ ops s)=row ops t.s:=by rw[<-j,ZC _ _ _ FX]
   clear j eA;refine ec C.D.AW (ec C.wX (ec C.D.AW (ec C.D.ok.len ?_)));show cP CS ft [.I (s.known.length:Nat),.ptr L.pb 0,.ptr L.lr 0] h' _;refine OM C v N (by omega) λh2 l o k2 I _ i1 J=>⟨k2.next,ec i1 (ec J ⟨I.D.AW,?_⟩)⟩
   have J:True:=trivial;refine ec I.D.AW (ec I.wX (ec I.D.AW (ec I.D.ok.len ?_)));show cP CS ft [.I ((fO ops s).2.known.length:Nat),.ptr L.pb 0,.ptr L.lr 0] h2 _;refine OM I v N.one (by omega) λh3 l' o' k3 Z _ j1 j2=>⟨k3.next,ec j1 (ec j2 ⟨Z.D.AW,?_⟩)⟩
   refine ec Z.wX ?_;show cP CS ft [.I ((20:Nat):Int),.ptr L.pb 0,.ptr L.lr 0] h3 _;refine yh Z (by decide) (by decide) v λA k4 d=>?_;have d:Dq p G A L ops {t with s:=(num ops (fO ops (fO ops s).2).2 20).2} B:=d;have g:Sm (num ops (fO ops (fO ops s).2).2 20).2 m:=N.one.one.num 20;have kk:Kp F (gm G L.pb) h A:=((Y.trans k2 M).trans k3 M).trans k4 M;have w:uJ ops s=tF ops (num ops (fO ops (fO ops s).2).2 20).2 (num ops (fO ops (fO ops s).2).2 20).1 (fO ops s).1 (fO ops (fO ops s).2).1:=rfl;rw[w]at E;have ek:(draw ops ({t with s:=(fO ops ({t with s:=(fO ops ({t with s:=s}:Dt).s).2}:Dt).s).2}:Dt).s.pos 20).1=(num ops (fO ops (fO ops s).2).2 20).1:=rfl;rw[ek];clear ek;have ag:(num ops (fO ops (fO ops s).2).2 20).1<20:=wV _ _ (by decide);generalize (num ops (fO ops (fO ops s).2).2 20).2=s4 at*;generalize (num ops (fO ops (fO ops s).2).2 20).1=kd at*;have ea:(fO ops ({t with s:=s}:Dt).s).1=(fO ops s).1:=rfl;have eb:(fO ops ({t with s:=(fO ops ({t with s:=s}:Dt).s).2}:Dt).s).1=(fO ops (fO ops s).2).1:=rfl;rw[ea,eb];generalize (fO ops s).1=a at*;generalize (fO ops (fO ops s).2).1=b at*;clear Z I C Y k2 k3 k4 j1 j2 lv w
   have fin:∀(F2:Nat->Prop) (e:Hp) (R2:Rw) (O:Ds),(∀l,p l->F2 l)->Kp p (gm G L.pb) A e->Dq F2 G e L ops {t with s:=O} R2->O=tF ops s4 kd a b->Sm O (m+1)->
       gy Q (λS T U W x4 X hh=>∃k',k' < k+1/\∃(F':Nat->Prop) (R':Rw) (s:Ds),S = .ptr L.rz 0/\T = .ptr L.lu 0/\U = .ptr L.im 0/\W = .ptr L.Aj 0/\x4 = .ptr L.Qq 0/\X = .I (k':Nat)/\(∀l,F l->F' l)/\
         Kp F (gm G L.pb) h hh/\Dq F' G hh L ops {t with s:=s} R'/\rows ops k' s=row ops t.s/\∃m,Sm s m/\m+k'<=n+6) (.ptr L.rz 0) (.ptr L.lu 0) (.ptr L.im 0) (.ptr L.Aj 0) (.ptr L.Qq 0) (.I ((k+1:Nat):Int)) e:=by
     intro F2 e R2 O ah f c e5 m5;refine Bp ?_;unfold nM;refine Ak (by omega) (by omega) ?_;exact⟨k,by omega,F2,R2,O,rfl,rfl,rfl,rfl,rfl,rfl,by simp_all,kk.trans f M,c,by simp_all,m+1,m5,by omega⟩
   by_cases c0:kd<12
   ·refine gJ ?_
    refine ec d.D.AW (ec d.qL (km (n:=3) (by decide) (by omega) ?_));have eP:∀o:Nat,fq [(V.I 0),(V.I 0),(V.I 0),(V.I 0),V.ed,(V.I 0)] [(0,1),(1,1),(2,1),(3,1),(4,1),(5,1)] [(0,.I (o:Nat)),(1,.I (a:Nat)),(2,.I (b:Nat))]=some (.agg (ym (vl o a b 0 [] 0) .ed)):=λ_=>rfl;refine ec (eP _) ?_;exact Is d g (by omega) ⟨_,rfl,.nil⟩ λe K f c=>fin p e K _ (by simp_all) (f.gm _) c (by simp_all[tF,if_pos]) (g.ig _)
   refine iY ?_;by_cases c1:kd=12
   ·refine fD (fX (by omega) ?_)
    refine ec d.D.AW (ec d.qL (ec d.wX ?_));show cP CS ft [.I ((1048576:Nat):Int),.ptr L.pb 0,.ptr L.lr 0] A _;refine yh d (by decide) (by decide) v λe f c=>⟨f.next,?_⟩
    have c:Dq p G e L ops {t with s:=(num ops s4 1048576).2} B:=c;have hd:(draw ops s4.pos 1048576).1<1048576:=by simp_all[wV]
    have ew:jo .i64 (((draw ops s4.pos 1048576).1:Int)-9)=((draw ops s4.pos 1048576).1:Int)-9:=by grind[gK,mR]
    refine ec (by rw[iI]) ?_;rw[show(jo .i64 (((draw ops ({t with s:=s4}:Dt).s.pos 1048576).1:Int)-9))=((draw ops s4.pos 1048576).1:Int)-9 from ew];have eP:∀i:Int,fq [(V.I 0),(V.I 0),(V.I 0),(V.I 0),V.ed,(V.I 0)] [(0,1),(1,1),(2,1),(3,1),(4,1),(5,1)] [(0,(V.I 2)),(3,.I i)]=some (.agg (ym (vl 2 0 0 i [] 0) .ed)):=λ_=>rfl;refine ec (eP _) ⟨c.qL,c.D.AW,?_⟩;exact Is c (g.num _) (by omega) ⟨_,rfl,.nil⟩ λx y r u=>fin p x y _ (by simp_all) (f.trans (r.gm _) λ_ h=>h) u (by unfold tF;rw[if_neg c0,if_pos c1];rfl) ((g.num _).ig _)
   refine fD (fN (by omega) ?_);by_cases c2:kd=13
   ·refine fD (fX (by omega) ?_)
    refine ec d.D.AW (ec d.qL (ec d.wX ?_));show cP CS ft [.I ((5:Nat):Int),.ptr L.pb 0,.ptr L.lr 0] A _;refine yh d (by decide) (by decide) v λe f c=>⟨f.next,?_⟩
    have c:Dq p G e L ops {t with s:=(num ops s4 5).2} B:=c;have eP:∀n:Nat,fq [(V.I 0),(V.I 0),(V.I 0),(V.I 0),V.ed,(V.I 0)] [(0,1),(1,1),(2,1),(3,1),(4,1),(5,1)] [(0,(V.I 17)),(1,.I (a:Nat)),(3,.I (n:Nat))]=some (.agg (ym (vl 17 a 0 (n:Nat) [] 0) .ed)):=λ_=>rfl;refine ec (eP _) ⟨c.qL,c.D.AW,?_⟩;exact Is c (g.num _) (by omega) ⟨_,rfl,.nil⟩ λx y r u=>fin p x y _ (by simp_all) (f.trans (r.gm _) λ_ h=>h) u (by unfold tF;rw[if_neg c0,if_neg c1,if_pos c2];rfl) ((g.num _).ig _)
   refine fD (fN (by omega) ?_);by_cases c3:kd=14
   ·refine fD (fX (by omega) ?_)
    refine ec d.D.AW (ec d.qL ?_);have eP:fq [(V.I 0),(V.I 0),(V.I 0),(V.I 0),V.ed,(V.I 0)] [(0,1),(1,1),(2,1),(3,1),(4,1),(5,1)] [(0,(V.I 18)),(1,.I (a:Nat)),(2,.I (b:Nat))]=some (.agg (ym (vl 18 a b 0 [] 0) .ed)):=rfl;refine ec eP ?_;exact Is d g (by omega) ⟨_,rfl,.nil⟩ λe K f c=>fin p e K _ (by simp_all) (f.gm _) c (by simp_all[tF,if_neg,if_pos]) (g.ig _)
   refine fD (fN (by omega) ?_);by_cases c4:kd=15
   ·refine fD (fX (by omega) ?_)
    refine ec d.qL (ec d.wX ?_);show cP CS ft [.I ((5:Nat):Int),.ptr L.pb 0,.ptr L.lr 0] A _;refine yh d (by decide) (by decide) v λe f c=>⟨f.next,?_⟩
    have c:Dq p G e L ops {t with s:=(num ops s4 5).2} B:=c;have eP:∀n:Nat,fq [(V.I 0),(V.I 0),(V.I 0),(V.I 0),V.ed,(V.I 0)] [(0,1),(1,1),(2,1),(3,1),(4,1),(5,1)] [(0,(V.I 19)),(1,.I (a:Nat)),(3,.I (n:Nat)),(2,.I (b:Nat))]=some (.agg (ym (vl 19 a b (n:Nat) [] 0) .ed)):=λ_=>rfl;refine ec (eP _) ⟨c.qL,?_⟩;refine Lj c (g.num _) (by omega) ⟨_,rfl,.nil⟩ λx y r _ u=>⟨r.next,?_⟩
    exact fin p x y _ (by simp_all) (f.trans (r.gm _) λ_ h=>h) u (by unfold tF;rw[if_neg c0,if_neg c1,if_neg c2,if_neg c3,if_pos c4];rfl) ((g.num _).put _)
   refine fD (fN (by omega) ?_);by_cases c5:kd=16
   ·refine fD (fX (by omega) ?_)
    refine ec d.qL (ec d.D.AW (ec d.wX (ec d.D.AW (ec d.D.ok.len ?_))));show cP CS ft [.I (s4.known.length:Nat),.ptr L.pb 0,.ptr L.lr 0] A _;refine OM d v g (by omega) λe l o f c hl i1 J=>⟨f.next,ec i1 (ec J ?_)⟩
    have c:Dq p G e L ops {t with s:=(fO ops s4).2} B:=c;have J:eD (.ptr l o) e=some (.I ((fO ops s4).1:Nat)):=J;have e3:iW 3 1 1 (V.I 0) [(0,V.I ((fO ops s4).1:Nat))]=some (.cells 3 1 true false [V.I ((fO ops s4).1:Nat)],λl=> .slice l 0 1):=rfl;show vV (iW 3 1 1 (V.I 0) [(0,V.I ((fO ops s4).1:Nat))]) e _;rw[e3,gU];have eP:∀n:Nat,fq [(V.I 0),(V.I 0),(V.I 0),(V.I 0),V.ed,(V.I 0)] [(0,1),(1,1),(2,1),(3,1),(4,1),(5,1)] [(0,(V.I 20)),(1,.I (a:Nat)),(2,.I (b:Nat)),(4,.slice n 0 1)]=some (.agg (ym (vl 20 a b 0 [(fO ops s4).1] 0) (.slice n 0 1))):=λ_=>rfl;have D6:=c.D.new (.cells 3 1 true false [V.I ((fO ops s4).1:Nat)]);have r:=c.D.zR (.cells 3 1 true false [V.I ((fO ops s4).1:Nat)]);have u:=c.step r D6 (rq _ _) c.gl c.hq rfl;have g6:(e.new (.cells 3 1 true false [V.I ((fO ops s4).1:Nat)])).get e.next=_:=eQ _ _;refine ec (eP _) ⟨by simp_all,gS J (eE _ hl),D6.AW,u.qL,?_⟩
    have hs:iD eN (fz p e.next) (e.new (.cells 3 1 true false [V.I ((fO ops s4).1:Nat)])) [(fO ops s4).1] (.slice e.next 0 1):=
      .inr ⟨e.next,0,3,true,false,[V.I ((fO ops s4).1:Nat)],rfl,.inr rfl,g6,.inr rfl,L9 _,⟨_,[],rfl,rfl,trivial⟩⟩
    refine Lj u (g.one) (by omega) ⟨_,rfl,hs⟩ λh7 R7 k7 _ q7=>⟨k7.next,?_⟩
    exact fin (fz p e.next) h7 R7 _ (rq _ _) ((f.trans (r.gm _) λ_ h=>h).trans (k7.gm _) (rq _ _)) q7 (by simp_all[tF,if_neg,if_pos]) (g.one.put _)
   refine fD (fN (by omega) ?_);by_cases c6:kd=17
   ·refine fD (fX (by omega) ?_)
    refine ec d.qL (ec d.Lu ?_);show cP CS gh [.ptr L.lu 0,.ptr L.rz 0,.ptr L.im 0] A _;refine OJ d g.k0 (by have:=g.k;grind) (by have:=g.st;grind) v λP e K z f c _=>⟨f.next,?_⟩
    have c:Dq P G e L ops {t with s:=(fI ops s4).2} K:=c;have eP:∀n:Nat,fq [(V.I 0),(V.I 0),(V.I 0),(V.I 0),V.ed,(V.I 0)] [(0,1),(1,1),(2,1),(3,1),(4,1),(5,1)] [(0,(V.I 22)),(1,.I (a:Nat)),(5,.I (n:Nat))]=some (.agg (ym (vl 22 a 0 0 [] n) .ed)):=λ_=>rfl;refine ec (eP _) ⟨c.qL,?_⟩;refine Lj c (g.state ops) (by omega) ⟨_,rfl,.nil⟩ λx y r _ u=>⟨r.next,?_⟩
    exact fin P x y _ z (f.trans (r.gm _) z) u (by simp_all[tF,if_neg,if_pos]) (zgm g ops _)
   refine fD (fN (by omega) ?_);by_cases c7:kd=18
   ·refine fD (fX (by omega) ?_)
    refine ec d.qL (ec d.Lu ?_);show cP CS gh [.ptr L.lu 0,.ptr L.rz 0,.ptr L.im 0] A _;refine OJ d g.k0 (by have:=g.k;grind) (by have:=g.st;grind) v λP e K z f c _=>⟨f.next,?_⟩
    have c:Dq P G e L ops {t with s:=(fI ops s4).2} K:=c;have eP:∀n:Nat,fq [(V.I 0),(V.I 0),(V.I 0),(V.I 0),V.ed,(V.I 0)] [(0,1),(1,1),(2,1),(3,1),(4,1),(5,1)] [(0,(V.I 23)),(5,.I (n:Nat))]=some (.agg (ym (vl 23 0 0 0 [] n) .ed)):=λ_=>rfl;refine ec (eP _) ⟨c.qL,?_⟩;refine Lj c (g.state ops) (by omega) ⟨_,rfl,.nil⟩ λx y r _ u=>⟨r.next,?_⟩
    exact fin P x y _ z (f.trans (r.gm _) z) u (by simp_all[tF,if_neg,if_pos]) (zgm g ops _)
   refine fD (fN (by omega) ?_);refine ec d.D.AW (ec d.qL (ec d.wX ?_));show cP CS ft [.I ((2:Nat):Int),.ptr L.pb 0,.ptr L.lr 0] A _;refine yh d (by decide) (by decide) v λe f c=>⟨f.next,?_⟩
   have c:Dq p G e L ops {t with s:=(num ops s4 2).2} B:=c;have hd:(draw ops s4.pos 2).1<2:=by simp_all[wV]
   refine km (n:=15) (by decide) (by grind) ?_;have eP:∀o:Nat,fq [(V.I 0),(V.I 0),(V.I 0),(V.I 0),V.ed,(V.I 0)] [(0,1),(1,1),(2,1),(3,1),(4,1),(5,1)] [(0,.I (o:Nat)),(1,.I (a:Nat))]=some (.agg (ym (vl o a 0 0 [] 0) .ed)):=λ_=>rfl;refine ec (eP _) ⟨c.qL,c.D.AW,?_⟩;exact Is c (g.num _) (by omega) ⟨_,rfl,.nil⟩ λx y r u=>fin p x y _ (by simp_all) (f.trans (r.gm _) λ_ h=>h) u (by unfold tF;rw[if_neg c0,if_neg c1,if_neg c2,if_neg c3,if_neg c4,if_neg c5,if_neg c6,if_neg c7];rfl) ((g.num _).ig _)
structure I2 (s s':Ds):Prop where
 k:∃l,s'.known=s.known++l
 v:∃l,s'.ee=s.ee++l
theorem I2.refl(s:Ds):I2 s s:=⟨by simp_all,by simp_all⟩
theorem I2.trans{s' c:Ds}(a:I2 s s')(b:I2 s' c):I2 s c:=by
 let⟨⟨d,e⟩,⟨f,g⟩⟩:=a
 let⟨⟨h,i⟩,⟨j,k⟩⟩:=b
 exact⟨by simp_all,by simp_all⟩
theorem I2.kl{s':Ds}(a:I2 s s'):s.known.length<=s'.known.length:=by
 let⟨⟨b,c⟩,_⟩:=a
 simp_all
theorem Nb(ops:List Int)(s:Ds):I2 s (fI ops s).2:=by
 let⟨p,hp⟩:=GK ops (num ops s 4).1 (num ops s 4).2 []
 unfold fI;simp[hp];exact⟨by simp_all[num],by simp_all[num]⟩
theorem G8(s:Ds)(x:Vl):I2 s (ig s x):=⟨⟨_,rfl⟩,⟨_,rfl⟩⟩
theorem Oz(s:Ds)(x:Vl):I2 s (put s x):=⟨by simp_all[put],⟨_,rfl⟩⟩
theorem IM(ops:List Int)(s:Ds)(m:Nat):I2 s (num ops s m).2:=⟨by simp_all[num],by simp_all[num]⟩
theorem S8(ops:List Int)(s:Ds):I2 s (fO ops s).2:=⟨by simp_all[fO],by simp_all[fO]⟩
theorem zau(ops:List Int)(s:Ds)(k a b:Nat):I2 s (tF ops s k a b):=by
 unfold tF;split
 ·grind[G8]
 split
 ·exact(IM _ _ _).trans (G8 _ _)
 split
 ·exact(IM _ _ _).trans (G8 _ _)
 split
 ·grind[G8]
 split
 ·exact(IM _ _ _).trans (Oz _ _)
 split
 ·exact(S8 _ _).trans (Oz _ _)
 split
 ·exact(Nb _ _).trans (Oz _ _)
 split
 ·exact(Nb _ _).trans (Oz _ _)
 ·exact(IM _ _ _).trans (G8 _ _)
theorem TQ(ops:List Int):∀i s,I2 s (rows ops i s)
 |0,s=> .refl s
 | i+1,s=>by
   unfold rows;split
   ·exact(((S8 ops s).trans (S8 ops _)).trans ((IM ops _ 20).trans (zau _ _ _ _ _))).trans (TQ ops i _)
   ·exact .refl s
theorem IF(ops:List Int)(s:Ds):I2 s (row ops s):=(IM ops s 6).trans (TQ ops _ _)
def MA(L:Lc):V:= .func kO [] [.ptr L.rz 0,.ptr L.lu 0,.ptr L.im 0,.ptr L.Aj 0,.ptr L.Qq 0]
def L8(L:Lc):V:= .func mJ [] [.ptr L.jL 0,.ptr L.lu 0]
def oJ(xs:List Nat):List V:=xs.map λn=> .I (n:Nat)
theorem Hg(q:Dq F G h L ops t R)(xs:List Nat):Dq (fz F h.next) G (h.new (.cells 3 1 true false (oJ xs))) L ops t R/\iD eN (fz F h.next) (h.new (.cells 3 1 true false (oJ xs))) xs (.slice h.next 0 xs.length)/\Kp F G h (h.new (.cells 3 1 true false (oJ xs))):=by
 have k:=q.D.zR (.cells 3 1 true false (oJ xs));exact⟨q.step k (q.D.new _) (rq _ _) q.gl q.hq rfl,.inr ⟨h.next,0,3,true,false,oJ xs,rfl,.inr rfl,eQ _ _,.inr rfl,L9 _,AV _ _ xs⟩,k⟩
theorem yO(q:Dq F G h L ops t R)(xs:List Nat){b:Option (O×(Nat->V))}(e:b=some (O.cells 3 1 true false (oJ xs),λl=> .slice l 0 xs.length)){K:Hp->Prop}
  (H:∀F' h' R',(∀l,F l->F' l)->Kp F G h h'->Dq F' G h' L ops {t with fj:=xs} R'->K h') :
  hV b h λv f=>oP (fV 4 (.ptr L.jL 0)) λg=>eJ (gw 1 g v f) λ_ i=>K i:=by
 subst e
 let⟨a,s1,j⟩:=Hg q xs
 rw[fH,fx,gz];have e1:=po (o:=4) (qF:=[R.cc,.I 0,.I 0,.ed,.slice h.next 0 xs.length,.I 0]) a.D.gb (by simp) rfl rfl
 let⟨d,D2⟩:=a.D.zdQ (c:=R.cc) s1
 rw[ e1];exact H _ _ _ (rq _ _) (j.trans d (rq _ _)) (a.step d D2 (by simp_all) q.gl a.hq rfl)
theorem Xa(q:Dq F G h L ops t R)(d:t.blocks.length<1000)(b:Bk){w nv:V}(e:w = .agg (pY b .ed nv .ed))(ZY:b.ee=[])(a:b.fj=[])(c:iD eN F h b.next nv){K:fo}
  (H:∀F' h' R',(∀l,F l->F' l)->Kp F G h h'->Dq F' G h' L ops {s:={t.s with cur:=[]},blocks:=t.blocks++[⟨t.s.cur,b.fin,b.cond,b.next,t.fj,b.state⟩],fj:=[]} R'->K (.I t.blocks.length) h') :
  gO CS (gg (L8 L) [w]) h K:=by
 subst e;exact zeD (n:=0) q d ZY a c H
theorem Ik(q:Dq F G h L ops t R)(b:ops.length<9223372036854775808){n:Nat}(c:Sm t.s n)(a:n<900){K:fo}
  (H:∀F' h' R',(∀l,F l->F' l)->Kp F (gm G L.pb) h h'->Dq F' G h' L ops {t with s:=row ops t.s} R'->Sm (row ops t.s) (n+6)->K (.tuple []) h') :
  gO CS (gg (MA L) []) h K:=zeY q b c a H
theorem Yc(q:Dq F G h L ops t R)(c:0<t.s.known.length)(d:t.s.known.length<1000){K:V->Prop}(H:K (.I (t.s.known.getLastD 0:Nat))) :
  oP (eD (.ptr L.im 0) h) λa=>oP (eD (.ptr L.im 0) h) λb=>oP (fM b) λn=>oP (eh .sub 3 n (.I 1)) λi=>oP (gQ 1 a i) λp=>oP (eD p h) K:=by
 let⟨l,o,_,_,e,f⟩:=q.IL (i:=t.s.known.length-1) (by omega)
 refine ec q.D.AW (ec q.D.AW (ec q.D.ok.len (Ak (by omega) c (ec e (ec f ?_)))))
 grind
theorem Sw(q:Dq F G h L ops t R){m:Nat}(c:m<=t.s.known.length){K:Hp->Prop}(H:∀h' R',Kp F G h h'->Dq F G h' L ops {t with s:=cut m t.s} R'->K h') :
  oP (eD (.ptr L.im 0) h) λa=>oP (jE 1 a none (some (.I m)) h) λs=>eJ (gw 1 (.ptr L.im 0) s h) λ_ b=>K b:=by
 let⟨v',b,e1,e2,_,k,D2⟩:=q.D.zg3 c
 refine ec q.D.AW (ec e1 ?_);rw[e2,ef];exact H _ _ k (q.step k D2 (by simp_all) q.gl q.hq rfl)
theorem Wa(q:Dq F G h L ops t R)(j:ops.length<9223372036854775808){n:Nat}(k:Sm t.s n)(d:n<1000){K:fo}
  (H:∀h',Kp F (gm G L.pb) h h'->Dq F G h' L ops {t with s:=(fO ops t.s).2} R->K (.I ((fO ops t.s).1:Nat)) h') :
  oP (eD (.ptr L.im 0) h) λa=>oP (eD (.ptr L.rz 0) h) λf=>oP (eD (.ptr L.im 0) h) λb=>oP (fM b) λn=>gO CS (gg f [n]) h λi c=>(h.next<=c.next/\oP (gQ 1 a i) λp=>oP (eD p c) λv=>((eD (.ptr L.im 0) c=some a)/\K v c)):=by
 refine ec q.D.AW (ec q.wX (ec q.D.AW (ec q.D.ok.len ?_)));show cP CS ft [.I t.s.known.length,.ptr L.pb 0,.ptr L.lr 0] h _;exact OM q j k d λc l o e g _ m r=>⟨e.next,ec m (ec r ⟨g.D.AW,H _ e g⟩)⟩
theorem Py(q:Dq F G h L ops t R)(e:ops.length<9223372036854775808){n:Nat}(d:Sm t.s n)(f:n<999){K:fo}
  (H:∀F' h' R',(∀l,F l->F' l)->Kp F (gm G L.pb) h h'->Dq F' G h' L ops {t with s:=(fI ops t.s).2} R'->Sm (fI ops t.s).2 (n+1)->K (.I ((fI ops t.s).1:Nat)) h') :
  gO CS (gg (WW L) []) h K:=by
 show cP CS gh [.ptr L.lu 0,.ptr L.rz 0,.ptr L.im 0] h _;have g:=d.k;have i:=d.st;exact OJ q d.k0 (by omega) (by omega) e λF' h' R' a b c _=>H F' h' R' a b c (d.state ops)
theorem Sm.end_{t:Dt}{n:Nat}(a:Sm t.s n)(f c:Nat)(nx:List Nat)(s:Nat)(p:List Nat):Sm (Un.end_ t f c nx s p).s n:=⟨a.v,L9 _,a.k,a.st,a.k0⟩
theorem Sm.cut{n m:Nat}(a:Sm s n)(h0:0<m)(b:m<=s.known.length):Sm (Un.cut m s) n:=
 ⟨a.v,a.c,by show(s.known.take m).length<=n;rw[Sr];have:=a.k;omega,a.st,by show 0<(s.known.take m).length;simp_all⟩
theorem Sm.setArgs{n:Nat}(a:Sm s n)(v:Nat)(l:List Nat):Sm (Un.setArgs s v l) n:=⟨by rw[(Fp s v l).1];exact a.v,a.c,a.k,a.st,a.k0⟩
theorem EM(q:Dq F G h L ops t R)(e:t.blocks.length<1000)(fin cond:Nat)(nx:List Nat)(state:Nat){d:Option (O×(Nat->V))}(f:d=some (O.cells 3 1 true false (oJ nx),λl=> .slice l 0 nx.length)){B:V->Option V}
  (g:∀m,B (.slice m 0 nx.length)=some (.agg (pY ⟨[],fin,cond,nx,[],state⟩ .ed (.slice m 0 nx.length) .ed))) {K:fo}
  (H:∀F' h' R',(∀l,F l->F' l)->Kp F G h h'->Dq F' G h' L ops {s:={t.s with cur:=[]},blocks:=t.blocks++[⟨t.s.cur,fin,cond,nx,t.fj,state⟩],fj:=[]} R'->K (.I t.blocks.length) h') :
  hV d h λv i=>oP (B v) λw=>gO CS (gg (L8 L) [w]) i K:=by
 subst f
 let⟨j,s1,k⟩:=Hg q nx
 rw[fH];refine ec (g _) ?_;exact Xa j e ⟨[],fin,cond,nx,[],state⟩ rfl rfl rfl s1 λF' h' R' a b c=>H F' h' R' (by grind[rq]) (k.trans b (rq _ _)) c
theorem ZL(q:Dq F G h L ops t R){t':Dt}(e:t=t'):Dq F G h L ops t' R:=e▸q
theorem kgm{F F' G:Nat->Prop}{h h' b:Hp}{a:Nat}(x:Kp F (gm G a) h h')(y:Kp F' G h' b)(c:∀l,F l->F' l):Kp F (gm G a) h b:=x.trans (y.gm a) c
theorem zdD(q:Dq F G h L ops t R)(ho:ops.length<9223372036854775808){n:Nat}(hn:Sm t.s n)(b5:n<800)(hb:t.blocks.length<900){K:Hp->Prop}
  (H:∀F' h' R',(∀l,F l->F' l)->Kp F (gm G L.pb) h h'->Dq F' G h' L ops (fork ops t) R'->Sm (fork ops t).s (n+30)->K h') :
  oP (eD (.ptr L.im 0) h) λp=>
  oP (eD (.ptr L.rz 0) h) λW=>
  oP (eD (.ptr L.im 0) h) λX=>
  oP (fM X) λY=>
  gO CS (gg W [Y]) h λZ r=>
  (h.next<=r.next/\
  oP (gQ 1 p Z) λaa=>
  oP (eD aa r) λab=>
  ((eD (.ptr L.im 0) r=some p)/\
  oP (eD (.ptr L.im 0) r) λac=>
  oP (fM ac) λu=>
  oP (fV 3 (.ptr L.lu 0)) λad=>
  oP (eD ad r) λae=>
  oP (fM ae) λag=>
  oP (eh .add 3 ag (V.I 1)) λah=>
  oP (fV 3 (.ptr L.lu 0)) λai=>
  oP (eD ai r) λaj=>
  oP (fM aj) λak=>
  oP (eh .add 3 ak (V.I 2)) λal=>
  hV (iW 3 1 2 (V.I 0) [(0,ah),(1,al)]) r λam h3=>
  oP (fq [V.ed,(V.I 0),(V.I 0),V.ed,V.ed,(V.I 0)] [(0,1),(1,1),(2,1),(3,1),(4,1),(5,1)] [(1,(V.I 2)),(2,ab),(3,am)]) λan=>
  gO CS (gg (L8 L) [an]) h3 λv h4=>
  hV (iW 3 1 1 (V.I 0) [(0,v)]) h4 λao h5=>
  oP (fV 4 (.ptr L.jL 0)) λaq=>
  eJ (gw 1 aq ao h5) λvu h6=>
  gO CS (gg (MA L) []) h6 λbS y=>
  oP (eD (.ptr L.im 0) y) λar=>
  oP (eD (.ptr L.im 0) y) λau=>
  oP (fM au) λaw=>
  oP (eh .sub 3 aw (V.I 1)) λax=>
  oP (gQ 1 ar ax) λay=>
  oP (eD ay y) λaz=>
  oP (eD (.ptr L.im 0) y) λaA=>
  oP (jE 1 aA none (some u) y) λaB=>
  eJ (gw 1 (.ptr L.im 0) aB y) λbU h8=>
  oP (fV 3 (.ptr L.lu 0)) λaC=>
  oP (eD aC h8) λaD=>
  oP (fM aD) λaE=>
  oP (eh .add 3 aE (V.I 2)) λaF=>
  hV (iW 3 1 1 (V.I 0) [(0,aF)]) h8 λaG h9=>
  oP (fq [V.ed,(V.I 0),(V.I 0),V.ed,V.ed,(V.I 0)] [(0,1),(1,1),(2,1),(3,1),(4,1),(5,1)] [(1,(V.I 1)),(3,aG)]) λaH=>
  gO CS (gg (L8 L) [aH]) h9 λaI aJ=>
  hV (iW 3 1 1 (V.I 0) [(0,v)]) aJ λaK bg=>
  oP (fV 4 (.ptr L.jL 0)) λaL=>
  eJ (gw 1 aL aK bg) λbV aM=>
  gO CS (gg (MA L) []) aM λbW b=>
  oP (eD (.ptr L.im 0) b) λaN=>
  oP (eD (.ptr L.im 0) b) λaO=>
  oP (fM aO) λaP=>
  oP (eh .sub 3 aP (V.I 1)) λaQ=>
  oP (gQ 1 aN aQ) λaR=>
  oP (eD aR b) λaS=>
  oP (eD (.ptr L.im 0) b) λaT=>
  oP (jE 1 aT none (some u) b) λaU=>
  eJ (gw 1 (.ptr L.im 0) aU b) λbX z=>
  oP (fV 3 (.ptr L.lu 0)) λaV=>
  oP (eD aV z) λaW=>
  oP (fM aW) λaX=>
  oP (eh .add 3 aX (V.I 1)) λaY=>
  hV (iW 3 1 1 (V.I 0) [(0,aY)]) z λaZ bi=>
  oP (fq [V.ed,(V.I 0),(V.I 0),V.ed,V.ed,(V.I 0)] [(0,1),(1,1),(2,1),(3,1),(4,1),(5,1)] [(1,(V.I 1)),(3,aZ)]) λa0=>
  gO CS (gg (L8 L) [a0]) bi λa1 a2=>
  hV (iW 3 1 2 (V.I 0) [(0,aI),(1,a1)]) a2 λa3 bj=>
  oP (fV 4 (.ptr L.jL 0)) λa4=>
  eJ (gw 1 a4 a3 bj) λbY a=>
  oP (eD (.ptr L.im 0) a) λe=>
  oP (eD (.ptr L.Aj 0) a) λw=>
  vV (iW 3 1 2 (V.I 0) [(0,az),(1,aS)]) a λo4 a5 d=>
  oP (fq [(V.I 0),(V.I 0),(V.I 0),(V.I 0),V.ed,(V.I 0)] [(0,1),(1,1),(2,1),(3,1),(4,1),(5,1)] [(0,(V.I 21)),(4,a5)]) λa6=>
  ((d.get (a.next)=some o4/\O.beq o4 o4=true)/\
  ((eD (.ptr L.Aj 0) d=some w)/\
  ((eD (.ptr L.im 0) d=some e)/\
  gO CS (gg w [a6]) d λa7 A=>
  (d.next<=A.next/\
  vV (iW 3 1 1 (V.I 0) [(0,a7)]) A λo7 a8 i=>
  ((i.get (A.next)=some o7/\O.beq o7 o7=true)/\
  ((eD (.ptr L.im 0) i=some e)/\
  eJ (fg 3 1 8 e a8 i) λa9 B=>
  (i.next<=B.next/\
  eJ (gw 1 (.ptr L.im 0) a9 B) λbZ C=>
  (B.next<=C.next/\
  gO CS (gg (MA L) []) C λb1 E=>K E)))))))))):=by
 have ba:=hn.k0;refine Wa q ho hn (by omega) λr k2 I=>?_;refine ec I.D.AW (ec I.D.ok.len ?_);refine ec (by rfl) (ec I.D.ldB (ec I.D.ob.len (km (m:=1) (show t.blocks.length<_ by omega) (by omega) ?_)));refine ec (by rfl) (ec I.D.ldB (ec I.D.ob.len (km (m:=2) (show t.blocks.length<_ by omega) (by omega) ?_)));have n2:Sm (fO ops t.s).2 n:=hn.one;refine EM I (show t.blocks.length<_ by omega) 2 (fO ops t.s).1 [t.blocks.length+1,t.blocks.length+2] 0 rfl (λ_=>rfl) λF4 h4 R4 f4 k4 q4=>?_;refine yO q4 [t.blocks.length] rfl λF6 h6 R6 f6 k6 q6=>?_;have q6:=ZL (t':=end_ {t with s:=(fO ops t.s).2} 2 (fO ops t.s).1 [t.blocks.length+1,t.blocks.length+2] 0 [t.blocks.length]) q6 rfl;have n6:Sm (end_ {t with s:=(fO ops t.s).2} 2 (fO ops t.s).1 [t.blocks.length+1,t.blocks.length+2] 0 [t.blocks.length]).s n:=n2.end_ _ _ _ _ _;have J:(end_ {t with s:=(fO ops t.s).2} 2 (fO ops t.s).1 [t.blocks.length+1,t.blocks.length+2] 0 [t.blocks.length]).blocks.length=t.blocks.length+1:=by simp[end_]
 have b6:(end_ {t with s:=(fO ops t.s).2} 2 (fO ops t.s).1 [t.blocks.length+1,t.blocks.length+2] 0 [t.blocks.length]).s.known.length=t.s.known.length:=rfl;have c:fork ops t=fork ops t:=rfl
 conv at c=>rhs;unfold fork
 simp only at c;have el:({t with s:=(fO ops t.s).2}:Dt).s.known.length=t.s.known.length:=rfl;rw[el];have kA:=kgm k2 (k4.trans k6 f4) λ_ h=>h;have fA:∀l,F l->F6 l:=by simp_all
 generalize end_ {t with s:=(fO ops t.s).2} 2 (fO ops t.s).1 [t.blocks.length+1,t.blocks.length+2] 0 [t.blocks.length]=f at*;refine Ik q6 ho n6 (by omega) λF7 y R7 f7 k7 q7 n7=>?_;have x7:=IF ops f.s;have b7:=x7.kl;generalize row ops f.s=s1 at*;have b8:=n7.k;refine Yc q7 (by grind) (by grind) ?_;refine Sw q7 (by simp_all) λh8 R8 k8 q8=>?_;have n8:=n7.cut ba (by omega);refine ec (by rfl) (ec q8.D.ldB (ec q8.D.ob.len (km (m:=2) (show f.blocks.length<_ by omega) (by omega) ?_)));refine EM q8 (show f.blocks.length<_ by omega) 1 0 [t.blocks.length+3] 0 (by show iW 3 1 1 (V.I 0) [(0,.I ((f.blocks.length+2:Nat):Int))]=_;rw[J];rfl) (λ_=>rfl) λb9 aJ ca cb bm bo=>?_;refine yO bo [t.blocks.length] rfl λbr aM cd ce bt M=>?_;have M:=ZL (t':=end_ {f with s:=cut t.s.known.length s1} 1 0 [t.blocks.length+3] 0 [t.blocks.length]) M rfl;have bu:Sm (end_ {f with s:=cut t.s.known.length s1} 1 0 [t.blocks.length+3] 0 [t.blocks.length]).s (n+6):=n8.end_ _ _ _ _ _;have x:(end_ {f with s:=cut t.s.known.length s1} 1 0 [t.blocks.length+3] 0 [t.blocks.length]).blocks.length=t.blocks.length+2:=by simp[end_,J]
 have b2:(end_ {f with s:=cut t.s.known.length s1} 1 0 [t.blocks.length+3] 0 [t.blocks.length]).s.known.length=t.s.known.length:=by
  show(s1.known.take t.s.known.length).length=_;rw[Sr];omega
 have bb:=J;rw[bb];have N:({f with s:=s1}:Dt).s.known.getLastD 0=s1.known.getLastD 0:=rfl;rw[N];have kB:=(((kA.trans k7 fA).trans ((k8.gm L.pb).trans (bm.gm L.pb) λ_ h=>h) (by grind)).trans (bt.gm L.pb) (by grind))
 have fB:∀l,F l->br l:=by grind
 generalize s1.known.getLastD 0=S at*;generalize end_ {f with s:=cut t.s.known.length s1} 1 0 [t.blocks.length+3] 0 [t.blocks.length]=j at*;refine Ik M ho bu (by omega) λcf b cg ci bw bc bd=>?_;have gI:=IF ops j.s;have b3:=gI.kl;generalize row ops j.s=T at*;have b4:=bd.k;refine Yc bc (by grind) (by grind) ?_;refine Sw bc (by simp_all) λz cj bx P=>?_;have bz:=bd.cut ba (by omega);refine ec (by rfl) (ec P.D.ldB (ec P.D.ob.len (km (m:=1) (show j.blocks.length<_ by omega) (by omega) ?_)));refine EM P (show j.blocks.length<_ by omega) 1 0 [t.blocks.length+3] 0 (by show iW 3 1 1 (V.I 0) [(0,.I ((j.blocks.length+1:Nat):Int))]=_;rw[x];rfl) (λ_=>rfl) λcm a2 co cp bA bC=>?_;have be:=x;rw[be];refine yO bC [t.blocks.length+1,t.blocks.length+2] rfl λbD a cq cr bE g=>?_;have g:=ZL (t':=end_ {j with s:=cut t.s.known.length T} 1 0 [t.blocks.length+3] 0 [t.blocks.length+1,t.blocks.length+2]) g rfl;have bf:Sm (end_ {j with s:=cut t.s.known.length T} 1 0 [t.blocks.length+3] 0 [t.blocks.length+1,t.blocks.length+2]).s (n+12):=(bz.le (by omega)).end_ _ _ _ _ _;have o:({j with s:=T}:Dt).s.known.getLastD 0=T.known.getLastD 0:=rfl;rw[o];have kC:=(((kB.trans bw fB).trans ((bx.gm L.pb).trans (bA.gm L.pb) λ_ h=>h) (by simp_all)).trans (bE.gm L.pb) (by grind))
 have fC:∀l,F l->bD l:=by grind
 generalize T.known.getLastD 0=U at*;generalize end_ {j with s:=cut t.s.known.length T} 1 0 [t.blocks.length+3] 0 [t.blocks.length+1,t.blocks.length+2]=t3 at*;refine ec g.D.AW (ec g.qL ?_);have e3:iW 3 1 2 (V.I 0) [(0,V.I S),(1,V.I U)]=some (.cells 3 1 true false (oJ [S,U]),λl=> .slice l 0 2):=rfl;rw[e3,gU]
 let⟨Q,bG,bH⟩:=Hg g [S,U]
 have ct:(a.new (.cells 3 1 true false (oJ [S,U]))).get a.next=_:=eQ _ _;have eP:∀n,fq [(V.I 0),(V.I 0),(V.I 0),(V.I 0),V.ed,(V.I 0)] [(0,1),(1,1),(2,1),(3,1),(4,1),(5,1)] [(0,(V.I 21)),(4,.slice n 0 2)]=some (.agg (ym (vl 21 0 0 0 [S,U] 0) (.slice n 0 2))):=λ_=>rfl;refine ec (eP _) ⟨by simp_all,Q.qL,Q.D.AW,?_⟩;generalize a.new (.cells 3 1 true false (oJ [S,U]))=d at*;refine Is Q bf (by omega) ⟨_,rfl,bG⟩ λC cv bI bJ=>?_;refine Ik bJ ho (bf.ig _) (by omega) λbK E bL cw bQ cx bR=>?_;refine H bK E bL (by grind[rq]) ((kC.trans ((bH.gm L.pb).trans (bI.gm L.pb) (rq _ _)) fC).trans bQ (by grind[rq])) (by simp_all) ?_;rw[c];exact bR.le (by omega)
theorem zc7(q:Dq F G h L ops t R)(O:ops.length<9223372036854775808){n:Nat}(P:Sm t.s n)(aK:n<800)(hb:t.blocks.length<900){K:Hp->Prop}
  (H:∀F' h' R',(∀l,F l->F' l)->Kp F (gm G L.pb) h h'->Dq F' G h' L ops (zM ops t) R'->Sm (zM ops t).s (n+30)->K h') :
  oP (eD (.ptr L.im 0) h) λg=>
  oP (eD (.ptr L.rz 0) h) λU=>
  oP (eD (.ptr L.im 0) h) λW=>
  oP (fM W) λX=>
  gO CS (gg U [X]) h λY a=>
  (h.next<=a.next/\
  oP (gQ 1 g Y) λZ=>
  oP (eD Z a) λaa=>
  ((eD (.ptr L.im 0) a=some g)/\
  oP (fV 3 (.ptr L.lu 0)) λab=>
  oP (eD ab a) λac=>
  oP (fM ac) λad=>
  oP (eh .add 3 ad (V.I 1)) λae=>
  oP (fV 3 (.ptr L.lu 0)) λag=>
  oP (eD ag a) λi=>
  oP (fM i) λj=>
  oP (eh .add 3 j (V.I 2)) λo=>
  hV (iW 3 1 2 (V.I 0) [(0,ae),(1,o)]) a λp ah=>
  oP (fq [V.ed,(V.I 0),(V.I 0),V.ed,V.ed,(V.I 0)] [(0,1),(1,1),(2,1),(3,1),(4,1),(5,1)] [(1,(V.I 2)),(2,aa),(3,p)]) λr=>
  gO CS (gg (L8 L) [r]) ah λb u=>
  oP (eD (.ptr L.im 0) u) λv=>
  oP (fM v) λw=>
  hV (iW 3 1 1 (V.I 0) [(0,b)]) u λx ai=>
  oP (fV 4 (.ptr L.jL 0)) λy=>
  eJ (gw 1 y x ai) λaj ak=>
  gO CS (gg (MA L) []) ak λaH z=>
  oP (eD (.ptr L.Qq 0) z) λA=>
  gO CS (gg A []) z λB al=>
  oP (fq [V.ed,(V.I 0),(V.I 0),V.ed,V.ed,(V.I 0)] [(0,1),(1,1),(2,1),(3,1),(4,1),(5,1)] [(1,(V.I 3)),(5,B)]) λC=>
  gO CS (gg (L8 L) [C]) al λaI d=>
  oP (eD (.ptr L.im 0) d) λE=>
  oP (jE 1 E none (some w) d) λI=>
  eJ (gw 1 (.ptr L.im 0) I d) λam an=>
  hV (iW 3 1 1 (V.I 0) [(0,b)]) an λJ ao=>
  oP (fV 4 (.ptr L.jL 0)) λM=>
  eJ (gw 1 M J ao) λaq ar=>
  gO CS (gg (MA L) []) ar λaJ au=>K au)):=by
 have aw:=P.k0;have hk:=P.k;refine Wa q O P (by omega) λh2 Q f=>?_;refine ec (by rfl) (ec f.D.ldB (ec f.D.ob.len (km (m:=1) (show t.blocks.length<_ by omega) (by omega) ?_)));refine ec (by rfl) (ec f.D.ldB (ec f.D.ob.len (km (m:=2) (show t.blocks.length<_ by omega) (by omega) ?_)));have n2:Sm (fO ops t.s).2 n:=P.one;refine EM f (show t.blocks.length<_ by omega) 2 (fO ops t.s).1 [t.blocks.length+1,t.blocks.length+2] 0 rfl (λ_=>rfl) λF4 h4 R4 f4 k4 S=>?_;refine ec S.D.AW (ec S.D.ok.len ?_);refine yO S [t.blocks.length] rfl λF6 h6 R6 f6 k6 q6=>?_;have q6:=ZL (t':=end_ {t with s:=(fO ops t.s).2} 2 (fO ops t.s).1 [t.blocks.length+1,t.blocks.length+2] 0 [t.blocks.length]) q6 rfl;have n6:Sm (end_ {t with s:=(fO ops t.s).2} 2 (fO ops t.s).1 [t.blocks.length+1,t.blocks.length+2] 0 [t.blocks.length]).s n:=n2.end_ (t:={t with s:=(fO ops t.s).2}) _ _ _ _ _;have aL:(end_ {t with s:=(fO ops t.s).2} 2 (fO ops t.s).1 [t.blocks.length+1,t.blocks.length+2] 0 [t.blocks.length]).blocks.length=t.blocks.length+1:=by simp[end_]
 have aM:(end_ {t with s:=(fO ops t.s).2} 2 (fO ops t.s).1 [t.blocks.length+1,t.blocks.length+2] 0 [t.blocks.length]).s.known.length=t.s.known.length:=rfl;have hx:zM ops t=zM ops t:=rfl
 conv at hx=>rhs;unfold zM
 simp only at hx;have kA:=kgm Q (k4.trans k6 f4) λ_ h=>h;have fA:∀l,F l->F6 l:=by simp_all
 generalize end_ {t with s:=(fO ops t.s).2} 2 (fO ops t.s).1 [t.blocks.length+1,t.blocks.length+2] 0 [t.blocks.length]=c at*;clear f S Q k4 k6;refine Ik q6 O n6 (by omega) λF7 h7 R7 f7 k7 q7 n7=>?_;have x7:=IF ops c.s;have aN:=x7.kl;generalize row ops c.s=s1 at*;refine ec q7.Lu ?_;refine Py q7 O n7 (by omega) λF8 h8 R8 f8 k8 q8 T=>?_;have x8:=Nb ops s1;have aO:=x8.kl;have e8:fI ops ({c with s:=s1}:Dt).s=fI ops s1:=rfl;rw[e8];have q8:Dq F8 G h8 L ops {c with s:=(fI ops s1).2} R8:=q8;have T:Sm (fI ops s1).2 (n+6+1):=T;generalize (fI ops s1).2=s2 at*;generalize (fI ops s1).1=N at*;have eB:fq [V.ed,(V.I 0),(V.I 0),V.ed,V.ed,(V.I 0)] [(0,1),(1,1),(2,1),(3,1),(4,1),(5,1)] [(1,(V.I 3)),(5,.I N)]=some (.agg (pY ⟨[],3,0,[],[],N⟩ .ed .ed .ed)):=rfl;refine ec eB ?_;have aP:=T.k;refine Xa q8 (show c.blocks.length<_ by omega) ⟨[],3,0,[],[],N⟩ rfl rfl rfl .nil λF9 h9 R9 f9 k9 q9=>?_;refine Sw q9 (m:=t.s.known.length) (by grind) λaQ aR ax ay=>?_;refine yO ay [t.blocks.length] rfl λaS aT aU aV az e=>?_;have e:=ZL (t':=end_ {c with s:=cut t.s.known.length s2} 3 0 [] N [t.blocks.length]) e rfl;have aA:Sm (end_ {c with s:=cut t.s.known.length s2} 3 0 [] N [t.blocks.length]).s (n+7):=(T.cut aw (by omega)).end_ (t:={c with s:=cut t.s.known.length s2}) _ _ _ _ _;refine Ik e O aA (by omega) λaB aC aD aW aE aX aF=>?_;have aG:∀l,F l->F8 l:=by grind
 refine H aB aC aD (by grind) ?_ (by simp_all) ?_
 ·have k1:=(kA.trans k7 fA).trans k8 (by grind);have Q:=((k9.gm L.pb).trans (ax.gm L.pb) f9).trans (az.gm L.pb) f9;exact(k1.trans Q aG).trans aE (by grind)
 ·rw[hx];exact aF.le (by omega)
