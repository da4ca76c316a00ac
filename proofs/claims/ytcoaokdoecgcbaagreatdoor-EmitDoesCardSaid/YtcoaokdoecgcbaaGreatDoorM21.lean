/- Parts. -/
import Derived.Test.YtcoaokdoecgcbaaGreatDoorM20
set_option maxHeartbeats 4000000
namespace Go.Proofs.YtcoaokdoecgcbaaGreatDoor.Hx
open Un
variable{s:Ds}
theorem fX{b:Bool}{A B:Prop}(h:if b=true then A else B):bP (.bool b) A B:=by simp_all
theorem ZP(ops:List Int)(s:Ds):rows ops 0 s=s:=rfl
theorem zaY(ops:List Int)(k:Nat)(s:Ds)(h:¬s.ee.length<200):rows ops k s=s:=by
 cases k <;> simp_all[rows,if_neg]
theorem zaI(ops:List Int)(k:Nat)(s:Ds)(h:s.ee.length<200):rows ops (k+1) s=rows ops k (vx ops s):=by
 simp_all[rows,if_pos]
section
variable{F F' G G':Nat->Prop}{h h':Hp}{L:Lc}{ops:List Int}{t t':Dt}{R R':Rw}{Q:fj}
theorem Sm.one{n:Nat}(a:Sm s n):Sm (fT ops s).2 n:=a.pos _
theorem Sm.num{n:Nat}(a:Sm s n)(m:Nat):Sm (num ops s m).2 n:=a.pos _
theorem zhr{n:Nat}(a:Sm s n)(ops:List Int)(x:Vl):Sm (put (fI ops s).2 x) (n+1):=by
 let⟨p,hp⟩:=Ik ops (num ops s 4).1 (num ops s 4).2 []
 have e:(fI ops s).2 = {s with pos:=p,eE:=(fI ops s).2.eE}:=by
  unfold fI;simp only[hp];rfl
 have h:=a.state ops;rw[e]at h⊢;exact⟨pT a.v,pT a.c,h.k,h.st,h.k0⟩
theorem zfW(q:Dq F G h L ops t R)(v:ops.length<9223372036854775808){n:Nat}(hn:Sm t.s n)(ad:n<900)
  (H:∀F' h' R',(∀l,F l->F' l)->Kp F (gm G L.mM) h h'->Dq F' G h' L ops {t with s:=row ops t.s} R'->Sm (row ops t.s) (n+6)->Q (.tuple []) h') :
  cP CS ku [.ptr L.rF 0,.ptr L.lu 0,.ptr L.iI 0,.ptr L.wF 0,.ptr L.Pq 0] h Q:=by
 refine Gt ?_;refine ec q.xj ?_;show cP CS fU [.I ((6:Nat):Int),.ptr L.mM 0,.ptr L.lr 0] h _;refine yG q (by decide) (by decide) v λh0 k0 q0=>?_;have hr:(draw ops t.s.pos 6).1<6:=by simp_all[xx]
 refine j9 (n:=1) (by decide) (by omega) ?_
 refine BS (λk S T U W x4 X h'=>∃(F':Nat->Prop) (R':Rw) (s:Ds),S = .ptr L.rF 0/\T = .ptr L.lu 0/\U = .ptr L.iI 0/\W = .ptr L.wF 0/\x4 = .ptr L.Pq 0/\X = .I (k:Nat)/\(∀l,F l->F' l)/\
  Kp F (gm G L.mM) h h'/\Dq F' G h' L ops {t with s:=s} R'/\rows ops k s=row ops t.s/\∃m,Sm s m/\m+k<=n+6) ?_
  ⟨F,R,(num ops t.s 6).2,rfl,rfl,rfl,rfl,rfl,rfl,λ_ h=>h,k0,q0,rfl,n,hn.num 6,by omega⟩
 rintro k S T U W x4 X h' ⟨p,B,s,rfl,rfl,rfl,rfl,rfl,rfl,M,Y,C,j,m,N,ae⟩;unfold nH;refine ec (by rw[jr]) ?_;have lv:=C.D.ov.len;have eA:iM (.bool (decide ((0:Int)<(k:Nat)))) (oB (fJ 2 (.ptr L.lu 0)) λaa=>oB (ez aa h') λab=>oB (fE ab) λac=>ef .lss 3 ac (V.I 200))=some (.bool (decide ((0:Int)<(k:Nat))&&decide (((s.ee.length:Nat):Int)<200))):=by
  simp only[fo,eQ,Jn,C.D.ldV,lv,iF,iT]
 refine ec eA (fX ?_)
 cases k with
 | zero=>
   refine fH (by simp) ?_;rw[ZP]at j
   refine H p h' B M Y (by simp_all) (by rw[<-j];exact N.le (by omega))
 | succ k=>
   by_cases G6:s.ee.length<200;rotate_left
   ·refine fH (by simp;omega) ?_
    rw[zaY _ _ _ G6]at j;refine H p h' B M Y (by simp_all) (by rw[<-j];exact N.le (by omega))
   refine fO (by simp;omega) ?_;have E:rows ops k (vx ops s)=row ops t.s:=by rw[<-j,zaI _ _ _ G6]
   clear j eA;refine ec C.D.AX (ec C.xj (ec C.D.AX (ec C.D.ok.len ?_)));show cP CS fU [.I (s.known.length:Nat),.ptr L.mM 0,.ptr L.lr 0] h' _;refine Qk C v N (by omega) λh2 l o k2 I _ i1 J=>⟨k2.next,ec i1 (ec J ⟨I.D.AX,?_⟩)⟩
   have J:True:=trivial;refine ec I.D.AX (ec I.xj (ec I.D.AX (ec I.D.ok.len ?_)));show cP CS fU [.I ((fT ops s).2.known.length:Nat),.ptr L.mM 0,.ptr L.lr 0] h2 _;refine Qk I v N.one (by omega) λh3 l' o' k3 Z _ j1 j2=>⟨k3.next,ec j1 (ec j2 ⟨Z.D.AX,?_⟩)⟩
   refine ec Z.xj ?_;show cP CS fU [.I ((20:Nat):Int),.ptr L.mM 0,.ptr L.lr 0] h3 _;refine yG Z (by decide) (by decide) v λA k4 d=>?_;have d:Dq p G A L ops {t with s:=(num ops (fT ops (fT ops s).2).2 20).2} B:=d;have g:Sm (num ops (fT ops (fT ops s).2).2 20).2 m:=N.one.one.num 20;have kk:Kp F (gm G L.mM) h A:=((Y.trans k2 M).trans k3 M).trans k4 M;have w:vx ops s=tS ops (num ops (fT ops (fT ops s).2).2 20).2 (num ops (fT ops (fT ops s).2).2 20).1 (fT ops s).1 (fT ops (fT ops s).2).1:=rfl;rw[w]at E;have ek:(draw ops ({t with s:=(fT ops ({t with s:=(fT ops ({t with s:=s}:Dt).s).2}:Dt).s).2}:Dt).s.pos 20).1=(num ops (fT ops (fT ops s).2).2 20).1:=rfl;rw[ek];clear ek;have ag:(num ops (fT ops (fT ops s).2).2 20).1<20:=xx _ _ (by decide);generalize (num ops (fT ops (fT ops s).2).2 20).2=s4 at*;generalize (num ops (fT ops (fT ops s).2).2 20).1=kd at*;have ea:(fT ops ({t with s:=s}:Dt).s).1=(fT ops s).1:=rfl;have eb:(fT ops ({t with s:=(fT ops ({t with s:=s}:Dt).s).2}:Dt).s).1=(fT ops (fT ops s).2).1:=rfl;rw[ea,eb];generalize (fT ops s).1=a at*;generalize (fT ops (fT ops s).2).1=b at*;clear Z I C Y k2 k3 k4 j1 j2 lv w
   have fin:∀(F2:Nat->Prop) (e:Hp) (R2:Rw) (O:Ds),(∀l,p l->F2 l)->Kp p (gm G L.mM) A e->Dq F2 G e L ops {t with s:=O} R2->O=tS ops s4 kd a b->Sm O (m+1)->
       gw Q (λS T U W x4 X hh=>∃k',k' < k+1/\∃(F':Nat->Prop) (R':Rw) (s:Ds),S = .ptr L.rF 0/\T = .ptr L.lu 0/\U = .ptr L.iI 0/\W = .ptr L.wF 0/\x4 = .ptr L.Pq 0/\X = .I (k':Nat)/\(∀l,F l->F' l)/\
         Kp F (gm G L.mM) h hh/\Dq F' G hh L ops {t with s:=s} R'/\rows ops k' s=row ops t.s/\∃m,Sm s m/\m+k'<=n+6) (.ptr L.rF 0) (.ptr L.lu 0) (.ptr L.iI 0) (.ptr L.wF 0) (.ptr L.Pq 0) (.I ((k+1:Nat):Int)) e:=by
     intro F2 e R2 O ah f c e5 m5;refine BZ ?_;unfold nI;refine vz (by omega) (by omega) ?_;exact⟨k,by omega,F2,R2,O,rfl,rfl,rfl,rfl,rfl,rfl,by simp_all,kk.trans f M,c,by simp_all,m+1,m5,by omega⟩
   by_cases c0:kd<12
   ·refine gy ?_
    refine ec d.D.AX (ec d.qF (j9 (n:=3) (by decide) (by omega) ?_));have eP:∀o:Nat,fq [(V.I 0),(V.I 0),(V.I 0),(V.I 0),V.ed,(V.I 0)] ge [(0,.I (o:Nat)),(1,.I (a:Nat)),(2,.I (b:Nat))]=some (.agg (yM (vl o a b 0 [] 0) .ed)):=λ_=>rfl;refine ec (eP _) ?_;exact JA d g (by omega) ⟨_,rfl,.nil⟩ λe K f c=>fin p e K _ (by simp_all) (f.gm _) c (by simp_all[tS,if_pos]) (g.il _)
   refine iA ?_;by_cases c1:kd=12
   ·refine fx (io ?_)
    refine ec d.D.AX (ec d.qF (ec d.xj ?_));show cP CS fU [.I ((1048576:Nat):Int),.ptr L.mM 0,.ptr L.lr 0] A _;refine yG d (by decide) (by decide) v λe f c=>⟨f.next,?_⟩
    have c:Dq p G e L ops {t with s:=(num ops s4 1048576).2} B:=c;have hd:(draw ops s4.pos 1048576).1<1048576:=by simp_all[xx]
    have ew:jo .i64 (((draw ops s4.pos 1048576).1:Int)-9)=((draw ops s4.pos 1048576).1:Int)-9:=by grind[gG,ml]
    refine ec (by rw[jx]) ?_;rw[show(jo .i64 (((draw ops ({t with s:=s4}:Dt).s.pos 1048576).1:Int)-9))=((draw ops s4.pos 1048576).1:Int)-9 from ew];have eP:∀i:Int,fq [(V.I 0),(V.I 0),(V.I 0),(V.I 0),V.ed,(V.I 0)] ge [(0,(V.I 2)),(3,.I i)]=some (.agg (yM (vl 2 0 0 i [] 0) .ed)):=λ_=>rfl;refine ec (eP _) ⟨c.qF,c.D.AX,?_⟩;exact JA c (g.num _) (by omega) ⟨_,rfl,.nil⟩ λx y r u=>fin p x y _ (by simp_all) (f.trans (r.gm _) λ_ h=>h) u (by unfold tS;rw[if_neg c0,if_pos c1];rfl) ((g.num _).il _)
   refine fx (kw ?_);by_cases c2:kd=13
   ·refine fx (io ?_)
    refine ec d.D.AX (ec d.qF (ec d.xj ?_));show cP CS fU [.I ((5:Nat):Int),.ptr L.mM 0,.ptr L.lr 0] A _;refine yG d (by decide) (by decide) v λe f c=>⟨f.next,?_⟩
    have c:Dq p G e L ops {t with s:=(num ops s4 5).2} B:=c;have eP:∀n:Nat,fq [(V.I 0),(V.I 0),(V.I 0),(V.I 0),V.ed,(V.I 0)] ge [(0,(V.I 17)),(1,.I (a:Nat)),(3,.I (n:Nat))]=some (.agg (yM (vl 17 a 0 (n:Nat) [] 0) .ed)):=λ_=>rfl;refine ec (eP _) ⟨c.qF,c.D.AX,?_⟩;exact JA c (g.num _) (by omega) ⟨_,rfl,.nil⟩ λx y r u=>fin p x y _ (by simp_all) (f.trans (r.gm _) λ_ h=>h) u (by unfold tS;rw[if_neg c0,if_neg c1,if_pos c2];rfl) ((g.num _).il _)
   refine fx (kw ?_);by_cases c3:kd=14
   ·refine fx (io ?_)
    refine ec d.D.AX (ec d.qF ?_);have eP:fq [(V.I 0),(V.I 0),(V.I 0),(V.I 0),V.ed,(V.I 0)] ge [(0,(V.I 18)),(1,.I (a:Nat)),(2,.I (b:Nat))]=some (.agg (yM (vl 18 a b 0 [] 0) .ed)):=rfl;refine ec eP ?_;exact JA d g (by omega) ⟨_,rfl,.nil⟩ λe K f c=>fin p e K _ (by simp_all) (f.gm _) c (by simp_all[tS,if_neg,if_pos]) (g.il _)
   refine fx (kw ?_);by_cases c4:kd=15
   ·refine fx (io ?_)
    refine ec d.qF (ec d.xj ?_);show cP CS fU [.I ((5:Nat):Int),.ptr L.mM 0,.ptr L.lr 0] A _;refine yG d (by decide) (by decide) v λe f c=>⟨f.next,?_⟩
    have c:Dq p G e L ops {t with s:=(num ops s4 5).2} B:=c;have eP:∀n:Nat,fq [(V.I 0),(V.I 0),(V.I 0),(V.I 0),V.ed,(V.I 0)] ge [(0,(V.I 19)),(1,.I (a:Nat)),(3,.I (n:Nat)),(2,.I (b:Nat))]=some (.agg (yM (vl 19 a b (n:Nat) [] 0) .ed)):=λ_=>rfl;refine ec (eP _) ⟨c.qF,?_⟩;refine Mu c (g.num _) (by omega) ⟨_,rfl,.nil⟩ λx y r _ u=>⟨r.next,?_⟩
    exact fin p x y _ (by simp_all) (f.trans (r.gm _) λ_ h=>h) u (by unfold tS;rw[if_neg c0,if_neg c1,if_neg c2,if_neg c3,if_pos c4];rfl) ((g.num _).put _)
   refine fx (kw ?_);by_cases c5:kd=16
   ·refine fx (io ?_)
    refine ec d.qF (ec d.D.AX (ec d.xj (ec d.D.AX (ec d.D.ok.len ?_))));show cP CS fU [.I (s4.known.length:Nat),.ptr L.mM 0,.ptr L.lr 0] A _;refine Qk d v g (by omega) λe l o f c hl i1 J=>⟨f.next,ec i1 (ec J ?_)⟩
    have c:Dq p G e L ops {t with s:=(fT ops s4).2} B:=c;have J:ez (.ptr l o) e=some (.I ((fT ops s4).1:Nat)):=J;have e3:iO 3 1 1 (V.I 0) [(0,V.I ((fT ops s4).1:Nat))]=some (.cells 3 1 true false [V.I ((fT ops s4).1:Nat)],λl=> .slice l 0 1):=rfl;show uj (iO 3 1 1 (V.I 0) [(0,V.I ((fT ops s4).1:Nat))]) e _;rw[e3,gI];have eP:∀n:Nat,fq [(V.I 0),(V.I 0),(V.I 0),(V.I 0),V.ed,(V.I 0)] ge [(0,(V.I 20)),(1,.I (a:Nat)),(2,.I (b:Nat)),(4,.slice n 0 1)]=some (.agg (yM (vl 20 a b 0 [(fT ops s4).1] 0) (.slice n 0 1))):=λ_=>rfl;have D6:=c.D.new (.cells 3 1 true false [V.I ((fT ops s4).1:Nat)]);have r:=c.D.Kz (.cells 3 1 true false [V.I ((fT ops s4).1:Nat)]);have u:=c.step r D6 (rK _ _) c.gl c.hq rfl;have g6:(e.new (.cells 3 1 true false [V.I ((fT ops s4).1:Nat)])).get e.next=_:=fh _ _;refine ec (eP _) ⟨by simp_all,gz J (fi _ hl),D6.AX,u.qF,?_⟩
    have hs:hD eN (fz p e.next) (e.new (.cells 3 1 true false [V.I ((fT ops s4).1:Nat)])) [(fT ops s4).1] (.slice e.next 0 1):=
      .inr ⟨e.next,0,3,true,false,[V.I ((fT ops s4).1:Nat)],rfl,.inr rfl,g6,.inr rfl,PM _,⟨_,[],rfl,rfl,trivial⟩⟩
    refine Mu u (g.one) (by omega) ⟨_,rfl,hs⟩ λh7 R7 k7 _ q7=>⟨k7.next,?_⟩
    exact fin (fz p e.next) h7 R7 _ (rK _ _) ((f.trans (r.gm _) λ_ h=>h).trans (k7.gm _) (rK _ _)) q7 (by simp_all[tS,if_neg,if_pos]) (g.one.put _)
   refine fx (kw ?_);by_cases c6:kd=17
   ·refine fx (io ?_)
    refine ec d.qF (ec d.L7 ?_);show cP CS iX [.ptr L.lu 0,.ptr L.rF 0,.ptr L.iI 0] A _;refine Qa d g.k0 (by have:=g.k;grind) (by have:=g.st;grind) v λP e K z f c _=>⟨f.next,?_⟩
    have c:Dq P G e L ops {t with s:=(fI ops s4).2} K:=c;have eP:∀n:Nat,fq [(V.I 0),(V.I 0),(V.I 0),(V.I 0),V.ed,(V.I 0)] ge [(0,(V.I 22)),(1,.I (a:Nat)),(5,.I (n:Nat))]=some (.agg (yM (vl 22 a 0 0 [] n) .ed)):=λ_=>rfl;refine ec (eP _) ⟨c.qF,?_⟩;refine Mu c (g.state ops) (by omega) ⟨_,rfl,.nil⟩ λx y r _ u=>⟨r.next,?_⟩
    exact fin P x y _ z (f.trans (r.gm _) z) u (by simp_all[tS,if_neg,if_pos]) (zhr g ops _)
   refine fx (kw ?_);by_cases c7:kd=18
   ·refine fx (io ?_)
    refine ec d.qF (ec d.L7 ?_);show cP CS iX [.ptr L.lu 0,.ptr L.rF 0,.ptr L.iI 0] A _;refine Qa d g.k0 (by have:=g.k;grind) (by have:=g.st;grind) v λP e K z f c _=>⟨f.next,?_⟩
    have c:Dq P G e L ops {t with s:=(fI ops s4).2} K:=c;have eP:∀n:Nat,fq [(V.I 0),(V.I 0),(V.I 0),(V.I 0),V.ed,(V.I 0)] ge [(0,(V.I 23)),(5,.I (n:Nat))]=some (.agg (yM (vl 23 0 0 0 [] n) .ed)):=λ_=>rfl;refine ec (eP _) ⟨c.qF,?_⟩;refine Mu c (g.state ops) (by omega) ⟨_,rfl,.nil⟩ λx y r _ u=>⟨r.next,?_⟩
    exact fin P x y _ z (f.trans (r.gm _) z) u (by simp_all[tS,if_neg,if_pos]) (zhr g ops _)
   refine fx (kw ?_);refine ec d.D.AX (ec d.qF (ec d.xj ?_));show cP CS fU [.I ((2:Nat):Int),.ptr L.mM 0,.ptr L.lr 0] A _;refine yG d (by decide) (by decide) v λe f c=>⟨f.next,?_⟩
   have c:Dq p G e L ops {t with s:=(num ops s4 2).2} B:=c;have hd:(draw ops s4.pos 2).1<2:=by simp_all[xx]
   refine j9 (n:=15) (by decide) (by grind) ?_;have eP:∀o:Nat,fq [(V.I 0),(V.I 0),(V.I 0),(V.I 0),V.ed,(V.I 0)] ge [(0,.I (o:Nat)),(1,.I (a:Nat))]=some (.agg (yM (vl o a 0 0 [] 0) .ed)):=λ_=>rfl;refine ec (eP _) ⟨c.qF,c.D.AX,?_⟩;exact JA c (g.num _) (by omega) ⟨_,rfl,.nil⟩ λx y r u=>fin p x y _ (by simp_all) (f.trans (r.gm _) λ_ h=>h) u (by unfold tS;rw[if_neg c0,if_neg c1,if_neg c2,if_neg c3,if_neg c4,if_neg c5,if_neg c6,if_neg c7];rfl) ((g.num _).il _)
structure JY (s s':Ds):Prop where
 k:∃l,s'.known=s.known++l
 v:∃l,s'.ee=s.ee++l
theorem JY.refl(s:Ds):JY s s:=⟨by simp_all,by simp_all⟩
theorem JY.trans{s' c:Ds}(a:JY s s')(b:JY s' c):JY s c:=by
 let⟨⟨d,e⟩,⟨f,g⟩⟩:=a
 let⟨⟨h,i⟩,⟨j,k⟩⟩:=b
 exact⟨by simp_all,by simp_all⟩
theorem JY.kl{s':Ds}(a:JY s s'):s.known.length<=s'.known.length:=by
 let⟨⟨b,c⟩,_⟩:=a
 simp_all
theorem M9(ops:List Int)(s:Ds):JY s (fI ops s).2:=by
 let⟨p,hp⟩:=Ik ops (num ops s 4).1 (num ops s 4).2 []
 unfold fI;simp[hp];exact⟨by simp_all[num],by simp_all[num]⟩
theorem Hz(s:Ds)(x:Vl):JY s (il s x):=⟨⟨_,rfl⟩,⟨_,rfl⟩⟩
theorem Pf(s:Ds)(x:Vl):JY s (put s x):=⟨by simp_all[put],⟨_,rfl⟩⟩
theorem JC(ops:List Int)(s:Ds)(m:Nat):JY s (num ops s m).2:=⟨by simp_all[num],by simp_all[num]⟩
theorem S5(ops:List Int)(s:Ds):JY s (fT ops s).2:=⟨by simp_all[fT],by simp_all[fT]⟩
theorem zcg(ops:List Int)(s:Ds)(k a b:Nat):JY s (tS ops s k a b):=by
 unfold tS;split
 ·grind[Hz]
 split
 ·exact(JC _ _ _).trans (Hz _ _)
 split
 ·exact(JC _ _ _).trans (Hz _ _)
 split
 ·grind[Hz]
 split
 ·exact(JC _ _ _).trans (Pf _ _)
 split
 ·exact(S5 _ _).trans (Pf _ _)
 split
 ·exact(M9 _ _).trans (Pf _ _)
 split
 ·exact(M9 _ _).trans (Pf _ _)
 ·exact(JC _ _ _).trans (Hz _ _)
theorem WJ(ops:List Int):∀i s,JY s (rows ops i s)
 |0,s=> .refl s
 | i+1,s=>by
   unfold rows;split
   ·exact(((S5 ops s).trans (S5 ops _)).trans ((JC ops _ 20).trans (zcg _ _ _ _ _))).trans (WJ ops i _)
   ·exact .refl s
theorem Jk(ops:List Int)(s:Ds):JY s (row ops s):=(JC ops s 6).trans (WJ ops _ _)
def Nd(L:Lc):V:= .func ku [] [.ptr L.rF 0,.ptr L.lu 0,.ptr L.iI 0,.ptr L.wF 0,.ptr L.Pq 0]
def Mx(L:Lc):V:= .func mB [] [.ptr L.kj 0,.ptr L.lu 0]
def oY(xs:List Nat):List V:=xs.map λn=> .I (n:Nat)
theorem Ja(q:Dq F G h L ops t R)(xs:List Nat):Dq (fz F h.next) G (h.new (.cells 3 1 true false (oY xs))) L ops t R/\hD eN (fz F h.next) (h.new (.cells 3 1 true false (oY xs))) xs (.slice h.next 0 xs.length)/\Kp F G h (h.new (.cells 3 1 true false (oY xs))):=by
 have k:=q.D.Kz (.cells 3 1 true false (oY xs));exact⟨q.step k (q.D.new _) (rK _ _) q.gl q.hq rfl,.inr ⟨h.next,0,3,true,false,oY xs,rfl,.inr rfl,fh _ _,.inr rfl,PM _,BB _ _ xs⟩,k⟩
theorem yZ(q:Dq F G h L ops t R)(xs:List Nat){b:Option (O×(Nat->V))}(e:b=some (O.cells 3 1 true false (oY xs),λl=> .slice l 0 xs.length)){K:Hp->Prop}
  (H:∀F' h' R',(∀l,F l->F' l)->Kp F G h h'->Dq F' G h' L ops {t with fk:=xs} R'->K h') :
  gU b h λv f=>oP (fJ 4 (.ptr L.kj 0)) λg=>eJ (gj 1 g v f) λ_ i=>K i:=by
 subst e
 let⟨a,s1,j⟩:=Ja q xs
 rw[fK,fo,gQ];have e1:=Pg (o:=4) (uD:=[R.cc,.I 0,.I 0,.ed,.slice h.next 0 xs.length,.I 0]) a.D.gb (by simp) rfl rfl
 let⟨d,D2⟩:=a.D.zfb (c:=R.cc) s1
 rw[ e1];exact H _ _ _ (rK _ _) (j.trans d (rK _ _)) (a.step d D2 (by simp_all) q.gl a.hq rfl)
theorem Xv(q:Dq F G h L ops t R)(d:t.blocks.length<1000)(b:Bk){w nv:V}(e:w = .agg (pR b .ed nv .ed))(hv0:b.ee=[])(a:b.fk=[])(c:hD eN F h b.next nv){K:fj}
  (H:∀F' h' R',(∀l,F l->F' l)->Kp F G h h'->Dq F' G h' L ops {s:={t.s with cur:=[]},blocks:=t.blocks++[⟨t.s.cur,b.fin,b.cond,b.next,t.fk,b.state⟩],fk:=[]} R'->K (.I t.blocks.length) h') :
  gP CS (gh (Mx L) [w]) h K:=by
 subst e;exact zgm (n:=0) q d hv0 a c H
theorem HD(q:Dq F G h L ops t R)(b:ops.length<9223372036854775808){n:Nat}(c:Sm t.s n)(a:n<900){K:fj}
  (H:∀F' h' R',(∀l,F l->F' l)->Kp F (gm G L.mM) h h'->Dq F' G h' L ops {t with s:=row ops t.s} R'->Sm (row ops t.s) (n+6)->K (.tuple []) h') :
  gP CS (gh (Nd L) []) h K:=zfW q b c a H
theorem YI(q:Dq F G h L ops t R)(c:0<t.s.known.length)(d:t.s.known.length<1000){K:V->Prop}(H:K (.I (t.s.known.getLastD 0:Nat))) :
  oP (ez (.ptr L.iI 0) h) λa=>oP (ez (.ptr L.iI 0) h) λb=>oP (fE b) λn=>oP (ef .sub 3 n (.I 1)) λi=>oP (gM 1 a i) λp=>oP (ez p h) K:=by
 let⟨l,o,_,_,e,f⟩:=q.Jl (i:=t.s.known.length-1) (by omega)
 refine ec q.D.AX (ec q.D.AX (ec q.D.ok.len (vz (by omega) c (ec e (ec f ?_)))))
 grind
theorem T0(q:Dq F G h L ops t R){m:Nat}(c:m<=t.s.known.length){K:Hp->Prop}(H:∀h' R',Kp F G h h'->Dq F G h' L ops {t with s:=cut m t.s} R'->K h') :
  oP (ez (.ptr L.iI 0) h) λa=>oP (jw 1 a none (some (.I m)) h) λs=>eJ (gj 1 (.ptr L.iI 0) s h) λ_ b=>K b:=by
 let⟨v',b,e1,e2,_,k,D2⟩:=q.D.zhD c
 refine ec q.D.AX (ec e1 ?_);rw[e2,eh];exact H _ _ k (q.step k D2 (by simp_all) q.gl q.hq rfl)
theorem WW(q:Dq F G h L ops t R)(j:ops.length<9223372036854775808){n:Nat}(k:Sm t.s n)(d:n<1000){K:fj}
  (H:∀h',Kp F (gm G L.mM) h h'->Dq F G h' L ops {t with s:=(fT ops t.s).2} R->K (.I ((fT ops t.s).1:Nat)) h') :
  oP (ez (.ptr L.iI 0) h) λa=>oP (ez (.ptr L.rF 0) h) λf=>oP (ez (.ptr L.iI 0) h) λb=>oP (fE b) λn=>gP CS (gh f [n]) h λi c=>(h.next<=c.next/\oP (gM 1 a i) λp=>oP (ez p c) λv=>((ez (.ptr L.iI 0) c=some a)/\K v c)):=by
 refine ec q.D.AX (ec q.xj (ec q.D.AX (ec q.D.ok.len ?_)));show cP CS fU [.I t.s.known.length,.ptr L.mM 0,.ptr L.lr 0] h _;exact Qk q j k d λc l o e g _ m r=>⟨e.next,ec m (ec r ⟨g.D.AX,H _ e g⟩)⟩
theorem PR(q:Dq F G h L ops t R)(e:ops.length<9223372036854775808){n:Nat}(d:Sm t.s n)(f:n<999){K:fj}
  (H:∀F' h' R',(∀l,F l->F' l)->Kp F (gm G L.mM) h h'->Dq F' G h' L ops {t with s:=(fI ops t.s).2} R'->Sm (fI ops t.s).2 (n+1)->K (.I ((fI ops t.s).1:Nat)) h') :
  gP CS (gh (WV L) []) h K:=by
 show cP CS iX [.ptr L.lu 0,.ptr L.rF 0,.ptr L.iI 0] h _;have g:=d.k;have i:=d.st;exact Qa q d.k0 (by omega) (by omega) e λF' h' R' a b c _=>H F' h' R' a b c (d.state ops)
theorem Sm.end_{t:Dt}{n:Nat}(a:Sm t.s n)(f c:Nat)(nx:List Nat)(s:Nat)(p:List Nat):Sm (Un.end_ t f c nx s p).s n:=⟨a.v,PM _,a.k,a.st,a.k0⟩
theorem Sm.cut{n m:Nat}(a:Sm s n)(h0:0<m)(b:m<=s.known.length):Sm (Un.cut m s) n:=
 ⟨a.v,a.c,by show(s.known.take m).length<=n;rw[TV];have:=a.k;omega,a.st,by show 0<(s.known.take m).length;simp_all⟩
theorem Sm.setArgs{n:Nat}(a:Sm s n)(v:Nat)(l:List Nat):Sm (Un.setArgs s v l) n:=⟨by rw[(Fy s v l).1];exact a.v,a.c,a.k,a.st,a.k0⟩
theorem Gp(q:Dq F G h L ops t R)(e:t.blocks.length<1000)(fin cond:Nat)(nx:List Nat)(state:Nat){d:Option (O×(Nat->V))}(f:d=some (O.cells 3 1 true false (oY nx),λl=> .slice l 0 nx.length)){B:V->Option V}
  (g:∀m,B (.slice m 0 nx.length)=some (.agg (pR ⟨[],fin,cond,nx,[],state⟩ .ed (.slice m 0 nx.length) .ed))) {K:fj}
  (H:∀F' h' R',(∀l,F l->F' l)->Kp F G h h'->Dq F' G h' L ops {s:={t.s with cur:=[]},blocks:=t.blocks++[⟨t.s.cur,fin,cond,nx,t.fk,state⟩],fk:=[]} R'->K (.I t.blocks.length) h') :
  gU d h λv i=>oP (B v) λw=>gP CS (gh (Mx L) [w]) i K:=by
 subst f
 let⟨j,s1,k⟩:=Ja q nx
 rw[fK];refine ec (g _) ?_;exact Xv j e ⟨[],fin,cond,nx,[],state⟩ rfl rfl rfl s1 λF' h' R' a b c=>H F' h' R' (by grind[rK]) (k.trans b (rK _ _)) c
theorem pkg(q:Dq F G h L ops t R){t':Dt}(e:t=t'):Dq F G h L ops t' R:=e▸q
theorem kgm{F F' G:Nat->Prop}{h h' b:Hp}{a:Nat}(x:Kp F (gm G a) h h')(y:Kp F' G h' b)(c:∀l,F l->F' l):Kp F (gm G a) h b:=x.trans (y.gm a) c
theorem zej(q:Dq F G h L ops t R)(ho:ops.length<9223372036854775808){n:Nat}(hn:Sm t.s n)(b5:n<800)(hb:t.blocks.length<900){K:Hp->Prop}
  (H:∀F' h' R',(∀l,F l->F' l)->Kp F (gm G L.mM) h h'->Dq F' G h' L ops (fork ops t) R'->Sm (fork ops t).s (n+30)->K h') :
  oP (ez (.ptr L.iI 0) h) λp=>
  oP (ez (.ptr L.rF 0) h) λW=>
  oP (ez (.ptr L.iI 0) h) λX=>
  oP (fE X) λY=>
  gP CS (gh W [Y]) h λZ r=>
  (h.next<=r.next/\
  oP (gM 1 p Z) λaa=>
  oP (ez aa r) λab=>
  ((ez (.ptr L.iI 0) r=some p)/\
  oP (ez (.ptr L.iI 0) r) λac=>
  oP (fE ac) λu=>
  oP (fJ 3 (.ptr L.lu 0)) λad=>
  oP (ez ad r) λae=>
  oP (fE ae) λag=>
  oP (ef .add 3 ag (V.I 1)) λah=>
  oP (fJ 3 (.ptr L.lu 0)) λai=>
  oP (ez ai r) λaj=>
  oP (fE aj) λak=>
  oP (ef .add 3 ak (V.I 2)) λal=>
  gU (iO 3 1 2 (V.I 0) [(0,ah),(1,al)]) r λam h3=>
  oP (fq [V.ed,(V.I 0),(V.I 0),V.ed,V.ed,(V.I 0)] ge [(1,(V.I 2)),(2,ab),(3,am)]) λan=>
  gP CS (gh (Mx L) [an]) h3 λv h4=>
  gU (iO 3 1 1 (V.I 0) [(0,v)]) h4 λao h5=>
  oP (fJ 4 (.ptr L.kj 0)) λaq=>
  eJ (gj 1 aq ao h5) λvu h6=>
  gP CS (gh (Nd L) []) h6 λbS y=>
  oP (ez (.ptr L.iI 0) y) λar=>
  oP (ez (.ptr L.iI 0) y) λau=>
  oP (fE au) λaw=>
  oP (ef .sub 3 aw (V.I 1)) λax=>
  oP (gM 1 ar ax) λay=>
  oP (ez ay y) λaz=>
  oP (ez (.ptr L.iI 0) y) λaA=>
  oP (jw 1 aA none (some u) y) λaB=>
  eJ (gj 1 (.ptr L.iI 0) aB y) λbU h8=>
  oP (fJ 3 (.ptr L.lu 0)) λaC=>
  oP (ez aC h8) λaD=>
  oP (fE aD) λaE=>
  oP (ef .add 3 aE (V.I 2)) λaF=>
  gU (iO 3 1 1 (V.I 0) [(0,aF)]) h8 λaG h9=>
  oP (fq [V.ed,(V.I 0),(V.I 0),V.ed,V.ed,(V.I 0)] ge [(1,(V.I 1)),(3,aG)]) λaH=>
  gP CS (gh (Mx L) [aH]) h9 λaI aJ=>
  gU (iO 3 1 1 (V.I 0) [(0,v)]) aJ λaK bg=>
  oP (fJ 4 (.ptr L.kj 0)) λaL=>
  eJ (gj 1 aL aK bg) λbV aM=>
  gP CS (gh (Nd L) []) aM λbW b=>
  oP (ez (.ptr L.iI 0) b) λaN=>
  oP (ez (.ptr L.iI 0) b) λaO=>
  oP (fE aO) λaP=>
  oP (ef .sub 3 aP (V.I 1)) λaQ=>
  oP (gM 1 aN aQ) λaR=>
  oP (ez aR b) λaS=>
  oP (ez (.ptr L.iI 0) b) λaT=>
  oP (jw 1 aT none (some u) b) λaU=>
  eJ (gj 1 (.ptr L.iI 0) aU b) λbX z=>
  oP (fJ 3 (.ptr L.lu 0)) λaV=>
  oP (ez aV z) λaW=>
  oP (fE aW) λaX=>
  oP (ef .add 3 aX (V.I 1)) λaY=>
  gU (iO 3 1 1 (V.I 0) [(0,aY)]) z λaZ bi=>
  oP (fq [V.ed,(V.I 0),(V.I 0),V.ed,V.ed,(V.I 0)] ge [(1,(V.I 1)),(3,aZ)]) λa0=>
  gP CS (gh (Mx L) [a0]) bi λa1 a2=>
  gU (iO 3 1 2 (V.I 0) [(0,aI),(1,a1)]) a2 λa3 bj=>
  oP (fJ 4 (.ptr L.kj 0)) λa4=>
  eJ (gj 1 a4 a3 bj) λbY a=>
  oP (ez (.ptr L.iI 0) a) λe=>
  oP (ez (.ptr L.wF 0) a) λw=>
  uj (iO 3 1 2 (V.I 0) [(0,az),(1,aS)]) a λo4 a5 d=>
  oP (fq [(V.I 0),(V.I 0),(V.I 0),(V.I 0),V.ed,(V.I 0)] ge [(0,(V.I 21)),(4,a5)]) λa6=>
  ((d.get (a.next)=some o4/\O.beq o4 o4=true)/\
  ((ez (.ptr L.wF 0) d=some w)/\
  ((ez (.ptr L.iI 0) d=some e)/\
  gP CS (gh w [a6]) d λa7 A=>
  (d.next<=A.next/\
  uj (iO 3 1 1 (V.I 0) [(0,a7)]) A λo7 a8 i=>
  ((i.get (A.next)=some o7/\O.beq o7 o7=true)/\
  ((ez (.ptr L.iI 0) i=some e)/\
  eJ (fg 3 1 8 e a8 i) λa9 B=>
  (i.next<=B.next/\
  eJ (gj 1 (.ptr L.iI 0) a9 B) λbZ C=>
  (B.next<=C.next/\
  gP CS (gh (Nd L) []) C λb1 E=>K E)))))))))):=by
 have ba:=hn.k0;refine WW q ho hn (by omega) λr k2 I=>?_;refine ec I.D.AX (ec I.D.ok.len ?_);refine ec (by rfl) (ec I.D.ldB (ec I.D.ob.len (j9 (m:=1) (show t.blocks.length<_ by omega) (by omega) ?_)));refine ec (by rfl) (ec I.D.ldB (ec I.D.ob.len (j9 (m:=2) (show t.blocks.length<_ by omega) (by omega) ?_)));have n2:Sm (fT ops t.s).2 n:=hn.one;refine Gp I (show t.blocks.length<_ by omega) 2 (fT ops t.s).1 [t.blocks.length+1,t.blocks.length+2] 0 rfl (λ_=>rfl) λF4 h4 R4 f4 k4 q4=>?_;refine yZ q4 [t.blocks.length] rfl λF6 h6 R6 f6 k6 q6=>?_;have q6:=pkg (t':=end_ {t with s:=(fT ops t.s).2} 2 (fT ops t.s).1 [t.blocks.length+1,t.blocks.length+2] 0 [t.blocks.length]) q6 rfl;have n6:Sm (end_ {t with s:=(fT ops t.s).2} 2 (fT ops t.s).1 [t.blocks.length+1,t.blocks.length+2] 0 [t.blocks.length]).s n:=n2.end_ _ _ _ _ _;have J:(end_ {t with s:=(fT ops t.s).2} 2 (fT ops t.s).1 [t.blocks.length+1,t.blocks.length+2] 0 [t.blocks.length]).blocks.length=t.blocks.length+1:=by simp[end_]
 have b6:(end_ {t with s:=(fT ops t.s).2} 2 (fT ops t.s).1 [t.blocks.length+1,t.blocks.length+2] 0 [t.blocks.length]).s.known.length=t.s.known.length:=rfl;have c:fork ops t=fork ops t:=rfl
 conv at c=>rhs;unfold fork
 simp only at c;have el:({t with s:=(fT ops t.s).2}:Dt).s.known.length=t.s.known.length:=rfl;rw[el];have kA:=kgm k2 (k4.trans k6 f4) λ_ h=>h;have fA:∀l,F l->F6 l:=by simp_all
 generalize end_ {t with s:=(fT ops t.s).2} 2 (fT ops t.s).1 [t.blocks.length+1,t.blocks.length+2] 0 [t.blocks.length]=f at*;refine HD q6 ho n6 (by omega) λF7 y R7 f7 k7 q7 n7=>?_;have x7:=Jk ops f.s;have b7:=x7.kl;generalize row ops f.s=s1 at*;have b8:=n7.k;refine YI q7 (by grind) (by grind) ?_;refine T0 q7 (by simp_all) λh8 R8 k8 q8=>?_;have n8:=n7.cut ba (by omega);refine ec (by rfl) (ec q8.D.ldB (ec q8.D.ob.len (j9 (m:=2) (show f.blocks.length<_ by omega) (by omega) ?_)));refine Gp q8 (show f.blocks.length<_ by omega) 1 0 [t.blocks.length+3] 0 (by show iO 3 1 1 (V.I 0) [(0,.I ((f.blocks.length+2:Nat):Int))]=_;rw[J];rfl) (λ_=>rfl) λb9 aJ ca cb bm bo=>?_;refine yZ bo [t.blocks.length] rfl λbr aM cd ce bt M=>?_;have M:=pkg (t':=end_ {f with s:=cut t.s.known.length s1} 1 0 [t.blocks.length+3] 0 [t.blocks.length]) M rfl;have bu:Sm (end_ {f with s:=cut t.s.known.length s1} 1 0 [t.blocks.length+3] 0 [t.blocks.length]).s (n+6):=n8.end_ _ _ _ _ _;have x:(end_ {f with s:=cut t.s.known.length s1} 1 0 [t.blocks.length+3] 0 [t.blocks.length]).blocks.length=t.blocks.length+2:=by simp[end_,J]
 have b2:(end_ {f with s:=cut t.s.known.length s1} 1 0 [t.blocks.length+3] 0 [t.blocks.length]).s.known.length=t.s.known.length:=by
  show(s1.known.take t.s.known.length).length=_;rw[TV];omega
 have bb:=J;rw[bb];have N:({f with s:=s1}:Dt).s.known.getLastD 0=s1.known.getLastD 0:=rfl;rw[N];have kB:=(((kA.trans k7 fA).trans ((k8.gm L.mM).trans (bm.gm L.mM) λ_ h=>h) (by grind)).trans (bt.gm L.mM) (by grind))
 have fB:∀l,F l->br l:=by grind
 generalize s1.known.getLastD 0=S at*;generalize end_ {f with s:=cut t.s.known.length s1} 1 0 [t.blocks.length+3] 0 [t.blocks.length]=j at*;refine HD M ho bu (by omega) λcf b cg ci bw bc bd=>?_;have gL:=Jk ops j.s;have b3:=gL.kl;generalize row ops j.s=T at*;have b4:=bd.k;refine YI bc (by grind) (by grind) ?_;refine T0 bc (by simp_all) λz cj bx P=>?_;have bz:=bd.cut ba (by omega);refine ec (by rfl) (ec P.D.ldB (ec P.D.ob.len (j9 (m:=1) (show j.blocks.length<_ by omega) (by omega) ?_)));refine Gp P (show j.blocks.length<_ by omega) 1 0 [t.blocks.length+3] 0 (by show iO 3 1 1 (V.I 0) [(0,.I ((j.blocks.length+1:Nat):Int))]=_;rw[x];rfl) (λ_=>rfl) λcm a2 co cp bA bC=>?_;have be:=x;rw[be];refine yZ bC [t.blocks.length+1,t.blocks.length+2] rfl λbD a cq cr bE g=>?_;have g:=pkg (t':=end_ {j with s:=cut t.s.known.length T} 1 0 [t.blocks.length+3] 0 [t.blocks.length+1,t.blocks.length+2]) g rfl;have bf:Sm (end_ {j with s:=cut t.s.known.length T} 1 0 [t.blocks.length+3] 0 [t.blocks.length+1,t.blocks.length+2]).s (n+12):=(bz.le (by omega)).end_ _ _ _ _ _;have o:({j with s:=T}:Dt).s.known.getLastD 0=T.known.getLastD 0:=rfl;rw[o];have kC:=(((kB.trans bw fB).trans ((bx.gm L.mM).trans (bA.gm L.mM) λ_ h=>h) (by simp_all)).trans (bE.gm L.mM) (by grind))
 have fC:∀l,F l->bD l:=by grind
 generalize T.known.getLastD 0=U at*;generalize end_ {j with s:=cut t.s.known.length T} 1 0 [t.blocks.length+3] 0 [t.blocks.length+1,t.blocks.length+2]=t3 at*;refine ec g.D.AX (ec g.qF ?_);have e3:iO 3 1 2 (V.I 0) [(0,V.I S),(1,V.I U)]=some (.cells 3 1 true false (oY [S,U]),λl=> .slice l 0 2):=rfl;rw[e3,gI]
 let⟨Q,bG,bH⟩:=Ja g [S,U]
 have ct:(a.new (.cells 3 1 true false (oY [S,U]))).get a.next=_:=fh _ _;have eP:∀n,fq [(V.I 0),(V.I 0),(V.I 0),(V.I 0),V.ed,(V.I 0)] ge [(0,(V.I 21)),(4,.slice n 0 2)]=some (.agg (yM (vl 21 0 0 0 [S,U] 0) (.slice n 0 2))):=λ_=>rfl;refine ec (eP _) ⟨by simp_all,Q.qF,Q.D.AX,?_⟩;generalize a.new (.cells 3 1 true false (oY [S,U]))=d at*;refine JA Q bf (by omega) ⟨_,rfl,bG⟩ λC cv bI bJ=>?_;refine HD bJ ho (bf.il _) (by omega) λbK E bL cw bQ cx bR=>?_;refine H bK E bL (by grind[rK]) ((kC.trans ((bH.gm L.mM).trans (bI.gm L.mM) (rK _ _)) fC).trans bQ (by grind[rK])) (by simp_all) ?_;rw[c];exact bR.le (by omega)
theorem zd6(q:Dq F G h L ops t R)(O:ops.length<9223372036854775808){n:Nat}(P:Sm t.s n)(aK:n<800)(hb:t.blocks.length<900){K:Hp->Prop}
  (H:∀F' h' R',(∀l,F l->F' l)->Kp F (gm G L.mM) h h'->Dq F' G h' L ops (Ai ops t) R'->Sm (Ai ops t).s (n+30)->K h') :
  oP (ez (.ptr L.iI 0) h) λg=>
  oP (ez (.ptr L.rF 0) h) λU=>
  oP (ez (.ptr L.iI 0) h) λW=>
  oP (fE W) λX=>
  gP CS (gh U [X]) h λY a=>
  (h.next<=a.next/\
  oP (gM 1 g Y) λZ=>
  oP (ez Z a) λaa=>
  ((ez (.ptr L.iI 0) a=some g)/\
  oP (fJ 3 (.ptr L.lu 0)) λab=>
  oP (ez ab a) λac=>
  oP (fE ac) λad=>
  oP (ef .add 3 ad (V.I 1)) λae=>
  oP (fJ 3 (.ptr L.lu 0)) λag=>
  oP (ez ag a) λi=>
  oP (fE i) λj=>
  oP (ef .add 3 j (V.I 2)) λo=>
  gU (iO 3 1 2 (V.I 0) [(0,ae),(1,o)]) a λp ah=>
  oP (fq [V.ed,(V.I 0),(V.I 0),V.ed,V.ed,(V.I 0)] ge [(1,(V.I 2)),(2,aa),(3,p)]) λr=>
  gP CS (gh (Mx L) [r]) ah λb u=>
  oP (ez (.ptr L.iI 0) u) λv=>
  oP (fE v) λw=>
  gU (iO 3 1 1 (V.I 0) [(0,b)]) u λx ai=>
  oP (fJ 4 (.ptr L.kj 0)) λy=>
  eJ (gj 1 y x ai) λaj ak=>
  gP CS (gh (Nd L) []) ak λaH z=>
  oP (ez (.ptr L.Pq 0) z) λA=>
  gP CS (gh A []) z λB al=>
  oP (fq [V.ed,(V.I 0),(V.I 0),V.ed,V.ed,(V.I 0)] ge [(1,(V.I 3)),(5,B)]) λC=>
  gP CS (gh (Mx L) [C]) al λaI d=>
  oP (ez (.ptr L.iI 0) d) λE=>
  oP (jw 1 E none (some w) d) λI=>
  eJ (gj 1 (.ptr L.iI 0) I d) λam an=>
  gU (iO 3 1 1 (V.I 0) [(0,b)]) an λJ ao=>
  oP (fJ 4 (.ptr L.kj 0)) λM=>
  eJ (gj 1 M J ao) λaq ar=>
  gP CS (gh (Nd L) []) ar λaJ au=>K au)):=by
 have aw:=P.k0;have hk:=P.k;refine WW q O P (by omega) λh2 Q f=>?_;refine ec (by rfl) (ec f.D.ldB (ec f.D.ob.len (j9 (m:=1) (show t.blocks.length<_ by omega) (by omega) ?_)));refine ec (by rfl) (ec f.D.ldB (ec f.D.ob.len (j9 (m:=2) (show t.blocks.length<_ by omega) (by omega) ?_)));have n2:Sm (fT ops t.s).2 n:=P.one;refine Gp f (show t.blocks.length<_ by omega) 2 (fT ops t.s).1 [t.blocks.length+1,t.blocks.length+2] 0 rfl (λ_=>rfl) λF4 h4 R4 f4 k4 S=>?_;refine ec S.D.AX (ec S.D.ok.len ?_);refine yZ S [t.blocks.length] rfl λF6 h6 R6 f6 k6 q6=>?_;have q6:=pkg (t':=end_ {t with s:=(fT ops t.s).2} 2 (fT ops t.s).1 [t.blocks.length+1,t.blocks.length+2] 0 [t.blocks.length]) q6 rfl;have n6:Sm (end_ {t with s:=(fT ops t.s).2} 2 (fT ops t.s).1 [t.blocks.length+1,t.blocks.length+2] 0 [t.blocks.length]).s n:=n2.end_ (t:={t with s:=(fT ops t.s).2}) _ _ _ _ _;have aL:(end_ {t with s:=(fT ops t.s).2} 2 (fT ops t.s).1 [t.blocks.length+1,t.blocks.length+2] 0 [t.blocks.length]).blocks.length=t.blocks.length+1:=by simp[end_]
 have aM:(end_ {t with s:=(fT ops t.s).2} 2 (fT ops t.s).1 [t.blocks.length+1,t.blocks.length+2] 0 [t.blocks.length]).s.known.length=t.s.known.length:=rfl;have hx:Ai ops t=Ai ops t:=rfl
 conv at hx=>rhs;unfold Ai
 simp only at hx;have kA:=kgm Q (k4.trans k6 f4) λ_ h=>h;have fA:∀l,F l->F6 l:=by simp_all
 generalize end_ {t with s:=(fT ops t.s).2} 2 (fT ops t.s).1 [t.blocks.length+1,t.blocks.length+2] 0 [t.blocks.length]=c at*;clear f S Q k4 k6;refine HD q6 O n6 (by omega) λF7 h7 R7 f7 k7 q7 n7=>?_;have x7:=Jk ops c.s;have aN:=x7.kl;generalize row ops c.s=s1 at*;refine ec q7.L7 ?_;refine PR q7 O n7 (by omega) λF8 h8 R8 f8 k8 q8 T=>?_;have x8:=M9 ops s1;have aO:=x8.kl;have e8:fI ops ({c with s:=s1}:Dt).s=fI ops s1:=rfl;rw[e8];have q8:Dq F8 G h8 L ops {c with s:=(fI ops s1).2} R8:=q8;have T:Sm (fI ops s1).2 (n+6+1):=T;generalize (fI ops s1).2=s2 at*;generalize (fI ops s1).1=N at*;have eB:fq [V.ed,(V.I 0),(V.I 0),V.ed,V.ed,(V.I 0)] ge [(1,(V.I 3)),(5,.I N)]=some (.agg (pR ⟨[],3,0,[],[],N⟩ .ed .ed .ed)):=rfl;refine ec eB ?_;have aP:=T.k;refine Xv q8 (show c.blocks.length<_ by omega) ⟨[],3,0,[],[],N⟩ rfl rfl rfl .nil λF9 h9 R9 f9 k9 q9=>?_;refine T0 q9 (m:=t.s.known.length) (by grind) λaQ aR ax ay=>?_;refine yZ ay [t.blocks.length] rfl λaS aT aU aV az e=>?_;have e:=pkg (t':=end_ {c with s:=cut t.s.known.length s2} 3 0 [] N [t.blocks.length]) e rfl;have aA:Sm (end_ {c with s:=cut t.s.known.length s2} 3 0 [] N [t.blocks.length]).s (n+7):=(T.cut aw (by omega)).end_ (t:={c with s:=cut t.s.known.length s2}) _ _ _ _ _;refine HD e O aA (by omega) λaB aC aD aW aE aX aF=>?_;have aG:∀l,F l->F8 l:=by grind
 refine H aB aC aD (by grind) ?_ (by simp_all) ?_
 ·have k1:=(kA.trans k7 fA).trans k8 (by grind);have Q:=((k9.gm L.mM).trans (ax.gm L.mM) f9).trans (az.gm L.mM) f9;exact(k1.trans Q aG).trans aE (by grind)
 ·rw[hx];exact aF.le (by omega)
