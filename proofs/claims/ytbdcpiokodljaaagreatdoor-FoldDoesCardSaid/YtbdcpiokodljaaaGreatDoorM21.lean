/- Parts. -/
import Derived.Test.YtbdcpiokodljaaaGreatDoorM20
set_option maxHeartbeats 4000000
namespace Go.Proofs.YtbdcpiokodljaaaGreatDoor.Hx
open Un
theorem iJ{b:Bool}{A B:Prop}(h:if b=true then A else B):bP (.bool b) A B:=by simp_all
theorem Xm(ops:List Int)(s:Ds):rows ops 0 s=s:=rfl
theorem XP(ops:List Int)(k:Nat)(s:Ds)(h:¬s.ef.length<200):rows ops k s=s:=by
 cases k <;> simp_all[rows,if_neg]
theorem XW(ops:List Int)(k:Nat)(s:Ds)(h:s.ef.length<200):rows ops (k+1) s=rows ops k (vf ops s):=by
 simp_all[rows,if_pos]
section
variable{F F' G G':Nat->Prop}{h h':Hp}{L:Lc}{ops:List Int}{t t':Dt}{R R':Rw}{Q:fo}
theorem Sm.one{s:Ds}{n:Nat}(a:Sm s n):Sm (fL ops s).2 n:=a.pos _
theorem Sm.num{s:Ds}{n:Nat}(a:Sm s n)(m:Nat):Sm (num ops s m).2 n:=a.pos _
theorem zfq{s:Ds}{n:Nat}(a:Sm s n)(ops:List Int)(x:Vl):Sm (put (fH ops s).2 x) (n+1):=by
 obtain ⟨p,hp⟩:=GU ops (num ops s 4).1 (num ops s 4).2 [];have e:(fH ops s).2 = {s with pos:=p,eh:=(fH ops s).2.eh}:=by
  unfold fH;simp only[hp];rfl
 have h:=a.state ops;rw[e]at h⊢;exact⟨wR a.v,wR a.c,h.k,h.st,h.k0⟩
theorem zd0(q:Dq F G h L ops t R)(v:ops.length<9223372036854775808){n:Nat}(hn:Sm t.s n)(ae:n<900)
  (H:∀F' h' R',(∀l,F l->F' l)->Kp F (gm G L.oG) h h'->Dq F' G h' L ops {t with s:=row ops t.s} R'->Sm (row ops t.s) (n+6)->Q (.tuple []) h') :
  cP CS jO [.ptr L.qC 0,.ptr L.lu 0,.ptr L.iE 0,.ptr L.Aq 0,.ptr L.WI 0] h Q:=by
 refine Fb rfl rfl ?_;unfold xg;refine ed q.xu ?_;show cP CS fm [.I ((6:Nat):Int),.ptr L.oG 0,.ptr L.lr 0] h _;refine ze q (by decide) (by decide) v λh0 k0 q0=>?_;have hr:(draw ops t.s.pos 6).1<6:=by simp_all[zg]
 refine lT (n:=1) (by decide) (by omega) ?_
 refine B5 (λk N O P S T U h'=>∃(F':Nat->Prop) (R':Rw) (s:Ds),N = .ptr L.qC 0/\O = .ptr L.lu 0/\P = .ptr L.iE 0/\S = .ptr L.Aq 0/\T = .ptr L.WI 0/\U = .I (k:Nat)/\(∀l,F l->F' l)/\
  Kp F (gm G L.oG) h h'/\Dq F' G h' L ops {t with s:=s} R'/\rows ops k s=row ops t.s/\∃m,Sm s m/\m+k<=n+6) ?_
  ⟨F,R,(num ops t.s 6).2,rfl,rfl,rfl,rfl,rfl,rfl,λ_ h=>h,k0,q0,rfl,n,hn.num 6,by omega⟩
 rintro k N O P S T U h' ⟨p,R1,s,rfl,rfl,rfl,rfl,rfl,rfl,I,W,A,j,m,J,ag⟩;unfold tj;refine ed (by rw[oT]) ?_;have lv:=A.D.ov.len;have eA:jX (.bool (decide ((0:Int)<(k:Nat)))) (oB (fF 2 (.ptr L.lu 0)) λaa=>oB (ez aa h') λab=>oB (fD ab) λac=>en .lss 3 ac (V.I 200))=some (.bool (decide ((0:Int)<(k:Nat))&&decide (((s.ef.length:Nat):Int)<200))):=by
  simp only[fS,fe,zO,A.D.Yl,lv,jT,j6]
 refine ed eA (iJ ?_)
 cases k with
 | zero=>
   refine fU (by simp) ?_;rw[Xm]at j
   refine H p h' R1 I W (by simp_all) (by rw[<-j];exact J.le (by omega))
 | succ k=>
   by_cases Pu:s.ef.length<200;rotate_left
   ·refine fU (by simp;omega) ?_
    rw[XP _ _ _ Pu]at j;refine H p h' R1 I W (by simp_all) (by rw[<-j];exact J.le (by omega))
   refine gj (by simp;omega) ?_;have B:rows ops k (vf ops s)=row ops t.s:=by rw[<-j,XW _ _ _ Pu]
   clear j eA;refine ed A.D.Bm (ed A.xu (ed A.D.Bm (ed A.D.ok.len ?_)));show cP CS fm [.I (s.known.length:Nat),.ptr L.oG 0,.ptr L.lr 0] h' _;refine OG A v J (by omega) λh2 l o k2 C _ i1 E=>⟨k2.next,ed i1 (ed E ⟨C.D.Bm,?_⟩)⟩
   have E:True:=trivial;refine ed C.D.Bm (ed C.xu (ed C.D.Bm (ed C.D.ok.len ?_)));show cP CS fm [.I ((fL ops s).2.known.length:Nat),.ptr L.oG 0,.ptr L.lr 0] h2 _;refine OG C v J.one (by omega) λh3 l' o' k3 X _ j1 j2=>⟨k3.next,ed j1 (ed j2 ⟨X.D.Bm,?_⟩)⟩
   refine ed X.xu ?_;show cP CS fm [.I ((20:Nat):Int),.ptr L.oG 0,.ptr L.lr 0] h3 _;refine ze X (by decide) (by decide) v λz k4 d=>?_;have d:Dq p G z L ops {t with s:=(num ops (fL ops (fL ops s).2).2 20).2} R1:=d;have g:Sm (num ops (fL ops (fL ops s).2).2 20).2 m:=J.one.one.num 20;have kk:Kp F (gm G L.oG) h z:=((W.trans k2 I).trans k3 I).trans k4 I;have w:vf ops s=tq ops (num ops (fL ops (fL ops s).2).2 20).2 (num ops (fL ops (fL ops s).2).2 20).1 (fL ops s).1 (fL ops (fL ops s).2).1:=rfl;rw[w]at B;have ek:(draw ops ({t with s:=(fL ops ({t with s:=(fL ops ({t with s:=s}:Dt).s).2}:Dt).s).2}:Dt).s.pos 20).1=(num ops (fL ops (fL ops s).2).2 20).1:=rfl;rw[ek];clear ek;have ah:(num ops (fL ops (fL ops s).2).2 20).1<20:=zg _ _ (by decide);generalize (num ops (fL ops (fL ops s).2).2 20).2=s4 at*;generalize (num ops (fL ops (fL ops s).2).2 20).1=kd at*;have ea:(fL ops ({t with s:=s}:Dt).s).1=(fL ops s).1:=rfl;have eb:(fL ops ({t with s:=(fL ops ({t with s:=s}:Dt).s).2}:Dt).s).1=(fL ops (fL ops s).2).1:=rfl;rw[ea,eb];generalize (fL ops s).1=a at*;generalize (fL ops (fL ops s).2).1=b at*;clear X C A W k2 k3 k4 j1 j2 lv w
   have fin:∀(Y:Nat->Prop) (e:Hp) (R2:Rw) (K:Ds),(∀l,p l->Y l)->Kp p (gm G L.oG) z e->Dq Y G e L ops {t with s:=K} R2->K=tq ops s4 kd a b->Sm K (m+1)->
       gI CS Q (λN O P S T U hh=>∃k',k' < k+1/\∃(F':Nat->Prop) (R':Rw) (s:Ds),N = .ptr L.qC 0/\O = .ptr L.lu 0/\P = .ptr L.iE 0/\S = .ptr L.Aq 0/\T = .ptr L.WI 0/\U = .I (k':Nat)/\(∀l,F l->F' l)/\
         Kp F (gm G L.oG) h hh/\Dq F' G hh L ops {t with s:=s} R'/\rows ops k' s=row ops t.s/\∃m,Sm s m/\m+k'<=n+6) (.ptr L.qC 0) (.ptr L.lu 0) (.ptr L.iE 0) (.ptr L.Aq 0) (.ptr L.WI 0) (.I ((k+1:Nat):Int)) e:=by
     intro Y e R2 K ai f c e5 m5;refine BW ?_;unfold td;refine Av (by omega) (by omega) ?_;exact⟨k,by omega,Y,R2,K,rfl,rfl,rfl,rfl,rfl,rfl,by simp_all,kk.trans f I,c,by simp_all,m+1,m5,by omega⟩
   by_cases Z:kd<12
   ·refine gy ?_
    refine ed d.D.Bm (ed d.qc (lT (n:=3) (by decide) (by omega) ?_));have eP:∀o:Nat,fW [(V.I 0),(V.I 0),(V.I 0),(V.I 0),V.ee,(V.I 0)] [(0,1),(1,1),(2,1),(3,1),(4,1),(5,1)] [(0,.I (o:Nat)),(1,.I (a:Nat)),(2,.I (b:Nat))]=some (.agg (mW (vl o a b 0 [] 0) .ee)):=λ_=>rfl;refine ed (eP _) ?_;exact Ij d g (by omega) ⟨_,rfl,.nil⟩ λe R5 f c=>fin p e R5 _ (by simp_all) (f.gm _) c (by simp_all[tq,if_pos]) (g.jh _)
   refine iI ?_;by_cases c1:kd=12
   ·refine fZ (gj (by omega) ?_)
    refine ed d.D.Bm (ed d.qc (ed d.xu ?_));show cP CS fm [.I ((1048576:Nat):Int),.ptr L.oG 0,.ptr L.lr 0] z _;refine ze d (by decide) (by decide) v λe f c=>⟨f.next,?_⟩
    have c:Dq p G e L ops {t with s:=(num ops s4 1048576).2} R1:=c;have hd:(draw ops s4.pos 1048576).1<1048576:=by simp_all[zg]
    have ew:mq .i64 (((draw ops s4.pos 1048576).1:Int)-9)=((draw ops s4.pos 1048576).1:Int)-9:=by grind[qh,rO]
    refine ed (by rw[pI]) ?_;rw[show(mq .i64 (((draw ops ({t with s:=s4}:Dt).s.pos 1048576).1:Int)-9))=((draw ops s4.pos 1048576).1:Int)-9 from ew];have eP:∀i:Int,fW [(V.I 0),(V.I 0),(V.I 0),(V.I 0),V.ee,(V.I 0)] [(0,1),(1,1),(2,1),(3,1),(4,1),(5,1)] [(0,(V.I 2)),(3,.I i)]=some (.agg (mW (vl 2 0 0 i [] 0) .ee)):=λ_=>rfl;refine ed (eP _) ⟨c.qc,c.D.Bm,?_⟩;exact Ij c (g.num _) (by omega) ⟨_,rfl,.nil⟩ λx R6 r u=>fin p x R6 _ (by simp_all) (f.trans (r.gm _) λ_ h=>h) u (by unfold tq;rw[if_neg Z,if_pos c1];rfl) ((g.num _).jh _)
   refine fZ (fU (by omega) ?_);by_cases c2:kd=13
   ·refine fZ (gj (by omega) ?_)
    refine ed d.D.Bm (ed d.qc (ed d.xu ?_));show cP CS fm [.I ((5:Nat):Int),.ptr L.oG 0,.ptr L.lr 0] z _;refine ze d (by decide) (by decide) v λe f c=>⟨f.next,?_⟩
    have c:Dq p G e L ops {t with s:=(num ops s4 5).2} R1:=c;have eP:∀n:Nat,fW [(V.I 0),(V.I 0),(V.I 0),(V.I 0),V.ee,(V.I 0)] [(0,1),(1,1),(2,1),(3,1),(4,1),(5,1)] [(0,(V.I 17)),(1,.I (a:Nat)),(3,.I (n:Nat))]=some (.agg (mW (vl 17 a 0 (n:Nat) [] 0) .ee)):=λ_=>rfl;refine ed (eP _) ⟨c.qc,c.D.Bm,?_⟩;exact Ij c (g.num _) (by omega) ⟨_,rfl,.nil⟩ λx R6 r u=>fin p x R6 _ (by simp_all) (f.trans (r.gm _) λ_ h=>h) u (by unfold tq;rw[if_neg Z,if_neg c1,if_pos c2];rfl) ((g.num _).jh _)
   refine fZ (fU (by omega) ?_);by_cases c3:kd=14
   ·refine fZ (gj (by omega) ?_)
    refine ed d.D.Bm (ed d.qc ?_);have eP:fW [(V.I 0),(V.I 0),(V.I 0),(V.I 0),V.ee,(V.I 0)] [(0,1),(1,1),(2,1),(3,1),(4,1),(5,1)] [(0,(V.I 18)),(1,.I (a:Nat)),(2,.I (b:Nat))]=some (.agg (mW (vl 18 a b 0 [] 0) .ee)):=rfl;refine ed eP ?_;exact Ij d g (by omega) ⟨_,rfl,.nil⟩ λe R5 f c=>fin p e R5 _ (by simp_all) (f.gm _) c (by simp_all[tq,if_neg,if_pos]) (g.jh _)
   refine fZ (fU (by omega) ?_);by_cases c4:kd=15
   ·refine fZ (gj (by omega) ?_)
    refine ed d.qc (ed d.xu ?_);show cP CS fm [.I ((5:Nat):Int),.ptr L.oG 0,.ptr L.lr 0] z _;refine ze d (by decide) (by decide) v λe f c=>⟨f.next,?_⟩
    have c:Dq p G e L ops {t with s:=(num ops s4 5).2} R1:=c;have eP:∀n:Nat,fW [(V.I 0),(V.I 0),(V.I 0),(V.I 0),V.ee,(V.I 0)] [(0,1),(1,1),(2,1),(3,1),(4,1),(5,1)] [(0,(V.I 19)),(1,.I (a:Nat)),(3,.I (n:Nat)),(2,.I (b:Nat))]=some (.agg (mW (vl 19 a b (n:Nat) [] 0) .ee)):=λ_=>rfl;refine ed (eP _) ⟨c.qc,?_⟩;refine Ky c (g.num _) (by omega) ⟨_,rfl,.nil⟩ λx R6 r _ u=>⟨r.next,?_⟩
    exact fin p x R6 _ (by simp_all) (f.trans (r.gm _) λ_ h=>h) u (by unfold tq;rw[if_neg Z,if_neg c1,if_neg c2,if_neg c3,if_pos c4];rfl) ((g.num _).put _)
   refine fZ (fU (by omega) ?_);by_cases c5:kd=16
   ·refine fZ (gj (by omega) ?_)
    refine ed d.qc (ed d.D.Bm (ed d.xu (ed d.D.Bm (ed d.D.ok.len ?_))));show cP CS fm [.I (s4.known.length:Nat),.ptr L.oG 0,.ptr L.lr 0] z _;refine OG d v g (by omega) λe l o f c hl i1 E=>⟨f.next,ed i1 (ed E ?_)⟩
    have c:Dq p G e L ops {t with s:=(fL ops s4).2} R1:=c;have E:ez (.ptr l o) e=some (.I ((fL ops s4).1:Nat)):=E;have e3:jK 3 1 1 (V.I 0) [(0,V.I ((fL ops s4).1:Nat))]=some (.cells 3 1 true false [V.I ((fL ops s4).1:Nat)],λl=> .slice l 0 1):=rfl;show yU (jK 3 1 1 (V.I 0) [(0,V.I ((fL ops s4).1:Nat))]) e _;rw[e3,g0];have eP:∀n:Nat,fW [(V.I 0),(V.I 0),(V.I 0),(V.I 0),V.ee,(V.I 0)] [(0,1),(1,1),(2,1),(3,1),(4,1),(5,1)] [(0,(V.I 20)),(1,.I (a:Nat)),(2,.I (b:Nat)),(4,.slice n 0 1)]=some (.agg (mW (vl 20 a b 0 [(fL ops s4).1] 0) (.slice n 0 1))):=λ_=>rfl;have D6:=c.D.new (.cells 3 1 true false [V.I ((fL ops s4).1:Nat)]);have r:=c.D.Ai (.cells 3 1 true false [V.I ((fL ops s4).1:Nat)]);have u:=c.step r D6 (qL _ _) c.gl c.hq rfl;have g6:(e.new (.cells 3 1 true false [V.I ((fL ops s4).1:Nat)])).get e.next=_:=fh _ _;refine ed (eP _) ⟨by simp_all,iR E (fj _ hl),D6.Bm,u.qc,?_⟩
    have hs:ie eN (fz p e.next) (e.new (.cells 3 1 true false [V.I ((fL ops s4).1:Nat)])) [(fL ops s4).1] (.slice e.next 0 1):=
      .inr ⟨e.next,0,3,true,false,[V.I ((fL ops s4).1:Nat)],rfl,.inr rfl,g6,.inr rfl,Ol _,⟨_,[],rfl,rfl,trivial⟩⟩
    refine Ky u (g.one) (by omega) ⟨_,rfl,hs⟩ λh7 R7 k7 _ q7=>⟨k7.next,?_⟩
    exact fin (fz p e.next) h7 R7 _ (qL _ _) ((f.trans (r.gm _) λ_ h=>h).trans (k7.gm _) (qL _ _)) q7 (by simp_all[tq,if_neg,if_pos]) (g.one.put _)
   refine fZ (fU (by omega) ?_);by_cases c6:kd=17
   ·refine fZ (gj (by omega) ?_)
    refine ed d.qc (ed d.KY ?_);show cP CS fY [.ptr L.lu 0,.ptr L.qC 0,.ptr L.iE 0] z _;refine OK d g.k0 (by have:=g.k;grind) (by have:=g.st;grind) v λM e R5 y f c _=>⟨f.next,?_⟩
    have c:Dq M G e L ops {t with s:=(fH ops s4).2} R5:=c;have eP:∀n:Nat,fW [(V.I 0),(V.I 0),(V.I 0),(V.I 0),V.ee,(V.I 0)] [(0,1),(1,1),(2,1),(3,1),(4,1),(5,1)] [(0,(V.I 22)),(1,.I (a:Nat)),(5,.I (n:Nat))]=some (.agg (mW (vl 22 a 0 0 [] n) .ee)):=λ_=>rfl;refine ed (eP _) ⟨c.qc,?_⟩;refine Ky c (g.state ops) (by omega) ⟨_,rfl,.nil⟩ λx R6 r _ u=>⟨r.next,?_⟩
    exact fin M x R6 _ y (f.trans (r.gm _) y) u (by simp_all[tq,if_neg,if_pos]) (zfq g ops _)
   refine fZ (fU (by omega) ?_);by_cases c7:kd=18
   ·refine fZ (gj (by omega) ?_)
    refine ed d.qc (ed d.KY ?_);show cP CS fY [.ptr L.lu 0,.ptr L.qC 0,.ptr L.iE 0] z _;refine OK d g.k0 (by have:=g.k;grind) (by have:=g.st;grind) v λM e R5 y f c _=>⟨f.next,?_⟩
    have c:Dq M G e L ops {t with s:=(fH ops s4).2} R5:=c;have eP:∀n:Nat,fW [(V.I 0),(V.I 0),(V.I 0),(V.I 0),V.ee,(V.I 0)] [(0,1),(1,1),(2,1),(3,1),(4,1),(5,1)] [(0,(V.I 23)),(5,.I (n:Nat))]=some (.agg (mW (vl 23 0 0 0 [] n) .ee)):=λ_=>rfl;refine ed (eP _) ⟨c.qc,?_⟩;refine Ky c (g.state ops) (by omega) ⟨_,rfl,.nil⟩ λx R6 r _ u=>⟨r.next,?_⟩
    exact fin M x R6 _ y (f.trans (r.gm _) y) u (by simp_all[tq,if_neg,if_pos]) (zfq g ops _)
   refine fZ (fU (by omega) ?_);refine ed d.D.Bm (ed d.qc (ed d.xu ?_));show cP CS fm [.I ((2:Nat):Int),.ptr L.oG 0,.ptr L.lr 0] z _;refine ze d (by decide) (by decide) v λe f c=>⟨f.next,?_⟩
   have c:Dq p G e L ops {t with s:=(num ops s4 2).2} R1:=c;have hd:(draw ops s4.pos 2).1<2:=by simp_all[zg]
   refine lT (n:=15) (by decide) (by grind) ?_;have eP:∀o:Nat,fW [(V.I 0),(V.I 0),(V.I 0),(V.I 0),V.ee,(V.I 0)] [(0,1),(1,1),(2,1),(3,1),(4,1),(5,1)] [(0,.I (o:Nat)),(1,.I (a:Nat))]=some (.agg (mW (vl o a 0 0 [] 0) .ee)):=λ_=>rfl;refine ed (eP _) ⟨c.qc,c.D.Bm,?_⟩;exact Ij c (g.num _) (by omega) ⟨_,rfl,.nil⟩ λx R6 r u=>fin p x R6 _ (by simp_all) (f.trans (r.gm _) λ_ h=>h) u (by unfold tq;rw[if_neg Z,if_neg c1,if_neg c2,if_neg c3,if_neg c4,if_neg c5,if_neg c6,if_neg c7];rfl) ((g.num _).jh _)
end
open Un
structure IQ (s s':Ds):Prop where
 k:∃l,s'.known=s.known++l
 v:∃l,s'.ef=s.ef++l
theorem IQ.refl(s:Ds):IQ s s:=⟨by simp_all,by simp_all⟩
theorem IQ.trans{s s' c:Ds}(a:IQ s s')(b:IQ s' c):IQ s c:=by
 obtain⟨⟨d,e⟩,⟨f,g⟩⟩:=a;obtain⟨⟨h,i⟩,⟨j,k⟩⟩:=b;exact⟨by simp_all,by simp_all⟩
theorem IQ.kl{s s':Ds}(a:IQ s s'):s.known.length<=s'.known.length:=by
 obtain⟨⟨b,c⟩,_⟩:=a
 simp_all
theorem LX(ops:List Int)(s:Ds):IQ s (fH ops s).2:=by
 obtain⟨p,hp⟩:=GU ops (num ops s 4).1 (num ops s 4).2 [];unfold fH;simp only[hp];exact⟨by simp_all[num],by simp_all[num]⟩
theorem G1(s:Ds)(x:Vl):IQ s (jh s x):=⟨⟨_,rfl⟩,⟨_,rfl⟩⟩
theorem MS(s:Ds)(x:Vl):IQ s (put s x):=⟨by simp_all[put],⟨_,rfl⟩⟩
theorem HP(ops:List Int)(s:Ds)(m:Nat):IQ s (num ops s m).2:=⟨by simp_all[num],by simp_all[num]⟩
theorem RH(ops:List Int)(s:Ds):IQ s (fL ops s).2:=⟨by simp_all[fL],by simp_all[fL]⟩
theorem Zi(ops:List Int)(s:Ds)(k a b:Nat):IQ s (tq ops s k a b):=by
 unfold tq;split
 ·grind[G1]
 split
 ·exact(HP _ _ _).trans (G1 _ _)
 split
 ·exact(HP _ _ _).trans (G1 _ _)
 split
 ·grind[G1]
 split
 ·exact(HP _ _ _).trans (MS _ _)
 split
 ·exact(RH _ _).trans (MS _ _)
 split
 ·exact(LX _ _).trans (MS _ _)
 split
 ·exact(LX _ _).trans (MS _ _)
 ·exact(HP _ _ _).trans (G1 _ _)
theorem Ti(ops:List Int):∀(i:Nat)(s:Ds),IQ s (rows ops i s)
 |0,s=> .refl s
 | i+1,s=>by
   unfold rows;split
   ·exact(((RH ops s).trans (RH ops _)).trans ((HP ops _ 20).trans (Zi _ _ _ _ _))).trans (Ti ops i _)
   ·exact .refl s
theorem HT(ops:List Int)(s:Ds):IQ s (row ops s):=(HP ops s 6).trans (Ti ops _ _)
def LD(L:Lc):V:= .func jO [] [.ptr L.qC 0,.ptr L.lu 0,.ptr L.iE 0,.ptr L.Aq 0,.ptr L.WI 0]
def KQ(L:Lc):V:= .func kQ [] [.ptr L.jP 0,.ptr L.lu 0]
def gZ(xs:List Nat):List V:=xs.map λn=> .I (n:Nat)
section
variable{F F' G G':Nat->Prop}{h h':Hp}{L:Lc}{ops:List Int}{t t':Dt}{R R':Rw}{Q:fo}
theorem GH(q:Dq F G h L ops t R)(xs:List Nat):Dq (fz F h.next) G (h.new (.cells 3 1 true false (gZ xs))) L ops t R/\ie eN (fz F h.next) (h.new (.cells 3 1 true false (gZ xs))) xs (.slice h.next 0 xs.length)/\Kp F G h (h.new (.cells 3 1 true false (gZ xs))):=by
 have k:=q.D.Ai (.cells 3 1 true false (gZ xs));exact⟨q.step k (q.D.new _) (qL _ _) q.gl q.hq rfl,.inr ⟨h.next,0,3,true,false,gZ xs,rfl,.inr rfl,fh _ _,.inr rfl,Ol _,yd _ _ xs⟩,k⟩
theorem zl(q:Dq F G h L ops t R)(xs:List Nat){ps:Option (O×(Nat->V))}(d:ps=some (O.cells 3 1 true false (gZ xs),λl=> .slice l 0 xs.length)){K:Hp->Prop}
  (H:∀F' h' R',(∀l,F l->F' l)->Kp F G h h'->Dq F' G h' L ops {t with eQ:=xs} R'->K h') :
  hH ps h λv e=>oP (fF 4 (.ptr L.jP 0)) λf=>fg (gJ 1 f v e) λ_ g=>K g:=by
 subst d;obtain⟨a,i,j⟩:=GH q xs;rw[fE,fS,iL];have k:=pB (o:=4) (v:= .slice h.next 0 xs.length) (qj:=[R.cc,.I 0,.I 0,.ee,.slice h.next 0 xs.length,.I 0]) a.D.gb (by simp) rfl rfl;obtain⟨b,m⟩:=a.D.zcy (c:=R.cc) i;rw[zO,k,ei];exact H _ _ _ (qL _ _) (j.trans b (qL _ _)) (a.step b m (by simp_all) q.gl a.hq rfl)
theorem VF(q:Dq F G h L ops t R)(e:t.blocks.length<1000)(b:Bk){w nv:V}(f:w = .agg (lB b .ee nv .ee))(a:b.ef=[])(c:b.eQ=[])(d:ie eN F h b.next nv){K:fo}
  (H:∀F' h' R',(∀l,F l->F' l)->Kp F G h h'->Dq F' G h' L ops {s:={t.s with cur:=[]},blocks:=t.blocks++[⟨t.s.cur,b.fin,b.cond,b.next,t.eQ,b.state⟩],eQ:=[]} R'->K (.I t.blocks.length) h') :
  hV CS (gi (KQ L) [w]) h K:=by
 subst f;exact zcY (n:=0) q e a c d H
theorem HB(q:Dq F G h L ops t R)(b:ops.length<9223372036854775808){n:Nat}(c:Sm t.s n)(a:n<900){K:fo}
  (H:∀F' h' R',(∀l,F l->F' l)->Kp F (gm G L.oG) h h'->Dq F' G h' L ops {t with s:=row ops t.s} R'->Sm (row ops t.s) (n+6)->K (.tuple []) h') :
  hV CS (gi (LD L) []) h K:=zd0 q b c a H
theorem VL(q:Dq F G h L ops t R)(hk:0<t.s.known.length)(c:t.s.known.length<1000){K:V->Prop}(H:K (.I (t.s.known.getLastD 0:Nat))) :
  oP (ez (.ptr L.iE 0) h) λa=>oP (ez (.ptr L.iE 0) h) λb=>oP (fD b) λn=>oP (en .sub 3 n (.I 1)) λi=>oP (gG 1 a i) λp=>oP (ez p h) K:=by
 obtain⟨l,o,_,_,d,e⟩:=q.HW (i:=t.s.known.length-1) (by omega);refine ed q.D.Bm (ed q.D.Bm (ed q.D.ok.len (Av (by omega) hk (ed d (ed e ?_)))))
 grind
theorem QW(q:Dq F G h L ops t R){m:Nat}(c:m<=t.s.known.length){K:Hp->Prop}(H:∀h' R',Kp F G h h'->Dq F G h' L ops {t with s:=cut m t.s} R'->K h') :
  oP (ez (.ptr L.iE 0) h) λa=>oP (jz 1 a none (some (.I m)) h) λs=>fg (gJ 1 (.ptr L.iE 0) s h) λ_ b=>K b:=by
 obtain⟨g,b,d,e,_,k,f⟩:=q.D.zga c;refine ed q.D.Bm (ed d ?_);rw[e,ei];exact H _ _ k (q.step k f (by simp_all) q.gl q.hq rfl)
theorem UA(q:Dq F G h L ops t R)(j:ops.length<9223372036854775808){n:Nat}(k:Sm t.s n)(d:n<1000){K:fo}
  (H:∀h',Kp F (gm G L.oG) h h'->Dq F G h' L ops {t with s:=(fL ops t.s).2} R->K (.I ((fL ops t.s).1:Nat)) h') :
  oP (ez (.ptr L.iE 0) h) λa=>oP (ez (.ptr L.qC 0) h) λf=>oP (ez (.ptr L.iE 0) h) λb=>oP (fD b) λn=>hV CS (gi f [n]) h λi c=>(h.next<=c.next/\oP (gG 1 a i) λp=>oP (ez p c) λv=>((ez (.ptr L.iE 0) c=some a)/\K v c)):=by
 refine ed q.D.Bm (ed q.xu (ed q.D.Bm (ed q.D.ok.len ?_)));show cP CS fm [.I t.s.known.length,.ptr L.oG 0,.ptr L.lr 0] h _;exact OG q j k d λc l o e g _ m r=>⟨e.next,ed m (ed r ⟨g.D.Bm,H _ e g⟩)⟩
theorem OC(q:Dq F G h L ops t R)(e:ops.length<9223372036854775808){n:Nat}(d:Sm t.s n)(f:n<999){K:fo}
  (H:∀F' h' R',(∀l,F l->F' l)->Kp F (gm G L.oG) h h'->Dq F' G h' L ops {t with s:=(fH ops t.s).2} R'->Sm (fH ops t.s).2 (n+1)->K (.I ((fH ops t.s).1:Nat)) h') :
  hV CS (gi (Vt L) []) h K:=by
 show cP CS fY [.ptr L.lu 0,.ptr L.qC 0,.ptr L.iE 0] h _;have g:=d.k;have i:=d.st;exact OK q d.k0 (by omega) (by omega) e λF' h' R' a b c _=>H F' h' R' a b c (d.state ops)
theorem Sm.end_{t:Dt}{n:Nat}(a:Sm t.s n)(f c:Nat)(nx:List Nat)(s:Nat)(p:List Nat):Sm (Un.end_ t f c nx s p).s n:=⟨a.v,Ol _,a.k,a.st,a.k0⟩
theorem Sm.cut{s:Ds}{n m:Nat}(a:Sm s n)(h0:0<m)(b:m<=s.known.length):Sm (Un.cut m s) n:=
 ⟨a.v,a.c,by show(s.known.take m).length<=n;rw[NM];have:=a.k;omega,a.st,by show 0<(s.known.take m).length;simp_all⟩
theorem Sm.setArgs{s:Ds}{n:Nat}(a:Sm s n)(v:Nat)(l:List Nat):Sm (Un.setArgs s v l) n:=⟨by rw[(E6 s v l).1];exact a.v,a.c,a.k,a.st,a.k0⟩
theorem E2(q:Dq F G h L ops t R)(d:t.blocks.length<1000)(fin cond:Nat)(nx:List Nat)(state:Nat){ps:Option (O×(Nat->V))}(e:ps=some (O.cells 3 1 true false (gZ nx),λl=> .slice l 0 nx.length)){B:V->Option V}
  (f:∀m,B (.slice m 0 nx.length)=some (.agg (lB ⟨[],fin,cond,nx,[],state⟩ .ee (.slice m 0 nx.length) .ee))) {K:fo}
  (H:∀F' h' R',(∀l,F l->F' l)->Kp F G h h'->Dq F' G h' L ops {s:={t.s with cur:=[]},blocks:=t.blocks++[⟨t.s.cur,fin,cond,nx,t.eQ,state⟩],eQ:=[]} R'->K (.I t.blocks.length) h') :
  hH ps h λv g=>oP (B v) λw=>hV CS (gi (KQ L) [w]) g K:=by
 subst e;obtain⟨i,j,k⟩:=GH q nx;rw[fE];refine ed (f _) ?_;exact VF i d ⟨[],fin,cond,nx,[],state⟩ rfl rfl rfl j λF' h' R' a b c=>H F' h' R' (by grind[qL]) (k.trans b (qL _ _)) c
end
open Un
section
variable{F F' G G':Nat->Prop}{h h':Hp}{L:Lc}{ops:List Int}{t t':Dt}{R R':Rw}{Q:fo}
theorem Ys(q:Dq F G h L ops t R){t':Dt}(e:t=t'):Dq F G h L ops t' R:=e▸q
theorem kgm{F F' G:Nat->Prop}{h h' b:Hp}{a:Nat}(x:Kp F (gm G a) h h')(y:Kp F' G h' b)(c:∀l,F l->F' l):Kp F (gm G a) h b:=x.trans (y.gm a) c
theorem zaJ(q:Dq F G h L ops t R)(ho:ops.length<9223372036854775808){n:Nat}(hn:Sm t.s n)(ce:n<800)(hb:t.blocks.length<900){K:Hp->Prop}
  (H:∀F' h' R',(∀l,F l->F' l)->Kp F (gm G L.oG) h h'->Dq F' G h' L ops (fork ops t) R'->Sm (fork ops t).s (n+30)->K h') :
  oP (ez (.ptr L.iE 0) h) λw=>
  oP (ez (.ptr L.qC 0) h) λY=>
  oP (ez (.ptr L.iE 0) h) λZ=>
  oP (fD Z) λaa=>
  hV CS (gi Y [aa]) h λab x=>
  (h.next<=x.next/\
  oP (gG 1 w ab) λac=>
  oP (ez ac x) λae=>
  ((ez (.ptr L.iE 0) x=some w)/\
  oP (ez (.ptr L.iE 0) x) λag=>
  oP (fD ag) λy=>
  oP (fF 3 (.ptr L.lu 0)) λah=>
  oP (ez ah x) λai=>
  oP (fD ai) λaj=>
  oP (en .add 3 aj (V.I 1)) λak=>
  oP (fF 3 (.ptr L.lu 0)) λal=>
  oP (ez al x) λam=>
  oP (fD am) λan=>
  oP (en .add 3 an (V.I 2)) λao=>
  hH (jK 3 1 2 (V.I 0) [(0,ak),(1,ao)]) x λap h3=>
  oP (fW [V.ee,(V.I 0),(V.I 0),V.ee,V.ee,(V.I 0)] [(0,1),(1,1),(2,1),(3,1),(4,1),(5,1)] [(1,(V.I 2)),(2,ae),(3,ap)]) λaq=>
  hV CS (gi (KQ L) [aq]) h3 λz h4=>
  hH (jK 3 1 1 (V.I 0) [(0,z)]) h4 λar h5=>
  oP (fF 4 (.ptr L.jP 0)) λau=>
  fg (gJ 1 au ar h5) λvu h6=>
  hV CS (gi (LD L) []) h6 λbY E=>
  oP (ez (.ptr L.iE 0) E) λaw=>
  oP (ez (.ptr L.iE 0) E) λax=>
  oP (fD ax) λay=>
  oP (en .sub 3 ay (V.I 1)) λaA=>
  oP (gG 1 aw aA) λaB=>
  oP (ez aB E) λaC=>
  oP (ez (.ptr L.iE 0) E) λaD=>
  oP (jz 1 aD none (some y) E) λaE=>
  fg (gJ 1 (.ptr L.iE 0) aE E) λbZ h8=>
  oP (fF 3 (.ptr L.lu 0)) λaF=>
  oP (ez aF h8) λaG=>
  oP (fD aG) λaH=>
  oP (en .add 3 aH (V.I 2)) λaI=>
  hH (jK 3 1 1 (V.I 0) [(0,aI)]) h8 λaJ h9=>
  oP (fW [V.ee,(V.I 0),(V.I 0),V.ee,V.ee,(V.I 0)] [(0,1),(1,1),(2,1),(3,1),(4,1),(5,1)] [(1,(V.I 1)),(3,aJ)]) λaK=>
  hV CS (gi (KQ L) [aK]) h9 λaL aM=>
  hH (jK 3 1 1 (V.I 0) [(0,z)]) aM λaN bC=>
  oP (fF 4 (.ptr L.jP 0)) λaO=>
  fg (gJ 1 aO aN bC) λb4 aP=>
  hV CS (gi (LD L) []) aP λb5 b=>
  oP (ez (.ptr L.iE 0) b) λaQ=>
  oP (ez (.ptr L.iE 0) b) λaR=>
  oP (fD aR) λaS=>
  oP (en .sub 3 aS (V.I 1)) λaT=>
  oP (gG 1 aQ aT) λaU=>
  oP (ez aU b) λaV=>
  oP (ez (.ptr L.iE 0) b) λaW=>
  oP (jz 1 aW none (some y) b) λaX=>
  fg (gJ 1 (.ptr L.iE 0) aX b) λb6 I=>
  oP (fF 3 (.ptr L.lu 0)) λaY=>
  oP (ez aY I) λaZ=>
  oP (fD aZ) λa4=>
  oP (en .add 3 a4 (V.I 1)) λa5=>
  hH (jK 3 1 1 (V.I 0) [(0,a5)]) I λa6 bD=>
  oP (fW [V.ee,(V.I 0),(V.I 0),V.ee,V.ee,(V.I 0)] [(0,1),(1,1),(2,1),(3,1),(4,1),(5,1)] [(1,(V.I 1)),(3,a6)]) λa7=>
  hV CS (gi (KQ L) [a7]) bD λa8 a9=>
  hH (jK 3 1 2 (V.I 0) [(0,aL),(1,a8)]) a9 λba bE=>
  oP (fF 4 (.ptr L.jP 0)) λbb=>
  fg (gJ 1 bb ba bE) λb7 a=>
  oP (ez (.ptr L.iE 0) a) λg=>
  oP (ez (.ptr L.Aq 0) a) λA=>
  yU (jK 3 1 2 (V.I 0) [(0,aC),(1,aV)]) a λo4 bc d=>
  oP (fW [(V.I 0),(V.I 0),(V.I 0),(V.I 0),V.ee,(V.I 0)] [(0,1),(1,1),(2,1),(3,1),(4,1),(5,1)] [(0,(V.I 21)),(4,bc)]) λbd=>
  ((d.get (a.next)=some o4/\O.beq o4 o4=true)/\
  ((ez (.ptr L.Aq 0) d=some A)/\
  ((ez (.ptr L.iE 0) d=some g)/\
  hV CS (gi A [bd]) d λbe J=>
  (d.next<=J.next/\
  yU (jK 3 1 1 (V.I 0) [(0,be)]) J λo7 bf o=>
  ((o.get (J.next)=some o7/\O.beq o7 o7=true)/\
  ((ez (.ptr L.iE 0) o=some g)/\
  fg (eR 3 1 8 g bf o) λbg M=>
  (o.next<=M.next/\
  fg (gJ 1 (.ptr L.iE 0) bg M) λb8 N=>
  (M.next<=N.next/\
  hV CS (gi (LD L) []) N λb9 P=>K P)))))))))):=by
 have bh:=hn.k0;have hk:=hn.k;refine UA q ho hn (by omega) λx k2 B=>?_;refine ed B.D.Bm (ed B.D.ok.len ?_);refine ed (by rfl) (ed B.D.ldB (ed B.D.ob.len (lT (m:=1) (show t.blocks.length<_ by omega) (by omega) ?_)));refine ed (by rfl) (ed B.D.ldB (ed B.D.ob.len (lT (m:=2) (show t.blocks.length<_ by omega) (by omega) ?_)));have n2:Sm (fL ops t.s).2 n:=hn.one;refine E2 B (show t.blocks.length<_ by omega) 2 (fL ops t.s).1 [t.blocks.length+1,t.blocks.length+2] 0 rfl (λ_=>rfl) λF4 h4 R4 f4 k4 q4=>?_;refine zl q4 [t.blocks.length] rfl λF6 h6 R6 f6 k6 q6=>?_;have q6:=Ys (t':=end_ {t with s:=(fL ops t.s).2} 2 (fL ops t.s).1 [t.blocks.length+1,t.blocks.length+2] 0 [t.blocks.length]) q6 rfl;have n6:Sm (end_ {t with s:=(fL ops t.s).2} 2 (fL ops t.s).1 [t.blocks.length+1,t.blocks.length+2] 0 [t.blocks.length]).s n:=n2.end_ (t:={t with s:=(fL ops t.s).2}) _ _ _ _ _;have Q:(end_ {t with s:=(fL ops t.s).2} 2 (fL ops t.s).1 [t.blocks.length+1,t.blocks.length+2] 0 [t.blocks.length]).blocks.length=t.blocks.length+1:=by simp[end_]
 have cf:(end_ {t with s:=(fL ops t.s).2} 2 (fL ops t.s).1 [t.blocks.length+1,t.blocks.length+2] 0 [t.blocks.length]).s.known.length=t.s.known.length:=rfl;have c:fork ops t=fork ops t:=rfl
 conv at c=>rhs;unfold fork
 simp only at c;have el:({t with s:=(fL ops t.s).2}:Dt).s.known.length=t.s.known.length:=rfl;rw[el];have kA:=kgm k2 (k4.trans k6 f4) λ_ h=>h;have fA:∀l,F l->F6 l:=by simp_all
 generalize end_ {t with s:=(fL ops t.s).2} 2 (fL ops t.s).1 [t.blocks.length+1,t.blocks.length+2] 0 [t.blocks.length]=e at*;clear B q4 k2 k4 k6;refine HB q6 ho n6 (by omega) λF7 E R7 f7 k7 q7 n7=>?_;have x7:=HT ops e.s;have cg:=x7.kl;generalize row ops e.s=f at*;have ci:=n7.k;refine VL q7 (by grind) (by grind) ?_;refine QW q7 (m:=t.s.known.length) (by simp_all) λh8 R8 k8 q8=>?_;have n8:Sm (cut t.s.known.length f) (n+6):=n7.cut bh (by omega);refine ed (by rfl) (ed q8.D.ldB (ed q8.D.ob.len (lT (m:=2) (show e.blocks.length<_ by omega) (by omega) ?_)));refine E2 q8 (show e.blocks.length<_ by omega) 1 0 [t.blocks.length+3] 0 (by show jK 3 1 1 (V.I 0) [(0,.I ((e.blocks.length+2:Nat):Int))]=_;rw[Q];rfl) (λ_=>rfl) λcj aM Ga cl Po bi=>?_;refine zl bi [t.blocks.length] rfl λbG aP R12 cm bj p=>?_;have p:=Ys (t':=end_ {e with s:=cut t.s.known.length f} 1 0 [t.blocks.length+3] 0 [t.blocks.length]) p rfl;have bH:Sm (end_ {e with s:=cut t.s.known.length f} 1 0 [t.blocks.length+3] 0 [t.blocks.length]).s (n+6):=n8.end_ (t:={e with s:=cut t.s.known.length f}) _ _ _ _ _;have C:(end_ {e with s:=cut t.s.known.length f} 1 0 [t.blocks.length+3] 0 [t.blocks.length]).blocks.length=t.blocks.length+2:=by simp[end_,Q]
 have ca:(end_ {e with s:=cut t.s.known.length f} 1 0 [t.blocks.length+3] 0 [t.blocks.length]).s.known.length=t.s.known.length:=by
  show(f.known.take t.s.known.length).length=_;rw[NM];omega
 have bm:({e with s:=cut t.s.known.length f}:Dt).blocks.length=t.blocks.length+1:=Q;rw[bm];have S:({e with s:=f}:Dt).s.known.getLastD 0=f.known.getLastD 0:=rfl;rw[S];have kB:=(((kA.trans k7 fA).trans ((k8.gm L.oG).trans (Po.gm L.oG) λ_ h=>h) (by grind)).trans (bj.gm L.oG) (by grind))
 have fB:∀l,F l->bG l:=by grind
 generalize f.known.getLastD 0=W at*;generalize end_ {e with s:=cut t.s.known.length f} 1 0 [t.blocks.length+3] 0 [t.blocks.length]=i at*;clear q6 q7 q8 bi k7 k8 Po bj kA;refine HB p ho bH (by omega) λcn b R13 co bo T br=>?_;have bI:=HT ops i.s;have cb:=bI.kl;generalize row ops i.s=r at*;have cd:=br.k;refine VL T (by grind) (by grind) ?_;refine QW T (m:=t.s.known.length) (by simp_all) λI R14 bt u=>?_;have bJ:Sm (cut t.s.known.length r) (n+6+6):=br.cut bh (by omega);refine ed (by rfl) (ed u.D.ldB (ed u.D.ob.len (lT (m:=1) (show i.blocks.length<_ by omega) (by omega) ?_)));refine E2 u (show i.blocks.length<_ by omega) 1 0 [t.blocks.length+3] 0 (by show jK 3 1 1 (V.I 0) [(0,.I ((i.blocks.length+1:Nat):Int))]=_;rw[C];rfl) (λ_=>rfl) λcp a9 cq cr bu bw=>?_;have bx:({i with s:=cut t.s.known.length r}:Dt).blocks.length=t.blocks.length+2:=C;rw[bx];refine zl bw [t.blocks.length+1,t.blocks.length+2] rfl λbK a R18 ct bz j=>?_;have j:=Ys (t':=end_ {i with s:=cut t.s.known.length r} 1 0 [t.blocks.length+3] 0 [t.blocks.length+1,t.blocks.length+2]) j rfl;have bA:Sm (end_ {i with s:=cut t.s.known.length r} 1 0 [t.blocks.length+3] 0 [t.blocks.length+1,t.blocks.length+2]).s (n+12):=(bJ.le (by omega)).end_ (t:={i with s:=cut t.s.known.length r}) _ _ _ _ _;have v:({i with s:=r}:Dt).s.known.getLastD 0=r.known.getLastD 0:=rfl;rw[v];have kC:=(((kB.trans bo fB).trans ((bt.gm L.oG).trans (bu.gm L.oG) λ_ h=>h) (by simp_all)).trans (bz.gm L.oG) (by grind))
 have fC:∀l,F l->bK l:=by grind
 generalize r.known.getLastD 0=X at*;generalize end_ {i with s:=cut t.s.known.length r} 1 0 [t.blocks.length+3] 0 [t.blocks.length+1,t.blocks.length+2]=t3 at*;clear p T u bw bo bt bu bz kB;refine ed j.D.Bm (ed j.qc ?_);have e3:jK 3 1 2 (V.I 0) [(0,V.I W),(1,V.I X)]=some (.cells 3 1 true false (gZ [W,X]),λl=> .slice l 0 2):=rfl;rw[e3,g0];obtain⟨U,bL,bQ⟩:=GH j [W,X];have cu:(a.new (.cells 3 1 true false (gZ [W,X]))).get a.next=_:=fh _ _;have eP:∀n:Nat,fW [(V.I 0),(V.I 0),(V.I 0),(V.I 0),V.ee,(V.I 0)] [(0,1),(1,1),(2,1),(3,1),(4,1),(5,1)] [(0,(V.I 21)),(4,.slice n 0 2)]=some (.agg (mW (vl 21 0 0 0 [W,X] 0) (.slice n 0 2))):=λ_=>rfl;refine ed (eP _) ⟨by simp_all,U.qc,U.D.Bm,?_⟩;generalize a.new (.cells 3 1 true false (gZ [W,X]))=d at*;refine Ij U bA (by omega) ⟨_,rfl,bL⟩ λN cv bR bS=>?_;refine HB bS ho (bA.jh _) (by omega) λbU P bV cw bW cx bX=>?_;refine H bU P bV (by grind[qL]) ((kC.trans ((bQ.gm L.oG).trans (bR.gm L.oG) (qL _ _)) fC).trans bW (by grind[qL])) (by simp_all) ?_;rw[c];exact bX.le (by omega)
end
open Un
section
variable{F F' G G':Nat->Prop}{h h':Hp}{L:Lc}{ops:List Int}{t t':Dt}{R R':Rw}{Q:fo}
theorem zaN(q:Dq F G h L ops t R)(P:ops.length<9223372036854775808){n:Nat}(Q:Sm t.s n)(aK:n<800)(hb:t.blocks.length<900){K:Hp->Prop}
  (H:∀F' h' R',(∀l,F l->F' l)->Kp F (gm G L.oG) h h'->Dq F' G h' L ops (zo ops t) R'->Sm (zo ops t).s (n+30)->K h') :
  oP (ez (.ptr L.iE 0) h) λi=>
  oP (ez (.ptr L.qC 0) h) λW=>
  oP (ez (.ptr L.iE 0) h) λX=>
  oP (fD X) λY=>
  hV CS (gi W [Y]) h λZ a=>
  (h.next<=a.next/\
  oP (gG 1 i Z) λaa=>
  oP (ez aa a) λab=>
  ((ez (.ptr L.iE 0) a=some i)/\
  oP (fF 3 (.ptr L.lu 0)) λac=>
  oP (ez ac a) λae=>
  oP (fD ae) λag=>
  oP (en .add 3 ag (V.I 1)) λah=>
  oP (fF 3 (.ptr L.lu 0)) λai=>
  oP (ez ai a) λj=>
  oP (fD j) λo=>
  oP (en .add 3 o (V.I 2)) λp=>
  hH (jK 3 1 2 (V.I 0) [(0,ah),(1,p)]) a λr aj=>
  oP (fW [V.ee,(V.I 0),(V.I 0),V.ee,V.ee,(V.I 0)] [(0,1),(1,1),(2,1),(3,1),(4,1),(5,1)] [(1,(V.I 2)),(2,ab),(3,r)]) λu=>
  hV CS (gi (KQ L) [u]) aj λb v=>
  oP (ez (.ptr L.iE 0) v) λw=>
  oP (fD w) λx=>
  hH (jK 3 1 1 (V.I 0) [(0,b)]) v λy ak=>
  oP (fF 4 (.ptr L.jP 0)) λz=>
  fg (gJ 1 z y ak) λal am=>
  hV CS (gi (LD L) []) am λaH A=>
  oP (ez (.ptr L.WI 0) A) λB=>
  hV CS (gi B []) A λC an=>
  oP (fW [V.ee,(V.I 0),(V.I 0),V.ee,V.ee,(V.I 0)] [(0,1),(1,1),(2,1),(3,1),(4,1),(5,1)] [(1,(V.I 3)),(5,C)]) λE=>
  hV CS (gi (KQ L) [E]) an λaI d=>
  oP (ez (.ptr L.iE 0) d) λI=>
  oP (jz 1 I none (some x) d) λJ=>
  fg (gJ 1 (.ptr L.iE 0) J d) λao ap=>
  hH (jK 3 1 1 (V.I 0) [(0,b)]) ap λM aq=>
  oP (fF 4 (.ptr L.jP 0)) λN=>
  fg (gJ 1 N M aq) λar au=>
  hV CS (gi (LD L) []) au λaJ aw=>K aw)):=by
 have ax:=Q.k0;have hk:=Q.k;refine UA q P Q (by omega) λh2 S g=>?_;refine ed (by rfl) (ed g.D.ldB (ed g.D.ob.len (lT (m:=1) (show t.blocks.length<_ by omega) (by omega) ?_)));refine ed (by rfl) (ed g.D.ldB (ed g.D.ob.len (lT (m:=2) (show t.blocks.length<_ by omega) (by omega) ?_)));have n2:Sm (fL ops t.s).2 n:=Q.one;refine E2 g (show t.blocks.length<_ by omega) 2 (fL ops t.s).1 [t.blocks.length+1,t.blocks.length+2] 0 rfl (λ_=>rfl) λF4 h4 R4 f4 k4 T=>?_;refine ed T.D.Bm (ed T.D.ok.len ?_);refine zl T [t.blocks.length] rfl λF6 h6 R6 f6 k6 q6=>?_;have q6:=Ys (t':=end_ {t with s:=(fL ops t.s).2} 2 (fL ops t.s).1 [t.blocks.length+1,t.blocks.length+2] 0 [t.blocks.length]) q6 rfl;have n6:Sm (end_ {t with s:=(fL ops t.s).2} 2 (fL ops t.s).1 [t.blocks.length+1,t.blocks.length+2] 0 [t.blocks.length]).s n:=n2.end_ (t:={t with s:=(fL ops t.s).2}) _ _ _ _ _;have aL:(end_ {t with s:=(fL ops t.s).2} 2 (fL ops t.s).1 [t.blocks.length+1,t.blocks.length+2] 0 [t.blocks.length]).blocks.length=t.blocks.length+1:=by simp[end_]
 have aM:(end_ {t with s:=(fL ops t.s).2} 2 (fL ops t.s).1 [t.blocks.length+1,t.blocks.length+2] 0 [t.blocks.length]).s.known.length=t.s.known.length:=rfl;have hx:zo ops t=zo ops t:=rfl
 conv at hx=>rhs;unfold zo
 simp only at hx;have kA:=kgm S (k4.trans k6 f4) λ_ h=>h;have fA:∀l,F l->F6 l:=by simp_all
 generalize end_ {t with s:=(fL ops t.s).2} 2 (fL ops t.s).1 [t.blocks.length+1,t.blocks.length+2] 0 [t.blocks.length]=c at*;clear g T S k4 k6;refine HB q6 P n6 (by omega) λF7 h7 R7 f7 k7 q7 n7=>?_;have x7:=HT ops c.s;have aN:=x7.kl;generalize row ops c.s=e at*;refine ed q7.KY ?_;refine OC q7 P n7 (by omega) λF8 h8 R8 f8 k8 q8 U=>?_;have x8:=LX ops e;have aO:=x8.kl;have e8:fH ops ({c with s:=e}:Dt).s=fH ops e:=rfl;rw[e8];have q8:Dq F8 G h8 L ops {c with s:=(fH ops e).2} R8:=q8;have U:Sm (fH ops e).2 (n+6+1):=U;generalize (fH ops e).2=s2 at*;generalize (fH ops e).1=O at*;have eB:fW [V.ee,(V.I 0),(V.I 0),V.ee,V.ee,(V.I 0)] [(0,1),(1,1),(2,1),(3,1),(4,1),(5,1)] [(1,(V.I 3)),(5,.I O)]=some (.agg (lB ⟨[],3,0,[],[],O⟩ .ee .ee .ee)):=rfl;refine ed eB ?_;have aP:=U.k;refine VF q8 (show c.blocks.length<_ by omega) ⟨[],3,0,[],[],O⟩ rfl rfl rfl .nil λF9 h9 R9 f9 k9 q9=>?_;refine QW q9 (m:=t.s.known.length) (by grind) λaQ Ga Po ay=>?_;refine zl ay [t.blocks.length] rfl λaR aS R11 aT aA f=>?_;have f:=Ys (t':=end_ {c with s:=cut t.s.known.length s2} 3 0 [] O [t.blocks.length]) f rfl;have aB:Sm (end_ {c with s:=cut t.s.known.length s2} 3 0 [] O [t.blocks.length]).s (n+7):=(U.cut ax (by omega)).end_ (t:={c with s:=cut t.s.known.length s2}) _ _ _ _ _;refine HB f P aB (by omega) λaC aD R12 aU aE aV aF=>?_;have aG:∀l,F l->F8 l:=by grind
 refine H aC aD R12 (by grind) ?_ (by simp_all) ?_
 ·have k1:=(kA.trans k7 fA).trans k8 (by grind);have S:=((k9.gm L.oG).trans (Po.gm L.oG) f9).trans (aA.gm L.oG) f9;exact(k1.trans S aG).trans aE (by grind)
 ·rw[hx];exact aF.le (by omega)
end
