/- Parts. -/
import Derived.Test.YtnehpeeglbgfpaaDoorM20
set_option maxHeartbeats 4000000
namespace Go.Proofs.YtnehpeeglbgfpaaDoor.Hx
open Un
theorem je{b:Bool}{A B:Prop}(h:if b=true then A else B):bP (.bool b) A B:=by simp_all
theorem O9(ops:List Int)(s:Ds):rows ops 0 s=s:=rfl
theorem O4(ops:List Int)(k:Nat)(s:Ds)(h:¬s.ee.length<200):rows ops k s=s:=by
 cases k <;> simp_all[rows,if_neg]
theorem O5(ops:List Int)(k:Nat)(s:Ds)(h:s.ee.length<200):rows ops (k+1) s=rows ops k (rX ops s):=by
 simp_all[rows,if_pos]
section
variable{F F' G G':Nat->Prop}{h h':Hp}{L:Lc}{ops:List Int}{t t':Dt}{R R':Rw}{Q:fm}
theorem Sm.one{s:Ds}{n:Nat}(a:Sm s n):Sm (fu ops s).2 n:=a.pos _
theorem Sm.num{s:Ds}{n:Nat}(a:Sm s n)(m:Nat):Sm (num ops s m).2 n:=a.pos _
theorem W7{s:Ds}{n:Nat}(a:Sm s n)(ops:List Int)(x:Vl):Sm (put (fk ops s).2 x) (n+1):=by
 let⟨p,hp⟩:=BD ops (num ops s 4).1 (num ops s 4).2 []
 have e:(fk ops s).2 = {s with pos:=p,eh:=(fk ops s).2.eh}:=by
  unfold fk;simp only[hp];rfl
 have h:=a.state ops;rw[e]at h⊢;exact⟨DD a.v,DD a.c,h.k,h.st,h.k0⟩
theorem VY(q:Dq F G h L ops t R)(w:ops.length<9223372036854775808){n:Nat}(hn:Sm t.s n)(ae:n<900)
  (H:∀F' h' R',(∀l,F l->F' l)->Kp F (gm G L.mb) h h'->Dq F' G h' L ops {t with s:=row ops t.s} R'->Sm (row ops t.s) (n+6)->Q (.tuple []) h') :
  cP CS iR [.ptr L.na 0,.ptr L.lu 0,.ptr L.gR 0,.ptr L.vV 0,.ptr L.Ox 0] h Q:=by
 refine zs rfl rfl ?_;unfold rk;refine ec q.sq ?_;show cP CS eJ [.I ((6:Nat):Int),.ptr L.mb 0,.ptr L.lr 0] h _;refine tJ q (by decide) (by decide) w λh0 k0 q0=>?_;have hr:(draw ops t.s.pos 6).1<6:=by simp_all[tH]
 refine iA (n:=1) (by decide) (by omega) ?_
 refine xe (λk O P S T U W h'=>∃(F':Nat->Prop) (R':Rw) (s:Ds),O = .ptr L.na 0/\P = .ptr L.lu 0/\S = .ptr L.gR 0/\T = .ptr L.vV 0/\U = .ptr L.Ox 0/\W = .I (k:Nat)/\(∀l,F l->F' l)/\
  Kp F (gm G L.mb) h h'/\Dq F' G h' L ops {t with s:=s} R'/\rows ops k s=row ops t.s/\∃m,Sm s m/\m+k<=n+6) ?_
  ⟨F,R,(num ops t.s 6).2,rfl,rfl,rfl,rfl,rfl,rfl,λ_ h=>h,k0,q0,rfl,n,hn.num 6,by omega⟩
 rintro k O P S T U W h' ⟨r,R1,s,rfl,rfl,rfl,rfl,rfl,rfl,J,X,B,p,m,K,ag⟩;unfold pA;refine ec (by rw[my]) ?_;have lv:=B.D.ov.len;have eA:jq (.bool (decide ((0:Int)<(k:Nat)))) (oB (fI 2 (.ptr L.lu 0)) λaa=>oB (en aa h') λab=>oB (fF ab) λac=>ef .lss 3 ac (V.I 200))=some (.bool (decide ((0:Int)<(k:Nat))&&decide (((s.ee.length:Nat):Int)<200))):=by
  simp only[fH,eQ,EM,B.D.Qi,lv,jo,ir]
 refine ec eA (je ?_)
 cases k with
 | zero=>
   refine gB (by simp) ?_;rw[O9]at p
   refine H r h' R1 J X (by simp_all) (by rw[<-p];exact K.le (by omega))
 | succ k=>
   by_cases IX:s.ee.length<200;rotate_left
   ·refine gB (by simp;omega) ?_
    rw[O4 _ _ _ IX]at p;refine H r h' R1 J X (by simp_all) (by rw[<-p];exact K.le (by omega))
   refine gU (by simp;omega) ?_;have C:rows ops k (rX ops s)=row ops t.s:=by rw[<-p,O5 _ _ _ IX]
   clear p eA;refine ec B.D.w9 (ec B.sq (ec B.D.w9 (ec B.D.ok.len ?_)));show cP CS eJ [.I (s.known.length:Nat),.ptr L.mb 0,.ptr L.lr 0] h' _;refine Iq B w K (by omega) λh2 l o k2 E _ i1 I=>⟨k2.next,ec i1 (ec I ⟨E.D.w9,?_⟩)⟩
   have I:True:=trivial;refine ec E.D.w9 (ec E.sq (ec E.D.w9 (ec E.D.ok.len ?_)));show cP CS eJ [.I ((fu ops s).2.known.length:Nat),.ptr L.mb 0,.ptr L.lr 0] h2 _;refine Iq E w K.one (by omega) λh3 l' o' k3 Y _ j1 j2=>⟨k3.next,ec j1 (ec j2 ⟨Y.D.w9,?_⟩)⟩
   refine ec Y.sq ?_;show cP CS eJ [.I ((20:Nat):Int),.ptr L.mb 0,.ptr L.lr 0] h3 _;refine tJ Y (by decide) (by decide) w λA k4 d=>?_;have d:Dq r G A L ops {t with s:=(num ops (fu ops (fu ops s).2).2 20).2} R1:=d;have j:Sm (num ops (fu ops (fu ops s).2).2 20).2 m:=K.one.one.num 20;have kk:Kp F (gm G L.mb) h A:=((X.trans k2 J).trans k3 J).trans k4 J;have x:rX ops s=qR ops (num ops (fu ops (fu ops s).2).2 20).2 (num ops (fu ops (fu ops s).2).2 20).1 (fu ops s).1 (fu ops (fu ops s).2).1:=rfl;rw[x]at C;have ek:(draw ops ({t with s:=(fu ops ({t with s:=(fu ops ({t with s:=s}:Dt).s).2}:Dt).s).2}:Dt).s.pos 20).1=(num ops (fu ops (fu ops s).2).2 20).1:=rfl;rw[ek];clear ek;have ah:(num ops (fu ops (fu ops s).2).2 20).1<20:=tH _ _ (by decide);generalize (num ops (fu ops (fu ops s).2).2 20).2=f at*;generalize (num ops (fu ops (fu ops s).2).2 20).1=kd at*;have ea:(fu ops ({t with s:=s}:Dt).s).1=(fu ops s).1:=rfl;have eb:(fu ops ({t with s:=(fu ops ({t with s:=s}:Dt).s).2}:Dt).s).1=(fu ops (fu ops s).2).1:=rfl;rw[ea,eb];generalize (fu ops s).1=a at*;generalize (fu ops (fu ops s).2).1=b at*;clear Y E B X k2 k3 k4 j1 j2 lv x
   have fin:∀(Z:Nat->Prop) (e:Hp) (R2:Rw) (M:Ds),(∀l,r l->Z l)->Kp r (gm G L.mb) A e->Dq Z G e L ops {t with s:=M} R2->M=qR ops f kd a b->Sm M (m+1)->
       fU CS Q (λO P S T U W hh=>∃k',k' < k+1/\∃(F':Nat->Prop) (R':Rw) (s:Ds),O = .ptr L.na 0/\P = .ptr L.lu 0/\S = .ptr L.gR 0/\T = .ptr L.vV 0/\U = .ptr L.Ox 0/\W = .I (k':Nat)/\(∀l,F l->F' l)/\
         Kp F (gm G L.mb) h hh/\Dq F' G hh L ops {t with s:=s} R'/\rows ops k' s=row ops t.s/\∃m,Sm s m/\m+k'<=n+6) (.ptr L.na 0) (.ptr L.lu 0) (.ptr L.gR 0) (.ptr L.vV 0) (.ptr L.Ox 0) (.I ((k+1:Nat):Int)) e:=by
     intro Z e R2 M ai g c e5 m5;refine xl ?_;unfold oJ;refine tM (by omega) (by omega) ?_;exact⟨k,by omega,Z,R2,M,rfl,rfl,rfl,rfl,rfl,rfl,by simp_all,kk.trans g J,c,by simp_all,m+1,m5,by omega⟩
   by_cases c0:kd<12
   ·refine hV ?_
    refine ec d.D.w9 (ec d.mO (iA (n:=3) (by decide) (by omega) ?_));have eP:∀o:Nat,fG [(V.I 0),(V.I 0),(V.I 0),(V.I 0),V.ed,(V.I 0)] [(0,1),(1,1),(2,1),(3,1),(4,1),(5,1)] [(0,.I (o:Nat)),(1,.I (a:Nat)),(2,.I (b:Nat))]=some (.agg (qT (vl o a b 0 [] 0) .ed)):=λ_=>rfl;refine ec (eP _) ?_;exact BQ d j (by omega) ⟨_,rfl,.nil⟩ λe R5 g c=>fin r e R5 _ (by simp_all) (g.gm _) c (by simp_all[qR,if_pos]) (j.gX _)
   refine jG ?_;by_cases c1:kd=12
   ·refine hH (gU (by omega) ?_)
    refine ec d.D.w9 (ec d.mO (ec d.sq ?_));show cP CS eJ [.I ((1048576:Nat):Int),.ptr L.mb 0,.ptr L.lr 0] A _;refine tJ d (by decide) (by decide) w λe g c=>⟨g.next,?_⟩
    have c:Dq r G e L ops {t with s:=(num ops f 1048576).2} R1:=c;have hd:(draw ops f.pos 1048576).1<1048576:=by simp_all[tH]
    have ew:jt .i64 (((draw ops f.pos 1048576).1:Int)-9)=((draw ops f.pos 1048576).1:Int)-9:=by grind[iO,Fb]
    refine ec (by rw[iy]) ?_;rw[show(jt .i64 (((draw ops ({t with s:=f}:Dt).s.pos 1048576).1:Int)-9))=((draw ops f.pos 1048576).1:Int)-9 from ew];have eP:∀i:Int,fG [(V.I 0),(V.I 0),(V.I 0),(V.I 0),V.ed,(V.I 0)] [(0,1),(1,1),(2,1),(3,1),(4,1),(5,1)] [(0,(V.I 2)),(3,.I i)]=some (.agg (qT (vl 2 0 0 i [] 0) .ed)):=λ_=>rfl;refine ec (eP _) ⟨c.mO,c.D.w9,?_⟩;exact BQ c (j.num _) (by omega) ⟨_,rfl,.nil⟩ λy R6 u v=>fin r y R6 _ (by simp_all) (g.trans (u.gm _) λ_ h=>h) v (by unfold qR;rw[if_neg c0,if_pos c1];rfl) ((j.num _).gX _)
   refine hH (gB (by omega) ?_);by_cases c2:kd=13
   ·refine hH (gU (by omega) ?_)
    refine ec d.D.w9 (ec d.mO (ec d.sq ?_));show cP CS eJ [.I ((5:Nat):Int),.ptr L.mb 0,.ptr L.lr 0] A _;refine tJ d (by decide) (by decide) w λe g c=>⟨g.next,?_⟩
    have c:Dq r G e L ops {t with s:=(num ops f 5).2} R1:=c;have eP:∀n:Nat,fG [(V.I 0),(V.I 0),(V.I 0),(V.I 0),V.ed,(V.I 0)] [(0,1),(1,1),(2,1),(3,1),(4,1),(5,1)] [(0,(V.I 17)),(1,.I (a:Nat)),(3,.I (n:Nat))]=some (.agg (qT (vl 17 a 0 (n:Nat) [] 0) .ed)):=λ_=>rfl;refine ec (eP _) ⟨c.mO,c.D.w9,?_⟩;exact BQ c (j.num _) (by omega) ⟨_,rfl,.nil⟩ λy R6 u v=>fin r y R6 _ (by simp_all) (g.trans (u.gm _) λ_ h=>h) v (by unfold qR;rw[if_neg c0,if_neg c1,if_pos c2];rfl) ((j.num _).gX _)
   refine hH (gB (by omega) ?_);by_cases c3:kd=14
   ·refine hH (gU (by omega) ?_)
    refine ec d.D.w9 (ec d.mO ?_);have eP:fG [(V.I 0),(V.I 0),(V.I 0),(V.I 0),V.ed,(V.I 0)] [(0,1),(1,1),(2,1),(3,1),(4,1),(5,1)] [(0,(V.I 18)),(1,.I (a:Nat)),(2,.I (b:Nat))]=some (.agg (qT (vl 18 a b 0 [] 0) .ed)):=rfl;refine ec eP ?_;exact BQ d j (by omega) ⟨_,rfl,.nil⟩ λe R5 g c=>fin r e R5 _ (by simp_all) (g.gm _) c (by simp_all[qR,if_neg,if_pos]) (j.gX _)
   refine hH (gB (by omega) ?_);by_cases c4:kd=15
   ·refine hH (gU (by omega) ?_)
    refine ec d.mO (ec d.sq ?_);show cP CS eJ [.I ((5:Nat):Int),.ptr L.mb 0,.ptr L.lr 0] A _;refine tJ d (by decide) (by decide) w λe g c=>⟨g.next,?_⟩
    have c:Dq r G e L ops {t with s:=(num ops f 5).2} R1:=c;have eP:∀n:Nat,fG [(V.I 0),(V.I 0),(V.I 0),(V.I 0),V.ed,(V.I 0)] [(0,1),(1,1),(2,1),(3,1),(4,1),(5,1)] [(0,(V.I 19)),(1,.I (a:Nat)),(3,.I (n:Nat)),(2,.I (b:Nat))]=some (.agg (qT (vl 19 a b (n:Nat) [] 0) .ed)):=λ_=>rfl;refine ec (eP _) ⟨c.mO,?_⟩;refine Ep c (j.num _) (by omega) ⟨_,rfl,.nil⟩ λy R6 u _ v=>⟨u.next,?_⟩
    exact fin r y R6 _ (by simp_all) (g.trans (u.gm _) λ_ h=>h) v (by unfold qR;rw[if_neg c0,if_neg c1,if_neg c2,if_neg c3,if_pos c4];rfl) ((j.num _).put _)
   refine hH (gB (by omega) ?_);by_cases c5:kd=16
   ·refine hH (gU (by omega) ?_)
    refine ec d.mO (ec d.D.w9 (ec d.sq (ec d.D.w9 (ec d.D.ok.len ?_))));show cP CS eJ [.I (f.known.length:Nat),.ptr L.mb 0,.ptr L.lr 0] A _;refine Iq d w j (by omega) λe l o g c hl i1 I=>⟨g.next,ec i1 (ec I ?_)⟩
    have c:Dq r G e L ops {t with s:=(fu ops f).2} R1:=c;have I:en (.ptr l o) e=some (.I ((fu ops f).1:Nat)):=I;have e3:ju 3 1 1 (V.I 0) [(0,V.I ((fu ops f).1:Nat))]=some (.cells 3 1 true false [V.I ((fu ops f).1:Nat)],λl=> .slice l 0 1):=rfl;show uN (ju 3 1 1 (V.I 0) [(0,V.I ((fu ops f).1:Nat))]) e _;rw[e3,ij];have eP:∀n:Nat,fG [(V.I 0),(V.I 0),(V.I 0),(V.I 0),V.ed,(V.I 0)] [(0,1),(1,1),(2,1),(3,1),(4,1),(5,1)] [(0,(V.I 20)),(1,.I (a:Nat)),(2,.I (b:Nat)),(4,.slice n 0 1)]=some (.agg (qT (vl 20 a b 0 [(fu ops f).1] 0) (.slice n 0 1))):=λ_=>rfl;have D6:=c.D.new (.cells 3 1 true false [V.I ((fu ops f).1:Nat)]);have u:=c.D.vH (.cells 3 1 true false [V.I ((fu ops f).1:Nat)]);have v:=c.step u D6 (nf _ _) c.gl c.hq rfl;have g6:(e.new (.cells 3 1 true false [V.I ((fu ops f).1:Nat)])).get e.next=_:=ez _ _;refine ec (eP _) ⟨by simp_all,mN I (eR _ hl),D6.w9,v.mO,?_⟩
    have hs:iL eN (fz r e.next) (e.new (.cells 3 1 true false [V.I ((fu ops f).1:Nat)])) [(fu ops f).1] (.slice e.next 0 1):=
      .inr ⟨e.next,0,3,true,false,[V.I ((fu ops f).1:Nat)],rfl,.inr rfl,g6,.inr rfl,GM _,⟨_,[],rfl,rfl,trivial⟩⟩
    refine Ep v (j.one) (by omega) ⟨_,rfl,hs⟩ λh7 R7 k7 _ q7=>⟨k7.next,?_⟩
    exact fin (fz r e.next) h7 R7 _ (nf _ _) ((g.trans (u.gm _) λ_ h=>h).trans (k7.gm _) (nf _ _)) q7 (by simp_all[qR,if_neg,if_pos]) (j.one.put _)
   refine hH (gB (by omega) ?_);by_cases c6:kd=17
   ·refine hH (gU (by omega) ?_)
    refine ec d.mO (ec d.DM ?_);show cP CS fM [.ptr L.lu 0,.ptr L.na 0,.ptr L.gR 0] A _;refine HM d j.k0 (by have:=j.k;grind) (by have:=j.st;grind) w λN e R5 z g c _=>⟨g.next,?_⟩
    have c:Dq N G e L ops {t with s:=(fk ops f).2} R5:=c;have eP:∀n:Nat,fG [(V.I 0),(V.I 0),(V.I 0),(V.I 0),V.ed,(V.I 0)] [(0,1),(1,1),(2,1),(3,1),(4,1),(5,1)] [(0,(V.I 22)),(1,.I (a:Nat)),(5,.I (n:Nat))]=some (.agg (qT (vl 22 a 0 0 [] n) .ed)):=λ_=>rfl;refine ec (eP _) ⟨c.mO,?_⟩;refine Ep c (j.state ops) (by omega) ⟨_,rfl,.nil⟩ λy R6 u _ v=>⟨u.next,?_⟩
    exact fin N y R6 _ z (g.trans (u.gm _) z) v (by simp_all[qR,if_neg,if_pos]) (W7 j ops _)
   refine hH (gB (by omega) ?_);by_cases c7:kd=18
   ·refine hH (gU (by omega) ?_)
    refine ec d.mO (ec d.DM ?_);show cP CS fM [.ptr L.lu 0,.ptr L.na 0,.ptr L.gR 0] A _;refine HM d j.k0 (by have:=j.k;grind) (by have:=j.st;grind) w λN e R5 z g c _=>⟨g.next,?_⟩
    have c:Dq N G e L ops {t with s:=(fk ops f).2} R5:=c;have eP:∀n:Nat,fG [(V.I 0),(V.I 0),(V.I 0),(V.I 0),V.ed,(V.I 0)] [(0,1),(1,1),(2,1),(3,1),(4,1),(5,1)] [(0,(V.I 23)),(5,.I (n:Nat))]=some (.agg (qT (vl 23 0 0 0 [] n) .ed)):=λ_=>rfl;refine ec (eP _) ⟨c.mO,?_⟩;refine Ep c (j.state ops) (by omega) ⟨_,rfl,.nil⟩ λy R6 u _ v=>⟨u.next,?_⟩
    exact fin N y R6 _ z (g.trans (u.gm _) z) v (by simp_all[qR,if_neg,if_pos]) (W7 j ops _)
   refine hH (gB (by omega) ?_);refine ec d.D.w9 (ec d.mO (ec d.sq ?_));show cP CS eJ [.I ((2:Nat):Int),.ptr L.mb 0,.ptr L.lr 0] A _;refine tJ d (by decide) (by decide) w λe g c=>⟨g.next,?_⟩
   have c:Dq r G e L ops {t with s:=(num ops f 2).2} R1:=c;have hd:(draw ops f.pos 2).1<2:=by simp_all[tH]
   refine iA (n:=15) (by decide) (by grind) ?_;have eP:∀o:Nat,fG [(V.I 0),(V.I 0),(V.I 0),(V.I 0),V.ed,(V.I 0)] [(0,1),(1,1),(2,1),(3,1),(4,1),(5,1)] [(0,.I (o:Nat)),(1,.I (a:Nat))]=some (.agg (qT (vl o a 0 0 [] 0) .ed)):=λ_=>rfl;refine ec (eP _) ⟨c.mO,c.D.w9,?_⟩;exact BQ c (j.num _) (by omega) ⟨_,rfl,.nil⟩ λy R6 u v=>fin r y R6 _ (by simp_all) (g.trans (u.gm _) λ_ h=>h) v (by unfold qR;rw[if_neg c0,if_neg c1,if_neg c2,if_neg c3,if_neg c4,if_neg c5,if_neg c6,if_neg c7];rfl) ((j.num _).gX _)
end
open Un
structure Cu (s a:Ds):Prop where
 k:∃l,a.known=s.known++l
 v:∃l,a.ee=s.ee++l
theorem Cu.refl(s:Ds):Cu s s:=⟨by simp_all,by simp_all⟩
theorem Cu.trans{s d c:Ds}(a:Cu s d)(b:Cu d c):Cu s c:=by
 let⟨⟨e,f⟩,⟨g,h⟩⟩:=a
 let⟨⟨i,j⟩,⟨k,l⟩⟩:=b
 exact⟨by simp_all,by simp_all⟩
theorem Cu.kl{s b:Ds}(a:Cu s b):s.known.length<=b.known.length:=by
 let⟨⟨c,d⟩,_⟩:=a
 simp_all
theorem Ga(ops:List Int)(s:Ds):Cu s (fk ops s).2:=by
 let⟨p,hp⟩:=BD ops (num ops s 4).1 (num ops s 4).2 []
 unfold fk;simp[hp];exact⟨by simp_all[num],by simp_all[num]⟩
theorem Bq(s:Ds)(x:Vl):Cu s (gX s x):=⟨⟨_,rfl⟩,⟨_,rfl⟩⟩
theorem GV(s:Ds)(x:Vl):Cu s (put s x):=⟨by simp_all[put],⟨_,rfl⟩⟩
theorem BT(ops:List Int)(s:Ds)(m:Nat):Cu s (num ops s m).2:=⟨by simp_all[num],by simp_all[num]⟩
theorem Kw(ops:List Int)(s:Ds):Cu s (fu ops s).2:=⟨by simp_all[fu],by simp_all[fu]⟩
theorem RL(ops:List Int)(s:Ds)(k a b:Nat):Cu s (qR ops s k a b):=by
 unfold qR;split
 ·grind[Bq]
 split
 ·exact(BT _ _ _).trans (Bq _ _)
 split
 ·exact(BT _ _ _).trans (Bq _ _)
 split
 ·grind[Bq]
 split
 ·exact(BT _ _ _).trans (GV _ _)
 split
 ·exact(Kw _ _).trans (GV _ _)
 split
 ·exact(Ga _ _).trans (GV _ _)
 split
 ·exact(Ga _ _).trans (GV _ _)
 ·exact(BT _ _ _).trans (Bq _ _)
theorem LX(ops:List Int):∀i s,Cu s (rows ops i s)
 |0,s=> .refl s
 | i+1,s=>by
   unfold rows;split
   ·exact(((Kw ops s).trans (Kw ops _)).trans ((BT ops _ 20).trans (RL _ _ _ _ _))).trans (LX ops i _)
   ·exact .refl s
theorem BJ(ops:List Int)(s:Ds):Cu s (row ops s):=(BT ops s 6).trans (LX ops _ _)
def Fc(L:Lc):V:= .func iR [] [.ptr L.na 0,.ptr L.lu 0,.ptr L.gR 0,.ptr L.vV 0,.ptr L.Ox 0]
def DR(L:Lc):V:= .func jC [] [.ptr L.iX 0,.ptr L.lu 0]
def mc(xs:List Nat):List V:=xs.map λn=> .I (n:Nat)
section
variable{F F' G G':Nat->Prop}{h h':Hp}{L:Lc}{ops:List Int}{t t':Dt}{R R':Rw}{Q:fm}
theorem Bd(q:Dq F G h L ops t R)(xs:List Nat):Dq (fz F h.next) G (h.new (.cells 3 1 true false (mc xs))) L ops t R/\iL eN (fz F h.next) (h.new (.cells 3 1 true false (mc xs))) xs (.slice h.next 0 xs.length)/\Kp F G h (h.new (.cells 3 1 true false (mc xs))):=by
 have k:=q.D.vH (.cells 3 1 true false (mc xs));exact⟨q.step k (q.D.new _) (nf _ _) q.gl q.hq rfl,.inr ⟨h.next,0,3,true,false,mc xs,rfl,.inr rfl,ez _ _,.inr rfl,GM _,ux _ _ xs⟩,k⟩
theorem um(q:Dq F G h L ops t R)(xs:List Nat){ps:Option (O×(Nat->V))}(d:ps=some (O.cells 3 1 true false (mc xs),λl=> .slice l 0 xs.length)){K:Hp->Prop}
  (H:∀F' h' R',(∀l,F l->F' l)->Kp F G h h'->Dq F' G h' L ops {t with ft:=xs} R'->K h') :
  iQ ps h λv e=>oP (fI 4 (.ptr L.iX 0)) λf=>fi (gW 1 f v e) λ_ g=>K g:=by
 subst d
 let⟨a,s1,i⟩:=Bd q xs
 rw[fJ,fH,gZ];have e1:=mg (o:=4) (mG:=[R.cc,.I 0,.I 0,.ed,.slice h.next 0 xs.length,.I 0]) a.D.gb (by simp) rfl rfl
 let⟨b,D2⟩:=a.D.UB (c:=R.cc) s1
 rw[ e1];exact H _ _ _ (nf _ _) (i.trans b (nf _ _)) (a.step b D2 (by simp_all) q.gl a.hq rfl)
theorem MY(q:Dq F G h L ops t R)(e:t.blocks.length<1000)(b:Bk){w nv:V}(f:w = .agg (lC b .ed nv .ed))(a:b.ee=[])(c:b.ft=[])(d:iL eN F h b.next nv){K:fm}
  (H:∀F' h' R',(∀l,F l->F' l)->Kp F G h h'->Dq F' G h' L ops {s:={t.s with cur:=[]},blocks:=t.blocks++[⟨t.s.cur,b.fin,b.cond,b.next,t.ft,b.state⟩],ft:=[]} R'->K (.I t.blocks.length) h') :
  gv CS (fQ (DR L) [w]) h K:=by
 subst f;exact V8 (n:=0) q e a c d H
theorem Bx(q:Dq F G h L ops t R)(b:ops.length<9223372036854775808){n:Nat}(c:Sm t.s n)(a:n<900){K:fm}
  (H:∀F' h' R',(∀l,F l->F' l)->Kp F (gm G L.mb) h h'->Dq F' G h' L ops {t with s:=row ops t.s} R'->Sm (row ops t.s) (n+6)->K (.tuple []) h') :
  gv CS (fQ (Fc L) []) h K:=VY q b c a H
theorem N9(q:Dq F G h L ops t R)(c:0<t.s.known.length)(d:t.s.known.length<1000){K:V->Prop}(H:K (.I (t.s.known.getLastD 0:Nat))) :
  oP (en (.ptr L.gR 0) h) λa=>oP (en (.ptr L.gR 0) h) λb=>oP (fF b) λn=>oP (ef .sub 3 n (.I 1)) λi=>oP (gy 1 a i) λp=>oP (en p h) K:=by
 let⟨l,o,_,_,e,f⟩:=q.BI (i:=t.s.known.length-1) (by omega)
 refine ec q.D.w9 (ec q.D.w9 (ec q.D.ok.len (tM (by omega) c (ec e (ec f ?_)))))
 grind
theorem J4(q:Dq F G h L ops t R){m:Nat}(c:m<=t.s.known.length){K:Hp->Prop}(H:∀h' R',Kp F G h h'->Dq F G h' L ops {t with s:=cut m t.s} R'->K h') :
  oP (en (.ptr L.gR 0) h) λa=>oP (iZ 1 a none (some (.I m)) h) λs=>fi (gW 1 (.ptr L.gR 0) s h) λ_ b=>K b:=by
 let⟨v',b,e1,e2,_,k,D2⟩:=q.D.Y9 c
 refine ec q.D.w9 (ec e1 ?_);rw[e2,ej];exact H _ _ k (q.step k D2 (by simp_all) q.gl q.hq rfl)
theorem Nd(q:Dq F G h L ops t R)(j:ops.length<9223372036854775808){n:Nat}(k:Sm t.s n)(d:n<1000){K:fm}
  (H:∀h',Kp F (gm G L.mb) h h'->Dq F G h' L ops {t with s:=(fu ops t.s).2} R->K (.I ((fu ops t.s).1:Nat)) h') :
  oP (en (.ptr L.gR 0) h) λa=>oP (en (.ptr L.na 0) h) λf=>oP (en (.ptr L.gR 0) h) λb=>oP (fF b) λn=>gv CS (fQ f [n]) h λi c=>(h.next<=c.next/\oP (gy 1 a i) λp=>oP (en p c) λv=>((en (.ptr L.gR 0) c=some a)/\K v c)):=by
 refine ec q.D.w9 (ec q.sq (ec q.D.w9 (ec q.D.ok.len ?_)));show cP CS eJ [.I t.s.known.length,.ptr L.mb 0,.ptr L.lr 0] h _;exact Iq q j k d λc l o e g _ m r=>⟨e.next,ec m (ec r ⟨g.D.w9,H _ e g⟩)⟩
theorem Ib(q:Dq F G h L ops t R)(e:ops.length<9223372036854775808){n:Nat}(d:Sm t.s n)(f:n<999){K:fm}
  (H:∀F' h' R',(∀l,F l->F' l)->Kp F (gm G L.mb) h h'->Dq F' G h' L ops {t with s:=(fk ops t.s).2} R'->Sm (fk ops t.s).2 (n+1)->K (.I ((fk ops t.s).1:Nat)) h') :
  gv CS (fQ (M4 L) []) h K:=by
 show cP CS fM [.ptr L.lu 0,.ptr L.na 0,.ptr L.gR 0] h _;have g:=d.k;have i:=d.st;exact HM q d.k0 (by omega) (by omega) e λF' h' R' a b c _=>H F' h' R' a b c (d.state ops)
theorem Sm.end_{t:Dt}{n:Nat}(a:Sm t.s n)(f c:Nat)(nx:List Nat)(s:Nat)(p:List Nat):Sm (Un.end_ t f c nx s p).s n:=⟨a.v,GM _,a.k,a.st,a.k0⟩
theorem Sm.cut{s:Ds}{n m:Nat}(a:Sm s n)(h0:0<m)(b:m<=s.known.length):Sm (Un.cut m s) n:=
 ⟨a.v,a.c,by show(s.known.take m).length<=n;rw[MI];have:=a.k;omega,a.st,by show 0<(s.known.take m).length;simp_all⟩
theorem Sm.setArgs{s:Ds}{n:Nat}(a:Sm s n)(v:Nat)(l:List Nat):Sm (Un.setArgs s v l) n:=⟨by rw[(zq s v l).1];exact a.v,a.c,a.k,a.st,a.k0⟩
theorem zt(q:Dq F G h L ops t R)(d:t.blocks.length<1000)(fin cond:Nat)(nx:List Nat)(state:Nat){ps:Option (O×(Nat->V))}(e:ps=some (O.cells 3 1 true false (mc nx),λl=> .slice l 0 nx.length)){B:V->Option V}
  (f:∀m,B (.slice m 0 nx.length)=some (.agg (lC ⟨[],fin,cond,nx,[],state⟩ .ed (.slice m 0 nx.length) .ed))) {K:fm}
  (H:∀F' h' R',(∀l,F l->F' l)->Kp F G h h'->Dq F' G h' L ops {s:={t.s with cur:=[]},blocks:=t.blocks++[⟨t.s.cur,fin,cond,nx,t.ft,state⟩],ft:=[]} R'->K (.I t.blocks.length) h') :
  iQ ps h λv g=>oP (B v) λw=>gv CS (fQ (DR L) [w]) g K:=by
 subst e
 let⟨i,s1,j⟩:=Bd q nx
 rw[fJ];refine ec (f _) ?_;exact MY i d ⟨[],fin,cond,nx,[],state⟩ rfl rfl rfl s1 λF' h' R' a b c=>H F' h' R' (by grind[nf]) (j.trans b (nf _ _)) c
end
open Un
section
variable{F F' G G':Nat->Prop}{h h':Hp}{L:Lc}{ops:List Int}{t t':Dt}{R R':Rw}{Q:fm}
theorem Qj(q:Dq F G h L ops t R){t':Dt}(e:t=t'):Dq F G h L ops t' R:=e▸q
theorem ZL{F F' G:Nat->Prop}{h h' b:Hp}{a:Nat}(x:Kp F (gm G a) h h')(y:Kp F' G h' b)(c:∀l,F l->F' l):Kp F (gm G a) h b:=x.trans (y.gm a) c
theorem Td(q:Dq F G h L ops t R)(ho:ops.length<9223372036854775808){n:Nat}(hn:Sm t.s n)(b4:n<800)(hb:t.blocks.length<900){K:Hp->Prop}
  (H:∀F' h' R',(∀l,F l->F' l)->Kp F (gm G L.mb) h h'->Dq F' G h' L ops (fork ops t) R'->Sm (fork ops t).s (n+30)->K h') :
  oP (en (.ptr L.gR 0) h) λp=>
  oP (en (.ptr L.na 0) h) λW=>
  oP (en (.ptr L.gR 0) h) λX=>
  oP (fF X) λY=>
  gv CS (fQ W [Y]) h λZ r=>
  (h.next<=r.next/\
  oP (gy 1 p Z) λaa=>
  oP (en aa r) λab=>
  ((en (.ptr L.gR 0) r=some p)/\
  oP (en (.ptr L.gR 0) r) λac=>
  oP (fF ac) λu=>
  oP (fI 3 (.ptr L.lu 0)) λae=>
  oP (en ae r) λag=>
  oP (fF ag) λah=>
  oP (ef .add 3 ah (V.I 1)) λai=>
  oP (fI 3 (.ptr L.lu 0)) λaj=>
  oP (en aj r) λak=>
  oP (fF ak) λal=>
  oP (ef .add 3 al (V.I 2)) λam=>
  iQ (ju 3 1 2 (V.I 0) [(0,ai),(1,am)]) r λan h3=>
  oP (fG [V.ed,(V.I 0),(V.I 0),V.ed,V.ed,(V.I 0)] [(0,1),(1,1),(2,1),(3,1),(4,1),(5,1)] [(1,(V.I 2)),(2,ab),(3,an)]) λao=>
  gv CS (fQ (DR L) [ao]) h3 λv h4=>
  iQ (ju 3 1 1 (V.I 0) [(0,v)]) h4 λaq h5=>
  oP (fI 4 (.ptr L.iX 0)) λar=>
  fi (gW 1 ar aq h5) λvu h6=>
  gv CS (fQ (Fc L) []) h6 λbR y=>
  oP (en (.ptr L.gR 0) y) λau=>
  oP (en (.ptr L.gR 0) y) λaw=>
  oP (fF aw) λax=>
  oP (ef .sub 3 ax (V.I 1)) λay=>
  oP (gy 1 au ay) λaz=>
  oP (en az y) λaA=>
  oP (en (.ptr L.gR 0) y) λaB=>
  oP (iZ 1 aB none (some u) y) λaC=>
  fi (gW 1 (.ptr L.gR 0) aC y) λbS h8=>
  oP (fI 3 (.ptr L.lu 0)) λaD=>
  oP (en aD h8) λaE=>
  oP (fF aE) λaF=>
  oP (ef .add 3 aF (V.I 2)) λaG=>
  iQ (ju 3 1 1 (V.I 0) [(0,aG)]) h8 λaH h9=>
  oP (fG [V.ed,(V.I 0),(V.I 0),V.ed,V.ed,(V.I 0)] [(0,1),(1,1),(2,1),(3,1),(4,1),(5,1)] [(1,(V.I 1)),(3,aH)]) λaI=>
  gv CS (fQ (DR L) [aI]) h9 λaJ aK=>
  iQ (ju 3 1 1 (V.I 0) [(0,v)]) aK λaL bi=>
  oP (fI 4 (.ptr L.iX 0)) λaM=>
  fi (gW 1 aM aL bi) λbU aN=>
  gv CS (fQ (Fc L) []) aN λbV b=>
  oP (en (.ptr L.gR 0) b) λaO=>
  oP (en (.ptr L.gR 0) b) λaP=>
  oP (fF aP) λaQ=>
  oP (ef .sub 3 aQ (V.I 1)) λaR=>
  oP (gy 1 aO aR) λaS=>
  oP (en aS b) λaT=>
  oP (en (.ptr L.gR 0) b) λaU=>
  oP (iZ 1 aU none (some u) b) λaV=>
  fi (gW 1 (.ptr L.gR 0) aV b) λbW z=>
  oP (fI 3 (.ptr L.lu 0)) λaW=>
  oP (en aW z) λaX=>
  oP (fF aX) λaY=>
  oP (ef .add 3 aY (V.I 1)) λaZ=>
  iQ (ju 3 1 1 (V.I 0) [(0,aZ)]) z λa0 bj=>
  oP (fG [V.ed,(V.I 0),(V.I 0),V.ed,V.ed,(V.I 0)] [(0,1),(1,1),(2,1),(3,1),(4,1),(5,1)] [(1,(V.I 1)),(3,a0)]) λa1=>
  gv CS (fQ (DR L) [a1]) bj λa2 a3=>
  iQ (ju 3 1 2 (V.I 0) [(0,aJ),(1,a2)]) a3 λa4 bm=>
  oP (fI 4 (.ptr L.iX 0)) λa5=>
  fi (gW 1 a5 a4 bm) λbX a=>
  oP (en (.ptr L.gR 0) a) λe=>
  oP (en (.ptr L.vV 0) a) λw=>
  uN (ju 3 1 2 (V.I 0) [(0,aA),(1,aT)]) a λo4 a6 d=>
  oP (fG [(V.I 0),(V.I 0),(V.I 0),(V.I 0),V.ed,(V.I 0)] [(0,1),(1,1),(2,1),(3,1),(4,1),(5,1)] [(0,(V.I 21)),(4,a6)]) λa7=>
  ((d.get (a.next)=some o4/\O.beq o4 o4=true)/\
  ((en (.ptr L.vV 0) d=some w)/\
  ((en (.ptr L.gR 0) d=some e)/\
  gv CS (fQ w [a7]) d λa8 A=>
  (d.next<=A.next/\
  uN (ju 3 1 1 (V.I 0) [(0,a8)]) A λo7 a9 i=>
  ((i.get (A.next)=some o7/\O.beq o7 o7=true)/\
  ((en (.ptr L.gR 0) i=some e)/\
  fi (fh 3 1 8 e a9 i) λba B=>
  (i.next<=B.next/\
  fi (gW 1 (.ptr L.gR 0) ba B) λbY C=>
  (B.next<=C.next/\
  gv CS (fQ (Fc L) []) C λbZ E=>K E)))))))))):=by
 have bb:=hn.k0;refine Nd q ho hn (by omega) λr k2 I=>?_;refine ec I.D.w9 (ec I.D.ok.len ?_);refine ec (by rfl) (ec I.D.TQ (ec I.D.ob.len (iA (m:=1) (show t.blocks.length<_ by omega) (by omega) ?_)));refine ec (by rfl) (ec I.D.TQ (ec I.D.ob.len (iA (m:=2) (show t.blocks.length<_ by omega) (by omega) ?_)));have n2:Sm (fu ops t.s).2 n:=hn.one;refine zt I (show t.blocks.length<_ by omega) 2 (fu ops t.s).1 [t.blocks.length+1,t.blocks.length+2] 0 rfl (λ_=>rfl) λF4 h4 R4 f4 k4 q4=>?_;refine um q4 [t.blocks.length] rfl λF6 h6 R6 f6 k6 q6=>?_;have q6:=Qj (t':=end_ {t with s:=(fu ops t.s).2} 2 (fu ops t.s).1 [t.blocks.length+1,t.blocks.length+2] 0 [t.blocks.length]) q6 rfl;have n6:Sm (end_ {t with s:=(fu ops t.s).2} 2 (fu ops t.s).1 [t.blocks.length+1,t.blocks.length+2] 0 [t.blocks.length]).s n:=n2.end_ _ _ _ _ _;have J:(end_ {t with s:=(fu ops t.s).2} 2 (fu ops t.s).1 [t.blocks.length+1,t.blocks.length+2] 0 [t.blocks.length]).blocks.length=t.blocks.length+1:=by simp[end_]
 have b5:(end_ {t with s:=(fu ops t.s).2} 2 (fu ops t.s).1 [t.blocks.length+1,t.blocks.length+2] 0 [t.blocks.length]).s.known.length=t.s.known.length:=rfl;have c:fork ops t=fork ops t:=rfl
 conv at c=>rhs;unfold fork
 simp only at c;have el:({t with s:=(fu ops t.s).2}:Dt).s.known.length=t.s.known.length:=rfl;rw[el];have kA:=ZL k2 (k4.trans k6 f4) λ_ h=>h;have fA:∀l,F l->F6 l:=by simp_all
 generalize end_ {t with s:=(fu ops t.s).2} 2 (fu ops t.s).1 [t.blocks.length+1,t.blocks.length+2] 0 [t.blocks.length]=f at*;refine Bx q6 ho n6 (by omega) λF7 y R7 f7 k7 q7 n7=>?_;have x7:=BJ ops f.s;have b6:=x7.kl;generalize row ops f.s=s1 at*;have b7:=n7.k;refine N9 q7 (by grind) (by grind) ?_;refine J4 q7 (by simp_all) λh8 R8 k8 q8=>?_;have n8:=n7.cut bb (by omega);refine ec (by rfl) (ec q8.D.TQ (ec q8.D.ob.len (iA (m:=2) (show f.blocks.length<_ by omega) (by omega) ?_)));refine zt q8 (show f.blocks.length<_ by omega) 1 0 [t.blocks.length+3] 0 (by show ju 3 1 1 (V.I 0) [(0,.I ((f.blocks.length+2:Nat):Int))]=_;rw[J];rfl) (λ_=>rfl) λb8 aK DA b9 bn bo=>?_;refine um bo [t.blocks.length] rfl λbp aN YC ca bq M=>?_;have M:=Qj (t':=end_ {f with s:=cut t.s.known.length s1} 1 0 [t.blocks.length+3] 0 [t.blocks.length]) M rfl;have br:Sm (end_ {f with s:=cut t.s.known.length s1} 1 0 [t.blocks.length+3] 0 [t.blocks.length]).s (n+6):=n8.end_ _ _ _ _ _;have x:(end_ {f with s:=cut t.s.known.length s1} 1 0 [t.blocks.length+3] 0 [t.blocks.length]).blocks.length=t.blocks.length+2:=by simp[end_,J]
 have b1:(end_ {f with s:=cut t.s.known.length s1} 1 0 [t.blocks.length+3] 0 [t.blocks.length]).s.known.length=t.s.known.length:=by
  show(s1.known.take t.s.known.length).length=_;rw[MI];omega
 have bc:=J;rw[bc];have N:({f with s:=s1}:Dt).s.known.getLastD 0=s1.known.getLastD 0:=rfl;rw[N];have kB:=(((kA.trans k7 fA).trans ((k8.gm L.mb).trans (bn.gm L.mb) λ_ h=>h) (by grind)).trans (bq.gm L.mb) (by grind))
 have fB:∀l,F l->bp l:=by grind
 generalize s1.known.getLastD 0=S at*;generalize end_ {f with s:=cut t.s.known.length s1} 1 0 [t.blocks.length+3] 0 [t.blocks.length]=j at*;refine Bx M ho br (by omega) λcb b ZU cd bt bd be=>?_;have bu:=BJ ops j.s;have b2:=bu.kl;generalize row ops j.s=T at*;have b3:=be.k;refine N9 bd (by grind) (by grind) ?_;refine J4 bd (by simp_all) λz YR bv P=>?_;have bw:=be.cut bb (by omega);refine ec (by rfl) (ec P.D.TQ (ec P.D.ob.len (iA (m:=1) (show j.blocks.length<_ by omega) (by omega) ?_)));refine zt P (show j.blocks.length<_ by omega) 1 0 [t.blocks.length+3] 0 (by show ju 3 1 1 (V.I 0) [(0,.I ((j.blocks.length+1:Nat):Int))]=_;rw[x];rfl) (λ_=>rfl) λce a3 cf cg bz bA=>?_;have bf:=x;rw[bf];refine um bA [t.blocks.length+1,t.blocks.length+2] rfl λbC a Xt ci bD g=>?_;have g:=Qj (t':=end_ {j with s:=cut t.s.known.length T} 1 0 [t.blocks.length+3] 0 [t.blocks.length+1,t.blocks.length+2]) g rfl;have bg:Sm (end_ {j with s:=cut t.s.known.length T} 1 0 [t.blocks.length+3] 0 [t.blocks.length+1,t.blocks.length+2]).s (n+12):=(bw.le (by omega)).end_ _ _ _ _ _;have o:({j with s:=T}:Dt).s.known.getLastD 0=T.known.getLastD 0:=rfl;rw[o];have kC:=(((kB.trans bt fB).trans ((bv.gm L.mb).trans (bz.gm L.mb) λ_ h=>h) (by simp_all)).trans (bD.gm L.mb) (by grind))
 have fC:∀l,F l->bC l:=by grind
 generalize T.known.getLastD 0=U at*;generalize end_ {j with s:=cut t.s.known.length T} 1 0 [t.blocks.length+3] 0 [t.blocks.length+1,t.blocks.length+2]=t3 at*;refine ec g.D.w9 (ec g.mO ?_);have e3:ju 3 1 2 (V.I 0) [(0,V.I S),(1,V.I U)]=some (.cells 3 1 true false (mc [S,U]),λl=> .slice l 0 2):=rfl;rw[e3,ij]
 let⟨Q,bE,bG⟩:=Bd g [S,U]
 have cj:(a.new (.cells 3 1 true false (mc [S,U]))).get a.next=_:=ez _ _;have eP:∀n,fG [(V.I 0),(V.I 0),(V.I 0),(V.I 0),V.ed,(V.I 0)] [(0,1),(1,1),(2,1),(3,1),(4,1),(5,1)] [(0,(V.I 21)),(4,.slice n 0 2)]=some (.agg (qT (vl 21 0 0 0 [S,U] 0) (.slice n 0 2))):=λ_=>rfl;refine ec (eP _) ⟨by simp_all,Q.mO,Q.D.w9,?_⟩;generalize a.new (.cells 3 1 true false (mc [S,U]))=d at*;refine BQ Q bg (by omega) ⟨_,rfl,bE⟩ λC cl bH bI=>?_;refine Bx bI ho (bg.gX _) (by omega) λbJ E bK cm bL cn bQ=>?_;refine H bJ E bK (by grind[nf]) ((kC.trans ((bG.gm L.mb).trans (bH.gm L.mb) (nf _ _)) fC).trans bL (by grind[nf])) (by simp_all) ?_;rw[c];exact bQ.le (by omega)
end
open Un
section
variable{F F' G G':Nat->Prop}{h h':Hp}{L:Lc}{ops:List Int}{t t':Dt}{R R':Rw}{Q:fm}
theorem TG(q:Dq F G h L ops t R)(O:ops.length<9223372036854775808){n:Nat}(P:Sm t.s n)(aK:n<800)(hb:t.blocks.length<900){K:Hp->Prop}
  (H:∀F' h' R',(∀l,F l->F' l)->Kp F (gm G L.mb) h h'->Dq F' G h' L ops (wG ops t) R'->Sm (wG ops t).s (n+30)->K h') :
  oP (en (.ptr L.gR 0) h) λg=>
  oP (en (.ptr L.na 0) h) λU=>
  oP (en (.ptr L.gR 0) h) λW=>
  oP (fF W) λX=>
  gv CS (fQ U [X]) h λY a=>
  (h.next<=a.next/\
  oP (gy 1 g Y) λZ=>
  oP (en Z a) λaa=>
  ((en (.ptr L.gR 0) a=some g)/\
  oP (fI 3 (.ptr L.lu 0)) λab=>
  oP (en ab a) λac=>
  oP (fF ac) λae=>
  oP (ef .add 3 ae (V.I 1)) λag=>
  oP (fI 3 (.ptr L.lu 0)) λah=>
  oP (en ah a) λi=>
  oP (fF i) λj=>
  oP (ef .add 3 j (V.I 2)) λo=>
  iQ (ju 3 1 2 (V.I 0) [(0,ag),(1,o)]) a λp ai=>
  oP (fG [V.ed,(V.I 0),(V.I 0),V.ed,V.ed,(V.I 0)] [(0,1),(1,1),(2,1),(3,1),(4,1),(5,1)] [(1,(V.I 2)),(2,aa),(3,p)]) λr=>
  gv CS (fQ (DR L) [r]) ai λb u=>
  oP (en (.ptr L.gR 0) u) λv=>
  oP (fF v) λw=>
  iQ (ju 3 1 1 (V.I 0) [(0,b)]) u λx aj=>
  oP (fI 4 (.ptr L.iX 0)) λy=>
  fi (gW 1 y x aj) λak al=>
  gv CS (fQ (Fc L) []) al λaH z=>
  oP (en (.ptr L.Ox 0) z) λA=>
  gv CS (fQ A []) z λB am=>
  oP (fG [V.ed,(V.I 0),(V.I 0),V.ed,V.ed,(V.I 0)] [(0,1),(1,1),(2,1),(3,1),(4,1),(5,1)] [(1,(V.I 3)),(5,B)]) λC=>
  gv CS (fQ (DR L) [C]) am λaI d=>
  oP (en (.ptr L.gR 0) d) λE=>
  oP (iZ 1 E none (some w) d) λI=>
  fi (gW 1 (.ptr L.gR 0) I d) λan ao=>
  iQ (ju 3 1 1 (V.I 0) [(0,b)]) ao λJ aq=>
  oP (fI 4 (.ptr L.iX 0)) λM=>
  fi (gW 1 M J aq) λar au=>
  gv CS (fQ (Fc L) []) au λaJ aw=>K aw)):=by
 have ax:=P.k0;have hk:=P.k;refine Nd q O P (by omega) λh2 Q f=>?_;refine ec (by rfl) (ec f.D.TQ (ec f.D.ob.len (iA (m:=1) (show t.blocks.length<_ by omega) (by omega) ?_)));refine ec (by rfl) (ec f.D.TQ (ec f.D.ob.len (iA (m:=2) (show t.blocks.length<_ by omega) (by omega) ?_)));have n2:Sm (fu ops t.s).2 n:=P.one;refine zt f (show t.blocks.length<_ by omega) 2 (fu ops t.s).1 [t.blocks.length+1,t.blocks.length+2] 0 rfl (λ_=>rfl) λF4 h4 R4 f4 k4 S=>?_;refine ec S.D.w9 (ec S.D.ok.len ?_);refine um S [t.blocks.length] rfl λF6 h6 R6 f6 k6 q6=>?_;have q6:=Qj (t':=end_ {t with s:=(fu ops t.s).2} 2 (fu ops t.s).1 [t.blocks.length+1,t.blocks.length+2] 0 [t.blocks.length]) q6 rfl;have n6:Sm (end_ {t with s:=(fu ops t.s).2} 2 (fu ops t.s).1 [t.blocks.length+1,t.blocks.length+2] 0 [t.blocks.length]).s n:=n2.end_ (t:={t with s:=(fu ops t.s).2}) _ _ _ _ _;have aL:(end_ {t with s:=(fu ops t.s).2} 2 (fu ops t.s).1 [t.blocks.length+1,t.blocks.length+2] 0 [t.blocks.length]).blocks.length=t.blocks.length+1:=by simp[end_]
 have aM:(end_ {t with s:=(fu ops t.s).2} 2 (fu ops t.s).1 [t.blocks.length+1,t.blocks.length+2] 0 [t.blocks.length]).s.known.length=t.s.known.length:=rfl;have hx:wG ops t=wG ops t:=rfl
 conv at hx=>rhs;unfold wG
 simp only at hx;have kA:=ZL Q (k4.trans k6 f4) λ_ h=>h;have fA:∀l,F l->F6 l:=by simp_all
 generalize end_ {t with s:=(fu ops t.s).2} 2 (fu ops t.s).1 [t.blocks.length+1,t.blocks.length+2] 0 [t.blocks.length]=c at*;clear f S Q k4 k6;refine Bx q6 O n6 (by omega) λF7 h7 R7 f7 k7 q7 n7=>?_;have x7:=BJ ops c.s;have aN:=x7.kl;generalize row ops c.s=s1 at*;refine ec q7.DM ?_;refine Ib q7 O n7 (by omega) λF8 h8 R8 f8 k8 q8 T=>?_;have x8:=Ga ops s1;have aO:=x8.kl;have e8:fk ops ({c with s:=s1}:Dt).s=fk ops s1:=rfl;rw[e8];have q8:Dq F8 G h8 L ops {c with s:=(fk ops s1).2} R8:=q8;have T:Sm (fk ops s1).2 (n+6+1):=T;generalize (fk ops s1).2=s2 at*;generalize (fk ops s1).1=N at*;have eB:fG [V.ed,(V.I 0),(V.I 0),V.ed,V.ed,(V.I 0)] [(0,1),(1,1),(2,1),(3,1),(4,1),(5,1)] [(1,(V.I 3)),(5,.I N)]=some (.agg (lC ⟨[],3,0,[],[],N⟩ .ed .ed .ed)):=rfl;refine ec eB ?_;have aP:=T.k;refine MY q8 (show c.blocks.length<_ by omega) ⟨[],3,0,[],[],N⟩ rfl rfl rfl .nil λF9 h9 R9 f9 k9 q9=>?_;refine J4 q9 (m:=t.s.known.length) (by grind) λaQ DA ay az=>?_;refine um az [t.blocks.length] rfl λaR aS Z8 aT aA e=>?_;have e:=Qj (t':=end_ {c with s:=cut t.s.known.length s2} 3 0 [] N [t.blocks.length]) e rfl;have aB:Sm (end_ {c with s:=cut t.s.known.length s2} 3 0 [] N [t.blocks.length]).s (n+7):=(T.cut ax (by omega)).end_ (t:={c with s:=cut t.s.known.length s2}) _ _ _ _ _;refine Bx e O aB (by omega) λaC aD YC aU aE aV aF=>?_;have aG:∀l,F l->F8 l:=by grind
 refine H aC aD YC (by grind) ?_ (by simp_all) ?_
 ·have k1:=(kA.trans k7 fA).trans k8 (by grind);have Q:=((k9.gm L.mb).trans (ay.gm L.mb) f9).trans (aA.gm L.mb) f9;exact(k1.trans Q aG).trans aE (by grind)
 ·rw[hx];exact aF.le (by omega)
end
