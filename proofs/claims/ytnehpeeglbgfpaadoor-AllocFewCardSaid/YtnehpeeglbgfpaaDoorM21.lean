/- Parts. -/
import Derived.Test.YtnehpeeglbgfpaaDoorM20
set_option maxHeartbeats 4000000
namespace Go.Proofs.YtnehpeeglbgfpaaDoor.Hx
open Un
theorem jL{b:Bool}{A B:Prop}(h:if b=true then A else B):bP (.bool b) A B:=by simp_all
theorem ND(ops:List Int)(s:Ds):rows ops 0 s=s:=rfl
theorem NR(ops:List Int)(k:Nat)(s:Ds)(h:¬s.ee.length<200):rows ops k s=s:=by
 cases k <;> simp_all[rows,if_neg]
theorem No(ops:List Int)(k:Nat)(s:Ds)(h:s.ee.length<200):rows ops (k+1) s=rows ops k (qP ops s):=by
 simp_all[rows,if_pos]
section
variable{F F' G G':Nat->Prop}{h h':Hp}{L:Lc}{ops:List Int}{t t':Dt}{R R':Rw}{Q:fu}
theorem Sm.one{s:Ds}{n:Nat}(a:Sm s n):Sm (fm ops s).2 n:=a.pos _
theorem Sm.num{s:Ds}{n:Nat}(a:Sm s n)(m:Nat):Sm (num ops s m).2 n:=a.pos _
theorem Vu{s:Ds}{n:Nat}(a:Sm s n)(ops:List Int)(x:Vl):Sm (put (fi ops s).2 x) (n+1):=by
 let⟨p,hp⟩:=Aa ops (num ops s 4).1 (num ops s 4).2 []
 have e:(fi ops s).2 = {s with pos:=p,ef:=(fi ops s).2.ef}:=by
  unfold fi;simp only[hp];rfl
 have h:=a.state ops;rw[e]at h⊢;exact⟨En a.v,En a.c,h.k,h.st,h.k0⟩
theorem Ue(q:Dq F G h L ops t R)(w:ops.length<9223372036854775808){n:Nat}(hn:Sm t.s n)(ae:n<900)
  (H:∀F' h' R',(∀l,F l->F' l)->Kp F (gm G L.lE) h h'->Dq F' G h' L ops {t with s:=row ops t.s} R'->Sm (row ops t.s) (n+6)->Q (.tuple []) h') :
  cP CS iD [.ptr L.mI 0,.ptr L.lu 0,.ptr L.gK 0,.ptr L.uQ 0,.ptr L.Nd 0] h Q:=by
 refine yL rfl rfl ?_;unfold qw;refine ec q.qH ?_;show cP CS eD [.I ((6:Nat):Int),.ptr L.lE 0,.ptr L.lr 0] h _;refine sJ q (by decide) (by decide) w λh0 k0 q0=>?_;have hr:(draw ops t.s.pos 6).1<6:=by simp_all[sI]
 refine iE (n:=1) (by decide) (by omega) ?_
 refine vV (λk O P S T U W h'=>∃(F':Nat->Prop) (R':Rw) (s:Ds),O = .ptr L.mI 0/\P = .ptr L.lu 0/\S = .ptr L.gK 0/\T = .ptr L.uQ 0/\U = .ptr L.Nd 0/\W = .I (k:Nat)/\(∀l,F l->F' l)/\
  Kp F (gm G L.lE) h h'/\Dq F' G h' L ops {t with s:=s} R'/\rows ops k s=row ops t.s/\∃m,Sm s m/\m+k<=n+6) ?_
  ⟨F,R,(num ops t.s 6).2,rfl,rfl,rfl,rfl,rfl,rfl,λ_ h=>h,k0,q0,rfl,n,hn.num 6,by omega⟩
 rintro k O P S T U W h' ⟨r,R1,s,rfl,rfl,rfl,rfl,rfl,rfl,J,X,B,p,m,K,ag⟩;unfold oC;refine ec (by rw[ml]) ?_;have lv:=B.D.ov.len;have eA:kH (.bool (decide ((0:Int)<(k:Nat)))) (oB (fP 2 (.ptr L.lu 0)) λaa=>oB (er aa h') λab=>oB (fJ ab) λac=>ej .lss 3 ac (V.I 200))=some (.bool (decide ((0:Int)<(k:Nat))&&decide (((s.ee.length:Nat):Int)<200))):=by
  simp only[fM,fg,Dr,B.D.Ov,lv,mU,jR]
 refine ec eA (jL ?_)
 cases k with
 | zero=>
   refine gJ (by simp) ?_;rw[ND]at p
   refine H r h' R1 J X (by simp_all) (by rw[<-p];exact K.le (by omega))
 | succ k=>
   by_cases HG:s.ee.length<200;rotate_left
   ·refine gJ (by simp;omega) ?_
    rw[NR _ _ _ HG]at p;refine H r h' R1 J X (by simp_all) (by rw[<-p];exact K.le (by omega))
   refine hV (by simp;omega) ?_;have C:rows ops k (qP ops s)=row ops t.s:=by rw[<-p,No _ _ _ HG]
   clear p eA;refine ec B.D.vC (ec B.qH (ec B.D.vC (ec B.D.ok.len ?_)));show cP CS eD [.I (s.known.length:Nat),.ptr L.lE 0,.ptr L.lr 0] h' _;refine Gc B w K (by omega) λh2 l o k2 E _ i1 I=>⟨k2.next,ec i1 (ec I ⟨E.D.vC,?_⟩)⟩
   have I:True:=trivial;refine ec E.D.vC (ec E.qH (ec E.D.vC (ec E.D.ok.len ?_)));show cP CS eD [.I ((fm ops s).2.known.length:Nat),.ptr L.lE 0,.ptr L.lr 0] h2 _;refine Gc E w K.one (by omega) λh3 l' o' k3 Y _ j1 j2=>⟨k3.next,ec j1 (ec j2 ⟨Y.D.vC,?_⟩)⟩
   refine ec Y.qH ?_;show cP CS eD [.I ((20:Nat):Int),.ptr L.lE 0,.ptr L.lr 0] h3 _;refine sJ Y (by decide) (by decide) w λA k4 d=>?_;have d:Dq r G A L ops {t with s:=(num ops (fm ops (fm ops s).2).2 20).2} R1:=d;have j:Sm (num ops (fm ops (fm ops s).2).2 20).2 m:=K.one.one.num 20;have kk:Kp F (gm G L.lE) h A:=((X.trans k2 J).trans k3 J).trans k4 J;have x:qP ops s=p9 ops (num ops (fm ops (fm ops s).2).2 20).2 (num ops (fm ops (fm ops s).2).2 20).1 (fm ops s).1 (fm ops (fm ops s).2).1:=rfl;rw[x]at C;have ek:(draw ops ({t with s:=(fm ops ({t with s:=(fm ops ({t with s:=s}:Dt).s).2}:Dt).s).2}:Dt).s.pos 20).1=(num ops (fm ops (fm ops s).2).2 20).1:=rfl;rw[ek];clear ek;have ah:(num ops (fm ops (fm ops s).2).2 20).1<20:=sI _ _ (by decide);generalize (num ops (fm ops (fm ops s).2).2 20).2=f at*;generalize (num ops (fm ops (fm ops s).2).2 20).1=kd at*;have ea:(fm ops ({t with s:=s}:Dt).s).1=(fm ops s).1:=rfl;have eb:(fm ops ({t with s:=(fm ops ({t with s:=s}:Dt).s).2}:Dt).s).1=(fm ops (fm ops s).2).1:=rfl;rw[ea,eb];generalize (fm ops s).1=a at*;generalize (fm ops (fm ops s).2).1=b at*;clear Y E B X k2 k3 k4 j1 j2 lv x
   have fin:∀(Z:Nat->Prop) (e:Hp) (R2:Rw) (M:Ds),(∀l,r l->Z l)->Kp r (gm G L.lE) A e->Dq Z G e L ops {t with s:=M} R2->M=p9 ops f kd a b->Sm M (m+1)->
       fO CS Q (λO P S T U W hh=>∃k',k' < k+1/\∃(F':Nat->Prop) (R':Rw) (s:Ds),O = .ptr L.mI 0/\P = .ptr L.lu 0/\S = .ptr L.gK 0/\T = .ptr L.uQ 0/\U = .ptr L.Nd 0/\W = .I (k':Nat)/\(∀l,F l->F' l)/\
         Kp F (gm G L.lE) h hh/\Dq F' G hh L ops {t with s:=s} R'/\rows ops k' s=row ops t.s/\∃m,Sm s m/\m+k'<=n+6) (.ptr L.mI 0) (.ptr L.lu 0) (.ptr L.gK 0) (.ptr L.uQ 0) (.ptr L.Nd 0) (.I ((k+1:Nat):Int)) e:=by
     intro Z e R2 M ai g c e5 m5;refine wc ?_;unfold nU;refine sL (by omega) (by omega) ?_;exact⟨k,by omega,Z,R2,M,rfl,rfl,rfl,rfl,rfl,rfl,by simp_all,kk.trans g J,c,by simp_all,m+1,m5,by omega⟩
   by_cases c0:kd<12
   ·refine ij ?_
    refine ec d.D.vC (ec d.mg (iE (n:=3) (by decide) (by omega) ?_));have eP:∀o:Nat,fH [(V.I 0),(V.I 0),(V.I 0),(V.I 0),V.ed,(V.I 0)] [(0,1),(1,1),(2,1),(3,1),(4,1),(5,1)] [(0,.I (o:Nat)),(1,.I (a:Nat)),(2,.I (b:Nat))]=some (.agg (qq (vl o a b 0 [] 0) .ed)):=λ_=>rfl;refine ec (eP _) ?_;exact AH d j (by omega) ⟨_,rfl,.nil⟩ λe R5 g c=>fin r e R5 _ (by simp_all) (g.gm _) c (by simp_all[p9,if_pos]) (j.gR _)
   refine jZ ?_;by_cases c1:kd=12
   ·refine gP (hV (by omega) ?_)
    refine ec d.D.vC (ec d.mg (ec d.qH ?_));show cP CS eD [.I ((1048576:Nat):Int),.ptr L.lE 0,.ptr L.lr 0] A _;refine sJ d (by decide) (by decide) w λe g c=>⟨g.next,?_⟩
    have c:Dq r G e L ops {t with s:=(num ops f 1048576).2} R1:=c;have hd:(draw ops f.pos 1048576).1<1048576:=by simp_all[sI]
    have ew:jw .i64 (((draw ops f.pos 1048576).1:Int)-9)=((draw ops f.pos 1048576).1:Int)-9:=by grind[iR,Fe]
    refine ec (by rw[hZ]) ?_;rw[show(jw .i64 (((draw ops ({t with s:=f}:Dt).s.pos 1048576).1:Int)-9))=((draw ops f.pos 1048576).1:Int)-9 from ew];have eP:∀i:Int,fH [(V.I 0),(V.I 0),(V.I 0),(V.I 0),V.ed,(V.I 0)] [(0,1),(1,1),(2,1),(3,1),(4,1),(5,1)] [(0,(V.I 2)),(3,.I i)]=some (.agg (qq (vl 2 0 0 i [] 0) .ed)):=λ_=>rfl;refine ec (eP _) ⟨c.mg,c.D.vC,?_⟩;exact AH c (j.num _) (by omega) ⟨_,rfl,.nil⟩ λy R6 u v=>fin r y R6 _ (by simp_all) (g.trans (u.gm _) λ_ h=>h) v (by unfold p9;rw[if_neg c0,if_pos c1];rfl) ((j.num _).gR _)
   refine gP (gJ (by omega) ?_);by_cases c2:kd=13
   ·refine gP (hV (by omega) ?_)
    refine ec d.D.vC (ec d.mg (ec d.qH ?_));show cP CS eD [.I ((5:Nat):Int),.ptr L.lE 0,.ptr L.lr 0] A _;refine sJ d (by decide) (by decide) w λe g c=>⟨g.next,?_⟩
    have c:Dq r G e L ops {t with s:=(num ops f 5).2} R1:=c;have eP:∀n:Nat,fH [(V.I 0),(V.I 0),(V.I 0),(V.I 0),V.ed,(V.I 0)] [(0,1),(1,1),(2,1),(3,1),(4,1),(5,1)] [(0,(V.I 17)),(1,.I (a:Nat)),(3,.I (n:Nat))]=some (.agg (qq (vl 17 a 0 (n:Nat) [] 0) .ed)):=λ_=>rfl;refine ec (eP _) ⟨c.mg,c.D.vC,?_⟩;exact AH c (j.num _) (by omega) ⟨_,rfl,.nil⟩ λy R6 u v=>fin r y R6 _ (by simp_all) (g.trans (u.gm _) λ_ h=>h) v (by unfold p9;rw[if_neg c0,if_neg c1,if_pos c2];rfl) ((j.num _).gR _)
   refine gP (gJ (by omega) ?_);by_cases c3:kd=14
   ·refine gP (hV (by omega) ?_)
    refine ec d.D.vC (ec d.mg ?_);have eP:fH [(V.I 0),(V.I 0),(V.I 0),(V.I 0),V.ed,(V.I 0)] [(0,1),(1,1),(2,1),(3,1),(4,1),(5,1)] [(0,(V.I 18)),(1,.I (a:Nat)),(2,.I (b:Nat))]=some (.agg (qq (vl 18 a b 0 [] 0) .ed)):=rfl;refine ec eP ?_;exact AH d j (by omega) ⟨_,rfl,.nil⟩ λe R5 g c=>fin r e R5 _ (by simp_all) (g.gm _) c (by simp_all[p9,if_neg,if_pos]) (j.gR _)
   refine gP (gJ (by omega) ?_);by_cases c4:kd=15
   ·refine gP (hV (by omega) ?_)
    refine ec d.mg (ec d.qH ?_);show cP CS eD [.I ((5:Nat):Int),.ptr L.lE 0,.ptr L.lr 0] A _;refine sJ d (by decide) (by decide) w λe g c=>⟨g.next,?_⟩
    have c:Dq r G e L ops {t with s:=(num ops f 5).2} R1:=c;have eP:∀n:Nat,fH [(V.I 0),(V.I 0),(V.I 0),(V.I 0),V.ed,(V.I 0)] [(0,1),(1,1),(2,1),(3,1),(4,1),(5,1)] [(0,(V.I 19)),(1,.I (a:Nat)),(3,.I (n:Nat)),(2,.I (b:Nat))]=some (.agg (qq (vl 19 a b (n:Nat) [] 0) .ed)):=λ_=>rfl;refine ec (eP _) ⟨c.mg,?_⟩;refine Ci c (j.num _) (by omega) ⟨_,rfl,.nil⟩ λy R6 u _ v=>⟨u.next,?_⟩
    exact fin r y R6 _ (by simp_all) (g.trans (u.gm _) λ_ h=>h) v (by unfold p9;rw[if_neg c0,if_neg c1,if_neg c2,if_neg c3,if_pos c4];rfl) ((j.num _).put _)
   refine gP (gJ (by omega) ?_);by_cases c5:kd=16
   ·refine gP (hV (by omega) ?_)
    refine ec d.mg (ec d.D.vC (ec d.qH (ec d.D.vC (ec d.D.ok.len ?_))));show cP CS eD [.I (f.known.length:Nat),.ptr L.lE 0,.ptr L.lr 0] A _;refine Gc d w j (by omega) λe l o g c hl i1 I=>⟨g.next,ec i1 (ec I ?_)⟩
    have c:Dq r G e L ops {t with s:=(fm ops f).2} R1:=c;have I:er (.ptr l o) e=some (.I ((fm ops f).1:Nat)):=I;have e3:jm 3 1 1 (V.I 0) [(0,V.I ((fm ops f).1:Nat))]=some (.cells 3 1 true false [V.I ((fm ops f).1:Nat)],λl=> .slice l 0 1):=rfl;show uY (jm 3 1 1 (V.I 0) [(0,V.I ((fm ops f).1:Nat))]) e _;rw[e3,hN];have eP:∀n:Nat,fH [(V.I 0),(V.I 0),(V.I 0),(V.I 0),V.ed,(V.I 0)] [(0,1),(1,1),(2,1),(3,1),(4,1),(5,1)] [(0,(V.I 20)),(1,.I (a:Nat)),(2,.I (b:Nat)),(4,.slice n 0 1)]=some (.agg (qq (vl 20 a b 0 [(fm ops f).1] 0) (.slice n 0 1))):=λ_=>rfl;have D6:=c.D.new (.cells 3 1 true false [V.I ((fm ops f).1:Nat)]);have u:=c.D.uv (.cells 3 1 true false [V.I ((fm ops f).1:Nat)]);have v:=c.step u D6 (mK _ _) c.gl c.hq rfl;have g6:(e.new (.cells 3 1 true false [V.I ((fm ops f).1:Nat)])).get e.next=_:=ey _ _;refine ec (eP _) ⟨by simp_all,mm I (eJ _ hl),D6.vC,v.mg,?_⟩
    have hs:iB eN (fz r e.next) (e.new (.cells 3 1 true false [V.I ((fm ops f).1:Nat)])) [(fm ops f).1] (.slice e.next 0 1):=
      .inr ⟨e.next,0,3,true,false,[V.I ((fm ops f).1:Nat)],rfl,.inr rfl,g6,.inr rfl,EL _,⟨_,[],rfl,rfl,trivial⟩⟩
    refine Ci v (j.one) (by omega) ⟨_,rfl,hs⟩ λh7 R7 k7 _ q7=>⟨k7.next,?_⟩
    exact fin (fz r e.next) h7 R7 _ (mK _ _) ((g.trans (u.gm _) λ_ h=>h).trans (k7.gm _) (mK _ _)) q7 (by simp_all[p9,if_neg,if_pos]) (j.one.put _)
   refine gP (gJ (by omega) ?_);by_cases c6:kd=17
   ·refine gP (hV (by omega) ?_)
    refine ec d.mg (ec d.Dk ?_);show cP CS fE [.ptr L.lu 0,.ptr L.mI 0,.ptr L.gK 0] A _;refine Gz d j.k0 (by have:=j.k;grind) (by have:=j.st;grind) w λN e R5 z g c _=>⟨g.next,?_⟩
    have c:Dq N G e L ops {t with s:=(fi ops f).2} R5:=c;have eP:∀n:Nat,fH [(V.I 0),(V.I 0),(V.I 0),(V.I 0),V.ed,(V.I 0)] [(0,1),(1,1),(2,1),(3,1),(4,1),(5,1)] [(0,(V.I 22)),(1,.I (a:Nat)),(5,.I (n:Nat))]=some (.agg (qq (vl 22 a 0 0 [] n) .ed)):=λ_=>rfl;refine ec (eP _) ⟨c.mg,?_⟩;refine Ci c (j.state ops) (by omega) ⟨_,rfl,.nil⟩ λy R6 u _ v=>⟨u.next,?_⟩
    exact fin N y R6 _ z (g.trans (u.gm _) z) v (by simp_all[p9,if_neg,if_pos]) (Vu j ops _)
   refine gP (gJ (by omega) ?_);by_cases c7:kd=18
   ·refine gP (hV (by omega) ?_)
    refine ec d.mg (ec d.Dk ?_);show cP CS fE [.ptr L.lu 0,.ptr L.mI 0,.ptr L.gK 0] A _;refine Gz d j.k0 (by have:=j.k;grind) (by have:=j.st;grind) w λN e R5 z g c _=>⟨g.next,?_⟩
    have c:Dq N G e L ops {t with s:=(fi ops f).2} R5:=c;have eP:∀n:Nat,fH [(V.I 0),(V.I 0),(V.I 0),(V.I 0),V.ed,(V.I 0)] [(0,1),(1,1),(2,1),(3,1),(4,1),(5,1)] [(0,(V.I 23)),(5,.I (n:Nat))]=some (.agg (qq (vl 23 0 0 0 [] n) .ed)):=λ_=>rfl;refine ec (eP _) ⟨c.mg,?_⟩;refine Ci c (j.state ops) (by omega) ⟨_,rfl,.nil⟩ λy R6 u _ v=>⟨u.next,?_⟩
    exact fin N y R6 _ z (g.trans (u.gm _) z) v (by simp_all[p9,if_neg,if_pos]) (Vu j ops _)
   refine gP (gJ (by omega) ?_);refine ec d.D.vC (ec d.mg (ec d.qH ?_));show cP CS eD [.I ((2:Nat):Int),.ptr L.lE 0,.ptr L.lr 0] A _;refine sJ d (by decide) (by decide) w λe g c=>⟨g.next,?_⟩
   have c:Dq r G e L ops {t with s:=(num ops f 2).2} R1:=c;have hd:(draw ops f.pos 2).1<2:=by simp_all[sI]
   refine iE (n:=15) (by decide) (by grind) ?_;have eP:∀o:Nat,fH [(V.I 0),(V.I 0),(V.I 0),(V.I 0),V.ed,(V.I 0)] [(0,1),(1,1),(2,1),(3,1),(4,1),(5,1)] [(0,.I (o:Nat)),(1,.I (a:Nat))]=some (.agg (qq (vl o a 0 0 [] 0) .ed)):=λ_=>rfl;refine ec (eP _) ⟨c.mg,c.D.vC,?_⟩;exact AH c (j.num _) (by omega) ⟨_,rfl,.nil⟩ λy R6 u v=>fin r y R6 _ (by simp_all) (g.trans (u.gm _) λ_ h=>h) v (by unfold p9;rw[if_neg c0,if_neg c1,if_neg c2,if_neg c3,if_neg c4,if_neg c5,if_neg c6,if_neg c7];rfl) ((j.num _).gR _)
end
open Un
structure Bs (s a:Ds):Prop where
 k:∃l,a.known=s.known++l
 v:∃l,a.ee=s.ee++l
theorem Bs.refl(s:Ds):Bs s s:=⟨by simp_all,by simp_all⟩
theorem Bs.trans{s d c:Ds}(a:Bs s d)(b:Bs d c):Bs s c:=by
 let⟨⟨e,f⟩,⟨g,h⟩⟩:=a
 let⟨⟨i,j⟩,⟨k,l⟩⟩:=b
 exact⟨by simp_all,by simp_all⟩
theorem Bs.kl{s b:Ds}(a:Bs s b):s.known.length<=b.known.length:=by
 let⟨⟨c,d⟩,_⟩:=a
 simp_all
theorem ED(ops:List Int)(s:Ds):Bs s (fi ops s).2:=by
 let⟨p,hp⟩:=Aa ops (num ops s 4).1 (num ops s 4).2 []
 unfold fi;simp[hp];exact⟨by simp_all[num],by simp_all[num]⟩
theorem Ab(s:Ds)(x:Vl):Bs s (gR s x):=⟨⟨_,rfl⟩,⟨_,rfl⟩⟩
theorem Fq(s:Ds)(x:Vl):Bs s (put s x):=⟨by simp_all[put],⟨_,rfl⟩⟩
theorem AT(ops:List Int)(s:Ds)(m:Nat):Bs s (num ops s m).2:=⟨by simp_all[num],by simp_all[num]⟩
theorem Jn(ops:List Int)(s:Ds):Bs s (fm ops s).2:=⟨by simp_all[fm],by simp_all[fm]⟩
theorem Qk(ops:List Int)(s:Ds)(k a b:Nat):Bs s (p9 ops s k a b):=by
 unfold p9;split
 ·grind[Ab]
 split
 ·exact(AT _ _ _).trans (Ab _ _)
 split
 ·exact(AT _ _ _).trans (Ab _ _)
 split
 ·grind[Ab]
 split
 ·exact(AT _ _ _).trans (Fq _ _)
 split
 ·exact(Jn _ _).trans (Fq _ _)
 split
 ·exact(ED _ _).trans (Fq _ _)
 split
 ·exact(ED _ _).trans (Fq _ _)
 ·exact(AT _ _ _).trans (Ab _ _)
theorem Kd(ops:List Int):∀i s,Bs s (rows ops i s)
 |0,s=> .refl s
 | i+1,s=>by
   unfold rows;split
   ·exact(((Jn ops s).trans (Jn ops _)).trans ((AT ops _ 20).trans (Qk _ _ _ _ _))).trans (Kd ops i _)
   ·exact .refl s
theorem AR(ops:List Int)(s:Ds):Bs s (row ops s):=(AT ops s 6).trans (Kd ops _ _)
def Et(L:Lc):V:= .func iD [] [.ptr L.mI 0,.ptr L.lu 0,.ptr L.gK 0,.ptr L.uQ 0,.ptr L.Nd 0]
def CO(L:Lc):V:= .func jh [] [.ptr L.iK 0,.ptr L.lu 0]
def lF(xs:List Nat):List V:=xs.map λn=> .I (n:Nat)
section
variable{F F' G G':Nat->Prop}{h h':Hp}{L:Lc}{ops:List Int}{t t':Dt}{R R':Rw}{Q:fu}
theorem Ag(q:Dq F G h L ops t R)(xs:List Nat):Dq (fz F h.next) G (h.new (.cells 3 1 true false (lF xs))) L ops t R/\iB eN (fz F h.next) (h.new (.cells 3 1 true false (lF xs))) xs (.slice h.next 0 xs.length)/\Kp F G h (h.new (.cells 3 1 true false (lF xs))):=by
 have k:=q.D.uv (.cells 3 1 true false (lF xs));exact⟨q.step k (q.D.new _) (mK _ _) q.gl q.hq rfl,.inr ⟨h.next,0,3,true,false,lF xs,rfl,.inr rfl,ey _ _,.inr rfl,EL _,sS _ _ xs⟩,k⟩
theorem tD(q:Dq F G h L ops t R)(xs:List Nat){ps:Option (O×(Nat->V))}(d:ps=some (O.cells 3 1 true false (lF xs),λl=> .slice l 0 xs.length)){K:Hp->Prop}
  (H:∀F' h' R',(∀l,F l->F' l)->Kp F G h h'->Dq F' G h' L ops {t with fk:=xs} R'->K h') :
  iW ps h λv e=>oP (fP 4 (.ptr L.iK 0)) λf=>fj (gU 1 f v e) λ_ g=>K g:=by
 subst d
 let⟨a,s1,i⟩:=Ag q xs
 rw[fF,fM,gQ];have e1:=lK (o:=4) (lU:=[R.cc,.I 0,.I 0,.ed,.slice h.next 0 xs.length,.I 0]) a.D.gb (by simp) rfl rfl
 let⟨b,D2⟩:=a.D.Ta (c:=R.cc) s1
 rw[ e1];exact H _ _ _ (mK _ _) (i.trans b (mK _ _)) (a.step b D2 (by simp_all) q.gl a.hq rfl)
theorem Mk(q:Dq F G h L ops t R)(e:t.blocks.length<1000)(b:Bk){w nv:V}(f:w = .agg (kJ b .ed nv .ed))(a:b.ee=[])(c:b.fk=[])(d:iB eN F h b.next nv){K:fu}
  (H:∀F' h' R',(∀l,F l->F' l)->Kp F G h h'->Dq F' G h' L ops {s:={t.s with cur:=[]},blocks:=t.blocks++[⟨t.s.cur,b.fin,b.cond,b.next,t.fk,b.state⟩],fk:=[]} R'->K (.I t.blocks.length) h') :
  gg CS (fL (CO L) [w]) h K:=by
 subst f;exact TE (n:=0) q e a c d H
theorem Ac(q:Dq F G h L ops t R)(b:ops.length<9223372036854775808){n:Nat}(c:Sm t.s n)(a:n<900){K:fu}
  (H:∀F' h' R',(∀l,F l->F' l)->Kp F (gm G L.lE) h h'->Dq F' G h' L ops {t with s:=row ops t.s} R'->Sm (row ops t.s) (n+6)->K (.tuple []) h') :
  gg CS (fL (Et L) []) h K:=Ue q b c a H
theorem Na(q:Dq F G h L ops t R)(c:0<t.s.known.length)(d:t.s.known.length<1000){K:V->Prop}(H:K (.I (t.s.known.getLastD 0:Nat))) :
  oP (er (.ptr L.gK 0) h) λa=>oP (er (.ptr L.gK 0) h) λb=>oP (fJ b) λn=>oP (ej .sub 3 n (.I 1)) λi=>oP (gM 1 a i) λp=>oP (er p h) K:=by
 let⟨l,o,_,_,e,f⟩:=q.AU (i:=t.s.known.length-1) (by omega)
 refine ec q.D.vC (ec q.D.vC (ec q.D.ok.len (sL (by omega) c (ec e (ec f ?_)))))
 grind
theorem Jh(q:Dq F G h L ops t R){m:Nat}(c:m<=t.s.known.length){K:Hp->Prop}(H:∀h' R',Kp F G h h'->Dq F G h' L ops {t with s:=cut m t.s} R'->K h') :
  oP (er (.ptr L.gK 0) h) λa=>oP (iF 1 a none (some (.I m)) h) λs=>fj (gU 1 (.ptr L.gK 0) s h) λ_ b=>K b:=by
 let⟨v',b,e1,e2,_,k,D2⟩:=q.D.Xv c
 refine ec q.D.vC (ec e1 ?_);rw[e2,eh];exact H _ _ k (q.step k D2 (by simp_all) q.gl q.hq rfl)
theorem Lt(q:Dq F G h L ops t R)(j:ops.length<9223372036854775808){n:Nat}(k:Sm t.s n)(d:n<1000){K:fu}
  (H:∀h',Kp F (gm G L.lE) h h'->Dq F G h' L ops {t with s:=(fm ops t.s).2} R->K (.I ((fm ops t.s).1:Nat)) h') :
  oP (er (.ptr L.gK 0) h) λa=>oP (er (.ptr L.mI 0) h) λf=>oP (er (.ptr L.gK 0) h) λb=>oP (fJ b) λn=>gg CS (fL f [n]) h λi c=>(h.next<=c.next/\oP (gM 1 a i) λp=>oP (er p c) λv=>((er (.ptr L.gK 0) c=some a)/\K v c)):=by
 refine ec q.D.vC (ec q.qH (ec q.D.vC (ec q.D.ok.len ?_)));show cP CS eD [.I t.s.known.length,.ptr L.lE 0,.ptr L.lr 0] h _;exact Gc q j k d λc l o e g _ m r=>⟨e.next,ec m (ec r ⟨g.D.vC,H _ e g⟩)⟩
theorem GV(q:Dq F G h L ops t R)(e:ops.length<9223372036854775808){n:Nat}(d:Sm t.s n)(f:n<999){K:fu}
  (H:∀F' h' R',(∀l,F l->F' l)->Kp F (gm G L.lE) h h'->Dq F' G h' L ops {t with s:=(fi ops t.s).2} R'->Sm (fi ops t.s).2 (n+1)->K (.I ((fi ops t.s).1:Nat)) h') :
  gg CS (fL (Lj L) []) h K:=by
 show cP CS fE [.ptr L.lu 0,.ptr L.mI 0,.ptr L.gK 0] h _;have g:=d.k;have i:=d.st;exact Gz q d.k0 (by omega) (by omega) e λF' h' R' a b c _=>H F' h' R' a b c (d.state ops)
theorem Sm.end_{t:Dt}{n:Nat}(a:Sm t.s n)(f c:Nat)(nx:List Nat)(s:Nat)(p:List Nat):Sm (Un.end_ t f c nx s p).s n:=⟨a.v,EL _,a.k,a.st,a.k0⟩
theorem Sm.cut{s:Ds}{n m:Nat}(a:Sm s n)(h0:0<m)(b:m<=s.known.length):Sm (Un.cut m s) n:=
 ⟨a.v,a.c,by show(s.known.take m).length<=n;rw[JN];have:=a.k;omega,a.st,by show 0<(s.known.take m).length;simp_all⟩
theorem Sm.setArgs{s:Ds}{n:Nat}(a:Sm s n)(v:Nat)(l:List Nat):Sm (Un.setArgs s v l) n:=⟨by rw[(yI s v l).1];exact a.v,a.c,a.k,a.st,a.k0⟩
theorem yK(q:Dq F G h L ops t R)(d:t.blocks.length<1000)(fin cond:Nat)(nx:List Nat)(state:Nat){ps:Option (O×(Nat->V))}(e:ps=some (O.cells 3 1 true false (lF nx),λl=> .slice l 0 nx.length)){B:V->Option V}
  (f:∀m,B (.slice m 0 nx.length)=some (.agg (kJ ⟨[],fin,cond,nx,[],state⟩ .ed (.slice m 0 nx.length) .ed))) {K:fu}
  (H:∀F' h' R',(∀l,F l->F' l)->Kp F G h h'->Dq F' G h' L ops {s:={t.s with cur:=[]},blocks:=t.blocks++[⟨t.s.cur,fin,cond,nx,t.fk,state⟩],fk:=[]} R'->K (.I t.blocks.length) h') :
  iW ps h λv g=>oP (B v) λw=>gg CS (fL (CO L) [w]) g K:=by
 subst e
 let⟨i,s1,j⟩:=Ag q nx
 rw[fF];refine ec (f _) ?_;exact Mk i d ⟨[],fin,cond,nx,[],state⟩ rfl rfl rfl s1 λF' h' R' a b c=>H F' h' R' (by grind[mK]) (j.trans b (mK _ _)) c
end
open Un
section
variable{F F' G G':Nat->Prop}{h h':Hp}{L:Lc}{ops:List Int}{t t':Dt}{R R':Rw}{Q:fu}
theorem OD(q:Dq F G h L ops t R){t':Dt}(e:t=t'):Dq F G h L ops t' R:=e▸q
theorem Xn{F F' G:Nat->Prop}{h h' b:Hp}{a:Nat}(x:Kp F (gm G a) h h')(y:Kp F' G h' b)(c:∀l,F l->F' l):Kp F (gm G a) h b:=x.trans (y.gm a) c
theorem Sq(q:Dq F G h L ops t R)(ho:ops.length<9223372036854775808){n:Nat}(hn:Sm t.s n)(b4:n<800)(hb:t.blocks.length<900){K:Hp->Prop}
  (H:∀F' h' R',(∀l,F l->F' l)->Kp F (gm G L.lE) h h'->Dq F' G h' L ops (fork ops t) R'->Sm (fork ops t).s (n+30)->K h') :
  oP (er (.ptr L.gK 0) h) λp=>
  oP (er (.ptr L.mI 0) h) λW=>
  oP (er (.ptr L.gK 0) h) λX=>
  oP (fJ X) λY=>
  gg CS (fL W [Y]) h λZ r=>
  (h.next<=r.next/\
  oP (gM 1 p Z) λaa=>
  oP (er aa r) λab=>
  ((er (.ptr L.gK 0) r=some p)/\
  oP (er (.ptr L.gK 0) r) λac=>
  oP (fJ ac) λu=>
  oP (fP 3 (.ptr L.lu 0)) λae=>
  oP (er ae r) λag=>
  oP (fJ ag) λah=>
  oP (ej .add 3 ah (V.I 1)) λai=>
  oP (fP 3 (.ptr L.lu 0)) λaj=>
  oP (er aj r) λak=>
  oP (fJ ak) λal=>
  oP (ej .add 3 al (V.I 2)) λam=>
  iW (jm 3 1 2 (V.I 0) [(0,ai),(1,am)]) r λan h3=>
  oP (fH [V.ed,(V.I 0),(V.I 0),V.ed,V.ed,(V.I 0)] [(0,1),(1,1),(2,1),(3,1),(4,1),(5,1)] [(1,(V.I 2)),(2,ab),(3,an)]) λao=>
  gg CS (fL (CO L) [ao]) h3 λv h4=>
  iW (jm 3 1 1 (V.I 0) [(0,v)]) h4 λaq h5=>
  oP (fP 4 (.ptr L.iK 0)) λar=>
  fj (gU 1 ar aq h5) λvu h6=>
  gg CS (fL (Et L) []) h6 λbR y=>
  oP (er (.ptr L.gK 0) y) λau=>
  oP (er (.ptr L.gK 0) y) λaw=>
  oP (fJ aw) λax=>
  oP (ej .sub 3 ax (V.I 1)) λay=>
  oP (gM 1 au ay) λaz=>
  oP (er az y) λaA=>
  oP (er (.ptr L.gK 0) y) λaB=>
  oP (iF 1 aB none (some u) y) λaC=>
  fj (gU 1 (.ptr L.gK 0) aC y) λbS h8=>
  oP (fP 3 (.ptr L.lu 0)) λaD=>
  oP (er aD h8) λaE=>
  oP (fJ aE) λaF=>
  oP (ej .add 3 aF (V.I 2)) λaG=>
  iW (jm 3 1 1 (V.I 0) [(0,aG)]) h8 λaH h9=>
  oP (fH [V.ed,(V.I 0),(V.I 0),V.ed,V.ed,(V.I 0)] [(0,1),(1,1),(2,1),(3,1),(4,1),(5,1)] [(1,(V.I 1)),(3,aH)]) λaI=>
  gg CS (fL (CO L) [aI]) h9 λaJ aK=>
  iW (jm 3 1 1 (V.I 0) [(0,v)]) aK λaL bi=>
  oP (fP 4 (.ptr L.iK 0)) λaM=>
  fj (gU 1 aM aL bi) λbU aN=>
  gg CS (fL (Et L) []) aN λbV b=>
  oP (er (.ptr L.gK 0) b) λaO=>
  oP (er (.ptr L.gK 0) b) λaP=>
  oP (fJ aP) λaQ=>
  oP (ej .sub 3 aQ (V.I 1)) λaR=>
  oP (gM 1 aO aR) λaS=>
  oP (er aS b) λaT=>
  oP (er (.ptr L.gK 0) b) λaU=>
  oP (iF 1 aU none (some u) b) λaV=>
  fj (gU 1 (.ptr L.gK 0) aV b) λbW z=>
  oP (fP 3 (.ptr L.lu 0)) λaW=>
  oP (er aW z) λaX=>
  oP (fJ aX) λaY=>
  oP (ej .add 3 aY (V.I 1)) λaZ=>
  iW (jm 3 1 1 (V.I 0) [(0,aZ)]) z λa0 bj=>
  oP (fH [V.ed,(V.I 0),(V.I 0),V.ed,V.ed,(V.I 0)] [(0,1),(1,1),(2,1),(3,1),(4,1),(5,1)] [(1,(V.I 1)),(3,a0)]) λa1=>
  gg CS (fL (CO L) [a1]) bj λa2 a3=>
  iW (jm 3 1 2 (V.I 0) [(0,aJ),(1,a2)]) a3 λa4 bm=>
  oP (fP 4 (.ptr L.iK 0)) λa5=>
  fj (gU 1 a5 a4 bm) λbX a=>
  oP (er (.ptr L.gK 0) a) λe=>
  oP (er (.ptr L.uQ 0) a) λw=>
  uY (jm 3 1 2 (V.I 0) [(0,aA),(1,aT)]) a λo4 a6 d=>
  oP (fH [(V.I 0),(V.I 0),(V.I 0),(V.I 0),V.ed,(V.I 0)] [(0,1),(1,1),(2,1),(3,1),(4,1),(5,1)] [(0,(V.I 21)),(4,a6)]) λa7=>
  ((d.get (a.next)=some o4/\O.beq o4 o4=true)/\
  ((er (.ptr L.uQ 0) d=some w)/\
  ((er (.ptr L.gK 0) d=some e)/\
  gg CS (fL w [a7]) d λa8 A=>
  (d.next<=A.next/\
  uY (jm 3 1 1 (V.I 0) [(0,a8)]) A λo7 a9 i=>
  ((i.get (A.next)=some o7/\O.beq o7 o7=true)/\
  ((er (.ptr L.gK 0) i=some e)/\
  fj (fh 3 1 8 e a9 i) λba B=>
  (i.next<=B.next/\
  fj (gU 1 (.ptr L.gK 0) ba B) λbY C=>
  (B.next<=C.next/\
  gg CS (fL (Et L) []) C λbZ E=>K E)))))))))):=by
 have bb:=hn.k0;refine Lt q ho hn (by omega) λr k2 I=>?_;refine ec I.D.vC (ec I.D.ok.len ?_);refine ec (by rfl) (ec I.D.Q3 (ec I.D.ob.len (iE (m:=1) (show t.blocks.length<_ by omega) (by omega) ?_)));refine ec (by rfl) (ec I.D.Q3 (ec I.D.ob.len (iE (m:=2) (show t.blocks.length<_ by omega) (by omega) ?_)));have n2:Sm (fm ops t.s).2 n:=hn.one;refine yK I (show t.blocks.length<_ by omega) 2 (fm ops t.s).1 [t.blocks.length+1,t.blocks.length+2] 0 rfl (λ_=>rfl) λF4 h4 R4 f4 k4 q4=>?_;refine tD q4 [t.blocks.length] rfl λF6 h6 R6 f6 k6 q6=>?_;have q6:=OD (t':=end_ {t with s:=(fm ops t.s).2} 2 (fm ops t.s).1 [t.blocks.length+1,t.blocks.length+2] 0 [t.blocks.length]) q6 rfl;have n6:Sm (end_ {t with s:=(fm ops t.s).2} 2 (fm ops t.s).1 [t.blocks.length+1,t.blocks.length+2] 0 [t.blocks.length]).s n:=n2.end_ _ _ _ _ _;have J:(end_ {t with s:=(fm ops t.s).2} 2 (fm ops t.s).1 [t.blocks.length+1,t.blocks.length+2] 0 [t.blocks.length]).blocks.length=t.blocks.length+1:=by simp[end_]
 have b5:(end_ {t with s:=(fm ops t.s).2} 2 (fm ops t.s).1 [t.blocks.length+1,t.blocks.length+2] 0 [t.blocks.length]).s.known.length=t.s.known.length:=rfl;have c:fork ops t=fork ops t:=rfl
 conv at c=>rhs;unfold fork
 simp only at c;have el:({t with s:=(fm ops t.s).2}:Dt).s.known.length=t.s.known.length:=rfl;rw[el];have kA:=Xn k2 (k4.trans k6 f4) λ_ h=>h;have fA:∀l,F l->F6 l:=by simp_all
 generalize end_ {t with s:=(fm ops t.s).2} 2 (fm ops t.s).1 [t.blocks.length+1,t.blocks.length+2] 0 [t.blocks.length]=f at*;refine Ac q6 ho n6 (by omega) λF7 y R7 f7 k7 q7 n7=>?_;have x7:=AR ops f.s;have b6:=x7.kl;generalize row ops f.s=s1 at*;have b7:=n7.k;refine Na q7 (by grind) (by grind) ?_;refine Jh q7 (by simp_all) λh8 R8 k8 q8=>?_;have n8:=n7.cut bb (by omega);refine ec (by rfl) (ec q8.D.Q3 (ec q8.D.ob.len (iE (m:=2) (show f.blocks.length<_ by omega) (by omega) ?_)));refine yK q8 (show f.blocks.length<_ by omega) 1 0 [t.blocks.length+3] 0 (by show jm 3 1 1 (V.I 0) [(0,.I ((f.blocks.length+2:Nat):Int))]=_;rw[J];rfl) (λ_=>rfl) λb8 aK Ce b9 bn bo=>?_;refine tD bo [t.blocks.length] rfl λbp aN WJ ca bq M=>?_;have M:=OD (t':=end_ {f with s:=cut t.s.known.length s1} 1 0 [t.blocks.length+3] 0 [t.blocks.length]) M rfl;have br:Sm (end_ {f with s:=cut t.s.known.length s1} 1 0 [t.blocks.length+3] 0 [t.blocks.length]).s (n+6):=n8.end_ _ _ _ _ _;have x:(end_ {f with s:=cut t.s.known.length s1} 1 0 [t.blocks.length+3] 0 [t.blocks.length]).blocks.length=t.blocks.length+2:=by simp[end_,J]
 have b1:(end_ {f with s:=cut t.s.known.length s1} 1 0 [t.blocks.length+3] 0 [t.blocks.length]).s.known.length=t.s.known.length:=by
  show(s1.known.take t.s.known.length).length=_;rw[JN];omega
 have bc:=J;rw[bc];have N:({f with s:=s1}:Dt).s.known.getLastD 0=s1.known.getLastD 0:=rfl;rw[N];have kB:=(((kA.trans k7 fA).trans ((k8.gm L.lE).trans (bn.gm L.lE) λ_ h=>h) (by grind)).trans (bq.gm L.lE) (by grind))
 have fB:∀l,F l->bp l:=by grind
 generalize s1.known.getLastD 0=S at*;generalize end_ {f with s:=cut t.s.known.length s1} 1 0 [t.blocks.length+3] 0 [t.blocks.length]=j at*;refine Ac M ho br (by omega) λcb b XB cd bt bd be=>?_;have bu:=AR ops j.s;have b2:=bu.kl;generalize row ops j.s=T at*;have b3:=be.k;refine Na bd (by grind) (by grind) ?_;refine Jh bd (by simp_all) λz WE bv P=>?_;have bw:=be.cut bb (by omega);refine ec (by rfl) (ec P.D.Q3 (ec P.D.ob.len (iE (m:=1) (show j.blocks.length<_ by omega) (by omega) ?_)));refine yK P (show j.blocks.length<_ by omega) 1 0 [t.blocks.length+3] 0 (by show jm 3 1 1 (V.I 0) [(0,.I ((j.blocks.length+1:Nat):Int))]=_;rw[x];rfl) (λ_=>rfl) λce a3 cf cg bz bA=>?_;have bf:=x;rw[bf];refine tD bA [t.blocks.length+1,t.blocks.length+2] rfl λbC a Wn ci bD g=>?_;have g:=OD (t':=end_ {j with s:=cut t.s.known.length T} 1 0 [t.blocks.length+3] 0 [t.blocks.length+1,t.blocks.length+2]) g rfl;have bg:Sm (end_ {j with s:=cut t.s.known.length T} 1 0 [t.blocks.length+3] 0 [t.blocks.length+1,t.blocks.length+2]).s (n+12):=(bw.le (by omega)).end_ _ _ _ _ _;have o:({j with s:=T}:Dt).s.known.getLastD 0=T.known.getLastD 0:=rfl;rw[o];have kC:=(((kB.trans bt fB).trans ((bv.gm L.lE).trans (bz.gm L.lE) λ_ h=>h) (by simp_all)).trans (bD.gm L.lE) (by grind))
 have fC:∀l,F l->bC l:=by grind
 generalize T.known.getLastD 0=U at*;generalize end_ {j with s:=cut t.s.known.length T} 1 0 [t.blocks.length+3] 0 [t.blocks.length+1,t.blocks.length+2]=t3 at*;refine ec g.D.vC (ec g.mg ?_);have e3:jm 3 1 2 (V.I 0) [(0,V.I S),(1,V.I U)]=some (.cells 3 1 true false (lF [S,U]),λl=> .slice l 0 2):=rfl;rw[e3,hN]
 let⟨Q,bE,bG⟩:=Ag g [S,U]
 have cj:(a.new (.cells 3 1 true false (lF [S,U]))).get a.next=_:=ey _ _;have eP:∀n,fH [(V.I 0),(V.I 0),(V.I 0),(V.I 0),V.ed,(V.I 0)] [(0,1),(1,1),(2,1),(3,1),(4,1),(5,1)] [(0,(V.I 21)),(4,.slice n 0 2)]=some (.agg (qq (vl 21 0 0 0 [S,U] 0) (.slice n 0 2))):=λ_=>rfl;refine ec (eP _) ⟨by simp_all,Q.mg,Q.D.vC,?_⟩;generalize a.new (.cells 3 1 true false (lF [S,U]))=d at*;refine AH Q bg (by omega) ⟨_,rfl,bE⟩ λC cl bH bI=>?_;refine Ac bI ho (bg.gR _) (by omega) λbJ E bK cm bL cn bQ=>?_;refine H bJ E bK (by grind[mK]) ((kC.trans ((bG.gm L.lE).trans (bH.gm L.lE) (mK _ _)) fC).trans bL (by grind[mK])) (by simp_all) ?_;rw[c];exact bQ.le (by omega)
end
open Un
section
variable{F F' G G':Nat->Prop}{h h':Hp}{L:Lc}{ops:List Int}{t t':Dt}{R R':Rw}{Q:fu}
theorem Rn(q:Dq F G h L ops t R)(O:ops.length<9223372036854775808){n:Nat}(P:Sm t.s n)(aK:n<800)(hb:t.blocks.length<900){K:Hp->Prop}
  (H:∀F' h' R',(∀l,F l->F' l)->Kp F (gm G L.lE) h h'->Dq F' G h' L ops (vm ops t) R'->Sm (vm ops t).s (n+30)->K h') :
  oP (er (.ptr L.gK 0) h) λg=>
  oP (er (.ptr L.mI 0) h) λU=>
  oP (er (.ptr L.gK 0) h) λW=>
  oP (fJ W) λX=>
  gg CS (fL U [X]) h λY a=>
  (h.next<=a.next/\
  oP (gM 1 g Y) λZ=>
  oP (er Z a) λaa=>
  ((er (.ptr L.gK 0) a=some g)/\
  oP (fP 3 (.ptr L.lu 0)) λab=>
  oP (er ab a) λac=>
  oP (fJ ac) λae=>
  oP (ej .add 3 ae (V.I 1)) λag=>
  oP (fP 3 (.ptr L.lu 0)) λah=>
  oP (er ah a) λi=>
  oP (fJ i) λj=>
  oP (ej .add 3 j (V.I 2)) λo=>
  iW (jm 3 1 2 (V.I 0) [(0,ag),(1,o)]) a λp ai=>
  oP (fH [V.ed,(V.I 0),(V.I 0),V.ed,V.ed,(V.I 0)] [(0,1),(1,1),(2,1),(3,1),(4,1),(5,1)] [(1,(V.I 2)),(2,aa),(3,p)]) λr=>
  gg CS (fL (CO L) [r]) ai λb u=>
  oP (er (.ptr L.gK 0) u) λv=>
  oP (fJ v) λw=>
  iW (jm 3 1 1 (V.I 0) [(0,b)]) u λx aj=>
  oP (fP 4 (.ptr L.iK 0)) λy=>
  fj (gU 1 y x aj) λak al=>
  gg CS (fL (Et L) []) al λaH z=>
  oP (er (.ptr L.Nd 0) z) λA=>
  gg CS (fL A []) z λB am=>
  oP (fH [V.ed,(V.I 0),(V.I 0),V.ed,V.ed,(V.I 0)] [(0,1),(1,1),(2,1),(3,1),(4,1),(5,1)] [(1,(V.I 3)),(5,B)]) λC=>
  gg CS (fL (CO L) [C]) am λaI d=>
  oP (er (.ptr L.gK 0) d) λE=>
  oP (iF 1 E none (some w) d) λI=>
  fj (gU 1 (.ptr L.gK 0) I d) λan ao=>
  iW (jm 3 1 1 (V.I 0) [(0,b)]) ao λJ aq=>
  oP (fP 4 (.ptr L.iK 0)) λM=>
  fj (gU 1 M J aq) λar au=>
  gg CS (fL (Et L) []) au λaJ aw=>K aw)):=by
 have ax:=P.k0;have hk:=P.k;refine Lt q O P (by omega) λh2 Q f=>?_;refine ec (by rfl) (ec f.D.Q3 (ec f.D.ob.len (iE (m:=1) (show t.blocks.length<_ by omega) (by omega) ?_)));refine ec (by rfl) (ec f.D.Q3 (ec f.D.ob.len (iE (m:=2) (show t.blocks.length<_ by omega) (by omega) ?_)));have n2:Sm (fm ops t.s).2 n:=P.one;refine yK f (show t.blocks.length<_ by omega) 2 (fm ops t.s).1 [t.blocks.length+1,t.blocks.length+2] 0 rfl (λ_=>rfl) λF4 h4 R4 f4 k4 S=>?_;refine ec S.D.vC (ec S.D.ok.len ?_);refine tD S [t.blocks.length] rfl λF6 h6 R6 f6 k6 q6=>?_;have q6:=OD (t':=end_ {t with s:=(fm ops t.s).2} 2 (fm ops t.s).1 [t.blocks.length+1,t.blocks.length+2] 0 [t.blocks.length]) q6 rfl;have n6:Sm (end_ {t with s:=(fm ops t.s).2} 2 (fm ops t.s).1 [t.blocks.length+1,t.blocks.length+2] 0 [t.blocks.length]).s n:=n2.end_ (t:={t with s:=(fm ops t.s).2}) _ _ _ _ _;have aL:(end_ {t with s:=(fm ops t.s).2} 2 (fm ops t.s).1 [t.blocks.length+1,t.blocks.length+2] 0 [t.blocks.length]).blocks.length=t.blocks.length+1:=by simp[end_]
 have aM:(end_ {t with s:=(fm ops t.s).2} 2 (fm ops t.s).1 [t.blocks.length+1,t.blocks.length+2] 0 [t.blocks.length]).s.known.length=t.s.known.length:=rfl;have hx:vm ops t=vm ops t:=rfl
 conv at hx=>rhs;unfold vm
 simp only at hx;have kA:=Xn Q (k4.trans k6 f4) λ_ h=>h;have fA:∀l,F l->F6 l:=by simp_all
 generalize end_ {t with s:=(fm ops t.s).2} 2 (fm ops t.s).1 [t.blocks.length+1,t.blocks.length+2] 0 [t.blocks.length]=c at*;clear f S Q k4 k6;refine Ac q6 O n6 (by omega) λF7 h7 R7 f7 k7 q7 n7=>?_;have x7:=AR ops c.s;have aN:=x7.kl;generalize row ops c.s=s1 at*;refine ec q7.Dk ?_;refine GV q7 O n7 (by omega) λF8 h8 R8 f8 k8 q8 T=>?_;have x8:=ED ops s1;have aO:=x8.kl;have e8:fi ops ({c with s:=s1}:Dt).s=fi ops s1:=rfl;rw[e8];have q8:Dq F8 G h8 L ops {c with s:=(fi ops s1).2} R8:=q8;have T:Sm (fi ops s1).2 (n+6+1):=T;generalize (fi ops s1).2=s2 at*;generalize (fi ops s1).1=N at*;have eB:fH [V.ed,(V.I 0),(V.I 0),V.ed,V.ed,(V.I 0)] [(0,1),(1,1),(2,1),(3,1),(4,1),(5,1)] [(1,(V.I 3)),(5,.I N)]=some (.agg (kJ ⟨[],3,0,[],[],N⟩ .ed .ed .ed)):=rfl;refine ec eB ?_;have aP:=T.k;refine Mk q8 (show c.blocks.length<_ by omega) ⟨[],3,0,[],[],N⟩ rfl rfl rfl .nil λF9 h9 R9 f9 k9 q9=>?_;refine Jh q9 (m:=t.s.known.length) (by grind) λaQ Ce ay az=>?_;refine tD az [t.blocks.length] rfl λaR aS Xy aT aA e=>?_;have e:=OD (t':=end_ {c with s:=cut t.s.known.length s2} 3 0 [] N [t.blocks.length]) e rfl;have aB:Sm (end_ {c with s:=cut t.s.known.length s2} 3 0 [] N [t.blocks.length]).s (n+7):=(T.cut ax (by omega)).end_ (t:={c with s:=cut t.s.known.length s2}) _ _ _ _ _;refine Ac e O aB (by omega) λaC aD WJ aU aE aV aF=>?_;have aG:∀l,F l->F8 l:=by grind
 refine H aC aD WJ (by grind) ?_ (by simp_all) ?_
 ·have k1:=(kA.trans k7 fA).trans k8 (by grind);have Q:=((k9.gm L.lE).trans (ay.gm L.lE) f9).trans (aA.gm L.lE) f9;exact(k1.trans Q aG).trans aE (by grind)
 ·rw[hx];exact aF.le (by omega)
end
