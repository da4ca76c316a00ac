/- Parts. -/
import Derived.Test.YtpfjdlicdljhaaaDoorM20
set_option maxHeartbeats 4000000
namespace Go.Proofs.YtpfjdlicdljhaaaDoor.Hx
open Un
theorem iI{b:Bool}{A B:Prop}(h:if b=true then A else B):bP (.bool b) A B:=by simp_all
theorem Ug(ops:List Int)(s:Ds):rows ops 0 s=s:=rfl
theorem T7(ops:List Int)(k:Nat)(s:Ds)(h:¬s.ef.length<200):rows ops k s=s:=by
 cases k <;> simp_all[rows,if_neg]
theorem Uz(ops:List Int)(k:Nat)(s:Ds)(h:s.ef.length<200):rows ops (k+1) s=rows ops k (si ops s):=by
 simp_all[rows,if_pos]
section
variable{F F' G G':Nat->Prop}{h h':Hp}{L:Lc}{ops:List Int}{t t':Dt}{R R':Rw}{Q:fo}
theorem Sm.one{s:Ds}{n:Nat}(a:Sm s n):Sm (fx ops s).2 n:=a.pos _
theorem Sm.num{s:Ds}{n:Nat}(a:Sm s n)(m:Nat):Sm (num ops s m).2 n:=a.pos _
theorem zbS{s:Ds}{n:Nat}(a:Sm s n)(ops:List Int)(x:Vl):Sm (put (ft ops s).2 x) (n+1):=by
 obtain ⟨p,b⟩:=DS ops (num ops s 4).1 (num ops s 4).2 [];have e:(ft ops s).2 = {s with pos:=p,eh:=(ft ops s).2.eh}:=by
  unfold ft;simp only[b];rfl
 have h:=a.state ops;rw[e]at h⊢;exact⟨yI a.v,yI a.c,h.k,h.st,h.k0⟩
theorem Z5(q:Dq F G h L ops t R)(w:ops.length<9223372036854775808){n:Nat}(hn:Sm t.s n)(ae:n<900)
  (H:∀F' h' R',(∀l,F l->F' l)->Kp F (gm G L.mA) h h'->Dq F' G h' L ops {t with s:=row ops t.s} R'->Sm (row ops t.s) (n+6)->Q (.tuple []) h') :
  cP CS iW [.ptr L.oJ 0,.ptr L.lu 0,.ptr L.hO 0,.ptr L.xQ 0,.ptr L.Sg 0] h Q:=by
 refine BL rfl rfl ?_;unfold tT;refine ed q.ud ?_;show cP CS fc [.I ((6:Nat):Int),.ptr L.mA 0,.ptr L.lr 0] h _;refine wq q (by decide) (by decide) w λh0 k0 q0=>?_;have hr:(draw ops t.s.pos 6).1<6:=by simp_all[wo]
 refine kh (n:=1) (by decide) (by omega) ?_
 refine zm (λk O P S T U W h'=>∃(F':Nat->Prop) (R':Rw) (s:Ds),O = .ptr L.oJ 0/\P = .ptr L.lu 0/\S = .ptr L.hO 0/\T = .ptr L.xQ 0/\U = .ptr L.Sg 0/\W = .I (k:Nat)/\(∀l,F l->F' l)/\
  Kp F (gm G L.mA) h h'/\Dq F' G h' L ops {t with s:=s} R'/\rows ops k s=row ops t.s/\∃m,Sm s m/\m+k<=n+6) ?_
  ⟨F,R,(num ops t.s 6).2,rfl,rfl,rfl,rfl,rfl,rfl,λ_ h=>h,k0,q0,rfl,n,hn.num 6,by omega⟩
 rintro k O P S T U W h' ⟨r,R1,s,rfl,rfl,rfl,rfl,rfl,rfl,J,X,B,p,m,K,ag⟩;unfold qI;refine ed (by rw[pg]) ?_;have lv:=B.D.ov.len;have eA:jz (.bool (decide ((0:Int)<(k:Nat)))) (oB (fH 2 (.ptr L.lu 0)) λaa=>oB (ey aa h') λab=>oB (fy ab) λac=>eo .lss 3 ac (V.I 200))=some (.bool (decide ((0:Int)<(k:Nat))&&decide (((s.ef.length:Nat):Int)<200))):=by
  simp only[fJ,fe,wX,B.D.UN,lv,mj,iD]
 refine ed eA (iI ?_)
 cases k with
 | zero=>
   refine fT (by simp) ?_;rw[Ug]at p
   refine H r h' R1 J X (by simp_all) (by rw[<-p];exact K.le (by omega))
 | succ k=>
   by_cases Me:s.ef.length<200;rotate_left
   ·refine fT (by simp;omega) ?_
    rw[T7 _ _ _ Me]at p;refine H r h' R1 J X (by simp_all) (by rw[<-p];exact K.le (by omega))
   refine gw (by simp;omega) ?_;have C:rows ops k (si ops s)=row ops t.s:=by rw[<-p,Uz _ _ _ Me]
   clear p eA;refine ed B.D.yL (ed B.ud (ed B.D.yL (ed B.D.ok.len ?_)));show cP CS fc [.I (s.known.length:Nat),.ptr L.mA 0,.ptr L.lr 0] h' _;refine K2 B w K (by omega) λh2 l o k2 E _ i1 I=>⟨k2.next,ed i1 (ed I ⟨E.D.yL,?_⟩)⟩
   have I:True:=trivial;refine ed E.D.yL (ed E.ud (ed E.D.yL (ed E.D.ok.len ?_)));show cP CS fc [.I ((fx ops s).2.known.length:Nat),.ptr L.mA 0,.ptr L.lr 0] h2 _;refine K2 E w K.one (by omega) λh3 l' o' k3 Y _ j1 j2=>⟨k3.next,ed j1 (ed j2 ⟨Y.D.yL,?_⟩)⟩
   refine ed Y.ud ?_;show cP CS fc [.I ((20:Nat):Int),.ptr L.mA 0,.ptr L.lr 0] h3 _;refine wq Y (by decide) (by decide) w λA k4 d=>?_;have d:Dq r G A L ops {t with s:=(num ops (fx ops (fx ops s).2).2 20).2} R1:=d;have j:Sm (num ops (fx ops (fx ops s).2).2 20).2 m:=K.one.one.num 20;have kk:Kp F (gm G L.mA) h A:=((X.trans k2 J).trans k3 J).trans k4 J;have x:si ops s=qa ops (num ops (fx ops (fx ops s).2).2 20).2 (num ops (fx ops (fx ops s).2).2 20).1 (fx ops s).1 (fx ops (fx ops s).2).1:=rfl;rw[x]at C;have ek:(draw ops ({t with s:=(fx ops ({t with s:=(fx ops ({t with s:=s}:Dt).s).2}:Dt).s).2}:Dt).s.pos 20).1=(num ops (fx ops (fx ops s).2).2 20).1:=rfl;rw[ek];clear ek;have ah:(num ops (fx ops (fx ops s).2).2 20).1<20:=wo _ _ (by decide);generalize (num ops (fx ops (fx ops s).2).2 20).2=f at*;generalize (num ops (fx ops (fx ops s).2).2 20).1=kd at*;have ea:(fx ops ({t with s:=s}:Dt).s).1=(fx ops s).1:=rfl;have eb:(fx ops ({t with s:=(fx ops ({t with s:=s}:Dt).s).2}:Dt).s).1=(fx ops (fx ops s).2).1:=rfl;rw[ea,eb];generalize (fx ops s).1=a at*;generalize (fx ops (fx ops s).2).1=b at*;clear Y E B X k2 k3 k4 j1 j2 lv x
   have fin:∀(Z:Nat->Prop) (e:Hp) (R2:Rw) (M:Ds),(∀l,r l->Z l)->Kp r (gm G L.mA) A e->Dq Z G e L ops {t with s:=M} R2->M=qa ops f kd a b->Sm M (m+1)->
       fX CS Q (λO P S T U W hh=>∃k',k' < k+1/\∃(F':Nat->Prop) (R':Rw) (s:Ds),O = .ptr L.oJ 0/\P = .ptr L.lu 0/\S = .ptr L.hO 0/\T = .ptr L.xQ 0/\U = .ptr L.Sg 0/\W = .I (k':Nat)/\(∀l,F l->F' l)/\
         Kp F (gm G L.mA) h hh/\Dq F' G hh L ops {t with s:=s} R'/\rows ops k' s=row ops t.s/\∃m,Sm s m/\m+k'<=n+6) (.ptr L.oJ 0) (.ptr L.lu 0) (.ptr L.hO 0) (.ptr L.xQ 0) (.ptr L.Sg 0) (.I ((k+1:Nat):Int)) e:=by
     intro Z e R2 M ai g c e5 m5;refine zq ?_;unfold qd;refine xY (by omega) (by omega) ?_;exact⟨k,by omega,Z,R2,M,rfl,rfl,rfl,rfl,rfl,rfl,by simp_all,kk.trans g J,c,by simp_all,m+1,m5,by omega⟩
   by_cases c0:kd<12
   ·refine gv ?_
    refine ed d.D.yL (ed d.nW (kh (n:=3) (by decide) (by omega) ?_));have eP:∀o:Nat,fR [(V.I 0),(V.I 0),(V.I 0),(V.I 0),V.ee,(V.I 0)] [(0,1),(1,1),(2,1),(3,1),(4,1),(5,1)] [(0,.I (o:Nat)),(1,.I (a:Nat)),(2,.I (b:Nat))]=some (.agg (lT (vl o a b 0 [] 0) .ee)):=λ_=>rfl;refine ed (eP _) ?_;exact EJ d j (by omega) ⟨_,rfl,.nil⟩ λe R5 g c=>fin r e R5 _ (by simp_all) (g.gm _) c (by simp_all[qa,if_pos]) (j.iz _)
   refine ir ?_;by_cases c1:kd=12
   ·refine fP (gw (by omega) ?_)
    refine ed d.D.yL (ed d.nW (ed d.ud ?_));show cP CS fc [.I ((1048576:Nat):Int),.ptr L.mA 0,.ptr L.lr 0] A _;refine wq d (by decide) (by decide) w λe g c=>⟨g.next,?_⟩
    have c:Dq r G e L ops {t with s:=(num ops f 1048576).2} R1:=c;have hd:(draw ops f.pos 1048576).1<1048576:=by simp_all[wo]
    have ew:ll .i64 (((draw ops f.pos 1048576).1:Int)-9)=((draw ops f.pos 1048576).1:Int)-9:=by grind[yF,CO]
    refine ed (by rw[pj]) ?_;rw[show(ll .i64 (((draw ops ({t with s:=f}:Dt).s.pos 1048576).1:Int)-9))=((draw ops f.pos 1048576).1:Int)-9 from ew];have eP:∀i:Int,fR [(V.I 0),(V.I 0),(V.I 0),(V.I 0),V.ee,(V.I 0)] [(0,1),(1,1),(2,1),(3,1),(4,1),(5,1)] [(0,(V.I 2)),(3,.I i)]=some (.agg (lT (vl 2 0 0 i [] 0) .ee)):=λ_=>rfl;refine ed (eP _) ⟨c.nW,c.D.yL,?_⟩;exact EJ c (j.num _) (by omega) ⟨_,rfl,.nil⟩ λy R6 u v=>fin r y R6 _ (by simp_all) (g.trans (u.gm _) λ_ h=>h) v (by unfold qa;rw[if_neg c0,if_pos c1];rfl) ((j.num _).iz _)
   refine fP (fT (by omega) ?_);by_cases c2:kd=13
   ·refine fP (gw (by omega) ?_)
    refine ed d.D.yL (ed d.nW (ed d.ud ?_));show cP CS fc [.I ((5:Nat):Int),.ptr L.mA 0,.ptr L.lr 0] A _;refine wq d (by decide) (by decide) w λe g c=>⟨g.next,?_⟩
    have c:Dq r G e L ops {t with s:=(num ops f 5).2} R1:=c;have eP:∀n:Nat,fR [(V.I 0),(V.I 0),(V.I 0),(V.I 0),V.ee,(V.I 0)] [(0,1),(1,1),(2,1),(3,1),(4,1),(5,1)] [(0,(V.I 17)),(1,.I (a:Nat)),(3,.I (n:Nat))]=some (.agg (lT (vl 17 a 0 (n:Nat) [] 0) .ee)):=λ_=>rfl;refine ed (eP _) ⟨c.nW,c.D.yL,?_⟩;exact EJ c (j.num _) (by omega) ⟨_,rfl,.nil⟩ λy R6 u v=>fin r y R6 _ (by simp_all) (g.trans (u.gm _) λ_ h=>h) v (by unfold qa;rw[if_neg c0,if_neg c1,if_pos c2];rfl) ((j.num _).iz _)
   refine fP (fT (by omega) ?_);by_cases c3:kd=14
   ·refine fP (gw (by omega) ?_)
    refine ed d.D.yL (ed d.nW ?_);have eP:fR [(V.I 0),(V.I 0),(V.I 0),(V.I 0),V.ee,(V.I 0)] [(0,1),(1,1),(2,1),(3,1),(4,1),(5,1)] [(0,(V.I 18)),(1,.I (a:Nat)),(2,.I (b:Nat))]=some (.agg (lT (vl 18 a b 0 [] 0) .ee)):=rfl;refine ed eP ?_;exact EJ d j (by omega) ⟨_,rfl,.nil⟩ λe R5 g c=>fin r e R5 _ (by simp_all) (g.gm _) c (by simp_all[qa,if_neg,if_pos]) (j.iz _)
   refine fP (fT (by omega) ?_);by_cases c4:kd=15
   ·refine fP (gw (by omega) ?_)
    refine ed d.nW (ed d.ud ?_);show cP CS fc [.I ((5:Nat):Int),.ptr L.mA 0,.ptr L.lr 0] A _;refine wq d (by decide) (by decide) w λe g c=>⟨g.next,?_⟩
    have c:Dq r G e L ops {t with s:=(num ops f 5).2} R1:=c;have eP:∀n:Nat,fR [(V.I 0),(V.I 0),(V.I 0),(V.I 0),V.ee,(V.I 0)] [(0,1),(1,1),(2,1),(3,1),(4,1),(5,1)] [(0,(V.I 19)),(1,.I (a:Nat)),(3,.I (n:Nat)),(2,.I (b:Nat))]=some (.agg (lT (vl 19 a b (n:Nat) [] 0) .ee)):=λ_=>rfl;refine ed (eP _) ⟨c.nW,?_⟩;refine Hm c (j.num _) (by omega) ⟨_,rfl,.nil⟩ λy R6 u _ v=>⟨u.next,?_⟩
    exact fin r y R6 _ (by simp_all) (g.trans (u.gm _) λ_ h=>h) v (by unfold qa;rw[if_neg c0,if_neg c1,if_neg c2,if_neg c3,if_pos c4];rfl) ((j.num _).put _)
   refine fP (fT (by omega) ?_);by_cases c5:kd=16
   ·refine fP (gw (by omega) ?_)
    refine ed d.nW (ed d.D.yL (ed d.ud (ed d.D.yL (ed d.D.ok.len ?_))));show cP CS fc [.I (f.known.length:Nat),.ptr L.mA 0,.ptr L.lr 0] A _;refine K2 d w j (by omega) λe l o g c hl i1 I=>⟨g.next,ed i1 (ed I ?_)⟩
    have c:Dq r G e L ops {t with s:=(fx ops f).2} R1:=c;have I:ey (.ptr l o) e=some (.I ((fx ops f).1:Nat)):=I;have e3:ji 3 1 1 (V.I 0) [(0,V.I ((fx ops f).1:Nat))]=some (.cells 3 1 true false [V.I ((fx ops f).1:Nat)],λl=> .slice l 0 1):=rfl;show xR (ji 3 1 1 (V.I 0) [(0,V.I ((fx ops f).1:Nat))]) e _;rw[e3,ic];have eP:∀n:Nat,fR [(V.I 0),(V.I 0),(V.I 0),(V.I 0),V.ee,(V.I 0)] [(0,1),(1,1),(2,1),(3,1),(4,1),(5,1)] [(0,(V.I 20)),(1,.I (a:Nat)),(2,.I (b:Nat)),(4,.slice n 0 1)]=some (.agg (lT (vl 20 a b 0 [(fx ops f).1] 0) (.slice n 0 1))):=λ_=>rfl;have D6:=c.D.new (.cells 3 1 true false [V.I ((fx ops f).1:Nat)]);have u:=c.D.xE (.cells 3 1 true false [V.I ((fx ops f).1:Nat)]);have v:=c.step u D6 (oK _ _) c.gl c.hq rfl;have g6:(e.new (.cells 3 1 true false [V.I ((fx ops f).1:Nat)])).get e.next=_:=fg _ _;refine ed (eP _) ⟨by simp_all,j5 I (fm _ hl),D6.yL,v.nW,?_⟩
    have hs:iA eN (fz r e.next) (e.new (.cells 3 1 true false [V.I ((fx ops f).1:Nat)])) [(fx ops f).1] (.slice e.next 0 1):=
      .inr ⟨e.next,0,3,true,false,[V.I ((fx ops f).1:Nat)],rfl,.inr rfl,g6,.inr rfl,LK _,⟨_,[],rfl,rfl,trivial⟩⟩
    refine Hm v (j.one) (by omega) ⟨_,rfl,hs⟩ λh7 R7 k7 _ q7=>⟨k7.next,?_⟩
    exact fin (fz r e.next) h7 R7 _ (oK _ _) ((g.trans (u.gm _) λ_ h=>h).trans (k7.gm _) (oK _ _)) q7 (by simp_all[qa,if_neg,if_pos]) (j.one.put _)
   refine fP (fT (by omega) ?_);by_cases c6:kd=17
   ·refine fP (gw (by omega) ?_)
    refine ed d.nW (ed d.HH ?_);show cP CS fL [.ptr L.lu 0,.ptr L.oJ 0,.ptr L.hO 0] A _;refine K1 d j.k0 (by have:=j.k;grind) (by have:=j.st;grind) w λN e R5 z g c _=>⟨g.next,?_⟩
    have c:Dq N G e L ops {t with s:=(ft ops f).2} R5:=c;have eP:∀n:Nat,fR [(V.I 0),(V.I 0),(V.I 0),(V.I 0),V.ee,(V.I 0)] [(0,1),(1,1),(2,1),(3,1),(4,1),(5,1)] [(0,(V.I 22)),(1,.I (a:Nat)),(5,.I (n:Nat))]=some (.agg (lT (vl 22 a 0 0 [] n) .ee)):=λ_=>rfl;refine ed (eP _) ⟨c.nW,?_⟩;refine Hm c (j.state ops) (by omega) ⟨_,rfl,.nil⟩ λy R6 u _ v=>⟨u.next,?_⟩
    exact fin N y R6 _ z (g.trans (u.gm _) z) v (by simp_all[qa,if_neg,if_pos]) (zbS j ops _)
   refine fP (fT (by omega) ?_);by_cases c7:kd=18
   ·refine fP (gw (by omega) ?_)
    refine ed d.nW (ed d.HH ?_);show cP CS fL [.ptr L.lu 0,.ptr L.oJ 0,.ptr L.hO 0] A _;refine K1 d j.k0 (by have:=j.k;grind) (by have:=j.st;grind) w λN e R5 z g c _=>⟨g.next,?_⟩
    have c:Dq N G e L ops {t with s:=(ft ops f).2} R5:=c;have eP:∀n:Nat,fR [(V.I 0),(V.I 0),(V.I 0),(V.I 0),V.ee,(V.I 0)] [(0,1),(1,1),(2,1),(3,1),(4,1),(5,1)] [(0,(V.I 23)),(5,.I (n:Nat))]=some (.agg (lT (vl 23 0 0 0 [] n) .ee)):=λ_=>rfl;refine ed (eP _) ⟨c.nW,?_⟩;refine Hm c (j.state ops) (by omega) ⟨_,rfl,.nil⟩ λy R6 u _ v=>⟨u.next,?_⟩
    exact fin N y R6 _ z (g.trans (u.gm _) z) v (by simp_all[qa,if_neg,if_pos]) (zbS j ops _)
   refine fP (fT (by omega) ?_);refine ed d.D.yL (ed d.nW (ed d.ud ?_));show cP CS fc [.I ((2:Nat):Int),.ptr L.mA 0,.ptr L.lr 0] A _;refine wq d (by decide) (by decide) w λe g c=>⟨g.next,?_⟩
   have c:Dq r G e L ops {t with s:=(num ops f 2).2} R1:=c;have hd:(draw ops f.pos 2).1<2:=by simp_all[wo]
   refine kh (n:=15) (by decide) (by grind) ?_;have eP:∀o:Nat,fR [(V.I 0),(V.I 0),(V.I 0),(V.I 0),V.ee,(V.I 0)] [(0,1),(1,1),(2,1),(3,1),(4,1),(5,1)] [(0,.I (o:Nat)),(1,.I (a:Nat))]=some (.agg (lT (vl o a 0 0 [] 0) .ee)):=λ_=>rfl;refine ed (eP _) ⟨c.nW,c.D.yL,?_⟩;exact EJ c (j.num _) (by omega) ⟨_,rfl,.nil⟩ λy R6 u v=>fin r y R6 _ (by simp_all) (g.trans (u.gm _) λ_ h=>h) v (by unfold qa;rw[if_neg c0,if_neg c1,if_neg c2,if_neg c3,if_neg c4,if_neg c5,if_neg c6,if_neg c7];rfl) ((j.num _).iz _)
end
open Un
structure EP (s s':Ds):Prop where
 k:∃l,s'.known=s.known++l
 v:∃l,s'.ef=s.ef++l
theorem EP.refl(s:Ds):EP s s:=⟨by simp_all,by simp_all⟩
theorem EP.trans{s s' c:Ds}(a:EP s s')(b:EP s' c):EP s c:=by
 obtain⟨⟨d,e⟩,⟨f,g⟩⟩:=a;obtain⟨⟨h,i⟩,⟨j,k⟩⟩:=b;exact⟨by simp_all,by simp_all⟩
theorem EP.kl{s s':Ds}(a:EP s s'):s.known.length<=s'.known.length:=by
 obtain⟨⟨b,c⟩,_⟩:=a
 simp_all
theorem IA(ops:List Int)(s:Ds):EP s (ft ops s).2:=by
 obtain⟨p,a⟩:=DS ops (num ops s 4).1 (num ops s 4).2 [];unfold ft;simp only[a];exact⟨by simp_all[num],by simp_all[num]⟩
theorem DV(s:Ds)(x:Vl):EP s (iz s x):=⟨⟨_,rfl⟩,⟨_,rfl⟩⟩
theorem JQ(s:Ds)(x:Vl):EP s (put s x):=⟨by simp_all[put],⟨_,rfl⟩⟩
theorem EG(ops:List Int)(s:Ds)(m:Nat):EP s (num ops s m).2:=⟨by simp_all[num],by simp_all[num]⟩
theorem NT(ops:List Int)(s:Ds):EP s (fx ops s).2:=⟨by simp_all[fx],by simp_all[fx]⟩
theorem U8(ops:List Int)(s:Ds)(k a b:Nat):EP s (qa ops s k a b):=by
 unfold qa;split
 ·grind[DV]
 split
 ·exact(EG _ _ _).trans (DV _ _)
 split
 ·exact(EG _ _ _).trans (DV _ _)
 split
 ·grind[DV]
 split
 ·exact(EG _ _ _).trans (JQ _ _)
 split
 ·exact(NT _ _).trans (JQ _ _)
 split
 ·exact(IA _ _).trans (JQ _ _)
 split
 ·exact(IA _ _).trans (JQ _ _)
 ·exact(EG _ _ _).trans (DV _ _)
theorem Px(ops:List Int):∀(i:Nat)(s:Ds),EP s (rows ops i s)
 |0,s=> .refl s
 | i+1,s=>by
   unfold rows;split
   ·exact(((NT ops s).trans (NT ops _)).trans ((EG ops _ 20).trans (U8 _ _ _ _ _))).trans (Px ops i _)
   ·exact .refl s
theorem Es(ops:List Int)(s:Ds):EP s (row ops s):=(EG ops s 6).trans (Px ops _ _)
def Il(L:Lc):V:= .func iW [] [.ptr L.oJ 0,.ptr L.lu 0,.ptr L.hO 0,.ptr L.xQ 0,.ptr L.Sg 0]
def GJ(L:Lc):V:= .func jJ [] [.ptr L.iU 0,.ptr L.lu 0]
def gJ(xs:List Nat):List V:=xs.map λn=> .I (n:Nat)
section
variable{F F' G G':Nat->Prop}{h h':Hp}{L:Lc}{ops:List Int}{t t':Dt}{R R':Rw}{Q:fo}
theorem Db(q:Dq F G h L ops t R)(xs:List Nat):Dq (fz F h.next) G (h.new (.cells 3 1 true false (gJ xs))) L ops t R/\iA eN (fz F h.next) (h.new (.cells 3 1 true false (gJ xs))) xs (.slice h.next 0 xs.length)/\Kp F G h (h.new (.cells 3 1 true false (gJ xs))):=by
 have k:=q.D.xE (.cells 3 1 true false (gJ xs));exact⟨q.step k (q.D.new _) (oK _ _) q.gl q.hq rfl,.inr ⟨h.next,0,3,true,false,gJ xs,rfl,.inr rfl,fg _ _,.inr rfl,LK _,tP _ _ xs⟩,k⟩
theorem wR(q:Dq F G h L ops t R)(xs:List Nat){ps:Option (O×(Nat->V))}(d:ps=some (O.cells 3 1 true false (gJ xs),λl=> .slice l 0 xs.length)){K:Hp->Prop}
  (H:∀F' h' R',(∀l,F l->F' l)->Kp F G h h'->Dq F' G h' L ops {t with ez:=xs} R'->K h') :
  im ps h λv e=>oP (fH 4 (.ptr L.iU 0)) λf=>fi (gG 1 f v e) λ_ g=>K g:=by
 subst d;obtain⟨a,i,j⟩:=Db q xs;rw[fw,fJ,gW];have k:=mU (o:=4) (v:= .slice h.next 0 xs.length) (og:=[R.cc,.I 0,.I 0,.ee,.slice h.next 0 xs.length,.I 0]) a.D.gb (by simp) rfl rfl;obtain⟨b,m⟩:=a.D.ZE (c:=R.cc) i;rw[wX,k,ej];exact H _ _ _ (oK _ _) (j.trans b (oK _ _)) (a.step b m (by simp_all) q.gl a.hq rfl)
theorem Q1(q:Dq F G h L ops t R)(e:t.blocks.length<1000)(b:Bk){w nv:V}(f:w = .agg (lB b .ee nv .ee))(a:b.ef=[])(c:b.ez=[])(d:iA eN F h b.next nv){K:fo}
  (H:∀F' h' R',(∀l,F l->F' l)->Kp F G h h'->Dq F' G h' L ops {s:={t.s with cur:=[]},blocks:=t.blocks++[⟨t.s.cur,b.fin,b.cond,b.next,t.ez,b.state⟩],ez:=[]} R'->K (.I t.blocks.length) h') :
  gP CS (fU (GJ L) [w]) h K:=by
 subst f;exact zax (n:=0) q e a c d H
theorem DO(q:Dq F G h L ops t R)(b:ops.length<9223372036854775808){n:Nat}(c:Sm t.s n)(a:n<900){K:fo}
  (H:∀F' h' R',(∀l,F l->F' l)->Kp F (gm G L.mA) h h'->Dq F' G h' L ops {t with s:=row ops t.s} R'->Sm (row ops t.s) (n+6)->K (.tuple []) h') :
  gP CS (fU (Il L) []) h K:=Z5 q b c a H
theorem SN(q:Dq F G h L ops t R)(hk:0<t.s.known.length)(c:t.s.known.length<1000){K:V->Prop}(H:K (.I (t.s.known.getLastD 0:Nat))) :
  oP (ey (.ptr L.hO 0) h) λa=>oP (ey (.ptr L.hO 0) h) λb=>oP (fy b) λn=>oP (eo .sub 3 n (.I 1)) λi=>oP (gI 1 a i) λp=>oP (ey p h) K:=by
 obtain⟨l,o,_,_,d,e⟩:=q.EH (i:=t.s.known.length-1) (by omega);refine ed q.D.yL (ed q.D.yL (ed q.D.ok.len (xY (by omega) hk (ed d (ed e ?_)))))
 grind
theorem Oe(q:Dq F G h L ops t R){m:Nat}(c:m<=t.s.known.length){K:Hp->Prop}(H:∀h' R',Kp F G h h'->Dq F G h' L ops {t with s:=cut m t.s} R'->K h') :
  oP (ey (.ptr L.hO 0) h) λa=>oP (iK 1 a none (some (.I m)) h) λs=>fi (gG 1 (.ptr L.hO 0) s h) λ_ b=>K b:=by
 obtain⟨g,b,d,e,_,k,f⟩:=q.D.zch c;refine ed q.D.yL (ed d ?_);rw[e,ej];exact H _ _ k (q.step k f (by simp_all) q.gl q.hq rfl)
theorem Q9(q:Dq F G h L ops t R)(j:ops.length<9223372036854775808){n:Nat}(k:Sm t.s n)(d:n<1000){K:fo}
  (H:∀h',Kp F (gm G L.mA) h h'->Dq F G h' L ops {t with s:=(fx ops t.s).2} R->K (.I ((fx ops t.s).1:Nat)) h') :
  oP (ey (.ptr L.hO 0) h) λa=>oP (ey (.ptr L.oJ 0) h) λf=>oP (ey (.ptr L.hO 0) h) λb=>oP (fy b) λn=>gP CS (fU f [n]) h λi c=>(h.next<=c.next/\oP (gI 1 a i) λp=>oP (ey p c) λv=>((ey (.ptr L.hO 0) c=some a)/\K v c)):=by
 refine ed q.D.yL (ed q.ud (ed q.D.yL (ed q.D.ok.len ?_)));show cP CS fc [.I t.s.known.length,.ptr L.mA 0,.ptr L.lr 0] h _;exact K2 q j k d λc l o e g _ m r=>⟨e.next,ed m (ed r ⟨g.D.yL,H _ e g⟩)⟩
theorem KV(q:Dq F G h L ops t R)(e:ops.length<9223372036854775808){n:Nat}(d:Sm t.s n)(f:n<999){K:fo}
  (H:∀F' h' R',(∀l,F l->F' l)->Kp F (gm G L.mA) h h'->Dq F' G h' L ops {t with s:=(ft ops t.s).2} R'->Sm (ft ops t.s).2 (n+1)->K (.I ((ft ops t.s).1:Nat)) h') :
  gP CS (fU (Rk L) []) h K:=by
 show cP CS fL [.ptr L.lu 0,.ptr L.oJ 0,.ptr L.hO 0] h _;have g:=d.k;have i:=d.st;exact K1 q d.k0 (by omega) (by omega) e λF' h' R' a b c _=>H F' h' R' a b c (d.state ops)
theorem Sm.end_{t:Dt}{n:Nat}(a:Sm t.s n)(f c:Nat)(nx:List Nat)(s:Nat)(p:List Nat):Sm (Un.end_ t f c nx s p).s n:=⟨a.v,LK _,a.k,a.st,a.k0⟩
theorem Sm.cut{s:Ds}{n m:Nat}(a:Sm s n)(h0:0<m)(b:m<=s.known.length):Sm (Un.cut m s) n:=
 ⟨a.v,a.c,by show(s.known.take m).length<=n;rw[KN];have:=a.k;omega,a.st,by show 0<(s.known.take m).length;simp_all⟩
theorem Sm.setArgs{s:Ds}{n:Nat}(a:Sm s n)(v:Nat)(l:List Nat):Sm (Un.setArgs s v l) n:=⟨by rw[(B1 s v l).1];exact a.v,a.c,a.k,a.st,a.k0⟩
theorem BE(q:Dq F G h L ops t R)(d:t.blocks.length<1000)(fin cond:Nat)(nx:List Nat)(state:Nat){ps:Option (O×(Nat->V))}(e:ps=some (O.cells 3 1 true false (gJ nx),λl=> .slice l 0 nx.length)){B:V->Option V}
  (f:∀m,B (.slice m 0 nx.length)=some (.agg (lB ⟨[],fin,cond,nx,[],state⟩ .ee (.slice m 0 nx.length) .ee))) {K:fo}
  (H:∀F' h' R',(∀l,F l->F' l)->Kp F G h h'->Dq F' G h' L ops {s:={t.s with cur:=[]},blocks:=t.blocks++[⟨t.s.cur,fin,cond,nx,t.ez,state⟩],ez:=[]} R'->K (.I t.blocks.length) h') :
  im ps h λv g=>oP (B v) λw=>gP CS (fU (GJ L) [w]) g K:=by
 subst e;obtain⟨i,j,k⟩:=Db q nx;rw[fw];refine ed (f _) ?_;exact Q1 i d ⟨[],fin,cond,nx,[],state⟩ rfl rfl rfl j λF' h' R' a b c=>H F' h' R' (by grind[oK]) (k.trans b (oK _ _)) c
end
open Un
section
variable{F F' G G':Nat->Prop}{h h':Hp}{L:Lc}{ops:List Int}{t t':Dt}{R R':Rw}{Q:fo}
theorem UX(q:Dq F G h L ops t R){t':Dt}(e:t=t'):Dq F G h L ops t' R:=e▸q
theorem kgm{F F' G:Nat->Prop}{h h' b:Hp}{a:Nat}(x:Kp F (gm G a) h h')(y:Kp F' G h' b)(c:∀l,F l->F' l):Kp F (gm G a) h b:=x.trans (y.gm a) c
theorem YF(q:Dq F G h L ops t R)(ho:ops.length<9223372036854775808){n:Nat}(hn:Sm t.s n)(cb:n<800)(hb:t.blocks.length<900){K:Hp->Prop}
  (H:∀F' h' R',(∀l,F l->F' l)->Kp F (gm G L.mA) h h'->Dq F' G h' L ops (fork ops t) R'->Sm (fork ops t).s (n+30)->K h') :
  oP (ey (.ptr L.hO 0) h) λw=>
  oP (ey (.ptr L.oJ 0) h) λY=>
  oP (ey (.ptr L.hO 0) h) λZ=>
  oP (fy Z) λaa=>
  gP CS (fU Y [aa]) h λab x=>
  (h.next<=x.next/\
  oP (gI 1 w ab) λac=>
  oP (ey ac x) λae=>
  ((ey (.ptr L.hO 0) x=some w)/\
  oP (ey (.ptr L.hO 0) x) λag=>
  oP (fy ag) λy=>
  oP (fH 3 (.ptr L.lu 0)) λah=>
  oP (ey ah x) λai=>
  oP (fy ai) λaj=>
  oP (eo .add 3 aj (V.I 1)) λak=>
  oP (fH 3 (.ptr L.lu 0)) λal=>
  oP (ey al x) λam=>
  oP (fy am) λan=>
  oP (eo .add 3 an (V.I 2)) λao=>
  im (ji 3 1 2 (V.I 0) [(0,ak),(1,ao)]) x λap h3=>
  oP (fR [V.ee,(V.I 0),(V.I 0),V.ee,V.ee,(V.I 0)] [(0,1),(1,1),(2,1),(3,1),(4,1),(5,1)] [(1,(V.I 2)),(2,ae),(3,ap)]) λaq=>
  gP CS (fU (GJ L) [aq]) h3 λz h4=>
  im (ji 3 1 1 (V.I 0) [(0,z)]) h4 λar h5=>
  oP (fH 4 (.ptr L.iU 0)) λau=>
  fi (gG 1 au ar h5) λvu h6=>
  gP CS (fU (Il L) []) h6 λbW E=>
  oP (ey (.ptr L.hO 0) E) λaw=>
  oP (ey (.ptr L.hO 0) E) λax=>
  oP (fy ax) λay=>
  oP (eo .sub 3 ay (V.I 1)) λaA=>
  oP (gI 1 aw aA) λaB=>
  oP (ey aB E) λaC=>
  oP (ey (.ptr L.hO 0) E) λaD=>
  oP (iK 1 aD none (some y) E) λaE=>
  fi (gG 1 (.ptr L.hO 0) aE E) λbX h8=>
  oP (fH 3 (.ptr L.lu 0)) λaF=>
  oP (ey aF h8) λaG=>
  oP (fy aG) λaH=>
  oP (eo .add 3 aH (V.I 2)) λaI=>
  im (ji 3 1 1 (V.I 0) [(0,aI)]) h8 λaJ h9=>
  oP (fR [V.ee,(V.I 0),(V.I 0),V.ee,V.ee,(V.I 0)] [(0,1),(1,1),(2,1),(3,1),(4,1),(5,1)] [(1,(V.I 1)),(3,aJ)]) λaK=>
  gP CS (fU (GJ L) [aK]) h9 λaL aM=>
  im (ji 3 1 1 (V.I 0) [(0,z)]) aM λaN bz=>
  oP (fH 4 (.ptr L.iU 0)) λaO=>
  fi (gG 1 aO aN bz) λbY aP=>
  gP CS (fU (Il L) []) aP λbZ b=>
  oP (ey (.ptr L.hO 0) b) λaQ=>
  oP (ey (.ptr L.hO 0) b) λaR=>
  oP (fy aR) λaS=>
  oP (eo .sub 3 aS (V.I 1)) λaT=>
  oP (gI 1 aQ aT) λaU=>
  oP (ey aU b) λaV=>
  oP (ey (.ptr L.hO 0) b) λaW=>
  oP (iK 1 aW none (some y) b) λaX=>
  fi (gG 1 (.ptr L.hO 0) aX b) λb4 I=>
  oP (fH 3 (.ptr L.lu 0)) λaY=>
  oP (ey aY I) λaZ=>
  oP (fy aZ) λa4=>
  oP (eo .add 3 a4 (V.I 1)) λa5=>
  im (ji 3 1 1 (V.I 0) [(0,a5)]) I λa6 bA=>
  oP (fR [V.ee,(V.I 0),(V.I 0),V.ee,V.ee,(V.I 0)] [(0,1),(1,1),(2,1),(3,1),(4,1),(5,1)] [(1,(V.I 1)),(3,a6)]) λa7=>
  gP CS (fU (GJ L) [a7]) bA λa8 a9=>
  im (ji 3 1 2 (V.I 0) [(0,aL),(1,a8)]) a9 λba bC=>
  oP (fH 4 (.ptr L.iU 0)) λbb=>
  fi (gG 1 bb ba bC) λb5 a=>
  oP (ey (.ptr L.hO 0) a) λg=>
  oP (ey (.ptr L.xQ 0) a) λA=>
  xR (ji 3 1 2 (V.I 0) [(0,aC),(1,aV)]) a λo4 bc d=>
  oP (fR [(V.I 0),(V.I 0),(V.I 0),(V.I 0),V.ee,(V.I 0)] [(0,1),(1,1),(2,1),(3,1),(4,1),(5,1)] [(0,(V.I 21)),(4,bc)]) λbd=>
  ((d.get (a.next)=some o4/\O.beq o4 o4=true)/\
  ((ey (.ptr L.xQ 0) d=some A)/\
  ((ey (.ptr L.hO 0) d=some g)/\
  gP CS (fU A [bd]) d λbe J=>
  (d.next<=J.next/\
  xR (ji 3 1 1 (V.I 0) [(0,be)]) J λo7 bf o=>
  ((o.get (J.next)=some o7/\O.beq o7 o7=true)/\
  ((ey (.ptr L.hO 0) o=some g)/\
  fi (eQ 3 1 8 g bf o) λbg M=>
  (o.next<=M.next/\
  fi (gG 1 (.ptr L.hO 0) bg M) λb6 N=>
  (M.next<=N.next/\
  gP CS (fU (Il L) []) N λb7 P=>K P)))))))))):=by
 have bh:=hn.k0;have hk:=hn.k;refine Q9 q ho hn (by omega) λx k2 B=>?_;refine ed B.D.yL (ed B.D.ok.len ?_);refine ed (by rfl) (ed B.D.X1 (ed B.D.ob.len (kh (m:=1) (show t.blocks.length<_ by omega) (by omega) ?_)));refine ed (by rfl) (ed B.D.X1 (ed B.D.ob.len (kh (m:=2) (show t.blocks.length<_ by omega) (by omega) ?_)));have n2:Sm (fx ops t.s).2 n:=hn.one;refine BE B (show t.blocks.length<_ by omega) 2 (fx ops t.s).1 [t.blocks.length+1,t.blocks.length+2] 0 rfl (λ_=>rfl) λF4 h4 R4 f4 k4 q4=>?_;refine wR q4 [t.blocks.length] rfl λF6 h6 R6 f6 k6 q6=>?_;have q6:=UX (t':=end_ {t with s:=(fx ops t.s).2} 2 (fx ops t.s).1 [t.blocks.length+1,t.blocks.length+2] 0 [t.blocks.length]) q6 rfl;have n6:Sm (end_ {t with s:=(fx ops t.s).2} 2 (fx ops t.s).1 [t.blocks.length+1,t.blocks.length+2] 0 [t.blocks.length]).s n:=n2.end_ (t:={t with s:=(fx ops t.s).2}) _ _ _ _ _;have Q:(end_ {t with s:=(fx ops t.s).2} 2 (fx ops t.s).1 [t.blocks.length+1,t.blocks.length+2] 0 [t.blocks.length]).blocks.length=t.blocks.length+1:=by simp[end_]
 have cd:(end_ {t with s:=(fx ops t.s).2} 2 (fx ops t.s).1 [t.blocks.length+1,t.blocks.length+2] 0 [t.blocks.length]).s.known.length=t.s.known.length:=rfl;have c:fork ops t=fork ops t:=rfl
 conv at c=>rhs;unfold fork
 simp only at c;have el:({t with s:=(fx ops t.s).2}:Dt).s.known.length=t.s.known.length:=rfl;rw[el];have kA:=kgm k2 (k4.trans k6 f4) λ_ h=>h;have fA:∀l,F l->F6 l:=by simp_all
 generalize end_ {t with s:=(fx ops t.s).2} 2 (fx ops t.s).1 [t.blocks.length+1,t.blocks.length+2] 0 [t.blocks.length]=e at*;clear B q4 k2 k4 k6;refine DO q6 ho n6 (by omega) λF7 E R7 f7 k7 q7 n7=>?_;have x7:=Es ops e.s;have ce:=x7.kl;generalize row ops e.s=f at*;have cf:=n7.k;refine SN q7 (by grind) (by grind) ?_;refine Oe q7 (m:=t.s.known.length) (by simp_all) λh8 R8 k8 q8=>?_;have n8:Sm (cut t.s.known.length f) (n+6):=n7.cut bh (by omega);refine ed (by rfl) (ed q8.D.X1 (ed q8.D.ob.len (kh (m:=2) (show e.blocks.length<_ by omega) (by omega) ?_)));refine BE q8 (show e.blocks.length<_ by omega) 1 0 [t.blocks.length+3] 0 (by show ji 3 1 1 (V.I 0) [(0,.I ((e.blocks.length+2:Nat):Int))]=_;rw[Q];rfl) (λ_=>rfl) λcg aM CB ci bi bj=>?_;refine wR bj [t.blocks.length] rfl λbD aP ZH cj bm p=>?_;have p:=UX (t':=end_ {e with s:=cut t.s.known.length f} 1 0 [t.blocks.length+3] 0 [t.blocks.length]) p rfl;have bE:Sm (end_ {e with s:=cut t.s.known.length f} 1 0 [t.blocks.length+3] 0 [t.blocks.length]).s (n+6):=n8.end_ (t:={e with s:=cut t.s.known.length f}) _ _ _ _ _;have C:(end_ {e with s:=cut t.s.known.length f} 1 0 [t.blocks.length+3] 0 [t.blocks.length]).blocks.length=t.blocks.length+2:=by simp[end_,Q]
 have b8:(end_ {e with s:=cut t.s.known.length f} 1 0 [t.blocks.length+3] 0 [t.blocks.length]).s.known.length=t.s.known.length:=by
  show(f.known.take t.s.known.length).length=_;rw[KN];omega
 have bn:({e with s:=cut t.s.known.length f}:Dt).blocks.length=t.blocks.length+1:=Q;rw[bn];have S:({e with s:=f}:Dt).s.known.getLastD 0=f.known.getLastD 0:=rfl;rw[S];have kB:=(((kA.trans k7 fA).trans ((k8.gm L.mA).trans (bi.gm L.mA) λ_ h=>h) (by grind)).trans (bm.gm L.mA) (by grind))
 have fB:∀l,F l->bD l:=by grind
 generalize f.known.getLastD 0=W at*;generalize end_ {e with s:=cut t.s.known.length f} 1 0 [t.blocks.length+3] 0 [t.blocks.length]=i at*;clear q6 q7 q8 bj k7 k8 bi bm kA;refine DO p ho bE (by omega) λcl b R13 cm bo T bp=>?_;have bG:=Es ops i.s;have b9:=bG.kl;generalize row ops i.s=r at*;have ca:=bp.k;refine SN T (by grind) (by grind) ?_;refine Oe T (m:=t.s.known.length) (by simp_all) λI R14 br u=>?_;have bH:Sm (cut t.s.known.length r) (n+6+6):=bp.cut bh (by omega);refine ed (by rfl) (ed u.D.X1 (ed u.D.ob.len (kh (m:=1) (show i.blocks.length<_ by omega) (by omega) ?_)));refine BE u (show i.blocks.length<_ by omega) 1 0 [t.blocks.length+3] 0 (by show ji 3 1 1 (V.I 0) [(0,.I ((i.blocks.length+1:Nat):Int))]=_;rw[C];rfl) (λ_=>rfl) λcn a9 co cp bt bu=>?_;have bv:({i with s:=cut t.s.known.length r}:Dt).blocks.length=t.blocks.length+2:=C;rw[bv];refine wR bu [t.blocks.length+1,t.blocks.length+2] rfl λbI a R18 cq bw j=>?_;have j:=UX (t':=end_ {i with s:=cut t.s.known.length r} 1 0 [t.blocks.length+3] 0 [t.blocks.length+1,t.blocks.length+2]) j rfl;have bx:Sm (end_ {i with s:=cut t.s.known.length r} 1 0 [t.blocks.length+3] 0 [t.blocks.length+1,t.blocks.length+2]).s (n+12):=(bH.le (by omega)).end_ (t:={i with s:=cut t.s.known.length r}) _ _ _ _ _;have v:({i with s:=r}:Dt).s.known.getLastD 0=r.known.getLastD 0:=rfl;rw[v];have kC:=(((kB.trans bo fB).trans ((br.gm L.mA).trans (bt.gm L.mA) λ_ h=>h) (by simp_all)).trans (bw.gm L.mA) (by grind))
 have fC:∀l,F l->bI l:=by grind
 generalize r.known.getLastD 0=X at*;generalize end_ {i with s:=cut t.s.known.length r} 1 0 [t.blocks.length+3] 0 [t.blocks.length+1,t.blocks.length+2]=t3 at*;clear p T u bu bo br bt bw kB;refine ed j.D.yL (ed j.nW ?_);have e3:ji 3 1 2 (V.I 0) [(0,V.I W),(1,V.I X)]=some (.cells 3 1 true false (gJ [W,X]),λl=> .slice l 0 2):=rfl;rw[e3,ic];obtain⟨U,bJ,bK⟩:=Db j [W,X];have cr:(a.new (.cells 3 1 true false (gJ [W,X]))).get a.next=_:=fg _ _;have eP:∀n:Nat,fR [(V.I 0),(V.I 0),(V.I 0),(V.I 0),V.ee,(V.I 0)] [(0,1),(1,1),(2,1),(3,1),(4,1),(5,1)] [(0,(V.I 21)),(4,.slice n 0 2)]=some (.agg (lT (vl 21 0 0 0 [W,X] 0) (.slice n 0 2))):=λ_=>rfl;refine ed (eP _) ⟨by simp_all,U.nW,U.D.yL,?_⟩;generalize a.new (.cells 3 1 true false (gJ [W,X]))=d at*;refine EJ U bx (by omega) ⟨_,rfl,bJ⟩ λN ct bL bQ=>?_;refine DO bQ ho (bx.iz _) (by omega) λbR P bS cu bU cv bV=>?_;refine H bR P bS (by grind[oK]) ((kC.trans ((bK.gm L.mA).trans (bL.gm L.mA) (oK _ _)) fC).trans bU (by grind[oK])) (by simp_all) ?_;rw[c];exact bV.le (by omega)
end
open Un
section
variable{F F' G G':Nat->Prop}{h h':Hp}{L:Lc}{ops:List Int}{t t':Dt}{R R':Rw}{Q:fo}
theorem YG(q:Dq F G h L ops t R)(P:ops.length<9223372036854775808){n:Nat}(Q:Sm t.s n)(aL:n<800)(hb:t.blocks.length<900){K:Hp->Prop}
  (H:∀F' h' R',(∀l,F l->F' l)->Kp F (gm G L.mA) h h'->Dq F' G h' L ops (wC ops t) R'->Sm (wC ops t).s (n+30)->K h') :
  oP (ey (.ptr L.hO 0) h) λi=>
  oP (ey (.ptr L.oJ 0) h) λW=>
  oP (ey (.ptr L.hO 0) h) λX=>
  oP (fy X) λY=>
  gP CS (fU W [Y]) h λZ a=>
  (h.next<=a.next/\
  oP (gI 1 i Z) λaa=>
  oP (ey aa a) λab=>
  ((ey (.ptr L.hO 0) a=some i)/\
  oP (fH 3 (.ptr L.lu 0)) λac=>
  oP (ey ac a) λae=>
  oP (fy ae) λag=>
  oP (eo .add 3 ag (V.I 1)) λah=>
  oP (fH 3 (.ptr L.lu 0)) λai=>
  oP (ey ai a) λj=>
  oP (fy j) λo=>
  oP (eo .add 3 o (V.I 2)) λp=>
  im (ji 3 1 2 (V.I 0) [(0,ah),(1,p)]) a λr aj=>
  oP (fR [V.ee,(V.I 0),(V.I 0),V.ee,V.ee,(V.I 0)] [(0,1),(1,1),(2,1),(3,1),(4,1),(5,1)] [(1,(V.I 2)),(2,ab),(3,r)]) λu=>
  gP CS (fU (GJ L) [u]) aj λb v=>
  oP (ey (.ptr L.hO 0) v) λw=>
  oP (fy w) λx=>
  im (ji 3 1 1 (V.I 0) [(0,b)]) v λy ak=>
  oP (fH 4 (.ptr L.iU 0)) λz=>
  fi (gG 1 z y ak) λal am=>
  gP CS (fU (Il L) []) am λaI A=>
  oP (ey (.ptr L.Sg 0) A) λB=>
  gP CS (fU B []) A λC an=>
  oP (fR [V.ee,(V.I 0),(V.I 0),V.ee,V.ee,(V.I 0)] [(0,1),(1,1),(2,1),(3,1),(4,1),(5,1)] [(1,(V.I 3)),(5,C)]) λE=>
  gP CS (fU (GJ L) [E]) an λaJ d=>
  oP (ey (.ptr L.hO 0) d) λI=>
  oP (iK 1 I none (some x) d) λJ=>
  fi (gG 1 (.ptr L.hO 0) J d) λao ap=>
  im (ji 3 1 1 (V.I 0) [(0,b)]) ap λM aq=>
  oP (fH 4 (.ptr L.iU 0)) λN=>
  fi (gG 1 N M aq) λar au=>
  gP CS (fU (Il L) []) au λaK aw=>K aw)):=by
 have ax:=Q.k0;have hk:=Q.k;refine Q9 q P Q (by omega) λh2 S g=>?_;refine ed (by rfl) (ed g.D.X1 (ed g.D.ob.len (kh (m:=1) (show t.blocks.length<_ by omega) (by omega) ?_)));refine ed (by rfl) (ed g.D.X1 (ed g.D.ob.len (kh (m:=2) (show t.blocks.length<_ by omega) (by omega) ?_)));have n2:Sm (fx ops t.s).2 n:=Q.one;refine BE g (show t.blocks.length<_ by omega) 2 (fx ops t.s).1 [t.blocks.length+1,t.blocks.length+2] 0 rfl (λ_=>rfl) λF4 h4 R4 f4 k4 T=>?_;refine ed T.D.yL (ed T.D.ok.len ?_);refine wR T [t.blocks.length] rfl λF6 h6 R6 f6 k6 q6=>?_;have q6:=UX (t':=end_ {t with s:=(fx ops t.s).2} 2 (fx ops t.s).1 [t.blocks.length+1,t.blocks.length+2] 0 [t.blocks.length]) q6 rfl;have n6:Sm (end_ {t with s:=(fx ops t.s).2} 2 (fx ops t.s).1 [t.blocks.length+1,t.blocks.length+2] 0 [t.blocks.length]).s n:=n2.end_ (t:={t with s:=(fx ops t.s).2}) _ _ _ _ _;have aM:(end_ {t with s:=(fx ops t.s).2} 2 (fx ops t.s).1 [t.blocks.length+1,t.blocks.length+2] 0 [t.blocks.length]).blocks.length=t.blocks.length+1:=by simp[end_]
 have aN:(end_ {t with s:=(fx ops t.s).2} 2 (fx ops t.s).1 [t.blocks.length+1,t.blocks.length+2] 0 [t.blocks.length]).s.known.length=t.s.known.length:=rfl;have hx:wC ops t=wC ops t:=rfl
 conv at hx=>rhs;unfold wC
 simp only at hx;have kA:=kgm S (k4.trans k6 f4) λ_ h=>h;have fA:∀l,F l->F6 l:=by simp_all
 generalize end_ {t with s:=(fx ops t.s).2} 2 (fx ops t.s).1 [t.blocks.length+1,t.blocks.length+2] 0 [t.blocks.length]=c at*;clear g T S k4 k6;refine DO q6 P n6 (by omega) λF7 h7 R7 f7 k7 q7 n7=>?_;have x7:=Es ops c.s;have aO:=x7.kl;generalize row ops c.s=e at*;refine ed q7.HH ?_;refine KV q7 P n7 (by omega) λF8 h8 R8 f8 k8 q8 U=>?_;have x8:=IA ops e;have aP:=x8.kl;have e8:ft ops ({c with s:=e}:Dt).s=ft ops e:=rfl;rw[e8];have q8:Dq F8 G h8 L ops {c with s:=(ft ops e).2} R8:=q8;have U:Sm (ft ops e).2 (n+6+1):=U;generalize (ft ops e).2=s2 at*;generalize (ft ops e).1=O at*;have eB:fR [V.ee,(V.I 0),(V.I 0),V.ee,V.ee,(V.I 0)] [(0,1),(1,1),(2,1),(3,1),(4,1),(5,1)] [(1,(V.I 3)),(5,.I O)]=some (.agg (lB ⟨[],3,0,[],[],O⟩ .ee .ee .ee)):=rfl;refine ed eB ?_;have aQ:=U.k;refine Q1 q8 (show c.blocks.length<_ by omega) ⟨[],3,0,[],[],O⟩ rfl rfl rfl .nil λF9 h9 R9 f9 k9 q9=>?_;refine Oe q9 (m:=t.s.known.length) (by grind) λaR CB ay aA=>?_;refine wR aA [t.blocks.length] rfl λaS aT R11 aU aB f=>?_;have f:=UX (t':=end_ {c with s:=cut t.s.known.length s2} 3 0 [] O [t.blocks.length]) f rfl;have aC:Sm (end_ {c with s:=cut t.s.known.length s2} 3 0 [] O [t.blocks.length]).s (n+7):=(U.cut ax (by omega)).end_ (t:={c with s:=cut t.s.known.length s2}) _ _ _ _ _;refine DO f P aC (by omega) λaD aE ZH aV aF aW aG=>?_;have aH:∀l,F l->F8 l:=by grind
 refine H aD aE ZH (by grind) ?_ (by simp_all) ?_
 ·have k1:=(kA.trans k7 fA).trans k8 (by grind);have S:=((k9.gm L.mA).trans (ay.gm L.mA) f9).trans (aB.gm L.mA) f9;exact(k1.trans S aH).trans aF (by grind)
 ·rw[hx];exact aG.le (by omega)
end
