/- Parts. -/
import Derived.Test.YtpnddokajmjpbaaDoorM20
namespace Go.Proofs.YtpnddokajmjpbaaDoor.Hx
open Go.Proofs.YtpnddokajmjpbaaDoor.Un
theorem jH{b:Bool}{A B:Prop}(h:if b=true then A else B):bP (.bool b) A B:=by rw[gW];exact h
theorem RV (ops:List Int)(s:Ds):rows ops 0 s=s:=rfl
theorem SX (ops:List Int)(k:Nat)(s:Ds)(h:¬s.ee.length<200):rows ops k s=s:=by
 cases k with
 |zero=>rfl
 |succ k=>unfold rows;rw[if_neg h]
theorem SK (ops:List Int)(k:Nat)(s:Ds)(h:s.ee.length<200):rows ops (k+1) s=rows ops k (su ops s):=by
 conv=>lhs;unfold rows
 rw[if_pos h]
section
variable{F F' G G':Nat->Prop}{h h':Hp}{L:Lc}{ops:List Int}{t t':Dt}{R R':Rw}{Q:fx}
theorem Sm.one{s:Ds}{n:Nat}(a:Sm s n):Sm (fy ops s).2 n:=a.pos _
theorem Sm.num{s:Ds}{n:Nat}(a:Sm s n)(m:Nat):Sm (num ops s m).2 n:=a.pos _
theorem zav {s:Ds}{n:Nat}(a:Sm s n)(ops:List Int)(x:Vl):Sm (put (fw ops s).2 x) (n+1):=by
 obtain ⟨p,b⟩:=DO ops (num ops s 4).1 (num ops s 4).2 [];have e:(fw ops s).2 = {s with pos:=p,eh:=(fw ops s).2.eh}:=by
  unfold fw;simp only[b];rfl
 have h:=a.state ops;rw[e]at h⊢;exact⟨vF a.v,vF a.c,h.k,h.st,h.k0⟩
theorem YU (q:Dq F G h L ops t R)(w:ops.length<9223372036854775808){n:Nat}(hn:Sm t.s n)(ag:n<900)
  (H:∀F' h' R',(∀l,F l->F' l)->Kp F (gm G L.mj) h h'->Dq F' G h' L ops {t with s:=row ops t.s} R'->Sm (row ops t.s) (n+6)->Q (.tuple []) h') :
  cP CS jc [.ptr L.oG 0,.ptr L.lu 0,.ptr L.hX 0,.ptr L.xO 0,.ptr L.RI 0] h Q:=by
 refine BS rfl rfl ?_;unfold ug;refine ed q.uH ?_;show cP CS fi [.int .i64 ((6:Nat):Int),.ptr L.mj 0,.ptr L.lr 0] h _;refine vX q (by decide) (by decide) w λh0 k0 q0=>?_;have hr:(draw ops t.s.pos 6).1<6:=vY _ _ (by decide);refine j7 (n:=1) (by decide) (by omega) ?_
 refine y6 (λk W X Y Z x4 x5 h'=>∃(F':Nat->Prop) (R':Rw) (s:Ds),W = .ptr L.oG 0/\X = .ptr L.lu 0/\Y = .ptr L.hX 0/\Z = .ptr L.xO 0/\x4 = .ptr L.RI 0/\x5 = .int .i64 (k:Nat)/\(∀l,F l->F' l)/\
  Kp F (gm G L.mj) h h'/\Dq F' G h' L ops {t with s:=s} R'/\rows ops k s=row ops t.s/\∃m,Sm s m/\m+k<=n+6) ?_
  ⟨F,R,(num ops t.s 6).2,rfl,rfl,rfl,rfl,rfl,rfl,λ_ h=>h,k0,q0,rfl,n,hn.num 6,by omega⟩
 rintro k W X Y Z x4 x5 h' ⟨r,R1,s,rfl,rfl,rfl,rfl,rfl,rfl,J,k1,B,g,m,P,ah⟩;unfold qy;refine ed (by rw[pU]) ?_;have lv:=B.D.ov.len;have eA:jK (.bool (decide ((0:Int)<(k:Nat)))) (oB (fH 2 (.ptr L.lu 0)) λaa=>oB (ev aa h') λab=>oB (fD ab) λac=>er .lss 3 ac (V.int .i64 200))=some (.bool (decide ((0:Int)<(k:Nat))&&decide (((s.ee.length:Nat):Int)<200))):=by
  simp only[ez,fh,vI,B.D.Tl,lv,om,ji]
 refine ed eA (jH ?_)
 cases k with
 | zero=>
   refine gG (by simp) ?_;rw[RV]at g
   refine H r h' R1 J k1 (by rw[<-g];exact B) (by rw[<-g];exact P.le (by omega))
 | succ k=>
   by_cases IH:s.ee.length<200;rotate_left
   ·refine gG (by simp;omega) ?_
    rw[SX _ _ _ IH]at g;refine H r h' R1 J k1 (by rw[<-g];exact B) (by rw[<-g];exact P.le (by omega))
   refine ig (by simp;omega) ?_;have x:rows ops k (su ops s)=row ops t.s:=by rw[<-g,SK _ _ _ IH]
   clear g eA;refine ed B.D.yr (ed B.uH (ed B.D.yr (ed B.D.ok.len ?_)));show cP CS fi [.int .i64 (s.known.length:Nat),.ptr L.mj 0,.ptr L.lr 0] h' _;refine Kv B w P (by omega) λh2 l o k2 K _ i1 M=>⟨k2.next,ed i1 (ed M ⟨K.D.yr,?_⟩)⟩
   have M:True:=trivial;refine ed K.D.yr (ed K.uH (ed K.D.yr (ed K.D.ok.len ?_)));show cP CS fi [.int .i64 ((fy ops s).2.known.length:Nat),.ptr L.mj 0,.ptr L.lr 0] h2 _;refine Kv K w P.one (by omega) λh3 l' o' k3 q3 _ j1 j2=>⟨k3.next,ed j1 (ed j2 ⟨q3.D.yr,?_⟩)⟩
   refine ed q3.uH ?_;show cP CS fi [.int .i64 ((20:Nat):Int),.ptr L.mj 0,.ptr L.lr 0] h3 _;refine vX q3 (by decide) (by decide) w λC k4 d=>?_;have d:Dq r G C L ops {t with s:=(num ops (fy ops (fy ops s).2).2 20).2} R1:=d;have p:Sm (num ops (fy ops (fy ops s).2).2 20).2 m:=P.one.one.num 20;have kk:Kp F (gm G L.mj) h C:=((k1.trans k2 J).trans k3 J).trans k4 J;have y:su ops s=qK ops (num ops (fy ops (fy ops s).2).2 20).2 (num ops (fy ops (fy ops s).2).2 20).1 (fy ops s).1 (fy ops (fy ops s).2).1:=rfl;rw[y]at x;have ek:(draw ops ({t with s:=(fy ops ({t with s:=(fy ops ({t with s:=s}:Dt).s).2}:Dt).s).2}:Dt).s.pos 20).1=(num ops (fy ops (fy ops s).2).2 20).1:=rfl;rw[ek];clear ek;have ai:(num ops (fy ops (fy ops s).2).2 20).1<20:=vY _ _ (by decide);generalize (num ops (fy ops (fy ops s).2).2 20).2=e at*;generalize (num ops (fy ops (fy ops s).2).2 20).1=kd at*;have ea:(fy ops ({t with s:=s}:Dt).s).1=(fy ops s).1:=rfl;have eb:(fy ops ({t with s:=(fy ops ({t with s:=s}:Dt).s).2}:Dt).s).1=(fy ops (fy ops s).2).1:=rfl;rw[ea,eb];generalize (fy ops s).1=a at*;generalize (fy ops (fy ops s).2).1=b at*;clear q3 K B k1 k2 k3 k4 j1 j2 lv y
   have fin:∀(F2:Nat->Prop) (f:Hp) (R2:Rw) (S:Ds),(∀l,r l->F2 l)->Kp r (gm G L.mj) C f->Dq F2 G f L ops {t with s:=S} R2->S=qK ops e kd a b->Sm S (m+1)->
       fX CS Q (λW X Y Z x4 x5 hh=>∃k',k' < k+1/\∃(F':Nat->Prop) (R':Rw) (s:Ds),W = .ptr L.oG 0/\X = .ptr L.lu 0/\Y = .ptr L.hX 0/\Z = .ptr L.xO 0/\x4 = .ptr L.RI 0/\x5 = .int .i64 (k':Nat)/\(∀l,F l->F' l)/\
         Kp F (gm G L.mj) h hh/\Dq F' G hh L ops {t with s:=s} R'/\rows ops k' s=row ops t.s/\∃m,Sm s m/\m+k'<=n+6) (.ptr L.oG 0) (.ptr L.lu 0) (.ptr L.hX 0) (.ptr L.xO 0) (.ptr L.RI 0) (.int .i64 ((k+1:Nat):Int)) f:=by
     intro F2 f R2 S ae j c e5 m5;refine yZ ?_;unfold qj;refine vU (by omega) (by omega) ?_;exact⟨k,by omega,F2,R2,S,rfl,rfl,rfl,rfl,rfl,rfl,λl hl=>ae l (J l hl),kk.trans j J,c,by rw[e5];exact x,m+1,m5,by omega⟩
   by_cases E:kd<12
   ·refine gw ?_
    refine ed d.D.yr (ed d.ou (j7 (n:=3) (by decide) (by omega) ?_));have eP:∀o:Nat,fN [(V.int .i64 0),(V.int .i64 0),(V.int .i64 0),(V.int .i64 0),V.ec,(V.int .i64 0)] [(0,1),(1,1),(2,1),(3,1),(4,1),(5,1)] [(0,.int .i64 (o:Nat)),(1,.int .i64 (a:Nat)),(2,.int .i64 (b:Nat))]=some (.agg (ll (vl o a b 0 [] 0) .ec)):=λ_=>rfl;refine ed (eP _) ?_;exact El d p (by omega) ⟨_,rfl,.nil⟩ λf R5 j c=>fin r f R5 _ (λ_ h=>h) (j.gm _) c (by unfold qK;rw[if_pos E]) (p.il _)
   refine iC ?_;by_cases I:kd=12
   ·refine gO (ig (by omega) ?_)
    refine ed d.D.yr (ed d.ou (ed d.uH ?_));show cP CS fi [.int .i64 ((1048576:Nat):Int),.ptr L.mj 0,.ptr L.lr 0] C _;refine vX d (by decide) (by decide) w λf j c=>⟨j.next,?_⟩
    have c:Dq r G f L ops {t with s:=(num ops e 1048576).2} R1:=c;have hd:(draw ops e.pos 1048576).1<1048576:=vY _ _ (by decide);have ew:mO .i64 (((draw ops e.pos 1048576).1:Int)-9)=((draw ops e.pos 1048576).1:Int)-9:=yo (by simp only[Ux];omega);refine ed (by rw[uh]) ?_;rw[show(mO .i64 (((draw ops ({t with s:=e}:Dt).s.pos 1048576).1:Int)-9))=((draw ops e.pos 1048576).1:Int)-9 from ew];have eP:∀i:Int,fN [(V.int .i64 0),(V.int .i64 0),(V.int .i64 0),(V.int .i64 0),V.ec,(V.int .i64 0)] [(0,1),(1,1),(2,1),(3,1),(4,1),(5,1)] [(0,(V.int .i64 2)),(3,.int .i64 i)]=some (.agg (ll (vl 2 0 0 i [] 0) .ec)):=λ_=>rfl;refine ed (eP _) ⟨c.ou,c.D.yr,?_⟩;exact El c (p.num _) (by omega) ⟨_,rfl,.nil⟩ λz R6 u v=>fin r z R6 _ (λ_ h=>h) (j.trans (u.gm _) λ_ h=>h) v (by unfold qK;rw[if_neg E,if_pos I];rfl) ((p.num _).il _)
   refine gO (gG (by omega) ?_);by_cases c2:kd=13
   ·refine gO (ig (by omega) ?_)
    refine ed d.D.yr (ed d.ou (ed d.uH ?_));show cP CS fi [.int .i64 ((5:Nat):Int),.ptr L.mj 0,.ptr L.lr 0] C _;refine vX d (by decide) (by decide) w λf j c=>⟨j.next,?_⟩
    have c:Dq r G f L ops {t with s:=(num ops e 5).2} R1:=c;have eP:∀n:Nat,fN [(V.int .i64 0),(V.int .i64 0),(V.int .i64 0),(V.int .i64 0),V.ec,(V.int .i64 0)] [(0,1),(1,1),(2,1),(3,1),(4,1),(5,1)] [(0,(V.int .i64 17)),(1,.int .i64 (a:Nat)),(3,.int .i64 (n:Nat))]=some (.agg (ll (vl 17 a 0 (n:Nat) [] 0) .ec)):=λ_=>rfl;refine ed (eP _) ⟨c.ou,c.D.yr,?_⟩;exact El c (p.num _) (by omega) ⟨_,rfl,.nil⟩ λz R6 u v=>fin r z R6 _ (λ_ h=>h) (j.trans (u.gm _) λ_ h=>h) v (by unfold qK;rw[if_neg E,if_neg I,if_pos c2];rfl) ((p.num _).il _)
   refine gO (gG (by omega) ?_);by_cases N:kd=14
   ·refine gO (ig (by omega) ?_)
    refine ed d.D.yr (ed d.ou ?_);have eP:fN [(V.int .i64 0),(V.int .i64 0),(V.int .i64 0),(V.int .i64 0),V.ec,(V.int .i64 0)] [(0,1),(1,1),(2,1),(3,1),(4,1),(5,1)] [(0,(V.int .i64 18)),(1,.int .i64 (a:Nat)),(2,.int .i64 (b:Nat))]=some (.agg (ll (vl 18 a b 0 [] 0) .ec)):=rfl;refine ed eP ?_;exact El d p (by omega) ⟨_,rfl,.nil⟩ λf R5 j c=>fin r f R5 _ (λ_ h=>h) (j.gm _) c (by unfold qK;rw[if_neg E,if_neg I,if_neg c2,if_pos N]) (p.il _)
   refine gO (gG (by omega) ?_);by_cases T:kd=15
   ·refine gO (ig (by omega) ?_)
    refine ed d.ou (ed d.uH ?_);show cP CS fi [.int .i64 ((5:Nat):Int),.ptr L.mj 0,.ptr L.lr 0] C _;refine vX d (by decide) (by decide) w λf j c=>⟨j.next,?_⟩
    have c:Dq r G f L ops {t with s:=(num ops e 5).2} R1:=c;have eP:∀n:Nat,fN [(V.int .i64 0),(V.int .i64 0),(V.int .i64 0),(V.int .i64 0),V.ec,(V.int .i64 0)] [(0,1),(1,1),(2,1),(3,1),(4,1),(5,1)] [(0,(V.int .i64 19)),(1,.int .i64 (a:Nat)),(3,.int .i64 (n:Nat)),(2,.int .i64 (b:Nat))]=some (.agg (ll (vl 19 a b (n:Nat) [] 0) .ec)):=λ_=>rfl;refine ed (eP _) ⟨c.ou,?_⟩;refine GB c (p.num _) (by omega) ⟨_,rfl,.nil⟩ λz R6 u _ v=>⟨u.next,?_⟩
    exact fin r z R6 _ (λ_ h=>h) (j.trans (u.gm _) λ_ h=>h) v (by unfold qK;rw[if_neg E,if_neg I,if_neg c2,if_neg N,if_pos T];rfl) ((p.num _).put _)
   refine gO (gG (by omega) ?_);by_cases c5:kd=16
   ·refine gO (ig (by omega) ?_)
    refine ed d.ou (ed d.D.yr (ed d.uH (ed d.D.yr (ed d.D.ok.len ?_))));show cP CS fi [.int .i64 (e.known.length:Nat),.ptr L.mj 0,.ptr L.lr 0] C _;refine Kv d w p (by omega) λf l o j c hl i1 M=>⟨j.next,ed i1 (ed M ?_)⟩
    have c:Dq r G f L ops {t with s:=(fy ops e).2} R1:=c;have M:ev (.ptr l o) f=some (.int .i64 ((fy ops e).1:Nat)):=M;have e3:iZ 3 1 1 (V.int .i64 0) [(0,V.int .i64 ((fy ops e).1:Nat))]=some (.cells 3 1 true false [V.int .i64 ((fy ops e).1:Nat)],λl=> .slice l 0 1):=rfl;show wS (iZ 3 1 1 (V.int .i64 0) [(0,V.int .i64 ((fy ops e).1:Nat))]) f _;rw[e3,gY];have eP:∀n:Nat,fN [(V.int .i64 0),(V.int .i64 0),(V.int .i64 0),(V.int .i64 0),V.ec,(V.int .i64 0)] [(0,1),(1,1),(2,1),(3,1),(4,1),(5,1)] [(0,(V.int .i64 20)),(1,.int .i64 (a:Nat)),(2,.int .i64 (b:Nat)),(4,.slice n 0 1)]=some (.agg (ll (vl 20 a b 0 [(fy ops e).1] 0) (.slice n 0 1))):=λ_=>rfl;have D6:=c.D.new (.cells 3 1 true false [V.int .i64 ((fy ops e).1:Nat)]);have u:=c.D.xG (.cells 3 1 true false [V.int .i64 ((fy ops e).1:Nat)]);have v:=c.step u D6 (oT _ _) c.gl c.hq rfl;have g6:(f.new (.cells 3 1 true false [V.int .i64 ((fy ops e).1:Nat)])).get f.next=_:=fg _ _;refine ed (eP _) ⟨⟨g6,O.gL _ _ _ _ _⟩,jj M (fk _ hl),D6.yr,v.ou,?_⟩
    have hs:ik eN (fz r f.next) (f.new (.cells 3 1 true false [V.int .i64 ((fy ops e).1:Nat)])) [(fy ops e).1] (.slice f.next 0 1):=
      .inr ⟨f.next,0,3,true,false,[V.int .i64 ((fy ops e).1:Nat)],rfl,.inr rfl,g6,.inr rfl,Gl _,⟨_,[],rfl,rfl,trivial⟩⟩
    refine GB v (p.one) (by omega) ⟨_,rfl,hs⟩ λh7 R7 k7 _ q7=>⟨k7.next,?_⟩
    exact fin (fz r f.next) h7 R7 _ (oT _ _) ((j.trans (u.gm _) λ_ h=>h).trans (k7.gm _) (oT _ _)) q7 (by unfold qK;rw[if_neg E,if_neg I,if_neg c2,if_neg N,if_neg T,if_pos c5]) (p.one.put _)
   refine gO (gG (by omega) ?_);by_cases c6:kd=17
   ·refine gO (ig (by omega) ?_)
    refine ed d.ou (ed d.GV ?_);show cP CS fL [.ptr L.lu 0,.ptr L.oG 0,.ptr L.hX 0] C _;refine KM d p.k0 (by have:=p.k;show e.known.length<_;omega) (by have:=p.st;show e.eh.length<_;omega) w λU f R5 A j c _=>⟨j.next,?_⟩
    have c:Dq U G f L ops {t with s:=(fw ops e).2} R5:=c;have eP:∀n:Nat,fN [(V.int .i64 0),(V.int .i64 0),(V.int .i64 0),(V.int .i64 0),V.ec,(V.int .i64 0)] [(0,1),(1,1),(2,1),(3,1),(4,1),(5,1)] [(0,(V.int .i64 22)),(1,.int .i64 (a:Nat)),(5,.int .i64 (n:Nat))]=some (.agg (ll (vl 22 a 0 0 [] n) .ec)):=λ_=>rfl;refine ed (eP _) ⟨c.ou,?_⟩;refine GB c (p.state ops) (by omega) ⟨_,rfl,.nil⟩ λz R6 u _ v=>⟨u.next,?_⟩
    exact fin U z R6 _ A (j.trans (u.gm _) A) v (by unfold qK;rw[if_neg E,if_neg I,if_neg c2,if_neg N,if_neg T,if_neg c5,if_pos c6]) (zav p ops _)
   refine gO (gG (by omega) ?_);by_cases c7:kd=18
   ·refine gO (ig (by omega) ?_)
    refine ed d.ou (ed d.GV ?_);show cP CS fL [.ptr L.lu 0,.ptr L.oG 0,.ptr L.hX 0] C _;refine KM d p.k0 (by have:=p.k;show e.known.length<_;omega) (by have:=p.st;show e.eh.length<_;omega) w λU f R5 A j c _=>⟨j.next,?_⟩
    have c:Dq U G f L ops {t with s:=(fw ops e).2} R5:=c;have eP:∀n:Nat,fN [(V.int .i64 0),(V.int .i64 0),(V.int .i64 0),(V.int .i64 0),V.ec,(V.int .i64 0)] [(0,1),(1,1),(2,1),(3,1),(4,1),(5,1)] [(0,(V.int .i64 23)),(5,.int .i64 (n:Nat))]=some (.agg (ll (vl 23 0 0 0 [] n) .ec)):=λ_=>rfl;refine ed (eP _) ⟨c.ou,?_⟩;refine GB c (p.state ops) (by omega) ⟨_,rfl,.nil⟩ λz R6 u _ v=>⟨u.next,?_⟩
    exact fin U z R6 _ A (j.trans (u.gm _) A) v (by unfold qK;rw[if_neg E,if_neg I,if_neg c2,if_neg N,if_neg T,if_neg c5,if_neg c6,if_pos c7]) (zav p ops _)
   refine gO (gG (by omega) ?_);refine ed d.D.yr (ed d.ou (ed d.uH ?_));show cP CS fi [.int .i64 ((2:Nat):Int),.ptr L.mj 0,.ptr L.lr 0] C _;refine vX d (by decide) (by decide) w λf j c=>⟨j.next,?_⟩
   have c:Dq r G f L ops {t with s:=(num ops e 2).2} R1:=c;have hd:(draw ops e.pos 2).1<2:=vY _ _ (by decide);refine j7 (n:=15) (by decide) (by show(draw ops e.pos 2).1<_;omega) ?_;have eP:∀o:Nat,fN [(V.int .i64 0),(V.int .i64 0),(V.int .i64 0),(V.int .i64 0),V.ec,(V.int .i64 0)] [(0,1),(1,1),(2,1),(3,1),(4,1),(5,1)] [(0,.int .i64 (o:Nat)),(1,.int .i64 (a:Nat))]=some (.agg (ll (vl o a 0 0 [] 0) .ec)):=λ_=>rfl;refine ed (eP _) ⟨c.ou,c.D.yr,?_⟩;exact El c (p.num _) (by omega) ⟨_,rfl,.nil⟩ λz R6 u v=>fin r z R6 _ (λ_ h=>h) (j.trans (u.gm _) λ_ h=>h) v (by unfold qK;rw[if_neg E,if_neg I,if_neg c2,if_neg N,if_neg T,if_neg c5,if_neg c6,if_neg c7];rfl) ((p.num _).il _)
end
open Go.Proofs.YtpnddokajmjpbaaDoor.Un
structure CD (s a:Ds):Prop where
 k:∃l,a.known=s.known++l
 v:∃l,a.ee=s.ee++l
theorem CD.refl (s:Ds):CD s s:=⟨⟨[],by simp⟩,⟨[],by simp⟩⟩
theorem CD.trans {s d c:Ds}(a:CD s d)(b:CD d c):CD s c:=by
 obtain⟨⟨e,f⟩,⟨g,h⟩⟩:=a;obtain⟨⟨i,j⟩,⟨k,l⟩⟩:=b;exact⟨⟨e++i,by rw[j,f,Cy]⟩,⟨g++k,by rw[l,h,Cy]⟩⟩
theorem CD.kl {s b:Ds}(a:CD s b):s.known.length<=b.known.length:=by
 obtain⟨⟨d,c⟩,_⟩:=a;rw[c,zL];omega
theorem CD.vl {s b:Ds}(a:CD s b):s.ee.length<=b.ee.length:=by
 obtain⟨_,⟨d,c⟩⟩:=a;rw[c,zL];omega
theorem HO (ops:List Int)(s:Ds):CD s (fw ops s).2:=by
 obtain⟨p,a⟩:=DO ops (num ops s 4).1 (num ops s 4).2 [];unfold fw;simp only[a];exact⟨⟨[],by simp[num]⟩,⟨[],by simp[num]⟩⟩
theorem C9 (s:Ds)(x:Vl):CD s (il s x):=⟨⟨_,rfl⟩,⟨_,rfl⟩⟩
theorem Jd (s:Ds)(x:Vl):CD s (put s x):=⟨⟨[],by simp[put]⟩,⟨_,rfl⟩⟩
theorem Er (ops:List Int)(s:Ds)(m:Nat):CD s (num ops s m).2:=⟨⟨[],by simp[num]⟩,⟨[],by simp[num]⟩⟩
theorem Mx (ops:List Int)(s:Ds):CD s (fy ops s).2:=⟨⟨[],by simp[fy]⟩,⟨[],by simp[fy]⟩⟩
theorem U7 (ops:List Int)(s:Ds)(k a b:Nat):CD s (qK ops s k a b):=by
 unfold qK;split
 ·exact C9 _ _
 split
 ·exact(Er _ _ _).trans (C9 _ _)
 split
 ·exact(Er _ _ _).trans (C9 _ _)
 split
 ·exact C9 _ _
 split
 ·exact(Er _ _ _).trans (Jd _ _)
 split
 ·exact(Mx _ _).trans (Jd _ _)
 split
 ·exact(HO _ _).trans (Jd _ _)
 split
 ·exact(HO _ _).trans (Jd _ _)
 ·exact(Er _ _ _).trans (C9 _ _)
theorem N7 (ops:List Int):∀(i:Nat)(s:Ds),CD s (rows ops i s)
 |0,s=> .refl s
 | i+1,s=>by
   unfold rows;split
   ·exact(((Mx ops s).trans (Mx ops _)).trans ((Er ops _ 20).trans (U7 _ _ _ _ _))).trans (N7 ops i _)
   ·exact .refl s
theorem Eb (ops:List Int)(s:Ds):CD s (row ops s):=(Er ops s 6).trans (N7 ops _ _)
def Hw (L:Lc):V:= .func jc [] [.ptr L.oG 0,.ptr L.lu 0,.ptr L.hX 0,.ptr L.xO 0,.ptr L.RI 0]
def Gb (L:Lc):V:= .func jF [] [.ptr L.iX 0,.ptr L.lu 0]
def gN (xs:List Nat):List V:=xs.map λn=> .int .i64 (n:Nat)
section
variable{F F' G G':Nat->Prop}{h h':Hp}{L:Lc}{ops:List Int}{t t':Dt}{R R':Rw}{Q:fx}
theorem C8 (q:Dq F G h L ops t R)(xs:List Nat):Dq (fz F h.next) G (h.new (.cells 3 1 true false (gN xs))) L ops t R/\ik eN (fz F h.next) (h.new (.cells 3 1 true false (gN xs))) xs (.slice h.next 0 xs.length)/\Kp F G h (h.new (.cells 3 1 true false (gN xs))):=by
 have k:=q.D.xG (.cells 3 1 true false (gN xs));exact⟨q.step k (q.D.new _) (oT _ _) q.gl q.hq rfl,.inr ⟨h.next,0,3,true,false,gN xs,rfl,.inr rfl,fg _ _,.inr rfl,Gl _,wo _ _ xs⟩,k⟩
theorem wk (q:Dq F G h L ops t R)(xs:List Nat){ps:Option (O×(Nat->V))}(hx:ps=some (O.cells 3 1 true false (gN xs),λl=> .slice l 0 xs.length)){K:Hp->Prop}
  (H:∀F' h' R',(∀l,F l->F' l)->Kp F G h h'->Dq F' G h' L ops {t with fe:=xs} R'->K h') :
  ij ps h λv d=>oP (fH 4 (.ptr L.iX 0)) λe=>fm (gB 1 e v d) λ_ f=>K f:=by
 subst hx;obtain⟨a,g,i⟩:=C8 q xs;rw[fq,ez,gI];have j:=mV (o:=4) (v:= .slice h.next 0 xs.length) (mR:=[R.cc,.int .i64 0,.int .i64 0,.ec,.slice h.next 0 xs.length,.int .i64 0]) a.D.gb (by simp) rfl rfl;obtain⟨b,k⟩:=a.D.X8 (c:=R.cc) g;rw[vI,j,ef];exact H _ _ _ (oT _ _) (i.trans b (oT _ _)) (a.step b k (λ_ h=>h) q.gl a.hq rfl)
theorem Pm (q:Dq F G h L ops t R)(e:t.blocks.length<1000)(b:Bk){w nv:V}(f:w = .agg (kM b .ec nv .ec))(a:b.ee=[])(c:b.fe=[])(d:ik eN F h b.next nv){K:fx}
  (H:∀F' h' R',(∀l,F l->F' l)->Kp F G h h'->Dq F' G h' L ops {s:={t.s with cur:=[]},blocks:=t.blocks++[⟨t.s.cur,b.fin,b.cond,b.next,t.fe,b.state⟩],fe:=[]} R'->K (.int .i64 t.blocks.length) h') :
  gU CS (fU (Gb L) [w]) h K:=by
 subst f;exact Yz (n:=0) q e a c d H
theorem DN (q:Dq F G h L ops t R)(b:ops.length<9223372036854775808){n:Nat}(c:Sm t.s n)(a:n<900){K:fx}
  (H:∀F' h' R',(∀l,F l->F' l)->Kp F (gm G L.mj) h h'->Dq F' G h' L ops {t with s:=row ops t.s} R'->Sm (row ops t.s) (n+6)->K (.tuple []) h') :
  gU CS (fU (Hw L) []) h K:=YU q b c a H
theorem RK (q:Dq F G h L ops t R)(c:0<t.s.known.length)(d:t.s.known.length<1000){K:V->Prop}(H:K (.int .i64 (t.s.known.getLastD 0:Nat))) :
  oP (ev (.ptr L.hX 0) h) λa=>oP (ev (.ptr L.hX 0) h) λb=>oP (fD b) λn=>oP (er .sub 3 n (.int .i64 1)) λi=>oP (gD 1 a i) λp=>oP (ev p h) K:=by
 obtain⟨l,o,_,_,e,f⟩:=q.DZ (i:=t.s.known.length-1) (by omega);refine ed q.D.yr (ed q.D.yr (ed q.D.ok.len (vU (by omega) c (ed e (ed f ?_)))));rw[vV _ c];exact H
theorem Nk (q:Dq F G h L ops t R){m:Nat}(c:m<=t.s.known.length){K:Hp->Prop}(H:∀h' R',Kp F G h h'->Dq F G h' L ops {t with s:=cut m t.s} R'->K h') :
  oP (ev (.ptr L.hX 0) h) λa=>oP (iJ 1 a none (some (.int .i64 m)) h) λs=>fm (gB 1 (.ptr L.hX 0) s h) λ_ b=>K b:=by
 obtain⟨g,b,d,e,_,k,f⟩:=q.D.zbp c;refine ed q.D.yr (ed d ?_);rw[e,ef];exact H _ _ k (q.step k f (λ_ h=>h) q.gl q.hq rfl)
theorem Pq (q:Dq F G h L ops t R)(j:ops.length<9223372036854775808){n:Nat}(k:Sm t.s n)(d:n<1000){K:fx}
  (H:∀h',Kp F (gm G L.mj) h h'->Dq F G h' L ops {t with s:=(fy ops t.s).2} R->K (.int .i64 ((fy ops t.s).1:Nat)) h') :
  oP (ev (.ptr L.hX 0) h) λa=>oP (ev (.ptr L.oG 0) h) λf=>oP (ev (.ptr L.hX 0) h) λb=>oP (fD b) λn=>gU CS (fU f [n]) h λi c=>(h.next<=c.next/\oP (gD 1 a i) λp=>oP (ev p c) λv=>((ev (.ptr L.hX 0) c=some a)/\K v c)):=by
 refine ed q.D.yr (ed q.uH (ed q.D.yr (ed q.D.ok.len ?_)));show cP CS fi [.int .i64 t.s.known.length,.ptr L.mj 0,.ptr L.lr 0] h _;exact Kv q j k d λc l o e g _ m r=>⟨e.next,ed m (ed r ⟨g.D.yr,H _ e g⟩)⟩
theorem Kd (q:Dq F G h L ops t R)(e:ops.length<9223372036854775808){n:Nat}(d:Sm t.s n)(f:n<999){K:fx}
  (H:∀F' h' R',(∀l,F l->F' l)->Kp F (gm G L.mj) h h'->Dq F' G h' L ops {t with s:=(fw ops t.s).2} R'->Sm (fw ops t.s).2 (n+1)->K (.int .i64 ((fw ops t.s).1:Nat)) h') :
  gU CS (fU (PO L) []) h K:=by
 show cP CS fL [.ptr L.lu 0,.ptr L.oG 0,.ptr L.hX 0] h _;have g:=d.k;have i:=d.st;exact KM q d.k0 (by omega) (by omega) e λF' h' R' a b c _=>H F' h' R' a b c (d.state ops)
theorem Sm.end_{t:Dt}{n:Nat}(a:Sm t.s n)(f c:Nat)(nx:List Nat)(s:Nat)(p:List Nat):Sm (Un.end_ t f c nx s p).s n:=⟨a.v,Gl _,a.k,a.st,a.k0⟩
theorem Sm.cut {s:Ds}{n m:Nat}(a:Sm s n)(h0:0<m)(b:m<=s.known.length):Sm (Un.cut m s) n:=
 ⟨a.v,a.c,by show(s.known.take m).length<=n;rw[FY];have:=a.k;omega,a.st,by show 0<(s.known.take m).length;rw[FY];omega⟩
theorem Sm.setArgs{s:Ds}{n:Nat}(a:Sm s n)(v:Nat)(l:List Nat):Sm (Un.setArgs s v l) n:=⟨by rw[(Ce s v l).1];exact a.v,a.c,a.k,a.st,a.k0⟩
theorem BR (q:Dq F G h L ops t R)(d:t.blocks.length<1000)(fin cond:Nat)(nx:List Nat)(state:Nat){ps:Option (O×(Nat->V))}(hx:ps=some (O.cells 3 1 true false (gN nx),λl=> .slice l 0 nx.length)){B:V->Option V}
  (e:∀m,B (.slice m 0 nx.length)=some (.agg (kM ⟨[],fin,cond,nx,[],state⟩ .ec (.slice m 0 nx.length) .ec))) {K:fx}
  (H:∀F' h' R',(∀l,F l->F' l)->Kp F G h h'->Dq F' G h' L ops {s:={t.s with cur:=[]},blocks:=t.blocks++[⟨t.s.cur,fin,cond,nx,t.fe,state⟩],fe:=[]} R'->K (.int .i64 t.blocks.length) h') :
  ij ps h λv f=>oP (B v) λw=>gU CS (fU (Gb L) [w]) f K:=by
 subst hx;obtain⟨g,i,j⟩:=C8 q nx;rw[fq];refine ed (e _) ?_;exact Pm g d ⟨[],fin,cond,nx,[],state⟩ rfl rfl rfl i λF' h' R' a b c=>H F' h' R' (λl k=>a l (oT _ _ l k)) (j.trans b (oT _ _)) c
end
open Go.Proofs.YtpnddokajmjpbaaDoor.Un
section
variable{F F' G G':Nat->Prop}{h h':Hp}{L:Lc}{ops:List Int}{t t':Dt}{R R':Rw}{Q:fx}
theorem QX (q:Dq F G h L ops t R){t':Dt}(e:t=t'):Dq F G h L ops t' R:=e▸q
theorem kgm{F F' G:Nat->Prop}{h h' b:Hp}{a:Nat}(x:Kp F (gm G a) h h')(y:Kp F' G h' b)(c:∀l,F l->F' l):Kp F (gm G a) h b:=x.trans (y.gm a) c
theorem Wq (q:Dq F G h L ops t R)(ho:ops.length<9223372036854775808){n:Nat}(hn:Sm t.s n)(cn:n<800)(hb:t.blocks.length<900){K:Hp->Prop}
  (H:∀F' h' R',(∀l,F l->F' l)->Kp F (gm G L.mj) h h'->Dq F' G h' L ops (fork ops t) R'->Sm (fork ops t).s (n+30)->K h') :
  oP (ev (.ptr L.hX 0) h) λx=>
  oP (ev (.ptr L.oG 0) h) λaa=>
  oP (ev (.ptr L.hX 0) h) λab=>
  oP (fD ab) λac=>
  gU CS (fU aa [ac]) h λae y=>
  (h.next<=y.next/\
  oP (gD 1 x ae) λag=>
  oP (ev ag y) λah=>
  ((ev (.ptr L.hX 0) y=some x)/\
  oP (ev (.ptr L.hX 0) y) λai=>
  oP (fD ai) λz=>
  oP (fH 3 (.ptr L.lu 0)) λaj=>
  oP (ev aj y) λak=>
  oP (fD ak) λal=>
  oP (er .add 3 al (V.int .i64 1)) λam=>
  oP (fH 3 (.ptr L.lu 0)) λan=>
  oP (ev an y) λao=>
  oP (fD ao) λap=>
  oP (er .add 3 ap (V.int .i64 2)) λaq=>
  ij (iZ 3 1 2 (V.int .i64 0) [(0,am),(1,aq)]) y λar h3=>
  oP (fN [V.ec,(V.int .i64 0),(V.int .i64 0),V.ec,V.ec,(V.int .i64 0)] [(0,1),(1,1),(2,1),(3,1),(4,1),(5,1)] [(1,(V.int .i64 2)),(2,ah),(3,ar)]) λau=>
  gU CS (fU (Gb L) [au]) h3 λA h4=>
  ij (iZ 3 1 1 (V.int .i64 0) [(0,A)]) h4 λaw h5=>
  oP (fH 4 (.ptr L.iX 0)) λax=>
  fm (gB 1 ax aw h5) λvu h6=>
  gU CS (fU (Hw L) []) h6 λb8 I=>
  oP (ev (.ptr L.hX 0) I) λay=>
  oP (ev (.ptr L.hX 0) I) λaA=>
  oP (fD aA) λaB=>
  oP (er .sub 3 aB (V.int .i64 1)) λaC=>
  oP (gD 1 ay aC) λaD=>
  oP (ev aD I) λaE=>
  oP (ev (.ptr L.hX 0) I) λaF=>
  oP (iJ 1 aF none (some z) I) λaG=>
  fm (gB 1 (.ptr L.hX 0) aG I) λb9 h8=>
  oP (fH 3 (.ptr L.lu 0)) λaH=>
  oP (ev aH h8) λaI=>
  oP (fD aI) λaJ=>
  oP (er .add 3 aJ (V.int .i64 2)) λaK=>
  ij (iZ 3 1 1 (V.int .i64 0) [(0,aK)]) h8 λaL h9=>
  oP (fN [V.ec,(V.int .i64 0),(V.int .i64 0),V.ec,V.ec,(V.int .i64 0)] [(0,1),(1,1),(2,1),(3,1),(4,1),(5,1)] [(1,(V.int .i64 1)),(3,aL)]) λaM=>
  gU CS (fU (Gb L) [aM]) h9 λaN aO=>
  ij (iZ 3 1 1 (V.int .i64 0) [(0,A)]) aO λaP bD=>
  oP (fH 4 (.ptr L.iX 0)) λaQ=>
  fm (gB 1 aQ aP bD) λca aR=>
  gU CS (fU (Hw L) []) aR λcb d=>
  oP (ev (.ptr L.hX 0) d) λaS=>
  oP (ev (.ptr L.hX 0) d) λaT=>
  oP (fD aT) λaU=>
  oP (er .sub 3 aU (V.int .i64 1)) λaV=>
  oP (gD 1 aS aV) λaW=>
  oP (ev aW d) λaX=>
  oP (ev (.ptr L.hX 0) d) λaY=>
  oP (iJ 1 aY none (some z) d) λaZ=>
  fm (gB 1 (.ptr L.hX 0) aZ d) λcd J=>
  oP (fH 3 (.ptr L.lu 0)) λa4=>
  oP (ev a4 J) λa5=>
  oP (fD a5) λa6=>
  oP (er .add 3 a6 (V.int .i64 1)) λa7=>
  ij (iZ 3 1 1 (V.int .i64 0) [(0,a7)]) J λa8 bE=>
  oP (fN [V.ec,(V.int .i64 0),(V.int .i64 0),V.ec,V.ec,(V.int .i64 0)] [(0,1),(1,1),(2,1),(3,1),(4,1),(5,1)] [(1,(V.int .i64 1)),(3,a8)]) λa9=>
  gU CS (fU (Gb L) [a9]) bE λba bb=>
  ij (iZ 3 1 2 (V.int .i64 0) [(0,aN),(1,ba)]) bb λbc bG=>
  oP (fH 4 (.ptr L.iX 0)) λbd=>
  fm (gB 1 bd bc bG) λce b=>
  oP (ev (.ptr L.hX 0) b) λj=>
  oP (ev (.ptr L.xO 0) b) λB=>
  wS (iZ 3 1 2 (V.int .i64 0) [(0,aE),(1,aX)]) b λo4 be f=>
  oP (fN [(V.int .i64 0),(V.int .i64 0),(V.int .i64 0),(V.int .i64 0),V.ec,(V.int .i64 0)] [(0,1),(1,1),(2,1),(3,1),(4,1),(5,1)] [(0,(V.int .i64 21)),(4,be)]) λbf=>
  ((f.get (b.next)=some o4/\O.beq o4 o4=true)/\
  ((ev (.ptr L.xO 0) f=some B)/\
  ((ev (.ptr L.hX 0) f=some j)/\
  gU CS (fU B [bf]) f λbg M=>
  (f.next<=M.next/\
  wS (iZ 3 1 1 (V.int .i64 0) [(0,bg)]) M λo7 bh r=>
  ((r.get (M.next)=some o7/\O.beq o7 o7=true)/\
  ((ev (.ptr L.hX 0) r=some j)/\
  fm (eR 3 1 8 j bh r) λbi N=>
  (r.next<=N.next/\
  fm (gB 1 (.ptr L.hX 0) bi N) λcf P=>
  (N.next<=P.next/\
  gU CS (fU (Hw L) []) P λcg Q=>K Q)))))))))):=by
 have bj:=hn.k0;have hk:=hn.k;refine Pq q ho hn (by omega) λy k2 C=>?_;refine ed C.D.yr (ed C.D.ok.len ?_);refine ed (ez _ _ _) (ed C.D.Ww (ed C.D.ob.len (j7 (m:=1) (show t.blocks.length<_ by omega) (by omega) ?_)));refine ed (ez _ _ _) (ed C.D.Ww (ed C.D.ob.len (j7 (m:=2) (show t.blocks.length<_ by omega) (by omega) ?_)));have n2:Sm (fy ops t.s).2 n:=hn.one;refine BR C (show t.blocks.length<_ by omega) 2 (fy ops t.s).1 [t.blocks.length+1,t.blocks.length+2] 0 rfl (λ_=>rfl) λF4 h4 R4 f4 k4 q4=>?_;refine wk q4 [t.blocks.length] rfl λF6 h6 R6 f6 k6 q6=>?_;have q6:=QX (t':=end_ {t with s:=(fy ops t.s).2} 2 (fy ops t.s).1 [t.blocks.length+1,t.blocks.length+2] 0 [t.blocks.length]) q6 rfl;have n6:Sm (end_ {t with s:=(fy ops t.s).2} 2 (fy ops t.s).1 [t.blocks.length+1,t.blocks.length+2] 0 [t.blocks.length]).s n:=n2.end_ (t:={t with s:=(fy ops t.s).2}) _ _ _ _ _;have S:(end_ {t with s:=(fy ops t.s).2} 2 (fy ops t.s).1 [t.blocks.length+1,t.blocks.length+2] 0 [t.blocks.length]).blocks.length=t.blocks.length+1:=by simp[end_]
 have co:(end_ {t with s:=(fy ops t.s).2} 2 (fy ops t.s).1 [t.blocks.length+1,t.blocks.length+2] 0 [t.blocks.length]).s.known.length=t.s.known.length:=rfl;have a:fork ops t=fork ops t:=rfl
 conv at a=>rhs;unfold fork
 simp only at a;have el:({t with s:=(fy ops t.s).2}:Dt).s.known.length=t.s.known.length:=rfl;rw[el];have kA:=kgm k2 (k4.trans k6 f4) λ_ h=>h;have fA:∀l,F l->F6 l:=λl c=>f6 l (f4 l c);generalize end_ {t with s:=(fy ops t.s).2} 2 (fy ops t.s).1 [t.blocks.length+1,t.blocks.length+2] 0 [t.blocks.length]=g at*;clear C q4 k2 k4 k6;refine DN q6 ho n6 (by omega) λF7 I R7 f7 k7 q7 n7=>?_;have x7:=Eb ops g.s;have cp:=x7.kl;generalize row ops g.s=e at*;have cq:=n7.k;refine RK q7 (by show 0<e.known.length;omega) (by show e.known.length<_;omega) ?_;refine Nk q7 (m:=t.s.known.length) (by show _<=e.known.length;omega) λh8 R8 k8 q8=>?_;have n8:Sm (cut t.s.known.length e) (n+6):=n7.cut bj (by omega);refine ed (ez _ _ _) (ed q8.D.Ww (ed q8.D.ob.len (j7 (m:=2) (show g.blocks.length<_ by omega) (by omega) ?_)));refine BR q8 (show g.blocks.length<_ by omega) 1 0 [t.blocks.length+3] 0 (by show iZ 3 1 1 (V.int .i64 0) [(0,.int .i64 ((g.blocks.length+2:Nat):Int))]=_;rw[S];rfl) (λ_=>rfl) λcr aO Cl bm bn bo=>?_;refine wk bo [t.blocks.length] rfl λbH aR Y7 bI bp u=>?_;have u:=QX (t':=end_ {g with s:=cut t.s.known.length e} 1 0 [t.blocks.length+3] 0 [t.blocks.length]) u rfl;have bJ:Sm (end_ {g with s:=cut t.s.known.length e} 1 0 [t.blocks.length+3] 0 [t.blocks.length]).s (n+6):=n8.end_ (t:={g with s:=cut t.s.known.length e}) _ _ _ _ _;have E:(end_ {g with s:=cut t.s.known.length e} 1 0 [t.blocks.length+3] 0 [t.blocks.length]).blocks.length=t.blocks.length+2:=by simp[end_,S]
 have ci:(end_ {g with s:=cut t.s.known.length e} 1 0 [t.blocks.length+3] 0 [t.blocks.length]).s.known.length=t.s.known.length:=by
  show(e.known.take t.s.known.length).length=_;rw[FY];omega
 have bq:({g with s:=cut t.s.known.length e}:Dt).blocks.length=t.blocks.length+1:=S;rw[bq];have T:({g with s:=e}:Dt).s.known.getLastD 0=e.known.getLastD 0:=rfl;rw[T];have kB:=(((kA.trans k7 fA).trans ((k8.gm L.mj).trans (bn.gm L.mj) λ_ h=>h) λl c=>f7 l (fA l c)).trans (bp.gm L.mj) λl c=>bm l (f7 l (fA l c)))
 have fB:∀l,F l->bH l:=λl c=>bI l (bm l (f7 l (fA l c)));generalize e.known.getLastD 0=Y at*;generalize end_ {g with s:=cut t.s.known.length e} 1 0 [t.blocks.length+3] 0 [t.blocks.length]=o at*;clear q6 q7 q8 bo k7 k8 bn bp kA;refine DN u ho bJ (by omega) λct d R13 U br W bt=>?_;have bK:=Eb ops o.s;have cj:=bK.kl;generalize row ops o.s=i at*;have cm:=bt.k;refine RK W (by show 0<i.known.length;omega) (by show i.known.length<_;omega) ?_;refine Nk W (m:=t.s.known.length) (by show _<=i.known.length;omega) λJ R14 bu v=>?_;have bL:Sm (cut t.s.known.length i) (n+6+6):=bt.cut bj (by omega);refine ed (ez _ _ _) (ed v.D.Ww (ed v.D.ob.len (j7 (m:=1) (show o.blocks.length<_ by omega) (by omega) ?_)));refine BR v (show o.blocks.length<_ by omega) 1 0 [t.blocks.length+3] 0 (by show iZ 3 1 1 (V.int .i64 0) [(0,.int .i64 ((o.blocks.length+1:Nat):Int))]=_;rw[E];rfl) (λ_=>rfl) λcu bb cv bv bw bx=>?_;have bz:({o with s:=cut t.s.known.length i}:Dt).blocks.length=t.blocks.length+2:=E;rw[bz];refine wk bx [t.blocks.length+1,t.blocks.length+2] rfl λbQ b R18 bR bA p=>?_;have p:=QX (t':=end_ {o with s:=cut t.s.known.length i} 1 0 [t.blocks.length+3] 0 [t.blocks.length+1,t.blocks.length+2]) p rfl;have bC:Sm (end_ {o with s:=cut t.s.known.length i} 1 0 [t.blocks.length+3] 0 [t.blocks.length+1,t.blocks.length+2]).s (n+12):=(bL.le (by omega)).end_ (t:={o with s:=cut t.s.known.length i}) _ _ _ _ _;have w:({o with s:=i}:Dt).s.known.getLastD 0=i.known.getLastD 0:=rfl;rw[w];have kC:=(((kB.trans br fB).trans ((bu.gm L.mj).trans (bw.gm L.mj) λ_ h=>h) λl c=>U l (fB l c)).trans (bA.gm L.mj) λl c=>bv l (U l (fB l c)))
 have fC:∀l,F l->bQ l:=λl c=>bR l (bv l (U l (fB l c)));generalize i.known.getLastD 0=Z at*;generalize end_ {o with s:=cut t.s.known.length i} 1 0 [t.blocks.length+3] 0 [t.blocks.length+1,t.blocks.length+2]=t3 at*;clear u W v bx br bu bw bA kB;refine ed p.D.yr (ed p.ou ?_);have e3:iZ 3 1 2 (V.int .i64 0) [(0,V.int .i64 Y),(1,V.int .i64 Z)]=some (.cells 3 1 true false (gN [Y,Z]),λl=> .slice l 0 2):=rfl;rw[e3,gY];obtain⟨X,bS,bU⟩:=C8 p [Y,Z];have bV:(b.new (.cells 3 1 true false (gN [Y,Z]))).get b.next=_:=fg _ _;have eP:∀n:Nat,fN [(V.int .i64 0),(V.int .i64 0),(V.int .i64 0),(V.int .i64 0),V.ec,(V.int .i64 0)] [(0,1),(1,1),(2,1),(3,1),(4,1),(5,1)] [(0,(V.int .i64 21)),(4,.slice n 0 2)]=some (.agg (ll (vl 21 0 0 0 [Y,Z] 0) (.slice n 0 2))):=λ_=>rfl;refine ed (eP _) ⟨⟨bV,O.gL _ _ _ _ _⟩,X.ou,X.D.yr,?_⟩;generalize b.new (.cells 3 1 true false (gN [Y,Z]))=f at*;refine El X bC (by omega) ⟨_,rfl,bS⟩ λP cw bW bX=>?_;refine DN bX ho (bC.il _) (by omega) λbY Q bZ b4 b5 b6 b7=>?_;refine H bY Q bZ (λl c=>b4 l (oT _ _ l (fC l c))) ((kC.trans ((bU.gm L.mj).trans (bW.gm L.mj) (oT _ _)) fC).trans b5 λl c=>oT _ _ l (fC l c)) (QX b6 a.symm) ?_;rw[a];exact b7.le (by omega)
end
open Go.Proofs.YtpnddokajmjpbaaDoor.Un
section
variable{F F' G G':Nat->Prop}{h h':Hp}{L:Lc}{ops:List Int}{t t':Dt}{R R':Rw}{Q:fx}
theorem We (q:Dq F G h L ops t R)(S:ops.length<9223372036854775808){n:Nat}(T:Sm t.s n)(aQ:n<800)(hb:t.blocks.length<900){K:Hp->Prop}
  (H:∀F' h' R',(∀l,F l->F' l)->Kp F (gm G L.mj) h h'->Dq F' G h' L ops (we ops t) R'->Sm (we ops t).s (n+30)->K h') :
  oP (ev (.ptr L.hX 0) h) λo=>
  oP (ev (.ptr L.oG 0) h) λaa=>
  oP (ev (.ptr L.hX 0) h) λab=>
  oP (fD ab) λac=>
  gU CS (fU aa [ac]) h λae a=>
  (h.next<=a.next/\
  oP (gD 1 o ae) λag=>
  oP (ev ag a) λah=>
  ((ev (.ptr L.hX 0) a=some o)/\
  oP (fH 3 (.ptr L.lu 0)) λai=>
  oP (ev ai a) λaj=>
  oP (fD aj) λak=>
  oP (er .add 3 ak (V.int .i64 1)) λal=>
  oP (fH 3 (.ptr L.lu 0)) λam=>
  oP (ev am a) λp=>
  oP (fD p) λr=>
  oP (er .add 3 r (V.int .i64 2)) λu=>
  ij (iZ 3 1 2 (V.int .i64 0) [(0,al),(1,u)]) a λv an=>
  oP (fN [V.ec,(V.int .i64 0),(V.int .i64 0),V.ec,V.ec,(V.int .i64 0)] [(0,1),(1,1),(2,1),(3,1),(4,1),(5,1)] [(1,(V.int .i64 2)),(2,ah),(3,v)]) λw=>
  gU CS (fU (Gb L) [w]) an λc x=>
  oP (ev (.ptr L.hX 0) x) λy=>
  oP (fD y) λz=>
  ij (iZ 3 1 1 (V.int .i64 0) [(0,c)]) x λA ao=>
  oP (fH 4 (.ptr L.iX 0)) λB=>
  fm (gB 1 B A ao) λap aq=>
  gU CS (fU (Hw L) []) aq λaN C=>
  oP (ev (.ptr L.RI 0) C) λE=>
  gU CS (fU E []) C λI ar=>
  oP (fN [V.ec,(V.int .i64 0),(V.int .i64 0),V.ec,V.ec,(V.int .i64 0)] [(0,1),(1,1),(2,1),(3,1),(4,1),(5,1)] [(1,(V.int .i64 3)),(5,I)]) λJ=>
  gU CS (fU (Gb L) [J]) ar λaO e=>
  oP (ev (.ptr L.hX 0) e) λM=>
  oP (iJ 1 M none (some z) e) λN=>
  fm (gB 1 (.ptr L.hX 0) N e) λau aw=>
  ij (iZ 3 1 1 (V.int .i64 0) [(0,c)]) aw λO ax=>
  oP (fH 4 (.ptr L.iX 0)) λP=>
  fm (gB 1 P O ax) λay aA=>
  gU CS (fU (Hw L) []) aA λaP aB=>K aB)):=by
 have aC:=T.k0;have hk:=T.k;refine Pq q S T (by omega) λh2 U j=>?_;refine ed (ez _ _ _) (ed j.D.Ww (ed j.D.ob.len (j7 (m:=1) (show t.blocks.length<_ by omega) (by omega) ?_)));refine ed (ez _ _ _) (ed j.D.Ww (ed j.D.ob.len (j7 (m:=2) (show t.blocks.length<_ by omega) (by omega) ?_)));have n2:Sm (fy ops t.s).2 n:=T.one;refine BR j (show t.blocks.length<_ by omega) 2 (fy ops t.s).1 [t.blocks.length+1,t.blocks.length+2] 0 rfl (λ_=>rfl) λF4 h4 R4 f4 k4 W=>?_;refine ed W.D.yr (ed W.D.ok.len ?_);refine wk W [t.blocks.length] rfl λF6 h6 R6 f6 k6 q6=>?_;have q6:=QX (t':=end_ {t with s:=(fy ops t.s).2} 2 (fy ops t.s).1 [t.blocks.length+1,t.blocks.length+2] 0 [t.blocks.length]) q6 rfl;have n6:Sm (end_ {t with s:=(fy ops t.s).2} 2 (fy ops t.s).1 [t.blocks.length+1,t.blocks.length+2] 0 [t.blocks.length]).s n:=n2.end_ (t:={t with s:=(fy ops t.s).2}) _ _ _ _ _;have aR:(end_ {t with s:=(fy ops t.s).2} 2 (fy ops t.s).1 [t.blocks.length+1,t.blocks.length+2] 0 [t.blocks.length]).blocks.length=t.blocks.length+1:=by simp[end_]
 have aS:(end_ {t with s:=(fy ops t.s).2} 2 (fy ops t.s).1 [t.blocks.length+1,t.blocks.length+2] 0 [t.blocks.length]).s.known.length=t.s.known.length:=rfl;have hx:we ops t=we ops t:=rfl
 conv at hx=>rhs;unfold we
 simp only at hx;have kA:=kgm U (k4.trans k6 f4) λ_ h=>h;have fA:∀l,F l->F6 l:=λl b=>f6 l (f4 l b);generalize end_ {t with s:=(fy ops t.s).2} 2 (fy ops t.s).1 [t.blocks.length+1,t.blocks.length+2] 0 [t.blocks.length]=d at*;clear j W U k4 k6;refine DN q6 S n6 (by omega) λF7 h7 R7 f7 k7 q7 n7=>?_;have x7:=Eb ops d.s;have aT:=x7.kl;generalize row ops d.s=f at*;refine ed q7.GV ?_;refine Kd q7 S n7 (by omega) λF8 h8 R8 f8 k8 q8 X=>?_;have x8:=HO ops f;have aU:=x8.kl;have e8:fw ops ({d with s:=f}:Dt).s=fw ops f:=rfl;rw[e8];have q8:Dq F8 G h8 L ops {d with s:=(fw ops f).2} R8:=q8;have X:Sm (fw ops f).2 (n+6+1):=X;generalize (fw ops f).2=Y at*;generalize (fw ops f).1=sn at*;have eB:fN [V.ec,(V.int .i64 0),(V.int .i64 0),V.ec,V.ec,(V.int .i64 0)] [(0,1),(1,1),(2,1),(3,1),(4,1),(5,1)] [(1,(V.int .i64 3)),(5,.int .i64 sn)]=some (.agg (kM ⟨[],3,0,[],[],sn⟩ .ec .ec .ec)):=rfl;refine ed eB ?_;have aV:=X.k;refine Pm q8 (show d.blocks.length<_ by omega) ⟨[],3,0,[],[],sn⟩ rfl rfl rfl .nil λF9 h9 R9 Z k9 q9=>?_;refine Nk q9 (m:=t.s.known.length) (by show _<=Y.known.length;omega) λaW Cl aD aE=>?_;refine wk aE [t.blocks.length] rfl λaX aY R11 Q aF g=>?_;have g:=QX (t':=end_ {d with s:=cut t.s.known.length Y} 3 0 [] sn [t.blocks.length]) g rfl;have aG:Sm (end_ {d with s:=cut t.s.known.length Y} 3 0 [] sn [t.blocks.length]).s (n+7):=(X.cut aC (by omega)).end_ (t:={d with s:=cut t.s.known.length Y}) _ _ _ _ _;refine DN g S aG (by omega) λaH aI Y7 aJ aK aL aM=>?_;have i:∀l,F l->F8 l:=λl b=>f8 l (f7 l (fA l b));refine H aH aI Y7 (λl b=>aJ l (Q l (Z l (i l b)))) ?_ (QX aL hx.symm) ?_
 ·have k1:=(kA.trans k7 fA).trans k8 λl b=>f7 l (fA l b);have U:=((k9.gm L.mj).trans (aD.gm L.mj) Z).trans (aF.gm L.mj) Z;exact(k1.trans U i).trans aK λl b=>Q l (Z l (i l b))
 ·rw[hx];exact aM.le (by omega)
end
