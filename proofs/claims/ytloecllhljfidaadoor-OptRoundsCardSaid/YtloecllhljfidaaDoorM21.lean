/- Parts. -/
import Derived.Test.YtloecllhljfidaaDoorM20
set_option maxHeartbeats 4000000
namespace Go.Proofs.YtloecllhljfidaaDoor.Hx
open Un
theorem jF{b:Bool}{A B:Prop}(h:if b=true then A else B):bP (.bool b) A B:=by simp_all
theorem UW(ops:List Int)(s:Ds):rows ops 0 s=s:=rfl
theorem VL(ops:List Int)(k:Nat)(s:Ds)(h:¬s.ef.length<200):rows ops k s=s:=by
 cases k <;> simp_all[rows,if_neg]
theorem Uv(ops:List Int)(k:Nat)(s:Ds)(h:s.ef.length<200):rows ops (k+1) s=rows ops k (rz ops s):=by
 simp_all[rows,if_pos]
section
variable{F F' G G':Nat->Prop}{h h':Hp}{L:Lc}{ops:List Int}{t t':Dt}{R R':Rw}{Q:fq}
theorem Sm.one{s:Ds}{n:Nat}(a:Sm s n):Sm (fw ops s).2 n:=a.pos _
theorem Sm.num{s:Ds}{n:Nat}(a:Sm s n)(m:Nat):Sm (num ops s m).2 n:=a.pos _
theorem zcw{s:Ds}{n:Nat}(a:Sm s n)(ops:List Int)(x:Vl):Sm (put (ft ops s).2 x) (n+1):=by
 obtain ⟨p,b⟩:=DU ops (num ops s 4).1 (num ops s 4).2 [];have e:(ft ops s).2 = {s with pos:=p,eh:=(ft ops s).2.eh}:=by
  unfold ft;simp only[b];rfl
 have h:=a.state ops;rw[e]at h⊢;exact⟨uI a.v,uI a.c,h.k,h.st,h.k0⟩
theorem zaI(q:Dq F G h L ops t R)(w:ops.length<9223372036854775808){n:Nat}(hn:Sm t.s n)(ae:n<900)
  (H:∀F' h' R',(∀l,F l->F' l)->Kp F (gm G L.mF) h h'->Dq F' G h' L ops {t with s:=row ops t.s} R'->Sm (row ops t.s) (n+6)->Q (.tuple []) h') :
  cP CS jh [.ptr L.oT 0,.ptr L.lu 0,.ptr L.hH 0,.ptr L.xN 0,.ptr L.TA 0] h Q:=by
 refine BO rfl rfl ?_;unfold tV;refine ed q.tS ?_;show cP CS fg [.I ((6:Nat):Int),.ptr L.mF 0,.ptr L.lr 0] h _;refine vR q (by decide) (by decide) w λh0 k0 q0=>?_;have hr:(draw ops t.s.pos 6).1<6:=by simp_all[vQ]
 refine jZ (n:=1) (by decide) (by omega) ?_
 refine y6 (λk O P S T U W h'=>∃(F':Nat->Prop) (R':Rw) (s:Ds),O = .ptr L.oT 0/\P = .ptr L.lu 0/\S = .ptr L.hH 0/\T = .ptr L.xN 0/\U = .ptr L.TA 0/\W = .I (k:Nat)/\(∀l,F l->F' l)/\
  Kp F (gm G L.mF) h h'/\Dq F' G h' L ops {t with s:=s} R'/\rows ops k s=row ops t.s/\∃m,Sm s m/\m+k<=n+6) ?_
  ⟨F,R,(num ops t.s 6).2,rfl,rfl,rfl,rfl,rfl,rfl,λ_ h=>h,k0,q0,rfl,n,hn.num 6,by omega⟩
 rintro k O P S T U W h' ⟨r,R1,s,rfl,rfl,rfl,rfl,rfl,rfl,J,X,B,p,m,K,ag⟩;unfold qE;refine ed (by rw[pS]) ?_;have lv:=B.D.ov.len;have eA:mn (.bool (decide ((0:Int)<(k:Nat)))) (oB (fQ 2 (.ptr L.lu 0)) λaa=>oB (eQ aa h') λab=>oB (fD ab) λac=>eJ .lss 3 ac (V.I 200))=some (.bool (decide ((0:Int)<(k:Nat))&&decide (((s.ef.length:Nat):Int)<200))):=by
  simp only[fR,fy,wO,B.D.V0,lv,qO,jD]
 refine ed eA (jF ?_)
 cases k with
 | zero=>
   refine gv (by simp) ?_;rw[UW]at p
   refine H r h' R1 J X (by simp_all) (by rw[<-p];exact K.le (by omega))
 | succ k=>
   by_cases Mw:s.ef.length<200;rotate_left
   ·refine gv (by simp;omega) ?_
    rw[VL _ _ _ Mw]at p;refine H r h' R1 J X (by simp_all) (by rw[<-p];exact K.le (by omega))
   refine gI (by simp;omega) ?_;have C:rows ops k (rz ops s)=row ops t.s:=by rw[<-p,Uv _ _ _ Mw]
   clear p eA;refine ed B.D.yS (ed B.tS (ed B.D.yS (ed B.D.ok.len ?_)));show cP CS fg [.I (s.known.length:Nat),.ptr L.mF 0,.ptr L.lr 0] h' _;refine L2 B w K (by omega) λh2 l o k2 E _ i1 I=>⟨k2.next,ed i1 (ed I ⟨E.D.yS,?_⟩)⟩
   have I:True:=trivial;refine ed E.D.yS (ed E.tS (ed E.D.yS (ed E.D.ok.len ?_)));show cP CS fg [.I ((fw ops s).2.known.length:Nat),.ptr L.mF 0,.ptr L.lr 0] h2 _;refine L2 E w K.one (by omega) λh3 l' o' k3 Y _ j1 j2=>⟨k3.next,ed j1 (ed j2 ⟨Y.D.yS,?_⟩)⟩
   refine ed Y.tS ?_;show cP CS fg [.I ((20:Nat):Int),.ptr L.mF 0,.ptr L.lr 0] h3 _;refine vR Y (by decide) (by decide) w λA k4 d=>?_;have d:Dq r G A L ops {t with s:=(num ops (fw ops (fw ops s).2).2 20).2} R1:=d;have j:Sm (num ops (fw ops (fw ops s).2).2 20).2 m:=K.one.one.num 20;have kk:Kp F (gm G L.mF) h A:=((X.trans k2 J).trans k3 J).trans k4 J;have x:rz ops s=qB ops (num ops (fw ops (fw ops s).2).2 20).2 (num ops (fw ops (fw ops s).2).2 20).1 (fw ops s).1 (fw ops (fw ops s).2).1:=rfl;rw[x]at C;have ek:(draw ops ({t with s:=(fw ops ({t with s:=(fw ops ({t with s:=s}:Dt).s).2}:Dt).s).2}:Dt).s.pos 20).1=(num ops (fw ops (fw ops s).2).2 20).1:=rfl;rw[ek];clear ek;have ah:(num ops (fw ops (fw ops s).2).2 20).1<20:=vQ _ _ (by decide);generalize (num ops (fw ops (fw ops s).2).2 20).2=f at*;generalize (num ops (fw ops (fw ops s).2).2 20).1=kd at*;have ea:(fw ops ({t with s:=s}:Dt).s).1=(fw ops s).1:=rfl;have eb:(fw ops ({t with s:=(fw ops ({t with s:=s}:Dt).s).2}:Dt).s).1=(fw ops (fw ops s).2).1:=rfl;rw[ea,eb];generalize (fw ops s).1=a at*;generalize (fw ops (fw ops s).2).1=b at*;clear Y E B X k2 k3 k4 j1 j2 lv x
   have fin:∀(Z:Nat->Prop) (e:Hp) (R2:Rw) (M:Ds),(∀l,r l->Z l)->Kp r (gm G L.mF) A e->Dq Z G e L ops {t with s:=M} R2->M=qB ops f kd a b->Sm M (m+1)->
       fX CS Q (λO P S T U W hh=>∃k',k' < k+1/\∃(F':Nat->Prop) (R':Rw) (s:Ds),O = .ptr L.oT 0/\P = .ptr L.lu 0/\S = .ptr L.hH 0/\T = .ptr L.xN 0/\U = .ptr L.TA 0/\W = .I (k':Nat)/\(∀l,F l->F' l)/\
         Kp F (gm G L.mF) h hh/\Dq F' G hh L ops {t with s:=s} R'/\rows ops k' s=row ops t.s/\∃m,Sm s m/\m+k'<=n+6) (.ptr L.oT 0) (.ptr L.lu 0) (.ptr L.hH 0) (.ptr L.xN 0) (.ptr L.TA 0) (.I ((k+1:Nat):Int)) e:=by
     intro Z e R2 M ai g c e5 m5;refine zm ?_;unfold qw;refine qa (by omega) (by omega) ?_;exact⟨k,by omega,Z,R2,M,rfl,rfl,rfl,rfl,rfl,rfl,by simp_all,kk.trans g J,c,by simp_all,m+1,m5,by omega⟩
   by_cases c0:kd<12
   ·refine gR ?_
    refine ed d.D.yS (ed d.og (jZ (n:=3) (by decide) (by omega) ?_));have eP:∀o:Nat,fJ [(V.I 0),(V.I 0),(V.I 0),(V.I 0),V.ee,(V.I 0)] [(0,1),(1,1),(2,1),(3,1),(4,1),(5,1)] [(0,.I (o:Nat)),(1,.I (a:Nat)),(2,.I (b:Nat))]=some (.agg (lW (vl o a b 0 [] 0) .ee)):=λ_=>rfl;refine ed (eP _) ?_;exact ED d j (by omega) ⟨_,rfl,.nil⟩ λe R5 g c=>fin r e R5 _ (by simp_all) (g.gm _) c (by simp_all[qB,if_pos]) (j.iE _)
   refine jf ?_;by_cases c1:kd=12
   ·refine gM (gI (by omega) ?_)
    refine ed d.D.yS (ed d.og (ed d.tS ?_));show cP CS fg [.I ((1048576:Nat):Int),.ptr L.mF 0,.ptr L.lr 0] A _;refine vR d (by decide) (by decide) w λe g c=>⟨g.next,?_⟩
    have c:Dq r G e L ops {t with s:=(num ops f 1048576).2} R1:=c;have hd:(draw ops f.pos 1048576).1<1048576:=by simp_all[vQ]
    have ew:mb .i64 (((draw ops f.pos 1048576).1:Int)-9)=((draw ops f.pos 1048576).1:Int)-9:=by grind[tP,Fx]
    refine ed (by rw[qZ]) ?_;rw[show(mb .i64 (((draw ops ({t with s:=f}:Dt).s.pos 1048576).1:Int)-9))=((draw ops f.pos 1048576).1:Int)-9 from ew];have eP:∀i:Int,fJ [(V.I 0),(V.I 0),(V.I 0),(V.I 0),V.ee,(V.I 0)] [(0,1),(1,1),(2,1),(3,1),(4,1),(5,1)] [(0,(V.I 2)),(3,.I i)]=some (.agg (lW (vl 2 0 0 i [] 0) .ee)):=λ_=>rfl;refine ed (eP _) ⟨c.og,c.D.yS,?_⟩;exact ED c (j.num _) (by omega) ⟨_,rfl,.nil⟩ λy R6 u v=>fin r y R6 _ (by simp_all) (g.trans (u.gm _) λ_ h=>h) v (by unfold qB;rw[if_neg c0,if_pos c1];rfl) ((j.num _).iE _)
   refine gM (gv (by omega) ?_);by_cases c2:kd=13
   ·refine gM (gI (by omega) ?_)
    refine ed d.D.yS (ed d.og (ed d.tS ?_));show cP CS fg [.I ((5:Nat):Int),.ptr L.mF 0,.ptr L.lr 0] A _;refine vR d (by decide) (by decide) w λe g c=>⟨g.next,?_⟩
    have c:Dq r G e L ops {t with s:=(num ops f 5).2} R1:=c;have eP:∀n:Nat,fJ [(V.I 0),(V.I 0),(V.I 0),(V.I 0),V.ee,(V.I 0)] [(0,1),(1,1),(2,1),(3,1),(4,1),(5,1)] [(0,(V.I 17)),(1,.I (a:Nat)),(3,.I (n:Nat))]=some (.agg (lW (vl 17 a 0 (n:Nat) [] 0) .ee)):=λ_=>rfl;refine ed (eP _) ⟨c.og,c.D.yS,?_⟩;exact ED c (j.num _) (by omega) ⟨_,rfl,.nil⟩ λy R6 u v=>fin r y R6 _ (by simp_all) (g.trans (u.gm _) λ_ h=>h) v (by unfold qB;rw[if_neg c0,if_neg c1,if_pos c2];rfl) ((j.num _).iE _)
   refine gM (gv (by omega) ?_);by_cases c3:kd=14
   ·refine gM (gI (by omega) ?_)
    refine ed d.D.yS (ed d.og ?_);have eP:fJ [(V.I 0),(V.I 0),(V.I 0),(V.I 0),V.ee,(V.I 0)] [(0,1),(1,1),(2,1),(3,1),(4,1),(5,1)] [(0,(V.I 18)),(1,.I (a:Nat)),(2,.I (b:Nat))]=some (.agg (lW (vl 18 a b 0 [] 0) .ee)):=rfl;refine ed eP ?_;exact ED d j (by omega) ⟨_,rfl,.nil⟩ λe R5 g c=>fin r e R5 _ (by simp_all) (g.gm _) c (by simp_all[qB,if_neg,if_pos]) (j.iE _)
   refine gM (gv (by omega) ?_);by_cases c4:kd=15
   ·refine gM (gI (by omega) ?_)
    refine ed d.og (ed d.tS ?_);show cP CS fg [.I ((5:Nat):Int),.ptr L.mF 0,.ptr L.lr 0] A _;refine vR d (by decide) (by decide) w λe g c=>⟨g.next,?_⟩
    have c:Dq r G e L ops {t with s:=(num ops f 5).2} R1:=c;have eP:∀n:Nat,fJ [(V.I 0),(V.I 0),(V.I 0),(V.I 0),V.ee,(V.I 0)] [(0,1),(1,1),(2,1),(3,1),(4,1),(5,1)] [(0,(V.I 19)),(1,.I (a:Nat)),(3,.I (n:Nat)),(2,.I (b:Nat))]=some (.agg (lW (vl 19 a b (n:Nat) [] 0) .ee)):=λ_=>rfl;refine ed (eP _) ⟨c.og,?_⟩;refine GX c (j.num _) (by omega) ⟨_,rfl,.nil⟩ λy R6 u _ v=>⟨u.next,?_⟩
    exact fin r y R6 _ (by simp_all) (g.trans (u.gm _) λ_ h=>h) v (by unfold qB;rw[if_neg c0,if_neg c1,if_neg c2,if_neg c3,if_pos c4];rfl) ((j.num _).put _)
   refine gM (gv (by omega) ?_);by_cases c5:kd=16
   ·refine gM (gI (by omega) ?_)
    refine ed d.og (ed d.D.yS (ed d.tS (ed d.D.yS (ed d.D.ok.len ?_))));show cP CS fg [.I (f.known.length:Nat),.ptr L.mF 0,.ptr L.lr 0] A _;refine L2 d w j (by omega) λe l o g c hl i1 I=>⟨g.next,ed i1 (ed I ?_)⟩
    have c:Dq r G e L ops {t with s:=(fw ops f).2} R1:=c;have I:eQ (.ptr l o) e=some (.I ((fw ops f).1:Nat)):=I;have e3:jd 3 1 1 (V.I 0) [(0,V.I ((fw ops f).1:Nat))]=some (.cells 3 1 true false [V.I ((fw ops f).1:Nat)],λl=> .slice l 0 1):=rfl;show wP (jd 3 1 1 (V.I 0) [(0,V.I ((fw ops f).1:Nat))]) e _;rw[e3,gZ];have eP:∀n:Nat,fJ [(V.I 0),(V.I 0),(V.I 0),(V.I 0),V.ee,(V.I 0)] [(0,1),(1,1),(2,1),(3,1),(4,1),(5,1)] [(0,(V.I 20)),(1,.I (a:Nat)),(2,.I (b:Nat)),(4,.slice n 0 1)]=some (.agg (lW (vl 20 a b 0 [(fw ops f).1] 0) (.slice n 0 1))):=λ_=>rfl;have D6:=c.D.new (.cells 3 1 true false [V.I ((fw ops f).1:Nat)]);have u:=c.D.xg (.cells 3 1 true false [V.I ((fw ops f).1:Nat)]);have v:=c.step u D6 (oR _ _) c.gl c.hq rfl;have g6:(e.new (.cells 3 1 true false [V.I ((fw ops f).1:Nat)])).get e.next=_:=fi _ _;refine ed (eP _) ⟨by simp_all,qN I (fh _ hl),D6.yS,v.og,?_⟩
    have hs:iG eN (fz r e.next) (e.new (.cells 3 1 true false [V.I ((fw ops f).1:Nat)])) [(fw ops f).1] (.slice e.next 0 1):=
      .inr ⟨e.next,0,3,true,false,[V.I ((fw ops f).1:Nat)],rfl,.inr rfl,g6,.inr rfl,Jw _,⟨_,[],rfl,rfl,trivial⟩⟩
    refine GX v (j.one) (by omega) ⟨_,rfl,hs⟩ λh7 R7 k7 _ q7=>⟨k7.next,?_⟩
    exact fin (fz r e.next) h7 R7 _ (oR _ _) ((g.trans (u.gm _) λ_ h=>h).trans (k7.gm _) (oR _ _)) q7 (by simp_all[qB,if_neg,if_pos]) (j.one.put _)
   refine gM (gv (by omega) ?_);by_cases c6:kd=17
   ·refine gM (gI (by omega) ?_)
    refine ed d.og (ed d.Hl ?_);show cP CS fL [.ptr L.lu 0,.ptr L.oT 0,.ptr L.hH 0] A _;refine LX d j.k0 (by have:=j.k;grind) (by have:=j.st;grind) w λN e R5 z g c _=>⟨g.next,?_⟩
    have c:Dq N G e L ops {t with s:=(ft ops f).2} R5:=c;have eP:∀n:Nat,fJ [(V.I 0),(V.I 0),(V.I 0),(V.I 0),V.ee,(V.I 0)] [(0,1),(1,1),(2,1),(3,1),(4,1),(5,1)] [(0,(V.I 22)),(1,.I (a:Nat)),(5,.I (n:Nat))]=some (.agg (lW (vl 22 a 0 0 [] n) .ee)):=λ_=>rfl;refine ed (eP _) ⟨c.og,?_⟩;refine GX c (j.state ops) (by omega) ⟨_,rfl,.nil⟩ λy R6 u _ v=>⟨u.next,?_⟩
    exact fin N y R6 _ z (g.trans (u.gm _) z) v (by simp_all[qB,if_neg,if_pos]) (zcw j ops _)
   refine gM (gv (by omega) ?_);by_cases c7:kd=18
   ·refine gM (gI (by omega) ?_)
    refine ed d.og (ed d.Hl ?_);show cP CS fL [.ptr L.lu 0,.ptr L.oT 0,.ptr L.hH 0] A _;refine LX d j.k0 (by have:=j.k;grind) (by have:=j.st;grind) w λN e R5 z g c _=>⟨g.next,?_⟩
    have c:Dq N G e L ops {t with s:=(ft ops f).2} R5:=c;have eP:∀n:Nat,fJ [(V.I 0),(V.I 0),(V.I 0),(V.I 0),V.ee,(V.I 0)] [(0,1),(1,1),(2,1),(3,1),(4,1),(5,1)] [(0,(V.I 23)),(5,.I (n:Nat))]=some (.agg (lW (vl 23 0 0 0 [] n) .ee)):=λ_=>rfl;refine ed (eP _) ⟨c.og,?_⟩;refine GX c (j.state ops) (by omega) ⟨_,rfl,.nil⟩ λy R6 u _ v=>⟨u.next,?_⟩
    exact fin N y R6 _ z (g.trans (u.gm _) z) v (by simp_all[qB,if_neg,if_pos]) (zcw j ops _)
   refine gM (gv (by omega) ?_);refine ed d.D.yS (ed d.og (ed d.tS ?_));show cP CS fg [.I ((2:Nat):Int),.ptr L.mF 0,.ptr L.lr 0] A _;refine vR d (by decide) (by decide) w λe g c=>⟨g.next,?_⟩
   have c:Dq r G e L ops {t with s:=(num ops f 2).2} R1:=c;have hd:(draw ops f.pos 2).1<2:=by simp_all[vQ]
   refine jZ (n:=15) (by decide) (by grind) ?_;have eP:∀o:Nat,fJ [(V.I 0),(V.I 0),(V.I 0),(V.I 0),V.ee,(V.I 0)] [(0,1),(1,1),(2,1),(3,1),(4,1),(5,1)] [(0,.I (o:Nat)),(1,.I (a:Nat))]=some (.agg (lW (vl o a 0 0 [] 0) .ee)):=λ_=>rfl;refine ed (eP _) ⟨c.og,c.D.yS,?_⟩;exact ED c (j.num _) (by omega) ⟨_,rfl,.nil⟩ λy R6 u v=>fin r y R6 _ (by simp_all) (g.trans (u.gm _) λ_ h=>h) v (by unfold qB;rw[if_neg c0,if_neg c1,if_neg c2,if_neg c3,if_neg c4,if_neg c5,if_neg c6,if_neg c7];rfl) ((j.num _).iE _)
end
open Un
structure EW (s s':Ds):Prop where
 k:∃l,s'.known=s.known++l
 v:∃l,s'.ef=s.ef++l
theorem EW.refl(s:Ds):EW s s:=⟨by simp_all,by simp_all⟩
theorem EW.trans{s s' c:Ds}(a:EW s s')(b:EW s' c):EW s c:=by
 obtain⟨⟨d,e⟩,⟨f,g⟩⟩:=a;obtain⟨⟨h,i⟩,⟨j,k⟩⟩:=b;exact⟨by simp_all,by simp_all⟩
theorem EW.kl{s s':Ds}(a:EW s s'):s.known.length<=s'.known.length:=by
 obtain⟨⟨b,c⟩,_⟩:=a
 simp_all
theorem Ix(ops:List Int)(s:Ds):EW s (ft ops s).2:=by
 obtain⟨p,a⟩:=DU ops (num ops s 4).1 (num ops s 4).2 [];unfold ft;simp only[a];exact⟨by simp_all[num],by simp_all[num]⟩
theorem DH(s:Ds)(x:Vl):EW s (iE s x):=⟨⟨_,rfl⟩,⟨_,rfl⟩⟩
theorem J3(s:Ds)(x:Vl):EW s (put s x):=⟨by simp_all[put],⟨_,rfl⟩⟩
theorem Ec(ops:List Int)(s:Ds)(m:Nat):EW s (num ops s m).2:=⟨by simp_all[num],by simp_all[num]⟩
theorem NX(ops:List Int)(s:Ds):EW s (fw ops s).2:=⟨by simp_all[fw],by simp_all[fw]⟩
theorem XV(ops:List Int)(s:Ds)(k a b:Nat):EW s (qB ops s k a b):=by
 unfold qB;split
 ·grind[DH]
 split
 ·exact(Ec _ _ _).trans (DH _ _)
 split
 ·exact(Ec _ _ _).trans (DH _ _)
 split
 ·grind[DH]
 split
 ·exact(Ec _ _ _).trans (J3 _ _)
 split
 ·exact(NX _ _).trans (J3 _ _)
 split
 ·exact(Ix _ _).trans (J3 _ _)
 split
 ·exact(Ix _ _).trans (J3 _ _)
 ·exact(Ec _ _ _).trans (DH _ _)
theorem Q1(ops:List Int):∀(i:Nat)(s:Ds),EW s (rows ops i s)
 |0,s=> .refl s
 | i+1,s=>by
   unfold rows;split
   ·exact(((NX ops s).trans (NX ops _)).trans ((Ec ops _ 20).trans (XV _ _ _ _ _))).trans (Q1 ops i _)
   ·exact .refl s
theorem Em(ops:List Int)(s:Ds):EW s (row ops s):=(Ec ops s 6).trans (Q1 ops _ _)
def IN(L:Lc):V:= .func jh [] [.ptr L.oT 0,.ptr L.lu 0,.ptr L.hH 0,.ptr L.xN 0,.ptr L.TA 0]
def Hu(L:Lc):V:= .func jN [] [.ptr L.je 0,.ptr L.lu 0]
def iT(xs:List Nat):List V:=xs.map λn=> .I (n:Nat)
section
variable{F F' G G':Nat->Prop}{h h':Hp}{L:Lc}{ops:List Int}{t t':Dt}{R R':Rw}{Q:fq}
theorem CT(q:Dq F G h L ops t R)(xs:List Nat):Dq (fz F h.next) G (h.new (.cells 3 1 true false (iT xs))) L ops t R/\iG eN (fz F h.next) (h.new (.cells 3 1 true false (iT xs))) xs (.slice h.next 0 xs.length)/\Kp F G h (h.new (.cells 3 1 true false (iT xs))):=by
 have k:=q.D.xg (.cells 3 1 true false (iT xs));exact⟨q.step k (q.D.new _) (oR _ _) q.gl q.hq rfl,.inr ⟨h.next,0,3,true,false,iT xs,rfl,.inr rfl,fi _ _,.inr rfl,Jw _,wh _ _ xs⟩,k⟩
theorem wF(q:Dq F G h L ops t R)(xs:List Nat){ps:Option (O×(Nat->V))}(hx:ps=some (O.cells 3 1 true false (iT xs),λl=> .slice l 0 xs.length)){K:Hp->Prop}
  (H:∀F' h' R',(∀l,F l->F' l)->Kp F G h h'->Dq F' G h' L ops {t with ez:=xs} R'->K h') :
  gX ps h λv d=>oP (fQ 4 (.ptr L.je 0)) λe=>fc (gh 1 e v d) λ_ f=>K f:=by
 subst hx;obtain⟨a,g,i⟩:=CT q xs;rw[fF,fR,iy];have j:=nf (o:=4) (v:= .slice h.next 0 xs.length) (ot:=[R.cc,.I 0,.I 0,.ee,.slice h.next 0 xs.length,.I 0]) a.D.gb (by simp) rfl rfl;obtain⟨b,k⟩:=a.D.zam (c:=R.cc) g;rw[wO,j,ei];exact H _ _ _ (oR _ _) (i.trans b (oR _ _)) (a.step b k (by simp_all) q.gl a.hq rfl)
theorem SH(q:Dq F G h L ops t R)(e:t.blocks.length<1000)(b:Bk){w nv:V}(f:w = .agg (kS b .ee nv .ee))(a:b.ef=[])(c:b.ez=[])(d:iG eN F h b.next nv){K:fq}
  (H:∀F' h' R',(∀l,F l->F' l)->Kp F G h h'->Dq F' G h' L ops {s:={t.s with cur:=[]},blocks:=t.blocks++[⟨t.s.cur,b.fin,b.cond,b.next,t.ez,b.state⟩],ez:=[]} R'->K (.I t.blocks.length) h') :
  gN CS (fO (Hu L) [w]) h K:=by
 subst f;exact zbq (n:=0) q e a c d H
theorem Dg(q:Dq F G h L ops t R)(b:ops.length<9223372036854775808){n:Nat}(c:Sm t.s n)(a:n<900){K:fq}
  (H:∀F' h' R',(∀l,F l->F' l)->Kp F (gm G L.mF) h h'->Dq F' G h' L ops {t with s:=row ops t.s} R'->Sm (row ops t.s) (n+6)->K (.tuple []) h') :
  gN CS (fO (IN L) []) h K:=zaI q b c a H
theorem Tx(q:Dq F G h L ops t R)(hk:0<t.s.known.length)(c:t.s.known.length<1000){K:V->Prop}(H:K (.I (t.s.known.getLastD 0:Nat))) :
  oP (eQ (.ptr L.hH 0) h) λa=>oP (eQ (.ptr L.hH 0) h) λb=>oP (fD b) λn=>oP (eJ .sub 3 n (.I 1)) λi=>oP (hV 1 a i) λp=>oP (eQ p h) K:=by
 obtain⟨l,o,_,_,d,e⟩:=q.EC (i:=t.s.known.length-1) (by omega);refine ed q.D.yS (ed q.D.yS (ed q.D.ok.len (qa (by omega) hk (ed d (ed e ?_)))))
 grind
theorem OX(q:Dq F G h L ops t R){m:Nat}(c:m<=t.s.known.length){K:Hp->Prop}(H:∀h' R',Kp F G h h'->Dq F G h' L ops {t with s:=cut m t.s} R'->K h') :
  oP (eQ (.ptr L.hH 0) h) λa=>oP (jc 1 a none (some (.I m)) h) λs=>fc (gh 1 (.ptr L.hH 0) s h) λ_ b=>K b:=by
 obtain⟨g,b,d,e,_,k,f⟩:=q.D.zc4 c;refine ed q.D.yS (ed d ?_);rw[e,ei];exact H _ _ k (q.step k f (by simp_all) q.gl q.hq rfl)
theorem SR(q:Dq F G h L ops t R)(j:ops.length<9223372036854775808){n:Nat}(k:Sm t.s n)(d:n<1000){K:fq}
  (H:∀h',Kp F (gm G L.mF) h h'->Dq F G h' L ops {t with s:=(fw ops t.s).2} R->K (.I ((fw ops t.s).1:Nat)) h') :
  oP (eQ (.ptr L.hH 0) h) λa=>oP (eQ (.ptr L.oT 0) h) λf=>oP (eQ (.ptr L.hH 0) h) λb=>oP (fD b) λn=>gN CS (fO f [n]) h λi c=>(h.next<=c.next/\oP (hV 1 a i) λp=>oP (eQ p c) λv=>((eQ (.ptr L.hH 0) c=some a)/\K v c)):=by
 refine ed q.D.yS (ed q.tS (ed q.D.yS (ed q.D.ok.len ?_)));show cP CS fg [.I t.s.known.length,.ptr L.mF 0,.ptr L.lr 0] h _;exact L2 q j k d λc l o e g _ m r=>⟨e.next,ed m (ed r ⟨g.D.yS,H _ e g⟩)⟩
theorem KS(q:Dq F G h L ops t R)(e:ops.length<9223372036854775808){n:Nat}(d:Sm t.s n)(f:n<999){K:fq}
  (H:∀F' h' R',(∀l,F l->F' l)->Kp F (gm G L.mF) h h'->Dq F' G h' L ops {t with s:=(ft ops t.s).2} R'->Sm (ft ops t.s).2 (n+1)->K (.I ((ft ops t.s).1:Nat)) h') :
  gN CS (fO (Rj L) []) h K:=by
 show cP CS fL [.ptr L.lu 0,.ptr L.oT 0,.ptr L.hH 0] h _;have g:=d.k;have i:=d.st;exact LX q d.k0 (by omega) (by omega) e λF' h' R' a b c _=>H F' h' R' a b c (d.state ops)
theorem Sm.end_{t:Dt}{n:Nat}(a:Sm t.s n)(f c:Nat)(nx:List Nat)(s:Nat)(p:List Nat):Sm (Un.end_ t f c nx s p).s n:=⟨a.v,Jw _,a.k,a.st,a.k0⟩
theorem Sm.cut{s:Ds}{n m:Nat}(a:Sm s n)(h0:0<m)(b:m<=s.known.length):Sm (Un.cut m s) n:=
 ⟨a.v,a.c,by show(s.known.take m).length<=n;rw[JT];have:=a.k;omega,a.st,by show 0<(s.known.take m).length;simp_all⟩
theorem Sm.setArgs{s:Ds}{n:Nat}(a:Sm s n)(v:Nat)(l:List Nat):Sm (Un.setArgs s v l) n:=⟨by rw[(Br s v l).1];exact a.v,a.c,a.k,a.st,a.k0⟩
theorem A8(q:Dq F G h L ops t R)(d:t.blocks.length<1000)(fin cond:Nat)(nx:List Nat)(state:Nat){ps:Option (O×(Nat->V))}(hx:ps=some (O.cells 3 1 true false (iT nx),λl=> .slice l 0 nx.length)){B:V->Option V}
  (e:∀m,B (.slice m 0 nx.length)=some (.agg (kS ⟨[],fin,cond,nx,[],state⟩ .ee (.slice m 0 nx.length) .ee))) {K:fq}
  (H:∀F' h' R',(∀l,F l->F' l)->Kp F G h h'->Dq F' G h' L ops {s:={t.s with cur:=[]},blocks:=t.blocks++[⟨t.s.cur,fin,cond,nx,t.ez,state⟩],ez:=[]} R'->K (.I t.blocks.length) h') :
  gX ps h λv f=>oP (B v) λw=>gN CS (fO (Hu L) [w]) f K:=by
 subst hx;obtain⟨g,i,j⟩:=CT q nx;rw[fF];refine ed (e _) ?_;exact SH g d ⟨[],fin,cond,nx,[],state⟩ rfl rfl rfl i λF' h' R' a b c=>H F' h' R' (by grind[oR]) (j.trans b (oR _ _)) c
end
open Un
section
variable{F F' G G':Nat->Prop}{h h':Hp}{L:Lc}{ops:List Int}{t t':Dt}{R R':Rw}{Q:fq}
theorem VT(q:Dq F G h L ops t R){t':Dt}(e:t=t'):Dq F G h L ops t' R:=e▸q
theorem kgm{F F' G:Nat->Prop}{h h' b:Hp}{a:Nat}(x:Kp F (gm G a) h h')(y:Kp F' G h' b)(c:∀l,F l->F' l):Kp F (gm G a) h b:=x.trans (y.gm a) c
theorem Yo(q:Dq F G h L ops t R)(ho:ops.length<9223372036854775808){n:Nat}(hn:Sm t.s n)(cd:n<800)(hb:t.blocks.length<900){K:Hp->Prop}
  (H:∀F' h' R',(∀l,F l->F' l)->Kp F (gm G L.mF) h h'->Dq F' G h' L ops (fork ops t) R'->Sm (fork ops t).s (n+30)->K h') :
  oP (eQ (.ptr L.hH 0) h) λw=>
  oP (eQ (.ptr L.oT 0) h) λY=>
  oP (eQ (.ptr L.hH 0) h) λZ=>
  oP (fD Z) λaa=>
  gN CS (fO Y [aa]) h λab x=>
  (h.next<=x.next/\
  oP (hV 1 w ab) λac=>
  oP (eQ ac x) λae=>
  ((eQ (.ptr L.hH 0) x=some w)/\
  oP (eQ (.ptr L.hH 0) x) λag=>
  oP (fD ag) λy=>
  oP (fQ 3 (.ptr L.lu 0)) λah=>
  oP (eQ ah x) λai=>
  oP (fD ai) λaj=>
  oP (eJ .add 3 aj (V.I 1)) λak=>
  oP (fQ 3 (.ptr L.lu 0)) λal=>
  oP (eQ al x) λam=>
  oP (fD am) λan=>
  oP (eJ .add 3 an (V.I 2)) λao=>
  gX (jd 3 1 2 (V.I 0) [(0,ak),(1,ao)]) x λap h3=>
  oP (fJ [V.ee,(V.I 0),(V.I 0),V.ee,V.ee,(V.I 0)] [(0,1),(1,1),(2,1),(3,1),(4,1),(5,1)] [(1,(V.I 2)),(2,ae),(3,ap)]) λaq=>
  gN CS (fO (Hu L) [aq]) h3 λz h4=>
  gX (jd 3 1 1 (V.I 0) [(0,z)]) h4 λar h5=>
  oP (fQ 4 (.ptr L.je 0)) λau=>
  fc (gh 1 au ar h5) λvu h6=>
  gN CS (fO (IN L) []) h6 λbX E=>
  oP (eQ (.ptr L.hH 0) E) λaw=>
  oP (eQ (.ptr L.hH 0) E) λax=>
  oP (fD ax) λay=>
  oP (eJ .sub 3 ay (V.I 1)) λaA=>
  oP (hV 1 aw aA) λaB=>
  oP (eQ aB E) λaC=>
  oP (eQ (.ptr L.hH 0) E) λaD=>
  oP (jc 1 aD none (some y) E) λaE=>
  fc (gh 1 (.ptr L.hH 0) aE E) λbY h8=>
  oP (fQ 3 (.ptr L.lu 0)) λaF=>
  oP (eQ aF h8) λaG=>
  oP (fD aG) λaH=>
  oP (eJ .add 3 aH (V.I 2)) λaI=>
  gX (jd 3 1 1 (V.I 0) [(0,aI)]) h8 λaJ h9=>
  oP (fJ [V.ee,(V.I 0),(V.I 0),V.ee,V.ee,(V.I 0)] [(0,1),(1,1),(2,1),(3,1),(4,1),(5,1)] [(1,(V.I 1)),(3,aJ)]) λaK=>
  gN CS (fO (Hu L) [aK]) h9 λaL aM=>
  gX (jd 3 1 1 (V.I 0) [(0,z)]) aM λaN bA=>
  oP (fQ 4 (.ptr L.je 0)) λaO=>
  fc (gh 1 aO aN bA) λbZ aP=>
  gN CS (fO (IN L) []) aP λb4 b=>
  oP (eQ (.ptr L.hH 0) b) λaQ=>
  oP (eQ (.ptr L.hH 0) b) λaR=>
  oP (fD aR) λaS=>
  oP (eJ .sub 3 aS (V.I 1)) λaT=>
  oP (hV 1 aQ aT) λaU=>
  oP (eQ aU b) λaV=>
  oP (eQ (.ptr L.hH 0) b) λaW=>
  oP (jc 1 aW none (some y) b) λaX=>
  fc (gh 1 (.ptr L.hH 0) aX b) λb5 I=>
  oP (fQ 3 (.ptr L.lu 0)) λaY=>
  oP (eQ aY I) λaZ=>
  oP (fD aZ) λa5=>
  oP (eJ .add 3 a5 (V.I 1)) λa6=>
  gX (jd 3 1 1 (V.I 0) [(0,a6)]) I λa7 bC=>
  oP (fJ [V.ee,(V.I 0),(V.I 0),V.ee,V.ee,(V.I 0)] [(0,1),(1,1),(2,1),(3,1),(4,1),(5,1)] [(1,(V.I 1)),(3,a7)]) λa8=>
  gN CS (fO (Hu L) [a8]) bC λa9 ba=>
  gX (jd 3 1 2 (V.I 0) [(0,aL),(1,a9)]) ba λbb bD=>
  oP (fQ 4 (.ptr L.je 0)) λbc=>
  fc (gh 1 bc bb bD) λb6 a=>
  oP (eQ (.ptr L.hH 0) a) λg=>
  oP (eQ (.ptr L.xN 0) a) λA=>
  wP (jd 3 1 2 (V.I 0) [(0,aC),(1,aV)]) a λo4 bd d=>
  oP (fJ [(V.I 0),(V.I 0),(V.I 0),(V.I 0),V.ee,(V.I 0)] [(0,1),(1,1),(2,1),(3,1),(4,1),(5,1)] [(0,(V.I 21)),(4,bd)]) λbe=>
  ((d.get (a.next)=some o4/\O.beq o4 o4=true)/\
  ((eQ (.ptr L.xN 0) d=some A)/\
  ((eQ (.ptr L.hH 0) d=some g)/\
  gN CS (fO A [be]) d λbf J=>
  (d.next<=J.next/\
  wP (jd 3 1 1 (V.I 0) [(0,bf)]) J λo7 bg o=>
  ((o.get (J.next)=some o7/\O.beq o7 o7=true)/\
  ((eQ (.ptr L.hH 0) o=some g)/\
  fc (eR 3 1 8 g bg o) λbh M=>
  (o.next<=M.next/\
  fc (gh 1 (.ptr L.hH 0) bh M) λb7 N=>
  (M.next<=N.next/\
  gN CS (fO (IN L) []) N λb8 P=>K P)))))))))):=by
 have bi:=hn.k0;have hk:=hn.k;refine SR q ho hn (by omega) λx k2 B=>?_;refine ed B.D.yS (ed B.D.ok.len ?_);refine ed (by rfl) (ed B.D.ZV (ed B.D.ob.len (jZ (m:=1) (show t.blocks.length<_ by omega) (by omega) ?_)));refine ed (by rfl) (ed B.D.ZV (ed B.D.ob.len (jZ (m:=2) (show t.blocks.length<_ by omega) (by omega) ?_)));have n2:Sm (fw ops t.s).2 n:=hn.one;refine A8 B (show t.blocks.length<_ by omega) 2 (fw ops t.s).1 [t.blocks.length+1,t.blocks.length+2] 0 rfl (λ_=>rfl) λF4 h4 R4 f4 k4 q4=>?_;refine wF q4 [t.blocks.length] rfl λF6 h6 R6 f6 k6 q6=>?_;have q6:=VT (t':=end_ {t with s:=(fw ops t.s).2} 2 (fw ops t.s).1 [t.blocks.length+1,t.blocks.length+2] 0 [t.blocks.length]) q6 rfl;have n6:Sm (end_ {t with s:=(fw ops t.s).2} 2 (fw ops t.s).1 [t.blocks.length+1,t.blocks.length+2] 0 [t.blocks.length]).s n:=n2.end_ (t:={t with s:=(fw ops t.s).2}) _ _ _ _ _;have Q:(end_ {t with s:=(fw ops t.s).2} 2 (fw ops t.s).1 [t.blocks.length+1,t.blocks.length+2] 0 [t.blocks.length]).blocks.length=t.blocks.length+1:=by simp[end_]
 have ce:(end_ {t with s:=(fw ops t.s).2} 2 (fw ops t.s).1 [t.blocks.length+1,t.blocks.length+2] 0 [t.blocks.length]).s.known.length=t.s.known.length:=rfl;have c:fork ops t=fork ops t:=rfl
 conv at c=>rhs;unfold fork
 simp only at c;have el:({t with s:=(fw ops t.s).2}:Dt).s.known.length=t.s.known.length:=rfl;rw[el];have kA:=kgm k2 (k4.trans k6 f4) λ_ h=>h;have fA:∀l,F l->F6 l:=by simp_all
 generalize end_ {t with s:=(fw ops t.s).2} 2 (fw ops t.s).1 [t.blocks.length+1,t.blocks.length+2] 0 [t.blocks.length]=e at*;clear B q4 k2 k4 k6;refine Dg q6 ho n6 (by omega) λF7 E R7 f7 k7 q7 n7=>?_;have x7:=Em ops e.s;have cf:=x7.kl;generalize row ops e.s=f at*;have cg:=n7.k;refine Tx q7 (by grind) (by grind) ?_;refine OX q7 (m:=t.s.known.length) (by simp_all) λh8 R8 k8 q8=>?_;have n8:Sm (cut t.s.known.length f) (n+6):=n7.cut bi (by omega);refine ed (by rfl) (ed q8.D.ZV (ed q8.D.ob.len (jZ (m:=2) (show e.blocks.length<_ by omega) (by omega) ?_)));refine A8 q8 (show e.blocks.length<_ by omega) 1 0 [t.blocks.length+3] 0 (by show jd 3 1 1 (V.I 0) [(0,.I ((e.blocks.length+2:Nat):Int))]=_;rw[Q];rfl) (λ_=>rfl) λci aM Az cj bj bm=>?_;refine wF bm [t.blocks.length] rfl λbE aP R12 cm bn p=>?_;have p:=VT (t':=end_ {e with s:=cut t.s.known.length f} 1 0 [t.blocks.length+3] 0 [t.blocks.length]) p rfl;have bG:Sm (end_ {e with s:=cut t.s.known.length f} 1 0 [t.blocks.length+3] 0 [t.blocks.length]).s (n+6):=n8.end_ (t:={e with s:=cut t.s.known.length f}) _ _ _ _ _;have C:(end_ {e with s:=cut t.s.known.length f} 1 0 [t.blocks.length+3] 0 [t.blocks.length]).blocks.length=t.blocks.length+2:=by simp[end_,Q]
 have b9:(end_ {e with s:=cut t.s.known.length f} 1 0 [t.blocks.length+3] 0 [t.blocks.length]).s.known.length=t.s.known.length:=by
  show(f.known.take t.s.known.length).length=_;rw[JT];omega
 have bo:({e with s:=cut t.s.known.length f}:Dt).blocks.length=t.blocks.length+1:=Q;rw[bo];have S:({e with s:=f}:Dt).s.known.getLastD 0=f.known.getLastD 0:=rfl;rw[S];have kB:=(((kA.trans k7 fA).trans ((k8.gm L.mF).trans (bj.gm L.mF) λ_ h=>h) (by grind)).trans (bn.gm L.mF) (by grind))
 have fB:∀l,F l->bE l:=by grind
 generalize f.known.getLastD 0=W at*;generalize end_ {e with s:=cut t.s.known.length f} 1 0 [t.blocks.length+3] 0 [t.blocks.length]=i at*;clear q6 q7 q8 bm k7 k8 bj bn kA;refine Dg p ho bG (by omega) λcn b R13 co bp T br=>?_;have bH:=Em ops i.s;have ca:=bH.kl;generalize row ops i.s=r at*;have cb:=br.k;refine Tx T (by grind) (by grind) ?_;refine OX T (m:=t.s.known.length) (by simp_all) λI R14 bt u=>?_;have bI:Sm (cut t.s.known.length r) (n+6+6):=br.cut bi (by omega);refine ed (by rfl) (ed u.D.ZV (ed u.D.ob.len (jZ (m:=1) (show i.blocks.length<_ by omega) (by omega) ?_)));refine A8 u (show i.blocks.length<_ by omega) 1 0 [t.blocks.length+3] 0 (by show jd 3 1 1 (V.I 0) [(0,.I ((i.blocks.length+1:Nat):Int))]=_;rw[C];rfl) (λ_=>rfl) λcp ba cq cr bu bv=>?_;have bw:({i with s:=cut t.s.known.length r}:Dt).blocks.length=t.blocks.length+2:=C;rw[bw];refine wF bv [t.blocks.length+1,t.blocks.length+2] rfl λbJ a R18 ct bx j=>?_;have j:=VT (t':=end_ {i with s:=cut t.s.known.length r} 1 0 [t.blocks.length+3] 0 [t.blocks.length+1,t.blocks.length+2]) j rfl;have bz:Sm (end_ {i with s:=cut t.s.known.length r} 1 0 [t.blocks.length+3] 0 [t.blocks.length+1,t.blocks.length+2]).s (n+12):=(bI.le (by omega)).end_ (t:={i with s:=cut t.s.known.length r}) _ _ _ _ _;have v:({i with s:=r}:Dt).s.known.getLastD 0=r.known.getLastD 0:=rfl;rw[v];have kC:=(((kB.trans bp fB).trans ((bt.gm L.mF).trans (bu.gm L.mF) λ_ h=>h) (by simp_all)).trans (bx.gm L.mF) (by grind))
 have fC:∀l,F l->bJ l:=by grind
 generalize r.known.getLastD 0=X at*;generalize end_ {i with s:=cut t.s.known.length r} 1 0 [t.blocks.length+3] 0 [t.blocks.length+1,t.blocks.length+2]=t3 at*;clear p T u bv bp bt bu bx kB;refine ed j.D.yS (ed j.og ?_);have e3:jd 3 1 2 (V.I 0) [(0,V.I W),(1,V.I X)]=some (.cells 3 1 true false (iT [W,X]),λl=> .slice l 0 2):=rfl;rw[e3,gZ];obtain⟨U,bK,bL⟩:=CT j [W,X];have cu:(a.new (.cells 3 1 true false (iT [W,X]))).get a.next=_:=fi _ _;have eP:∀n:Nat,fJ [(V.I 0),(V.I 0),(V.I 0),(V.I 0),V.ee,(V.I 0)] [(0,1),(1,1),(2,1),(3,1),(4,1),(5,1)] [(0,(V.I 21)),(4,.slice n 0 2)]=some (.agg (lW (vl 21 0 0 0 [W,X] 0) (.slice n 0 2))):=λ_=>rfl;refine ed (eP _) ⟨by simp_all,U.og,U.D.yS,?_⟩;generalize a.new (.cells 3 1 true false (iT [W,X]))=d at*;refine ED U bz (by omega) ⟨_,rfl,bK⟩ λN cv bQ bR=>?_;refine Dg bR ho (bz.iE _) (by omega) λbS P bU cw bV cx bW=>?_;refine H bS P bU (by grind[oR]) ((kC.trans ((bL.gm L.mF).trans (bQ.gm L.mF) (oR _ _)) fC).trans bV (by grind[oR])) (by simp_all) ?_;rw[c];exact bW.le (by omega)
end
open Un
section
variable{F F' G G':Nat->Prop}{h h':Hp}{L:Lc}{ops:List Int}{t t':Dt}{R R':Rw}{Q:fq}
theorem YQ(q:Dq F G h L ops t R)(O:ops.length<9223372036854775808){n:Nat}(P:Sm t.s n)(aK:n<800)(hb:t.blocks.length<900){K:Hp->Prop}
  (H:∀F' h' R',(∀l,F l->F' l)->Kp F (gm G L.mF) h h'->Dq F' G h' L ops (wo ops t) R'->Sm (wo ops t).s (n+30)->K h') :
  oP (eQ (.ptr L.hH 0) h) λi=>
  oP (eQ (.ptr L.oT 0) h) λU=>
  oP (eQ (.ptr L.hH 0) h) λW=>
  oP (fD W) λX=>
  gN CS (fO U [X]) h λY a=>
  (h.next<=a.next/\
  oP (hV 1 i Y) λZ=>
  oP (eQ Z a) λaa=>
  ((eQ (.ptr L.hH 0) a=some i)/\
  oP (fQ 3 (.ptr L.lu 0)) λab=>
  oP (eQ ab a) λac=>
  oP (fD ac) λae=>
  oP (eJ .add 3 ae (V.I 1)) λag=>
  oP (fQ 3 (.ptr L.lu 0)) λah=>
  oP (eQ ah a) λj=>
  oP (fD j) λo=>
  oP (eJ .add 3 o (V.I 2)) λp=>
  gX (jd 3 1 2 (V.I 0) [(0,ag),(1,p)]) a λr ai=>
  oP (fJ [V.ee,(V.I 0),(V.I 0),V.ee,V.ee,(V.I 0)] [(0,1),(1,1),(2,1),(3,1),(4,1),(5,1)] [(1,(V.I 2)),(2,aa),(3,r)]) λu=>
  gN CS (fO (Hu L) [u]) ai λb v=>
  oP (eQ (.ptr L.hH 0) v) λw=>
  oP (fD w) λx=>
  gX (jd 3 1 1 (V.I 0) [(0,b)]) v λy aj=>
  oP (fQ 4 (.ptr L.je 0)) λz=>
  fc (gh 1 z y aj) λak al=>
  gN CS (fO (IN L) []) al λaH A=>
  oP (eQ (.ptr L.TA 0) A) λB=>
  gN CS (fO B []) A λC am=>
  oP (fJ [V.ee,(V.I 0),(V.I 0),V.ee,V.ee,(V.I 0)] [(0,1),(1,1),(2,1),(3,1),(4,1),(5,1)] [(1,(V.I 3)),(5,C)]) λE=>
  gN CS (fO (Hu L) [E]) am λaI d=>
  oP (eQ (.ptr L.hH 0) d) λI=>
  oP (jc 1 I none (some x) d) λJ=>
  fc (gh 1 (.ptr L.hH 0) J d) λan ao=>
  gX (jd 3 1 1 (V.I 0) [(0,b)]) ao λM ap=>
  oP (fQ 4 (.ptr L.je 0)) λN=>
  fc (gh 1 N M ap) λaq ar=>
  gN CS (fO (IN L) []) ar λaJ au=>K au)):=by
 have aw:=P.k0;have hk:=P.k;refine SR q O P (by omega) λh2 Q g=>?_;refine ed (by rfl) (ed g.D.ZV (ed g.D.ob.len (jZ (m:=1) (show t.blocks.length<_ by omega) (by omega) ?_)));refine ed (by rfl) (ed g.D.ZV (ed g.D.ob.len (jZ (m:=2) (show t.blocks.length<_ by omega) (by omega) ?_)));have n2:Sm (fw ops t.s).2 n:=P.one;refine A8 g (show t.blocks.length<_ by omega) 2 (fw ops t.s).1 [t.blocks.length+1,t.blocks.length+2] 0 rfl (λ_=>rfl) λF4 h4 R4 f4 k4 S=>?_;refine ed S.D.yS (ed S.D.ok.len ?_);refine wF S [t.blocks.length] rfl λF6 h6 R6 f6 k6 q6=>?_;have q6:=VT (t':=end_ {t with s:=(fw ops t.s).2} 2 (fw ops t.s).1 [t.blocks.length+1,t.blocks.length+2] 0 [t.blocks.length]) q6 rfl;have n6:Sm (end_ {t with s:=(fw ops t.s).2} 2 (fw ops t.s).1 [t.blocks.length+1,t.blocks.length+2] 0 [t.blocks.length]).s n:=n2.end_ (t:={t with s:=(fw ops t.s).2}) _ _ _ _ _;have aL:(end_ {t with s:=(fw ops t.s).2} 2 (fw ops t.s).1 [t.blocks.length+1,t.blocks.length+2] 0 [t.blocks.length]).blocks.length=t.blocks.length+1:=by simp[end_]
 have aM:(end_ {t with s:=(fw ops t.s).2} 2 (fw ops t.s).1 [t.blocks.length+1,t.blocks.length+2] 0 [t.blocks.length]).s.known.length=t.s.known.length:=rfl;have hx:wo ops t=wo ops t:=rfl
 conv at hx=>rhs;unfold wo
 simp only at hx;have kA:=kgm Q (k4.trans k6 f4) λ_ h=>h;have fA:∀l,F l->F6 l:=by simp_all
 generalize end_ {t with s:=(fw ops t.s).2} 2 (fw ops t.s).1 [t.blocks.length+1,t.blocks.length+2] 0 [t.blocks.length]=c at*;clear g S Q k4 k6;refine Dg q6 O n6 (by omega) λF7 h7 R7 f7 k7 q7 n7=>?_;have x7:=Em ops c.s;have aN:=x7.kl;generalize row ops c.s=e at*;refine ed q7.Hl ?_;refine KS q7 O n7 (by omega) λF8 h8 R8 f8 k8 q8 T=>?_;have x8:=Ix ops e;have aO:=x8.kl;have e8:ft ops ({c with s:=e}:Dt).s=ft ops e:=rfl;rw[e8];have q8:Dq F8 G h8 L ops {c with s:=(ft ops e).2} R8:=q8;have T:Sm (ft ops e).2 (n+6+1):=T;generalize (ft ops e).2=s2 at*;generalize (ft ops e).1=sn at*;have eB:fJ [V.ee,(V.I 0),(V.I 0),V.ee,V.ee,(V.I 0)] [(0,1),(1,1),(2,1),(3,1),(4,1),(5,1)] [(1,(V.I 3)),(5,.I sn)]=some (.agg (kS ⟨[],3,0,[],[],sn⟩ .ee .ee .ee)):=rfl;refine ed eB ?_;have aP:=T.k;refine SH q8 (show c.blocks.length<_ by omega) ⟨[],3,0,[],[],sn⟩ rfl rfl rfl .nil λF9 h9 R9 f9 k9 q9=>?_;refine OX q9 (m:=t.s.known.length) (by grind) λaQ Az ax ay=>?_;refine wF ay [t.blocks.length] rfl λaR aS R11 aT aA f=>?_;have f:=VT (t':=end_ {c with s:=cut t.s.known.length s2} 3 0 [] sn [t.blocks.length]) f rfl;have aB:Sm (end_ {c with s:=cut t.s.known.length s2} 3 0 [] sn [t.blocks.length]).s (n+7):=(T.cut aw (by omega)).end_ (t:={c with s:=cut t.s.known.length s2}) _ _ _ _ _;refine Dg f O aB (by omega) λaC aD R12 aU aE aV aF=>?_;have aG:∀l,F l->F8 l:=by grind
 refine H aC aD R12 (by grind) ?_ (by simp_all) ?_
 ·have k1:=(kA.trans k7 fA).trans k8 (by grind);have Q:=((k9.gm L.mF).trans (ax.gm L.mF) f9).trans (aA.gm L.mF) f9;exact(k1.trans Q aG).trans aE (by grind)
 ·rw[hx];exact aF.le (by omega)
end
