/- Parts. -/
import Derived.Test.YtjgjgngfjopaaaaDoorM20
namespace Go.Proofs.YtjgjgngfjopaaaaDoor.Hx
open Un
theorem js{b:Bool}{A B:Prop}(h:if b=true then A else B):bP (.bool b) A B:=by rw[ie];exact h
theorem Ur(ops:List Int)(s:Ds):rows ops 0 s=s:=rfl
theorem Uv(ops:List Int)(k:Nat)(s:Ds)(h:¬s.ef.length<200):rows ops k s=s:=by
 cases k with
 |zero=>rfl
 |succ k=>unfold rows;rw[if_neg h]
theorem Vm(ops:List Int)(k:Nat)(s:Ds)(h:s.ef.length<200):rows ops (k+1) s=rows ops k (tM ops s):=by
 conv=>lhs;unfold rows
 rw[if_pos h]
section
variable{F F' G G':Nat->Prop}{h h':Hp}{L:Lc}{ops:List Int}{t t':Dt}{R R':Rw}{Q:fy}
theorem Sm.one{s:Ds}{n:Nat}(a:Sm s n):Sm (fK ops s).2 n:=a.pos _
theorem Sm.num{s:Ds}{n:Nat}(a:Sm s n)(m:Nat):Sm (num ops s m).2 n:=a.pos _
theorem zcj{s:Ds}{n:Nat}(a:Sm s n)(ops:List Int)(x:Vl):Sm (put (fJ ops s).2 x) (n+1):=by
 obtain ⟨p,hp⟩:=Fp ops (num ops s 4).1 (num ops s 4).2 [];have e:(fJ ops s).2 = {s with pos:=p,eh:=(fJ ops s).2.eh}:=by
  unfold fJ;simp only[hp];rfl
 have h:=a.state ops;rw[e]at h⊢;exact⟨tU a.v,tU a.c,h.k,h.st,h.k0⟩
theorem zaO(q:Dq F G h L ops t R)(v:ops.length<9223372036854775808){n:Nat}(hn:Sm t.s n)(ag:n<900)
  (H:∀F' h' R',(∀l,F l->F' l)->Kp F (gm G L.mX) h h'->Dq F' G h' L ops {t with s:=row ops t.s} R'->Sm (row ops t.s) (n+6)->Q (.tuple []) h') :
  cP CS jy [.ptr L.pE 0,.ptr L.lu 0,.ptr L.iu 0,.ptr L.zp 0,.ptr L.TD 0] h Q:=by
 refine Dv rfl rfl ?_;unfold vt;refine ed q.vg ?_;show cP CS fq [.I ((6:Nat):Int),.ptr L.mX 0,.ptr L.lr 0] h _;refine xJ q (by decide) (by decide) v λh0 k0 q0=>?_;have hr:(draw ops t.s.pos 6).1<6:=xF _ _ (by decide);refine jO (n:=1) (by decide) (by omega) ?_
 refine AV (λk U W X Y Z x5 h'=>∃(F':Nat->Prop) (R':Rw) (s:Ds),U = .ptr L.pE 0/\W = .ptr L.lu 0/\X = .ptr L.iu 0/\Y = .ptr L.zp 0/\Z = .ptr L.TD 0/\x5 = .I (k:Nat)/\(∀l,F l->F' l)/\
  Kp F (gm G L.mX) h h'/\Dq F' G h' L ops {t with s:=s} R'/\rows ops k s=row ops t.s/\∃m,Sm s m/\m+k<=n+6) ?_
  ⟨F,R,(num ops t.s 6).2,rfl,rfl,rfl,rfl,rfl,rfl,λ_ h=>h,k0,q0,rfl,n,hn.num 6,by omega⟩
 rintro k U W X Y Z x5 h' ⟨p,R1,s,rfl,rfl,rfl,rfl,rfl,rfl,I,k1,A,f,m,N,ah⟩;unfold qO;refine ed (by rw[nf]) ?_;have lv:=A.D.ov.len;have eA:jZ (.bool (decide ((0:Int)<(k:Nat)))) (oB (fH 2 (.ptr L.lu 0)) λaa=>oB (ez aa h') λab=>oB (fF ab) λac=>eo .lss 3 ac (V.I 200))=some (.bool (decide ((0:Int)<(k:Nat))&&decide (((s.ef.length:Nat):Int)<200))):=by
  simp only[eJ,fj,yC,A.D.Vx,lv,jD,jU]
 refine ed eA (js ?_)
 cases k with
 | zero=>
   refine gi (by simp) ?_;rw[Ur]at f
   refine H p h' R1 I k1 (by rw[<-f];exact A) (by rw[<-f];exact N.le (by omega))
 | succ k=>
   by_cases Kh:s.ef.length<200;rotate_left
   ·refine gi (by simp;omega) ?_
    rw[Uv _ _ _ Kh]at f;refine H p h' R1 I k1 (by rw[<-f];exact A) (by rw[<-f];exact N.le (by omega))
   refine gw (by simp;omega) ?_;have w:rows ops k (tM ops s)=row ops t.s:=by rw[<-f,Vm _ _ _ Kh]
   clear f eA;refine ed A.D.zE (ed A.vg (ed A.D.zE (ed A.D.ok.len ?_)));show cP CS fq [.I (s.known.length:Nat),.ptr L.mX 0,.ptr L.lr 0] h' _;refine LI A v N (by omega) λh2 l o k2 J _ i1 K=>⟨k2.next,ed i1 (ed K ⟨J.D.zE,?_⟩)⟩
   have K:True:=trivial;refine ed J.D.zE (ed J.vg (ed J.D.zE (ed J.D.ok.len ?_)));show cP CS fq [.I ((fK ops s).2.known.length:Nat),.ptr L.mX 0,.ptr L.lr 0] h2 _;refine LI J v N.one (by omega) λh3 l' o' k3 q3 _ j1 j2=>⟨k3.next,ed j1 (ed j2 ⟨q3.D.zE,?_⟩)⟩
   refine ed q3.vg ?_;show cP CS fq [.I ((20:Nat):Int),.ptr L.mX 0,.ptr L.lr 0] h3 _;refine xJ q3 (by decide) (by decide) v λB k4 d=>?_;have d:Dq p G B L ops {t with s:=(num ops (fK ops (fK ops s).2).2 20).2} R1:=d;have j:Sm (num ops (fK ops (fK ops s).2).2 20).2 m:=N.one.one.num 20;have kk:Kp F (gm G L.mX) h B:=((k1.trans k2 I).trans k3 I).trans k4 I;have x:tM ops s=sq ops (num ops (fK ops (fK ops s).2).2 20).2 (num ops (fK ops (fK ops s).2).2 20).1 (fK ops s).1 (fK ops (fK ops s).2).1:=rfl;rw[x]at w;have ek:(draw ops ({t with s:=(fK ops ({t with s:=(fK ops ({t with s:=s}:Dt).s).2}:Dt).s).2}:Dt).s.pos 20).1=(num ops (fK ops (fK ops s).2).2 20).1:=rfl;rw[ek];clear ek;have ai:(num ops (fK ops (fK ops s).2).2 20).1<20:=xF _ _ (by decide);generalize (num ops (fK ops (fK ops s).2).2 20).2=s4 at*;generalize (num ops (fK ops (fK ops s).2).2 20).1=kd at*;have ea:(fK ops ({t with s:=s}:Dt).s).1=(fK ops s).1:=rfl;have eb:(fK ops ({t with s:=(fK ops ({t with s:=s}:Dt).s).2}:Dt).s).1=(fK ops (fK ops s).2).1:=rfl;rw[ea,eb];generalize (fK ops s).1=a at*;generalize (fK ops (fK ops s).2).1=b at*;clear q3 J A k1 k2 k3 k4 j1 j2 lv x
   have fin:∀(F2:Nat->Prop) (e:Hp) (R2:Rw) (P:Ds),(∀l,p l->F2 l)->Kp p (gm G L.mX) B e->Dq F2 G e L ops {t with s:=P} R2->P=sq ops s4 kd a b->Sm P (m+1)->
       gy CS Q (λU W X Y Z x5 hh=>∃k',k' < k+1/\∃(F':Nat->Prop) (R':Rw) (s:Ds),U = .ptr L.pE 0/\W = .ptr L.lu 0/\X = .ptr L.iu 0/\Y = .ptr L.zp 0/\Z = .ptr L.TD 0/\x5 = .I (k':Nat)/\(∀l,F l->F' l)/\
         Kp F (gm G L.mX) h hh/\Dq F' G hh L ops {t with s:=s} R'/\rows ops k' s=row ops t.s/\∃m,Sm s m/\m+k'<=n+6) (.ptr L.pE 0) (.ptr L.lu 0) (.ptr L.iu 0) (.ptr L.zp 0) (.ptr L.TD 0) (.I ((k+1:Nat):Int)) e:=by
     intro F2 e R2 P ae g c e5 m5;refine AY ?_;unfold rO;refine xK (by omega) (by omega) ?_;exact⟨k,by omega,F2,R2,P,rfl,rfl,rfl,rfl,rfl,rfl,λl hl=>ae l (I l hl),kk.trans g I,c,by rw[e5];exact w,m+1,m5,by omega⟩
   by_cases C:kd<12
   ·refine gG ?_
    refine ed d.D.zE (ed d.oS (jO (n:=3) (by decide) (by omega) ?_));have eP:∀o:Nat,fV [(V.I 0),(V.I 0),(V.I 0),(V.I 0),V.ee,(V.I 0)] [(0,1),(1,1),(2,1),(3,1),(4,1),(5,1)] [(0,.I (o:Nat)),(1,.I (a:Nat)),(2,.I (b:Nat))]=some (.agg (mz (vl o a b 0 [] 0) .ee)):=λ_=>rfl;refine ed (eP _) ?_;exact Gj d j (by omega) ⟨_,rfl,.nil⟩ λe R5 g c=>fin p e R5 _ (λ_ h=>h) (g.gm _) c (by unfold sq;rw[if_pos C]) (j.iJ _)
   refine iI ?_;by_cases E:kd=12
   ·refine gj (gw (by omega) ?_)
    refine ed d.D.zE (ed d.oS (ed d.vg ?_));show cP CS fq [.I ((1048576:Nat):Int),.ptr L.mX 0,.ptr L.lr 0] B _;refine xJ d (by decide) (by decide) v λe g c=>⟨g.next,?_⟩
    have c:Dq p G e L ops {t with s:=(num ops s4 1048576).2} R1:=c;have hd:(draw ops s4.pos 1048576).1<1048576:=xF _ _ (by decide);have ew:lM .i64 (((draw ops s4.pos 1048576).1:Int)-9)=((draw ops s4.pos 1048576).1:Int)-9:=oV (by simp only[tH];omega);refine ed (by rw[pj]) ?_;rw[show(lM .i64 (((draw ops ({t with s:=s4}:Dt).s.pos 1048576).1:Int)-9))=((draw ops s4.pos 1048576).1:Int)-9 from ew];have eP:∀i:Int,fV [(V.I 0),(V.I 0),(V.I 0),(V.I 0),V.ee,(V.I 0)] [(0,1),(1,1),(2,1),(3,1),(4,1),(5,1)] [(0,(V.I 2)),(3,.I i)]=some (.agg (mz (vl 2 0 0 i [] 0) .ee)):=λ_=>rfl;refine ed (eP _) ⟨c.oS,c.D.zE,?_⟩;exact Gj c (j.num _) (by omega) ⟨_,rfl,.nil⟩ λy R6 r u=>fin p y R6 _ (λ_ h=>h) (g.trans (r.gm _) λ_ h=>h) u (by unfold sq;rw[if_neg C,if_pos E];rfl) ((j.num _).iJ _)
   refine gj (gi (by omega) ?_);by_cases c2:kd=13
   ·refine gj (gw (by omega) ?_)
    refine ed d.D.zE (ed d.oS (ed d.vg ?_));show cP CS fq [.I ((5:Nat):Int),.ptr L.mX 0,.ptr L.lr 0] B _;refine xJ d (by decide) (by decide) v λe g c=>⟨g.next,?_⟩
    have c:Dq p G e L ops {t with s:=(num ops s4 5).2} R1:=c;have eP:∀n:Nat,fV [(V.I 0),(V.I 0),(V.I 0),(V.I 0),V.ee,(V.I 0)] [(0,1),(1,1),(2,1),(3,1),(4,1),(5,1)] [(0,(V.I 17)),(1,.I (a:Nat)),(3,.I (n:Nat))]=some (.agg (mz (vl 17 a 0 (n:Nat) [] 0) .ee)):=λ_=>rfl;refine ed (eP _) ⟨c.oS,c.D.zE,?_⟩;exact Gj c (j.num _) (by omega) ⟨_,rfl,.nil⟩ λy R6 r u=>fin p y R6 _ (λ_ h=>h) (g.trans (r.gm _) λ_ h=>h) u (by unfold sq;rw[if_neg C,if_neg E,if_pos c2];rfl) ((j.num _).iJ _)
   refine gj (gi (by omega) ?_);by_cases M:kd=14
   ·refine gj (gw (by omega) ?_)
    refine ed d.D.zE (ed d.oS ?_);have eP:fV [(V.I 0),(V.I 0),(V.I 0),(V.I 0),V.ee,(V.I 0)] [(0,1),(1,1),(2,1),(3,1),(4,1),(5,1)] [(0,(V.I 18)),(1,.I (a:Nat)),(2,.I (b:Nat))]=some (.agg (mz (vl 18 a b 0 [] 0) .ee)):=rfl;refine ed eP ?_;exact Gj d j (by omega) ⟨_,rfl,.nil⟩ λe R5 g c=>fin p e R5 _ (λ_ h=>h) (g.gm _) c (by unfold sq;rw[if_neg C,if_neg E,if_neg c2,if_pos M]) (j.iJ _)
   refine gj (gi (by omega) ?_);by_cases S:kd=15
   ·refine gj (gw (by omega) ?_)
    refine ed d.oS (ed d.vg ?_);show cP CS fq [.I ((5:Nat):Int),.ptr L.mX 0,.ptr L.lr 0] B _;refine xJ d (by decide) (by decide) v λe g c=>⟨g.next,?_⟩
    have c:Dq p G e L ops {t with s:=(num ops s4 5).2} R1:=c;have eP:∀n:Nat,fV [(V.I 0),(V.I 0),(V.I 0),(V.I 0),V.ee,(V.I 0)] [(0,1),(1,1),(2,1),(3,1),(4,1),(5,1)] [(0,(V.I 19)),(1,.I (a:Nat)),(3,.I (n:Nat)),(2,.I (b:Nat))]=some (.agg (mz (vl 19 a b (n:Nat) [] 0) .ee)):=λ_=>rfl;refine ed (eP _) ⟨c.oS,?_⟩;refine I5 c (j.num _) (by omega) ⟨_,rfl,.nil⟩ λy R6 r _ u=>⟨r.next,?_⟩
    exact fin p y R6 _ (λ_ h=>h) (g.trans (r.gm _) λ_ h=>h) u (by unfold sq;rw[if_neg C,if_neg E,if_neg c2,if_neg M,if_pos S];rfl) ((j.num _).put _)
   refine gj (gi (by omega) ?_);by_cases c5:kd=16
   ·refine gj (gw (by omega) ?_)
    refine ed d.oS (ed d.D.zE (ed d.vg (ed d.D.zE (ed d.D.ok.len ?_))));show cP CS fq [.I (s4.known.length:Nat),.ptr L.mX 0,.ptr L.lr 0] B _;refine LI d v j (by omega) λe l o g c hl i1 K=>⟨g.next,ed i1 (ed K ?_)⟩
    have c:Dq p G e L ops {t with s:=(fK ops s4).2} R1:=c;have K:ez (.ptr l o) e=some (.I ((fK ops s4).1:Nat)):=K;have e3:jt 3 1 1 (V.I 0) [(0,V.I ((fK ops s4).1:Nat))]=some (.cells 3 1 true false [V.I ((fK ops s4).1:Nat)],λl=> .slice l 0 1):=rfl;show wU (jt 3 1 1 (V.I 0) [(0,V.I ((fK ops s4).1:Nat))]) e _;rw[e3,hK];have eP:∀n:Nat,fV [(V.I 0),(V.I 0),(V.I 0),(V.I 0),V.ee,(V.I 0)] [(0,1),(1,1),(2,1),(3,1),(4,1),(5,1)] [(0,(V.I 20)),(1,.I (a:Nat)),(2,.I (b:Nat)),(4,.slice n 0 1)]=some (.agg (mz (vl 20 a b 0 [(fK ops s4).1] 0) (.slice n 0 1))):=λ_=>rfl;have D6:=c.D.new (.cells 3 1 true false [V.I ((fK ops s4).1:Nat)]);have r:=c.D.yI (.cells 3 1 true false [V.I ((fK ops s4).1:Nat)]);have u:=c.step r D6 (pJ _ _) c.gl c.hq rfl;have g6:(e.new (.cells 3 1 true false [V.I ((fK ops s4).1:Nat)])).get e.next=_:=fi _ _;refine ed (eP _) ⟨⟨g6,O.gO _ _ _ _ _⟩,iF K (fo _ hl),D6.zE,u.oS,?_⟩
    have hs:iC eN (fz p e.next) (e.new (.cells 3 1 true false [V.I ((fK ops s4).1:Nat)])) [(fK ops s4).1] (.slice e.next 0 1):=
      .inr ⟨e.next,0,3,true,false,[V.I ((fK ops s4).1:Nat)],rfl,.inr rfl,g6,.inr rfl,Kl _,⟨_,[],rfl,rfl,trivial⟩⟩
    refine I5 u (j.one) (by omega) ⟨_,rfl,hs⟩ λh7 R7 k7 _ q7=>⟨k7.next,?_⟩
    exact fin (fz p e.next) h7 R7 _ (pJ _ _) ((g.trans (r.gm _) λ_ h=>h).trans (k7.gm _) (pJ _ _)) q7 (by unfold sq;rw[if_neg C,if_neg E,if_neg c2,if_neg M,if_neg S,if_pos c5]) (j.one.put _)
   refine gj (gi (by omega) ?_);by_cases c6:kd=17
   ·refine gj (gw (by omega) ?_)
    refine ed d.oS (ed d.IS ?_);show cP CS fW [.ptr L.lu 0,.ptr L.pE 0,.ptr L.iu 0] B _;refine MF d j.k0 (by have:=j.k;show s4.known.length<_;omega) (by have:=j.st;show s4.eh.length<_;omega) v λT e R5 z g c _=>⟨g.next,?_⟩
    have c:Dq T G e L ops {t with s:=(fJ ops s4).2} R5:=c;have eP:∀n:Nat,fV [(V.I 0),(V.I 0),(V.I 0),(V.I 0),V.ee,(V.I 0)] [(0,1),(1,1),(2,1),(3,1),(4,1),(5,1)] [(0,(V.I 22)),(1,.I (a:Nat)),(5,.I (n:Nat))]=some (.agg (mz (vl 22 a 0 0 [] n) .ee)):=λ_=>rfl;refine ed (eP _) ⟨c.oS,?_⟩;refine I5 c (j.state ops) (by omega) ⟨_,rfl,.nil⟩ λy R6 r _ u=>⟨r.next,?_⟩
    exact fin T y R6 _ z (g.trans (r.gm _) z) u (by unfold sq;rw[if_neg C,if_neg E,if_neg c2,if_neg M,if_neg S,if_neg c5,if_pos c6]) (zcj j ops _)
   refine gj (gi (by omega) ?_);by_cases c7:kd=18
   ·refine gj (gw (by omega) ?_)
    refine ed d.oS (ed d.IS ?_);show cP CS fW [.ptr L.lu 0,.ptr L.pE 0,.ptr L.iu 0] B _;refine MF d j.k0 (by have:=j.k;show s4.known.length<_;omega) (by have:=j.st;show s4.eh.length<_;omega) v λT e R5 z g c _=>⟨g.next,?_⟩
    have c:Dq T G e L ops {t with s:=(fJ ops s4).2} R5:=c;have eP:∀n:Nat,fV [(V.I 0),(V.I 0),(V.I 0),(V.I 0),V.ee,(V.I 0)] [(0,1),(1,1),(2,1),(3,1),(4,1),(5,1)] [(0,(V.I 23)),(5,.I (n:Nat))]=some (.agg (mz (vl 23 0 0 0 [] n) .ee)):=λ_=>rfl;refine ed (eP _) ⟨c.oS,?_⟩;refine I5 c (j.state ops) (by omega) ⟨_,rfl,.nil⟩ λy R6 r _ u=>⟨r.next,?_⟩
    exact fin T y R6 _ z (g.trans (r.gm _) z) u (by unfold sq;rw[if_neg C,if_neg E,if_neg c2,if_neg M,if_neg S,if_neg c5,if_neg c6,if_pos c7]) (zcj j ops _)
   refine gj (gi (by omega) ?_);refine ed d.D.zE (ed d.oS (ed d.vg ?_));show cP CS fq [.I ((2:Nat):Int),.ptr L.mX 0,.ptr L.lr 0] B _;refine xJ d (by decide) (by decide) v λe g c=>⟨g.next,?_⟩
   have c:Dq p G e L ops {t with s:=(num ops s4 2).2} R1:=c;have hd:(draw ops s4.pos 2).1<2:=xF _ _ (by decide);refine jO (n:=15) (by decide) (by show(draw ops s4.pos 2).1<_;omega) ?_;have eP:∀o:Nat,fV [(V.I 0),(V.I 0),(V.I 0),(V.I 0),V.ee,(V.I 0)] [(0,1),(1,1),(2,1),(3,1),(4,1),(5,1)] [(0,.I (o:Nat)),(1,.I (a:Nat))]=some (.agg (mz (vl o a 0 0 [] 0) .ee)):=λ_=>rfl;refine ed (eP _) ⟨c.oS,c.D.zE,?_⟩;exact Gj c (j.num _) (by omega) ⟨_,rfl,.nil⟩ λy R6 r u=>fin p y R6 _ (λ_ h=>h) (g.trans (r.gm _) λ_ h=>h) u (by unfold sq;rw[if_neg C,if_neg E,if_neg c2,if_neg M,if_neg S,if_neg c5,if_neg c6,if_neg c7];rfl) ((j.num _).iJ _)
end
open Un
structure GC (s s':Ds):Prop where
 k:∃l,s'.known=s.known++l
 v:∃l,s'.ef=s.ef++l
theorem GC.refl(s:Ds):GC s s:=⟨⟨[],by simp⟩,⟨[],by simp⟩⟩
theorem GC.trans{s s' c:Ds}(a:GC s s')(b:GC s' c):GC s c:=by
 obtain⟨⟨d,e⟩,⟨f,g⟩⟩:=a;obtain⟨⟨h,i⟩,⟨j,k⟩⟩:=b;exact⟨⟨d++h,by rw[i,e,Ek]⟩,⟨f++j,by rw[k,g,Ek]⟩⟩
theorem GC.kl{s s':Ds}(a:GC s s'):s.known.length<=s'.known.length:=by
 obtain⟨⟨c,b⟩,_⟩:=a;rw[b,y6];omega
theorem Jz(ops:List Int)(s:Ds):GC s (fJ ops s).2:=by
 obtain⟨p,hp⟩:=Fp ops (num ops s 4).1 (num ops s 4).2 [];unfold fJ;simp only[hp];exact⟨⟨[],by simp[num]⟩,⟨[],by simp[num]⟩⟩
theorem EC(s:Ds)(x:Vl):GC s (iJ s x):=⟨⟨_,rfl⟩,⟨_,rfl⟩⟩
theorem Lb(s:Ds)(x:Vl):GC s (put s x):=⟨⟨[],by simp[put]⟩,⟨_,rfl⟩⟩
theorem FM(ops:List Int)(s:Ds)(m:Nat):GC s (num ops s m).2:=⟨⟨[],by simp[num]⟩,⟨[],by simp[num]⟩⟩
theorem OH(ops:List Int)(s:Ds):GC s (fK ops s).2:=⟨⟨[],by simp[fK]⟩,⟨[],by simp[fK]⟩⟩
theorem WB(ops:List Int)(s:Ds)(k a b:Nat):GC s (sq ops s k a b):=by
 unfold sq;split
 ·exact EC _ _
 split
 ·exact(FM _ _ _).trans (EC _ _)
 split
 ·exact(FM _ _ _).trans (EC _ _)
 split
 ·exact EC _ _
 split
 ·exact(FM _ _ _).trans (Lb _ _)
 split
 ·exact(OH _ _).trans (Lb _ _)
 split
 ·exact(Jz _ _).trans (Lb _ _)
 split
 ·exact(Jz _ _).trans (Lb _ _)
 ·exact(FM _ _ _).trans (EC _ _)
theorem Qx(ops:List Int):∀(i:Nat)(s:Ds),GC s (rows ops i s)
 |0,s=> .refl s
 | i+1,s=>by
   unfold rows;split
   ·exact(((OH ops s).trans (OH ops _)).trans ((FM ops _ 20).trans (WB _ _ _ _ _))).trans (Qx ops i _)
   ·exact .refl s
theorem Gp(ops:List Int)(s:Ds):GC s (row ops s):=(FM ops s 6).trans (Qx ops _ _)
def J4(L:Lc):V:= .func jy [] [.ptr L.pE 0,.ptr L.lu 0,.ptr L.iu 0,.ptr L.zp 0,.ptr L.TD 0]
def ID(L:Lc):V:= .func j7 [] [.ptr L.jA 0,.ptr L.lu 0]
def hO(xs:List Nat):List V:=xs.map λn=> .I (n:Nat)
section
variable{F F' G G':Nat->Prop}{h h':Hp}{L:Lc}{ops:List Int}{t t':Dt}{R R':Rw}{Q:fy}
theorem EY(q:Dq F G h L ops t R)(xs:List Nat):Dq (fz F h.next) G (h.new (.cells 3 1 true false (hO xs))) L ops t R/\iC eN (fz F h.next) (h.new (.cells 3 1 true false (hO xs))) xs (.slice h.next 0 xs.length)/\Kp F G h (h.new (.cells 3 1 true false (hO xs))):=by
 have k:=q.D.yI (.cells 3 1 true false (hO xs));exact⟨q.step k (q.D.new _) (pJ _ _) q.gl q.hq rfl,.inr ⟨h.next,0,3,true,false,hO xs,rfl,.inr rfl,fi _ _,.inr rfl,Kl _,xU _ _ xs⟩,k⟩
theorem xS(q:Dq F G h L ops t R)(xs:List Nat){ps:Option (O×(Nat->V))}(d:ps=some (O.cells 3 1 true false (hO xs),λl=> .slice l 0 xs.length)){K:Hp->Prop}
  (H:∀F' h' R',(∀l,F l->F' l)->Kp F G h h'->Dq F' G h' L ops {t with fg:=xs} R'->K h') :
  ik ps h λv e=>oP (fH 4 (.ptr L.jA 0)) λf=>fm (gK 1 f v e) λ_ g=>K g:=by
 subst d;obtain⟨a,i,j⟩:=EY q xs;rw[fE,eJ,gU];have k:=nT (o:=4) (v:= .slice h.next 0 xs.length) (nQ:=[R.cc,.I 0,.I 0,.ee,.slice h.next 0 xs.length,.I 0]) a.D.gb (by simp) rfl rfl;obtain⟨b,m⟩:=a.D.ZZ (c:=R.cc) i;rw[yC,k,ei];exact H _ _ _ (pJ _ _) (j.trans b (pJ _ _)) (a.step b m (λ_ h=>h) q.gl a.hq rfl)
theorem RK(q:Dq F G h L ops t R)(e:t.blocks.length<1000)(b:Bk){w nv:V}(f:w = .agg (kr b .ee nv .ee))(a:b.ef=[])(c:b.fg=[])(d:iC eN F h b.next nv){K:fy}
  (H:∀F' h' R',(∀l,F l->F' l)->Kp F G h h'->Dq F' G h' L ops {s:={t.s with cur:=[]},blocks:=t.blocks++[⟨t.s.cur,b.fin,b.cond,b.next,t.fg,b.state⟩],fg:=[]} R'->K (.I t.blocks.length) h') :
  ic CS (gh (ID L) [w]) h K:=by
 subst f;exact zbq (n:=0) q e a c d H
theorem Fv(q:Dq F G h L ops t R)(b:ops.length<9223372036854775808){n:Nat}(c:Sm t.s n)(a:n<900){K:fy}
  (H:∀F' h' R',(∀l,F l->F' l)->Kp F (gm G L.mX) h h'->Dq F' G h' L ops {t with s:=row ops t.s} R'->Sm (row ops t.s) (n+6)->K (.tuple []) h') :
  ic CS (gh (J4 L) []) h K:=zaO q b c a H
theorem Ta(q:Dq F G h L ops t R)(c:0<t.s.known.length)(d:t.s.known.length<1000){K:V->Prop}(H:K (.I (t.s.known.getLastD 0:Nat))) :
  oP (ez (.ptr L.iu 0) h) λa=>oP (ez (.ptr L.iu 0) h) λb=>oP (fF b) λn=>oP (eo .sub 3 n (.I 1)) λi=>oP (gD 1 a i) λp=>oP (ez p h) K:=by
 obtain⟨l,o,_,_,e,f⟩:=q.FO (i:=t.s.known.length-1) (by omega);refine ed q.D.zE (ed q.D.zE (ed q.D.ok.len (xK (by omega) c (ed e (ed f ?_)))));rw[xG _ c];exact H
theorem OQ(q:Dq F G h L ops t R){m:Nat}(c:m<=t.s.known.length){K:Hp->Prop}(H:∀h' R',Kp F G h h'->Dq F G h' L ops {t with s:=cut m t.s} R'->K h') :
  oP (ez (.ptr L.iu 0) h) λa=>oP (jh 1 a none (some (.I m)) h) λs=>fm (gK 1 (.ptr L.iu 0) s h) λ_ b=>K b:=by
 obtain⟨g,b,d,e,_,k,f⟩:=q.D.zdy c;refine ed q.D.zE (ed d ?_);rw[e,ei];exact H _ _ k (q.step k f (λ_ h=>h) q.gl q.hq rfl)
theorem SN(q:Dq F G h L ops t R)(j:ops.length<9223372036854775808){n:Nat}(k:Sm t.s n)(d:n<1000){K:fy}
  (H:∀h',Kp F (gm G L.mX) h h'->Dq F G h' L ops {t with s:=(fK ops t.s).2} R->K (.I ((fK ops t.s).1:Nat)) h') :
  oP (ez (.ptr L.iu 0) h) λa=>oP (ez (.ptr L.pE 0) h) λf=>oP (ez (.ptr L.iu 0) h) λb=>oP (fF b) λn=>ic CS (gh f [n]) h λi c=>(h.next<=c.next/\oP (gD 1 a i) λp=>oP (ez p c) λv=>((ez (.ptr L.iu 0) c=some a)/\K v c)):=by
 refine ed q.D.zE (ed q.vg (ed q.D.zE (ed q.D.ok.len ?_)));show cP CS fq [.I t.s.known.length,.ptr L.mX 0,.ptr L.lr 0] h _;exact LI q j k d λc l o e g _ m r=>⟨e.next,ed m (ed r ⟨g.D.zE,H _ e g⟩)⟩
theorem LN(q:Dq F G h L ops t R)(e:ops.length<9223372036854775808){n:Nat}(d:Sm t.s n)(f:n<999){K:fy}
  (H:∀F' h' R',(∀l,F l->F' l)->Kp F (gm G L.mX) h h'->Dq F' G h' L ops {t with s:=(fJ ops t.s).2} R'->Sm (fJ ops t.s).2 (n+1)->K (.I ((fJ ops t.s).1:Nat)) h') :
  ic CS (gh (Ru L) []) h K:=by
 show cP CS fW [.ptr L.lu 0,.ptr L.pE 0,.ptr L.iu 0] h _;have g:=d.k;have i:=d.st;exact MF q d.k0 (by omega) (by omega) e λF' h' R' a b c _=>H F' h' R' a b c (d.state ops)
theorem Sm.end_{t:Dt}{n:Nat}(a:Sm t.s n)(f c:Nat)(nx:List Nat)(s:Nat)(p:List Nat):Sm (Un.end_ t f c nx s p).s n:=⟨a.v,Kl _,a.k,a.st,a.k0⟩
theorem Sm.cut{s:Ds}{n m:Nat}(a:Sm s n)(h0:0<m)(b:m<=s.known.length):Sm (Un.cut m s) n:=
 ⟨a.v,a.c,by show(s.known.take m).length<=n;rw[GX];have:=a.k;omega,a.st,by show 0<(s.known.take m).length;rw[GX];omega⟩
theorem Sm.setArgs{s:Ds}{n:Nat}(a:Sm s n)(v:Nat)(l:List Nat):Sm (Un.setArgs s v l) n:=⟨by rw[(DH s v l).1];exact a.v,a.c,a.k,a.st,a.k0⟩
theorem DE(q:Dq F G h L ops t R)(d:t.blocks.length<1000)(fin cond:Nat)(nx:List Nat)(state:Nat){ps:Option (O×(Nat->V))}(e:ps=some (O.cells 3 1 true false (hO nx),λl=> .slice l 0 nx.length)){B:V->Option V}
  (f:∀m,B (.slice m 0 nx.length)=some (.agg (kr ⟨[],fin,cond,nx,[],state⟩ .ee (.slice m 0 nx.length) .ee))) {K:fy}
  (H:∀F' h' R',(∀l,F l->F' l)->Kp F G h h'->Dq F' G h' L ops {s:={t.s with cur:=[]},blocks:=t.blocks++[⟨t.s.cur,fin,cond,nx,t.fg,state⟩],fg:=[]} R'->K (.I t.blocks.length) h') :
  ik ps h λv g=>oP (B v) λw=>ic CS (gh (ID L) [w]) g K:=by
 subst e;obtain⟨i,j,k⟩:=EY q nx;rw[fE];refine ed (f _) ?_;exact RK i d ⟨[],fin,cond,nx,[],state⟩ rfl rfl rfl j λF' h' R' a b c=>H F' h' R' (λl n=>a l (pJ _ _ l n)) (k.trans b (pJ _ _)) c
end
open Un
section
variable{F F' G G':Nat->Prop}{h h':Hp}{L:Lc}{ops:List Int}{t t':Dt}{R R':Rw}{Q:fy}
theorem Tx(q:Dq F G h L ops t R){t':Dt}(e:t=t'):Dq F G h L ops t' R:=e▸q
theorem kgm{F F' G:Nat->Prop}{h h' b:Hp}{a:Nat}(x:Kp F (gm G a) h h')(y:Kp F' G h' b)(c:∀l,F l->F' l):Kp F (gm G a) h b:=x.trans (y.gm a) c
theorem Yu(q:Dq F G h L ops t R)(ho:ops.length<9223372036854775808){n:Nat}(hn:Sm t.s n)(cq:n<800)(hb:t.blocks.length<900){K:Hp->Prop}
  (H:∀F' h' R',(∀l,F l->F' l)->Kp F (gm G L.mX) h h'->Dq F' G h' L ops (fork ops t) R'->Sm (fork ops t).s (n+30)->K h') :
  oP (ez (.ptr L.iu 0) h) λx=>
  oP (ez (.ptr L.pE 0) h) λaa=>
  oP (ez (.ptr L.iu 0) h) λab=>
  oP (fF ab) λac=>
  ic CS (gh aa [ac]) h λae y=>
  (h.next<=y.next/\
  oP (gD 1 x ae) λag=>
  oP (ez ag y) λah=>
  ((ez (.ptr L.iu 0) y=some x)/\
  oP (ez (.ptr L.iu 0) y) λai=>
  oP (fF ai) λz=>
  oP (fH 3 (.ptr L.lu 0)) λaj=>
  oP (ez aj y) λak=>
  oP (fF ak) λal=>
  oP (eo .add 3 al (V.I 1)) λam=>
  oP (fH 3 (.ptr L.lu 0)) λan=>
  oP (ez an y) λao=>
  oP (fF ao) λap=>
  oP (eo .add 3 ap (V.I 2)) λaq=>
  ik (jt 3 1 2 (V.I 0) [(0,am),(1,aq)]) y λar h3=>
  oP (fV [V.ee,(V.I 0),(V.I 0),V.ee,V.ee,(V.I 0)] [(0,1),(1,1),(2,1),(3,1),(4,1),(5,1)] [(1,(V.I 2)),(2,ah),(3,ar)]) λau=>
  ic CS (gh (ID L) [au]) h3 λA h4=>
  ik (jt 3 1 1 (V.I 0) [(0,A)]) h4 λaw h5=>
  oP (fH 4 (.ptr L.jA 0)) λax=>
  fm (gK 1 ax aw h5) λvu h6=>
  ic CS (gh (J4 L) []) h6 λcd I=>
  oP (ez (.ptr L.iu 0) I) λay=>
  oP (ez (.ptr L.iu 0) I) λaA=>
  oP (fF aA) λaB=>
  oP (eo .sub 3 aB (V.I 1)) λaC=>
  oP (gD 1 ay aC) λaD=>
  oP (ez aD I) λaE=>
  oP (ez (.ptr L.iu 0) I) λaF=>
  oP (jh 1 aF none (some z) I) λaG=>
  fm (gK 1 (.ptr L.iu 0) aG I) λce h8=>
  oP (fH 3 (.ptr L.lu 0)) λaH=>
  oP (ez aH h8) λaI=>
  oP (fF aI) λaJ=>
  oP (eo .add 3 aJ (V.I 2)) λaK=>
  ik (jt 3 1 1 (V.I 0) [(0,aK)]) h8 λaL h9=>
  oP (fV [V.ee,(V.I 0),(V.I 0),V.ee,V.ee,(V.I 0)] [(0,1),(1,1),(2,1),(3,1),(4,1),(5,1)] [(1,(V.I 1)),(3,aL)]) λaM=>
  ic CS (gh (ID L) [aM]) h9 λaN aO=>
  ik (jt 3 1 1 (V.I 0) [(0,A)]) aO λaP bI=>
  oP (fH 4 (.ptr L.jA 0)) λaQ=>
  fm (gK 1 aQ aP bI) λcf aR=>
  ic CS (gh (J4 L) []) aR λcg d=>
  oP (ez (.ptr L.iu 0) d) λaS=>
  oP (ez (.ptr L.iu 0) d) λaT=>
  oP (fF aT) λaU=>
  oP (eo .sub 3 aU (V.I 1)) λaV=>
  oP (gD 1 aS aV) λaW=>
  oP (ez aW d) λaX=>
  oP (ez (.ptr L.iu 0) d) λaY=>
  oP (jh 1 aY none (some z) d) λaZ=>
  fm (gK 1 (.ptr L.iu 0) aZ d) λci J=>
  oP (fH 3 (.ptr L.lu 0)) λa5=>
  oP (ez a5 J) λa6=>
  oP (fF a6) λa7=>
  oP (eo .add 3 a7 (V.I 1)) λa8=>
  ik (jt 3 1 1 (V.I 0) [(0,a8)]) J λa9 bJ=>
  oP (fV [V.ee,(V.I 0),(V.I 0),V.ee,V.ee,(V.I 0)] [(0,1),(1,1),(2,1),(3,1),(4,1),(5,1)] [(1,(V.I 1)),(3,a9)]) λba=>
  ic CS (gh (ID L) [ba]) bJ λbb bc=>
  ik (jt 3 1 2 (V.I 0) [(0,aN),(1,bb)]) bc λbd bK=>
  oP (fH 4 (.ptr L.jA 0)) λbe=>
  fm (gK 1 be bd bK) λcj b=>
  oP (ez (.ptr L.iu 0) b) λj=>
  oP (ez (.ptr L.zp 0) b) λB=>
  wU (jt 3 1 2 (V.I 0) [(0,aE),(1,aX)]) b λo4 bf f=>
  oP (fV [(V.I 0),(V.I 0),(V.I 0),(V.I 0),V.ee,(V.I 0)] [(0,1),(1,1),(2,1),(3,1),(4,1),(5,1)] [(0,(V.I 21)),(4,bf)]) λbg=>
  ((f.get (b.next)=some o4/\O.beq o4 o4=true)/\
  ((ez (.ptr L.zp 0) f=some B)/\
  ((ez (.ptr L.iu 0) f=some j)/\
  ic CS (gh B [bg]) f λbh M=>
  (f.next<=M.next/\
  wU (jt 3 1 1 (V.I 0) [(0,bh)]) M λo7 bi r=>
  ((r.get (M.next)=some o7/\O.beq o7 o7=true)/\
  ((ez (.ptr L.iu 0) r=some j)/\
  fm (fe 3 1 8 j bi r) λbj N=>
  (r.next<=N.next/\
  fm (gK 1 (.ptr L.iu 0) bj N) λcl P=>
  (N.next<=P.next/\
  ic CS (gh (J4 L) []) P λcm Q=>K Q)))))))))):=by
 have bm:=hn.k0;have hk:=hn.k;refine SN q ho hn (by omega) λy k2 C=>?_;refine ed C.D.zE (ed C.D.ok.len ?_);refine ed (eJ _ _ _) (ed C.D.ZP (ed C.D.ob.len (jO (m:=1) (show t.blocks.length<_ by omega) (by omega) ?_)));refine ed (eJ _ _ _) (ed C.D.ZP (ed C.D.ob.len (jO (m:=2) (show t.blocks.length<_ by omega) (by omega) ?_)));have n2:Sm (fK ops t.s).2 n:=hn.one;refine DE C (show t.blocks.length<_ by omega) 2 (fK ops t.s).1 [t.blocks.length+1,t.blocks.length+2] 0 rfl (λ_=>rfl) λF4 h4 R4 f4 k4 q4=>?_;refine xS q4 [t.blocks.length] rfl λF6 h6 R6 f6 k6 q6=>?_;have q6:=Tx (t':=end_ {t with s:=(fK ops t.s).2} 2 (fK ops t.s).1 [t.blocks.length+1,t.blocks.length+2] 0 [t.blocks.length]) q6 rfl;have n6:Sm (end_ {t with s:=(fK ops t.s).2} 2 (fK ops t.s).1 [t.blocks.length+1,t.blocks.length+2] 0 [t.blocks.length]).s n:=n2.end_ (t:={t with s:=(fK ops t.s).2}) _ _ _ _ _;have S:(end_ {t with s:=(fK ops t.s).2} 2 (fK ops t.s).1 [t.blocks.length+1,t.blocks.length+2] 0 [t.blocks.length]).blocks.length=t.blocks.length+1:=by simp[end_]
 have cr:(end_ {t with s:=(fK ops t.s).2} 2 (fK ops t.s).1 [t.blocks.length+1,t.blocks.length+2] 0 [t.blocks.length]).s.known.length=t.s.known.length:=rfl;have a:fork ops t=fork ops t:=rfl
 conv at a=>rhs;unfold fork
 simp only at a;have el:({t with s:=(fK ops t.s).2}:Dt).s.known.length=t.s.known.length:=rfl;rw[el];have kA:=kgm k2 (k4.trans k6 f4) λ_ h=>h;have fA:∀l,F l->F6 l:=λl c=>f6 l (f4 l c);generalize end_ {t with s:=(fK ops t.s).2} 2 (fK ops t.s).1 [t.blocks.length+1,t.blocks.length+2] 0 [t.blocks.length]=g at*;clear C q4 k2 k4 k6;refine Fv q6 ho n6 (by omega) λF7 I R7 f7 k7 q7 n7=>?_;have x7:=Gp ops g.s;have ct:=x7.kl;generalize row ops g.s=e at*;have cu:=n7.k;refine Ta q7 (by show 0<e.known.length;omega) (by show e.known.length<_;omega) ?_;refine OQ q7 (m:=t.s.known.length) (by show _<=e.known.length;omega) λh8 R8 k8 q8=>?_;have n8:Sm (cut t.s.known.length e) (n+6):=n7.cut bm (by omega);refine ed (eJ _ _ _) (ed q8.D.ZP (ed q8.D.ob.len (jO (m:=2) (show g.blocks.length<_ by omega) (by omega) ?_)));refine DE q8 (show g.blocks.length<_ by omega) 1 0 [t.blocks.length+3] 0 (by show jt 3 1 1 (V.I 0) [(0,.I ((g.blocks.length+2:Nat):Int))]=_;rw[S];rfl) (λ_=>rfl) λcv aO DL bo bq br=>?_;refine xS br [t.blocks.length] rfl λbL aR R12 bQ bt u=>?_;have u:=Tx (t':=end_ {g with s:=cut t.s.known.length e} 1 0 [t.blocks.length+3] 0 [t.blocks.length]) u rfl;have bR:Sm (end_ {g with s:=cut t.s.known.length e} 1 0 [t.blocks.length+3] 0 [t.blocks.length]).s (n+6):=n8.end_ (t:={g with s:=cut t.s.known.length e}) _ _ _ _ _;have E:(end_ {g with s:=cut t.s.known.length e} 1 0 [t.blocks.length+3] 0 [t.blocks.length]).blocks.length=t.blocks.length+2:=by simp[end_,S]
 have cn:(end_ {g with s:=cut t.s.known.length e} 1 0 [t.blocks.length+3] 0 [t.blocks.length]).s.known.length=t.s.known.length:=by
  show(e.known.take t.s.known.length).length=_;rw[GX];omega
 have bu:({g with s:=cut t.s.known.length e}:Dt).blocks.length=t.blocks.length+1:=S;rw[bu];have T:({g with s:=e}:Dt).s.known.getLastD 0=e.known.getLastD 0:=rfl;rw[T];have kB:=(((kA.trans k7 fA).trans ((k8.gm L.mX).trans (bq.gm L.mX) λ_ h=>h) λl c=>f7 l (fA l c)).trans (bt.gm L.mX) λl c=>bo l (f7 l (fA l c)))
 have fB:∀l,F l->bL l:=λl c=>bQ l (bo l (f7 l (fA l c)));generalize e.known.getLastD 0=Y at*;generalize end_ {g with s:=cut t.s.known.length e} 1 0 [t.blocks.length+3] 0 [t.blocks.length]=o at*;clear q6 q7 q8 br k7 k8 bq bt kA;refine Fv u ho bR (by omega) λcw d R13 U bw W bx=>?_;have bS:=Gp ops o.s;have co:=bS.kl;generalize row ops o.s=i at*;have cp:=bx.k;refine Ta W (by show 0<i.known.length;omega) (by show i.known.length<_;omega) ?_;refine OQ W (m:=t.s.known.length) (by show _<=i.known.length;omega) λJ R14 bz v=>?_;have bU:Sm (cut t.s.known.length i) (n+6+6):=bx.cut bm (by omega);refine ed (eJ _ _ _) (ed v.D.ZP (ed v.D.ob.len (jO (m:=1) (show o.blocks.length<_ by omega) (by omega) ?_)));refine DE v (show o.blocks.length<_ by omega) 1 0 [t.blocks.length+3] 0 (by show jt 3 1 1 (V.I 0) [(0,.I ((o.blocks.length+1:Nat):Int))]=_;rw[E];rfl) (λ_=>rfl) λcx bc cy bA bC bD=>?_;have bE:({o with s:=cut t.s.known.length i}:Dt).blocks.length=t.blocks.length+2:=E;rw[bE];refine xS bD [t.blocks.length+1,t.blocks.length+2] rfl λbV b R18 bW bG p=>?_;have p:=Tx (t':=end_ {o with s:=cut t.s.known.length i} 1 0 [t.blocks.length+3] 0 [t.blocks.length+1,t.blocks.length+2]) p rfl;have bH:Sm (end_ {o with s:=cut t.s.known.length i} 1 0 [t.blocks.length+3] 0 [t.blocks.length+1,t.blocks.length+2]).s (n+12):=(bU.le (by omega)).end_ (t:={o with s:=cut t.s.known.length i}) _ _ _ _ _;have w:({o with s:=i}:Dt).s.known.getLastD 0=i.known.getLastD 0:=rfl;rw[w];have kC:=(((kB.trans bw fB).trans ((bz.gm L.mX).trans (bC.gm L.mX) λ_ h=>h) λl c=>U l (fB l c)).trans (bG.gm L.mX) λl c=>bA l (U l (fB l c)))
 have fC:∀l,F l->bV l:=λl c=>bW l (bA l (U l (fB l c)));generalize i.known.getLastD 0=Z at*;generalize end_ {o with s:=cut t.s.known.length i} 1 0 [t.blocks.length+3] 0 [t.blocks.length+1,t.blocks.length+2]=t3 at*;clear u W v bD bw bz bC bG kB;refine ed p.D.zE (ed p.oS ?_);have e3:jt 3 1 2 (V.I 0) [(0,V.I Y),(1,V.I Z)]=some (.cells 3 1 true false (hO [Y,Z]),λl=> .slice l 0 2):=rfl;rw[e3,hK];obtain⟨X,bX,bY⟩:=EY p [Y,Z];have bZ:(b.new (.cells 3 1 true false (hO [Y,Z]))).get b.next=_:=fi _ _;have eP:∀n:Nat,fV [(V.I 0),(V.I 0),(V.I 0),(V.I 0),V.ee,(V.I 0)] [(0,1),(1,1),(2,1),(3,1),(4,1),(5,1)] [(0,(V.I 21)),(4,.slice n 0 2)]=some (.agg (mz (vl 21 0 0 0 [Y,Z] 0) (.slice n 0 2))):=λ_=>rfl;refine ed (eP _) ⟨⟨bZ,O.gO _ _ _ _ _⟩,X.oS,X.D.zE,?_⟩;generalize b.new (.cells 3 1 true false (hO [Y,Z]))=f at*;refine Gj X bH (by omega) ⟨_,rfl,bX⟩ λP cz b4 b5=>?_;refine Fv b5 ho (bH.iJ _) (by omega) λb6 Q b7 b8 b9 ca cb=>?_;refine H b6 Q b7 (λl c=>b8 l (pJ _ _ l (fC l c))) ((kC.trans ((bY.gm L.mX).trans (b4.gm L.mX) (pJ _ _)) fC).trans b9 λl c=>pJ _ _ l (fC l c)) (Tx ca a.symm) ?_;rw[a];exact cb.le (by omega)
end
open Un
section
variable{F F' G G':Nat->Prop}{h h':Hp}{L:Lc}{ops:List Int}{t t':Dt}{R R':Rw}{Q:fy}
theorem Yz(q:Dq F G h L ops t R)(T:ops.length<9223372036854775808){n:Nat}(U:Sm t.s n)(aQ:n<800)(hb:t.blocks.length<900){K:Hp->Prop}
  (H:∀F' h' R',(∀l,F l->F' l)->Kp F (gm G L.mX) h h'->Dq F' G h' L ops (yo ops t) R'->Sm (yo ops t).s (n+30)->K h') :
  oP (ez (.ptr L.iu 0) h) λo=>
  oP (ez (.ptr L.pE 0) h) λaa=>
  oP (ez (.ptr L.iu 0) h) λab=>
  oP (fF ab) λac=>
  ic CS (gh aa [ac]) h λae a=>
  (h.next<=a.next/\
  oP (gD 1 o ae) λag=>
  oP (ez ag a) λah=>
  ((ez (.ptr L.iu 0) a=some o)/\
  oP (fH 3 (.ptr L.lu 0)) λai=>
  oP (ez ai a) λaj=>
  oP (fF aj) λak=>
  oP (eo .add 3 ak (V.I 1)) λal=>
  oP (fH 3 (.ptr L.lu 0)) λam=>
  oP (ez am a) λp=>
  oP (fF p) λr=>
  oP (eo .add 3 r (V.I 2)) λu=>
  ik (jt 3 1 2 (V.I 0) [(0,al),(1,u)]) a λv an=>
  oP (fV [V.ee,(V.I 0),(V.I 0),V.ee,V.ee,(V.I 0)] [(0,1),(1,1),(2,1),(3,1),(4,1),(5,1)] [(1,(V.I 2)),(2,ah),(3,v)]) λw=>
  ic CS (gh (ID L) [w]) an λc x=>
  oP (ez (.ptr L.iu 0) x) λy=>
  oP (fF y) λz=>
  ik (jt 3 1 1 (V.I 0) [(0,c)]) x λA ao=>
  oP (fH 4 (.ptr L.jA 0)) λB=>
  fm (gK 1 B A ao) λap aq=>
  ic CS (gh (J4 L) []) aq λaN C=>
  oP (ez (.ptr L.TD 0) C) λE=>
  ic CS (gh E []) C λI ar=>
  oP (fV [V.ee,(V.I 0),(V.I 0),V.ee,V.ee,(V.I 0)] [(0,1),(1,1),(2,1),(3,1),(4,1),(5,1)] [(1,(V.I 3)),(5,I)]) λJ=>
  ic CS (gh (ID L) [J]) ar λaO e=>
  oP (ez (.ptr L.iu 0) e) λM=>
  oP (jh 1 M none (some z) e) λN=>
  fm (gK 1 (.ptr L.iu 0) N e) λau aw=>
  ik (jt 3 1 1 (V.I 0) [(0,c)]) aw λO ax=>
  oP (fH 4 (.ptr L.jA 0)) λP=>
  fm (gK 1 P O ax) λay aA=>
  ic CS (gh (J4 L) []) aA λaP aB=>K aB)):=by
 have aC:=U.k0;have hk:=U.k;refine SN q T U (by omega) λh2 W j=>?_;refine ed (eJ _ _ _) (ed j.D.ZP (ed j.D.ob.len (jO (m:=1) (show t.blocks.length<_ by omega) (by omega) ?_)));refine ed (eJ _ _ _) (ed j.D.ZP (ed j.D.ob.len (jO (m:=2) (show t.blocks.length<_ by omega) (by omega) ?_)));have n2:Sm (fK ops t.s).2 n:=U.one;refine DE j (show t.blocks.length<_ by omega) 2 (fK ops t.s).1 [t.blocks.length+1,t.blocks.length+2] 0 rfl (λ_=>rfl) λF4 h4 R4 f4 k4 X=>?_;refine ed X.D.zE (ed X.D.ok.len ?_);refine xS X [t.blocks.length] rfl λF6 h6 R6 f6 k6 q6=>?_;have q6:=Tx (t':=end_ {t with s:=(fK ops t.s).2} 2 (fK ops t.s).1 [t.blocks.length+1,t.blocks.length+2] 0 [t.blocks.length]) q6 rfl;have n6:Sm (end_ {t with s:=(fK ops t.s).2} 2 (fK ops t.s).1 [t.blocks.length+1,t.blocks.length+2] 0 [t.blocks.length]).s n:=n2.end_ (t:={t with s:=(fK ops t.s).2}) _ _ _ _ _;have aR:(end_ {t with s:=(fK ops t.s).2} 2 (fK ops t.s).1 [t.blocks.length+1,t.blocks.length+2] 0 [t.blocks.length]).blocks.length=t.blocks.length+1:=by simp[end_]
 have aS:(end_ {t with s:=(fK ops t.s).2} 2 (fK ops t.s).1 [t.blocks.length+1,t.blocks.length+2] 0 [t.blocks.length]).s.known.length=t.s.known.length:=rfl;have Y:yo ops t=yo ops t:=rfl
 conv at Y=>rhs;unfold yo
 simp only at Y;have kA:=kgm W (k4.trans k6 f4) λ_ h=>h;have fA:∀l,F l->F6 l:=λl b=>f6 l (f4 l b);generalize end_ {t with s:=(fK ops t.s).2} 2 (fK ops t.s).1 [t.blocks.length+1,t.blocks.length+2] 0 [t.blocks.length]=d at*;clear j X W k4 k6;refine Fv q6 T n6 (by omega) λF7 h7 R7 f7 k7 q7 n7=>?_;have x7:=Gp ops d.s;have aT:=x7.kl;generalize row ops d.s=f at*;refine ed q7.IS ?_;refine LN q7 T n7 (by omega) λF8 h8 R8 f8 k8 q8 Z=>?_;have x8:=Jz ops f;have aU:=x8.kl;have e8:fJ ops ({d with s:=f}:Dt).s=fJ ops f:=rfl;rw[e8];have q8:Dq F8 G h8 L ops {d with s:=(fJ ops f).2} R8:=q8;have Z:Sm (fJ ops f).2 (n+6+1):=Z;generalize (fJ ops f).2=s2 at*;generalize (fJ ops f).1=Q at*;have eB:fV [V.ee,(V.I 0),(V.I 0),V.ee,V.ee,(V.I 0)] [(0,1),(1,1),(2,1),(3,1),(4,1),(5,1)] [(1,(V.I 3)),(5,.I Q)]=some (.agg (kr ⟨[],3,0,[],[],Q⟩ .ee .ee .ee)):=rfl;refine ed eB ?_;have aV:=Z.k;refine RK q8 (show d.blocks.length<_ by omega) ⟨[],3,0,[],[],Q⟩ rfl rfl rfl .nil λF9 h9 R9 f9 k9 q9=>?_;refine OQ q9 (m:=t.s.known.length) (by show _<=s2.known.length;omega) λaW DL aD aE=>?_;refine xS aE [t.blocks.length] rfl λaX aY R11 S aF g=>?_;have g:=Tx (t':=end_ {d with s:=cut t.s.known.length s2} 3 0 [] Q [t.blocks.length]) g rfl;have aG:Sm (end_ {d with s:=cut t.s.known.length s2} 3 0 [] Q [t.blocks.length]).s (n+7):=(Z.cut aC (by omega)).end_ (t:={d with s:=cut t.s.known.length s2}) _ _ _ _ _;refine Fv g T aG (by omega) λaH aI R12 aJ aK aL aM=>?_;have i:∀l,F l->F8 l:=λl b=>f8 l (f7 l (fA l b));refine H aH aI R12 (λl b=>aJ l (S l (f9 l (i l b)))) ?_ (Tx aL Y.symm) ?_
 ·have k1:=(kA.trans k7 fA).trans k8 λl b=>f7 l (fA l b);have W:=((k9.gm L.mX).trans (aD.gm L.mX) f9).trans (aF.gm L.mX) f9;exact(k1.trans W i).trans aK λl b=>S l (f9 l (i l b))
 ·rw[Y];exact aM.le (by omega)
end
