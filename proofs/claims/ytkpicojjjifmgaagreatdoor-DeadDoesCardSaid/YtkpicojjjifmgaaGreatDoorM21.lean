/- Parts. -/
import Derived.Test.YtkpicojjjifmgaaGreatDoorM20
namespace Go.Proofs.YtkpicojjjifmgaaGreatDoor.Hx
open Un
theorem jd{b:Bool}{A B:Prop}(h:if b=true then A else B):bP (.bool b) A B:=by rw[ir];exact h
theorem Vg(ops:List Int)(s:Ds):rows ops 0 s=s:=rfl
theorem Vr(ops:List Int)(k:Nat)(s:Ds)(h:¬s.eh.length<200):rows ops k s=s:=by
 cases k with
 |zero=>rfl
 |succ k=>unfold rows;rw[if_neg h]
theorem U5(ops:List Int)(k:Nat)(s:Ds)(h:s.eh.length<200):rows ops (k+1) s=rows ops k (um ops s):=by
 conv=>lhs;unfold rows
 rw[if_pos h]
section
variable{F F' G G':Nat->Prop}{h h':Hp}{L:Lc}{ops:List Int}{t t':Dt}{R R':Rw}{Q:fy}
theorem Sm.one{s:Ds}{n:Nat}(a:Sm s n):Sm (fK ops s).2 n:=a.pos _
theorem Sm.num{s:Ds}{n:Nat}(a:Sm s n)(m:Nat):Sm (num ops s m).2 n:=a.pos _
theorem zcj{s:Ds}{n:Nat}(a:Sm s n)(ops:List Int)(x:Vl):Sm (put (fJ ops s).2 x) (n+1):=by
 obtain ⟨p,hp⟩:=FD ops (num ops s 4).1 (num ops s 4).2 [];have e:(fJ ops s).2 = {s with pos:=p,en:=(fJ ops s).2.en}:=by
  unfold fJ;simp only[hp];rfl
 have h:=a.state ops;rw[e]at h⊢;exact⟨uD a.v,uD a.c,h.k,h.st,h.k0⟩
theorem za3(q:Dq F G h L ops t R)(v:ops.length<9223372036854775808){n:Nat}(hn:Sm t.s n)(ag:n<900)
  (H:∀F' h' R',(∀l,F l->F' l)->Kp F (gm G L.nR) h h'->Dq F' G h' L ops {t with s:=row ops t.s} R'->Sm (row ops t.s) (n+6)->Q (.tuple []) h') :
  cP CS jJ [.ptr L.qf 0,.ptr L.lu 0,.ptr L.iA 0,.ptr L.zL 0,.ptr L.Ua 0] h Q:=by
 refine Dj rfl rfl ?_;unfold wW;refine ee q.wE ?_;show cP CS fq [.I ((6:Nat):Int),.ptr L.nR 0,.ptr L.lr 0] h _;refine yi q (by decide) (by decide) v λh0 k0 q0=>?_;have hr:(draw ops t.s.pos 6).1<6:=yf _ _ (by decide);refine j8 (n:=1) (by decide) (by omega) ?_
 refine A5 (λk U W X Y Z x5 h'=>∃(F':Nat->Prop) (R':Rw) (s:Ds),U = .ptr L.qf 0/\W = .ptr L.lu 0/\X = .ptr L.iA 0/\Y = .ptr L.zL 0/\Z = .ptr L.Ua 0/\x5 = .I (k:Nat)/\(∀l,F l->F' l)/\
  Kp F (gm G L.nR) h h'/\Dq F' G h' L ops {t with s:=s} R'/\rows ops k s=row ops t.s/\∃m,Sm s m/\m+k<=n+6) ?_
  ⟨F,R,(num ops t.s 6).2,rfl,rfl,rfl,rfl,rfl,rfl,λ_ h=>h,k0,q0,rfl,n,hn.num 6,by omega⟩
 rintro k U W X Y Z x5 h' ⟨p,R1,s,rfl,rfl,rfl,rfl,rfl,rfl,I,k1,A,f,m,N,ah⟩;unfold sq;refine ee (by rw[nQ]) ?_;have lv:=A.D.ov.len;have eA:kv (.bool (decide ((0:Int)<(k:Nat)))) (oB (fI 2 (.ptr L.lu 0)) λaa=>oB (eQ aa h') λab=>oB (fH ab) λac=>ev .lss 3 ac (V.I 200))=some (.bool (decide ((0:Int)<(k:Nat))&&decide (((s.eh.length:Nat):Int)<200))):=by
  simp only[fe,fi,zA,A.D.V2,lv,jO,ke]
 refine ee eA (jd ?_)
 cases k with
 | zero=>
   refine gg (by simp) ?_;rw[Vg]at f
   refine H p h' R1 I k1 (by rw[<-f];exact A) (by rw[<-f];exact N.le (by omega))
 | succ k=>
   by_cases Nr:s.eh.length<200;rotate_left
   ·refine gg (by simp;omega) ?_
    rw[Vr _ _ _ Nr]at f;refine H p h' R1 I k1 (by rw[<-f];exact A) (by rw[<-f];exact N.le (by omega))
   refine gv (by simp;omega) ?_;have w:rows ops k (um ops s)=row ops t.s:=by rw[<-f,U5 _ _ _ Nr]
   clear f eA;refine ee A.D.Au (ee A.wE (ee A.D.Au (ee A.D.ok.len ?_)));show cP CS fq [.I (s.known.length:Nat),.ptr L.nR 0,.ptr L.lr 0] h' _;refine M4 A v N (by omega) λh2 l o k2 J _ i1 K=>⟨k2.next,ee i1 (ee K ⟨J.D.Au,?_⟩)⟩
   have K:True:=trivial;refine ee J.D.Au (ee J.wE (ee J.D.Au (ee J.D.ok.len ?_)));show cP CS fq [.I ((fK ops s).2.known.length:Nat),.ptr L.nR 0,.ptr L.lr 0] h2 _;refine M4 J v N.one (by omega) λh3 l' o' k3 q3 _ j1 j2=>⟨k3.next,ee j1 (ee j2 ⟨q3.D.Au,?_⟩)⟩
   refine ee q3.wE ?_;show cP CS fq [.I ((20:Nat):Int),.ptr L.nR 0,.ptr L.lr 0] h3 _;refine yi q3 (by decide) (by decide) v λB k4 d=>?_;have d:Dq p G B L ops {t with s:=(num ops (fK ops (fK ops s).2).2 20).2} R1:=d;have j:Sm (num ops (fK ops (fK ops s).2).2 20).2 m:=N.one.one.num 20;have kk:Kp F (gm G L.nR) h B:=((k1.trans k2 I).trans k3 I).trans k4 I;have x:um ops s=th ops (num ops (fK ops (fK ops s).2).2 20).2 (num ops (fK ops (fK ops s).2).2 20).1 (fK ops s).1 (fK ops (fK ops s).2).1:=rfl;rw[x]at w;have ek:(draw ops ({t with s:=(fK ops ({t with s:=(fK ops ({t with s:=s}:Dt).s).2}:Dt).s).2}:Dt).s.pos 20).1=(num ops (fK ops (fK ops s).2).2 20).1:=rfl;rw[ek];clear ek;have ai:(num ops (fK ops (fK ops s).2).2 20).1<20:=yf _ _ (by decide);generalize (num ops (fK ops (fK ops s).2).2 20).2=s4 at*;generalize (num ops (fK ops (fK ops s).2).2 20).1=kd at*;have ea:(fK ops ({t with s:=s}:Dt).s).1=(fK ops s).1:=rfl;have eb:(fK ops ({t with s:=(fK ops ({t with s:=s}:Dt).s).2}:Dt).s).1=(fK ops (fK ops s).2).1:=rfl;rw[ea,eb];generalize (fK ops s).1=a at*;generalize (fK ops (fK ops s).2).1=b at*;clear q3 J A k1 k2 k3 k4 j1 j2 lv x
   have fin:∀(F2:Nat->Prop) (e:Hp) (R2:Rw) (P:Ds),(∀l,p l->F2 l)->Kp p (gm G L.nR) B e->Dq F2 G e L ops {t with s:=P} R2->P=th ops s4 kd a b->Sm P (m+1)->
       gD CS Q (λU W X Y Z x5 hh=>∃k',k' < k+1/\∃(F':Nat->Prop) (R':Rw) (s:Ds),U = .ptr L.qf 0/\W = .ptr L.lu 0/\X = .ptr L.iA 0/\Y = .ptr L.zL 0/\Z = .ptr L.Ua 0/\x5 = .I (k':Nat)/\(∀l,F l->F' l)/\
         Kp F (gm G L.nR) h hh/\Dq F' G hh L ops {t with s:=s} R'/\rows ops k' s=row ops t.s/\∃m,Sm s m/\m+k'<=n+6) (.ptr L.qf 0) (.ptr L.lu 0) (.ptr L.iA 0) (.ptr L.zL 0) (.ptr L.Ua 0) (.I ((k+1:Nat):Int)) e:=by
     intro F2 e R2 P ae g c e5 m5;refine AX ?_;unfold sU;refine yl (by omega) (by omega) ?_;exact⟨k,by omega,F2,R2,P,rfl,rfl,rfl,rfl,rfl,rfl,λl hl=>ae l (I l hl),kk.trans g I,c,by rw[e5];exact w,m+1,m5,by omega⟩
   by_cases C:kd<12
   ·refine gB ?_
    refine ee d.D.Au (ee d.pN (j8 (n:=3) (by decide) (by omega) ?_));have eP:∀o:Nat,fV [(V.I 0),(V.I 0),(V.I 0),(V.I 0),V.ef,(V.I 0)] [(0,1),(1,1),(2,1),(3,1),(4,1),(5,1)] [(0,.I (o:Nat)),(1,.I (a:Nat)),(2,.I (b:Nat))]=some (.agg (mI (vl o a b 0 [] 0) .ef)):=λ_=>rfl;refine ee (eP _) ?_;exact Gt d j (by omega) ⟨_,rfl,.nil⟩ λe R5 g c=>fin p e R5 _ (λ_ h=>h) (g.gm _) c (by unfold th;rw[if_pos C]) (j.jc _)
   refine iJ ?_;by_cases E:kd=12
   ·refine gi (gv (by omega) ?_)
    refine ee d.D.Au (ee d.pN (ee d.wE ?_));show cP CS fq [.I ((1048576:Nat):Int),.ptr L.nR 0,.ptr L.lr 0] B _;refine yi d (by decide) (by decide) v λe g c=>⟨g.next,?_⟩
    have c:Dq p G e L ops {t with s:=(num ops s4 1048576).2} R1:=c;have hd:(draw ops s4.pos 1048576).1<1048576:=yf _ _ (by decide);have ew:mb .i64 (((draw ops s4.pos 1048576).1:Int)-9)=((draw ops s4.pos 1048576).1:Int)-9:=pK (by simp only[tI];omega);refine ee (by rw[pS]) ?_;rw[show(mb .i64 (((draw ops ({t with s:=s4}:Dt).s.pos 1048576).1:Int)-9))=((draw ops s4.pos 1048576).1:Int)-9 from ew];have eP:∀i:Int,fV [(V.I 0),(V.I 0),(V.I 0),(V.I 0),V.ef,(V.I 0)] [(0,1),(1,1),(2,1),(3,1),(4,1),(5,1)] [(0,(V.I 2)),(3,.I i)]=some (.agg (mI (vl 2 0 0 i [] 0) .ef)):=λ_=>rfl;refine ee (eP _) ⟨c.pN,c.D.Au,?_⟩;exact Gt c (j.num _) (by omega) ⟨_,rfl,.nil⟩ λy R6 r u=>fin p y R6 _ (λ_ h=>h) (g.trans (r.gm _) λ_ h=>h) u (by unfold th;rw[if_neg C,if_pos E];rfl) ((j.num _).jc _)
   refine gi (gg (by omega) ?_);by_cases c2:kd=13
   ·refine gi (gv (by omega) ?_)
    refine ee d.D.Au (ee d.pN (ee d.wE ?_));show cP CS fq [.I ((5:Nat):Int),.ptr L.nR 0,.ptr L.lr 0] B _;refine yi d (by decide) (by decide) v λe g c=>⟨g.next,?_⟩
    have c:Dq p G e L ops {t with s:=(num ops s4 5).2} R1:=c;have eP:∀n:Nat,fV [(V.I 0),(V.I 0),(V.I 0),(V.I 0),V.ef,(V.I 0)] [(0,1),(1,1),(2,1),(3,1),(4,1),(5,1)] [(0,(V.I 17)),(1,.I (a:Nat)),(3,.I (n:Nat))]=some (.agg (mI (vl 17 a 0 (n:Nat) [] 0) .ef)):=λ_=>rfl;refine ee (eP _) ⟨c.pN,c.D.Au,?_⟩;exact Gt c (j.num _) (by omega) ⟨_,rfl,.nil⟩ λy R6 r u=>fin p y R6 _ (λ_ h=>h) (g.trans (r.gm _) λ_ h=>h) u (by unfold th;rw[if_neg C,if_neg E,if_pos c2];rfl) ((j.num _).jc _)
   refine gi (gg (by omega) ?_);by_cases M:kd=14
   ·refine gi (gv (by omega) ?_)
    refine ee d.D.Au (ee d.pN ?_);have eP:fV [(V.I 0),(V.I 0),(V.I 0),(V.I 0),V.ef,(V.I 0)] [(0,1),(1,1),(2,1),(3,1),(4,1),(5,1)] [(0,(V.I 18)),(1,.I (a:Nat)),(2,.I (b:Nat))]=some (.agg (mI (vl 18 a b 0 [] 0) .ef)):=rfl;refine ee eP ?_;exact Gt d j (by omega) ⟨_,rfl,.nil⟩ λe R5 g c=>fin p e R5 _ (λ_ h=>h) (g.gm _) c (by unfold th;rw[if_neg C,if_neg E,if_neg c2,if_pos M]) (j.jc _)
   refine gi (gg (by omega) ?_);by_cases S:kd=15
   ·refine gi (gv (by omega) ?_)
    refine ee d.pN (ee d.wE ?_);show cP CS fq [.I ((5:Nat):Int),.ptr L.nR 0,.ptr L.lr 0] B _;refine yi d (by decide) (by decide) v λe g c=>⟨g.next,?_⟩
    have c:Dq p G e L ops {t with s:=(num ops s4 5).2} R1:=c;have eP:∀n:Nat,fV [(V.I 0),(V.I 0),(V.I 0),(V.I 0),V.ef,(V.I 0)] [(0,1),(1,1),(2,1),(3,1),(4,1),(5,1)] [(0,(V.I 19)),(1,.I (a:Nat)),(3,.I (n:Nat)),(2,.I (b:Nat))]=some (.agg (mI (vl 19 a b (n:Nat) [] 0) .ef)):=λ_=>rfl;refine ee (eP _) ⟨c.pN,?_⟩;refine Jl c (j.num _) (by omega) ⟨_,rfl,.nil⟩ λy R6 r _ u=>⟨r.next,?_⟩
    exact fin p y R6 _ (λ_ h=>h) (g.trans (r.gm _) λ_ h=>h) u (by unfold th;rw[if_neg C,if_neg E,if_neg c2,if_neg M,if_pos S];rfl) ((j.num _).put _)
   refine gi (gg (by omega) ?_);by_cases c5:kd=16
   ·refine gi (gv (by omega) ?_)
    refine ee d.pN (ee d.D.Au (ee d.wE (ee d.D.Au (ee d.D.ok.len ?_))));show cP CS fq [.I (s4.known.length:Nat),.ptr L.nR 0,.ptr L.lr 0] B _;refine M4 d v j (by omega) λe l o g c hl i1 K=>⟨g.next,ee i1 (ee K ?_)⟩
    have c:Dq p G e L ops {t with s:=(fK ops s4).2} R1:=c;have K:eQ (.ptr l o) e=some (.I ((fK ops s4).1:Nat)):=K;have e3:jG 3 1 1 (V.I 0) [(0,V.I ((fK ops s4).1:Nat))]=some (.cells 3 1 true false [V.I ((fK ops s4).1:Nat)],λl=> .slice l 0 1):=rfl;show xE (jG 3 1 1 (V.I 0) [(0,V.I ((fK ops s4).1:Nat))]) e _;rw[e3,hV];have eP:∀n:Nat,fV [(V.I 0),(V.I 0),(V.I 0),(V.I 0),V.ef,(V.I 0)] [(0,1),(1,1),(2,1),(3,1),(4,1),(5,1)] [(0,(V.I 20)),(1,.I (a:Nat)),(2,.I (b:Nat)),(4,.slice n 0 1)]=some (.agg (mI (vl 20 a b 0 [(fK ops s4).1] 0) (.slice n 0 1))):=λ_=>rfl;have D6:=c.D.new (.cells 3 1 true false [V.I ((fK ops s4).1:Nat)]);have r:=c.D.zh (.cells 3 1 true false [V.I ((fK ops s4).1:Nat)]);have u:=c.step r D6 (qe _ _) c.gl c.hq rfl;have g6:(e.new (.cells 3 1 true false [V.I ((fK ops s4).1:Nat)])).get e.next=_:=fj _ _;refine ee (eP _) ⟨⟨g6,O.iK _ _ _ _ _⟩,iL K (fo _ hl),D6.Au,u.pN,?_⟩
    have hs:iq eN (fz p e.next) (e.new (.cells 3 1 true false [V.I ((fK ops s4).1:Nat)])) [(fK ops s4).1] (.slice e.next 0 1):=
      .inr ⟨e.next,0,3,true,false,[V.I ((fK ops s4).1:Nat)],rfl,.inr rfl,g6,.inr rfl,Na _,⟨_,[],rfl,rfl,trivial⟩⟩
    refine Jl u (j.one) (by omega) ⟨_,rfl,hs⟩ λh7 R7 k7 _ q7=>⟨k7.next,?_⟩
    exact fin (fz p e.next) h7 R7 _ (qe _ _) ((g.trans (r.gm _) λ_ h=>h).trans (k7.gm _) (qe _ _)) q7 (by unfold th;rw[if_neg C,if_neg E,if_neg c2,if_neg M,if_neg S,if_pos c5]) (j.one.put _)
   refine gi (gg (by omega) ?_);by_cases c6:kd=17
   ·refine gi (gv (by omega) ?_)
    refine ee d.pN (ee d.Jb ?_);show cP CS fW [.ptr L.lu 0,.ptr L.qf 0,.ptr L.iA 0] B _;refine My d j.k0 (by have:=j.k;show s4.known.length<_;omega) (by have:=j.st;show s4.en.length<_;omega) v λT e R5 z g c _=>⟨g.next,?_⟩
    have c:Dq T G e L ops {t with s:=(fJ ops s4).2} R5:=c;have eP:∀n:Nat,fV [(V.I 0),(V.I 0),(V.I 0),(V.I 0),V.ef,(V.I 0)] [(0,1),(1,1),(2,1),(3,1),(4,1),(5,1)] [(0,(V.I 22)),(1,.I (a:Nat)),(5,.I (n:Nat))]=some (.agg (mI (vl 22 a 0 0 [] n) .ef)):=λ_=>rfl;refine ee (eP _) ⟨c.pN,?_⟩;refine Jl c (j.state ops) (by omega) ⟨_,rfl,.nil⟩ λy R6 r _ u=>⟨r.next,?_⟩
    exact fin T y R6 _ z (g.trans (r.gm _) z) u (by unfold th;rw[if_neg C,if_neg E,if_neg c2,if_neg M,if_neg S,if_neg c5,if_pos c6]) (zcj j ops _)
   refine gi (gg (by omega) ?_);by_cases c7:kd=18
   ·refine gi (gv (by omega) ?_)
    refine ee d.pN (ee d.Jb ?_);show cP CS fW [.ptr L.lu 0,.ptr L.qf 0,.ptr L.iA 0] B _;refine My d j.k0 (by have:=j.k;show s4.known.length<_;omega) (by have:=j.st;show s4.en.length<_;omega) v λT e R5 z g c _=>⟨g.next,?_⟩
    have c:Dq T G e L ops {t with s:=(fJ ops s4).2} R5:=c;have eP:∀n:Nat,fV [(V.I 0),(V.I 0),(V.I 0),(V.I 0),V.ef,(V.I 0)] [(0,1),(1,1),(2,1),(3,1),(4,1),(5,1)] [(0,(V.I 23)),(5,.I (n:Nat))]=some (.agg (mI (vl 23 0 0 0 [] n) .ef)):=λ_=>rfl;refine ee (eP _) ⟨c.pN,?_⟩;refine Jl c (j.state ops) (by omega) ⟨_,rfl,.nil⟩ λy R6 r _ u=>⟨r.next,?_⟩
    exact fin T y R6 _ z (g.trans (r.gm _) z) u (by unfold th;rw[if_neg C,if_neg E,if_neg c2,if_neg M,if_neg S,if_neg c5,if_neg c6,if_pos c7]) (zcj j ops _)
   refine gi (gg (by omega) ?_);refine ee d.D.Au (ee d.pN (ee d.wE ?_));show cP CS fq [.I ((2:Nat):Int),.ptr L.nR 0,.ptr L.lr 0] B _;refine yi d (by decide) (by decide) v λe g c=>⟨g.next,?_⟩
   have c:Dq p G e L ops {t with s:=(num ops s4 2).2} R1:=c;have hd:(draw ops s4.pos 2).1<2:=yf _ _ (by decide);refine j8 (n:=15) (by decide) (by show(draw ops s4.pos 2).1<_;omega) ?_;have eP:∀o:Nat,fV [(V.I 0),(V.I 0),(V.I 0),(V.I 0),V.ef,(V.I 0)] [(0,1),(1,1),(2,1),(3,1),(4,1),(5,1)] [(0,.I (o:Nat)),(1,.I (a:Nat))]=some (.agg (mI (vl o a 0 0 [] 0) .ef)):=λ_=>rfl;refine ee (eP _) ⟨c.pN,c.D.Au,?_⟩;exact Gt c (j.num _) (by omega) ⟨_,rfl,.nil⟩ λy R6 r u=>fin p y R6 _ (λ_ h=>h) (g.trans (r.gm _) λ_ h=>h) u (by unfold th;rw[if_neg C,if_neg E,if_neg c2,if_neg M,if_neg S,if_neg c5,if_neg c6,if_neg c7];rfl) ((j.num _).jc _)
end
open Un
structure GQ (s s':Ds):Prop where
 k:∃l,s'.known=s.known++l
 v:∃l,s'.eh=s.eh++l
theorem GQ.refl(s:Ds):GQ s s:=⟨⟨[],by simp⟩,⟨[],by simp⟩⟩
theorem GQ.trans{s s' c:Ds}(a:GQ s s')(b:GQ s' c):GQ s c:=by
 obtain⟨⟨d,e⟩,⟨f,g⟩⟩:=a;obtain⟨⟨h,i⟩,⟨j,k⟩⟩:=b;exact⟨⟨d++h,by rw[i,e,Ii]⟩,⟨f++j,by rw[k,g,Ii]⟩⟩
theorem GQ.kl{s s':Ds}(a:GQ s s'):s.known.length<=s'.known.length:=by
 obtain⟨⟨c,b⟩,_⟩:=a;rw[b,Ec];omega
theorem J9(ops:List Int)(s:Ds):GQ s (fJ ops s).2:=by
 obtain⟨p,hp⟩:=FD ops (num ops s 4).1 (num ops s 4).2 [];unfold fJ;simp only[hp];exact⟨⟨[],by simp[num]⟩,⟨[],by simp[num]⟩⟩
theorem Ff(s:Ds)(x:Vl):GQ s (jc s x):=⟨⟨_,rfl⟩,⟨_,rfl⟩⟩
theorem Ly(s:Ds)(x:Vl):GQ s (put s x):=⟨⟨[],by simp[put]⟩,⟨_,rfl⟩⟩
theorem Gx(ops:List Int)(s:Ds)(m:Nat):GQ s (num ops s m).2:=⟨⟨[],by simp[num]⟩,⟨[],by simp[num]⟩⟩
theorem Pl(ops:List Int)(s:Ds):GQ s (fK ops s).2:=⟨⟨[],by simp[fK]⟩,⟨[],by simp[fK]⟩⟩
theorem XG(ops:List Int)(s:Ds)(k a b:Nat):GQ s (th ops s k a b):=by
 unfold th;split
 ·exact Ff _ _
 split
 ·exact(Gx _ _ _).trans (Ff _ _)
 split
 ·exact(Gx _ _ _).trans (Ff _ _)
 split
 ·exact Ff _ _
 split
 ·exact(Gx _ _ _).trans (Ly _ _)
 split
 ·exact(Pl _ _).trans (Ly _ _)
 split
 ·exact(J9 _ _).trans (Ly _ _)
 split
 ·exact(J9 _ _).trans (Ly _ _)
 ·exact(Gx _ _ _).trans (Ff _ _)
theorem RD(ops:List Int):∀(i:Nat)(s:Ds),GQ s (rows ops i s)
 |0,s=> .refl s
 | i+1,s=>by
   unfold rows;split
   ·exact(((Pl ops s).trans (Pl ops _)).trans ((Gx ops _ 20).trans (XG _ _ _ _ _))).trans (RD ops i _)
   ·exact .refl s
theorem GH(ops:List Int)(s:Ds):GQ s (row ops s):=(Gx ops s 6).trans (RD ops _ _)
def JS(L:Lc):V:= .func jJ [] [.ptr L.qf 0,.ptr L.lu 0,.ptr L.iA 0,.ptr L.zL 0,.ptr L.Ua 0]
def I1(L:Lc):V:= .func kH [] [.ptr L.jN 0,.ptr L.lu 0]
def hZ(xs:List Nat):List V:=xs.map λn=> .I (n:Nat)
section
variable{F F' G G':Nat->Prop}{h h':Hp}{L:Lc}{ops:List Int}{t t':Dt}{R R':Rw}{Q:fy}
theorem Fh(q:Dq F G h L ops t R)(xs:List Nat):Dq (fz F h.next) G (h.new (.cells 3 1 true false (hZ xs))) L ops t R/\iq eN (fz F h.next) (h.new (.cells 3 1 true false (hZ xs))) xs (.slice h.next 0 xs.length)/\Kp F G h (h.new (.cells 3 1 true false (hZ xs))):=by
 have k:=q.D.zh (.cells 3 1 true false (hZ xs));exact⟨q.step k (q.D.new _) (qe _ _) q.gl q.hq rfl,.inr ⟨h.next,0,3,true,false,hZ xs,rfl,.inr rfl,fj _ _,.inr rfl,Na _,yy _ _ xs⟩,k⟩
theorem yC(q:Dq F G h L ops t R)(xs:List Nat){ps:Option (O×(Nat->V))}(d:ps=some (O.cells 3 1 true false (hZ xs),λl=> .slice l 0 xs.length)){K:Hp->Prop}
  (H:∀F' h' R',(∀l,F l->F' l)->Kp F G h h'->Dq F' G h' L ops {t with fh:=xs} R'->K h') :
  hX ps h λv e=>oP (fI 4 (.ptr L.jN 0)) λf=>fk (gM 1 f v e) λ_ g=>K g:=by
 subst d;obtain⟨a,i,j⟩:=Fh q xs;rw[fG,fe,gX];have k:=oT (o:=4) (v:= .slice h.next 0 xs.length) (pD:=[R.cc,.I 0,.I 0,.ef,.slice h.next 0 xs.length,.I 0]) a.D.gb (by simp) rfl rfl;obtain⟨b,m⟩:=a.D.zaf (c:=R.cc) i;rw[zA,k,ei];exact H _ _ _ (qe _ _) (j.trans b (qe _ _)) (a.step b m (λ_ h=>h) q.gl a.hq rfl)
theorem SW(q:Dq F G h L ops t R)(e:t.blocks.length<1000)(b:Bk){w nv:V}(f:w = .agg (kE b .ef nv .ef))(a:b.eh=[])(c:b.fh=[])(d:iq eN F h b.next nv){K:fy}
  (H:∀F' h' R',(∀l,F l->F' l)->Kp F G h h'->Dq F' G h' L ops {s:={t.s with cur:=[]},blocks:=t.blocks++[⟨t.s.cur,b.fin,b.cond,b.next,t.fh,b.state⟩],fh:=[]} R'->K (.I t.blocks.length) h') :
  ic CS (gh (I1 L) [w]) h K:=by
 subst f;exact zbj (n:=0) q e a c d H
theorem EV(q:Dq F G h L ops t R)(b:ops.length<9223372036854775808){n:Nat}(c:Sm t.s n)(a:n<900){K:fy}
  (H:∀F' h' R',(∀l,F l->F' l)->Kp F (gm G L.nR) h h'->Dq F' G h' L ops {t with s:=row ops t.s} R'->Sm (row ops t.s) (n+6)->K (.tuple []) h') :
  ic CS (gh (JS L) []) h K:=za3 q b c a H
theorem T8(q:Dq F G h L ops t R)(c:0<t.s.known.length)(d:t.s.known.length<1000){K:V->Prop}(H:K (.I (t.s.known.getLastD 0:Nat))) :
  oP (eQ (.ptr L.iA 0) h) λa=>oP (eQ (.ptr L.iA 0) h) λb=>oP (fH b) λn=>oP (ev .sub 3 n (.I 1)) λi=>oP (gJ 1 a i) λp=>oP (eQ p h) K:=by
 obtain⟨l,o,_,_,e,f⟩:=q.Gb (i:=t.s.known.length-1) (by omega);refine ee q.D.Au (ee q.D.Au (ee q.D.ok.len (yl (by omega) c (ee e (ee f ?_)))));rw[yg _ c];exact H
theorem OU(q:Dq F G h L ops t R){m:Nat}(c:m<=t.s.known.length){K:Hp->Prop}(H:∀h' R',Kp F G h h'->Dq F G h' L ops {t with s:=cut m t.s} R'->K h') :
  oP (eQ (.ptr L.iA 0) h) λa=>oP (jy 1 a none (some (.I m)) h) λs=>fk (gM 1 (.ptr L.iA 0) s h) λ_ b=>K b:=by
 obtain⟨g,b,d,e,_,k,f⟩:=q.D.zec c;refine ee q.D.Au (ee d ?_);rw[e,ei];exact H _ _ k (q.step k f (λ_ h=>h) q.gl q.hq rfl)
theorem RX(q:Dq F G h L ops t R)(j:ops.length<9223372036854775808){n:Nat}(k:Sm t.s n)(d:n<1000){K:fy}
  (H:∀h',Kp F (gm G L.nR) h h'->Dq F G h' L ops {t with s:=(fK ops t.s).2} R->K (.I ((fK ops t.s).1:Nat)) h') :
  oP (eQ (.ptr L.iA 0) h) λa=>oP (eQ (.ptr L.qf 0) h) λf=>oP (eQ (.ptr L.iA 0) h) λb=>oP (fH b) λn=>ic CS (gh f [n]) h λi c=>(h.next<=c.next/\oP (gJ 1 a i) λp=>oP (eQ p c) λv=>((eQ (.ptr L.iA 0) c=some a)/\K v c)):=by
 refine ee q.D.Au (ee q.wE (ee q.D.Au (ee q.D.ok.len ?_)));show cP CS fq [.I t.s.known.length,.ptr L.nR 0,.ptr L.lr 0] h _;exact M4 q j k d λc l o e g _ m r=>⟨e.next,ee m (ee r ⟨g.D.Au,H _ e g⟩)⟩
theorem MD(q:Dq F G h L ops t R)(e:ops.length<9223372036854775808){n:Nat}(d:Sm t.s n)(f:n<999){K:fy}
  (H:∀F' h' R',(∀l,F l->F' l)->Kp F (gm G L.nR) h h'->Dq F' G h' L ops {t with s:=(fJ ops t.s).2} R'->Sm (fJ ops t.s).2 (n+1)->K (.I ((fJ ops t.s).1:Nat)) h') :
  ic CS (gh (Tx L) []) h K:=by
 show cP CS fW [.ptr L.lu 0,.ptr L.qf 0,.ptr L.iA 0] h _;have g:=d.k;have i:=d.st;exact My q d.k0 (by omega) (by omega) e λF' h' R' a b c _=>H F' h' R' a b c (d.state ops)
theorem Sm.end_{t:Dt}{n:Nat}(a:Sm t.s n)(f c:Nat)(nx:List Nat)(s:Nat)(p:List Nat):Sm (Un.end_ t f c nx s p).s n:=⟨a.v,Na _,a.k,a.st,a.k0⟩
theorem Sm.cut{s:Ds}{n m:Nat}(a:Sm s n)(h0:0<m)(b:m<=s.known.length):Sm (Un.cut m s) n:=
 ⟨a.v,a.c,by show(s.known.take m).length<=n;rw[Ip];have:=a.k;omega,a.st,by show 0<(s.known.take m).length;rw[Ip];omega⟩
theorem Sm.setArgs{s:Ds}{n:Nat}(a:Sm s n)(v:Nat)(l:List Nat):Sm (Un.setArgs s v l) n:=⟨by rw[(DX s v l).1];exact a.v,a.c,a.k,a.st,a.k0⟩
theorem De(q:Dq F G h L ops t R)(d:t.blocks.length<1000)(fin cond:Nat)(nx:List Nat)(state:Nat){ps:Option (O×(Nat->V))}(e:ps=some (O.cells 3 1 true false (hZ nx),λl=> .slice l 0 nx.length)){B:V->Option V}
  (f:∀m,B (.slice m 0 nx.length)=some (.agg (kE ⟨[],fin,cond,nx,[],state⟩ .ef (.slice m 0 nx.length) .ef))) {K:fy}
  (H:∀F' h' R',(∀l,F l->F' l)->Kp F G h h'->Dq F' G h' L ops {s:={t.s with cur:=[]},blocks:=t.blocks++[⟨t.s.cur,fin,cond,nx,t.fh,state⟩],fh:=[]} R'->K (.I t.blocks.length) h') :
  hX ps h λv g=>oP (B v) λw=>ic CS (gh (I1 L) [w]) g K:=by
 subst e;obtain⟨i,j,k⟩:=Fh q nx;rw[fG];refine ee (f _) ?_;exact SW i d ⟨[],fin,cond,nx,[],state⟩ rfl rfl rfl j λF' h' R' a b c=>H F' h' R' (λl n=>a l (qe _ _ l n)) (k.trans b (qe _ _)) c
end
open Un
section
variable{F F' G G':Nat->Prop}{h h':Hp}{L:Lc}{ops:List Int}{t t':Dt}{R R':Rw}{Q:fy}
theorem TM(q:Dq F G h L ops t R){t':Dt}(e:t=t'):Dq F G h L ops t' R:=e▸q
theorem kgm{F F' G:Nat->Prop}{h h' b:Hp}{a:Nat}(x:Kp F (gm G a) h h')(y:Kp F' G h' b)(c:∀l,F l->F' l):Kp F (gm G a) h b:=x.trans (y.gm a) c
theorem YP(q:Dq F G h L ops t R)(ho:ops.length<9223372036854775808){n:Nat}(hn:Sm t.s n)(cq:n<800)(hb:t.blocks.length<900){K:Hp->Prop}
  (H:∀F' h' R',(∀l,F l->F' l)->Kp F (gm G L.nR) h h'->Dq F' G h' L ops (fork ops t) R'->Sm (fork ops t).s (n+30)->K h') :
  oP (eQ (.ptr L.iA 0) h) λx=>
  oP (eQ (.ptr L.qf 0) h) λaa=>
  oP (eQ (.ptr L.iA 0) h) λab=>
  oP (fH ab) λac=>
  ic CS (gh aa [ac]) h λae y=>
  (h.next<=y.next/\
  oP (gJ 1 x ae) λag=>
  oP (eQ ag y) λah=>
  ((eQ (.ptr L.iA 0) y=some x)/\
  oP (eQ (.ptr L.iA 0) y) λai=>
  oP (fH ai) λz=>
  oP (fI 3 (.ptr L.lu 0)) λaj=>
  oP (eQ aj y) λak=>
  oP (fH ak) λal=>
  oP (ev .add 3 al (V.I 1)) λam=>
  oP (fI 3 (.ptr L.lu 0)) λan=>
  oP (eQ an y) λao=>
  oP (fH ao) λap=>
  oP (ev .add 3 ap (V.I 2)) λaq=>
  hX (jG 3 1 2 (V.I 0) [(0,am),(1,aq)]) y λar h3=>
  oP (fV [V.ef,(V.I 0),(V.I 0),V.ef,V.ef,(V.I 0)] [(0,1),(1,1),(2,1),(3,1),(4,1),(5,1)] [(1,(V.I 2)),(2,ah),(3,ar)]) λau=>
  ic CS (gh (I1 L) [au]) h3 λA h4=>
  hX (jG 3 1 1 (V.I 0) [(0,A)]) h4 λaw h5=>
  oP (fI 4 (.ptr L.jN 0)) λax=>
  fk (gM 1 ax aw h5) λvu h6=>
  ic CS (gh (JS L) []) h6 λcd I=>
  oP (eQ (.ptr L.iA 0) I) λay=>
  oP (eQ (.ptr L.iA 0) I) λaA=>
  oP (fH aA) λaB=>
  oP (ev .sub 3 aB (V.I 1)) λaC=>
  oP (gJ 1 ay aC) λaD=>
  oP (eQ aD I) λaE=>
  oP (eQ (.ptr L.iA 0) I) λaF=>
  oP (jy 1 aF none (some z) I) λaG=>
  fk (gM 1 (.ptr L.iA 0) aG I) λce h8=>
  oP (fI 3 (.ptr L.lu 0)) λaH=>
  oP (eQ aH h8) λaI=>
  oP (fH aI) λaJ=>
  oP (ev .add 3 aJ (V.I 2)) λaK=>
  hX (jG 3 1 1 (V.I 0) [(0,aK)]) h8 λaL h9=>
  oP (fV [V.ef,(V.I 0),(V.I 0),V.ef,V.ef,(V.I 0)] [(0,1),(1,1),(2,1),(3,1),(4,1),(5,1)] [(1,(V.I 1)),(3,aL)]) λaM=>
  ic CS (gh (I1 L) [aM]) h9 λaN aO=>
  hX (jG 3 1 1 (V.I 0) [(0,A)]) aO λaP bI=>
  oP (fI 4 (.ptr L.jN 0)) λaQ=>
  fk (gM 1 aQ aP bI) λcf aR=>
  ic CS (gh (JS L) []) aR λcg d=>
  oP (eQ (.ptr L.iA 0) d) λaS=>
  oP (eQ (.ptr L.iA 0) d) λaT=>
  oP (fH aT) λaU=>
  oP (ev .sub 3 aU (V.I 1)) λaV=>
  oP (gJ 1 aS aV) λaW=>
  oP (eQ aW d) λaX=>
  oP (eQ (.ptr L.iA 0) d) λaY=>
  oP (jy 1 aY none (some z) d) λaZ=>
  fk (gM 1 (.ptr L.iA 0) aZ d) λci J=>
  oP (fI 3 (.ptr L.lu 0)) λa5=>
  oP (eQ a5 J) λa6=>
  oP (fH a6) λa7=>
  oP (ev .add 3 a7 (V.I 1)) λa8=>
  hX (jG 3 1 1 (V.I 0) [(0,a8)]) J λa9 bJ=>
  oP (fV [V.ef,(V.I 0),(V.I 0),V.ef,V.ef,(V.I 0)] [(0,1),(1,1),(2,1),(3,1),(4,1),(5,1)] [(1,(V.I 1)),(3,a9)]) λba=>
  ic CS (gh (I1 L) [ba]) bJ λbb bc=>
  hX (jG 3 1 2 (V.I 0) [(0,aN),(1,bb)]) bc λbd bK=>
  oP (fI 4 (.ptr L.jN 0)) λbe=>
  fk (gM 1 be bd bK) λcj b=>
  oP (eQ (.ptr L.iA 0) b) λj=>
  oP (eQ (.ptr L.zL 0) b) λB=>
  xE (jG 3 1 2 (V.I 0) [(0,aE),(1,aX)]) b λo4 bf f=>
  oP (fV [(V.I 0),(V.I 0),(V.I 0),(V.I 0),V.ef,(V.I 0)] [(0,1),(1,1),(2,1),(3,1),(4,1),(5,1)] [(0,(V.I 21)),(4,bf)]) λbg=>
  ((f.get (b.next)=some o4/\O.beq o4 o4=true)/\
  ((eQ (.ptr L.zL 0) f=some B)/\
  ((eQ (.ptr L.iA 0) f=some j)/\
  ic CS (gh B [bg]) f λbh M=>
  (f.next<=M.next/\
  xE (jG 3 1 1 (V.I 0) [(0,bh)]) M λo7 bi r=>
  ((r.get (M.next)=some o7/\O.beq o7 o7=true)/\
  ((eQ (.ptr L.iA 0) r=some j)/\
  fk (fg 3 1 8 j bi r) λbj N=>
  (r.next<=N.next/\
  fk (gM 1 (.ptr L.iA 0) bj N) λcl P=>
  (N.next<=P.next/\
  ic CS (gh (JS L) []) P λcm Q=>K Q)))))))))):=by
 have bm:=hn.k0;have hk:=hn.k;refine RX q ho hn (by omega) λy k2 C=>?_;refine ee C.D.Au (ee C.D.ok.len ?_);refine ee (fe _ _ _) (ee C.D.YN (ee C.D.ob.len (j8 (m:=1) (show t.blocks.length<_ by omega) (by omega) ?_)));refine ee (fe _ _ _) (ee C.D.YN (ee C.D.ob.len (j8 (m:=2) (show t.blocks.length<_ by omega) (by omega) ?_)));have n2:Sm (fK ops t.s).2 n:=hn.one;refine De C (show t.blocks.length<_ by omega) 2 (fK ops t.s).1 [t.blocks.length+1,t.blocks.length+2] 0 rfl (λ_=>rfl) λF4 h4 R4 f4 k4 q4=>?_;refine yC q4 [t.blocks.length] rfl λF6 h6 R6 f6 k6 q6=>?_;have q6:=TM (t':=end_ {t with s:=(fK ops t.s).2} 2 (fK ops t.s).1 [t.blocks.length+1,t.blocks.length+2] 0 [t.blocks.length]) q6 rfl;have n6:Sm (end_ {t with s:=(fK ops t.s).2} 2 (fK ops t.s).1 [t.blocks.length+1,t.blocks.length+2] 0 [t.blocks.length]).s n:=n2.end_ (t:={t with s:=(fK ops t.s).2}) _ _ _ _ _;have S:(end_ {t with s:=(fK ops t.s).2} 2 (fK ops t.s).1 [t.blocks.length+1,t.blocks.length+2] 0 [t.blocks.length]).blocks.length=t.blocks.length+1:=by simp[end_]
 have cr:(end_ {t with s:=(fK ops t.s).2} 2 (fK ops t.s).1 [t.blocks.length+1,t.blocks.length+2] 0 [t.blocks.length]).s.known.length=t.s.known.length:=rfl;have a:fork ops t=fork ops t:=rfl
 conv at a=>rhs;unfold fork
 simp only at a;have el:({t with s:=(fK ops t.s).2}:Dt).s.known.length=t.s.known.length:=rfl;rw[el];have kA:=kgm k2 (k4.trans k6 f4) λ_ h=>h;have fA:∀l,F l->F6 l:=λl c=>f6 l (f4 l c);generalize end_ {t with s:=(fK ops t.s).2} 2 (fK ops t.s).1 [t.blocks.length+1,t.blocks.length+2] 0 [t.blocks.length]=g at*;clear C q4 k2 k4 k6;refine EV q6 ho n6 (by omega) λF7 I R7 f7 k7 q7 n7=>?_;have x7:=GH ops g.s;have ct:=x7.kl;generalize row ops g.s=e at*;have cu:=n7.k;refine T8 q7 (by show 0<e.known.length;omega) (by show e.known.length<_;omega) ?_;refine OU q7 (m:=t.s.known.length) (by show _<=e.known.length;omega) λh8 R8 k8 q8=>?_;have n8:Sm (cut t.s.known.length e) (n+6):=n7.cut bm (by omega);refine ee (fe _ _ _) (ee q8.D.YN (ee q8.D.ob.len (j8 (m:=2) (show g.blocks.length<_ by omega) (by omega) ?_)));refine De q8 (show g.blocks.length<_ by omega) 1 0 [t.blocks.length+3] 0 (by show jG 3 1 1 (V.I 0) [(0,.I ((g.blocks.length+2:Nat):Int))]=_;rw[S];rfl) (λ_=>rfl) λcv aO DU bo Nb br=>?_;refine yC br [t.blocks.length] rfl λbL aR R12 bQ bt u=>?_;have u:=TM (t':=end_ {g with s:=cut t.s.known.length e} 1 0 [t.blocks.length+3] 0 [t.blocks.length]) u rfl;have bR:Sm (end_ {g with s:=cut t.s.known.length e} 1 0 [t.blocks.length+3] 0 [t.blocks.length]).s (n+6):=n8.end_ (t:={g with s:=cut t.s.known.length e}) _ _ _ _ _;have E:(end_ {g with s:=cut t.s.known.length e} 1 0 [t.blocks.length+3] 0 [t.blocks.length]).blocks.length=t.blocks.length+2:=by simp[end_,S]
 have cn:(end_ {g with s:=cut t.s.known.length e} 1 0 [t.blocks.length+3] 0 [t.blocks.length]).s.known.length=t.s.known.length:=by
  show(e.known.take t.s.known.length).length=_;rw[Ip];omega
 have bu:({g with s:=cut t.s.known.length e}:Dt).blocks.length=t.blocks.length+1:=S;rw[bu];have T:({g with s:=e}:Dt).s.known.getLastD 0=e.known.getLastD 0:=rfl;rw[T];have kB:=(((kA.trans k7 fA).trans ((k8.gm L.nR).trans (Nb.gm L.nR) λ_ h=>h) λl c=>f7 l (fA l c)).trans (bt.gm L.nR) λl c=>bo l (f7 l (fA l c)))
 have fB:∀l,F l->bL l:=λl c=>bQ l (bo l (f7 l (fA l c)));generalize e.known.getLastD 0=Y at*;generalize end_ {g with s:=cut t.s.known.length e} 1 0 [t.blocks.length+3] 0 [t.blocks.length]=o at*;clear q6 q7 q8 br k7 k8 Nb bt kA;refine EV u ho bR (by omega) λcw d R13 U bw W bx=>?_;have bS:=GH ops o.s;have co:=bS.kl;generalize row ops o.s=i at*;have cp:=bx.k;refine T8 W (by show 0<i.known.length;omega) (by show i.known.length<_;omega) ?_;refine OU W (m:=t.s.known.length) (by show _<=i.known.length;omega) λJ R14 bz v=>?_;have bU:Sm (cut t.s.known.length i) (n+6+6):=bx.cut bm (by omega);refine ee (fe _ _ _) (ee v.D.YN (ee v.D.ob.len (j8 (m:=1) (show o.blocks.length<_ by omega) (by omega) ?_)));refine De v (show o.blocks.length<_ by omega) 1 0 [t.blocks.length+3] 0 (by show jG 3 1 1 (V.I 0) [(0,.I ((o.blocks.length+1:Nat):Int))]=_;rw[E];rfl) (λ_=>rfl) λcx bc cy bA bC bD=>?_;have bE:({o with s:=cut t.s.known.length i}:Dt).blocks.length=t.blocks.length+2:=E;rw[bE];refine yC bD [t.blocks.length+1,t.blocks.length+2] rfl λbV b R18 bW bG p=>?_;have p:=TM (t':=end_ {o with s:=cut t.s.known.length i} 1 0 [t.blocks.length+3] 0 [t.blocks.length+1,t.blocks.length+2]) p rfl;have bH:Sm (end_ {o with s:=cut t.s.known.length i} 1 0 [t.blocks.length+3] 0 [t.blocks.length+1,t.blocks.length+2]).s (n+12):=(bU.le (by omega)).end_ (t:={o with s:=cut t.s.known.length i}) _ _ _ _ _;have w:({o with s:=i}:Dt).s.known.getLastD 0=i.known.getLastD 0:=rfl;rw[w];have kC:=(((kB.trans bw fB).trans ((bz.gm L.nR).trans (bC.gm L.nR) λ_ h=>h) λl c=>U l (fB l c)).trans (bG.gm L.nR) λl c=>bA l (U l (fB l c)))
 have fC:∀l,F l->bV l:=λl c=>bW l (bA l (U l (fB l c)));generalize i.known.getLastD 0=Z at*;generalize end_ {o with s:=cut t.s.known.length i} 1 0 [t.blocks.length+3] 0 [t.blocks.length+1,t.blocks.length+2]=t3 at*;clear u W v bD bw bz bC bG kB;refine ee p.D.Au (ee p.pN ?_);have e3:jG 3 1 2 (V.I 0) [(0,V.I Y),(1,V.I Z)]=some (.cells 3 1 true false (hZ [Y,Z]),λl=> .slice l 0 2):=rfl;rw[e3,hV];obtain⟨X,bX,bY⟩:=Fh p [Y,Z];have bZ:(b.new (.cells 3 1 true false (hZ [Y,Z]))).get b.next=_:=fj _ _;have eP:∀n:Nat,fV [(V.I 0),(V.I 0),(V.I 0),(V.I 0),V.ef,(V.I 0)] [(0,1),(1,1),(2,1),(3,1),(4,1),(5,1)] [(0,(V.I 21)),(4,.slice n 0 2)]=some (.agg (mI (vl 21 0 0 0 [Y,Z] 0) (.slice n 0 2))):=λ_=>rfl;refine ee (eP _) ⟨⟨bZ,O.iK _ _ _ _ _⟩,X.pN,X.D.Au,?_⟩;generalize b.new (.cells 3 1 true false (hZ [Y,Z]))=f at*;refine Gt X bH (by omega) ⟨_,rfl,bX⟩ λP cz b4 b5=>?_;refine EV b5 ho (bH.jc _) (by omega) λb6 Q b7 b8 b9 ca cb=>?_;refine H b6 Q b7 (λl c=>b8 l (qe _ _ l (fC l c))) ((kC.trans ((bY.gm L.nR).trans (b4.gm L.nR) (qe _ _)) fC).trans b9 λl c=>qe _ _ l (fC l c)) (TM ca a.symm) ?_;rw[a];exact cb.le (by omega)
end
open Un
section
variable{F F' G G':Nat->Prop}{h h':Hp}{L:Lc}{ops:List Int}{t t':Dt}{R R':Rw}{Q:fy}
theorem YG(q:Dq F G h L ops t R)(T:ops.length<9223372036854775808){n:Nat}(U:Sm t.s n)(aP:n<800)(hb:t.blocks.length<900){K:Hp->Prop}
  (H:∀F' h' R',(∀l,F l->F' l)->Kp F (gm G L.nR) h h'->Dq F' G h' L ops (yp ops t) R'->Sm (yp ops t).s (n+30)->K h') :
  oP (eQ (.ptr L.iA 0) h) λo=>
  oP (eQ (.ptr L.qf 0) h) λaa=>
  oP (eQ (.ptr L.iA 0) h) λab=>
  oP (fH ab) λac=>
  ic CS (gh aa [ac]) h λae a=>
  (h.next<=a.next/\
  oP (gJ 1 o ae) λag=>
  oP (eQ ag a) λah=>
  ((eQ (.ptr L.iA 0) a=some o)/\
  oP (fI 3 (.ptr L.lu 0)) λai=>
  oP (eQ ai a) λaj=>
  oP (fH aj) λak=>
  oP (ev .add 3 ak (V.I 1)) λal=>
  oP (fI 3 (.ptr L.lu 0)) λam=>
  oP (eQ am a) λp=>
  oP (fH p) λr=>
  oP (ev .add 3 r (V.I 2)) λu=>
  hX (jG 3 1 2 (V.I 0) [(0,al),(1,u)]) a λv an=>
  oP (fV [V.ef,(V.I 0),(V.I 0),V.ef,V.ef,(V.I 0)] [(0,1),(1,1),(2,1),(3,1),(4,1),(5,1)] [(1,(V.I 2)),(2,ah),(3,v)]) λw=>
  ic CS (gh (I1 L) [w]) an λc x=>
  oP (eQ (.ptr L.iA 0) x) λy=>
  oP (fH y) λz=>
  hX (jG 3 1 1 (V.I 0) [(0,c)]) x λA ao=>
  oP (fI 4 (.ptr L.jN 0)) λB=>
  fk (gM 1 B A ao) λap aq=>
  ic CS (gh (JS L) []) aq λaM C=>
  oP (eQ (.ptr L.Ua 0) C) λE=>
  ic CS (gh E []) C λI ar=>
  oP (fV [V.ef,(V.I 0),(V.I 0),V.ef,V.ef,(V.I 0)] [(0,1),(1,1),(2,1),(3,1),(4,1),(5,1)] [(1,(V.I 3)),(5,I)]) λJ=>
  ic CS (gh (I1 L) [J]) ar λaN e=>
  oP (eQ (.ptr L.iA 0) e) λM=>
  oP (jy 1 M none (some z) e) λN=>
  fk (gM 1 (.ptr L.iA 0) N e) λau aw=>
  hX (jG 3 1 1 (V.I 0) [(0,c)]) aw λO ax=>
  oP (fI 4 (.ptr L.jN 0)) λP=>
  fk (gM 1 P O ax) λay aA=>
  ic CS (gh (JS L) []) aA λaO aB=>K aB)):=by
 have aC:=U.k0;have hk:=U.k;refine RX q T U (by omega) λh2 W j=>?_;refine ee (fe _ _ _) (ee j.D.YN (ee j.D.ob.len (j8 (m:=1) (show t.blocks.length<_ by omega) (by omega) ?_)));refine ee (fe _ _ _) (ee j.D.YN (ee j.D.ob.len (j8 (m:=2) (show t.blocks.length<_ by omega) (by omega) ?_)));have n2:Sm (fK ops t.s).2 n:=U.one;refine De j (show t.blocks.length<_ by omega) 2 (fK ops t.s).1 [t.blocks.length+1,t.blocks.length+2] 0 rfl (λ_=>rfl) λF4 h4 R4 f4 k4 X=>?_;refine ee X.D.Au (ee X.D.ok.len ?_);refine yC X [t.blocks.length] rfl λF6 h6 R6 f6 k6 q6=>?_;have q6:=TM (t':=end_ {t with s:=(fK ops t.s).2} 2 (fK ops t.s).1 [t.blocks.length+1,t.blocks.length+2] 0 [t.blocks.length]) q6 rfl;have n6:Sm (end_ {t with s:=(fK ops t.s).2} 2 (fK ops t.s).1 [t.blocks.length+1,t.blocks.length+2] 0 [t.blocks.length]).s n:=n2.end_ (t:={t with s:=(fK ops t.s).2}) _ _ _ _ _;have aQ:(end_ {t with s:=(fK ops t.s).2} 2 (fK ops t.s).1 [t.blocks.length+1,t.blocks.length+2] 0 [t.blocks.length]).blocks.length=t.blocks.length+1:=by simp[end_]
 have aR:(end_ {t with s:=(fK ops t.s).2} 2 (fK ops t.s).1 [t.blocks.length+1,t.blocks.length+2] 0 [t.blocks.length]).s.known.length=t.s.known.length:=rfl;have Y:yp ops t=yp ops t:=rfl
 conv at Y=>rhs;unfold yp
 simp only at Y;have kA:=kgm W (k4.trans k6 f4) λ_ h=>h;have fA:∀l,F l->F6 l:=λl b=>f6 l (f4 l b);generalize end_ {t with s:=(fK ops t.s).2} 2 (fK ops t.s).1 [t.blocks.length+1,t.blocks.length+2] 0 [t.blocks.length]=d at*;clear j X W k4 k6;refine EV q6 T n6 (by omega) λF7 h7 R7 f7 k7 q7 n7=>?_;have x7:=GH ops d.s;have aS:=x7.kl;generalize row ops d.s=f at*;refine ee q7.Jb ?_;refine MD q7 T n7 (by omega) λF8 h8 R8 f8 k8 q8 Z=>?_;have x8:=J9 ops f;have aT:=x8.kl;have e8:fJ ops ({d with s:=f}:Dt).s=fJ ops f:=rfl;rw[e8];have q8:Dq F8 G h8 L ops {d with s:=(fJ ops f).2} R8:=q8;have Z:Sm (fJ ops f).2 (n+6+1):=Z;generalize (fJ ops f).2=s2 at*;generalize (fJ ops f).1=Q at*;have eB:fV [V.ef,(V.I 0),(V.I 0),V.ef,V.ef,(V.I 0)] [(0,1),(1,1),(2,1),(3,1),(4,1),(5,1)] [(1,(V.I 3)),(5,.I Q)]=some (.agg (kE ⟨[],3,0,[],[],Q⟩ .ef .ef .ef)):=rfl;refine ee eB ?_;have aU:=Z.k;refine SW q8 (show d.blocks.length<_ by omega) ⟨[],3,0,[],[],Q⟩ rfl rfl rfl .nil λF9 h9 R9 f9 k9 q9=>?_;refine OU q9 (m:=t.s.known.length) (by show _<=s2.known.length;omega) λaV DU Nb aD=>?_;refine yC aD [t.blocks.length] rfl λaW aX R11 S aE g=>?_;have g:=TM (t':=end_ {d with s:=cut t.s.known.length s2} 3 0 [] Q [t.blocks.length]) g rfl;have aF:Sm (end_ {d with s:=cut t.s.known.length s2} 3 0 [] Q [t.blocks.length]).s (n+7):=(Z.cut aC (by omega)).end_ (t:={d with s:=cut t.s.known.length s2}) _ _ _ _ _;refine EV g T aF (by omega) λaG aH R12 aI aJ aK aL=>?_;have i:∀l,F l->F8 l:=λl b=>f8 l (f7 l (fA l b));refine H aG aH R12 (λl b=>aI l (S l (f9 l (i l b)))) ?_ (TM aK Y.symm) ?_
 ·have k1:=(kA.trans k7 fA).trans k8 λl b=>f7 l (fA l b);have W:=((k9.gm L.nR).trans (Nb.gm L.nR) f9).trans (aE.gm L.nR) f9;exact(k1.trans W i).trans aJ λl b=>S l (f9 l (i l b))
 ·rw[Y];exact aL.le (by omega)
end
