/- Parts. -/
import Derived.Test.YtpnddokajmjpbaaDoorM22
namespace Go.Proofs.YtpnddokajmjpbaaDoor.Hx
open Go.Proofs.YtpnddokajmjpbaaDoor.Un
section
variable{F F' G G':Nat->Prop}{h h':Hp}{lu hX iX:Nat}{ops:List Int}{t t':Dt}{R R':Rw}{Q:fx}
theorem OR {x:Vl}{w:List V}(D:Dw F G h lu hX iX t R)(hq:R.cc=R.vc)(u:eV.rel F h x w)(hv:t.s.ee.length<1000)(hc:t.s.cur.length<1000)(I:t.s.known.length<1000){K:Hp->Prop}
  (H:∀h' R',Kp F G h h'->Dw F G h' lu hX iX {t with s:=il t.s x} R'->R'.cc=R'.vc->K h') :
  cP CS fo [.agg w,.ptr lu 0,.ptr iX 0] h λd b=>(h.next<=b.next/\wS (iZ 3 1 1 (V.int .i64 0) [(0,d)]) b λo e c=>((c.get b.next=some o/\O.beq o o=true)/\(ev (.ptr hX 0) c=some R.vk/\fm (eR 3 1 8 R.vk e c) λf g=>(c.next<=g.next/\fm (gB 1 (.ptr hX 0) f g) λ_ n=>(g.next<=n.next/\K n))))):=by
 refine Qd D hq u hv hc λa R1 p q i j=>⟨p.next,?_⟩
 rw[<-j];have v:iZ 3 1 1 (V.int .i64 0) [(0,V.int .i64 t.s.ee.length)]=some (.cells 3 1 true false [V.int .i64 t.s.ee.length],λl=> .slice l 0 1):=rfl;rw[v,gY];have r:=q.grow (jZ.new a (.cells 3 1 true false [V.int .i64 t.s.ee.length]));have hx:jM (a.new (.cells 3 1 true false [V.int .i64 t.s.ee.length])) 1 (.slice a.next 0 1)=some (1,[V.int .i64 t.s.ee.length]):=lP (k:=0) rfl;obtain⟨y,z,b,a1,a2,a3,A,B,C⟩:=r.Y6 (ys:=[t.s.ee.length]) hx ⟨[V.int .i64 t.s.ee.length],[],rfl,rfl,trivial⟩ rfl rfl (by simp) (by show t.s.known.length+1<_;omega);have m:eR 3 1 8 R1.vk (.slice a.next 0 1) (a.new (.cells 3 1 true false [V.int .i64 t.s.ee.length]))=some (.val y z):=a1;refine⟨⟨fg _ _,O.gL _ _ _ _ _⟩,r.yr,?_⟩;simp only[m,ef,a3];have E:=(q.xG (.cells 3 1 true false [V.int .i64 t.s.ee.length])).trans B λ_ h=>h;exact⟨a2,A,H _ _ (p.trans E λ_ h=>h) C i⟩
theorem Wk {cs:List Pc}{y:List Int}{np:Int}{vo vs:V}(P:ei F h cs)(aj:ik (eI .i64) F h ops vo)(ak:ik (eI .i64) F h y vs)(ho:ops.length<9223372036854775808)
  (H:∀F' h' w,Sn F h F' h'->ei F' h' cs->eUn.rel F' h' (GG ops y np) w->Q (.agg w) h'):cP CS mr [.agg [vo,vs,.int .i64 np]] h Q:=by
 refine Du rfl rfl ?_;unfold wu;have o1:fV [vo,vs,.int .i64 np]=true:=by simp only[eJ,aj.one,ak.one];rfl
 rw[Cc o1,fq,fq];have n1:(h.new (.cells 25 1 true false [vo,vs,.int .i64 np])).next=h.next+1:=rfl;have g1:(h.new (.cells 25 1 true false [vo,vs,.int .i64 np])).get h.next=_:=fg _ _;have c1:Cq h (h.new (.cells 25 1 true false [vo,vs,.int .i64 np])):=jZ.new _ _;generalize h.new (.cells 25 1 true false [vo,vs,.int .i64 np])=u at*;have n2:(u.new (.cells 30 1 true false [(V.int .i64 0),(V.int .i64 0),V.ec,V.ec,V.ec])).next=u.next+1:=rfl;have g2:(u.new (.cells 30 1 true false [(V.int .i64 0),(V.int .i64 0),V.ec,V.ec,V.ec])).get u.next=_:=fg _ _;have c2:=c1.trans (jZ.new u (.cells 30 1 true false [(V.int .i64 0),(V.int .i64 0),V.ec,V.ec,V.ec]));have al:=(fk (h:=u) (.cells 30 1 true false [(V.int .i64 0),(V.int .i64 0),V.ec,V.ec,V.ec]) (l:=h.next) (by omega)).trans g1;generalize u.new (.cells 30 1 true false [(V.int .i64 0),(V.int .i64 0),V.ec,V.ec,V.ec])=j at*;have eB:fN [(V.int .i64 0),(V.int .i64 0),V.ec,V.ec,V.ec] [(0,1),(1,1),(2,1),(3,1),(4,1)] [(0,(V.int .i64 1)),(1,(V.int .i64 2)),(4,V.ec)]=some (.agg [.int .i64 1,.int .i64 2,.ec,.ec,.ec]):=rfl;refine ed eB ?_;rw[fq];have n3:(j.new (.cells 30 1 true false [(V.int .i64 0),(V.int .i64 0),V.ec,V.ec,V.ec])).next=j.next+1:=rfl;have g3:(j.new (.cells 30 1 true false [(V.int .i64 0),(V.int .i64 0),V.ec,V.ec,V.ec])).get j.next=_:=fg _ _;have c3:=c2.trans (jZ.new j (.cells 30 1 true false [(V.int .i64 0),(V.int .i64 0),V.ec,V.ec,V.ec]));have am:=(fk (h:=j) (.cells 30 1 true false [(V.int .i64 0),(V.int .i64 0),V.ec,V.ec,V.ec]) (l:=h.next) (by omega)).trans al;have an:=(fk (h:=j) (.cells 30 1 true false [(V.int .i64 0),(V.int .i64 0),V.ec,V.ec,V.ec]) (l:=u.next) (by omega)).trans g2;generalize j.new (.cells 30 1 true false [(V.int .i64 0),(V.int .i64 0),V.ec,V.ec,V.ec])=A at*;have l2:j.next<A.next:=by omega
 have e4:=D0 (n:=5) (ws:=[.int .i64 1,.int .i64 2,.ec,.ec,.ec]) g3 rfl rfl rfl;rw[e4,ef];have n4:(A.put j.next (.cells 30 1 true false [.int .i64 1,.int .i64 2,.ec,.ec,.ec])).next=A.next:=rfl;have g4:=fP (.cells 30 1 true false [.int .i64 1,.int .i64 2,.ec,.ec,.ec]) l2;have ae:=(gf (.cells 30 1 true false [.int .i64 1,.int .i64 2,.ec,.ec,.ec]) l2 (m:=h.next) (by omega)).trans am;have ao:=(gf (.cells 30 1 true false [.int .i64 1,.int .i64 2,.ec,.ec,.ec]) l2 (m:=u.next) (by omega)).trans an
 have c4:Cq h (A.put j.next (.cells 30 1 true false [.int .i64 1,.int .i64 2,.ec,.ec,.ec])):=
  c3.trans' (jZ.put (S:=λl=>l=j.next) (.cells 30 1 true false [.int .i64 1,.int .i64 2,.ec,.ec,.ec]) rfl l2) λl d e=>by omega
 generalize A.put j.next (.cells 30 1 true false [.int .i64 1,.int .i64 2,.ec,.ec,.ec])=r at*;refine ed (ez _ _ _) (ed (jR ae rfl) ?_);show cP CS iF [.int .i64 np,.int .i64 ((5:Nat):Int)] r _;refine MY (by decide) (by decide) ?_;rw[fq];have g5:(r.new (.cells 23 1 true false [V.ec])).get r.next=_:=fg _ _;have n5:(r.new (.cells 23 1 true false [V.ec])).next=r.next+1:=rfl;have c5:=c4.trans (jZ.new r (.cells 23 1 true false [V.ec]));have k5:∀l,l<r.next->(r.new (.cells 23 1 true false [V.ec])).get l=r.get l:=λl d=>fk _ d;generalize r.new (.cells 23 1 true false [V.ec])=p at*;have ap:fN [V.ec,(V.int .i64 0),(V.int .i64 0),V.ec,V.ec,(V.int .i64 0)] [(0,1),(1,1),(2,1),(3,1),(4,1),(5,1)] []=some (.agg [V.ec,(V.int .i64 0),(V.int .i64 0),V.ec,V.ec,(V.int .i64 0)]):=rfl;refine ed ap ?_;rw[fq];have g6:(p.new (.cells 44 1 true false [V.ec,(V.int .i64 0),(V.int .i64 0),V.ec,V.ec,(V.int .i64 0)])).get p.next=_:=fg _ _;have n6:(p.new (.cells 44 1 true false [V.ec,(V.int .i64 0),(V.int .i64 0),V.ec,V.ec,(V.int .i64 0)])).next=p.next+1:=rfl;have c6:=c5.trans (jZ.new p (.cells 44 1 true false [V.ec,(V.int .i64 0),(V.int .i64 0),V.ec,V.ec,(V.int .i64 0)]));have k6:∀l,l<p.next->(p.new (.cells 44 1 true false [V.ec,(V.int .i64 0),(V.int .i64 0),V.ec,V.ec,(V.int .i64 0)])).get l=p.get l:=λl d=>fk _ d;generalize p.new (.cells 44 1 true false [V.ec,(V.int .i64 0),(V.int .i64 0),V.ec,V.ec,(V.int .i64 0)])=h6 at*;have l5:p.next<h6.next:=by omega
 have e7:=D0 (n:=6) (ws:=[V.ec,(V.int .i64 0),(V.int .i64 0),V.ec,V.ec,(V.int .i64 0)]) g6 rfl rfl rfl;rw[e7,ef,fq];have g7:=fP (.cells 44 1 true false [V.ec,(V.int .i64 0),(V.int .i64 0),V.ec,V.ec,(V.int .i64 0)]) l5;have n7:(h6.put p.next (.cells 44 1 true false [V.ec,(V.int .i64 0),(V.int .i64 0),V.ec,V.ec,(V.int .i64 0)])).next=h6.next:=rfl;have k7:∀l,l≠p.next->(h6.put p.next (.cells 44 1 true false [V.ec,(V.int .i64 0),(V.int .i64 0),V.ec,V.ec,(V.int .i64 0)])).get l=h6.get l:=λl d=>gf _ l5 λe=>d e.symm
 have c7:Cq h (h6.put p.next (.cells 44 1 true false [V.ec,(V.int .i64 0),(V.int .i64 0),V.ec,V.ec,(V.int .i64 0)])):=
  c6.trans' (jZ.put (S:=λl=>l=p.next) (.cells 44 1 true false [V.ec,(V.int .i64 0),(V.int .i64 0),V.ec,V.ec,(V.int .i64 0)]) rfl l5) λl d e=>by have:=c4.next;omega
 generalize h6.put p.next (.cells 44 1 true false [V.ec,(V.int .i64 0),(V.int .i64 0),V.ec,V.ec,(V.int .i64 0)])=t at*;have g8:(t.new (.cells 70 1 true false [V.nilFunc])).get t.next=_:=fg _ _;have n8:(t.new (.cells 70 1 true false [V.nilFunc])).next=t.next+1:=rfl;have c8:=c7.trans (jZ.new t (.cells 70 1 true false [V.nilFunc]));have k8:∀l,l<t.next->(t.new (.cells 70 1 true false [V.nilFunc])).get l=t.get l:=λl d=>fk _ d;generalize t.new (.cells 70 1 true false [V.nilFunc])=h8 at*;have l7:t.next<h8.next:=by omega
 have e9:=mV (o:=0) (v:= .func fo [] [.ptr j.next 0,.ptr p.next 0]) (mR:=[.func fo [] [.ptr j.next 0,.ptr p.next 0]]) g8 (by simp) rfl rfl;rw[e9,ef];have g9:=fP (.cells 70 1 true false [.func fo [] [.ptr j.next 0,.ptr p.next 0]]) l7;have n9:(h8.put t.next (.cells 70 1 true false [.func fo [] [.ptr j.next 0,.ptr p.next 0]])).next=h8.next:=rfl;have R:∀l,l≠t.next->(h8.put t.next (.cells 70 1 true false [.func fo [] [.ptr j.next 0,.ptr p.next 0]])).get l=h8.get l:=λl d=>gf _ l7 λe=>d e.symm
 have c9:Cq h (h8.put t.next (.cells 70 1 true false [.func fo [] [.ptr j.next 0,.ptr p.next 0]])):=
  c8.trans' (jZ.put (S:=λl=>l=t.next) (.cells 70 1 true false [.func fo [] [.ptr j.next 0,.ptr p.next 0]]) rfl l7) λl d e=>by have:=c7.next;omega
 generalize h8.put t.next (.cells 70 1 true false [.func fo [] [.ptr j.next 0,.ptr p.next 0]])=J at*;have C:∀l,l≠p.next->l≠t.next->l<r.next->J.get l=r.get l:=λl a b c=>by rw[R l b,k8 l (by omega),k7 l a,k6 l (by omega),k5 l c]
 have nn:u.next=h.next+1/\j.next=h.next+2/\r.next=h.next+3/\p.next=h.next+4/\t.next=h.next+5/\J.next=h.next+6:=by omega
 obtain⟨m1,m2,m4,m5,m7,m9⟩:=nn;have r1:J.get h.next=some (.cells 25 1 true false [vo,vs,.int .i64 np]):=by rw[C _ (by omega) (by omega) (by omega)];exact ae
 have r2:J.get u.next=some (.cells 30 1 true false [(V.int .i64 0),(V.int .i64 0),V.ec,V.ec,V.ec]):=by rw[C _ (by omega) (by omega) (by omega)];exact ao
 have r3:J.get j.next=some (.cells 30 1 true false [.int .i64 1,.int .i64 2,.ec,.ec,.ec]):=by rw[C _ (by omega) (by omega) (by omega)];exact g4
 have r4:J.get r.next=some (.cells 23 1 true false [V.ec]):=by rw[R _ (by omega),k8 _ (by omega),k7 _ (by omega),k6 _ (by omega)];exact g5
 have r5:J.get p.next=some (.cells 44 1 true false [V.ec,(V.int .i64 0),(V.int .i64 0),V.ec,V.ec,(V.int .i64 0)]):=by rw[R _ (by omega),k8 _ (by omega)];exact g7
 have ag:∀c∈cs,∀l,c.j5 l->l<h.next/\¬F l:=λc hc l d=>by
  obtain⟨i,hi⟩:=mA.1 hc;exact c.IP (P.ok i c hi) l d
 have aC:∀i l,comp j.next r.next p.next ⟨.ec,.ec,.ec,.ec,.ec,.ec,.ec⟩ i l->h.next+2<=l/\l<=h.next+4:=by
  intro i l d
  match i,d with
  |0,d=>have:l=j.next:=d;omega
  |1,d=>have:l=r.next:=d;omega
  |2,d=>have:l=p.next:=d;omega
  |3,d=>exact d.elim
  |4,d=>exact d.elim
  |5,d=>exact d.elim
  |6,d=>exact d.elim
  |7,d=>exact d.elim
 have D9:Dw (λl=>F l\/l=h.next\/l=t.next) (λl=>(∃c∈cs,c.j5 l)\/l=u.next) J j.next r.next p.next ⟨⟨[],[],[],[],0⟩,[],[]⟩ ⟨.ec,.ec,.ec,.ec,.ec,.ec,.ec⟩:=
  { fl := λl d=>by rcases d with d|rfl|rfl;have:=P.fl l d;omega;omega;omega
    gu:=r3
    gk:=r4
    gb:=r5
    nu:=⟨by omega,by rintro(d|d|d);have:=P.fl _ d;omega;omega;omega⟩
    nk:=⟨by omega,by rintro(d|d|d);have:=P.fl _ d;omega;omega;omega⟩
    nb:=⟨by omega,by rintro(d|d|d);have:=P.fl _ d;omega;omega;omega⟩
    ov:= .nil
    ob:= .nil
    os:= .nil
    ok:= .nil
    oc:= .nil
    sp:= .nil
    kc:=λ_ h=>h.elim
    gx := λl d=>by
      have hb:(l<h.next/\¬F l)\/l=u.next:=by
        rcases d with⟨c,hc,d⟩|d
        ·exact .inl (ag c hc l d)
        ·exact .inr d
      refine⟨by omega,?_,λi hi=>?_⟩
      ·rintro (A|A|A)
       ·rcases hb with r|r
        ·exact r.2 A
        ·have:=P.fl _ A;omega
       ·omega
       ·omega
      ·have:=aC i l hi;omega}
 have ah:Kp F (λl=>∃c∈cs,c.j5 l) h J:=⟨c9.next,λl d=>c9.fc l (by
  rcases d with d|⟨c,hc,d⟩
  ·exact P.fl l d
  ·exact(ag c hc l d).1) λh=>h⟩
 have N:J.get t.next=some (.cells 70 1 true false [.func fo [] [.ptr j.next 0,.ptr p.next 0]]):=g9;clear e4 e7 e9 eB ap g1 al am ae g2 an ao g3 g4 g5 g6 g7 g8 g9 k5 k6 k7 k8 R C c1 c2 c3 c4 c5 c6 c7 c8 r3 r4 r5;have aq:ik (eI .i64) (λl=>F l\/l=h.next\/l=t.next) J ops vo:=(aj.fc λl d=>ah.fc l (.inl d)).mono λ_ h=> .inl h;have ar:ik (eI .i64) (λl=>F l\/l=h.next\/l=t.next) J y vs:=(ak.fc λl d=>ah.fc l (.inl d)).mono λ_ h=> .inl h;have aZ:=Gp np (m:=5) (by decide)
 refine AV (λk x1 x2 x3 x4 x5 x6 x7 x8 hh=>∃(R':Rw) (i:Nat) (s:Ds),x1 = .ptr h.next 0/\x2 = .ptr u.next 0/\x3 = .ptr j.next 0/\x4 = .int .i64 (lg np 5:Nat)/\x5 = .ptr r.next 0/\x6 = .ptr p.next 0/\x7 = .ptr t.next 0/\x8 = .int .i64 i/\
  i+k=lg np 5/\Kp (λl=>F l\/l=h.next\/l=t.next) (λl=>(∃c∈cs,c.j5 l)\/l=u.next) J hh/\Dw (λl=>F l\/l=h.next\/l=t.next) (λl=>(∃c∈cs,c.j5 l)\/l=u.next) hh j.next r.next p.next ⟨s,[],[]⟩ R'/\R'.cc=R'.vc/\
  s.ee.length=i/\s.cur.length=i/\s.known.length=i/\s.eh=[]/\params k i s=params (lg np 5) 0 ⟨[],[],[],[],0⟩/\s.pos=0) ?_ (k:=lg np 5)
  ⟨_,0,⟨[],[],[],[],0⟩,rfl,rfl,rfl,rfl,rfl,rfl,rfl,rfl,by omega,Kp.refl _ _ _,D9,rfl,rfl,rfl,rfl,rfl,rfl,rfl⟩
 rintro k x1 x2 x3 x4 x5 x6 x7 x8 hh ⟨R1,i,s,rfl,rfl,rfl,rfl,rfl,rfl,rfl,rfl,a4,kk,D,hq,s1,s2,s3,s4,hp,Z⟩;unfold tM;have xO:ev (.ptr t.next 0) hh=some (.func fo [] [.ptr j.next 0,.ptr p.next 0]):=jR (by rw[kk.fc _ (.inl (.inr (.inr rfl)))];exact N) rfl;by_cases IH:i<lg np 5
 ·refine gw ?_;refine ed D.yr (ed xO ?_);have eP:∀i:Nat,fN [(V.int .i64 0),(V.int .i64 0),(V.int .i64 0),(V.int .i64 0),V.ec,(V.int .i64 0)] [(0,1),(1,1),(2,1),(3,1),(4,1),(5,1)] [(0,(V.int .i64 1)),(3,.int .i64 (i:Nat))]=some (.agg (ll (vl 1 0 0 (i:Nat) [] 0) .ec)):=λ_=>rfl;refine ed (eP _) ?_;show cP CS fo [.agg (ll (vl 1 0 0 (i:Nat) [] 0) .ec),.ptr j.next 0,.ptr p.next 0] hh _;refine OR D hq ⟨_,rfl,.nil⟩ (by show s.ee.length<_;omega) (by show s.cur.length<_;omega) (by show s.known.length<_;omega) λf R2 k2 T ai=>?_;refine fM ?_;obtain⟨k',rfl⟩:∃k',k=k' + 1:=⟨k-1,by omega⟩
  exact⟨k',by omega,R2,i+1,il s (vl 1 0 0 (i:Nat) [] 0),rfl,rfl,rfl,rfl,rfl,rfl,rfl,rfl,by omega,kk.trans k2 λ_ h=>h,T,ai,by simp[il,s1],by simp[il,s2],by simp[il,s3],s4,by rw[<-hp];rfl,Z⟩
 refine iC ?_;obtain rfl:k=0:=by omega
 have hs:s=params (lg np 5) 0 ⟨[],[],[],[],0⟩:=hp;refine ed D.yr (ed xO ?_);have eP:fN [(V.int .i64 0),(V.int .i64 0),(V.int .i64 0),(V.int .i64 0),V.ec,(V.int .i64 0)] [(0,1),(1,1),(2,1),(3,1),(4,1),(5,1)] [(0,(V.int .i64 2)),(3,(V.int .i64 5))]=some (.agg (ll (vl 2 0 0 5 [] 0) .ec)):=rfl;refine ed eP ?_;show cP CS fo [.agg (ll (vl 2 0 0 5 [] 0) .ec),.ptr j.next 0,.ptr p.next 0] hh _;refine OR D hq ⟨_,rfl,.nil⟩ (by show s.ee.length<_;omega) (by show s.cur.length<_;omega) (by show s.known.length<_;omega) λf R2 k2 T ai=>?_;have kq:=kk.trans k2 λ_ h=>h;have T:Dw _ _ f j.next r.next p.next ⟨il s (vl 2 0 0 5 [] 0),[],[]⟩ R2:=T;have nh:J.next<=f.next:=kq.next;rw[fq];have D3:=T.grow (jZ.new f (.cells 3 1 true false [V.int .i64 0]));have g3:(f.new (.cells 3 1 true false [V.int .i64 0])).get f.next=_:=fg _ _;have aD:=kq.trans (T.xG (.cells 3 1 true false [V.int .i64 0])) λ_ h=>h
 have E:∀l,f.next<=l->¬(F l\/l=h.next\/l=t.next)/\¬((∃c∈cs,c.j5 l)\/l=u.next)/\∀i,¬comp j.next r.next p.next R2 i l:=λl d=>
  ⟨λhf=>by have:=T.fl l hf;omega,λhg=>by have:=(T.gx l hg).1;omega,λi hi=>by have:=(T.sig hi).2.1;omega⟩
 have a5:(f.new (.cells 3 1 true false [V.int .i64 0])).next=f.next+1:=rfl;generalize f.new (.cells 3 1 true false [V.int .i64 0])=U at*;have aE:=mV (o:=0) (v:=V.int .i64 0) (mR:=[V.int .i64 0]) g3 (by simp) rfl rfl;rw[aE,ef];obtain⟨D4,k4⟩:=D3.other (jZ.put (S:=λl=>l=f.next) (.cells 3 1 true false [V.int .i64 0]) rfl (by omega)) λl e=>by subst e;exact E _ (iW _)
 have g4:=fP (.cells 3 1 true false [V.int .i64 0]) (show f.next<U.next by omega);have a6:(U.put f.next (.cells 3 1 true false [V.int .i64 0])).next=U.next:=rfl;have aF:=aD.trans k4 λ_ h=>h;generalize U.put f.next (.cells 3 1 true false [V.int .i64 0])=g at*;rw[fq];have D5:=D4.grow (jZ.new g (.cells 71 1 true false [V.nilFunc]));have aG:=aF.trans (D4.xG (.cells 71 1 true false [V.nilFunc])) λ_ h=>h;have g5:(g.new (.cells 71 1 true false [V.nilFunc])).get g.next=_:=fg _ _;have aH:=(fk (h:=g) (.cells 71 1 true false [V.nilFunc]) (l:=f.next) (by omega)).trans g4;have a7:(g.new (.cells 71 1 true false [V.nilFunc])).next=g.next+1:=rfl;generalize g.new (.cells 71 1 true false [V.nilFunc])=O at*;have aI:=mV (o:=0) (v:= .func fi [] [.ptr f.next 0,.ptr h.next 0]) (mR:=[.func fi [] [.ptr f.next 0,.ptr h.next 0]]) g5 (by simp) rfl rfl;rw[aI,ef];obtain⟨D6,k6⟩:=D5.other (jZ.put (S:=λl=>l=g.next) (.cells 71 1 true false [.func fi [] [.ptr f.next 0,.ptr h.next 0]]) rfl (by omega)) λl e=>by subst e;exact E _ (by omega)
 have g6:=fP (.cells 71 1 true false [.func fi [] [.ptr f.next 0,.ptr h.next 0]]) (show g.next<O.next by omega);have aJ:=(gf (.cells 71 1 true false [.func fi [] [.ptr f.next 0,.ptr h.next 0]]) (show g.next<O.next by omega) (m:=f.next) (by omega)).trans aH;have a8:(O.put g.next (.cells 71 1 true false [.func fi [] [.ptr f.next 0,.ptr h.next 0]])).next=O.next:=rfl;have aK:=aG.trans k6 λ_ h=>h;generalize O.put g.next (.cells 71 1 true false [.func fi [] [.ptr f.next 0,.ptr h.next 0]])=q at*;rw[fq];have D7:=D6.grow (jZ.new q (.cells 72 1 true false [V.nilFunc]));have aL:=aK.trans (D6.xG (.cells 72 1 true false [V.nilFunc])) λ_ h=>h;have g7:(q.new (.cells 72 1 true false [V.nilFunc])).get q.next=_:=fg _ _;have aM:=(fk (h:=q) (.cells 72 1 true false [V.nilFunc]) (l:=f.next) (by omega)).trans aJ;have aN:=(fk (h:=q) (.cells 72 1 true false [V.nilFunc]) (l:=g.next) (by omega)).trans g6;have a9:(q.new (.cells 72 1 true false [V.nilFunc])).next=q.next+1:=rfl;generalize q.new (.cells 72 1 true false [V.nilFunc])=M at*;have aO:=mV (o:=0) (v:= .func fL [] [.ptr j.next 0,.ptr g.next 0,.ptr r.next 0]) (mR:=[.func fL [] [.ptr j.next 0,.ptr g.next 0,.ptr r.next 0]]) g7 (by simp) rfl rfl;rw[aO,ef];obtain⟨D8,k8⟩:=D7.other (jZ.put (S:=λl=>l=q.next) (.cells 72 1 true false [.func fL [] [.ptr j.next 0,.ptr g.next 0,.ptr r.next 0]]) rfl (by omega)) λl e=>by subst e;exact E _ (by omega)
 have g8:=fP (.cells 72 1 true false [.func fL [] [.ptr j.next 0,.ptr g.next 0,.ptr r.next 0]]) (show q.next<M.next by omega);have aP:=(gf (.cells 72 1 true false [.func fL [] [.ptr j.next 0,.ptr g.next 0,.ptr r.next 0]]) (show q.next<M.next by omega) (m:=f.next) (by omega)).trans aM;have aQ:=(gf (.cells 72 1 true false [.func fL [] [.ptr j.next 0,.ptr g.next 0,.ptr r.next 0]]) (show q.next<M.next by omega) (m:=g.next) (by omega)).trans aN;have ba:(M.put q.next (.cells 72 1 true false [.func fL [] [.ptr j.next 0,.ptr g.next 0,.ptr r.next 0]])).next=M.next:=rfl;have G:=aL.trans k8 λ_ h=>h;generalize M.put q.next (.cells 72 1 true false [.func fL [] [.ptr j.next 0,.ptr g.next 0,.ptr r.next 0]])=I at*;have aa:I.get h.next=some (.cells 25 1 true false [vo,vs,.int .i64 np]):=by rw[G.fc _ (.inl (.inr (.inl rfl)))];exact r1
 have ab:I.get u.next=some (.cells 30 1 true false [(V.int .i64 0),(V.int .i64 0),V.ec,V.ec,V.ec]):=by rw[G.fc _ (.inr (.inr rfl))];exact r2
 have au:I.get t.next=some (.cells 70 1 true false [.func fo [] [.ptr j.next 0,.ptr p.next 0]]):=by rw[G.fc _ (.inl (.inr (.inr rfl)))];exact N
 have q8:Dq (λl=>(F l\/l=h.next\/l=t.next)\/l=g.next\/l=q.next) (λl=>((∃c∈cs,c.j5 l)\/l=u.next)\/l=f.next) I ⟨h.next,j.next,r.next,p.next,t.next,f.next,g.next,q.next⟩ ops ⟨il s (vl 2 0 0 5 [] 0),[],[]⟩ R2:=
  { D :=(D8.more (F':=λl=>(F l\/l=h.next\/l=t.next)\/l=g.next\/l=q.next) (λ_ h=> .inl h) λl d=>d.imp id λd=>⟨by omega,(E l (by omega)).2.2,(E l (by omega)).2.1⟩).Vk λl d=>d.imp id λe=>by
      subst e;refine⟨by omega,?_,(E _ (iW _)).2.2⟩;rintro(A|A)
      ·exact(E _ (iW _)).1 A
      ·omega
    hq:=ai
    gl:= .inr rfl
    ga:=by
      have:(il s (vl 2 0 0 5 [] 0)).pos=0:=Z;rw[show((⟨il s (vl 2 0 0 5 [] 0),[],[]⟩:Dt).s.pos:Nat)=0 from this];exact aP
    fr:= .inl (.inr (.inl rfl))
    gr:=⟨vo,vs,.int .i64 np,aa,(aq.fc λl d=>G.fc l (.inl d)).mono λ_ h=> .inl h⟩
    fp:= .inl (.inr (.inr rfl))
    gp:=⟨_,au⟩
    fn:= .inr (.inl rfl)
    gn:=⟨_,aQ⟩
    fs:= .inr (.inr rfl)
    gs:=⟨_,g8⟩ }
 have aR:Sm (il s (vl 2 0 0 5 [] 0)) 10:=⟨by simp[il];omega,by simp[il];omega,by simp[il];omega,by simp[il,s4],by simp[il]⟩
 have aw:ik (eI .i64) (λl=>(F l\/l=h.next\/l=t.next)\/l=g.next\/l=q.next) I y vs:=(ar.fc λl d=>G.fc l (.inl d)).mono λ_ h=> .inl h;have K:Kp F (λl=>∃c∈cs,c.j5 l) h I:=ah.trans ⟨G.next,λl d=>G.fc l (d.imp .inl .inl)⟩ λ_ h=>h;show gU CS (fU (Hw ⟨h.next,j.next,r.next,p.next,t.next,f.next,g.next,q.next⟩) []) I _;refine DN q8 ho aR (by omega) λF9 bb R9 f9 R q9 n9=>?_
 refine zaY (vo:=vo) (vs:=vs) (nv:= .int .i64 np) ho q9 (n9.le (by omega)) rfl (by rw[R.fc _ (.inl (.inl (.inr (.inl rfl))))];exact aa) ((aw.fc λl d=>R.fc l (.inl d)).mono f9) (.inl (.inr rfl)) (by show u.next≠f.next;omega)
  ⟨_,(R.fc _ (.inr ⟨.inl (.inr rfl),by show u.next≠f.next;omega⟩)).trans ab,rfl⟩ λW z Cl t1 aS aT x aU=>?_
 have ax:(λl=>((∃c∈cs,c.j5 l)\/l=u.next)\/l=f.next) u.next:= .inl (.inr rfl);have B:=R.trans aT f9;have ay:z.get u.next=some (.cells 30 1 true false [(V.int .i64 0),(V.int .i64 0),V.ec,V.ec,V.ec]):=by rw[B.fc _ (.inr ⟨ax,by show u.next≠f.next;omega⟩)];exact ab
 have aA:u.next<z.next:=by have:=B.next;omega
 have ow:fV [.int .i64 1,.int .i64 2,Cl.vv,Cl.vb,Cl.vs]=true:=by simp only[eJ,x.D.ov.one,x.D.ob.one,x.D.os.one];rfl
 have aV:=D0 (n:=5) (ws:=[.int .i64 1,.int .i64 2,Cl.vv,Cl.vb,Cl.vs]) ay rfl rfl ow;rw[aV,ef];have aW:=fP (.cells 30 1 true false [.int .i64 1,.int .i64 2,Cl.vv,Cl.vb,Cl.vs]) aA;refine ed (Bg aW rfl) ?_;have X:=x.D.gx u.next ax;have ne:∀l,W l\/Loc Cl.vv l\/Loc Cl.vb l\/Loc Cl.vs l->l≠u.next:=by
  rintro l (d|d|d|d) rfl
  ·exact X.2.1 d
  ·exact X.2.2 3 d
  ·exact X.2.2 4 d
  ·exact X.2.2 5 d
 have Y:∀l,l≠u.next->(z.put u.next (.cells 30 1 true false [.int .i64 1,.int .i64 2,Cl.vv,Cl.vb,Cl.vs])).get l=z.get l:=λl d=>gf _ aA λe=>d e.symm;have L:∀l,F l->W l:=λl d=>aS l (f9 l (.inl (.inl d)));have ac:∀l,F l->z.get l=h.get l:=λl d=>(B.fc l (.inl (.inl (.inl d)))).trans (K.fc l (.inl d));refine H (λl=>W l\/Loc Cl.vv l\/Loc Cl.vb l\/Loc Cl.vs l) _ _ ⟨by have:=B.next;have:=K.next;show h.next<=z.next;omega,λl d=>(Y l (ne l (.inl (L l d)))).trans (ac l d),λl d=> .inl (L l d)⟩ ?_ ?_
 ·refine ⟨λl d=>?_,λi c hc=>?_,P.Bs⟩
  ·show l<z.next;rcases d with d|d|d|d
   ·exact x.D.fl l d
   ·exact(x.D.ov.sP d).2.1
   ·exact(x.D.ob.sP d).2.1
   ·exact(x.D.os.sP d).2.1
  ·have aX:=P.ok i c hc;have hm:=mA.2 ⟨i,hc⟩;have aB:∀l,c.j5 l->l<h.next:=λl d=>(ag c hm l d).1;have kc:∀l,c.j5 l->(z.put u.next (.cells 30 1 true false [.int .i64 1,.int .i64 2,Cl.vv,Cl.vb,Cl.vs])).get l=h.get l:=λl d=>by
    have:=aB l d;rw[Y l (by omega),B.fc l (.inr ⟨.inl (.inl ⟨c,hm,d⟩),by show l≠f.next;omega⟩)];exact K.fc l (.inr ⟨c,hm,d⟩)
   refine c.mono (c.fc aX (λl d=>(Y l (ne l (.inl (L l d)))).trans (ac l d)) kc (by have:=B.next;have:=K.next;show h.next<=z.next;omega)) (λl d=> .inl (L l d)) λl d aY=>?_;have gx:=x.D.gx l (.inl (.inl ⟨c,hm,d⟩));rcases aY with A|A|A|A
   ·exact gx.2.1 A
   ·exact gx.2.2 3 A
   ·exact gx.2.2 4 A
   ·exact gx.2.2 5 A
 ·have eu:GG ops y np=⟨1,2,t1.s.ee,t1.blocks,t1.s.eh⟩:=by
   rw[aU];unfold GG;rw[hs]
  rw[eu];have k2:∀l,W l\/Loc Cl.vv l\/Loc Cl.vb l\/Loc Cl.vs l->(z.put u.next (.cells 30 1 true false [.int .i64 1,.int .i64 2,Cl.vv,Cl.vb,Cl.vs])).get l=z.get l:=λl d=>Y l (ne l d);exact⟨Cl.vv,Cl.vb,Cl.vs,rfl,(x.D.ov.VG (λ_ h=> .inl h) λ_ h=> .inr (.inl h)).fc k2,(x.D.ob.VG (λ_ h=> .inl h) λ_ h=> .inr (.inr (.inl h))).fc k2,(x.D.os.VG (λ_ h=> .inl h) λ_ h=> .inr (.inr (.inr h))).fc k2⟩
end
