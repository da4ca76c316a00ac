/- Parts. -/
import Derived.Test.YtjgjgngfjopaaaaDoorM22
namespace Go.Proofs.YtjgjgngfjopaaaaDoor.Hx
open Un
section
variable{F F' G G':Nat->Prop}{h h':Hp}{lu iu jA:Nat}{ops:List Int}{t t':Dt}{R R':Rw}{Q:fy}
theorem QP{x:Vl}{w:List V}(D:Dw F G h lu iu jA t R)(hq:R.cc=R.vc)(u:eV.rel F h x w)(hv:t.s.ef.length<1000)(hc:t.s.cur.length<1000)(C:t.s.known.length<1000){K:Hp->Prop}
  (H:∀h' R',Kp F G h h'->Dw F G h' lu iu jA {t with s:=iJ t.s x} R'->R'.cc=R'.vc->K h') :
  cP CS fD [.agg w,.ptr lu 0,.ptr jA 0] h λd b=>(h.next<=b.next/\wU (jt 3 1 1 (V.I 0) [(0,d)]) b λo e c=>((c.get b.next=some o/\O.beq o o=true)/\(ez (.ptr iu 0) c=some R.vk/\fm (fe 3 1 8 R.vk e c) λf g=>(c.next<=g.next/\fm (gK 1 (.ptr iu 0) f g) λ_ n=>(g.next<=n.next/\K n))))):=by
 refine RX D hq u hv hc λa R1 p q i j=>⟨p.next,?_⟩
 rw[<-j];have e3:jt 3 1 1 (V.I 0) [(0,V.I t.s.ef.length)]=some (.cells 3 1 true false [V.I t.s.ef.length],λl=> .slice l 0 1):=rfl;rw[e3,hK];have r:=q.grow (lV.new a (.cells 3 1 true false [V.I t.s.ef.length]));have v:lC (a.new (.cells 3 1 true false [V.I t.s.ef.length])) 1 (.slice a.next 0 1)=some (1,[V.I t.s.ef.length]):=nB (k:=0) rfl;obtain⟨y,z,b,a1,a2,a3,a4,k3,A⟩:=r.zbr (ys:=[t.s.ef.length]) v ⟨[V.I t.s.ef.length],[],rfl,rfl,trivial⟩ rfl rfl (by simp) (by show t.s.known.length+1<_;omega);have m:fe 3 1 8 R1.vk (.slice a.next 0 1) (a.new (.cells 3 1 true false [V.I t.s.ef.length]))=some (.val y z):=a1;refine⟨⟨fi _ _,O.gO _ _ _ _ _⟩,r.zE,?_⟩;simp only[m,ei,a3];have B:=(q.yI (.cells 3 1 true false [V.I t.s.ef.length])).trans k3 λ_ h=>h;exact⟨a2,a4,H _ _ (p.trans B λ_ h=>h) A i⟩
theorem Yg{cs:List Pc}{y:List Int}{np:Int}{vo vs:V}(P:en F h cs)(aj:iC (eI .i64) F h ops vo)(ak:iC (eI .i64) F h y vs)(ho:ops.length<9223372036854775808)
  (H:∀F' h' w,Sn F h F' h'->en F' h' cs->eUn.rel F' h' (G8 ops y np) w->Q (.agg w) h'):cP CS lH [.agg [vo,vs,.I np]] h Q:=by
 refine ED rfl rfl ?_;unfold xW;have o1:gv [vo,vs,.I np]=true:=by simp only[eQ,aj.one,ak.one];rfl
 rw[Du o1,fE,fE];have n1:(h.new (.cells 24 1 true false [vo,vs,.I np])).next=h.next+1:=rfl;have g1:(h.new (.cells 24 1 true false [vo,vs,.I np])).get h.next=_:=fi _ _;have c1:GP h (h.new (.cells 24 1 true false [vo,vs,.I np])):=lV.new _ _;generalize h.new (.cells 24 1 true false [vo,vs,.I np])=u at*;have n2:(u.new (.cells 30 1 true false [(V.I 0),(V.I 0),V.ee,V.ee,V.ee])).next=u.next+1:=rfl;have g2:(u.new (.cells 30 1 true false [(V.I 0),(V.I 0),V.ee,V.ee,V.ee])).get u.next=_:=fi _ _;have c2:=c1.trans (lV.new u (.cells 30 1 true false [(V.I 0),(V.I 0),V.ee,V.ee,V.ee]));have al:=(fo (h:=u) (.cells 30 1 true false [(V.I 0),(V.I 0),V.ee,V.ee,V.ee]) (l:=h.next) (by omega)).trans g1;generalize u.new (.cells 30 1 true false [(V.I 0),(V.I 0),V.ee,V.ee,V.ee])=j at*;have eB:fV [(V.I 0),(V.I 0),V.ee,V.ee,V.ee] [(0,1),(1,1),(2,1),(3,1),(4,1)] [(0,(V.I 1)),(1,(V.I 2)),(4,V.ee)]=some (.agg [.I 1,.I 2,.ee,.ee,.ee]):=rfl;refine ed eB ?_;rw[fE];have n3:(j.new (.cells 30 1 true false [(V.I 0),(V.I 0),V.ee,V.ee,V.ee])).next=j.next+1:=rfl;have g3:(j.new (.cells 30 1 true false [(V.I 0),(V.I 0),V.ee,V.ee,V.ee])).get j.next=_:=fi _ _;have c3:=c2.trans (lV.new j (.cells 30 1 true false [(V.I 0),(V.I 0),V.ee,V.ee,V.ee]));have am:=(fo (h:=j) (.cells 30 1 true false [(V.I 0),(V.I 0),V.ee,V.ee,V.ee]) (l:=h.next) (by omega)).trans al;have an:=(fo (h:=j) (.cells 30 1 true false [(V.I 0),(V.I 0),V.ee,V.ee,V.ee]) (l:=u.next) (by omega)).trans g2;generalize j.new (.cells 30 1 true false [(V.I 0),(V.I 0),V.ee,V.ee,V.ee])=A at*;have l2:j.next<A.next:=by omega
 have e4:=FQ (n:=5) (ws:=[.I 1,.I 2,.ee,.ee,.ee]) g3 rfl rfl rfl;rw[e4,ei];have n4:(A.put j.next (.cells 30 1 true false [.I 1,.I 2,.ee,.ee,.ee])).next=A.next:=rfl;have g4:=gq (.cells 30 1 true false [.I 1,.I 2,.ee,.ee,.ee]) l2;have ae:=(gI (.cells 30 1 true false [.I 1,.I 2,.ee,.ee,.ee]) l2 (m:=h.next) (by omega)).trans am;have ao:=(gI (.cells 30 1 true false [.I 1,.I 2,.ee,.ee,.ee]) l2 (m:=u.next) (by omega)).trans an
 have c4:GP h (A.put j.next (.cells 30 1 true false [.I 1,.I 2,.ee,.ee,.ee])):=
  c3.trans' (lV.put (S:=λl=>l=j.next) (.cells 30 1 true false [.I 1,.I 2,.ee,.ee,.ee]) rfl l2) λl d e=>by omega
 generalize A.put j.next (.cells 30 1 true false [.I 1,.I 2,.ee,.ee,.ee])=r at*;refine ed (eJ _ _ _) (ed (kX ae rfl) ?_);show cP CS im [.I np,.I ((5:Nat):Int)] r _;refine K3 (by decide) (by decide) ?_;rw[fE];have g5:(r.new (.cells 22 1 true false [V.ee])).get r.next=_:=fi _ _;have n5:(r.new (.cells 22 1 true false [V.ee])).next=r.next+1:=rfl;have c5:=c4.trans (lV.new r (.cells 22 1 true false [V.ee]));have k5:∀l,l<r.next->(r.new (.cells 22 1 true false [V.ee])).get l=r.get l:=λl d=>fo _ d;generalize r.new (.cells 22 1 true false [V.ee])=p at*;have ap:fV [V.ee,(V.I 0),(V.I 0),V.ee,V.ee,(V.I 0)] [(0,1),(1,1),(2,1),(3,1),(4,1),(5,1)] []=some (.agg [V.ee,(V.I 0),(V.I 0),V.ee,V.ee,(V.I 0)]):=rfl;refine ed ap ?_;rw[fE];have g6:(p.new (.cells 50 1 true false [V.ee,(V.I 0),(V.I 0),V.ee,V.ee,(V.I 0)])).get p.next=_:=fi _ _;have n6:(p.new (.cells 50 1 true false [V.ee,(V.I 0),(V.I 0),V.ee,V.ee,(V.I 0)])).next=p.next+1:=rfl;have c6:=c5.trans (lV.new p (.cells 50 1 true false [V.ee,(V.I 0),(V.I 0),V.ee,V.ee,(V.I 0)]));have k6:∀l,l<p.next->(p.new (.cells 50 1 true false [V.ee,(V.I 0),(V.I 0),V.ee,V.ee,(V.I 0)])).get l=p.get l:=λl d=>fo _ d;generalize p.new (.cells 50 1 true false [V.ee,(V.I 0),(V.I 0),V.ee,V.ee,(V.I 0)])=h6 at*;have l5:p.next<h6.next:=by omega
 have e7:=FQ (n:=6) (ws:=[V.ee,(V.I 0),(V.I 0),V.ee,V.ee,(V.I 0)]) g6 rfl rfl rfl;rw[e7,ei,fE];have g7:=gq (.cells 50 1 true false [V.ee,(V.I 0),(V.I 0),V.ee,V.ee,(V.I 0)]) l5;have n7:(h6.put p.next (.cells 50 1 true false [V.ee,(V.I 0),(V.I 0),V.ee,V.ee,(V.I 0)])).next=h6.next:=rfl;have k7:∀l,l≠p.next->(h6.put p.next (.cells 50 1 true false [V.ee,(V.I 0),(V.I 0),V.ee,V.ee,(V.I 0)])).get l=h6.get l:=λl d=>gI _ l5 λe=>d e.symm
 have c7:GP h (h6.put p.next (.cells 50 1 true false [V.ee,(V.I 0),(V.I 0),V.ee,V.ee,(V.I 0)])):=
  c6.trans' (lV.put (S:=λl=>l=p.next) (.cells 50 1 true false [V.ee,(V.I 0),(V.I 0),V.ee,V.ee,(V.I 0)]) rfl l5) λl d e=>by have:=c4.next;omega
 generalize h6.put p.next (.cells 50 1 true false [V.ee,(V.I 0),(V.I 0),V.ee,V.ee,(V.I 0)])=t at*;have g8:(t.new (.cells 54 1 true false [V.nilFunc])).get t.next=_:=fi _ _;have n8:(t.new (.cells 54 1 true false [V.nilFunc])).next=t.next+1:=rfl;have c8:=c7.trans (lV.new t (.cells 54 1 true false [V.nilFunc]));have k8:∀l,l<t.next->(t.new (.cells 54 1 true false [V.nilFunc])).get l=t.get l:=λl d=>fo _ d;generalize t.new (.cells 54 1 true false [V.nilFunc])=h8 at*;have l7:t.next<h8.next:=by omega
 have e9:=nT (o:=0) (v:= .func fD [] [.ptr j.next 0,.ptr p.next 0]) (nQ:=[.func fD [] [.ptr j.next 0,.ptr p.next 0]]) g8 (by simp) rfl rfl;rw[e9,ei];have g9:=gq (.cells 54 1 true false [.func fD [] [.ptr j.next 0,.ptr p.next 0]]) l7;have n9:(h8.put t.next (.cells 54 1 true false [.func fD [] [.ptr j.next 0,.ptr p.next 0]])).next=h8.next:=rfl;have R:∀l,l≠t.next->(h8.put t.next (.cells 54 1 true false [.func fD [] [.ptr j.next 0,.ptr p.next 0]])).get l=h8.get l:=λl d=>gI _ l7 λe=>d e.symm
 have c9:GP h (h8.put t.next (.cells 54 1 true false [.func fD [] [.ptr j.next 0,.ptr p.next 0]])):=
  c8.trans' (lV.put (S:=λl=>l=t.next) (.cells 54 1 true false [.func fD [] [.ptr j.next 0,.ptr p.next 0]]) rfl l7) λl d e=>by have:=c7.next;omega
 generalize h8.put t.next (.cells 54 1 true false [.func fD [] [.ptr j.next 0,.ptr p.next 0]])=J at*;have C:∀l,l≠p.next->l≠t.next->l<r.next->J.get l=r.get l:=λl a b c=>by rw[R l b,k8 l (by omega),k7 l a,k6 l (by omega),k5 l c]
 have nn:u.next=h.next+1/\j.next=h.next+2/\r.next=h.next+3/\p.next=h.next+4/\t.next=h.next+5/\J.next=h.next+6:=by omega
 obtain⟨m1,m2,m4,m5,m7,m9⟩:=nn;have r1:J.get h.next=some (.cells 24 1 true false [vo,vs,.I np]):=by rw[C _ (by omega) (by omega) (by omega)];exact ae
 have r2:J.get u.next=some (.cells 30 1 true false [(V.I 0),(V.I 0),V.ee,V.ee,V.ee]):=by rw[C _ (by omega) (by omega) (by omega)];exact ao
 have r3:J.get j.next=some (.cells 30 1 true false [.I 1,.I 2,.ee,.ee,.ee]):=by rw[C _ (by omega) (by omega) (by omega)];exact g4
 have r4:J.get r.next=some (.cells 22 1 true false [V.ee]):=by rw[R _ (by omega),k8 _ (by omega),k7 _ (by omega),k6 _ (by omega)];exact g5
 have r5:J.get p.next=some (.cells 50 1 true false [V.ee,(V.I 0),(V.I 0),V.ee,V.ee,(V.I 0)]):=by rw[R _ (by omega),k8 _ (by omega)];exact g7
 have ag:∀c∈cs,∀l,c.lX l->l<h.next/\¬F l:=λc hc l d=>by
  obtain⟨i,hi⟩:=mK.1 hc;exact c.JC (P.ok i c hi) l d
 have aC:∀i l,comp j.next r.next p.next ⟨.ee,.ee,.ee,.ee,.ee,.ee,.ee⟩ i l->h.next+2<=l/\l<=h.next+4:=by
  intro i l d
  match i,d with
  |0,d=>have:l=j.next:=d;omega
  |1,d=>have:l=r.next:=d;omega
  |2,d=>have:l=p.next:=d;omega
  |3,d=>exact d.elim
  |4,d=>exact d.elim
  |5,d=>exact d.elim
  |6,d=>exact d.elim
  |7,d=>exact d.elim
 have D9:Dw (λl=>F l\/l=h.next\/l=t.next) (λl=>(∃c∈cs,c.lX l)\/l=u.next) J j.next r.next p.next ⟨⟨[],[],[],[],0⟩,[],[]⟩ ⟨.ee,.ee,.ee,.ee,.ee,.ee,.ee⟩:=
  { fl := λl d=>by rcases d with d|rfl|rfl;have:=P.fl l d;omega;omega;omega
    gu:=r3
    gk:=r4
    gb:=r5
    nu:=⟨by omega,by rintro(d|d|d);have:=P.fl _ d;omega;omega;omega⟩
    nk:=⟨by omega,by rintro(d|d|d);have:=P.fl _ d;omega;omega;omega⟩
    nb:=⟨by omega,by rintro(d|d|d);have:=P.fl _ d;omega;omega;omega⟩
    ov:= .nil
    ob:= .nil
    os:= .nil
    ok:= .nil
    oc:= .nil
    sp:= .nil
    kc:=λ_ h=>h.elim
    gx := λl d=>by
      have hb:(l<h.next/\¬F l)\/l=u.next:=by
        rcases d with⟨c,hc,d⟩|d
        ·exact .inl (ag c hc l d)
        ·exact .inr d
      refine⟨by omega,?_,λi hi=>?_⟩
      ·rintro (A|A|A)
       ·rcases hb with r|r
        ·exact r.2 A
        ·have:=P.fl _ A;omega
       ·omega
       ·omega
      ·have:=aC i l hi;omega}
 have ah:Kp F (λl=>∃c∈cs,c.lX l) h J:=⟨c9.next,λl d=>c9.fk l (by
  rcases d with d|⟨c,hc,d⟩
  ·exact P.fl l d
  ·exact(ag c hc l d).1) λh=>h⟩
 have N:J.get t.next=some (.cells 54 1 true false [.func fD [] [.ptr j.next 0,.ptr p.next 0]]):=g9;clear e4 e7 e9 eB ap g1 al am ae g2 an ao g3 g4 g5 g6 g7 g8 g9 k5 k6 k7 k8 R C c1 c2 c3 c4 c5 c6 c7 c8 r3 r4 r5;have aq:iC (eI .i64) (λl=>F l\/l=h.next\/l=t.next) J ops vo:=(aj.fk λl d=>ah.fk l (.inl d)).mono λ_ h=> .inl h;have ar:iC (eI .i64) (λl=>F l\/l=h.next\/l=t.next) J y vs:=(ak.fk λl d=>ah.fk l (.inl d)).mono λ_ h=> .inl h;have aZ:=EZ np (m:=5) (by decide)
 refine Cy (λk x1 x2 x3 x4 x5 x6 x7 x8 hh=>∃(R':Rw) (i:Nat) (s:Ds),x1 = .ptr h.next 0/\x2 = .ptr u.next 0/\x3 = .ptr j.next 0/\x4 = .I (l0 np 5:Nat)/\x5 = .ptr r.next 0/\x6 = .ptr p.next 0/\x7 = .ptr t.next 0/\x8 = .I i/\
  i+k=l0 np 5/\Kp (λl=>F l\/l=h.next\/l=t.next) (λl=>(∃c∈cs,c.lX l)\/l=u.next) J hh/\Dw (λl=>F l\/l=h.next\/l=t.next) (λl=>(∃c∈cs,c.lX l)\/l=u.next) hh j.next r.next p.next ⟨s,[],[]⟩ R'/\R'.cc=R'.vc/\
  s.ef.length=i/\s.cur.length=i/\s.known.length=i/\s.eh=[]/\params k i s=params (l0 np 5) 0 ⟨[],[],[],[],0⟩/\s.pos=0) ?_ (k:=l0 np 5)
  ⟨_,0,⟨[],[],[],[],0⟩,rfl,rfl,rfl,rfl,rfl,rfl,rfl,rfl,by omega,Kp.refl _ _ _,D9,rfl,rfl,rfl,rfl,rfl,rfl,rfl⟩
 rintro k x1 x2 x3 x4 x5 x6 x7 x8 hh ⟨R1,i,s,rfl,rfl,rfl,rfl,rfl,rfl,rfl,rfl,a5,kk,D,hq,s1,s2,s3,s4,hp,Z⟩;unfold ua;have zp:ez (.ptr t.next 0) hh=some (.func fD [] [.ptr j.next 0,.ptr p.next 0]):=kX (by rw[kk.fk _ (.inl (.inr (.inr rfl)))];exact N) rfl;by_cases Kh:i<l0 np 5
 ·refine gG ?_;refine ed D.zE (ed zp ?_);have eP:∀i:Nat,fV [(V.I 0),(V.I 0),(V.I 0),(V.I 0),V.ee,(V.I 0)] [(0,1),(1,1),(2,1),(3,1),(4,1),(5,1)] [(0,(V.I 1)),(3,.I (i:Nat))]=some (.agg (mz (vl 1 0 0 (i:Nat) [] 0) .ee)):=λ_=>rfl;refine ed (eP _) ?_;show cP CS fD [.agg (mz (vl 1 0 0 (i:Nat) [] 0) .ee),.ptr j.next 0,.ptr p.next 0] hh _;refine QP D hq ⟨_,rfl,.nil⟩ (by show s.ef.length<_;omega) (by show s.cur.length<_;omega) (by show s.known.length<_;omega) λf R2 k2 T ai=>?_;refine fN ?_;obtain⟨k',rfl⟩:∃k',k=k' + 1:=⟨k-1,by omega⟩
  exact⟨k',by omega,R2,i+1,iJ s (vl 1 0 0 (i:Nat) [] 0),rfl,rfl,rfl,rfl,rfl,rfl,rfl,rfl,by omega,kk.trans k2 λ_ h=>h,T,ai,by simp[iJ,s1],by simp[iJ,s2],by simp[iJ,s3],s4,by rw[<-hp];rfl,Z⟩
 refine iI ?_;obtain rfl:k=0:=by omega
 have hs:s=params (l0 np 5) 0 ⟨[],[],[],[],0⟩:=hp;refine ed D.zE (ed zp ?_);have eP:fV [(V.I 0),(V.I 0),(V.I 0),(V.I 0),V.ee,(V.I 0)] [(0,1),(1,1),(2,1),(3,1),(4,1),(5,1)] [(0,(V.I 2)),(3,(V.I 5))]=some (.agg (mz (vl 2 0 0 5 [] 0) .ee)):=rfl;refine ed eP ?_;show cP CS fD [.agg (mz (vl 2 0 0 5 [] 0) .ee),.ptr j.next 0,.ptr p.next 0] hh _;refine QP D hq ⟨_,rfl,.nil⟩ (by show s.ef.length<_;omega) (by show s.cur.length<_;omega) (by show s.known.length<_;omega) λf R2 k2 T ai=>?_;have kq:=kk.trans k2 λ_ h=>h;have T:Dw _ _ f j.next r.next p.next ⟨iJ s (vl 2 0 0 5 [] 0),[],[]⟩ R2:=T;have nh:J.next<=f.next:=kq.next;rw[fE];have D3:=T.grow (lV.new f (.cells 3 1 true false [V.I 0]));have g3:(f.new (.cells 3 1 true false [V.I 0])).get f.next=_:=fi _ _;have aD:=kq.trans (T.yI (.cells 3 1 true false [V.I 0])) λ_ h=>h
 have E:∀l,f.next<=l->¬(F l\/l=h.next\/l=t.next)/\¬((∃c∈cs,c.lX l)\/l=u.next)/\∀i,¬comp j.next r.next p.next R2 i l:=λl d=>
  ⟨λhf=>by have:=T.fl l hf;omega,λhg=>by have:=(T.gx l hg).1;omega,λi hi=>by have:=(T.sig hi).2.1;omega⟩
 have a6:(f.new (.cells 3 1 true false [V.I 0])).next=f.next+1:=rfl;generalize f.new (.cells 3 1 true false [V.I 0])=U at*;have aE:=nT (o:=0) (v:=V.I 0) (nQ:=[V.I 0]) g3 (by simp) rfl rfl;rw[aE,ei];obtain⟨D4,k4⟩:=D3.other (lV.put (S:=λl=>l=f.next) (.cells 3 1 true false [V.I 0]) rfl (by omega)) λl e=>by subst e;exact E _ (jj _)
 have g4:=gq (.cells 3 1 true false [V.I 0]) (show f.next<U.next by omega);have a7:(U.put f.next (.cells 3 1 true false [V.I 0])).next=U.next:=rfl;have aF:=aD.trans k4 λ_ h=>h;generalize U.put f.next (.cells 3 1 true false [V.I 0])=g at*;rw[fE];have D5:=D4.grow (lV.new g (.cells 55 1 true false [V.nilFunc]));have aG:=aF.trans (D4.yI (.cells 55 1 true false [V.nilFunc])) λ_ h=>h;have g5:(g.new (.cells 55 1 true false [V.nilFunc])).get g.next=_:=fi _ _;have aH:=(fo (h:=g) (.cells 55 1 true false [V.nilFunc]) (l:=f.next) (by omega)).trans g4;have a8:(g.new (.cells 55 1 true false [V.nilFunc])).next=g.next+1:=rfl;generalize g.new (.cells 55 1 true false [V.nilFunc])=O at*;have aI:=nT (o:=0) (v:= .func fq [] [.ptr f.next 0,.ptr h.next 0]) (nQ:=[.func fq [] [.ptr f.next 0,.ptr h.next 0]]) g5 (by simp) rfl rfl;rw[aI,ei];obtain⟨D6,k6⟩:=D5.other (lV.put (S:=λl=>l=g.next) (.cells 55 1 true false [.func fq [] [.ptr f.next 0,.ptr h.next 0]]) rfl (by omega)) λl e=>by subst e;exact E _ (by omega)
 have g6:=gq (.cells 55 1 true false [.func fq [] [.ptr f.next 0,.ptr h.next 0]]) (show g.next<O.next by omega);have aJ:=(gI (.cells 55 1 true false [.func fq [] [.ptr f.next 0,.ptr h.next 0]]) (show g.next<O.next by omega) (m:=f.next) (by omega)).trans aH;have a9:(O.put g.next (.cells 55 1 true false [.func fq [] [.ptr f.next 0,.ptr h.next 0]])).next=O.next:=rfl;have aK:=aG.trans k6 λ_ h=>h;generalize O.put g.next (.cells 55 1 true false [.func fq [] [.ptr f.next 0,.ptr h.next 0]])=q at*;rw[fE];have D7:=D6.grow (lV.new q (.cells 61 1 true false [V.nilFunc]));have aL:=aK.trans (D6.yI (.cells 61 1 true false [V.nilFunc])) λ_ h=>h;have g7:(q.new (.cells 61 1 true false [V.nilFunc])).get q.next=_:=fi _ _;have aM:=(fo (h:=q) (.cells 61 1 true false [V.nilFunc]) (l:=f.next) (by omega)).trans aJ;have aN:=(fo (h:=q) (.cells 61 1 true false [V.nilFunc]) (l:=g.next) (by omega)).trans g6;have ba:(q.new (.cells 61 1 true false [V.nilFunc])).next=q.next+1:=rfl;generalize q.new (.cells 61 1 true false [V.nilFunc])=M at*;have aO:=nT (o:=0) (v:= .func fW [] [.ptr j.next 0,.ptr g.next 0,.ptr r.next 0]) (nQ:=[.func fW [] [.ptr j.next 0,.ptr g.next 0,.ptr r.next 0]]) g7 (by simp) rfl rfl;rw[aO,ei];obtain⟨D8,k8⟩:=D7.other (lV.put (S:=λl=>l=q.next) (.cells 61 1 true false [.func fW [] [.ptr j.next 0,.ptr g.next 0,.ptr r.next 0]]) rfl (by omega)) λl e=>by subst e;exact E _ (by omega)
 have g8:=gq (.cells 61 1 true false [.func fW [] [.ptr j.next 0,.ptr g.next 0,.ptr r.next 0]]) (show q.next<M.next by omega);have aP:=(gI (.cells 61 1 true false [.func fW [] [.ptr j.next 0,.ptr g.next 0,.ptr r.next 0]]) (show q.next<M.next by omega) (m:=f.next) (by omega)).trans aM;have aQ:=(gI (.cells 61 1 true false [.func fW [] [.ptr j.next 0,.ptr g.next 0,.ptr r.next 0]]) (show q.next<M.next by omega) (m:=g.next) (by omega)).trans aN;have bb:(M.put q.next (.cells 61 1 true false [.func fW [] [.ptr j.next 0,.ptr g.next 0,.ptr r.next 0]])).next=M.next:=rfl;have G:=aL.trans k8 λ_ h=>h;generalize M.put q.next (.cells 61 1 true false [.func fW [] [.ptr j.next 0,.ptr g.next 0,.ptr r.next 0]])=I at*;have aa:I.get h.next=some (.cells 24 1 true false [vo,vs,.I np]):=by rw[G.fk _ (.inl (.inr (.inl rfl)))];exact r1
 have ab:I.get u.next=some (.cells 30 1 true false [(V.I 0),(V.I 0),V.ee,V.ee,V.ee]):=by rw[G.fk _ (.inr (.inr rfl))];exact r2
 have au:I.get t.next=some (.cells 54 1 true false [.func fD [] [.ptr j.next 0,.ptr p.next 0]]):=by rw[G.fk _ (.inl (.inr (.inr rfl)))];exact N
 have q8:Dq (λl=>(F l\/l=h.next\/l=t.next)\/l=g.next\/l=q.next) (λl=>((∃c∈cs,c.lX l)\/l=u.next)\/l=f.next) I ⟨h.next,j.next,r.next,p.next,t.next,f.next,g.next,q.next⟩ ops ⟨iJ s (vl 2 0 0 5 [] 0),[],[]⟩ R2:=
  { D :=(D8.more (F':=λl=>(F l\/l=h.next\/l=t.next)\/l=g.next\/l=q.next) (λ_ h=> .inl h) λl d=>d.imp id λd=>⟨by omega,(E l (by omega)).2.2,(E l (by omega)).2.1⟩).VS λl d=>d.imp id λe=>by
      subst e;refine⟨by omega,?_,(E _ (jj _)).2.2⟩;rintro(A|A)
      ·exact(E _ (jj _)).1 A
      ·omega
    hq:=ai
    gl:= .inr rfl
    ga:=by
      have:(iJ s (vl 2 0 0 5 [] 0)).pos=0:=Z;rw[show((⟨iJ s (vl 2 0 0 5 [] 0),[],[]⟩:Dt).s.pos:Nat)=0 from this];exact aP
    fr:= .inl (.inr (.inl rfl))
    gr:=⟨vo,vs,.I np,aa,(aq.fk λl d=>G.fk l (.inl d)).mono λ_ h=> .inl h⟩
    fp:= .inl (.inr (.inr rfl))
    gp:=⟨_,au⟩
    fn:= .inr (.inl rfl)
    gn:=⟨_,aQ⟩
    fs:= .inr (.inr rfl)
    gs:=⟨_,g8⟩ }
 have aR:Sm (iJ s (vl 2 0 0 5 [] 0)) 10:=⟨by simp[iJ];omega,by simp[iJ];omega,by simp[iJ];omega,by simp[iJ,s4],by simp[iJ]⟩
 have aw:iC (eI .i64) (λl=>(F l\/l=h.next\/l=t.next)\/l=g.next\/l=q.next) I y vs:=(ar.fk λl d=>G.fk l (.inl d)).mono λ_ h=> .inl h;have K:Kp F (λl=>∃c∈cs,c.lX l) h I:=ah.trans ⟨G.next,λl d=>G.fk l (d.imp .inl .inl)⟩ λ_ h=>h;show ic CS (gh (J4 ⟨h.next,j.next,r.next,p.next,t.next,f.next,g.next,q.next⟩) []) I _;refine Fv q8 ho aR (by omega) λF9 bc R9 f9 R q9 n9=>?_
 refine zb2 (vo:=vo) (vs:=vs) (nv:= .I np) ho q9 (n9.le (by omega)) rfl (by rw[R.fk _ (.inl (.inl (.inr (.inl rfl))))];exact aa) ((aw.fk λl d=>R.fk l (.inl d)).mono f9) (.inl (.inr rfl)) (by show u.next≠f.next;omega)
  ⟨_,(R.fk _ (.inr ⟨.inl (.inr rfl),by show u.next≠f.next;omega⟩)).trans ab,rfl⟩ λW z DL t1 aS aT x aU=>?_
 have ax:(λl=>((∃c∈cs,c.lX l)\/l=u.next)\/l=f.next) u.next:= .inl (.inr rfl);have B:=R.trans aT f9;have ay:z.get u.next=some (.cells 30 1 true false [(V.I 0),(V.I 0),V.ee,V.ee,V.ee]):=by rw[B.fk _ (.inr ⟨ax,by show u.next≠f.next;omega⟩)];exact ab
 have aA:u.next<z.next:=by have:=B.next;omega
 have ow:gv [.I 1,.I 2,DL.vv,DL.vb,DL.vs]=true:=by simp only[eQ,x.D.ov.one,x.D.ob.one,x.D.os.one];rfl
 have aV:=FQ (n:=5) (ws:=[.I 1,.I 2,DL.vv,DL.vb,DL.vs]) ay rfl rfl ow;rw[aV,ei];have aW:=gq (.cells 30 1 true false [.I 1,.I 2,DL.vv,DL.vb,DL.vs]) aA;refine ed (BY aW rfl) ?_;have X:=x.D.gx u.next ax;have ne:∀l,W l\/Loc DL.vv l\/Loc DL.vb l\/Loc DL.vs l->l≠u.next:=by
  rintro l (d|d|d|d) rfl
  ·exact X.2.1 d
  ·exact X.2.2 3 d
  ·exact X.2.2 4 d
  ·exact X.2.2 5 d
 have Y:∀l,l≠u.next->(z.put u.next (.cells 30 1 true false [.I 1,.I 2,DL.vv,DL.vb,DL.vs])).get l=z.get l:=λl d=>gI _ aA λe=>d e.symm;have L:∀l,F l->W l:=λl d=>aS l (f9 l (.inl (.inl d)));have ac:∀l,F l->z.get l=h.get l:=λl d=>(B.fk l (.inl (.inl (.inl d)))).trans (K.fk l (.inl d));refine H (λl=>W l\/Loc DL.vv l\/Loc DL.vb l\/Loc DL.vs l) _ _ ⟨by have:=B.next;have:=K.next;show h.next<=z.next;omega,λl d=>(Y l (ne l (.inl (L l d)))).trans (ac l d),λl d=> .inl (L l d)⟩ ?_ ?_
 ·refine ⟨λl d=>?_,λi c hc=>?_,P.Dl⟩
  ·show l<z.next;rcases d with d|d|d|d
   ·exact x.D.fl l d
   ·exact(x.D.ov.wh d).2.1
   ·exact(x.D.ob.wh d).2.1
   ·exact(x.D.os.wh d).2.1
  ·have aX:=P.ok i c hc;have hm:=mK.2 ⟨i,hc⟩;have aB:∀l,c.lX l->l<h.next:=λl d=>(ag c hm l d).1;have kc:∀l,c.lX l->(z.put u.next (.cells 30 1 true false [.I 1,.I 2,DL.vv,DL.vb,DL.vs])).get l=h.get l:=λl d=>by
    have:=aB l d;rw[Y l (by omega),B.fk l (.inr ⟨.inl (.inl ⟨c,hm,d⟩),by show l≠f.next;omega⟩)];exact K.fk l (.inr ⟨c,hm,d⟩)
   refine c.mono (c.fk aX (λl d=>(Y l (ne l (.inl (L l d)))).trans (ac l d)) kc (by have:=B.next;have:=K.next;show h.next<=z.next;omega)) (λl d=> .inl (L l d)) λl d aY=>?_;have gx:=x.D.gx l (.inl (.inl ⟨c,hm,d⟩));rcases aY with A|A|A|A
   ·exact gx.2.1 A
   ·exact gx.2.2 3 A
   ·exact gx.2.2 4 A
   ·exact gx.2.2 5 A
 ·have eu:G8 ops y np=⟨1,2,t1.s.ef,t1.blocks,t1.s.eh⟩:=by
   rw[aU];unfold G8;rw[hs]
  rw[eu];have k2:∀l,W l\/Loc DL.vv l\/Loc DL.vb l\/Loc DL.vs l->(z.put u.next (.cells 30 1 true false [.I 1,.I 2,DL.vv,DL.vb,DL.vs])).get l=z.get l:=λl d=>Y l (ne l d);exact⟨DL.vv,DL.vb,DL.vs,rfl,(x.D.ov.Yo (λ_ h=> .inl h) λ_ h=> .inr (.inl h)).fk k2,(x.D.ob.Yo (λ_ h=> .inl h) λ_ h=> .inr (.inr (.inl h))).fk k2,(x.D.os.Yo (λ_ h=> .inl h) λ_ h=> .inr (.inr (.inr h))).fk k2⟩
end
