/- Parts. -/
import Derived.Test.YtbdcpiokodljaaaGreatDoorM22
set_option maxHeartbeats 4000000
namespace Go.Proofs.YtbdcpiokodljaaaGreatDoor.Hx
open Un
section
variable{F F' G G':Nat->Prop}{h h':Hp}{lu iE jP:Nat}{ops:List Int}{t t':Dt}{R R':Rw}{Q:fo}
theorem TB{x:Vl}{w:List V}(D:Dw F G h lu iE jP t R)(hq:R.cc=R.vc)(u:eV.rel F h x w)(hv:t.s.ef.length<1000)(hc:t.s.cur.length<1000)(hk:t.s.known.length<1000){K:Hp->Prop}
  (H:∀h' R',Kp F G h h'->Dw F G h' lu iE jP {t with s:=jh t.s x} R'->R'.cc=R'.vc->K h') :
  cP CS fy [.agg w,.ptr lu 0,.ptr jP 0] h λd b=>(h.next<=b.next/\yU (jK 3 1 1 (V.I 0) [(0,d)]) b λo e c=>((c.get b.next=some o/\O.beq o o=true)/\(ez (.ptr iE 0) c=some R.vk/\fg (eR 3 1 8 R.vk e c) λf g=>(c.next<=g.next/\fg (gJ 1 (.ptr iE 0) f g) λ_ n=>(g.next<=n.next/\K n))))):=by
 refine Vw D hq u hv hc λa R1 p q i j=>⟨p.next,?_⟩
 rw[<-j];have v:jK 3 1 1 (V.I 0) [(0,V.I t.s.ef.length)]=some (.cells 3 1 true false [V.I t.s.ef.length],λl=> .slice l 0 1):=rfl;rw[v,g0];have r:=q.grow (mw.new a (.cells 3 1 true false [V.I t.s.ef.length]));have y:ml (a.new (.cells 3 1 true false [V.I t.s.ef.length])) 1 (.slice a.next 0 1)=some (1,[V.I t.s.ef.length]):=px (k:=0) rfl;obtain⟨z,A,b,a1,a2,a3,B,C,E⟩:=r.zc0 (ys:=[t.s.ef.length]) y ⟨[V.I t.s.ef.length],[],rfl,rfl,trivial⟩ rfl rfl (by simp) (by show t.s.known.length+1<_;omega);have m:eR 3 1 8 R1.vk (.slice a.next 0 1) (a.new (.cells 3 1 true false [V.I t.s.ef.length]))=some (.val z A):=a1;refine⟨by grind[fh,O.kX],r.Bm,?_⟩;simp only[m,ei,a3];have I:=(q.Ai (.cells 3 1 true false [V.I t.s.ef.length])).trans C λ_ h=>h;exact⟨a2,B,H _ _ (p.trans I λ_ h=>h) E i⟩
theorem zaU{cs:List Pc}{y:List Int}{np:Int}{vo vs:V}(P:ej F h cs)(aj:ie (eI .i64) F h ops vo)(ak:ie (eI .i64) F h y vs)(ho:ops.length<9223372036854775808)
  (H:∀F' h' w,Sn F h F' h'->ej F' h' cs->eUn.rel F' h' (Ji ops y np) w->Q (.agg w) h'):cP CS oK [.agg [vo,vs,.I np]] h Q:=by
 refine Hl rfl rfl ?_;unfold zt;have o1:gv [vo,vs,.I np]=true:=by simp only[eo,aj.one,ak.one];rfl
 rw[FH o1,fE,fE];have n1:(h.new (.cells 24 1 true false [vo,vs,.I np])).next=h.next+1:=rfl;have g1:(h.new (.cells 24 1 true false [vo,vs,.I np])).get h.next=_:=fh _ _;have c1:IW h (h.new (.cells 24 1 true false [vo,vs,.I np])):=mw.new _ _;generalize h.new (.cells 24 1 true false [vo,vs,.I np])=u at*;have n2:(u.new (.cells 30 1 true false [(V.I 0),(V.I 0),V.ee,V.ee,V.ee])).next=u.next+1:=rfl;have g2:(u.new (.cells 30 1 true false [(V.I 0),(V.I 0),V.ee,V.ee,V.ee])).get u.next=_:=fh _ _;have c2:=c1.trans (mw.new u (.cells 30 1 true false [(V.I 0),(V.I 0),V.ee,V.ee,V.ee]));have al:=(fj (h:=u) (.cells 30 1 true false [(V.I 0),(V.I 0),V.ee,V.ee,V.ee]) (l:=h.next) (by omega)).trans g1;generalize u.new (.cells 30 1 true false [(V.I 0),(V.I 0),V.ee,V.ee,V.ee])=j at*;have eB:fW [(V.I 0),(V.I 0),V.ee,V.ee,V.ee] [(0,1),(1,1),(2,1),(3,1),(4,1)] [(0,(V.I 1)),(1,(V.I 2)),(4,V.ee)]=some (.agg [.I 1,.I 2,.ee,.ee,.ee]):=rfl;refine ed eB ?_;rw[fE];have n3:(j.new (.cells 30 1 true false [(V.I 0),(V.I 0),V.ee,V.ee,V.ee])).next=j.next+1:=rfl;have g3:(j.new (.cells 30 1 true false [(V.I 0),(V.I 0),V.ee,V.ee,V.ee])).get j.next=_:=fh _ _;have c3:=c2.trans (mw.new j (.cells 30 1 true false [(V.I 0),(V.I 0),V.ee,V.ee,V.ee]));have am:=(fj (h:=j) (.cells 30 1 true false [(V.I 0),(V.I 0),V.ee,V.ee,V.ee]) (l:=h.next) (by omega)).trans al;have an:=(fj (h:=j) (.cells 30 1 true false [(V.I 0),(V.I 0),V.ee,V.ee,V.ee]) (l:=u.next) (by omega)).trans g2;generalize j.new (.cells 30 1 true false [(V.I 0),(V.I 0),V.ee,V.ee,V.ee])=A at*;have l2:j.next<A.next:=by omega
 have e4:=Iu (n:=5) (ws:=[.I 1,.I 2,.ee,.ee,.ee]) g3 rfl rfl rfl;rw[e4,ei];have n4:(A.put j.next (.cells 30 1 true false [.I 1,.I 2,.ee,.ee,.ee])).next=A.next:=rfl;have g4:=gq (.cells 30 1 true false [.I 1,.I 2,.ee,.ee,.ee]) l2;have ae:=(gK (.cells 30 1 true false [.I 1,.I 2,.ee,.ee,.ee]) l2 (m:=h.next) (by omega)).trans am;have ao:=(gK (.cells 30 1 true false [.I 1,.I 2,.ee,.ee,.ee]) l2 (m:=u.next) (by omega)).trans an
 have c4:IW h (A.put j.next (.cells 30 1 true false [.I 1,.I 2,.ee,.ee,.ee])):=
  c3.trans' (mw.put (S:=λl=>l=j.next) (.cells 30 1 true false [.I 1,.I 2,.ee,.ee,.ee]) rfl l2) (by omega)
 generalize A.put j.next (.cells 30 1 true false [.I 1,.I 2,.ee,.ee,.ee])=r at*;refine ed (by rfl) (ed (ma ae rfl) ?_);show cP CS iQ [.I np,.I ((5:Nat):Int)] r _;refine MZ (by decide) (by decide) ?_;rw[fE];have g5:(r.new (.cells 22 1 true false [V.ee])).get r.next=_:=fh _ _;have n5:(r.new (.cells 22 1 true false [V.ee])).next=r.next+1:=rfl;have c5:=c4.trans (mw.new r (.cells 22 1 true false [V.ee]));have k5:∀l,l<r.next->(r.new (.cells 22 1 true false [V.ee])).get l=r.get l:=by grind[fj]
 generalize r.new (.cells 22 1 true false [V.ee])=p at*;have ap:fW [V.ee,(V.I 0),(V.I 0),V.ee,V.ee,(V.I 0)] [(0,1),(1,1),(2,1),(3,1),(4,1),(5,1)] []=some (.agg [V.ee,(V.I 0),(V.I 0),V.ee,V.ee,(V.I 0)]):=rfl;refine ed ap ?_;rw[fE];have g6:(p.new (.cells 43 1 true false [V.ee,(V.I 0),(V.I 0),V.ee,V.ee,(V.I 0)])).get p.next=_:=fh _ _;have n6:(p.new (.cells 43 1 true false [V.ee,(V.I 0),(V.I 0),V.ee,V.ee,(V.I 0)])).next=p.next+1:=rfl;have c6:=c5.trans (mw.new p (.cells 43 1 true false [V.ee,(V.I 0),(V.I 0),V.ee,V.ee,(V.I 0)]));have k6:∀l,l<p.next->(p.new (.cells 43 1 true false [V.ee,(V.I 0),(V.I 0),V.ee,V.ee,(V.I 0)])).get l=p.get l:=λl d=>fj _ d;generalize p.new (.cells 43 1 true false [V.ee,(V.I 0),(V.I 0),V.ee,V.ee,(V.I 0)])=h6 at*;have l5:p.next<h6.next:=by omega
 have e7:=Iu (n:=6) (ws:=[V.ee,(V.I 0),(V.I 0),V.ee,V.ee,(V.I 0)]) g6 rfl rfl rfl;rw[e7,ei,fE];have g7:=gq (.cells 43 1 true false [V.ee,(V.I 0),(V.I 0),V.ee,V.ee,(V.I 0)]) l5;have n7:(h6.put p.next (.cells 43 1 true false [V.ee,(V.I 0),(V.I 0),V.ee,V.ee,(V.I 0)])).next=h6.next:=rfl;have k7:∀l,l≠p.next->(h6.put p.next (.cells 43 1 true false [V.ee,(V.I 0),(V.I 0),V.ee,V.ee,(V.I 0)])).get l=h6.get l:=λl d=>gK _ l5 λe=>d e.symm
 have c7:IW h (h6.put p.next (.cells 43 1 true false [V.ee,(V.I 0),(V.I 0),V.ee,V.ee,(V.I 0)])):=
  c6.trans' (mw.put (S:=λl=>l=p.next) (.cells 43 1 true false [V.ee,(V.I 0),(V.I 0),V.ee,V.ee,(V.I 0)]) rfl l5) λl d e=>by have:=c4.next;omega
 generalize h6.put p.next (.cells 43 1 true false [V.ee,(V.I 0),(V.I 0),V.ee,V.ee,(V.I 0)])=t at*;have g8:(t.new (.cells 46 1 true false [V.nilFunc])).get t.next=_:=fh _ _;have n8:(t.new (.cells 46 1 true false [V.nilFunc])).next=t.next+1:=rfl;have c8:=c7.trans (mw.new t (.cells 46 1 true false [V.nilFunc]));have k8:∀l,l<t.next->(t.new (.cells 46 1 true false [V.nilFunc])).get l=t.get l:=λl d=>fj _ d;generalize t.new (.cells 46 1 true false [V.nilFunc])=h8 at*;have l7:t.next<h8.next:=by omega
 have e9:=pB (o:=0) (v:= .func fy [] [.ptr j.next 0,.ptr p.next 0]) (qj:=[.func fy [] [.ptr j.next 0,.ptr p.next 0]]) g8 (by simp) rfl rfl;rw[e9,ei];have g9:=gq (.cells 46 1 true false [.func fy [] [.ptr j.next 0,.ptr p.next 0]]) l7;have n9:(h8.put t.next (.cells 46 1 true false [.func fy [] [.ptr j.next 0,.ptr p.next 0]])).next=h8.next:=rfl;have R:∀l,l≠t.next->(h8.put t.next (.cells 46 1 true false [.func fy [] [.ptr j.next 0,.ptr p.next 0]])).get l=h8.get l:=λl d=>gK _ l7 λe=>d e.symm
 have c9:IW h (h8.put t.next (.cells 46 1 true false [.func fy [] [.ptr j.next 0,.ptr p.next 0]])):=
  c8.trans' (mw.put (S:=λl=>l=t.next) (.cells 46 1 true false [.func fy [] [.ptr j.next 0,.ptr p.next 0]]) rfl l7) λl d e=>by have:=c7.next;omega
 generalize h8.put t.next (.cells 46 1 true false [.func fy [] [.ptr j.next 0,.ptr p.next 0]])=J at*;have C:∀l,l≠p.next->l≠t.next->l<r.next->J.get l=r.get l:=λl a b c=>by rw[R l b,k8 l (by omega),k7 l a,k6 l (by omega),k5 l c]
 have nn:u.next=h.next+1/\j.next=h.next+2/\r.next=h.next+3/\p.next=h.next+4/\t.next=h.next+5/\J.next=h.next+6:=by omega
 obtain⟨m1,m2,m4,m5,m7,m9⟩:=nn;have r1:J.get h.next=some (.cells 24 1 true false [vo,vs,.I np]):=by rw[C _ (by omega) (by omega) (by omega)];exact ae
 have r2:J.get u.next=some (.cells 30 1 true false [(V.I 0),(V.I 0),V.ee,V.ee,V.ee]):=by rw[C _ (by omega) (by omega) (by omega)];exact ao
 have r3:J.get j.next=some (.cells 30 1 true false [.I 1,.I 2,.ee,.ee,.ee]):=by rw[C _ (by omega) (by omega) (by omega)];exact g4
 have r4:J.get r.next=some (.cells 22 1 true false [V.ee]):=by rw[R _ (by omega),k8 _ (by omega),k7 _ (by omega),k6 _ (by omega)];exact g5
 have r5:J.get p.next=some (.cells 43 1 true false [V.ee,(V.I 0),(V.I 0),V.ee,V.ee,(V.I 0)]):=by rw[R _ (by omega),k8 _ (by omega)];exact g7
 have ag:∀c∈cs,∀l,c.mM l->l<h.next/\¬F l:=λc hc l d=>by
  obtain⟨i,hi⟩:=nT.1 hc;exact c.Pl (P.ok i c hi) l d
 have aC:∀i l,comp j.next r.next p.next ⟨.ee,.ee,.ee,.ee,.ee,.ee,.ee⟩ i l->h.next+2<=l/\l<=h.next+4:=by
  intro i l d
  match i,d with
  |0,d=>have:l=j.next:=d;omega
  |1,d=>have:l=r.next:=d;omega
  |2,d=>have:l=p.next:=d;omega
  |3,d=>exact d.elim
  |4,d=>exact d.elim
  |5,d=>exact d.elim
  |6,d=>exact d.elim
  |7,d=>exact d.elim
 have D9:Dw (λl=>F l\/l=h.next\/l=t.next) (λl=>(∃c∈cs,c.mM l)\/l=u.next) J j.next r.next p.next ⟨⟨[],[],[],[],0⟩,[],[]⟩ ⟨.ee,.ee,.ee,.ee,.ee,.ee,.ee⟩:=
  { fl := λl d=>by rcases d with d|rfl|rfl;have:=P.fl l d;omega;omega;omega
    gu:=r3
    gk:=r4
    gb:=r5
    nu:=⟨by omega,by rintro(d|d|d);have:=P.fl _ d;omega;omega;omega⟩
    nk:=⟨by omega,by rintro(d|d|d);have:=P.fl _ d;omega;omega;omega⟩
    nb:=⟨by omega,by rintro(d|d|d);have:=P.fl _ d;omega;omega;omega⟩
    ov:= .nil
    ob:= .nil
    os:= .nil
    ok:= .nil
    oc:= .nil
    sp:= .nil
    kc:=λ_ h=>h.elim
    gx := λl d=>by
      have hb:(l<h.next/\¬F l)\/l=u.next:=by
        rcases d with⟨c,hc,d⟩|d
        ·exact .inl (ag c hc l d)
        ·exact .inr d
      refine⟨by omega,?_,λi hi=>?_⟩
      ·rintro (A|A|A)
       ·rcases hb with r|r
        ·exact r.2 A
        ·have:=P.fl _ A;omega
       ·omega
       ·omega
      ·have:=aC i l hi;omega}
 have ah:Kp F (λl=>∃c∈cs,c.mM l) h J:=⟨c9.next,λl d=>c9.fi l (by
  rcases d with d|⟨c,hc,d⟩
  ·exact P.fl l d
  ·exact(ag c hc l d).1) λh=>h⟩
 have N:J.get t.next=some (.cells 46 1 true false [.func fy [] [.ptr j.next 0,.ptr p.next 0]]):=g9;clear e4 e7 e9 eB ap g1 al am ae g2 an ao g3 g4 g5 g6 g7 g8 g9 k5 k6 k7 k8 R C c1 c2 c3 c4 c5 c6 c7 c8 r3 r4 r5;have aq:ie (eI .i64) (λl=>F l\/l=h.next\/l=t.next) J ops vo:=(aj.fi λl d=>ah.fi l (.inl d)).mono λ_ h=> .inl h;have ar:ie (eI .i64) (λl=>F l\/l=h.next\/l=t.next) J y vs:=(ak.fi λl d=>ah.fi l (.inl d)).mono λ_ h=> .inl h;have aX:=Hh np (m:=5) (by decide)
 refine DI (λk x1 x2 x3 x4 x5 x6 x7 x8 hh=>∃(R':Rw) (i:Nat) (s:Ds),x1 = .ptr h.next 0/\x2 = .ptr u.next 0/\x3 = .ptr j.next 0/\x4 = .I (mV np 5:Nat)/\x5 = .ptr r.next 0/\x6 = .ptr p.next 0/\x7 = .ptr t.next 0/\x8 = .I i/\
  i+k=mV np 5/\Kp (λl=>F l\/l=h.next\/l=t.next) (λl=>(∃c∈cs,c.mM l)\/l=u.next) J hh/\Dw (λl=>F l\/l=h.next\/l=t.next) (λl=>(∃c∈cs,c.mM l)\/l=u.next) hh j.next r.next p.next ⟨s,[],[]⟩ R'/\R'.cc=R'.vc/\
  s.ef.length=i/\s.cur.length=i/\s.known.length=i/\s.eh=[]/\params k i s=params (mV np 5) 0 ⟨[],[],[],[],0⟩/\s.pos=0) ?_ (k:=mV np 5)
  ⟨_,0,⟨[],[],[],[],0⟩,rfl,rfl,rfl,rfl,rfl,rfl,rfl,rfl,by omega,Kp.refl _ _ _,D9,rfl,rfl,rfl,rfl,rfl,rfl,rfl⟩
 rintro k x1 x2 x3 x4 x5 x6 x7 x8 hh ⟨R1,i,s,rfl,rfl,rfl,rfl,rfl,rfl,rfl,rfl,aY,kk,D,hq,s1,s2,s3,s4,hp,Z⟩;unfold wc;have Aq:ez (.ptr t.next 0) hh=some (.func fy [] [.ptr j.next 0,.ptr p.next 0]):=ma (by rw[kk.fi _ (.inl (.inr (.inr rfl)))];exact N) rfl;by_cases Pu:i<mV np 5
 ·refine gy ?_;refine ed D.Bm (ed Aq ?_);have eP:∀i:Nat,fW [(V.I 0),(V.I 0),(V.I 0),(V.I 0),V.ee,(V.I 0)] [(0,1),(1,1),(2,1),(3,1),(4,1),(5,1)] [(0,(V.I 1)),(3,.I (i:Nat))]=some (.agg (mW (vl 1 0 0 (i:Nat) [] 0) .ee)):=λ_=>rfl;refine ed (eP _) ?_;show cP CS fy [.agg (mW (vl 1 0 0 (i:Nat) [] 0) .ee),.ptr j.next 0,.ptr p.next 0] hh _;refine TB D hq ⟨_,rfl,.nil⟩ (by show s.ef.length<_;omega) (by show s.cur.length<_;omega) (by show s.known.length<_;omega) λf R2 k2 T ai=>?_;refine fI ?_;obtain⟨k',rfl⟩:∃k',k=k' + 1:=⟨k-1,by omega⟩
  exact⟨k',by omega,R2,i+1,jh s (vl 1 0 0 (i:Nat) [] 0),rfl,rfl,rfl,rfl,rfl,rfl,rfl,rfl,by omega,kk.trans k2 λ_ h=>h,T,ai,by simp[jh,s1],by simp[jh,s2],by simp[jh,s3],s4,by rw[<-hp];rfl,Z⟩
 refine iI ?_;obtain rfl:k=0:=by omega
 have hs:s=params (mV np 5) 0 ⟨[],[],[],[],0⟩:=hp;refine ed D.Bm (ed Aq ?_);have eP:fW [(V.I 0),(V.I 0),(V.I 0),(V.I 0),V.ee,(V.I 0)] [(0,1),(1,1),(2,1),(3,1),(4,1),(5,1)] [(0,(V.I 2)),(3,(V.I 5))]=some (.agg (mW (vl 2 0 0 5 [] 0) .ee)):=rfl;refine ed eP ?_;show cP CS fy [.agg (mW (vl 2 0 0 5 [] 0) .ee),.ptr j.next 0,.ptr p.next 0] hh _;refine TB D hq ⟨_,rfl,.nil⟩ (by show s.ef.length<_;omega) (by show s.cur.length<_;omega) (by show s.known.length<_;omega) λf R2 k2 T ai=>?_;have kq:=kk.trans k2 λ_ h=>h;have T:Dw _ _ f j.next r.next p.next ⟨jh s (vl 2 0 0 5 [] 0),[],[]⟩ R2:=T;have nh:J.next<=f.next:=kq.next;rw[fE];have D3:=T.grow (mw.new f (.cells 3 1 true false [V.I 0]));have g3:(f.new (.cells 3 1 true false [V.I 0])).get f.next=_:=fh _ _;have aD:=kq.trans (T.Ai (.cells 3 1 true false [V.I 0])) λ_ h=>h
 have E:∀l,f.next<=l->¬(F l\/l=h.next\/l=t.next)/\¬((∃c∈cs,c.mM l)\/l=u.next)/\∀i,¬comp j.next r.next p.next R2 i l:=λl d=>
  ⟨λhf=>by have:=T.fl l hf;omega,λhg=>by have:=(T.gx l hg).1;omega,λi hi=>by have:=(T.sig hi).2.1;omega⟩
 have aZ:(f.new (.cells 3 1 true false [V.I 0])).next=f.next+1:=rfl;generalize f.new (.cells 3 1 true false [V.I 0])=U at*;have aE:=pB (o:=0) (v:=V.I 0) (qj:=[V.I 0]) g3 (by simp) rfl rfl;rw[aE,ei];obtain⟨D4,k4⟩:=D3.other (mw.put (S:=λl=>l=f.next) (.cells 3 1 true false [V.I 0]) rfl (by omega)) λl e=>by subst e;exact E _ (ju _)
 have g4:=gq (.cells 3 1 true false [V.I 0]) (show f.next<U.next by omega);have a4:(U.put f.next (.cells 3 1 true false [V.I 0])).next=U.next:=rfl;have aF:=aD.trans k4 λ_ h=>h;generalize U.put f.next (.cells 3 1 true false [V.I 0])=g at*;rw[fE];have D5:=D4.grow (mw.new g (.cells 47 1 true false [V.nilFunc]));have aG:=aF.trans (D4.Ai (.cells 47 1 true false [V.nilFunc])) λ_ h=>h;have g5:(g.new (.cells 47 1 true false [V.nilFunc])).get g.next=_:=fh _ _;have aH:=(fj (h:=g) (.cells 47 1 true false [V.nilFunc]) (l:=f.next) (by omega)).trans g4;have a5:(g.new (.cells 47 1 true false [V.nilFunc])).next=g.next+1:=rfl;generalize g.new (.cells 47 1 true false [V.nilFunc])=O at*;have aI:=pB (o:=0) (v:= .func fm [] [.ptr f.next 0,.ptr h.next 0]) (qj:=[.func fm [] [.ptr f.next 0,.ptr h.next 0]]) g5 (by simp) rfl rfl;rw[aI,ei];obtain⟨D6,k6⟩:=D5.other (mw.put (S:=λl=>l=g.next) (.cells 47 1 true false [.func fm [] [.ptr f.next 0,.ptr h.next 0]]) rfl (by omega)) λl e=>by subst e;exact E _ (by omega)
 have g6:=gq (.cells 47 1 true false [.func fm [] [.ptr f.next 0,.ptr h.next 0]]) (show g.next<O.next by omega);have aJ:=(gK (.cells 47 1 true false [.func fm [] [.ptr f.next 0,.ptr h.next 0]]) (show g.next<O.next by omega) (m:=f.next) (by omega)).trans aH;have a6:(O.put g.next (.cells 47 1 true false [.func fm [] [.ptr f.next 0,.ptr h.next 0]])).next=O.next:=rfl;have aK:=aG.trans k6 λ_ h=>h;generalize O.put g.next (.cells 47 1 true false [.func fm [] [.ptr f.next 0,.ptr h.next 0]])=q at*;rw[fE];have D7:=D6.grow (mw.new q (.cells 53 1 true false [V.nilFunc]));have aL:=aK.trans (D6.Ai (.cells 53 1 true false [V.nilFunc])) λ_ h=>h;have g7:(q.new (.cells 53 1 true false [V.nilFunc])).get q.next=_:=fh _ _;have aM:=(fj (h:=q) (.cells 53 1 true false [V.nilFunc]) (l:=f.next) (by omega)).trans aJ;have aN:=(fj (h:=q) (.cells 53 1 true false [V.nilFunc]) (l:=g.next) (by omega)).trans g6;have a7:(q.new (.cells 53 1 true false [V.nilFunc])).next=q.next+1:=rfl;generalize q.new (.cells 53 1 true false [V.nilFunc])=M at*;have aO:=pB (o:=0) (v:= .func fY [] [.ptr j.next 0,.ptr g.next 0,.ptr r.next 0]) (qj:=[.func fY [] [.ptr j.next 0,.ptr g.next 0,.ptr r.next 0]]) g7 (by simp) rfl rfl;rw[aO,ei];obtain⟨D8,k8⟩:=D7.other (mw.put (S:=λl=>l=q.next) (.cells 53 1 true false [.func fY [] [.ptr j.next 0,.ptr g.next 0,.ptr r.next 0]]) rfl (by omega)) λl e=>by subst e;exact E _ (by omega)
 have g8:=gq (.cells 53 1 true false [.func fY [] [.ptr j.next 0,.ptr g.next 0,.ptr r.next 0]]) (show q.next<M.next by omega);have g48:=(gK (.cells 53 1 true false [.func fY [] [.ptr j.next 0,.ptr g.next 0,.ptr r.next 0]]) (show q.next<M.next by omega) (m:=f.next) (by omega)).trans aM;have aP:=(gK (.cells 53 1 true false [.func fY [] [.ptr j.next 0,.ptr g.next 0,.ptr r.next 0]]) (show q.next<M.next by omega) (m:=g.next) (by omega)).trans aN;have a8:(M.put q.next (.cells 53 1 true false [.func fY [] [.ptr j.next 0,.ptr g.next 0,.ptr r.next 0]])).next=M.next:=rfl;have G:=aL.trans k8 λ_ h=>h;generalize M.put q.next (.cells 53 1 true false [.func fY [] [.ptr j.next 0,.ptr g.next 0,.ptr r.next 0]])=I at*;have aa:I.get h.next=some (.cells 24 1 true false [vo,vs,.I np]):=by rw[G.fi _ (.inl (.inr (.inl rfl)))];exact r1
 have ab:I.get u.next=some (.cells 30 1 true false [(V.I 0),(V.I 0),V.ee,V.ee,V.ee]):=by rw[G.fi _ (.inr (.inr rfl))];exact r2
 have au:I.get t.next=some (.cells 46 1 true false [.func fy [] [.ptr j.next 0,.ptr p.next 0]]):=by rw[G.fi _ (.inl (.inr (.inr rfl)))];exact N
 have q8:Dq (λl=>(F l\/l=h.next\/l=t.next)\/l=g.next\/l=q.next) (λl=>((∃c∈cs,c.mM l)\/l=u.next)\/l=f.next) I ⟨h.next,j.next,r.next,p.next,t.next,f.next,g.next,q.next⟩ ops ⟨jh s (vl 2 0 0 5 [] 0),[],[]⟩ R2:=
  { D :=(D8.more (F':=λl=>(F l\/l=h.next\/l=t.next)\/l=g.next\/l=q.next) (λ_ h=> .inl h) λl d=>d.imp id λd=>⟨by omega,(E l (by omega)).2.2,(E l (by omega)).2.1⟩).Z7 λl d=>d.imp id λe=>by
      subst e;refine⟨by omega,?_,(E _ (ju _)).2.2⟩;rintro(A|A)
      ·exact(E _ (ju _)).1 A
      ·omega
    hq:=ai
    gl:= .inr rfl
    ga:=by
      have:(jh s (vl 2 0 0 5 [] 0)).pos=0:=Z;rw[show((⟨jh s (vl 2 0 0 5 [] 0),[],[]⟩:Dt).s.pos:Nat)=0 from this];exact g48
    fr:= .inl (.inr (.inl rfl))
    gr:=⟨vo,vs,.I np,aa,(aq.fi λl d=>G.fi l (.inl d)).mono λ_ h=> .inl h⟩
    fp:= .inl (.inr (.inr rfl))
    gp:=⟨_,au⟩
    fn:= .inr (.inl rfl)
    gn:=⟨_,aP⟩
    fs:= .inr (.inr rfl)
    gs:=⟨_,g8⟩ }
 have aQ:Sm (jh s (vl 2 0 0 5 [] 0)) 10:=⟨by simp[jh];omega,by simp[jh];omega,by simp[jh];omega,by simp[jh,s4],by simp[jh]⟩
 have aw:ie (eI .i64) (λl=>(F l\/l=h.next\/l=t.next)\/l=g.next\/l=q.next) I y vs:=(ar.fi λl d=>G.fi l (.inl d)).mono λ_ h=> .inl h;have K:Kp F (λl=>∃c∈cs,c.mM l) h I:=ah.trans ⟨G.next,λl d=>G.fi l (d.imp .inl .inl)⟩ λ_ h=>h;show hV CS (gi (LD ⟨h.next,j.next,r.next,p.next,t.next,f.next,g.next,q.next⟩) []) I _;refine HB q8 ho aQ (by omega) λF9 a9 R9 f9 R q9 n9=>?_
 refine zfn (vo:=vo) (vs:=vs) (nv:= .I np) ho q9 (n9.le (by omega)) rfl (by rw[R.fi _ (.inl (.inl (.inr (.inl rfl))))];exact aa) ((aw.fi λl d=>R.fi l (.inl d)).mono f9) (.inl (.inr rfl)) (by show u.next≠f.next;omega)
  ⟨_,(R.fi _ (.inr ⟨.inl (.inr rfl),by show u.next≠f.next;omega⟩)).trans ab,rfl⟩ λW z Ga t1 aR Po x aS=>?_
 have ax:(λl=>((∃c∈cs,c.mM l)\/l=u.next)\/l=f.next) u.next:= .inl (.inr rfl);have B:=R.trans Po f9;have ay:z.get u.next=some (.cells 30 1 true false [(V.I 0),(V.I 0),V.ee,V.ee,V.ee]):=by rw[B.fi _ (.inr ⟨ax,by show u.next≠f.next;omega⟩)];exact ab
 have aA:u.next<z.next:=by have:=B.next;omega
 have ow:gv [.I 1,.I 2,Ga.vv,Ga.vb,Ga.vs]=true:=by simp only[eo,x.D.ov.one,x.D.ob.one,x.D.os.one];rfl
 have aT:=Iu (n:=5) (ws:=[.I 1,.I 2,Ga.vv,Ga.vb,Ga.vs]) ay rfl rfl ow;rw[aT,ei];have aU:=gq (.cells 30 1 true false [.I 1,.I 2,Ga.vv,Ga.vb,Ga.vs]) aA;refine ed (DB aU rfl) ?_;have X:=x.D.gx u.next ax;have ne:∀l,W l\/Loc Ga.vv l\/Loc Ga.vb l\/Loc Ga.vs l->l≠u.next:=by
  rintro l (d|d|d|d) rfl
  ·exact X.2.1 d
  ·exact X.2.2 3 d
  ·exact X.2.2 4 d
  ·exact X.2.2 5 d
 have Y:∀l,l≠u.next->(z.put u.next (.cells 30 1 true false [.I 1,.I 2,Ga.vv,Ga.vb,Ga.vs])).get l=z.get l:=λl d=>gK _ aA λe=>d e.symm;have L:∀l,F l->W l:=λl d=>aR l (f9 l (.inl (.inl d)));have ac:∀l,F l->z.get l=h.get l:=λl d=>(B.fi l (.inl (.inl (.inl d)))).trans (K.fi l (.inl d));refine H (λl=>W l\/Loc Ga.vv l\/Loc Ga.vb l\/Loc Ga.vs l) _ _ ⟨by have:=B.next;have:=K.next;show h.next<=z.next;omega,λl d=>(Y l (ne l (.inl (L l d)))).trans (ac l d),λl d=> .inl (L l d)⟩ ?_ ?_
 ·refine ⟨λl d=>?_,λi c hc=>?_,P.Fg⟩
  ·show l<z.next;rcases d with d|d|d|d
   ·exact x.D.fl l d
   ·exact(x.D.ov.xi d).2.1
   ·exact(x.D.ob.xi d).2.1
   ·exact(x.D.os.xi d).2.1
  ·have aV:=P.ok i c hc;have hm:=nT.2 ⟨i,hc⟩;have aB:∀l,c.mM l->l<h.next:=λl d=>(ag c hm l d).1;have kc:∀l,c.mM l->(z.put u.next (.cells 30 1 true false [.I 1,.I 2,Ga.vv,Ga.vb,Ga.vs])).get l=h.get l:=λl d=>by
    have:=aB l d;rw[Y l (by omega),B.fi l (.inr ⟨.inl (.inl ⟨c,hm,d⟩),by show l≠f.next;omega⟩)];exact K.fi l (.inr ⟨c,hm,d⟩)
   refine c.mono (c.fi aV (λl d=>(Y l (ne l (.inl (L l d)))).trans (ac l d)) kc (by have:=B.next;have:=K.next;show h.next<=z.next;omega)) (λl d=> .inl (L l d)) λl d aW=>?_;have gx:=x.D.gx l (.inl (.inl ⟨c,hm,d⟩));rcases aW with A|A|A|A
   ·exact gx.2.1 A
   ·exact gx.2.2 3 A
   ·exact gx.2.2 4 A
   ·exact gx.2.2 5 A
 ·have eu:Ji ops y np=⟨1,2,t1.s.ef,t1.blocks,t1.s.eh⟩:=by
   rw[aS];unfold Ji;rw[hs]
  rw[eu];have k2:∀l,W l\/Loc Ga.vv l\/Loc Ga.vb l\/Loc Ga.vs l->(z.put u.next (.cells 30 1 true false [.I 1,.I 2,Ga.vv,Ga.vb,Ga.vs])).get l=z.get l:=λl d=>Y l (ne l d);exact⟨Ga.vv,Ga.vb,Ga.vs,rfl,(x.D.ov.slR (λ_ h=> .inl h) λ_ h=> .inr (.inl h)).fi k2,(x.D.ob.slR (λ_ h=> .inl h) λ_ h=> .inr (.inr (.inl h))).fi k2,(x.D.os.slR (λ_ h=> .inl h) λ_ h=> .inr (.inr (.inr h))).fi k2⟩
end
