/- Parts. -/
import Derived.Test.YtflkbfabonggkaaGreatDoorM22
set_option maxHeartbeats 4000000
namespace Go.Proofs.YtflkbfabonggkaaGreatDoor.Hx
open Un
section
variable{F F' G G':Nat->Prop}{h h':Hp}{lu iq jw:Nat}{ops:List Int}{t t':Dt}{R R':Rw}{Q:ft}
theorem Q3{x:Vl}{w:List V}(D:Dw F G h lu iq jw t R)(hq:R.cc=R.vc)(u:eV.rel F h x w)(hv:t.s.ef.length<1000)(hc:t.s.cur.length<1000)(hk:t.s.known.length<1000){K:Hp->Prop}
  (H:∀h' R',Kp F G h h'->Dw F G h' lu iq jw {t with s:=iP t.s x} R'->R'.cc=R'.vc->K h') :
  cP CS fu [.agg w,.ptr lu 0,.ptr jw 0] h λd b=>(h.next<=b.next/\yn (jr 3 1 1 (V.I 0) [(0,d)]) b λo e c=>((c.get b.next=some o/\O.beq o o=true)/\(ez (.ptr iq 0) c=some R.vk/\fi (eR 3 1 8 R.vk e c) λf g=>(c.next<=g.next/\fi (gI 1 (.ptr iq 0) f g) λ_ n=>(g.next<=n.next/\K n))))):=by
 refine Ux D hq u hv hc λa R1 p q i j=>⟨p.next,?_⟩
 rw[<-j];have v:jr 3 1 1 (V.I 0) [(0,V.I t.s.ef.length)]=some (.cells 3 1 true false [V.I t.s.ef.length],λl=> .slice l 0 1):=rfl;rw[v,gR];have r:=q.grow (lN.new a (.cells 3 1 true false [V.I t.s.ef.length]));have y:lK (a.new (.cells 3 1 true false [V.I t.s.ef.length])) 1 (.slice a.next 0 1)=some (1,[V.I t.s.ef.length]):=nV (k:=0) rfl;obtain⟨z,A,b,a1,a2,a3,B,C,E⟩:=r.zct (ys:=[t.s.ef.length]) y ⟨[V.I t.s.ef.length],[],rfl,rfl,trivial⟩ rfl rfl (by simp) (by show t.s.known.length+1<_;omega);have m:eR 3 1 8 R1.vk (.slice a.next 0 1) (a.new (.cells 3 1 true false [V.I t.s.ef.length]))=some (.val z A):=a1;refine⟨by grind[fg,O.kF],r.AD,?_⟩;simp only[m,ei,a3];have I:=(q.zO (.cells 3 1 true false [V.I t.s.ef.length])).trans C λ_ h=>h;exact⟨a2,B,H _ _ (p.trans I λ_ h=>h) E i⟩
theorem zar{cs:List Pc}{y:List Int}{np:Int}{vo vs:V}(P:ej F h cs)(ai:iy (eI .i64) F h ops vo)(aj:iy (eI .i64) F h y vs)(ho:ops.length<9223372036854775808)
  (H:∀F' h' w,Sn F h F' h'->ej F' h' cs->eUn.rel F' h' (Is ops y np) w->Q (.agg w) h'):cP CS nq [.agg [vo,vs,.I np]] h Q:=by
 refine FN rfl rfl ?_;unfold yV;have o1:gj [vo,vs,.I np]=true:=by simp only[ey,ai.one,aj.one];rfl
 rw[E7 o1,fx,fx];have n1:(h.new (.cells 24 1 true false [vo,vs,.I np])).next=h.next+1:=rfl;have g1:(h.new (.cells 24 1 true false [vo,vs,.I np])).get h.next=_:=fg _ _;have c1:Im h (h.new (.cells 24 1 true false [vo,vs,.I np])):=lN.new _ _;generalize h.new (.cells 24 1 true false [vo,vs,.I np])=u at*;have n2:(u.new (.cells 30 1 true false [(V.I 0),(V.I 0),V.ee,V.ee,V.ee])).next=u.next+1:=rfl;have g2:(u.new (.cells 30 1 true false [(V.I 0),(V.I 0),V.ee,V.ee,V.ee])).get u.next=_:=fg _ _;have c2:=c1.trans (lN.new u (.cells 30 1 true false [(V.I 0),(V.I 0),V.ee,V.ee,V.ee]));have ak:=(fj (h:=u) (.cells 30 1 true false [(V.I 0),(V.I 0),V.ee,V.ee,V.ee]) (l:=h.next) (by omega)).trans g1;generalize u.new (.cells 30 1 true false [(V.I 0),(V.I 0),V.ee,V.ee,V.ee])=j at*;have eB:fV [(V.I 0),(V.I 0),V.ee,V.ee,V.ee] [(0,1),(1,1),(2,1),(3,1),(4,1)] [(0,(V.I 1)),(1,(V.I 2)),(4,V.ee)]=some (.agg [.I 1,.I 2,.ee,.ee,.ee]):=rfl;refine ed eB ?_;rw[fx];have n3:(j.new (.cells 30 1 true false [(V.I 0),(V.I 0),V.ee,V.ee,V.ee])).next=j.next+1:=rfl;have g3:(j.new (.cells 30 1 true false [(V.I 0),(V.I 0),V.ee,V.ee,V.ee])).get j.next=_:=fg _ _;have c3:=c2.trans (lN.new j (.cells 30 1 true false [(V.I 0),(V.I 0),V.ee,V.ee,V.ee]));have al:=(fj (h:=j) (.cells 30 1 true false [(V.I 0),(V.I 0),V.ee,V.ee,V.ee]) (l:=h.next) (by omega)).trans ak;have am:=(fj (h:=j) (.cells 30 1 true false [(V.I 0),(V.I 0),V.ee,V.ee,V.ee]) (l:=u.next) (by omega)).trans g2;generalize j.new (.cells 30 1 true false [(V.I 0),(V.I 0),V.ee,V.ee,V.ee])=A at*;have l2:j.next<A.next:=by omega
 have e4:=G1 (n:=5) (ws:=[.I 1,.I 2,.ee,.ee,.ee]) g3 rfl rfl rfl;rw[e4,ei];have n4:(A.put j.next (.cells 30 1 true false [.I 1,.I 2,.ee,.ee,.ee])).next=A.next:=rfl;have g4:=gg (.cells 30 1 true false [.I 1,.I 2,.ee,.ee,.ee]) l2;have ac:=(gB (.cells 30 1 true false [.I 1,.I 2,.ee,.ee,.ee]) l2 (m:=h.next) (by omega)).trans al;have an:=(gB (.cells 30 1 true false [.I 1,.I 2,.ee,.ee,.ee]) l2 (m:=u.next) (by omega)).trans am
 have c4:Im h (A.put j.next (.cells 30 1 true false [.I 1,.I 2,.ee,.ee,.ee])):=
  c3.trans' (lN.put (S:=λl=>l=j.next) (.cells 30 1 true false [.I 1,.I 2,.ee,.ee,.ee]) rfl l2) (by omega)
 generalize A.put j.next (.cells 30 1 true false [.I 1,.I 2,.ee,.ee,.ee])=r at*;refine ed (by rfl) (ed (lE ac rfl) ?_);show cP CS iI [.I np,.I ((5:Nat):Int)] r _;refine Ml (by decide) (by decide) ?_;rw[fx];have g5:(r.new (.cells 22 1 true false [V.ee])).get r.next=_:=fg _ _;have n5:(r.new (.cells 22 1 true false [V.ee])).next=r.next+1:=rfl;have c5:=c4.trans (lN.new r (.cells 22 1 true false [V.ee]));have k5:∀l,l<r.next->(r.new (.cells 22 1 true false [V.ee])).get l=r.get l:=by grind[fj]
 generalize r.new (.cells 22 1 true false [V.ee])=p at*;have ao:fV [V.ee,(V.I 0),(V.I 0),V.ee,V.ee,(V.I 0)] [(0,1),(1,1),(2,1),(3,1),(4,1),(5,1)] []=some (.agg [V.ee,(V.I 0),(V.I 0),V.ee,V.ee,(V.I 0)]):=rfl;refine ed ao ?_;rw[fx];have g6:(p.new (.cells 47 1 true false [V.ee,(V.I 0),(V.I 0),V.ee,V.ee,(V.I 0)])).get p.next=_:=fg _ _;have n6:(p.new (.cells 47 1 true false [V.ee,(V.I 0),(V.I 0),V.ee,V.ee,(V.I 0)])).next=p.next+1:=rfl;have c6:=c5.trans (lN.new p (.cells 47 1 true false [V.ee,(V.I 0),(V.I 0),V.ee,V.ee,(V.I 0)]));have k6:∀l,l<p.next->(p.new (.cells 47 1 true false [V.ee,(V.I 0),(V.I 0),V.ee,V.ee,(V.I 0)])).get l=p.get l:=λl d=>fj _ d;generalize p.new (.cells 47 1 true false [V.ee,(V.I 0),(V.I 0),V.ee,V.ee,(V.I 0)])=h6 at*;have l5:p.next<h6.next:=by omega
 have e7:=G1 (n:=6) (ws:=[V.ee,(V.I 0),(V.I 0),V.ee,V.ee,(V.I 0)]) g6 rfl rfl rfl;rw[e7,ei,fx];have g7:=gg (.cells 47 1 true false [V.ee,(V.I 0),(V.I 0),V.ee,V.ee,(V.I 0)]) l5;have n7:(h6.put p.next (.cells 47 1 true false [V.ee,(V.I 0),(V.I 0),V.ee,V.ee,(V.I 0)])).next=h6.next:=rfl;have k7:∀l,l≠p.next->(h6.put p.next (.cells 47 1 true false [V.ee,(V.I 0),(V.I 0),V.ee,V.ee,(V.I 0)])).get l=h6.get l:=λl d=>gB _ l5 λe=>d e.symm
 have c7:Im h (h6.put p.next (.cells 47 1 true false [V.ee,(V.I 0),(V.I 0),V.ee,V.ee,(V.I 0)])):=
  c6.trans' (lN.put (S:=λl=>l=p.next) (.cells 47 1 true false [V.ee,(V.I 0),(V.I 0),V.ee,V.ee,(V.I 0)]) rfl l5) λl d e=>by have:=c4.next;omega
 generalize h6.put p.next (.cells 47 1 true false [V.ee,(V.I 0),(V.I 0),V.ee,V.ee,(V.I 0)])=t at*;have g8:(t.new (.cells 50 1 true false [V.nilFunc])).get t.next=_:=fg _ _;have n8:(t.new (.cells 50 1 true false [V.nilFunc])).next=t.next+1:=rfl;have c8:=c7.trans (lN.new t (.cells 50 1 true false [V.nilFunc]));have k8:∀l,l<t.next->(t.new (.cells 50 1 true false [V.nilFunc])).get l=t.get l:=λl d=>fj _ d;generalize t.new (.cells 50 1 true false [V.nilFunc])=h8 at*;have l7:t.next<h8.next:=by omega
 have e9:=oG (o:=0) (v:= .func fu [] [.ptr j.next 0,.ptr p.next 0]) (px:=[.func fu [] [.ptr j.next 0,.ptr p.next 0]]) g8 (by simp) rfl rfl;rw[e9,ei];have g9:=gg (.cells 50 1 true false [.func fu [] [.ptr j.next 0,.ptr p.next 0]]) l7;have n9:(h8.put t.next (.cells 50 1 true false [.func fu [] [.ptr j.next 0,.ptr p.next 0]])).next=h8.next:=rfl;have k9:∀l,l≠t.next->(h8.put t.next (.cells 50 1 true false [.func fu [] [.ptr j.next 0,.ptr p.next 0]])).get l=h8.get l:=λl d=>gB _ l7 λe=>d e.symm
 have c9:Im h (h8.put t.next (.cells 50 1 true false [.func fu [] [.ptr j.next 0,.ptr p.next 0]])):=
  c8.trans' (lN.put (S:=λl=>l=t.next) (.cells 50 1 true false [.func fu [] [.ptr j.next 0,.ptr p.next 0]]) rfl l7) λl d e=>by have:=c7.next;omega
 generalize h8.put t.next (.cells 50 1 true false [.func fu [] [.ptr j.next 0,.ptr p.next 0]])=J at*;have C:∀l,l≠p.next->l≠t.next->l<r.next->J.get l=r.get l:=λl a b c=>by rw[k9 l b,k8 l (by omega),k7 l a,k6 l (by omega),k5 l c]
 have nn:u.next=h.next+1/\j.next=h.next+2/\r.next=h.next+3/\p.next=h.next+4/\t.next=h.next+5/\J.next=h.next+6:=by omega
 obtain⟨m1,m2,m4,m5,m7,m9⟩:=nn;have r1:J.get h.next=some (.cells 24 1 true false [vo,vs,.I np]):=by rw[C _ (by omega) (by omega) (by omega)];exact ac
 have r2:J.get u.next=some (.cells 30 1 true false [(V.I 0),(V.I 0),V.ee,V.ee,V.ee]):=by rw[C _ (by omega) (by omega) (by omega)];exact an
 have r3:J.get j.next=some (.cells 30 1 true false [.I 1,.I 2,.ee,.ee,.ee]):=by rw[C _ (by omega) (by omega) (by omega)];exact g4
 have r4:J.get r.next=some (.cells 22 1 true false [V.ee]):=by rw[k9 _ (by omega),k8 _ (by omega),k7 _ (by omega),k6 _ (by omega)];exact g5
 have r5:J.get p.next=some (.cells 47 1 true false [V.ee,(V.I 0),(V.I 0),V.ee,V.ee,(V.I 0)]):=by rw[k9 _ (by omega),k8 _ (by omega)];exact g7
 have ae:∀c∈cs,∀l,c.ma l->l<h.next/\¬F l:=λc hc l d=>by
  obtain⟨i,hi⟩:=mQ.1 hc;exact c.Oa (P.ok i c hi) l d
 have aB:∀i l,comp j.next r.next p.next ⟨.ee,.ee,.ee,.ee,.ee,.ee,.ee⟩ i l->h.next+2<=l/\l<=h.next+4:=by
  intro i l d
  match i,d with
  |0,d=>have:l=j.next:=d;omega
  |1,d=>have:l=r.next:=d;omega
  |2,d=>have:l=p.next:=d;omega
  |3,d=>exact d.elim
  |4,d=>exact d.elim
  |5,d=>exact d.elim
  |6,d=>exact d.elim
  |7,d=>exact d.elim
 have D9:Dw (λl=>F l\/l=h.next\/l=t.next) (λl=>(∃c∈cs,c.ma l)\/l=u.next) J j.next r.next p.next ⟨⟨[],[],[],[],0⟩,[],[]⟩ ⟨.ee,.ee,.ee,.ee,.ee,.ee,.ee⟩:=
  { fl := λl d=>by rcases d with d|rfl|rfl;have:=P.fl l d;omega;omega;omega
    gu:=r3
    gk:=r4
    gb:=r5
    nu:=⟨by omega,by rintro(d|d|d);have:=P.fl _ d;omega;omega;omega⟩
    nk:=⟨by omega,by rintro(d|d|d);have:=P.fl _ d;omega;omega;omega⟩
    nb:=⟨by omega,by rintro(d|d|d);have:=P.fl _ d;omega;omega;omega⟩
    ov:= .nil
    ob:= .nil
    os:= .nil
    ok:= .nil
    oc:= .nil
    sp:= .nil
    kc:=λ_ h=>h.elim
    gx := λl d=>by
      have hb:(l<h.next/\¬F l)\/l=u.next:=by
        rcases d with⟨c,hc,d⟩|d
        ·exact .inl (ae c hc l d)
        ·exact .inr d
      refine⟨by omega,?_,λi hi=>?_⟩
      ·rintro (A|A|A)
       ·rcases hb with r|r
        ·exact r.2 A
        ·have:=P.fl _ A;omega
       ·omega
       ·omega
      ·have:=aB i l hi;omega}
 have ag:Kp F (λl=>∃c∈cs,c.ma l) h J:=⟨c9.next,λl d=>c9.fh l (by
  rcases d with d|⟨c,hc,d⟩
  ·exact P.fl l d
  ·exact(ae c hc l d).1) λh=>h⟩
 have N:J.get t.next=some (.cells 50 1 true false [.func fu [] [.ptr j.next 0,.ptr p.next 0]]):=g9;clear e4 e7 e9 eB ao g1 ak al ac g2 am an g3 g4 g5 g6 g7 g8 g9 k5 k6 k7 k8 k9 C c1 c2 c3 c4 c5 c6 c7 c8 r3 r4 r5;have ap:iy (eI .i64) (λl=>F l\/l=h.next\/l=t.next) J ops vo:=(ai.fh λl d=>ag.fh l (.inl d)).mono λ_ h=> .inl h;have aq:iy (eI .i64) (λl=>F l\/l=h.next\/l=t.next) J y vs:=(aj.fh λl d=>ag.fh l (.inl d)).mono λ_ h=> .inl h;have aY:=FT np (m:=5) (by decide)
 refine Db (λk x1 x2 x3 x4 x5 x6 x7 x8 hh=>∃(R':Rw) (i:Nat) (s:Ds),x1 = .ptr h.next 0/\x2 = .ptr u.next 0/\x3 = .ptr j.next 0/\x4 = .I (mh np 5:Nat)/\x5 = .ptr r.next 0/\x6 = .ptr p.next 0/\x7 = .ptr t.next 0/\x8 = .I i/\
  i+k=mh np 5/\Kp (λl=>F l\/l=h.next\/l=t.next) (λl=>(∃c∈cs,c.ma l)\/l=u.next) J hh/\Dw (λl=>F l\/l=h.next\/l=t.next) (λl=>(∃c∈cs,c.ma l)\/l=u.next) hh j.next r.next p.next ⟨s,[],[]⟩ R'/\R'.cc=R'.vc/\
  s.ef.length=i/\s.cur.length=i/\s.known.length=i/\s.eh=[]/\params k i s=params (mh np 5) 0 ⟨[],[],[],[],0⟩/\s.pos=0) ?_ (k:=mh np 5)
  ⟨_,0,⟨[],[],[],[],0⟩,rfl,rfl,rfl,rfl,rfl,rfl,rfl,rfl,by omega,Kp.refl _ _ _,D9,rfl,rfl,rfl,rfl,rfl,rfl,rfl⟩
 rintro k x1 x2 x3 x4 x5 x6 x7 x8 hh ⟨R1,i,s,rfl,rfl,rfl,rfl,rfl,rfl,rfl,rfl,aZ,kk,D,hq,s1,s2,s3,s4,hp,Y⟩;unfold vK;have z6:ez (.ptr t.next 0) hh=some (.func fu [] [.ptr j.next 0,.ptr p.next 0]):=lE (by rw[kk.fh _ (.inl (.inr (.inr rfl)))];exact N) rfl;by_cases Ob:i<mh np 5
 ·refine gG ?_;refine ed D.AD (ed z6 ?_);have eP:∀i:Nat,fV [(V.I 0),(V.I 0),(V.I 0),(V.I 0),V.ee,(V.I 0)] [(0,1),(1,1),(2,1),(3,1),(4,1),(5,1)] [(0,(V.I 1)),(3,.I (i:Nat))]=some (.agg (my (vl 1 0 0 (i:Nat) [] 0) .ee)):=λ_=>rfl;refine ed (eP _) ?_;show cP CS fu [.agg (my (vl 1 0 0 (i:Nat) [] 0) .ee),.ptr j.next 0,.ptr p.next 0] hh _;refine Q3 D hq ⟨_,rfl,.nil⟩ (by show s.ef.length<_;omega) (by show s.cur.length<_;omega) (by show s.known.length<_;omega) λf R2 k2 R ah=>?_;refine fL ?_;obtain⟨k',rfl⟩:∃k',k=k' + 1:=⟨k-1,by omega⟩
  exact⟨k',by omega,R2,i+1,iP s (vl 1 0 0 (i:Nat) [] 0),rfl,rfl,rfl,rfl,rfl,rfl,rfl,rfl,by omega,kk.trans k2 λ_ h=>h,R,ah,by simp[iP,s1],by simp[iP,s2],by simp[iP,s3],s4,by rw[<-hp];rfl,Y⟩
 refine iJ ?_;obtain rfl:k=0:=by omega
 have hs:s=params (mh np 5) 0 ⟨[],[],[],[],0⟩:=hp;refine ed D.AD (ed z6 ?_);have eP:fV [(V.I 0),(V.I 0),(V.I 0),(V.I 0),V.ee,(V.I 0)] [(0,1),(1,1),(2,1),(3,1),(4,1),(5,1)] [(0,(V.I 2)),(3,(V.I 5))]=some (.agg (my (vl 2 0 0 5 [] 0) .ee)):=rfl;refine ed eP ?_;show cP CS fu [.agg (my (vl 2 0 0 5 [] 0) .ee),.ptr j.next 0,.ptr p.next 0] hh _;refine Q3 D hq ⟨_,rfl,.nil⟩ (by show s.ef.length<_;omega) (by show s.cur.length<_;omega) (by show s.known.length<_;omega) λf R2 k2 R ah=>?_;have kq:=kk.trans k2 λ_ h=>h;have R:Dw _ _ f j.next r.next p.next ⟨iP s (vl 2 0 0 5 [] 0),[],[]⟩ R2:=R;have nh:J.next<=f.next:=kq.next;rw[fx];have D3:=R.grow (lN.new f (.cells 3 1 true false [V.I 0]));have g3:(f.new (.cells 3 1 true false [V.I 0])).get f.next=_:=fg _ _;have aC:=kq.trans (R.zO (.cells 3 1 true false [V.I 0])) λ_ h=>h
 have E:∀l,f.next<=l->¬(F l\/l=h.next\/l=t.next)/\¬((∃c∈cs,c.ma l)\/l=u.next)/\∀i,¬comp j.next r.next p.next R2 i l:=λl d=>
  ⟨λhf=>by have:=R.fl l hf;omega,λhg=>by have:=(R.gx l hg).1;omega,λi hi=>by have:=(R.sig hi).2.1;omega⟩
 have a4:(f.new (.cells 3 1 true false [V.I 0])).next=f.next+1:=rfl;generalize f.new (.cells 3 1 true false [V.I 0])=T at*;have aD:=oG (o:=0) (v:=V.I 0) (px:=[V.I 0]) g3 (by simp) rfl rfl;rw[aD,ei];obtain⟨D4,k4⟩:=D3.other (lN.put (S:=λl=>l=f.next) (.cells 3 1 true false [V.I 0]) rfl (by omega)) λl e=>by subst e;exact E _ (iZ _)
 have g4:=gg (.cells 3 1 true false [V.I 0]) (show f.next<T.next by omega);have a5:(T.put f.next (.cells 3 1 true false [V.I 0])).next=T.next:=rfl;have aE:=aC.trans k4 λ_ h=>h;generalize T.put f.next (.cells 3 1 true false [V.I 0])=g at*;rw[fx];have D5:=D4.grow (lN.new g (.cells 51 1 true false [V.nilFunc]));have aF:=aE.trans (D4.zO (.cells 51 1 true false [V.nilFunc])) λ_ h=>h;have g5:(g.new (.cells 51 1 true false [V.nilFunc])).get g.next=_:=fg _ _;have aG:=(fj (h:=g) (.cells 51 1 true false [V.nilFunc]) (l:=f.next) (by omega)).trans g4;have a6:(g.new (.cells 51 1 true false [V.nilFunc])).next=g.next+1:=rfl;generalize g.new (.cells 51 1 true false [V.nilFunc])=O at*;have aH:=oG (o:=0) (v:= .func fk [] [.ptr f.next 0,.ptr h.next 0]) (px:=[.func fk [] [.ptr f.next 0,.ptr h.next 0]]) g5 (by simp) rfl rfl;rw[aH,ei];obtain⟨D6,k6⟩:=D5.other (lN.put (S:=λl=>l=g.next) (.cells 51 1 true false [.func fk [] [.ptr f.next 0,.ptr h.next 0]]) rfl (by omega)) λl e=>by subst e;exact E _ (by omega)
 have g6:=gg (.cells 51 1 true false [.func fk [] [.ptr f.next 0,.ptr h.next 0]]) (show g.next<O.next by omega);have aI:=(gB (.cells 51 1 true false [.func fk [] [.ptr f.next 0,.ptr h.next 0]]) (show g.next<O.next by omega) (m:=f.next) (by omega)).trans aG;have a7:(O.put g.next (.cells 51 1 true false [.func fk [] [.ptr f.next 0,.ptr h.next 0]])).next=O.next:=rfl;have aJ:=aF.trans k6 λ_ h=>h;generalize O.put g.next (.cells 51 1 true false [.func fk [] [.ptr f.next 0,.ptr h.next 0]])=q at*;rw[fx];have D7:=D6.grow (lN.new q (.cells 57 1 true false [V.nilFunc]));have aK:=aJ.trans (D6.zO (.cells 57 1 true false [V.nilFunc])) λ_ h=>h;have g7:(q.new (.cells 57 1 true false [V.nilFunc])).get q.next=_:=fg _ _;have aL:=(fj (h:=q) (.cells 57 1 true false [V.nilFunc]) (l:=f.next) (by omega)).trans aI;have aM:=(fj (h:=q) (.cells 57 1 true false [V.nilFunc]) (l:=g.next) (by omega)).trans g6;have a8:(q.new (.cells 57 1 true false [V.nilFunc])).next=q.next+1:=rfl;generalize q.new (.cells 57 1 true false [V.nilFunc])=M at*;have aN:=oG (o:=0) (v:= .func fW [] [.ptr j.next 0,.ptr g.next 0,.ptr r.next 0]) (px:=[.func fW [] [.ptr j.next 0,.ptr g.next 0,.ptr r.next 0]]) g7 (by simp) rfl rfl;rw[aN,ei];obtain⟨D8,k8⟩:=D7.other (lN.put (S:=λl=>l=q.next) (.cells 57 1 true false [.func fW [] [.ptr j.next 0,.ptr g.next 0,.ptr r.next 0]]) rfl (by omega)) λl e=>by subst e;exact E _ (by omega)
 have g8:=gg (.cells 57 1 true false [.func fW [] [.ptr j.next 0,.ptr g.next 0,.ptr r.next 0]]) (show q.next<M.next by omega);have aO:=(gB (.cells 57 1 true false [.func fW [] [.ptr j.next 0,.ptr g.next 0,.ptr r.next 0]]) (show q.next<M.next by omega) (m:=f.next) (by omega)).trans aL;have aP:=(gB (.cells 57 1 true false [.func fW [] [.ptr j.next 0,.ptr g.next 0,.ptr r.next 0]]) (show q.next<M.next by omega) (m:=g.next) (by omega)).trans aM;have a9:(M.put q.next (.cells 57 1 true false [.func fW [] [.ptr j.next 0,.ptr g.next 0,.ptr r.next 0]])).next=M.next:=rfl;have G:=aK.trans k8 λ_ h=>h;generalize M.put q.next (.cells 57 1 true false [.func fW [] [.ptr j.next 0,.ptr g.next 0,.ptr r.next 0]])=I at*;have Z:I.get h.next=some (.cells 24 1 true false [vo,vs,.I np]):=by rw[G.fh _ (.inl (.inr (.inl rfl)))];exact r1
 have aa:I.get u.next=some (.cells 30 1 true false [(V.I 0),(V.I 0),V.ee,V.ee,V.ee]):=by rw[G.fh _ (.inr (.inr rfl))];exact r2
 have ar:I.get t.next=some (.cells 50 1 true false [.func fu [] [.ptr j.next 0,.ptr p.next 0]]):=by rw[G.fh _ (.inl (.inr (.inr rfl)))];exact N
 have q8:Dq (λl=>(F l\/l=h.next\/l=t.next)\/l=g.next\/l=q.next) (λl=>((∃c∈cs,c.ma l)\/l=u.next)\/l=f.next) I ⟨h.next,j.next,r.next,p.next,t.next,f.next,g.next,q.next⟩ ops ⟨iP s (vl 2 0 0 5 [] 0),[],[]⟩ R2:=
  { D :=(D8.more (F':=λl=>(F l\/l=h.next\/l=t.next)\/l=g.next\/l=q.next) (λ_ h=> .inl h) λl d=>d.imp id λd=>⟨by omega,(E l (by omega)).2.2,(E l (by omega)).2.1⟩).XT λl d=>d.imp id λe=>by
      subst e;refine⟨by omega,?_,(E _ (iZ _)).2.2⟩;rintro(A|A)
      ·exact(E _ (iZ _)).1 A
      ·omega
    hq:=ah
    gl:= .inr rfl
    ga:=by
      have:(iP s (vl 2 0 0 5 [] 0)).pos=0:=Y;rw[show((⟨iP s (vl 2 0 0 5 [] 0),[],[]⟩:Dt).s.pos:Nat)=0 from this];exact aO
    fr:= .inl (.inr (.inl rfl))
    gr:=⟨vo,vs,.I np,Z,(ap.fh λl d=>G.fh l (.inl d)).mono λ_ h=> .inl h⟩
    fp:= .inl (.inr (.inr rfl))
    gp:=⟨_,ar⟩
    fn:= .inr (.inl rfl)
    gn:=⟨_,aP⟩
    fs:= .inr (.inr rfl)
    gs:=⟨_,g8⟩ }
 have aQ:Sm (iP s (vl 2 0 0 5 [] 0)) 10:=⟨by simp[iP];omega,by simp[iP];omega,by simp[iP];omega,by simp[iP,s4],by simp[iP]⟩
 have au:iy (eI .i64) (λl=>(F l\/l=h.next\/l=t.next)\/l=g.next\/l=q.next) I y vs:=(aq.fh λl d=>G.fh l (.inl d)).mono λ_ h=> .inl h;have K:Kp F (λl=>∃c∈cs,c.ma l) h I:=ag.trans ⟨G.next,λl d=>G.fh l (d.imp .inl .inl)⟩ λ_ h=>h;show hH CS (gh (Kv ⟨h.next,j.next,r.next,p.next,t.next,f.next,g.next,q.next⟩) []) I _;refine GJ q8 ho aQ (by omega) λF9 ba R9 f9 k9 q9 n9=>?_
 refine zet (vo:=vo) (vs:=vs) (nv:= .I np) ho q9 (n9.le (by omega)) rfl (by rw[k9.fh _ (.inl (.inl (.inr (.inl rfl))))];exact Z) ((au.fh λl d=>k9.fh l (.inl d)).mono f9) (.inl (.inr rfl)) (by show u.next≠f.next;omega)
  ⟨_,(k9.fh _ (.inr ⟨.inl (.inr rfl),by show u.next≠f.next;omega⟩)).trans aa,rfl⟩ λU z Fc t1 aR aS x aT=>?_
 have aw:(λl=>((∃c∈cs,c.ma l)\/l=u.next)\/l=f.next) u.next:= .inl (.inr rfl);have B:=k9.trans aS f9;have ax:z.get u.next=some (.cells 30 1 true false [(V.I 0),(V.I 0),V.ee,V.ee,V.ee]):=by rw[B.fh _ (.inr ⟨aw,by show u.next≠f.next;omega⟩)];exact aa
 have ay:u.next<z.next:=by have:=B.next;omega
 have ow:gj [.I 1,.I 2,Fc.vv,Fc.vb,Fc.vs]=true:=by simp only[ey,x.D.ov.one,x.D.ob.one,x.D.os.one];rfl
 have aU:=G1 (n:=5) (ws:=[.I 1,.I 2,Fc.vv,Fc.vb,Fc.vs]) ax rfl rfl ow;rw[aU,ei];have aV:=gg (.cells 30 1 true false [.I 1,.I 2,Fc.vv,Fc.vb,Fc.vs]) ay;refine ed (Dr aV rfl) ?_;have W:=x.D.gx u.next aw;have ne:∀l,U l\/Loc Fc.vv l\/Loc Fc.vb l\/Loc Fc.vs l->l≠u.next:=by
  rintro l (d|d|d|d) rfl
  ·exact W.2.1 d
  ·exact W.2.2 3 d
  ·exact W.2.2 4 d
  ·exact W.2.2 5 d
 have X:∀l,l≠u.next->(z.put u.next (.cells 30 1 true false [.I 1,.I 2,Fc.vv,Fc.vb,Fc.vs])).get l=z.get l:=λl d=>gB _ ay λe=>d e.symm;have L:∀l,F l->U l:=λl d=>aR l (f9 l (.inl (.inl d)));have ab:∀l,F l->z.get l=h.get l:=λl d=>(B.fh l (.inl (.inl (.inl d)))).trans (K.fh l (.inl d));refine H (λl=>U l\/Loc Fc.vv l\/Loc Fc.vb l\/Loc Fc.vs l) _ _ ⟨by have:=B.next;have:=K.next;show h.next<=z.next;omega,λl d=>(X l (ne l (.inl (L l d)))).trans (ab l d),λl d=> .inl (L l d)⟩ ?_ ?_
 ·refine ⟨λl d=>?_,λi c hc=>?_,P.E2⟩
  ·show l<z.next;rcases d with d|d|d|d
   ·exact x.D.fl l d
   ·exact(x.D.ov.we d).2.1
   ·exact(x.D.ob.we d).2.1
   ·exact(x.D.os.we d).2.1
  ·have aW:=P.ok i c hc;have hm:=mQ.2 ⟨i,hc⟩;have aA:∀l,c.ma l->l<h.next:=λl d=>(ae c hm l d).1;have kc:∀l,c.ma l->(z.put u.next (.cells 30 1 true false [.I 1,.I 2,Fc.vv,Fc.vb,Fc.vs])).get l=h.get l:=λl d=>by
    have:=aA l d;rw[X l (by omega),B.fh l (.inr ⟨.inl (.inl ⟨c,hm,d⟩),by show l≠f.next;omega⟩)];exact K.fh l (.inr ⟨c,hm,d⟩)
   refine c.mono (c.fh aW (λl d=>(X l (ne l (.inl (L l d)))).trans (ab l d)) kc (by have:=B.next;have:=K.next;show h.next<=z.next;omega)) (λl d=> .inl (L l d)) λl d aX=>?_;have gx:=x.D.gx l (.inl (.inl ⟨c,hm,d⟩));rcases aX with A|A|A|A
   ·exact gx.2.1 A
   ·exact gx.2.2 3 A
   ·exact gx.2.2 4 A
   ·exact gx.2.2 5 A
 ·have eu:Is ops y np=⟨1,2,t1.s.ef,t1.blocks,t1.s.eh⟩:=by
   rw[aT];unfold Is;rw[hs]
  rw[eu];have k2:∀l,U l\/Loc Fc.vv l\/Loc Fc.vb l\/Loc Fc.vs l->(z.put u.next (.cells 30 1 true false [.I 1,.I 2,Fc.vv,Fc.vb,Fc.vs])).get l=z.get l:=λl d=>X l (ne l d);exact⟨Fc.vv,Fc.vb,Fc.vs,rfl,(x.D.ov.slR (λ_ h=> .inl h) λ_ h=> .inr (.inl h)).fh k2,(x.D.ob.slR (λ_ h=> .inl h) λ_ h=> .inr (.inr (.inl h))).fh k2,(x.D.os.slR (λ_ h=> .inl h) λ_ h=> .inr (.inr (.inr h))).fh k2⟩
end
