/- Parts. -/
import Derived.Test.YtloecllhljfidaaGreatDoorM22
set_option maxHeartbeats 4000000
namespace Go.Proofs.YtloecllhljfidaaGreatDoor.Hx
open Un
section
variable{F F' G G':Nat->Prop}{h h':Hp}{lu iA jx:Nat}{ops:List Int}{t t':Dt}{R R':Rw}{Q:fq}
theorem Tk{x:Vl}{w:List V}(D:Dw F G h lu iA jx t R)(hq:R.cc=R.vc)(r:eV.rel F h x w)(hv:t.s.ej.length<1000)(hc:t.s.cur.length<1000)(hk:t.s.known.length<1000){K:Hp->Prop}
  (H:∀h' R',Kp F G h h'->Dw F G h' lu iA jx {t with s:=iO t.s x} R'->R'.cc=R'.vc->K h') :
  cP CS fK [.agg w,.ptr lu 0,.ptr jx 0] h λc a=>(h.next<=a.next/\xB (iS 3 1 1 (V.I 0) [(0,c)]) a λo d b=>((b.get a.next=some o/\O.beq o o=true)/\(fe (.ptr iA 0) b=some R.vk/\fj (fi 3 1 8 R.vk d b) λe f=>(b.next<=f.next/\fj (gq 1 (.ptr iA 0) e f) λ_ m=>(f.next<=m.next/\K m))))):=by
 refine UZ D hq r hv hc λg z n p i j=>⟨n.next,?_⟩
 rw[<-j];have u:iS 3 1 1 (V.I 0) [(0,V.I t.s.ej.length)]=some (.cells 3 1 true false [V.I t.s.ej.length],λl=> .slice l 0 1):=rfl;rw[u,gO];have q:=p.grow (lP.new g (.cells 3 1 true false [V.I t.s.ej.length]));have hx:kX (g.new (.cells 3 1 true false [V.I t.s.ej.length])) 1 (.slice g.next 0 1)=some (1,[V.I t.s.ej.length]):=mU rfl
 let⟨v',A,a,a1,a2,a3,a4,v,D4⟩:=q.zdy (ys:=[t.s.ej.length]) hx ⟨[V.I t.s.ej.length],[],rfl,rfl,trivial⟩ rfl rfl (by simp) (by show t.s.known.length+1<_;omega)
 have k:=a1;refine⟨by grind[fm,O.kE],q.AW,?_⟩;simp[k,en,a3];have y:=(p.zN (.cells 3 1 true false [V.I t.s.ej.length])).trans v λ_ h=>h;exact⟨a2,a4,H _ _ (n.trans y λ_ h=>h) D4 i⟩
theorem zb3{cs:List Pc}{y:List Int}{np:Int}{N vs:V}(R:ev F h cs)(ai:il (eI .i64) F h ops N)(aj:il (eI .i64) F h y vs)(ho:ops.length<9223372036854775808)
  (H:∀F' h' w,Sn F h F' h'->ev F' h' cs->eUn.rel F' h' (IZ ops y np) w->Q (.agg w) h'):cP CS rD [.agg [N,vs,.I np]] h Q:=by
 refine GC ?_;have o1:gj [N,vs,.I np]=true:=by simp[ ai.one,aj.one];rfl
 rw[EY o1,fu,fu];have n1:(h.new (.cells 24 1 true false [N,vs,.I np])).next=h.next+1:=rfl;have g1:(h.new (.cells 24 1 true false [N,vs,.I np])).get h.next=_:=fm _ _;have c1:Jp h (h.new (.cells 24 1 true false [N,vs,.I np])):=lP.new _ _;generalize h.new (.cells 24 1 true false [N,vs,.I np])=v at*;have n2:(v.new (.cells 30 1 true false [(V.I 0),(V.I 0),V.ei,V.ei,V.ei])).next=v.next+1:=rfl;have g2:(v.new (.cells 30 1 true false [(V.I 0),(V.I 0),V.ei,V.ei,V.ei])).get v.next=_:=fm _ _;have c2:=c1.trans (lP.new v (.cells 30 1 true false [(V.I 0),(V.I 0),V.ei,V.ei,V.ei]));have aw:=(fo (.cells 30 1 true false [(V.I 0),(V.I 0),V.ei,V.ei,V.ei]) (by omega)).trans g1;generalize v.new (.cells 30 1 true false [(V.I 0),(V.I 0),V.ei,V.ei,V.ei])=p at*;have eB:fT [(V.I 0),(V.I 0),V.ei,V.ei,V.ei] [(0,1),(1,1),(2,1),(3,1),(4,1)] [(0,(V.I 1)),(1,(V.I 2)),(4,V.ei)]=some (.agg [.I 1,.I 2,.ei,.ei,.ei]):=rfl;refine eh eB ?_;rw[fu];have n3:(p.new (.cells 30 1 true false [(V.I 0),(V.I 0),V.ei,V.ei,V.ei])).next=p.next+1:=rfl;have g3:(p.new (.cells 30 1 true false [(V.I 0),(V.I 0),V.ei,V.ei,V.ei])).get p.next=_:=fm _ _;have c3:=c2.trans (lP.new p (.cells 30 1 true false [(V.I 0),(V.I 0),V.ei,V.ei,V.ei]));have ax:=(fo (.cells 30 1 true false [(V.I 0),(V.I 0),V.ei,V.ei,V.ei]) (by omega)).trans aw;have ay:=(fo (.cells 30 1 true false [(V.I 0),(V.I 0),V.ei,V.ei,V.ei]) (by omega)).trans g2;generalize p.new (.cells 30 1 true false [(V.I 0),(V.I 0),V.ei,V.ei,V.ei])=A at*;have l2:p.next<A.next:=by omega
 have e4:=Ie (n:=5) (ws:=[.I 1,.I 2,.ei,.ei,.ei]) g3 rfl rfl rfl;rw[e4,en];have n4:(A.put p.next (.cells 30 1 true false [.I 1,.I 2,.ei,.ei,.ei])).next=A.next:=rfl;have g4:=fY (.cells 30 1 true false [.I 1,.I 2,.ei,.ei,.ei]) l2;have ak:=(gI (.cells 30 1 true false [.I 1,.I 2,.ei,.ei,.ei]) l2 (by omega)).trans ax;have aA:=(gI (.cells 30 1 true false [.I 1,.I 2,.ei,.ei,.ei]) l2 (by omega)).trans ay
 have c4:Jp h (A.put p.next (.cells 30 1 true false [.I 1,.I 2,.ei,.ei,.ei])):=
  c3.trans' (lP.put (.cells 30 1 true false [.I 1,.I 2,.ei,.ei,.ei]) rfl l2) (by omega)
 generalize A.put p.next (.cells 30 1 true false [.I 1,.I 2,.ei,.ei,.ei])=r at*;refine eh (by rfl) (eh (kP ak rfl) ?_);show cP CS iD [.I np,.I ((5:Nat):Int)] r _;refine Kk (by decide) (by decide) ?_;rw[fu];have g5:(r.new (.cells 22 1 true false [V.ei])).get r.next=_:=fm _ _;have n5:(r.new (.cells 22 1 true false [V.ei])).next=r.next+1:=rfl;have c5:=c4.trans (lP.new r (.cells 22 1 true false [V.ei]));have k5:∀l,l<r.next->(r.new (.cells 22 1 true false [V.ei])).get l=r.get l:=by grind[fo]
 generalize r.new (.cells 22 1 true false [V.ei])=q at*;have aB:fT [V.ei,(V.I 0),(V.I 0),V.ei,V.ei,(V.I 0)] [(0,1),(1,1),(2,1),(3,1),(4,1),(5,1)] []=some (.agg [V.ei,(V.I 0),(V.I 0),V.ei,V.ei,(V.I 0)]):=rfl;refine eh aB ?_;rw[fu];have g6:(q.new (.cells 43 1 true false [V.ei,(V.I 0),(V.I 0),V.ei,V.ei,(V.I 0)])).get q.next=_:=fm _ _;have n6:(q.new (.cells 43 1 true false [V.ei,(V.I 0),(V.I 0),V.ei,V.ei,(V.I 0)])).next=q.next+1:=rfl;have c6:=c5.trans (lP.new q (.cells 43 1 true false [V.ei,(V.I 0),(V.I 0),V.ei,V.ei,(V.I 0)]));have k6:∀l,l<q.next->(q.new (.cells 43 1 true false [V.ei,(V.I 0),(V.I 0),V.ei,V.ei,(V.I 0)])).get l=q.get l:=λl d=>fo _ d;generalize q.new (.cells 43 1 true false [V.ei,(V.I 0),(V.I 0),V.ei,V.ei,(V.I 0)])=h6 at*;have l5:q.next<h6.next:=by omega
 have e7:=Ie (n:=6) (ws:=[V.ei,(V.I 0),(V.I 0),V.ei,V.ei,(V.I 0)]) g6 rfl rfl rfl;rw[e7,en,fu];have g7:=fY (.cells 43 1 true false [V.ei,(V.I 0),(V.I 0),V.ei,V.ei,(V.I 0)]) l5;have n7:(h6.put q.next (.cells 43 1 true false [V.ei,(V.I 0),(V.I 0),V.ei,V.ei,(V.I 0)])).next=h6.next:=rfl;have k7:∀l,l≠q.next->(h6.put q.next (.cells 43 1 true false [V.ei,(V.I 0),(V.I 0),V.ei,V.ei,(V.I 0)])).get l=h6.get l:=λl d=>gI _ l5 λe=>d e.symm
 have c7:Jp h (h6.put q.next (.cells 43 1 true false [V.ei,(V.I 0),(V.I 0),V.ei,V.ei,(V.I 0)])):=
  c6.trans' (lP.put (.cells 43 1 true false [V.ei,(V.I 0),(V.I 0),V.ei,V.ei,(V.I 0)]) rfl l5) λl d e=>by have:=c4.next;omega
 generalize h6.put q.next (.cells 43 1 true false [V.ei,(V.I 0),(V.I 0),V.ei,V.ei,(V.I 0)])=u at*;have g8:(u.new (.cells 46 1 true false [V.nilFunc])).get u.next=_:=fm _ _;have n8:(u.new (.cells 46 1 true false [V.nilFunc])).next=u.next+1:=rfl;have c8:=c7.trans (lP.new u (.cells 46 1 true false [V.nilFunc]));have k8:∀l,l<u.next->(u.new (.cells 46 1 true false [V.nilFunc])).get l=u.get l:=λl d=>fo _ d;generalize u.new (.cells 46 1 true false [V.nilFunc])=h8 at*;have l7:u.next<h8.next:=by omega
 have e9:=o0 (o:=0) (qY:=[.func fK [] [.ptr p.next 0,.ptr q.next 0]]) g8 (by simp) rfl rfl;rw[e9,en];have g9:=fY (.cells 46 1 true false [.func fK [] [.ptr p.next 0,.ptr q.next 0]]) l7;have n9:(h8.put u.next (.cells 46 1 true false [.func fK [] [.ptr p.next 0,.ptr q.next 0]])).next=h8.next:=rfl;have Z:∀l,l≠u.next->(h8.put u.next (.cells 46 1 true false [.func fK [] [.ptr p.next 0,.ptr q.next 0]])).get l=h8.get l:=λl d=>gI _ l7 λe=>d e.symm
 have c9:Jp h (h8.put u.next (.cells 46 1 true false [.func fK [] [.ptr p.next 0,.ptr q.next 0]])):=
  c8.trans' (lP.put (.cells 46 1 true false [.func fK [] [.ptr p.next 0,.ptr q.next 0]]) rfl l7) λl d e=>by have:=c7.next;omega
 generalize h8.put u.next (.cells 46 1 true false [.func fK [] [.ptr p.next 0,.ptr q.next 0]])=J at*;have C:∀l,l≠q.next->l≠u.next->l<r.next->J.get l=r.get l:=λl a b c=>by rw[Z l b,k8 l (by omega),k7 l a,k6 l (by omega),k5 l c]
 have nn:v.next=h.next+1/\p.next=h.next+2/\r.next=h.next+3/\q.next=h.next+4/\u.next=h.next+5/\J.next=h.next+6:=by omega
 let⟨m1,m2,m4,m5,m7,m9⟩:=nn
 have r1:J.get h.next=some (.cells 24 1 true false [N,vs,.I np]):=by rw[C _ (by omega) (by omega) (by omega)];exact ak
 have r2:J.get v.next=some (.cells 30 1 true false [(V.I 0),(V.I 0),V.ei,V.ei,V.ei]):=by rw[C _ (by omega) (by omega) (by omega)];exact aA
 have r3:J.get p.next=some (.cells 30 1 true false [.I 1,.I 2,.ei,.ei,.ei]):=by rw[C _ (by omega) (by omega) (by omega)];exact g4
 have r4:J.get r.next=some (.cells 22 1 true false [V.ei]):=by rw[Z _ (by omega),k8 _ (by omega),k7 _ (by omega),k6 _ (by omega)];exact g5
 have r5:J.get q.next=some (.cells 43 1 true false [V.ei,(V.I 0),(V.I 0),V.ei,V.ei,(V.I 0)]):=by rw[Z _ (by omega),k8 _ (by omega)];exact g7
 have ae:∀c∈cs,∀l,c.my l->l<h.next/\¬F l:=λc hc l d=>by
  let⟨i,hi⟩:=mn.1 hc
  exact c.Nn (R.ok i c hi) l d
 have aC:∀i l,comp p.next r.next q.next ⟨.ei,.ei,.ei,.ei,.ei,.ei,.ei⟩ i l->h.next+2<=l/\l<=h.next+4:=by
  intro i l d
  match i,d with
  |0,d=>have:l=p.next:=d;omega
  |1,d=>have:l=r.next:=d;omega
  |2,d=>have:l=q.next:=d;omega
  |3,d=>exact d.elim
  |4,d=>exact d.elim
  |5,d=>exact d.elim
  |6,d=>exact d.elim
  |7,d=>exact d.elim
 have D9:Dw (λl=>F l\/l=h.next\/l=u.next) (λl=>(∃c∈cs,c.my l)\/l=v.next) J p.next r.next q.next ⟨⟨[],[],[],[],0⟩,[],[]⟩ ⟨.ei,.ei,.ei,.ei,.ei,.ei,.ei⟩:=
  { fl := λl d=>by rcases d with d|rfl|rfl;have:=R.fl l d;omega;omega;omega
    gu:=r3
    gk:=r4
    gb:=r5
    nu:=⟨by omega,by rintro(d|d|d);have:=R.fl _ d;omega;omega;omega⟩
    nk:=⟨by omega,by rintro(d|d|d);have:=R.fl _ d;omega;omega;omega⟩
    nb:=⟨by omega,by rintro(d|d|d);have:=R.fl _ d;omega;omega;omega⟩
    ov:= .nil
    ob:= .nil
    os:= .nil
    ok:= .nil
    oc:= .nil
    sp:= .nil
    kc:=λ_ h=>h.elim
    gx := λl d=>by
      have hb:(l<h.next/\¬F l)\/l=v.next:=by
        rcases d with⟨c,hc,d⟩|d
        ·exact .inl (ae c hc l d)
        ·exact .inr d
      refine⟨by omega,?_,λi hi=>?_⟩
      ·rintro (A|A|A)
       ·rcases hb with r|r
        ·exact r.2 A
        ·have:=R.fl _ A;omega
       ·omega
       ·omega
      ·have:=aC i l hi;omega}
 have ag:Kp F (λl=>∃c∈cs,c.my l) h J:=⟨c9.next,λl d=>c9.fk l (by
  rcases d with d|⟨c,hc,d⟩
  ·exact R.fl l d
  ·exact(ae c hc l d).1) λh=>h⟩
 have O:J.get u.next=some (.cells 46 1 true false [.func fK [] [.ptr p.next 0,.ptr q.next 0]]):=g9;have al:il (eI .i64) (λl=>F l\/l=h.next\/l=u.next) J ops N:=(ai.fk λl d=>ag.fk l (.inl d)).mono λ_ h=> .inl h;have am:il (eI .i64) (λl=>F l\/l=h.next\/l=u.next) J y vs:=(aj.fk λl d=>ag.fk l (.inl d)).mono λ_ h=> .inl h;have aY:=GU np (m:=5) (by decide)
 refine Ed (λk x1 x2 x3 x4 x5 x6 x7 x8 hh=>∃R' i s,x1 = .ptr h.next 0/\x2 = .ptr v.next 0/\x3 = .ptr p.next 0/\x4 = .I (mJ np 5:Nat)/\x5 = .ptr r.next 0/\x6 = .ptr q.next 0/\x7 = .ptr u.next 0/\x8 = .I (i:Nat)/\
  i+k=mJ np 5/\Kp (λl=>F l\/l=h.next\/l=u.next) (λl=>(∃c∈cs,c.my l)\/l=v.next) J hh/\Dw (λl=>F l\/l=h.next\/l=u.next) (λl=>(∃c∈cs,c.my l)\/l=v.next) hh p.next r.next q.next ⟨s,[],[]⟩ R'/\R'.cc=R'.vc/\
  s.ej.length=i/\s.cur.length=i/\s.known.length=i/\s.eo=[]/\params k i s=params (mJ np 5) 0 ⟨[],[],[],[],0⟩/\s.pos=0) ?_
  ⟨_,0,⟨[],[],[],[],0⟩,rfl,rfl,rfl,rfl,rfl,rfl,rfl,rfl,by omega,Kp.refl _ _ _,D9,rfl,rfl,rfl,rfl,rfl,rfl,rfl⟩
 rintro k x1 x2 x3 x4 x5 x6 x7 x8 hh ⟨R1,i,s,rfl,rfl,rfl,rfl,rfl,rfl,rfl,rfl,aZ,kk,D,hq,s1,s2,s3,s4,hp,aa⟩;unfold pG;have Aa:fe (.ptr u.next 0) hh=some (.func fK [] [.ptr p.next 0,.ptr q.next 0]):=kP (by rw[kk.fk _ (.inl (.inr (.inr rfl)))];exact O) rfl;by_cases Nr:i<mJ np 5
 ·refine gy ?_;refine eh D.AW (eh Aa ?_);have eP:∀i,fT [(V.I 0),(V.I 0),(V.I 0),(V.I 0),V.ei,(V.I 0)] [(0,1),(1,1),(2,1),(3,1),(4,1),(5,1)] [(0,(V.I 1)),(3,.I (i:Nat))]=some (.agg (mh (vl 1 0 0 (i:Nat) [] 0) .ei)):=λ_=>rfl;refine eh (eP _) ?_;show cP CS fK [.agg (mh (vl 1 0 0 (i:Nat) [] 0) .ei),.ptr p.next 0,.ptr q.next 0] hh _;refine Tk D hq ⟨_,rfl,.nil⟩ (by show s.ej.length<_;omega) (by show s.cur.length<_;omega) (by show s.known.length<_;omega) λf R2 k2 T ah=>?_;refine fF ?_;obtain⟨k',rfl⟩:∃k',k=k' + 1:=⟨k-1,by omega⟩
  exact⟨k',by omega,R2,i+1,iO s (vl 1 0 0 (i:Nat) [] 0),rfl,rfl,rfl,rfl,rfl,rfl,rfl,rfl,by omega,kk.trans k2 λ_ h=>h,T,ah,by simp[iO,s1],by simp[iO,s2],by simp[iO,s3],s4,by rw[<-hp];rfl,aa⟩
 refine hY ?_;obtain rfl:k=0:=by omega
 have hs:s=params (mJ np 5) 0 ⟨[],[],[],[],0⟩:=hp;refine eh D.AW (eh Aa ?_);have eP:fT [(V.I 0),(V.I 0),(V.I 0),(V.I 0),V.ei,(V.I 0)] [(0,1),(1,1),(2,1),(3,1),(4,1),(5,1)] [(0,(V.I 2)),(3,(V.I 5))]=some (.agg (mh (vl 2 0 0 5 [] 0) .ei)):=rfl;refine eh eP ?_;show cP CS fK [.agg (mh (vl 2 0 0 5 [] 0) .ei),.ptr p.next 0,.ptr q.next 0] hh _;refine Tk D hq ⟨_,rfl,.nil⟩ (by show s.ej.length<_;omega) (by show s.cur.length<_;omega) (by show s.known.length<_;omega) λf R2 k2 T ah=>?_;have kq:=kk.trans k2 λ_ h=>h;have T:Dw _ _ f p.next r.next q.next ⟨iO s (vl 2 0 0 5 [] 0),[],[]⟩ R2:=T;have nh:J.next<=f.next:=kq.next;rw[fu];have D3:=T.grow (lP.new f (.cells 3 1 true false [V.I 0]));have g3:(f.new (.cells 3 1 true false [V.I 0])).get f.next=_:=fm _ _;have aD:=kq.trans (T.zN (.cells 3 1 true false [V.I 0])) λ_ h=>h
 have E:∀l,f.next<=l->¬(F l\/l=h.next\/l=u.next)/\¬((∃c∈cs,c.my l)\/l=v.next)/\∀i,¬comp p.next r.next q.next R2 i l:=λl d=>
  ⟨λhf=>by have:=T.fl l hf;omega,λhg=>by have:=(T.gx l hg).1;omega,λi hi=>by have:=(T.sig hi).2.1;omega⟩
 have a5:(f.new (.cells 3 1 true false [V.I 0])).next=f.next+1:=rfl;generalize f.new (.cells 3 1 true false [V.I 0])=U at*;have aE:=o0 (o:=0) (qY:=[V.I 0]) g3 (by simp) rfl rfl;rw[aE,en]
 let⟨D4,k4⟩:=D3.other (lP.put (S:=λl=>l=f.next) (.cells 3 1 true false [V.I 0]) rfl (by omega)) λl e=>by subst e;exact E _ (iZ _)
 have g4:=fY (.cells 3 1 true false [V.I 0]) (show f.next<U.next by omega);have a6:(U.put f.next (.cells 3 1 true false [V.I 0])).next=U.next:=rfl;have aF:=aD.trans k4 λ_ h=>h;generalize U.put f.next (.cells 3 1 true false [V.I 0])=j at*;rw[fu];have D5:=D4.grow (lP.new j (.cells 47 1 true false [V.nilFunc]));have aG:=aF.trans (D4.zN (.cells 47 1 true false [V.nilFunc])) λ_ h=>h;have g5:(j.new (.cells 47 1 true false [V.nilFunc])).get j.next=_:=fm _ _;have aH:=(fo (.cells 47 1 true false [V.nilFunc]) (by omega)).trans g4;have a7:(j.new (.cells 47 1 true false [V.nilFunc])).next=j.next+1:=rfl;generalize j.new (.cells 47 1 true false [V.nilFunc])=P at*;have aI:=o0 (o:=0) (qY:=[.func fD [] [.ptr f.next 0,.ptr h.next 0]]) g5 (by simp) rfl rfl;rw[aI,en]
 let⟨D6,k6⟩:=D5.other (lP.put (S:=λl=>l=j.next) (.cells 47 1 true false [.func fD [] [.ptr f.next 0,.ptr h.next 0]]) rfl (by omega)) λl e=>by subst e;exact E _ (by omega)
 have g6:=fY (.cells 47 1 true false [.func fD [] [.ptr f.next 0,.ptr h.next 0]]) (show j.next<P.next by omega);have aJ:=(gI (.cells 47 1 true false [.func fD [] [.ptr f.next 0,.ptr h.next 0]]) (show j.next<P.next by omega) (by omega)).trans aH;have a8:(P.put j.next (.cells 47 1 true false [.func fD [] [.ptr f.next 0,.ptr h.next 0]])).next=P.next:=rfl;have aK:=aG.trans k6 λ_ h=>h;generalize P.put j.next (.cells 47 1 true false [.func fD [] [.ptr f.next 0,.ptr h.next 0]])=t at*;rw[fu];have D7:=D6.grow (lP.new t (.cells 53 1 true false [V.nilFunc]));have aL:=aK.trans (D6.zN (.cells 53 1 true false [V.nilFunc])) λ_ h=>h;have g7:(t.new (.cells 53 1 true false [V.nilFunc])).get t.next=_:=fm _ _;have aM:=(fo (.cells 53 1 true false [V.nilFunc]) (by omega)).trans aJ;have g67:=(fo (.cells 53 1 true false [V.nilFunc]) (by omega)).trans g6;have a9:(t.new (.cells 53 1 true false [V.nilFunc])).next=t.next+1:=rfl;generalize t.new (.cells 53 1 true false [V.nilFunc])=M at*;have aN:=o0 (o:=0) (qY:=[.func gz [] [.ptr p.next 0,.ptr j.next 0,.ptr r.next 0]]) g7 (by simp) rfl rfl;rw[aN,en]
 let⟨D8,k8⟩:=D7.other (lP.put (S:=λl=>l=t.next) (.cells 53 1 true false [.func gz [] [.ptr p.next 0,.ptr j.next 0,.ptr r.next 0]]) rfl (by omega)) λl e=>by subst e;exact E _ (by omega)
 have g8:=fY (.cells 53 1 true false [.func gz [] [.ptr p.next 0,.ptr j.next 0,.ptr r.next 0]]) (show t.next<M.next by omega);have aO:=(gI (.cells 53 1 true false [.func gz [] [.ptr p.next 0,.ptr j.next 0,.ptr r.next 0]]) (show t.next<M.next by omega) (by omega)).trans aM;have aP:=(gI (.cells 53 1 true false [.func gz [] [.ptr p.next 0,.ptr j.next 0,.ptr r.next 0]]) (show t.next<M.next by omega) (by omega)).trans g67;have ba:(M.put t.next (.cells 53 1 true false [.func gz [] [.ptr p.next 0,.ptr j.next 0,.ptr r.next 0]])).next=M.next:=rfl;have G:=aL.trans k8 λ_ h=>h;generalize M.put t.next (.cells 53 1 true false [.func gz [] [.ptr p.next 0,.ptr j.next 0,.ptr r.next 0]])=I at*;have ab:I.get h.next=some (.cells 24 1 true false [N,vs,.I np]):=by rw[G.fk _ (.inl (.inr (.inl rfl)))];exact r1
 have ac:I.get v.next=some (.cells 30 1 true false [(V.I 0),(V.I 0),V.ei,V.ei,V.ei]):=by rw[G.fk _ (.inr (.inr rfl))];exact r2
 have an:I.get u.next=some (.cells 46 1 true false [.func fK [] [.ptr p.next 0,.ptr q.next 0]]):=by rw[G.fk _ (.inl (.inr (.inr rfl)))];exact O
 have q8:Dq (λl=>(F l\/l=h.next\/l=u.next)\/l=j.next\/l=t.next) (λl=>((∃c∈cs,c.my l)\/l=v.next)\/l=f.next) I ⟨h.next,p.next,r.next,q.next,u.next,f.next,j.next,t.next⟩ ops ⟨iO s (vl 2 0 0 5 [] 0),[],[]⟩ R2:=
  { D :=(D8.more (λ_ h=> .inl h) λl d=>d.imp id λd=>⟨by omega,(E l (by omega)).2.2,(E l (by omega)).2.1⟩).Z7 λl d=>d.imp id λe=>by
      subst e;refine⟨by omega,?_,(E _ (iZ _)).2.2⟩;rintro(A|A)
      ·exact(E _ (iZ _)).1 A
      ·omega
    hq:=ah
    gl:= .inr rfl
    ga:=by
      have:(iO s (vl 2 0 0 5 [] 0)).pos=0:=aa;rw[show((⟨iO s (vl 2 0 0 5 [] 0),[],[]⟩:Dt).s.pos:Nat)=0 from this];exact aO
    fr:= .inl (.inr (.inl rfl))
    gr:=⟨N,vs,.I np,ab,(al.fk λl d=>G.fk l (.inl d)).mono λ_ h=> .inl h⟩
    fp:= .inl (.inr (.inr rfl))
    gp:=⟨_,an⟩
    fn:= .inr (.inl rfl)
    gn:=⟨_,aP⟩
    fs:= .inr (.inr rfl)
    gs:=⟨_,g8⟩ }
 have aQ:Sm (iO s (vl 2 0 0 5 [] 0)) 10:=⟨by simp[iO];omega,by simp[iO];omega,by simp[iO];omega,by simp[iO,s4],by simp[iO]⟩
 have ao:il (eI .i64) (λl=>(F l\/l=h.next\/l=u.next)\/l=j.next\/l=t.next) I y vs:=(am.fk λl d=>G.fk l (.inl d)).mono λ_ h=> .inl h;have K:Kp F (λl=>∃c∈cs,c.my l) h I:=ag.trans ⟨G.next,λl d=>G.fk l (d.imp .inl .inl)⟩ λ_ h=>h;show gY CS (gi (Mm ⟨h.next,p.next,r.next,q.next,u.next,f.next,j.next,t.next⟩) []) I _;refine G9 q8 ho aQ (by omega) λF9 bb R9 f9 Z q9 n9=>?_
 refine zfd ho q9 (n9.le (by omega)) rfl (by rw[Z.fk _ (.inl (.inl (.inr (.inl rfl))))];exact ab) ((ao.fk λl d=>Z.fk l (.inl d)).mono f9) (.inl (.inr rfl)) (by show v.next≠f.next;omega)
  ⟨_,(Z.fk _ (.inr ⟨.inl (.inr rfl),by show v.next≠f.next;omega⟩)).trans ac,rfl⟩ λW z g t1 aR aS x aT=>?_
 have ap:(λl=>((∃c∈cs,c.my l)\/l=v.next)\/l=f.next) v.next:= .inl (.inr rfl);have B:=Z.trans aS f9;have aq:z.get v.next=some (.cells 30 1 true false [(V.I 0),(V.I 0),V.ei,V.ei,V.ei]):=by rw[B.fk _ (.inr ⟨ap,by show v.next≠f.next;omega⟩)];exact ac
 have ar:v.next<z.next:=by have:=B.next;omega
 have ow:gj [.I 1,.I 2,g.vv,g.vb,g.vs]=true:=by simp only[eQ,x.D.ov.one,x.D.ob.one,x.D.os.one];rfl
 have aU:=Ie (n:=5) aq rfl rfl ow;rw[aU,en];have aV:=fY (.cells 30 1 true false [.I 1,.I 2,g.vv,g.vb,g.vs]) ar;refine eh (DD aV rfl) ?_;have X:=x.D.gx v.next ap;have ne:∀l,W l\/Loc g.vv l\/Loc g.vb l\/Loc g.vs l->l≠v.next:=by
  rintro l (d|d|d|d) rfl
  ·exact X.2.1 d
  ·exact X.2.2 3 d
  ·exact X.2.2 4 d
  ·exact X.2.2 5 d
 have Y:∀l,l≠v.next->(z.put v.next (.cells 30 1 true false [.I 1,.I 2,g.vv,g.vb,g.vs])).get l=z.get l:=λl d=>gI _ ar λe=>d e.symm;have L:∀l,F l->W l:=λl d=>aR l (f9 l (.inl (.inl d)));have ad:∀l,F l->z.get l=h.get l:=λl d=>(B.fk l (.inl (.inl (.inl d)))).trans (K.fk l (.inl d));refine H (λl=>W l\/Loc g.vv l\/Loc g.vb l\/Loc g.vs l) _ _ ⟨by have:=B.next;have:=K.next;show h.next<=z.next;omega,λl d=>(Y l (ne l (.inl (L l d)))).trans (ad l d),λl d=> .inl (L l d)⟩ ?_ ?_
 ·refine ⟨λl d=>?_,λi c hc=>?_,R.Et⟩
  ·show l<z.next;rcases d with d|d|d|d
   ·exact x.D.fl l d
   ·exact(x.D.ov.vV d).2.1
   ·exact(x.D.ob.vV d).2.1
   ·exact(x.D.os.vV d).2.1
  ·have aW:=R.ok i c hc;have hm:=mn.2 ⟨i,hc⟩;have au:∀l,c.my l->l<h.next:=λl d=>(ae c hm l d).1;have kc:∀l,c.my l->(z.put v.next (.cells 30 1 true false [.I 1,.I 2,g.vv,g.vb,g.vs])).get l=h.get l:=λl d=>by
    have:=au l d;rw[Y l (by omega),B.fk l (.inr ⟨.inl (.inl ⟨c,hm,d⟩),by show l≠f.next;omega⟩)];exact K.fk l (.inr ⟨c,hm,d⟩)
   refine c.mono (c.fk aW (λl d=>(Y l (ne l (.inl (L l d)))).trans (ad l d)) kc (by have:=B.next;have:=K.next;show h.next<=z.next;omega)) (λl d=> .inl (L l d)) λl d aX=>?_;have gx:=x.D.gx l (.inl (.inl ⟨c,hm,d⟩));rcases aX with A|A|A|A
   ·exact gx.2.1 A
   ·exact gx.2.2 3 A
   ·exact gx.2.2 4 A
   ·exact gx.2.2 5 A
 ·have eu:IZ ops y np=⟨1,2,t1.s.ej,t1.blocks,t1.s.eo⟩:=by
   rw[aT];unfold IZ;rw[hs]
  rw[eu];have k2:∀l,W l\/Loc g.vv l\/Loc g.vb l\/Loc g.vs l->(z.put v.next (.cells 30 1 true false [.I 1,.I 2,g.vv,g.vb,g.vs])).get l=z.get l:=λl d=>Y l (ne l d);exact⟨g.vv,g.vb,g.vs,rfl,(x.D.ov.slR (λ_ h=> .inl h) λ_ h=> .inr (.inl h)).fk k2,(x.D.ob.slR (λ_ h=> .inl h) λ_ h=> .inr (.inr (.inl h))).fk k2,(x.D.os.slR (λ_ h=> .inl h) λ_ h=> .inr (.inr (.inr h))).fk k2⟩
end
