/- Parts. -/
import Derived.Test.YtcoaokdoecgcbaaGreatDoorM22
set_option maxHeartbeats 4000000
namespace Go.Proofs.YtcoaokdoecgcbaaGreatDoor.Hx
open Un
section
variable{F F' G G':Nat->Prop}{h h':Hp}{lu im jL:Nat}{ops:List Int}{t t':Dt}{R R':Rw}{Q:fo}
theorem UY{x:Vl}{w:List V}(D:Dw F G h lu im jL t R)(hq:R.cc=R.vc)(r:eV.rel F h x w)(hv:t.s.ee.length<1000)(hc:t.s.cur.length<1000)(I:t.s.known.length<1000){K:Hp->Prop}
  (H:∀h' R',Kp F G h h'->Dw F G h' lu im jL {t with s:=ig t.s x} R'->R'.cc=R'.vc->K h') :
  cP CS fF [.agg w,.ptr lu 0,.ptr jL 0] h λc a=>(h.next<=a.next/\vV (iW 3 1 1 (V.I 0) [(0,c)]) a λo d b=>((b.get a.next=some o/\O.beq o o=true)/\(eD (.ptr im 0) b=some R.vk/\eJ (fg 3 1 8 R.vk d b) λe f=>(b.next<=f.next/\eJ (gw 1 (.ptr im 0) e f) λ_ m=>(f.next<=m.next/\K m))))):=by
 refine Wj D hq r hv hc λg J n p i j=>⟨n.next,?_⟩
 rw[<-j];have u:iW 3 1 1 (V.I 0) [(0,V.I t.s.ee.length)]=some (.cells 3 1 true false [V.I t.s.ee.length],λl=> .slice l 0 1):=rfl;rw[u,gU];have q:=p.grow (mr.new g (.cells 3 1 true false [V.I t.s.ee.length]));have v:lT (g.new (.cells 3 1 true false [V.I t.s.ee.length])) 1 (.slice g.next 0 1)=some (1,[V.I t.s.ee.length]):=oI rfl
 let⟨v',L,a,y,z,A,B,C,D4⟩:=q.zeR (ys:=[t.s.ee.length]) v ⟨[V.I t.s.ee.length],[],rfl,rfl,trivial⟩ rfl rfl (by simp) (by show t.s.known.length+1<_;omega)
 have k:=y;refine⟨by grind[eQ,O.jT],q.AW,?_⟩;simp[k,ef,A];have E:=(p.zR (.cells 3 1 true false [V.I t.s.ee.length])).trans C λ_ h=>h;exact⟨z,B,H _ _ (n.trans E λ_ h=>h) D4 i⟩
theorem zde{cs:List Pc}{x:List Int}{np:Int}{M vs:V}(P:ej F h cs)(ah:iD (eI .i64) F h ops M)(ai:iD (eI .i64) F h x vs)(ho:ops.length<9223372036854775808)
  (H:∀F' h' w,Sn F h F' h'->ej F' h' cs->eUn.rel F' h' (zG ops x np) w->Q (.agg w) h'):cP CS nY [.agg [M,vs,.I np]] h Q:=by
 refine HE ?_;have o1:gj [M,vs,.I np]=true:=by simp[ ah.one,ai.one];rfl
 rw[Lm o1,fH,fH];have n1:(h.new (.cells 24 1 true false [M,vs,.I np])).next=h.next+1:=rfl;have g1:(h.new (.cells 24 1 true false [M,vs,.I np])).get h.next=_:=eQ _ _;have c1:JG h (h.new (.cells 24 1 true false [M,vs,.I np])):=mr.new _ _;generalize h.new (.cells 24 1 true false [M,vs,.I np])=u at*;have n2:(u.new (.cells 34 1 true false [(V.I 0),(V.I 0),V.ed,V.ed,V.ed])).next=u.next+1:=rfl;have g2:(u.new (.cells 34 1 true false [(V.I 0),(V.I 0),V.ed,V.ed,V.ed])).get u.next=_:=eQ _ _;have c2:=c1.trans (mr.new u (.cells 34 1 true false [(V.I 0),(V.I 0),V.ed,V.ed,V.ed]));have au:=(eE (.cells 34 1 true false [(V.I 0),(V.I 0),V.ed,V.ed,V.ed]) (by omega)).trans g1;generalize u.new (.cells 34 1 true false [(V.I 0),(V.I 0),V.ed,V.ed,V.ed])=j at*;have eB:fq [(V.I 0),(V.I 0),V.ed,V.ed,V.ed] [(0,1),(1,1),(2,1),(3,1),(4,1)] [(0,(V.I 1)),(1,(V.I 2)),(4,V.ed)]=some (.agg [.I 1,.I 2,.ed,.ed,.ed]):=rfl;refine ec eB ?_;rw[fH];have n3:(j.new (.cells 34 1 true false [(V.I 0),(V.I 0),V.ed,V.ed,V.ed])).next=j.next+1:=rfl;have g3:(j.new (.cells 34 1 true false [(V.I 0),(V.I 0),V.ed,V.ed,V.ed])).get j.next=_:=eQ _ _;have c3:=c2.trans (mr.new j (.cells 34 1 true false [(V.I 0),(V.I 0),V.ed,V.ed,V.ed]));have aw:=(eE (.cells 34 1 true false [(V.I 0),(V.I 0),V.ed,V.ed,V.ed]) (by omega)).trans au;have ax:=(eE (.cells 34 1 true false [(V.I 0),(V.I 0),V.ed,V.ed,V.ed]) (by omega)).trans g2;generalize j.new (.cells 34 1 true false [(V.I 0),(V.I 0),V.ed,V.ed,V.ed])=z at*;have l2:j.next<z.next:=by omega
 have e4:=Iy (n:=5) (ws:=[.I 1,.I 2,.ed,.ed,.ed]) g3 rfl rfl rfl;rw[e4,ef];have n4:(z.put j.next (.cells 34 1 true false [.I 1,.I 2,.ed,.ed,.ed])).next=z.next:=rfl;have g4:=fY (.cells 34 1 true false [.I 1,.I 2,.ed,.ed,.ed]) l2;have aj:=(gq (.cells 34 1 true false [.I 1,.I 2,.ed,.ed,.ed]) l2 (by omega)).trans aw;have ay:=(gq (.cells 34 1 true false [.I 1,.I 2,.ed,.ed,.ed]) l2 (by omega)).trans ax
 have c4:JG h (z.put j.next (.cells 34 1 true false [.I 1,.I 2,.ed,.ed,.ed])):=
  c3.trans' (mr.put (.cells 34 1 true false [.I 1,.I 2,.ed,.ed,.ed]) rfl l2) (by omega)
 generalize z.put j.next (.cells 34 1 true false [.I 1,.I 2,.ed,.ed,.ed])=q at*;refine ec (by rfl) (ec (kH aj rfl) ?_);show cP CS iR [.I np,.I ((5:Nat):Int)] q _;refine Oc (by decide) (by decide) ?_;rw[fH];have g5:(q.new (.cells 22 1 true false [V.ed])).get q.next=_:=eQ _ _;have n5:(q.new (.cells 22 1 true false [V.ed])).next=q.next+1:=rfl;have c5:=c4.trans (mr.new q (.cells 22 1 true false [V.ed]));have k5:∀l,l<q.next->(q.new (.cells 22 1 true false [V.ed])).get l=q.get l:=by grind[eE]
 generalize q.new (.cells 22 1 true false [V.ed])=p at*;have az:fq [V.ed,(V.I 0),(V.I 0),V.ed,V.ed,(V.I 0)] [(0,1),(1,1),(2,1),(3,1),(4,1),(5,1)] []=some (.agg [V.ed,(V.I 0),(V.I 0),V.ed,V.ed,(V.I 0)]):=rfl;refine ec az ?_;rw[fH];have g6:(p.new (.cells 79 1 true false [V.ed,(V.I 0),(V.I 0),V.ed,V.ed,(V.I 0)])).get p.next=_:=eQ _ _;have n6:(p.new (.cells 79 1 true false [V.ed,(V.I 0),(V.I 0),V.ed,V.ed,(V.I 0)])).next=p.next+1:=rfl;have c6:=c5.trans (mr.new p (.cells 79 1 true false [V.ed,(V.I 0),(V.I 0),V.ed,V.ed,(V.I 0)]));have k6:∀l,l<p.next->(p.new (.cells 79 1 true false [V.ed,(V.I 0),(V.I 0),V.ed,V.ed,(V.I 0)])).get l=p.get l:=λl hl=>eE _ hl;generalize p.new (.cells 79 1 true false [V.ed,(V.I 0),(V.I 0),V.ed,V.ed,(V.I 0)])=h6 at*;have l5:p.next<h6.next:=by omega
 have e7:=Iy (n:=6) (ws:=[V.ed,(V.I 0),(V.I 0),V.ed,V.ed,(V.I 0)]) g6 rfl rfl rfl;rw[e7,ef,fH];have g7:=fY (.cells 79 1 true false [V.ed,(V.I 0),(V.I 0),V.ed,V.ed,(V.I 0)]) l5;have n7:(h6.put p.next (.cells 79 1 true false [V.ed,(V.I 0),(V.I 0),V.ed,V.ed,(V.I 0)])).next=h6.next:=rfl;have k7:∀l,l≠p.next->(h6.put p.next (.cells 79 1 true false [V.ed,(V.I 0),(V.I 0),V.ed,V.ed,(V.I 0)])).get l=h6.get l:=λl hl=>gq _ l5 λe=>hl e.symm
 have c7:JG h (h6.put p.next (.cells 79 1 true false [V.ed,(V.I 0),(V.I 0),V.ed,V.ed,(V.I 0)])):=
  c6.trans' (mr.put (.cells 79 1 true false [V.ed,(V.I 0),(V.I 0),V.ed,V.ed,(V.I 0)]) rfl l5) λl hl e=>by have:=c4.next;omega
 generalize h6.put p.next (.cells 79 1 true false [V.ed,(V.I 0),(V.I 0),V.ed,V.ed,(V.I 0)])=t at*;have g8:(t.new (.cells 82 1 true false [V.nilFunc])).get t.next=_:=eQ _ _;have n8:(t.new (.cells 82 1 true false [V.nilFunc])).next=t.next+1:=rfl;have c8:=c7.trans (mr.new t (.cells 82 1 true false [V.nilFunc]));have k8:∀l,l<t.next->(t.new (.cells 82 1 true false [V.nilFunc])).get l=t.get l:=λl hl=>eE _ hl;generalize t.new (.cells 82 1 true false [V.nilFunc])=h8 at*;have l7:t.next<h8.next:=by omega
 have e9:=po (o:=0) (qF:=[.func fF [] [.ptr j.next 0,.ptr p.next 0]]) g8 (by simp) rfl rfl;rw[e9,ef];have g9:=fY (.cells 82 1 true false [.func fF [] [.ptr j.next 0,.ptr p.next 0]]) l7;have n9:(h8.put t.next (.cells 82 1 true false [.func fF [] [.ptr j.next 0,.ptr p.next 0]])).next=h8.next:=rfl;have Y:∀l,l≠t.next->(h8.put t.next (.cells 82 1 true false [.func fF [] [.ptr j.next 0,.ptr p.next 0]])).get l=h8.get l:=λl hl=>gq _ l7 λe=>hl e.symm
 have c9:JG h (h8.put t.next (.cells 82 1 true false [.func fF [] [.ptr j.next 0,.ptr p.next 0]])):=
  c8.trans' (mr.put (.cells 82 1 true false [.func fF [] [.ptr j.next 0,.ptr p.next 0]]) rfl l7) λl hl e=>by have:=c7.next;omega
 generalize h8.put t.next (.cells 82 1 true false [.func fF [] [.ptr j.next 0,.ptr p.next 0]])=I at*;have B:∀l,l≠p.next->l≠t.next->l<q.next->I.get l=q.get l:=λl a b c=>by rw[Y l b,k8 l (by omega),k7 l a,k6 l (by omega),k5 l c]
 have nn:u.next=h.next+1/\j.next=h.next+2/\q.next=h.next+3/\p.next=h.next+4/\t.next=h.next+5/\I.next=h.next+6:=by omega
 let⟨m1,m2,m4,m5,m7,m9⟩:=nn
 have r1:I.get h.next=some (.cells 24 1 true false [M,vs,.I np]):=by rw[B _ (by omega) (by omega) (by omega)];exact aj
 have r2:I.get u.next=some (.cells 34 1 true false [(V.I 0),(V.I 0),V.ed,V.ed,V.ed]):=by rw[B _ (by omega) (by omega) (by omega)];exact ay
 have r3:I.get j.next=some (.cells 34 1 true false [.I 1,.I 2,.ed,.ed,.ed]):=by rw[B _ (by omega) (by omega) (by omega)];exact g4
 have r4:I.get q.next=some (.cells 22 1 true false [V.ed]):=by rw[Y _ (by omega),k8 _ (by omega),k7 _ (by omega),k6 _ (by omega)];exact g5
 have r5:I.get p.next=some (.cells 79 1 true false [V.ed,(V.I 0),(V.I 0),V.ed,V.ed,(V.I 0)]):=by rw[Y _ (by omega),k8 _ (by omega)];exact g7
 have ad:∀c∈cs,∀l,c.pQ l->l<h.next/\¬F l:=λc hc l hl=>by
  let⟨i,hi⟩:=mG.1 hc
  exact c.Iq (P.ok i c hi) l hl
 have aA:∀i l,comp j.next q.next p.next ⟨.ed,.ed,.ed,.ed,.ed,.ed,.ed⟩ i l->h.next+2<=l/\l<=h.next+4:=by
  intro i l hl
  match i,hl with
  |0,hl=>have:l=j.next:=hl;omega
  |1,hl=>have:l=q.next:=hl;omega
  |2,hl=>have:l=p.next:=hl;omega
  |3,hl=>exact hl.elim
  |4,hl=>exact hl.elim
  |5,hl=>exact hl.elim
  |6,hl=>exact hl.elim
  |7,hl=>exact hl.elim
 have D9:Dw (λl=>F l\/l=h.next\/l=t.next) (λl=>(∃c∈cs,c.pQ l)\/l=u.next) I j.next q.next p.next ⟨⟨[],[],[],[],0⟩,[],[]⟩ ⟨.ed,.ed,.ed,.ed,.ed,.ed,.ed⟩:=
  { fl := λl hl=>by rcases hl with hl|rfl|rfl;have:=P.fl l hl;omega;omega;omega
    gu:=r3
    gk:=r4
    gb:=r5
    nu:=⟨by omega,by rintro(hl|hl|hl);have:=P.fl _ hl;omega;omega;omega⟩
    nk:=⟨by omega,by rintro(hl|hl|hl);have:=P.fl _ hl;omega;omega;omega⟩
    nb:=⟨by omega,by rintro(hl|hl|hl);have:=P.fl _ hl;omega;omega;omega⟩
    ov:= .nil
    ob:= .nil
    os:= .nil
    ok:= .nil
    oc:= .nil
    sp:= .nil
    kc:=λ_ h=>h.elim
    gx := λl hl=>by
      have hb:(l<h.next/\¬F l)\/l=u.next:=by
        rcases hl with⟨c,hc,hl⟩|hl
        ·exact .inl (ad c hc l hl)
        ·exact .inr hl
      refine⟨by omega,?_,λi hi=>?_⟩
      ·rintro (z|z|z)
       ·rcases hb with q|q
        ·exact q.2 z
        ·have:=P.fl _ z;omega
       ·omega
       ·omega
      ·have:=aA i l hi;omega}
 have ae:Kp F (λl=>∃c∈cs,c.pQ l) h I:=⟨c9.next,λl hl=>c9.fm l (by
  rcases hl with hl|⟨c,hc,hl⟩
  ·exact P.fl l hl
  ·exact(ad c hc l hl).1) λh=>h⟩
 have N:I.get t.next=some (.cells 82 1 true false [.func fF [] [.ptr j.next 0,.ptr p.next 0]]):=g9;have ak:iD (eI .i64) (λl=>F l\/l=h.next\/l=t.next) I ops M:=(ah.fm λl hl=>ae.fm l (.inl hl)).mono λ_ h=> .inl h;have al:iD (eI .i64) (λl=>F l\/l=h.next\/l=t.next) I x vs:=(ai.fm λl hl=>ae.fm l (.inl hl)).mono λ_ h=> .inl h;have aX:=yJ np (m:=5) (by decide)
 refine Dc (λk x1 x2 x3 x4 x5 x6 x7 x8 hh=>∃R' i s,x1 = .ptr h.next 0/\x2 = .ptr u.next 0/\x3 = .ptr j.next 0/\x4 = .I (jD np 5:Nat)/\x5 = .ptr q.next 0/\x6 = .ptr p.next 0/\x7 = .ptr t.next 0/\x8 = .I (i:Nat)/\
  i+k=jD np 5/\Kp (λl=>F l\/l=h.next\/l=t.next) (λl=>(∃c∈cs,c.pQ l)\/l=u.next) I hh/\Dw (λl=>F l\/l=h.next\/l=t.next) (λl=>(∃c∈cs,c.pQ l)\/l=u.next) hh j.next q.next p.next ⟨s,[],[]⟩ R'/\R'.cc=R'.vc/\
  s.ee.length=i/\s.cur.length=i/\s.known.length=i/\s.ez=[]/\params k i s=params (jD np 5) 0 ⟨[],[],[],[],0⟩/\s.pos=0) ?_
  ⟨_,0,⟨[],[],[],[],0⟩,rfl,rfl,rfl,rfl,rfl,rfl,rfl,rfl,by omega,Kp.refl _ _ _,D9,rfl,rfl,rfl,rfl,rfl,rfl,rfl⟩
 rintro k x1 x2 x3 x4 x5 x6 x7 x8 hh ⟨R1,i,s,rfl,rfl,rfl,rfl,rfl,rfl,rfl,rfl,aY,kk,D,hq,s1,s2,s3,s4,hp,Z⟩;unfold pV;have Aj:eD (.ptr t.next 0) hh=some (.func fF [] [.ptr j.next 0,.ptr p.next 0]):=kH (by rw[kk.fm _ (.inl (.inr (.inr rfl)))];exact N) rfl;by_cases FX:i<jD np 5
 ·refine gJ ?_;refine ec D.AW (ec Aj ?_);have eP:∀i,fq [(V.I 0),(V.I 0),(V.I 0),(V.I 0),V.ed,(V.I 0)] [(0,1),(1,1),(2,1),(3,1),(4,1),(5,1)] [(0,(V.I 1)),(3,.I (i:Nat))]=some (.agg (ym (vl 1 0 0 (i:Nat) [] 0) .ed)):=λ_=>rfl;refine ec (eP _) ?_;show cP CS fF [.agg (ym (vl 1 0 0 (i:Nat) [] 0) .ed),.ptr j.next 0,.ptr p.next 0] hh _;refine UY D hq ⟨_,rfl,.nil⟩ (by show s.ee.length<_;omega) (by show s.cur.length<_;omega) (by show s.known.length<_;omega) λd R2 k2 R ag=>?_;refine fT ?_;obtain⟨k',rfl⟩:∃k',k=k' + 1:=⟨k-1,by omega⟩
  exact⟨k',by omega,R2,i+1,ig s (vl 1 0 0 (i:Nat) [] 0),rfl,rfl,rfl,rfl,rfl,rfl,rfl,rfl,by omega,kk.trans k2 λ_ h=>h,R,ag,by simp[ig,s1],by simp[ig,s2],by simp[ig,s3],s4,by rw[<-hp];rfl,Z⟩
 refine iY ?_;obtain rfl:k=0:=by omega
 have hs:s=params (jD np 5) 0 ⟨[],[],[],[],0⟩:=hp;refine ec D.AW (ec Aj ?_);have eP:fq [(V.I 0),(V.I 0),(V.I 0),(V.I 0),V.ed,(V.I 0)] [(0,1),(1,1),(2,1),(3,1),(4,1),(5,1)] [(0,(V.I 2)),(3,(V.I 5))]=some (.agg (ym (vl 2 0 0 5 [] 0) .ed)):=rfl;refine ec eP ?_;show cP CS fF [.agg (ym (vl 2 0 0 5 [] 0) .ed),.ptr j.next 0,.ptr p.next 0] hh _;refine UY D hq ⟨_,rfl,.nil⟩ (by show s.ee.length<_;omega) (by show s.cur.length<_;omega) (by show s.known.length<_;omega) λd R2 k2 R ag=>?_;have kq:=kk.trans k2 λ_ h=>h;have R:Dw _ _ d j.next q.next p.next ⟨ig s (vl 2 0 0 5 [] 0),[],[]⟩ R2:=R;have nh:I.next<=d.next:=kq.next;rw[fH];have D3:=R.grow (mr.new d (.cells 3 1 true false [V.I 0]));have g3:(d.new (.cells 3 1 true false [V.I 0])).get d.next=_:=eQ _ _;have aB:=kq.trans (R.zR (.cells 3 1 true false [V.I 0])) λ_ h=>h
 have C:∀l,d.next<=l->¬(F l\/l=h.next\/l=t.next)/\¬((∃c∈cs,c.pQ l)\/l=u.next)/\∀i,¬comp j.next q.next p.next R2 i l:=λl hl=>
  ⟨λhf=>by have:=R.fl l hf;omega,λhg=>by have:=(R.gx l hg).1;omega,λi hi=>by have:=(R.sig hi).2.1;omega⟩
 have aZ:(d.new (.cells 3 1 true false [V.I 0])).next=d.next+1:=rfl;generalize d.new (.cells 3 1 true false [V.I 0])=T at*;have aC:=po (o:=0) (qF:=[V.I 0]) g3 (by simp) rfl rfl;rw[aC,ef]
 let⟨D4,k4⟩:=D3.other (mr.put (S:=λl=>l=d.next) (.cells 3 1 true false [V.I 0]) rfl (by omega)) λl e=>by subst e;exact C _ (jj _)
 have g4:=fY (.cells 3 1 true false [V.I 0]) (show d.next<T.next by omega);have a0:(T.put d.next (.cells 3 1 true false [V.I 0])).next=T.next:=rfl;have aD:=aB.trans k4 λ_ h=>h;generalize T.put d.next (.cells 3 1 true false [V.I 0])=g at*;rw[fH];have D5:=D4.grow (mr.new g (.cells 83 1 true false [V.nilFunc]));have aE:=aD.trans (D4.zR (.cells 83 1 true false [V.nilFunc])) λ_ h=>h;have g5:(g.new (.cells 83 1 true false [V.nilFunc])).get g.next=_:=eQ _ _;have aF:=(eE (.cells 83 1 true false [V.nilFunc]) (by omega)).trans g4;have a1:(g.new (.cells 83 1 true false [V.nilFunc])).next=g.next+1:=rfl;generalize g.new (.cells 83 1 true false [V.nilFunc])=O at*;have aG:=po (o:=0) (qF:=[.func ft [] [.ptr d.next 0,.ptr h.next 0]]) g5 (by simp) rfl rfl;rw[aG,ef]
 let⟨D6,k6⟩:=D5.other (mr.put (S:=λl=>l=g.next) (.cells 83 1 true false [.func ft [] [.ptr d.next 0,.ptr h.next 0]]) rfl (by omega)) λl e=>by subst e;exact C _ (by omega)
 have g6:=fY (.cells 83 1 true false [.func ft [] [.ptr d.next 0,.ptr h.next 0]]) (show g.next<O.next by omega);have aH:=(gq (.cells 83 1 true false [.func ft [] [.ptr d.next 0,.ptr h.next 0]]) (show g.next<O.next by omega) (by omega)).trans aF;have a2:(O.put g.next (.cells 83 1 true false [.func ft [] [.ptr d.next 0,.ptr h.next 0]])).next=O.next:=rfl;have aI:=aE.trans k6 λ_ h=>h;generalize O.put g.next (.cells 83 1 true false [.func ft [] [.ptr d.next 0,.ptr h.next 0]])=r at*;rw[fH];have D7:=D6.grow (mr.new r (.cells 89 1 true false [V.nilFunc]));have aJ:=aI.trans (D6.zR (.cells 89 1 true false [V.nilFunc])) λ_ h=>h;have g7:(r.new (.cells 89 1 true false [V.nilFunc])).get r.next=_:=eQ _ _;have aK:=(eE (.cells 89 1 true false [V.nilFunc]) (by omega)).trans aH;have aL:=(eE (.cells 89 1 true false [V.nilFunc]) (by omega)).trans g6;have a3:(r.new (.cells 89 1 true false [V.nilFunc])).next=r.next+1:=rfl;generalize r.new (.cells 89 1 true false [V.nilFunc])=L at*;have aM:=po (o:=0) (qF:=[.func gh [] [.ptr j.next 0,.ptr g.next 0,.ptr q.next 0]]) g7 (by simp) rfl rfl;rw[aM,ef]
 let⟨D8,k8⟩:=D7.other (mr.put (S:=λl=>l=r.next) (.cells 89 1 true false [.func gh [] [.ptr j.next 0,.ptr g.next 0,.ptr q.next 0]]) rfl (by omega)) λl e=>by subst e;exact C _ (by omega)
 have g8:=fY (.cells 89 1 true false [.func gh [] [.ptr j.next 0,.ptr g.next 0,.ptr q.next 0]]) (show r.next<L.next by omega);have aN:=(gq (.cells 89 1 true false [.func gh [] [.ptr j.next 0,.ptr g.next 0,.ptr q.next 0]]) (show r.next<L.next by omega) (by omega)).trans aK;have aO:=(gq (.cells 89 1 true false [.func gh [] [.ptr j.next 0,.ptr g.next 0,.ptr q.next 0]]) (show r.next<L.next by omega) (by omega)).trans aL;have a4:(L.put r.next (.cells 89 1 true false [.func gh [] [.ptr j.next 0,.ptr g.next 0,.ptr q.next 0]])).next=L.next:=rfl;have E:=aJ.trans k8 λ_ h=>h;generalize L.put r.next (.cells 89 1 true false [.func gh [] [.ptr j.next 0,.ptr g.next 0,.ptr q.next 0]])=G at*;have aa:G.get h.next=some (.cells 24 1 true false [M,vs,.I np]):=by rw[E.fm _ (.inl (.inr (.inl rfl)))];exact r1
 have ab:G.get u.next=some (.cells 34 1 true false [(V.I 0),(V.I 0),V.ed,V.ed,V.ed]):=by rw[E.fm _ (.inr (.inr rfl))];exact r2
 have am:G.get t.next=some (.cells 82 1 true false [.func fF [] [.ptr j.next 0,.ptr p.next 0]]):=by rw[E.fm _ (.inl (.inr (.inr rfl)))];exact N
 have q8:Dq (λl=>(F l\/l=h.next\/l=t.next)\/l=g.next\/l=r.next) (λl=>((∃c∈cs,c.pQ l)\/l=u.next)\/l=d.next) G ⟨h.next,j.next,q.next,p.next,t.next,d.next,g.next,r.next⟩ ops ⟨ig s (vl 2 0 0 5 [] 0),[],[]⟩ R2:=
  { D :=(D8.more (λ_ h=> .inl h) λl hl=>hl.imp id λhl=>⟨by omega,(C l (by omega)).2.2,(C l (by omega)).2.1⟩).zaK λl hl=>hl.imp id λe=>by
      subst e;refine⟨by omega,?_,(C _ (jj _)).2.2⟩;rintro(z|z)
      ·exact(C _ (jj _)).1 z
      ·omega
    hq:=ag
    gl:= .inr rfl
    ga:=by
      have:(ig s (vl 2 0 0 5 [] 0)).pos=0:=Z;rw[show((⟨ig s (vl 2 0 0 5 [] 0),[],[]⟩:Dt).s.pos:Nat)=0 from this];exact aN
    fr:= .inl (.inr (.inl rfl))
    gr:=⟨M,vs,.I np,aa,(ak.fm λl hl=>E.fm l (.inl hl)).mono λ_ h=> .inl h⟩
    fp:= .inl (.inr (.inr rfl))
    gp:=⟨_,am⟩
    fn:= .inr (.inl rfl)
    gn:=⟨_,aO⟩
    fs:= .inr (.inr rfl)
    gs:=⟨_,g8⟩ }
 have aP:Sm (ig s (vl 2 0 0 5 [] 0)) 10:=⟨by simp[ig];omega,by simp[ig];omega,by simp[ig];omega,by simp[ig,s4],by simp[ig]⟩
 have an:iD (eI .i64) (λl=>(F l\/l=h.next\/l=t.next)\/l=g.next\/l=r.next) G x vs:=(al.fm λl hl=>E.fm l (.inl hl)).mono λ_ h=> .inl h;have J:Kp F (λl=>∃c∈cs,c.pQ l) h G:=ae.trans ⟨E.next,λl hl=>E.fm l (hl.imp .inl .inl)⟩ λ_ h=>h;show gO CS (gg (MA ⟨h.next,j.next,q.next,p.next,t.next,d.next,g.next,r.next⟩) []) G _;refine Ik q8 ho aP (by omega) λF9 a5 R9 f9 Y q9 n9=>?_
 refine zfO ho q9 (n9.le (by omega)) rfl (by rw[Y.fm _ (.inl (.inl (.inr (.inl rfl))))];exact aa) ((an.fm λl hl=>Y.fm l (.inl hl)).mono f9) (.inl (.inr rfl)) (by show u.next≠d.next;omega)
  ⟨_,(Y.fm _ (.inr ⟨.inl (.inr rfl),by show u.next≠d.next;omega⟩)).trans ab,rfl⟩ λU y f t1 aQ aR v aS=>?_
 have ao:(λl=>((∃c∈cs,c.pQ l)\/l=u.next)\/l=d.next) u.next:= .inl (.inr rfl);have A:=Y.trans aR f9;have aq:y.get u.next=some (.cells 34 1 true false [(V.I 0),(V.I 0),V.ed,V.ed,V.ed]):=by rw[A.fm _ (.inr ⟨ao,by show u.next≠d.next;omega⟩)];exact ab
 have Ma:u.next<y.next:=by have:=A.next;omega
 have ow:gj [.I 1,.I 2,f.vv,f.vb,f.vs]=true:=by simp only[fh,v.D.ov.one,v.D.ob.one,v.D.os.one];rfl
 have aT:=Iy (n:=5) aq rfl rfl ow;rw[aT,ef];have aU:=fY (.cells 34 1 true false [.I 1,.I 2,f.vv,f.vb,f.vs]) Ma;refine ec (A6 aU rfl) ?_;have W:=v.D.gx u.next ao;have ne:∀l,U l\/Loc f.vv l\/Loc f.vb l\/Loc f.vs l->l≠u.next:=by
  rintro l (hl|hl|hl|hl) rfl
  ·exact W.2.1 hl
  ·exact W.2.2 3 hl
  ·exact W.2.2 4 hl
  ·exact W.2.2 5 hl
 have X:∀l,l≠u.next->(y.put u.next (.cells 34 1 true false [.I 1,.I 2,f.vv,f.vb,f.vs])).get l=y.get l:=λl hl=>gq _ Ma λe=>hl e.symm;have K:∀l,F l->U l:=λl hl=>aQ l (f9 l (.inl (.inl hl)));have ac:∀l,F l->y.get l=h.get l:=λl hl=>(A.fm l (.inl (.inl (.inl hl)))).trans (J.fm l (.inl hl));refine H (λl=>U l\/Loc f.vv l\/Loc f.vb l\/Loc f.vs l) _ _ ⟨by have:=A.next;have:=J.next;show h.next<=y.next;omega,λl hl=>(X l (ne l (.inl (K l hl)))).trans (ac l hl),λl hl=> .inl (K l hl)⟩ ?_ ?_
 ·refine ⟨λl hl=>?_,λi c hc=>?_,P.K5⟩
  ·show l<y.next;rcases hl with hl|hl|hl|hl
   ·exact v.D.fl l hl
   ·exact(v.D.ov.y6 hl).2.1
   ·exact(v.D.ob.y6 hl).2.1
   ·exact(v.D.os.y6 hl).2.1
  ·have aV:=P.ok i c hc;have hm:=mG.2 ⟨i,hc⟩;have ar:∀l,c.pQ l->l<h.next:=λl hl=>(ad c hm l hl).1;have kc:∀l,c.pQ l->(y.put u.next (.cells 34 1 true false [.I 1,.I 2,f.vv,f.vb,f.vs])).get l=h.get l:=λl hl=>by
    have:=ar l hl;rw[X l (by omega),A.fm l (.inr ⟨.inl (.inl ⟨c,hm,hl⟩),by show l≠d.next;omega⟩)];exact J.fm l (.inr ⟨c,hm,hl⟩)
   refine c.mono (c.fm aV (λl hl=>(X l (ne l (.inl (K l hl)))).trans (ac l hl)) kc (by have:=A.next;have:=J.next;show h.next<=y.next;omega)) (λl hl=> .inl (K l hl)) λl hl aW=>?_;have gx:=v.D.gx l (.inl (.inl ⟨c,hm,hl⟩));rcases aW with z|z|z|z
   ·exact gx.2.1 z
   ·exact gx.2.2 3 z
   ·exact gx.2.2 4 z
   ·exact gx.2.2 5 z
 ·have eu:zG ops x np=⟨1,2,t1.s.ee,t1.blocks,t1.s.ez⟩:=by
   rw[aS];unfold zG;rw[hs]
  rw[eu];have k2:∀l,U l\/Loc f.vv l\/Loc f.vb l\/Loc f.vs l->(y.put u.next (.cells 34 1 true false [.I 1,.I 2,f.vv,f.vb,f.vs])).get l=y.get l:=λl hl=>X l (ne l hl);exact⟨f.vv,f.vb,f.vs,rfl,(v.D.ov.slR (λ_ h=> .inl h) λ_ h=> .inr (.inl h)).fm k2,(v.D.ob.slR (λ_ h=> .inl h) λ_ h=> .inr (.inr (.inl h))).fm k2,(v.D.os.slR (λ_ h=> .inl h) λ_ h=> .inr (.inr (.inr h))).fm k2⟩
