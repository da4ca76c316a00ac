/- Parts. -/
import Derived.Test.YtcoaokdoecgcbaaGreatDoorM22
set_option maxHeartbeats 4000000
namespace Go.Proofs.YtcoaokdoecgcbaaGreatDoor.Hx
open Un
section
variable{F F' G G':Nat->Prop}{h h':Hp}{lu ie jq:Nat}{ops:List Int}{t t':Dt}{R R':Rw}{Q:fo}
theorem SU{x:Vl}{w:List V}(D:Dw F G h lu ie jq t R)(hq:R.cc=R.vc)(r:eV.rel F h x w)(hv:t.s.ee.length<1000)(hc:t.s.cur.length<1000)(I:t.s.known.length<1000){K:Hp->Prop}
  (H:∀h' R',Kp F G h h'->Dw F G h' lu ie jq {t with s:=hO t.s x} R'->R'.cc=R'.vc->K h') :
  cP CS fx [.agg w,.ptr lu 0,.ptr jq 0] h λc a=>(h.next<=a.next/\vj (iK 3 1 1 (V.I 0) [(0,c)]) a λo d b=>((b.get a.next=some o/\O.beq o o=true)/\(eC (.ptr ie 0) b=some R.vk/\fg (eQ 3 1 8 R.vk d b) λe f=>(b.next<=f.next/\fg (gL 1 (.ptr ie 0) e f) λ_ m=>(f.next<=m.next/\K m))))):=by
 refine UB D hq r hv hc λg R1 n p i j=>⟨n.next,?_⟩
 rw[<-j];have u:iK 3 1 1 (V.I 0) [(0,V.I t.s.ee.length)]=some (.cells 3 1 true false [V.I t.s.ee.length],λl=> .slice l 0 1):=rfl;rw[u,hH];have q:=p.grow (lU.new g (.cells 3 1 true false [V.I t.s.ee.length]));have v:kV (g.new (.cells 3 1 true false [V.I t.s.ee.length])) 1 (.slice g.next 0 1)=some (1,[V.I t.s.ee.length]):=nC rfl
 let⟨v',J,a,y,z,A,B,C,D4⟩:=q.zdd (ys:=[t.s.ee.length]) v ⟨[V.I t.s.ee.length],[],rfl,rfl,trivial⟩ rfl rfl (by simp) (by show t.s.known.length+1<_;omega)
 have k:=y;refine⟨by grind[eJ,O.jA],q.Ae,?_⟩;simp[k,eh,A];have E:=(p.yA (.cells 3 1 true false [V.I t.s.ee.length])).trans C λ_ h=>h;exact⟨z,B,H _ _ (n.trans E λ_ h=>h) D4 i⟩
theorem za5{cs:List Pc}{v:List Int}{np:Int}{L vs:V}(O:ej F h cs)(ah:iH (eI .i64) F h ops L)(ai:iH (eI .i64) F h v vs)(ho:ops.length<9223372036854775808)
  (H:∀F' h' w,Sn F h F' h'->ej F' h' cs->eUn.rel F' h' (zn ops v np) w->Q (.agg w) h'):cP CS ng [.agg [L,vs,.I np]] h Q:=by
 refine FP rfl rfl ?_;unfold wW;have o1:gz [L,vs,.I np]=true:=by simp[ ah.one,ai.one];rfl
 rw[JF o1,fI,fI];have n1:(h.new (.cells 24 1 true false [L,vs,.I np])).next=h.next+1:=rfl;have g1:(h.new (.cells 24 1 true false [L,vs,.I np])).get h.next=_:=eJ _ _;have c1:Io h (h.new (.cells 24 1 true false [L,vs,.I np])):=lU.new _ _;generalize h.new (.cells 24 1 true false [L,vs,.I np])=t at*;have n2:(t.new (.cells 34 1 true false [(V.I 0),(V.I 0),V.ed,V.ed,V.ed])).next=t.next+1:=rfl;have g2:(t.new (.cells 34 1 true false [(V.I 0),(V.I 0),V.ed,V.ed,V.ed])).get t.next=_:=eJ _ _;have c2:=c1.trans (lU.new t (.cells 34 1 true false [(V.I 0),(V.I 0),V.ed,V.ed,V.ed]));have au:=(eE (.cells 34 1 true false [(V.I 0),(V.I 0),V.ed,V.ed,V.ed]) (by omega)).trans g1;generalize t.new (.cells 34 1 true false [(V.I 0),(V.I 0),V.ed,V.ed,V.ed])=g at*;have eB:fm [(V.I 0),(V.I 0),V.ed,V.ed,V.ed] [(0,1),(1,1),(2,1),(3,1),(4,1)] [(0,(V.I 1)),(1,(V.I 2)),(4,V.ed)]=some (.agg [.I 1,.I 2,.ed,.ed,.ed]):=rfl;refine ec eB ?_;rw[fI];have n3:(g.new (.cells 34 1 true false [(V.I 0),(V.I 0),V.ed,V.ed,V.ed])).next=g.next+1:=rfl;have g3:(g.new (.cells 34 1 true false [(V.I 0),(V.I 0),V.ed,V.ed,V.ed])).get g.next=_:=eJ _ _;have c3:=c2.trans (lU.new g (.cells 34 1 true false [(V.I 0),(V.I 0),V.ed,V.ed,V.ed]));have aw:=(eE (.cells 34 1 true false [(V.I 0),(V.I 0),V.ed,V.ed,V.ed]) (by omega)).trans au;have ax:=(eE (.cells 34 1 true false [(V.I 0),(V.I 0),V.ed,V.ed,V.ed]) (by omega)).trans g2;generalize g.new (.cells 34 1 true false [(V.I 0),(V.I 0),V.ed,V.ed,V.ed])=y at*;have l2:g.next<y.next:=by omega
 have e4:=GX (n:=5) (ws:=[.I 1,.I 2,.ed,.ed,.ed]) g3 rfl rfl rfl;rw[e4,eh];have n4:(y.put g.next (.cells 34 1 true false [.I 1,.I 2,.ed,.ed,.ed])).next=y.next:=rfl;have g4:=fT (.cells 34 1 true false [.I 1,.I 2,.ed,.ed,.ed]) l2;have aj:=(gi (.cells 34 1 true false [.I 1,.I 2,.ed,.ed,.ed]) l2 (by omega)).trans aw;have ay:=(gi (.cells 34 1 true false [.I 1,.I 2,.ed,.ed,.ed]) l2 (by omega)).trans ax
 have c4:Io h (y.put g.next (.cells 34 1 true false [.I 1,.I 2,.ed,.ed,.ed])):=
  c3.trans' (lU.put (.cells 34 1 true false [.I 1,.I 2,.ed,.ed,.ed]) rfl l2) (by omega)
 generalize y.put g.next (.cells 34 1 true false [.I 1,.I 2,.ed,.ed,.ed])=p at*;refine ec (by rfl) (ec (j5 aj rfl) ?_);show cP CS gj [.I np,.I ((5:Nat):Int)] p _;refine wL (by decide) (by decide) ?_;rw[fI];have g5:(p.new (.cells 22 1 true false [V.ed])).get p.next=_:=eJ _ _;have n5:(p.new (.cells 22 1 true false [V.ed])).next=p.next+1:=rfl;have c5:=c4.trans (lU.new p (.cells 22 1 true false [V.ed]));have k5:∀l,l<p.next->(p.new (.cells 22 1 true false [V.ed])).get l=p.get l:=by grind[eE]
 generalize p.new (.cells 22 1 true false [V.ed])=j at*;have az:fm [V.ed,(V.I 0),(V.I 0),V.ed,V.ed,(V.I 0)] [(0,1),(1,1),(2,1),(3,1),(4,1),(5,1)] []=some (.agg [V.ed,(V.I 0),(V.I 0),V.ed,V.ed,(V.I 0)]):=rfl;refine ec az ?_;rw[fI];have g6:(j.new (.cells 79 1 true false [V.ed,(V.I 0),(V.I 0),V.ed,V.ed,(V.I 0)])).get j.next=_:=eJ _ _;have n6:(j.new (.cells 79 1 true false [V.ed,(V.I 0),(V.I 0),V.ed,V.ed,(V.I 0)])).next=j.next+1:=rfl;have c6:=c5.trans (lU.new j (.cells 79 1 true false [V.ed,(V.I 0),(V.I 0),V.ed,V.ed,(V.I 0)]));have k6:∀l,l<j.next->(j.new (.cells 79 1 true false [V.ed,(V.I 0),(V.I 0),V.ed,V.ed,(V.I 0)])).get l=j.get l:=λl hl=>eE _ hl;generalize j.new (.cells 79 1 true false [V.ed,(V.I 0),(V.I 0),V.ed,V.ed,(V.I 0)])=h6 at*;have l5:j.next<h6.next:=by omega
 have e7:=GX (n:=6) (ws:=[V.ed,(V.I 0),(V.I 0),V.ed,V.ed,(V.I 0)]) g6 rfl rfl rfl;rw[e7,eh,fI];have g7:=fT (.cells 79 1 true false [V.ed,(V.I 0),(V.I 0),V.ed,V.ed,(V.I 0)]) l5;have n7:(h6.put j.next (.cells 79 1 true false [V.ed,(V.I 0),(V.I 0),V.ed,V.ed,(V.I 0)])).next=h6.next:=rfl;have k7:∀l,l≠j.next->(h6.put j.next (.cells 79 1 true false [V.ed,(V.I 0),(V.I 0),V.ed,V.ed,(V.I 0)])).get l=h6.get l:=λl hl=>gi _ l5 λe=>hl e.symm
 have c7:Io h (h6.put j.next (.cells 79 1 true false [V.ed,(V.I 0),(V.I 0),V.ed,V.ed,(V.I 0)])):=
  c6.trans' (lU.put (.cells 79 1 true false [V.ed,(V.I 0),(V.I 0),V.ed,V.ed,(V.I 0)]) rfl l5) λl hl e=>by have:=c4.next;omega
 generalize h6.put j.next (.cells 79 1 true false [V.ed,(V.I 0),(V.I 0),V.ed,V.ed,(V.I 0)])=r at*;have g8:(r.new (.cells 82 1 true false [V.nilFunc])).get r.next=_:=eJ _ _;have n8:(r.new (.cells 82 1 true false [V.nilFunc])).next=r.next+1:=rfl;have c8:=c7.trans (lU.new r (.cells 82 1 true false [V.nilFunc]));have k8:∀l,l<r.next->(r.new (.cells 82 1 true false [V.nilFunc])).get l=r.get l:=λl hl=>eE _ hl;generalize r.new (.cells 82 1 true false [V.nilFunc])=h8 at*;have l7:r.next<h8.next:=by omega
 have e9:=nY (o:=0) (oY:=[.func fx [] [.ptr g.next 0,.ptr j.next 0]]) g8 (by simp) rfl rfl;rw[e9,eh];have g9:=fT (.cells 82 1 true false [.func fx [] [.ptr g.next 0,.ptr j.next 0]]) l7;have n9:(h8.put r.next (.cells 82 1 true false [.func fx [] [.ptr g.next 0,.ptr j.next 0]])).next=h8.next:=rfl;have X:∀l,l≠r.next->(h8.put r.next (.cells 82 1 true false [.func fx [] [.ptr g.next 0,.ptr j.next 0]])).get l=h8.get l:=λl hl=>gi _ l7 λe=>hl e.symm
 have c9:Io h (h8.put r.next (.cells 82 1 true false [.func fx [] [.ptr g.next 0,.ptr j.next 0]])):=
  c8.trans' (lU.put (.cells 82 1 true false [.func fx [] [.ptr g.next 0,.ptr j.next 0]]) rfl l7) λl hl e=>by have:=c7.next;omega
 generalize h8.put r.next (.cells 82 1 true false [.func fx [] [.ptr g.next 0,.ptr j.next 0]])=G at*;have A:∀l,l≠j.next->l≠r.next->l<p.next->G.get l=p.get l:=λl a b c=>by rw[X l b,k8 l (by omega),k7 l a,k6 l (by omega),k5 l c]
 have nn:t.next=h.next+1/\g.next=h.next+2/\p.next=h.next+3/\j.next=h.next+4/\r.next=h.next+5/\G.next=h.next+6:=by omega
 let⟨m1,m2,m4,m5,m7,m9⟩:=nn
 have r1:G.get h.next=some (.cells 24 1 true false [L,vs,.I np]):=by rw[A _ (by omega) (by omega) (by omega)];exact aj
 have r2:G.get t.next=some (.cells 34 1 true false [(V.I 0),(V.I 0),V.ed,V.ed,V.ed]):=by rw[A _ (by omega) (by omega) (by omega)];exact ay
 have r3:G.get g.next=some (.cells 34 1 true false [.I 1,.I 2,.ed,.ed,.ed]):=by rw[A _ (by omega) (by omega) (by omega)];exact g4
 have r4:G.get p.next=some (.cells 22 1 true false [V.ed]):=by rw[X _ (by omega),k8 _ (by omega),k7 _ (by omega),k6 _ (by omega)];exact g5
 have r5:G.get j.next=some (.cells 79 1 true false [V.ed,(V.I 0),(V.I 0),V.ed,V.ed,(V.I 0)]):=by rw[X _ (by omega),k8 _ (by omega)];exact g7
 have ac:∀c∈cs,∀l,c.oJ l->l<h.next/\¬F l:=λc hc l hl=>by
  let⟨i,hi⟩:=oR.1 hc
  exact c.Iu (O.ok i c hi) l hl
 have aA:∀i l,comp g.next p.next j.next ⟨.ed,.ed,.ed,.ed,.ed,.ed,.ed⟩ i l->h.next+2<=l/\l<=h.next+4:=by
  intro i l hl
  match i,hl with
  |0,hl=>have:l=g.next:=hl;omega
  |1,hl=>have:l=p.next:=hl;omega
  |2,hl=>have:l=j.next:=hl;omega
  |3,hl=>exact hl.elim
  |4,hl=>exact hl.elim
  |5,hl=>exact hl.elim
  |6,hl=>exact hl.elim
  |7,hl=>exact hl.elim
 have D9:Dw (λl=>F l\/l=h.next\/l=r.next) (λl=>(∃c∈cs,c.oJ l)\/l=t.next) G g.next p.next j.next ⟨⟨[],[],[],[],0⟩,[],[]⟩ ⟨.ed,.ed,.ed,.ed,.ed,.ed,.ed⟩:=
  { fl := λl hl=>by rcases hl with hl|rfl|rfl;have:=O.fl l hl;omega;omega;omega
    gu:=r3
    gk:=r4
    gb:=r5
    nu:=⟨by omega,by rintro(hl|hl|hl);have:=O.fl _ hl;omega;omega;omega⟩
    nk:=⟨by omega,by rintro(hl|hl|hl);have:=O.fl _ hl;omega;omega;omega⟩
    nb:=⟨by omega,by rintro(hl|hl|hl);have:=O.fl _ hl;omega;omega;omega⟩
    ov:= .nil
    ob:= .nil
    os:= .nil
    ok:= .nil
    oc:= .nil
    sp:= .nil
    kc:=λ_ h=>h.elim
    gx := λl hl=>by
      have hb:(l<h.next/\¬F l)\/l=t.next:=by
        rcases hl with⟨c,hc,hl⟩|hl
        ·exact .inl (ac c hc l hl)
        ·exact .inr hl
      refine⟨by omega,?_,λi hi=>?_⟩
      ·rintro (y|y|y)
       ·rcases hb with p|p
        ·exact p.2 y
        ·have:=O.fl _ y;omega
       ·omega
       ·omega
      ·have:=aA i l hi;omega}
 have ae:Kp F (λl=>∃c∈cs,c.oJ l) h G:=⟨c9.next,λl hl=>c9.fh l (by
  rcases hl with hl|⟨c,hc,hl⟩
  ·exact O.fl l hl
  ·exact(ac c hc l hl).1) λh=>h⟩
 have M:G.get r.next=some (.cells 82 1 true false [.func fx [] [.ptr g.next 0,.ptr j.next 0]]):=g9;have ak:iH (eI .i64) (λl=>F l\/l=h.next\/l=r.next) G ops L:=(ah.fh λl hl=>ae.fh l (.inl hl)).mono λ_ h=> .inl h;have al:iH (eI .i64) (λl=>F l\/l=h.next\/l=r.next) G v vs:=(ai.fh λl hl=>ae.fh l (.inl hl)).mono λ_ h=> .inl h;have aW:=rO np (m:=5) (by decide)
 refine B8 (λk x1 x2 x3 x4 x5 x6 x7 x8 hh=>∃R' i s,x1 = .ptr h.next 0/\x2 = .ptr t.next 0/\x3 = .ptr g.next 0/\x4 = .I (iF np 5:Nat)/\x5 = .ptr p.next 0/\x6 = .ptr j.next 0/\x7 = .ptr r.next 0/\x8 = .I (i:Nat)/\
  i+k=iF np 5/\Kp (λl=>F l\/l=h.next\/l=r.next) (λl=>(∃c∈cs,c.oJ l)\/l=t.next) G hh/\Dw (λl=>F l\/l=h.next\/l=r.next) (λl=>(∃c∈cs,c.oJ l)\/l=t.next) hh g.next p.next j.next ⟨s,[],[]⟩ R'/\R'.cc=R'.vc/\
  s.ee.length=i/\s.cur.length=i/\s.known.length=i/\s.ez=[]/\params k i s=params (iF np 5) 0 ⟨[],[],[],[],0⟩/\s.pos=0) ?_
  ⟨_,0,⟨[],[],[],[],0⟩,rfl,rfl,rfl,rfl,rfl,rfl,rfl,rfl,by omega,Kp.refl _ _ _,D9,rfl,rfl,rfl,rfl,rfl,rfl,rfl⟩
 rintro k x1 x2 x3 x4 x5 x6 x7 x8 hh ⟨R1,i,s,rfl,rfl,rfl,rfl,rfl,rfl,rfl,rfl,aX,kk,D,hq,s1,s2,s3,s4,hp,Y⟩;unfold tG;have zt:eC (.ptr r.next 0) hh=some (.func fx [] [.ptr g.next 0,.ptr j.next 0]):=j5 (by rw[kk.fh _ (.inl (.inr (.inr rfl)))];exact M) rfl;by_cases EO:i<iF np 5
 ·refine gU ?_;refine ec D.Ae (ec zt ?_);have eP:∀i,fm [(V.I 0),(V.I 0),(V.I 0),(V.I 0),V.ed,(V.I 0)] [(0,1),(1,1),(2,1),(3,1),(4,1),(5,1)] [(0,(V.I 1)),(3,.I (i:Nat))]=some (.agg (yH (vl 1 0 0 (i:Nat) [] 0) .ed)):=λ_=>rfl;refine ec (eP _) ?_;show cP CS fx [.agg (yH (vl 1 0 0 (i:Nat) [] 0) .ed),.ptr g.next 0,.ptr j.next 0] hh _;refine SU D hq ⟨_,rfl,.nil⟩ (by show s.ee.length<_;omega) (by show s.cur.length<_;omega) (by show s.known.length<_;omega) λd R2 k2 P ag=>?_;refine gf ?_;obtain⟨k',rfl⟩:∃k',k=k' + 1:=⟨k-1,by omega⟩
  exact⟨k',by omega,R2,i+1,hO s (vl 1 0 0 (i:Nat) [] 0),rfl,rfl,rfl,rfl,rfl,rfl,rfl,rfl,by omega,kk.trans k2 λ_ h=>h,P,ag,by simp[hO,s1],by simp[hO,s2],by simp[hO,s3],s4,by rw[<-hp];rfl,Y⟩
 refine iY ?_;obtain rfl:k=0:=by omega
 have hs:s=params (iF np 5) 0 ⟨[],[],[],[],0⟩:=hp;refine ec D.Ae (ec zt ?_);have eP:fm [(V.I 0),(V.I 0),(V.I 0),(V.I 0),V.ed,(V.I 0)] [(0,1),(1,1),(2,1),(3,1),(4,1),(5,1)] [(0,(V.I 2)),(3,(V.I 5))]=some (.agg (yH (vl 2 0 0 5 [] 0) .ed)):=rfl;refine ec eP ?_;show cP CS fx [.agg (yH (vl 2 0 0 5 [] 0) .ed),.ptr g.next 0,.ptr j.next 0] hh _;refine SU D hq ⟨_,rfl,.nil⟩ (by show s.ee.length<_;omega) (by show s.cur.length<_;omega) (by show s.known.length<_;omega) λd R2 k2 P ag=>?_;have kq:=kk.trans k2 λ_ h=>h;have P:Dw _ _ d g.next p.next j.next ⟨hO s (vl 2 0 0 5 [] 0),[],[]⟩ R2:=P;have nh:G.next<=d.next:=kq.next;rw[fI];have D3:=P.grow (lU.new d (.cells 3 1 true false [V.I 0]));have g3:(d.new (.cells 3 1 true false [V.I 0])).get d.next=_:=eJ _ _;have aB:=kq.trans (P.yA (.cells 3 1 true false [V.I 0])) λ_ h=>h
 have B:∀l,d.next<=l->¬(F l\/l=h.next\/l=r.next)/\¬((∃c∈cs,c.oJ l)\/l=t.next)/\∀i,¬comp g.next p.next j.next R2 i l:=λl hl=>
  ⟨λhf=>by have:=P.fl l hf;omega,λhg=>by have:=(P.gx l hg).1;omega,λi hi=>by have:=(P.sig hi).2.1;omega⟩
 have aY:(d.new (.cells 3 1 true false [V.I 0])).next=d.next+1:=rfl;generalize d.new (.cells 3 1 true false [V.I 0])=R at*;have aC:=nY (o:=0) (oY:=[V.I 0]) g3 (by simp) rfl rfl;rw[aC,eh]
 let⟨D4,k4⟩:=D3.other (lU.put (S:=λl=>l=d.next) (.cells 3 1 true false [V.I 0]) rfl (by omega)) λl e=>by subst e;exact B _ (jv _)
 have g4:=fT (.cells 3 1 true false [V.I 0]) (show d.next<R.next by omega);have aZ:(R.put d.next (.cells 3 1 true false [V.I 0])).next=R.next:=rfl;have aD:=aB.trans k4 λ_ h=>h;generalize R.put d.next (.cells 3 1 true false [V.I 0])=f at*;rw[fI];have D5:=D4.grow (lU.new f (.cells 83 1 true false [V.nilFunc]));have aE:=aD.trans (D4.yA (.cells 83 1 true false [V.nilFunc])) λ_ h=>h;have g5:(f.new (.cells 83 1 true false [V.nilFunc])).get f.next=_:=eJ _ _;have aF:=(eE (.cells 83 1 true false [V.nilFunc]) (by omega)).trans g4;have a0:(f.new (.cells 83 1 true false [V.nilFunc])).next=f.next+1:=rfl;generalize f.new (.cells 83 1 true false [V.nilFunc])=N at*;have aG:=nY (o:=0) (oY:=[.func fq [] [.ptr d.next 0,.ptr h.next 0]]) g5 (by simp) rfl rfl;rw[aG,eh]
 let⟨D6,k6⟩:=D5.other (lU.put (S:=λl=>l=f.next) (.cells 83 1 true false [.func fq [] [.ptr d.next 0,.ptr h.next 0]]) rfl (by omega)) λl e=>by subst e;exact B _ (by omega)
 have g6:=fT (.cells 83 1 true false [.func fq [] [.ptr d.next 0,.ptr h.next 0]]) (show f.next<N.next by omega);have aH:=(gi (.cells 83 1 true false [.func fq [] [.ptr d.next 0,.ptr h.next 0]]) (show f.next<N.next by omega) (by omega)).trans aF;have a1:(N.put f.next (.cells 83 1 true false [.func fq [] [.ptr d.next 0,.ptr h.next 0]])).next=N.next:=rfl;have aI:=aE.trans k6 λ_ h=>h;generalize N.put f.next (.cells 83 1 true false [.func fq [] [.ptr d.next 0,.ptr h.next 0]])=q at*;rw[fI];have D7:=D6.grow (lU.new q (.cells 89 1 true false [V.nilFunc]));have aJ:=aI.trans (D6.yA (.cells 89 1 true false [V.nilFunc])) λ_ h=>h;have g7:(q.new (.cells 89 1 true false [V.nilFunc])).get q.next=_:=eJ _ _;have aK:=(eE (.cells 89 1 true false [V.nilFunc]) (by omega)).trans aH;have aL:=(eE (.cells 89 1 true false [V.nilFunc]) (by omega)).trans g6;have a2:(q.new (.cells 89 1 true false [V.nilFunc])).next=q.next+1:=rfl;generalize q.new (.cells 89 1 true false [V.nilFunc])=K at*;have e16:=nY (o:=0) (oY:=[.func fU [] [.ptr g.next 0,.ptr f.next 0,.ptr p.next 0]]) g7 (by simp) rfl rfl;rw[e16,eh]
 let⟨D8,k8⟩:=D7.other (lU.put (S:=λl=>l=q.next) (.cells 89 1 true false [.func fU [] [.ptr g.next 0,.ptr f.next 0,.ptr p.next 0]]) rfl (by omega)) λl e=>by subst e;exact B _ (by omega)
 have g8:=fT (.cells 89 1 true false [.func fU [] [.ptr g.next 0,.ptr f.next 0,.ptr p.next 0]]) (show q.next<K.next by omega);have aM:=(gi (.cells 89 1 true false [.func fU [] [.ptr g.next 0,.ptr f.next 0,.ptr p.next 0]]) (show q.next<K.next by omega) (by omega)).trans aK;have aN:=(gi (.cells 89 1 true false [.func fU [] [.ptr g.next 0,.ptr f.next 0,.ptr p.next 0]]) (show q.next<K.next by omega) (by omega)).trans aL;have a3:(K.put q.next (.cells 89 1 true false [.func fU [] [.ptr g.next 0,.ptr f.next 0,.ptr p.next 0]])).next=K.next:=rfl;have C:=aJ.trans k8 λ_ h=>h;generalize K.put q.next (.cells 89 1 true false [.func fU [] [.ptr g.next 0,.ptr f.next 0,.ptr p.next 0]])=E at*;have Z:E.get h.next=some (.cells 24 1 true false [L,vs,.I np]):=by rw[C.fh _ (.inl (.inr (.inl rfl)))];exact r1
 have aa:E.get t.next=some (.cells 34 1 true false [(V.I 0),(V.I 0),V.ed,V.ed,V.ed]):=by rw[C.fh _ (.inr (.inr rfl))];exact r2
 have am:E.get r.next=some (.cells 82 1 true false [.func fx [] [.ptr g.next 0,.ptr j.next 0]]):=by rw[C.fh _ (.inl (.inr (.inr rfl)))];exact M
 have q8:Dq (λl=>(F l\/l=h.next\/l=r.next)\/l=f.next\/l=q.next) (λl=>((∃c∈cs,c.oJ l)\/l=t.next)\/l=d.next) E ⟨h.next,g.next,p.next,j.next,r.next,d.next,f.next,q.next⟩ ops ⟨hO s (vl 2 0 0 5 [] 0),[],[]⟩ R2:=
  { D :=(D8.more (λ_ h=> .inl h) λl hl=>hl.imp id λhl=>⟨by omega,(B l (by omega)).2.2,(B l (by omega)).2.1⟩).zar λl hl=>hl.imp id λe=>by
      subst e;refine⟨by omega,?_,(B _ (jv _)).2.2⟩;rintro(y|y)
      ·exact(B _ (jv _)).1 y
      ·omega
    hq:=ag
    gl:= .inr rfl
    ga:=by
      have:(hO s (vl 2 0 0 5 [] 0)).pos=0:=Y;rw[show((⟨hO s (vl 2 0 0 5 [] 0),[],[]⟩:Dt).s.pos:Nat)=0 from this];exact aM
    fr:= .inl (.inr (.inl rfl))
    gr:=⟨L,vs,.I np,Z,(ak.fh λl hl=>C.fh l (.inl hl)).mono λ_ h=> .inl h⟩
    fp:= .inl (.inr (.inr rfl))
    gp:=⟨_,am⟩
    fn:= .inr (.inl rfl)
    gn:=⟨_,aN⟩
    fs:= .inr (.inr rfl)
    gs:=⟨_,g8⟩ }
 have aO:Sm (hO s (vl 2 0 0 5 [] 0)) 10:=⟨by simp[hO];omega,by simp[hO];omega,by simp[hO];omega,by simp[hO,s4],by simp[hO]⟩
 have an:iH (eI .i64) (λl=>(F l\/l=h.next\/l=r.next)\/l=f.next\/l=q.next) E v vs:=(al.fh λl hl=>C.fh l (.inl hl)).mono λ_ h=> .inl h;have I:Kp F (λl=>∃c∈cs,c.oJ l) h E:=ae.trans ⟨C.next,λl hl=>C.fh l (hl.imp .inl .inl)⟩ λ_ h=>h;show gO CS (fX (Lq ⟨h.next,g.next,p.next,j.next,r.next,d.next,f.next,q.next⟩) []) E _;refine FT q8 ho aO (by omega) λF9 a4 R9 f9 X q9 n9=>?_
 refine zeM ho q9 (n9.le (by omega)) rfl (by rw[X.fh _ (.inl (.inl (.inr (.inl rfl))))];exact Z) ((an.fh λl hl=>X.fh l (.inl hl)).mono f9) (.inl (.inr rfl)) (by show t.next≠d.next;omega)
  ⟨_,(X.fh _ (.inr ⟨.inl (.inr rfl),by show t.next≠d.next;omega⟩)).trans aa,rfl⟩ λT x Jp t1 aP aQ u aR=>?_
 have ao:(λl=>((∃c∈cs,c.oJ l)\/l=t.next)\/l=d.next) t.next:= .inl (.inr rfl);have z:=X.trans aQ f9;have aq:x.get t.next=some (.cells 34 1 true false [(V.I 0),(V.I 0),V.ed,V.ed,V.ed]):=by rw[z.fh _ (.inr ⟨ao,by show t.next≠d.next;omega⟩)];exact aa
 have OM:t.next<x.next:=by have:=z.next;omega
 have ow:gz [.I 1,.I 2,Jp.vv,Jp.vb,Jp.vs]=true:=by simp only[fe,u.D.ov.one,u.D.ob.one,u.D.os.one];rfl
 have aS:=GX (n:=5) aq rfl rfl ow;rw[aS,eh];have aT:=fT (.cells 34 1 true false [.I 1,.I 2,Jp.vv,Jp.vb,Jp.vs]) OM;refine ec (Av aT rfl) ?_;have U:=u.D.gx t.next ao;have ne:∀l,T l\/Loc Jp.vv l\/Loc Jp.vb l\/Loc Jp.vs l->l≠t.next:=by
  rintro l (hl|hl|hl|hl) rfl
  ·exact U.2.1 hl
  ·exact U.2.2 3 hl
  ·exact U.2.2 4 hl
  ·exact U.2.2 5 hl
 have W:∀l,l≠t.next->(x.put t.next (.cells 34 1 true false [.I 1,.I 2,Jp.vv,Jp.vb,Jp.vs])).get l=x.get l:=λl hl=>gi _ OM λe=>hl e.symm;have J:∀l,F l->T l:=λl hl=>aP l (f9 l (.inl (.inl hl)));have ab:∀l,F l->x.get l=h.get l:=λl hl=>(z.fh l (.inl (.inl (.inl hl)))).trans (I.fh l (.inl hl));refine H (λl=>T l\/Loc Jp.vv l\/Loc Jp.vb l\/Loc Jp.vs l) _ _ ⟨by have:=z.next;have:=I.next;show h.next<=x.next;omega,λl hl=>(W l (ne l (.inl (J l hl)))).trans (ab l hl),λl hl=> .inl (J l hl)⟩ ?_ ?_
 ·refine ⟨λl hl=>?_,λi c hc=>?_,O.Kv⟩
  ·show l<x.next;rcases hl with hl|hl|hl|hl
   ·exact u.D.fl l hl
   ·exact(u.D.ov.xN hl).2.1
   ·exact(u.D.ob.xN hl).2.1
   ·exact(u.D.os.xN hl).2.1
  ·have aU:=O.ok i c hc;have hm:=oR.2 ⟨i,hc⟩;have ar:∀l,c.oJ l->l<h.next:=λl hl=>(ac c hm l hl).1;have kc:∀l,c.oJ l->(x.put t.next (.cells 34 1 true false [.I 1,.I 2,Jp.vv,Jp.vb,Jp.vs])).get l=h.get l:=λl hl=>by
    have:=ar l hl;rw[W l (by omega),z.fh l (.inr ⟨.inl (.inl ⟨c,hm,hl⟩),by show l≠d.next;omega⟩)];exact I.fh l (.inr ⟨c,hm,hl⟩)
   refine c.mono (c.fh aU (λl hl=>(W l (ne l (.inl (J l hl)))).trans (ab l hl)) kc (by have:=z.next;have:=I.next;show h.next<=x.next;omega)) (λl hl=> .inl (J l hl)) λl hl aV=>?_;have gx:=u.D.gx l (.inl (.inl ⟨c,hm,hl⟩));rcases aV with y|y|y|y
   ·exact gx.2.1 y
   ·exact gx.2.2 3 y
   ·exact gx.2.2 4 y
   ·exact gx.2.2 5 y
 ·have eu:zn ops v np=⟨1,2,t1.s.ee,t1.blocks,t1.s.ez⟩:=by
   rw[aR];unfold zn;rw[hs]
  rw[eu];have k2:∀l,T l\/Loc Jp.vv l\/Loc Jp.vb l\/Loc Jp.vs l->(x.put t.next (.cells 34 1 true false [.I 1,.I 2,Jp.vv,Jp.vb,Jp.vs])).get l=x.get l:=λl hl=>W l (ne l hl);exact⟨Jp.vv,Jp.vb,Jp.vs,rfl,(u.D.ov.slR (λ_ h=> .inl h) λ_ h=> .inr (.inl h)).fh k2,(u.D.ob.slR (λ_ h=> .inl h) λ_ h=> .inr (.inr (.inl h))).fh k2,(u.D.os.slR (λ_ h=> .inl h) λ_ h=> .inr (.inr (.inr h))).fh k2⟩
end
