/- Parts. -/
import Derived.Test.YtnehpeeglbgfpaaDoorM22
set_option maxHeartbeats 4000000
namespace Go.Proofs.YtnehpeeglbgfpaaDoor.Hx
open Un
section
variable{F F' G G':Nat->Prop}{h h':Hp}{lu gR iX:Nat}{ops:List Int}{t t':Dt}{R R':Rw}{Q:fm}
theorem L3{x:Vl}{w:List V}(D:Dw F G h lu gR iX t R)(hq:R.cc=R.vc)(r:eV.rel F h x w)(u:t.s.ee.length<1000)(hc:t.s.cur.length<1000)(I:t.s.known.length<1000){K:Hp->Prop}
  (H:∀h' R',Kp F G h h'->Dw F G h' lu gR iX {t with s:=gX t.s x} R'->R'.cc=R'.vc->K h') :
  cP CS fe [.agg w,.ptr lu 0,.ptr iX 0] h λc a=>(h.next<=a.next/\uN (ju 3 1 1 (V.I 0) [(0,c)]) a λo d b=>((b.get a.next=some o/\O.beq o o=true)/\(en (.ptr gR 0) b=some R.vk/\fi (fh 3 1 8 R.vk d b) λe f=>(b.next<=f.next/\fi (gW 1 (.ptr gR 0) e f) λ_ m=>(f.next<=m.next/\K m))))):=by
 refine NM D hq r u hc λg R1 n p i j=>⟨n.next,?_⟩
 rw[<-j];have v:ju 3 1 1 (V.I 0) [(0,V.I t.s.ee.length)]=some (.cells 3 1 true false [V.I t.s.ee.length],λl=> .slice l 0 1):=rfl;rw[v,ij];have q:=p.grow (kX.new g (.cells 3 1 true false [V.I t.s.ee.length]));have y:kJ (g.new (.cells 3 1 true false [V.I t.s.ee.length])) 1 (.slice g.next 0 1)=some (1,[V.I t.s.ee.length]):=mI rfl
 let⟨v',J,a,z,A,B,C,E,D4⟩:=q.Vp (ys:=[t.s.ee.length]) y ⟨[V.I t.s.ee.length],[],rfl,rfl,trivial⟩ rfl rfl (by simp) (by show t.s.known.length+1<_;omega)
 have k:=z;refine⟨by grind[ez,O.ie],q.w9,?_⟩;simp[k,ej,B];have k4:=(p.vH (.cells 3 1 true false [V.I t.s.ee.length])).trans E λ_ h=>h;exact⟨A,C,H _ _ (n.trans k4 λ_ h=>h) D4 i⟩
theorem S6{cs:List Pc}{x:List Int}{np:Int}{M vs:V}(P:er F h cs)(ai:iL (eI .i64) F h ops M)(aj:iL (eI .i64) F h x vs)(ho:ops.length<9223372036854775808)
  (H:∀F' h' w,Sn F h F' h'->er F' h' cs->YV.rel F' h' (Ak ops x np) w->Q (.agg w) h'):cP CS ki [.agg [M,vs,.I np]] h Q:=by
 refine Bz rfl rfl ?_;unfold tZ;have o1:gh [M,vs,.I np]=true:=by simp[ ai.one,aj.one];rfl
 rw[BS o1,fJ,fJ];have n1:(h.new (.cells 24 1 true false [M,vs,.I np])).next=h.next+1:=rfl;have g1:(h.new (.cells 24 1 true false [M,vs,.I np])).get h.next=_:=ez _ _;have c1:AO h (h.new (.cells 24 1 true false [M,vs,.I np])):=kX.new _ _;generalize h.new (.cells 24 1 true false [M,vs,.I np])=u at*;have n2:(u.new (.cells 29 1 true false [(V.I 0),(V.I 0),V.ed,V.ed,V.ed])).next=u.next+1:=rfl;have g2:(u.new (.cells 29 1 true false [(V.I 0),(V.I 0),V.ed,V.ed,V.ed])).get u.next=_:=ez _ _;have c2:=c1.trans (kX.new u (.cells 29 1 true false [(V.I 0),(V.I 0),V.ed,V.ed,V.ed]));have ax:=(eR (.cells 29 1 true false [(V.I 0),(V.I 0),V.ed,V.ed,V.ed]) (by omega)).trans g1;generalize u.new (.cells 29 1 true false [(V.I 0),(V.I 0),V.ed,V.ed,V.ed])=j at*;have eB:fG [(V.I 0),(V.I 0),V.ed,V.ed,V.ed] [(0,1),(1,1),(2,1),(3,1),(4,1)] [(0,(V.I 1)),(1,(V.I 2)),(4,V.ed)]=some (.agg [.I 1,.I 2,.ed,.ed,.ed]):=rfl;refine ec eB ?_;rw[fJ];have n3:(j.new (.cells 29 1 true false [(V.I 0),(V.I 0),V.ed,V.ed,V.ed])).next=j.next+1:=rfl;have g3:(j.new (.cells 29 1 true false [(V.I 0),(V.I 0),V.ed,V.ed,V.ed])).get j.next=_:=ez _ _;have c3:=c2.trans (kX.new j (.cells 29 1 true false [(V.I 0),(V.I 0),V.ed,V.ed,V.ed]));have ay:=(eR (.cells 29 1 true false [(V.I 0),(V.I 0),V.ed,V.ed,V.ed]) (by omega)).trans ax;have az:=(eR (.cells 29 1 true false [(V.I 0),(V.I 0),V.ed,V.ed,V.ed]) (by omega)).trans g2;generalize j.new (.cells 29 1 true false [(V.I 0),(V.I 0),V.ed,V.ed,V.ed])=z at*;have l2:j.next<z.next:=by omega
 have e4:=BV (n:=5) (ws:=[.I 1,.I 2,.ed,.ed,.ed]) g3 rfl rfl rfl;rw[e4,ej];have n4:(z.put j.next (.cells 29 1 true false [.I 1,.I 2,.ed,.ed,.ed])).next=z.next:=rfl;have g4:=fO (.cells 29 1 true false [.I 1,.I 2,.ed,.ed,.ed]) l2;have ak:=(fS (.cells 29 1 true false [.I 1,.I 2,.ed,.ed,.ed]) l2 (by omega)).trans ay;have aA:=(fS (.cells 29 1 true false [.I 1,.I 2,.ed,.ed,.ed]) l2 (by omega)).trans az
 have c4:AO h (z.put j.next (.cells 29 1 true false [.I 1,.I 2,.ed,.ed,.ed])):=
  c3.trans' (kX.put (.cells 29 1 true false [.I 1,.I 2,.ed,.ed,.ed]) rfl l2) (by omega)
 generalize z.put j.next (.cells 29 1 true false [.I 1,.I 2,.ed,.ed,.ed])=q at*;refine ec (by rfl) (ec (js ak rfl) ?_);show cP CS fP [.I np,.I ((5:Nat):Int)] q _;refine zX (by decide) (by decide) ?_;rw[fJ];have g5:(q.new (.cells 22 1 true false [V.ed])).get q.next=_:=ez _ _;have n5:(q.new (.cells 22 1 true false [V.ed])).next=q.next+1:=rfl;have c5:=c4.trans (kX.new q (.cells 22 1 true false [V.ed]));have k5:∀l,l<q.next->(q.new (.cells 22 1 true false [V.ed])).get l=q.get l:=by grind[eR]
 generalize q.new (.cells 22 1 true false [V.ed])=p at*;have aB:fG [V.ed,(V.I 0),(V.I 0),V.ed,V.ed,(V.I 0)] [(0,1),(1,1),(2,1),(3,1),(4,1),(5,1)] []=some (.agg [V.ed,(V.I 0),(V.I 0),V.ed,V.ed,(V.I 0)]):=rfl;refine ec aB ?_;rw[fJ];have g6:(p.new (.cells 44 1 true false [V.ed,(V.I 0),(V.I 0),V.ed,V.ed,(V.I 0)])).get p.next=_:=ez _ _;have n6:(p.new (.cells 44 1 true false [V.ed,(V.I 0),(V.I 0),V.ed,V.ed,(V.I 0)])).next=p.next+1:=rfl;have c6:=c5.trans (kX.new p (.cells 44 1 true false [V.ed,(V.I 0),(V.I 0),V.ed,V.ed,(V.I 0)]));have k6:∀l,l<p.next->(p.new (.cells 44 1 true false [V.ed,(V.I 0),(V.I 0),V.ed,V.ed,(V.I 0)])).get l=p.get l:=λl d=>eR _ d;generalize p.new (.cells 44 1 true false [V.ed,(V.I 0),(V.I 0),V.ed,V.ed,(V.I 0)])=h6 at*;have l5:p.next<h6.next:=by omega
 have e7:=BV (n:=6) (ws:=[V.ed,(V.I 0),(V.I 0),V.ed,V.ed,(V.I 0)]) g6 rfl rfl rfl;rw[e7,ej,fJ];have g7:=fO (.cells 44 1 true false [V.ed,(V.I 0),(V.I 0),V.ed,V.ed,(V.I 0)]) l5;have n7:(h6.put p.next (.cells 44 1 true false [V.ed,(V.I 0),(V.I 0),V.ed,V.ed,(V.I 0)])).next=h6.next:=rfl;have k7:∀l,l≠p.next->(h6.put p.next (.cells 44 1 true false [V.ed,(V.I 0),(V.I 0),V.ed,V.ed,(V.I 0)])).get l=h6.get l:=λl d=>fS _ l5 λe=>d e.symm
 have c7:AO h (h6.put p.next (.cells 44 1 true false [V.ed,(V.I 0),(V.I 0),V.ed,V.ed,(V.I 0)])):=
  c6.trans' (kX.put (.cells 44 1 true false [V.ed,(V.I 0),(V.I 0),V.ed,V.ed,(V.I 0)]) rfl l5) λl d e=>by have:=c4.next;omega
 generalize h6.put p.next (.cells 44 1 true false [V.ed,(V.I 0),(V.I 0),V.ed,V.ed,(V.I 0)])=t at*;have g8:(t.new (.cells 47 1 true false [V.nilFunc])).get t.next=_:=ez _ _;have n8:(t.new (.cells 47 1 true false [V.nilFunc])).next=t.next+1:=rfl;have c8:=c7.trans (kX.new t (.cells 47 1 true false [V.nilFunc]));have k8:∀l,l<t.next->(t.new (.cells 47 1 true false [V.nilFunc])).get l=t.get l:=λl d=>eR _ d;generalize t.new (.cells 47 1 true false [V.nilFunc])=h8 at*;have l7:t.next<h8.next:=by omega
 have e9:=mg (o:=0) (mG:=[.func fe [] [.ptr j.next 0,.ptr p.next 0]]) g8 (by simp) rfl rfl;rw[e9,ej];have g9:=fO (.cells 47 1 true false [.func fe [] [.ptr j.next 0,.ptr p.next 0]]) l7;have n9:(h8.put t.next (.cells 47 1 true false [.func fe [] [.ptr j.next 0,.ptr p.next 0]])).next=h8.next:=rfl;have Y:∀l,l≠t.next->(h8.put t.next (.cells 47 1 true false [.func fe [] [.ptr j.next 0,.ptr p.next 0]])).get l=h8.get l:=λl d=>fS _ l7 λe=>d e.symm
 have c9:AO h (h8.put t.next (.cells 47 1 true false [.func fe [] [.ptr j.next 0,.ptr p.next 0]])):=
  c8.trans' (kX.put (.cells 47 1 true false [.func fe [] [.ptr j.next 0,.ptr p.next 0]]) rfl l7) λl d e=>by have:=c7.next;omega
 generalize h8.put t.next (.cells 47 1 true false [.func fe [] [.ptr j.next 0,.ptr p.next 0]])=I at*;have B:∀l,l≠p.next->l≠t.next->l<q.next->I.get l=q.get l:=λl a b c=>by rw[Y l b,k8 l (by omega),k7 l a,k6 l (by omega),k5 l c]
 have nn:u.next=h.next+1/\j.next=h.next+2/\q.next=h.next+3/\p.next=h.next+4/\t.next=h.next+5/\I.next=h.next+6:=by omega
 let⟨m1,m2,m4,m5,m7,m9⟩:=nn
 have r1:I.get h.next=some (.cells 24 1 true false [M,vs,.I np]):=by rw[B _ (by omega) (by omega) (by omega)];exact ak
 have r2:I.get u.next=some (.cells 29 1 true false [(V.I 0),(V.I 0),V.ed,V.ed,V.ed]):=by rw[B _ (by omega) (by omega) (by omega)];exact aA
 have r3:I.get j.next=some (.cells 29 1 true false [.I 1,.I 2,.ed,.ed,.ed]):=by rw[B _ (by omega) (by omega) (by omega)];exact g4
 have r4:I.get q.next=some (.cells 22 1 true false [V.ed]):=by rw[Y _ (by omega),k8 _ (by omega),k7 _ (by omega),k6 _ (by omega)];exact g5
 have r5:I.get p.next=some (.cells 44 1 true false [V.ed,(V.I 0),(V.I 0),V.ed,V.ed,(V.I 0)]):=by rw[Y _ (by omega),k8 _ (by omega)];exact g7
 have ae:∀c∈cs,∀l,c.me l->l<h.next/\¬F l:=λc hc l d=>by
  let⟨i,hi⟩:=mM.1 hc
  exact c.I8 (P.ok i c hi) l d
 have aC:∀i l,comp j.next q.next p.next ⟨.ed,.ed,.ed,.ed,.ed,.ed,.ed⟩ i l->h.next+2<=l/\l<=h.next+4:=by
  intro i l d
  match i,d with
  |0,d=>have:l=j.next:=d;omega
  |1,d=>have:l=q.next:=d;omega
  |2,d=>have:l=p.next:=d;omega
  |3,d=>exact d.elim
  |4,d=>exact d.elim
  |5,d=>exact d.elim
  |6,d=>exact d.elim
  |7,d=>exact d.elim
 have D9:Dw (λl=>F l\/l=h.next\/l=t.next) (λl=>(∃c∈cs,c.me l)\/l=u.next) I j.next q.next p.next ⟨⟨[],[],[],[],0⟩,[],[]⟩ ⟨.ed,.ed,.ed,.ed,.ed,.ed,.ed⟩:=
  { fl := λl d=>by rcases d with d|rfl|rfl;have:=P.fl l d;omega;omega;omega
    gu:=r3
    gk:=r4
    gb:=r5
    nu:=⟨by omega,by rintro(d|d|d);have:=P.fl _ d;omega;omega;omega⟩
    nk:=⟨by omega,by rintro(d|d|d);have:=P.fl _ d;omega;omega;omega⟩
    nb:=⟨by omega,by rintro(d|d|d);have:=P.fl _ d;omega;omega;omega⟩
    ov:= .nil
    ob:= .nil
    os:= .nil
    ok:= .nil
    oc:= .nil
    sp:= .nil
    kc:=λ_ h=>h.elim
    gx := λl d=>by
      have hb:(l<h.next/\¬F l)\/l=u.next:=by
        rcases d with⟨c,hc,d⟩|d
        ·exact .inl (ae c hc l d)
        ·exact .inr d
      refine⟨by omega,?_,λi hi=>?_⟩
      ·rintro (z|z|z)
       ·rcases hb with q|q
        ·exact q.2 z
        ·have:=P.fl _ z;omega
       ·omega
       ·omega
      ·have:=aC i l hi;omega}
 have ag:Kp F (λl=>∃c∈cs,c.me l) h I:=⟨c9.next,λl d=>c9.eD l (by
  rcases d with d|⟨c,hc,d⟩
  ·exact P.fl l d
  ·exact(ae c hc l d).1) λh=>h⟩
 have N:I.get t.next=some (.cells 47 1 true false [.func fe [] [.ptr j.next 0,.ptr p.next 0]]):=g9;have al:iL (eI .i64) (λl=>F l\/l=h.next\/l=t.next) I ops M:=(ai.eD λl d=>ag.eD l (.inl d)).mono λ_ h=> .inl h;have am:iL (eI .i64) (λl=>F l\/l=h.next\/l=t.next) I x vs:=(aj.eD λl d=>ag.eD l (.inl d)).mono λ_ h=> .inl h;have aZ:=wS np (m:=5) (by decide)
 refine yT (λk x1 x2 x3 x4 x5 x6 x7 x8 hh=>∃R' i s,x1 = .ptr h.next 0/\x2 = .ptr u.next 0/\x3 = .ptr j.next 0/\x4 = .I (jk np 5:Nat)/\x5 = .ptr q.next 0/\x6 = .ptr p.next 0/\x7 = .ptr t.next 0/\x8 = .I (i:Nat)/\
  i+k=jk np 5/\Kp (λl=>F l\/l=h.next\/l=t.next) (λl=>(∃c∈cs,c.me l)\/l=u.next) I hh/\Dw (λl=>F l\/l=h.next\/l=t.next) (λl=>(∃c∈cs,c.me l)\/l=u.next) hh j.next q.next p.next ⟨s,[],[]⟩ R'/\R'.cc=R'.vc/\
  s.ee.length=i/\s.cur.length=i/\s.known.length=i/\s.eh=[]/\params k i s=params (jk np 5) 0 ⟨[],[],[],[],0⟩/\s.pos=0) ?_
  ⟨_,0,⟨[],[],[],[],0⟩,rfl,rfl,rfl,rfl,rfl,rfl,rfl,rfl,by omega,Kp.refl _ _ _,D9,rfl,rfl,rfl,rfl,rfl,rfl,rfl⟩
 rintro k x1 x2 x3 x4 x5 x6 x7 x8 hh ⟨R1,i,s,rfl,rfl,rfl,rfl,rfl,rfl,rfl,rfl,a0,kk,D,hq,s1,s2,s3,s4,hp,Z⟩;unfold qH;have vV:en (.ptr t.next 0) hh=some (.func fe [] [.ptr j.next 0,.ptr p.next 0]):=js (by rw[kk.eD _ (.inl (.inr (.inr rfl)))];exact N) rfl;by_cases IX:i<jk np 5
 ·refine hV ?_;refine ec D.w9 (ec vV ?_);have eP:∀i,fG [(V.I 0),(V.I 0),(V.I 0),(V.I 0),V.ed,(V.I 0)] [(0,1),(1,1),(2,1),(3,1),(4,1),(5,1)] [(0,(V.I 1)),(3,.I (i:Nat))]=some (.agg (qT (vl 1 0 0 (i:Nat) [] 0) .ed)):=λ_=>rfl;refine ec (eP _) ?_;show cP CS fe [.agg (qT (vl 1 0 0 (i:Nat) [] 0) .ed),.ptr j.next 0,.ptr p.next 0] hh _;refine L3 D hq ⟨_,rfl,.nil⟩ (by show s.ee.length<_;omega) (by show s.cur.length<_;omega) (by show s.known.length<_;omega) λf R2 k2 R ah=>?_;refine gq ?_;obtain⟨k',rfl⟩:∃k',k=k' + 1:=⟨k-1,by omega⟩
  exact⟨k',by omega,R2,i+1,gX s (vl 1 0 0 (i:Nat) [] 0),rfl,rfl,rfl,rfl,rfl,rfl,rfl,rfl,by omega,kk.trans k2 λ_ h=>h,R,ah,by simp[gX,s1],by simp[gX,s2],by simp[gX,s3],s4,by rw[<-hp];rfl,Z⟩
 refine jG ?_;obtain rfl:k=0:=by omega
 have hs:s=params (jk np 5) 0 ⟨[],[],[],[],0⟩:=hp;refine ec D.w9 (ec vV ?_);have eP:fG [(V.I 0),(V.I 0),(V.I 0),(V.I 0),V.ed,(V.I 0)] [(0,1),(1,1),(2,1),(3,1),(4,1),(5,1)] [(0,(V.I 2)),(3,(V.I 5))]=some (.agg (qT (vl 2 0 0 5 [] 0) .ed)):=rfl;refine ec eP ?_;show cP CS fe [.agg (qT (vl 2 0 0 5 [] 0) .ed),.ptr j.next 0,.ptr p.next 0] hh _;refine L3 D hq ⟨_,rfl,.nil⟩ (by show s.ee.length<_;omega) (by show s.cur.length<_;omega) (by show s.known.length<_;omega) λf R2 k2 R ah=>?_;have kq:=kk.trans k2 λ_ h=>h;have R:Dw _ _ f j.next q.next p.next ⟨gX s (vl 2 0 0 5 [] 0),[],[]⟩ R2:=R;have nh:I.next<=f.next:=kq.next;rw[fJ];have D3:=R.grow (kX.new f (.cells 3 1 true false [V.I 0]));have g3:(f.new (.cells 3 1 true false [V.I 0])).get f.next=_:=ez _ _;have aD:=kq.trans (R.vH (.cells 3 1 true false [V.I 0])) λ_ h=>h
 have C:∀l,f.next<=l->¬(F l\/l=h.next\/l=t.next)/\¬((∃c∈cs,c.me l)\/l=u.next)/\∀i,¬comp j.next q.next p.next R2 i l:=λl d=>
  ⟨λhf=>by have:=R.fl l hf;omega,λhg=>by have:=(R.gx l hg).1;omega,λi hi=>by have:=(R.sig hi).2.1;omega⟩
 have a1:(f.new (.cells 3 1 true false [V.I 0])).next=f.next+1:=rfl;generalize f.new (.cells 3 1 true false [V.I 0])=T at*;have aE:=mg (o:=0) (mG:=[V.I 0]) g3 (by simp) rfl rfl;rw[aE,ej]
 let⟨D4,k4⟩:=D3.other (kX.put (S:=λl=>l=f.next) (.cells 3 1 true false [V.I 0]) rfl (by omega)) λl e=>by subst e;exact C _ (jn _)
 have g4:=fO (.cells 3 1 true false [V.I 0]) (show f.next<T.next by omega);have a2:(T.put f.next (.cells 3 1 true false [V.I 0])).next=T.next:=rfl;have aF:=aD.trans k4 λ_ h=>h;generalize T.put f.next (.cells 3 1 true false [V.I 0])=g at*;rw[fJ];have D5:=D4.grow (kX.new g (.cells 48 1 true false [V.nilFunc]));have aG:=aF.trans (D4.vH (.cells 48 1 true false [V.nilFunc])) λ_ h=>h;have g5:(g.new (.cells 48 1 true false [V.nilFunc])).get g.next=_:=ez _ _;have aH:=(eR (.cells 48 1 true false [V.nilFunc]) (by omega)).trans g4;have a3:(g.new (.cells 48 1 true false [V.nilFunc])).next=g.next+1:=rfl;generalize g.new (.cells 48 1 true false [V.nilFunc])=O at*;have aI:=mg (o:=0) (mG:=[.func eJ [] [.ptr f.next 0,.ptr h.next 0]]) g5 (by simp) rfl rfl;rw[aI,ej]
 let⟨D6,k6⟩:=D5.other (kX.put (S:=λl=>l=g.next) (.cells 48 1 true false [.func eJ [] [.ptr f.next 0,.ptr h.next 0]]) rfl (by omega)) λl e=>by subst e;exact C _ (by omega)
 have g6:=fO (.cells 48 1 true false [.func eJ [] [.ptr f.next 0,.ptr h.next 0]]) (show g.next<O.next by omega);have aJ:=(fS (.cells 48 1 true false [.func eJ [] [.ptr f.next 0,.ptr h.next 0]]) (show g.next<O.next by omega) (by omega)).trans aH;have a4:(O.put g.next (.cells 48 1 true false [.func eJ [] [.ptr f.next 0,.ptr h.next 0]])).next=O.next:=rfl;have aK:=aG.trans k6 λ_ h=>h;generalize O.put g.next (.cells 48 1 true false [.func eJ [] [.ptr f.next 0,.ptr h.next 0]])=r at*;rw[fJ];have D7:=D6.grow (kX.new r (.cells 54 1 true false [V.nilFunc]));have aL:=aK.trans (D6.vH (.cells 54 1 true false [V.nilFunc])) λ_ h=>h;have g7:(r.new (.cells 54 1 true false [V.nilFunc])).get r.next=_:=ez _ _;have aM:=(eR (.cells 54 1 true false [V.nilFunc]) (by omega)).trans aJ;have aN:=(eR (.cells 54 1 true false [V.nilFunc]) (by omega)).trans g6;have a5:(r.new (.cells 54 1 true false [V.nilFunc])).next=r.next+1:=rfl;generalize r.new (.cells 54 1 true false [V.nilFunc])=L at*;have aO:=mg (o:=0) (mG:=[.func fM [] [.ptr j.next 0,.ptr g.next 0,.ptr q.next 0]]) g7 (by simp) rfl rfl;rw[aO,ej]
 let⟨D8,k8⟩:=D7.other (kX.put (S:=λl=>l=r.next) (.cells 54 1 true false [.func fM [] [.ptr j.next 0,.ptr g.next 0,.ptr q.next 0]]) rfl (by omega)) λl e=>by subst e;exact C _ (by omega)
 have g8:=fO (.cells 54 1 true false [.func fM [] [.ptr j.next 0,.ptr g.next 0,.ptr q.next 0]]) (show r.next<L.next by omega);have aP:=(fS (.cells 54 1 true false [.func fM [] [.ptr j.next 0,.ptr g.next 0,.ptr q.next 0]]) (show r.next<L.next by omega) (by omega)).trans aM;have aQ:=(fS (.cells 54 1 true false [.func fM [] [.ptr j.next 0,.ptr g.next 0,.ptr q.next 0]]) (show r.next<L.next by omega) (by omega)).trans aN;have a6:(L.put r.next (.cells 54 1 true false [.func fM [] [.ptr j.next 0,.ptr g.next 0,.ptr q.next 0]])).next=L.next:=rfl;have E:=aL.trans k8 λ_ h=>h;generalize L.put r.next (.cells 54 1 true false [.func fM [] [.ptr j.next 0,.ptr g.next 0,.ptr q.next 0]])=G at*;have aa:G.get h.next=some (.cells 24 1 true false [M,vs,.I np]):=by rw[E.eD _ (.inl (.inr (.inl rfl)))];exact r1
 have ab:G.get u.next=some (.cells 29 1 true false [(V.I 0),(V.I 0),V.ed,V.ed,V.ed]):=by rw[E.eD _ (.inr (.inr rfl))];exact r2
 have an:G.get t.next=some (.cells 47 1 true false [.func fe [] [.ptr j.next 0,.ptr p.next 0]]):=by rw[E.eD _ (.inl (.inr (.inr rfl)))];exact N
 have q8:Dq (λl=>(F l\/l=h.next\/l=t.next)\/l=g.next\/l=r.next) (λl=>((∃c∈cs,c.me l)\/l=u.next)\/l=f.next) G ⟨h.next,j.next,q.next,p.next,t.next,f.next,g.next,r.next⟩ ops ⟨gX s (vl 2 0 0 5 [] 0),[],[]⟩ R2:=
  { D :=(D8.more (λ_ h=> .inl h) λl d=>d.imp id λd=>⟨by omega,(C l (by omega)).2.2,(C l (by omega)).2.1⟩).Rl λl d=>d.imp id λe=>by
      subst e;refine⟨by omega,?_,(C _ (jn _)).2.2⟩;rintro(z|z)
      ·exact(C _ (jn _)).1 z
      ·omega
    hq:=ah
    gl:= .inr rfl
    ga:=by
      have:(gX s (vl 2 0 0 5 [] 0)).pos=0:=Z;rw[show((⟨gX s (vl 2 0 0 5 [] 0),[],[]⟩:Dt).s.pos:Nat)=0 from this];exact aP
    fr:= .inl (.inr (.inl rfl))
    gr:=⟨M,vs,.I np,aa,(al.eD λl d=>E.eD l (.inl d)).mono λ_ h=> .inl h⟩
    fp:= .inl (.inr (.inr rfl))
    gp:=⟨_,an⟩
    fn:= .inr (.inl rfl)
    gn:=⟨_,aQ⟩
    fs:= .inr (.inr rfl)
    gs:=⟨_,g8⟩ }
 have aR:Sm (gX s (vl 2 0 0 5 [] 0)) 10:=⟨by simp[gX];omega,by simp[gX];omega,by simp[gX];omega,by simp[gX,s4],by simp[gX]⟩
 have ao:iL (eI .i64) (λl=>(F l\/l=h.next\/l=t.next)\/l=g.next\/l=r.next) G x vs:=(am.eD λl d=>E.eD l (.inl d)).mono λ_ h=> .inl h;have J:Kp F (λl=>∃c∈cs,c.me l) h G:=ag.trans ⟨E.next,λl d=>E.eD l (d.imp .inl .inl)⟩ λ_ h=>h;show gv CS (fQ (Fc ⟨h.next,j.next,q.next,p.next,t.next,f.next,g.next,r.next⟩) []) G _;refine Bx q8 ho aR (by omega) λF9 a7 R9 f9 Y q9 n9=>?_
 refine Xv ho q9 (n9.le (by omega)) rfl (by rw[Y.eD _ (.inl (.inl (.inr (.inl rfl))))];exact aa) ((ao.eD λl d=>Y.eD l (.inl d)).mono f9) (.inl (.inr rfl)) (by show u.next≠f.next;omega)
  ⟨_,(Y.eD _ (.inr ⟨.inl (.inr rfl),by show u.next≠f.next;omega⟩)).trans ab,rfl⟩ λU y DA t1 aS aT v aU=>?_
 have aq:(λl=>((∃c∈cs,c.me l)\/l=u.next)\/l=f.next) u.next:= .inl (.inr rfl);have A:=Y.trans aT f9;have ar:y.get u.next=some (.cells 29 1 true false [(V.I 0),(V.I 0),V.ed,V.ed,V.ed]):=by rw[A.eD _ (.inr ⟨aq,by show u.next≠f.next;omega⟩)];exact ab
 have au:u.next<y.next:=by have:=A.next;omega
 have ow:gh [.I 1,.I 2,DA.vv,DA.vb,DA.vs]=true:=by simp only[fc,v.D.ov.one,v.D.ob.one,v.D.os.one];rfl
 have aV:=BV (n:=5) ar rfl rfl ow;rw[aV,ej];have aW:=fO (.cells 29 1 true false [.I 1,.I 2,DA.vv,DA.vb,DA.vs]) au;refine ec (y6 aW rfl) ?_;have W:=v.D.gx u.next aq;have ne:∀l,U l\/Loc DA.vv l\/Loc DA.vb l\/Loc DA.vs l->l≠u.next:=by
  rintro l (d|d|d|d) rfl
  ·exact W.2.1 d
  ·exact W.2.2 3 d
  ·exact W.2.2 4 d
  ·exact W.2.2 5 d
 have X:∀l,l≠u.next->(y.put u.next (.cells 29 1 true false [.I 1,.I 2,DA.vv,DA.vb,DA.vs])).get l=y.get l:=λl d=>fS _ au λe=>d e.symm;have K:∀l,F l->U l:=λl d=>aS l (f9 l (.inl (.inl d)));have ac:∀l,F l->y.get l=h.get l:=λl d=>(A.eD l (.inl (.inl (.inl d)))).trans (J.eD l (.inl d));refine H (λl=>U l\/Loc DA.vv l\/Loc DA.vb l\/Loc DA.vs l) _ _ ⟨by have:=A.next;have:=J.next;show h.next<=y.next;omega,λl d=>(X l (ne l (.inl (K l d)))).trans (ac l d),λl d=> .inl (K l d)⟩ ?_ ?_
 ·refine ⟨λl d=>?_,λi c hc=>?_,P.B5⟩
  ·show l<y.next;rcases d with d|d|d|d
   ·exact v.D.fl l d
   ·exact(v.D.ov.tu d).2.1
   ·exact(v.D.ob.tu d).2.1
   ·exact(v.D.os.tu d).2.1
  ·have aX:=P.ok i c hc;have hm:=mM.2 ⟨i,hc⟩;have aw:∀l,c.me l->l<h.next:=λl d=>(ae c hm l d).1;have kc:∀l,c.me l->(y.put u.next (.cells 29 1 true false [.I 1,.I 2,DA.vv,DA.vb,DA.vs])).get l=h.get l:=λl d=>by
    have:=aw l d;rw[X l (by omega),A.eD l (.inr ⟨.inl (.inl ⟨c,hm,d⟩),by show l≠f.next;omega⟩)];exact J.eD l (.inr ⟨c,hm,d⟩)
   refine c.mono (c.eD aX (λl d=>(X l (ne l (.inl (K l d)))).trans (ac l d)) kc (by have:=A.next;have:=J.next;show h.next<=y.next;omega)) (λl d=> .inl (K l d)) λl d aY=>?_;have gx:=v.D.gx l (.inl (.inl ⟨c,hm,d⟩));rcases aY with z|z|z|z
   ·exact gx.2.1 z
   ·exact gx.2.2 3 z
   ·exact gx.2.2 4 z
   ·exact gx.2.2 5 z
 ·have eu:Ak ops x np=⟨1,2,t1.s.ee,t1.blocks,t1.s.eh⟩:=by
   rw[aU];unfold Ak;rw[hs]
  rw[eu];have k2:∀l,U l\/Loc DA.vv l\/Loc DA.vb l\/Loc DA.vs l->(y.put u.next (.cells 29 1 true false [.I 1,.I 2,DA.vv,DA.vb,DA.vs])).get l=y.get l:=λl d=>X l (ne l d);exact⟨DA.vv,DA.vb,DA.vs,rfl,(v.D.ov.Wa (λ_ h=> .inl h) λ_ h=> .inr (.inl h)).eD k2,(v.D.ob.Wa (λ_ h=> .inl h) λ_ h=> .inr (.inr (.inl h))).eD k2,(v.D.os.Wa (λ_ h=> .inl h) λ_ h=> .inr (.inr (.inr h))).eD k2⟩
end
