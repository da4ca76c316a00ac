/- Parts. -/
import Derived.Test.YtcoaokdoecgcbaaGreatDoorM21
set_option maxHeartbeats 4000000
namespace Go.Proofs.YtcoaokdoecgcbaaGreatDoor.Hx
open Un
section
variable{F F' G G':Nat->Prop}{h h':Hp}{L:Lc}{ops:List Int}{t t':Dt}{R R':Rw}{Q:fo}
theorem Sm.app{s:Ds}{n:Nat}(a:Sm s n)(ys:List Nat):Sm {s with known:=s.known++ys} (n+ys.length):=
 ⟨by have:=a.v;grind,by have:=a.c;grind,by have:=a.k;simp_all,by have:=a.st;grind,by have:=a.k0;grind⟩
theorem PT:∀ys,gj (oJ ys)=true
 |[]=>rfl
 |y::ys=>by show gj (V.I y::oJ ys)=true;rw[fh,PT ys];rfl
theorem zbh(q:Dq F G h L ops t R){n:Nat}(f:Sm t.s n)(g:n<1000)(ys:List Nat)(i:0<ys.length)(j:ys.length<=5){c:Option (O×(Nat->V))}(m:c=some (O.cells 3 1 true false (oJ ys),λl=> .slice l 0 ys.length)){K:Hp->Prop}
  (H:∀h' R',Kp F G h h'->Dq F G h' L ops {t with s:={t.s with known:=t.s.known++ys} } R'->K h') :
  oP (eD (.ptr L.im 0) h) λa=>hV c h λv o=>eJ (fg 3 1 8 a v o) λw p=>eJ (gw 1 (.ptr L.im 0) w p) λ_ d=>K d:=by
 subst m;refine ec q.D.AW ?_;rw[fH];have r:=q.D.grow (mr.new h (.cells 3 1 true false (oJ ys)));have hl:(oJ ys).length=ys.length:=by simp[oJ]
 let⟨new,e1,e2⟩:=ER (n:=ys.length) (off:=0) (eQ h (.cells 3 1 true false (oJ ys))) (by omega)
 have u:new=oJ ys:=by rw[e2,wBU,Vz (by omega)]
 subst u;have B:=f.k;have x:=PT ys
 let⟨v',d,C,y,E,z,I,A,D4⟩:=r.zeR e1 (AV _ _ ys) (by omega) x i (by omega)
 have b:=y;rw[b,ef,z];have e:=(q.D.zR (.cells 3 1 true false (oJ ys))).trans A λ_ h=>h;exact H _ _ e (q.step e D4 (by grind) q.gl q.hq rfl)
theorem PX(q:Dq F G h L ops t R){n:Nat}(c:Sm t.s n)(b:n<999)(x:Vl){w:V}{a:V}(d:iD eN F h x.args a)(e:w = .agg (ym x a)){K:fo}
  (H:∀h' R',Kp F G h h'->R'.vk=R.vk->Dq F G h' L ops {t with s:=put t.s x} R'->K (.I t.s.ee.length) h'):gO CS (gg (zeg L) [w]) h K:=by
 subst e;show cP CS fF [.agg (ym x a),.ptr L.lu 0,.ptr L.jL 0] h K;exact Lj q c b ⟨a,rfl,d⟩ H
def QI(ops:List Int)(t:Dt):Dt:=end_ {t with s:=(fO ops t.s).2} 1 0 [t.blocks.length+1] 0 [t.blocks.length,t.blocks.length+2]
def VY(ops:List Int)(t:Dt):Ds:=put (QI ops t).s (vl 21 0 0 0 [(fO ops t.s).1,0] 0)
def DC(ops:List Int)(t:Dt):Nat:=(fO ops (VY ops t)).1
def Wx(ops:List Int)(t:Dt):Ds:=put (fO ops (VY ops t)).2 (vl 21 0 0 0 [DC ops t,t.s.ee.length] 0)
def Sv(ops:List Int)(t:Dt):Ds:={Wx ops t with known:=(Wx ops t).known++[t.s.ee.length,t.s.ee.length+1]}
def RQ(ops:List Int)(t:Dt):Ds:=put (fI ops (Sv ops t)).2 (vl 23 0 0 0 [] (fI ops (Sv ops t)).1)
def uW(ops:List Int)(t:Dt):Ds:=ig (put (RQ ops t) (vl 2 0 0 1 [] 0)) (vl 4 t.s.ee.length (t.s.ee.length+3) 0 [] 0)
def nC(ops:List Int)(t:Dt):Dt:=end_ {QI ops t with s:=uW ops t} 2 t.s.ee.length [t.blocks.length+2,t.blocks.length+3] 0 [t.blocks.length+1]
def pI(ops:List Int)(t:Dt):Ds:=setArgs (row ops (nC ops t).s) t.s.ee.length [(fO ops t.s).1,t.s.ee.length+4]
def lR(ops:List Int)(t:Dt):Ds:=if(num ops (pI ops t) 3).1=0 then setArgs (num ops (pI ops t) 3).2 t.s.ee.length [(fO ops t.s).1,(row ops (nC ops t).s).known.getLastD 0] else(num ops (pI ops t) 3).2
def Ld(ops:List Int)(t:Dt):Ds:=setArgs (lR ops t) (t.s.ee.length+1) [DC ops t,(row ops (nC ops t).s).known.getLastD 0]
def TV(ops:List Int)(t:Dt):Dt:=end_ {nC ops t with s:=cut (uW ops t).known.length (Ld ops t)} 1 0 [t.blocks.length+1] 0 [t.blocks.length+1]
theorem NO(ops:List Int)(t:Dt):∃x,(RQ ops t).ee=t.s.ee++[vl 21 0 0 0 [(fO ops t.s).1,0] 0,vl 21 0 0 0 [DC ops t,t.s.ee.length] 0,x]:=by
 refine⟨vl 23 0 0 0 [] (fI ops (Sv ops t)).1,?_⟩;unfold RQ;rw[put,(Bh ops (Sv ops t)).1];show(Wx ops t).ee++[_]=_;show((VY ops t).ee++[_])++[_]=_;show(((QI ops t).s.ee++[_])++[_])++[_]=_;simp[Bo,List.singleton_append];rfl
theorem XT(ops:List Int)(t:Dt):loop ops t = {TV ops t with s:=row ops (TV ops t).s}:=by
 let⟨x,hx⟩:=NO ops t
 have e:(RQ ops t).ee.length=t.s.ee.length+3:=by rw[hx];simp
 unfold TV Ld lR pI nC uW;rw[show t.s.ee.length+4=(t.s.ee.length+3)+1 from rfl,<-e];rfl
theorem zdE(q:Dq F G h L ops t R)(ho:ops.length<9223372036854775808){n:Nat}(hn:Sm t.s n)(cm:n<800)(hb:t.blocks.length<900){K:QP6}
  (H:∀F' h' R' e,(∀l,F l->F' l)->Kp F (gm G L.pb) h h'->Dq F' G h' L ops (end_ {QI ops t with s:=e} 2 t.s.ee.length [t.blocks.length+2,t.blocks.length+3] 0 []) R'->Sm e (n+10)->
   e=uW ops t->
   e.ee.length=t.s.ee.length+5->
   K (.I ((fO ops t.s).1:Nat)) (.I (t.blocks.length+1:Nat)) (.I t.s.ee.length) (.I ((t.s.ee.length+1:Nat):Int)) (.I ((t.s.ee.length+4:Nat):Int)) (.I ((t.blocks.length+1:Nat):Int)) h') :
  oP (eD (.ptr L.im 0) h) λB=>
  oP (eD (.ptr L.rz 0) h) λac=>
  oP (eD (.ptr L.im 0) h) λad=>
  oP (fM ad) λae=>
  gO CS (gg ac [ae]) h λag f=>
  (h.next<=f.next/\
  oP (gQ 1 B ag) λah=>
  oP (eD ah f) λC=>
  ((eD (.ptr L.im 0) f=some B)/\
  oP (fV 3 (.ptr L.lu 0)) λai=>
  oP (eD ai f) λaj=>
  oP (fM aj) λak=>
  oP (eh .add 3 ak (V.I 1)) λal=>
  hV (iW 3 1 1 (V.I 0) [(0,al)]) f λam bi=>
  oP (fq [V.ed,(V.I 0),(V.I 0),V.ed,V.ed,(V.I 0)] [(0,1),(1,1),(2,1),(3,1),(4,1),(5,1)] [(1,(V.I 1)),(3,am)]) λan=>
  gO CS (gg (L8 L) [an]) bi λE bj=>
  oP (eh .add 3 E (V.I 1)) λb=>
  oP (eh .add 3 b (V.I 1)) λao=>
  hV (iW 3 1 2 (V.I 0) [(0,E),(1,ao)]) bj λaq bm=>
  oP (fV 4 (.ptr L.jL 0)) λar=>
  eJ (gw 1 ar aq bm) λcf au=>
  oP (eD (.ptr L.Aj 0) au) λaw=>
  hV (iW 3 1 2 (V.I 0) [(0,C),(1,(V.I 0))]) au λax bo=>
  oP (fq [(V.I 0),(V.I 0),(V.I 0),(V.I 0),V.ed,(V.I 0)] [(0,1),(1,1),(2,1),(3,1),(4,1),(5,1)] [(0,(V.I 21)),(4,ax)]) λay=>
  gO CS (gg aw [ay]) bo λa c=>
  oP (eD (.ptr L.Aj 0) c) λI=>
  oP (eD (.ptr L.im 0) c) λJ=>
  oP (eD (.ptr L.rz 0) c) λaz=>
  oP (eD (.ptr L.im 0) c) λaA=>
  oP (fM aA) λaB=>
  gO CS (gg az [aB]) c λaC k=>
  (c.next<=k.next/\
  oP (gQ 1 J aC) λM=>
  oP (eD M k) λN=>
  vV (iW 3 1 2 (V.I 0) [(0,N),(1,a)]) k λo9 aD d=>
  oP (fq [(V.I 0),(V.I 0),(V.I 0),(V.I 0),V.ed,(V.I 0)] [(0,1),(1,1),(2,1),(3,1),(4,1),(5,1)] [(0,(V.I 21)),(4,aD)]) λaE=>
  ((d.get (k.next)=some o9/\O.beq o9 o9=true)/\
  ((eD M d=some N)/\
  ((eD (.ptr L.im 0) d=some J)/\
  ((eD (.ptr L.Aj 0) d=some I)/\
  gO CS (gg I [aE]) d λP U=>
  (d.next<=U.next/\
  oP (eD (.ptr L.im 0) U) λaF=>
  hV (iW 3 1 2 (V.I 0) [(0,a),(1,P)]) U λaG br=>
  eJ (fg 3 1 8 aF aG br) λaH bt=>
  eJ (gw 1 (.ptr L.im 0) aH bt) λcg r=>
  oP (eD (.ptr L.Aj 0) r) λQ=>
  oP (eD (.ptr L.Qq 0) r) λaI=>
  gO CS (gg aI []) r λaJ u=>
  (r.next<=u.next/\
  oP (fq [(V.I 0),(V.I 0),(V.I 0),(V.I 0),V.ed,(V.I 0)] [(0,1),(1,1),(2,1),(3,1),(4,1),(5,1)] [(0,(V.I 23)),(5,aJ)]) λaK=>
  ((eD (.ptr L.Aj 0) u=some Q)/\
  gO CS (gg Q [aK]) u λci W=>
  (u.next<=W.next/\
  oP (eD (.ptr L.Aj 0) W) λaL=>
  oP (fq [(V.I 0),(V.I 0),(V.I 0),(V.I 0),V.ed,(V.I 0)] [(0,1),(1,1),(2,1),(3,1),(4,1),(5,1)] [(0,(V.I 2)),(3,(V.I 1))]) λaM=>
  gO CS (gg aL [aM]) W λaN aO=>
  oP (eD (.ptr L.Aj 0) aO) λaP=>
  oP (fq [(V.I 0),(V.I 0),(V.I 0),(V.I 0),V.ed,(V.I 0)] [(0,1),(1,1),(2,1),(3,1),(4,1),(5,1)] [(0,(V.I 4)),(1,a),(2,aN)]) λaQ=>
  gO CS (gg aP [aQ]) aO λS aR=>
  oP (eD (.ptr L.im 0) aR) λaS=>
  hV (iW 3 1 1 (V.I 0) [(0,S)]) aR λaT bu=>
  eJ (fg 3 1 8 aS aT bu) λaU bw=>
  eJ (gw 1 (.ptr L.im 0) aU bw) λcj bx=>
  oP (eh .add 3 b (V.I 1)) λaV=>
  oP (eh .add 3 b (V.I 2)) λaW=>
  hV (iW 3 1 2 (V.I 0) [(0,aV),(1,aW)]) bx λaX bz=>
  oP (fq [V.ed,(V.I 0),(V.I 0),V.ed,V.ed,(V.I 0)] [(0,1),(1,1),(2,1),(3,1),(4,1),(5,1)] [(1,(V.I 2)),(2,a),(3,aX)]) λaY=>
  gO CS (gg (L8 L) [aY]) bz λaZ bA=>K C b a P S aZ bA)))))))))))
   :=by
 refine Wa q ho hn (by omega) λh2 k2 q2=>?_;refine ec (by rfl) (ec q2.D.ldB (ec q2.D.ob.len (km (m:=1) (show t.blocks.length<_ by omega) (by omega) ?_)));have n2:Sm (fO ops t.s).2 n:=hn.one;refine EM q2 (show t.blocks.length<_ by omega) 1 0 [t.blocks.length+1] 0 rfl (λ_=>rfl) λF4 h4 R4 f4 k4 q4=>?_;refine km (n:=t.blocks.length) (m:=1) (by omega) (by omega) ?_;refine fT ?_;refine yO q4 [t.blocks.length,t.blocks.length+2] rfl λF6 h6 R6 f6 k6 q6=>?_;have q6:=ZL (t':=end_ {t with s:=(fO ops t.s).2} 1 0 [t.blocks.length+1] 0 [t.blocks.length,t.blocks.length+2]) q6 rfl;have n6:Sm (end_ {t with s:=(fO ops t.s).2} 1 0 [t.blocks.length+1] 0 [t.blocks.length,t.blocks.length+2]).s n:=n2.end_ _ _ _ _ _;have bC:(end_ {t with s:=(fO ops t.s).2} 1 0 [t.blocks.length+1] 0 [t.blocks.length,t.blocks.length+2]).blocks.length=t.blocks.length+1:=by simp[end_]
 have a0:(end_ {t with s:=(fO ops t.s).2} 1 0 [t.blocks.length+1] 0 [t.blocks.length,t.blocks.length+2]).s.ee.length=t.s.ee.length:=rfl;have kA:=kgm k2 (k4.trans k6 f4) λ_ h=>h;have fA:∀l,F l->F6 l:=by simp_all
 generalize bD:end_ {t with s:=(fO ops t.s).2} 1 0 [t.blocks.length+1] 0 [t.blocks.length,t.blocks.length+2]=t1 at*;generalize bE:(fO ops t.s).1=fr at*;refine ec q6.qL ?_;have e3:∀x y,iW 3 1 2 (V.I 0) [(0,V.I (x:Nat)),(1,V.I (y:Nat))]=some (.cells 3 1 true false (oJ [x,y]),λl=> .slice l 0 2):=λ_ _=>rfl;have bG:iW 3 1 2 (V.I 0) [(0,V.I fr),(1,V.I 0)]=some (.cells 3 1 true false (oJ [fr,0]),λl=> .slice l 0 2):=e3 fr 0;rw[bG,fH]
 let⟨q7,s7,k7⟩:=Hg q6 [fr,0]
 refine ec (by rfl) ?_;refine PX q7 n6 (by omega) (vl 21 0 0 0 [fr,0] 0) s7 rfl λh8 R8 k8 _ q8=>?_;have n8:=n6.put (vl 21 0 0 0 [fr,0] 0);have bH:(put t1.s (vl 21 0 0 0 [fr,0] 0)).ee.length=t.s.ee.length+1:=by simp[put,a0]
 rw[a0];generalize bI:put t1.s (vl 21 0 0 0 [fr,0] 0)=s1 at*;have kB:=kA.trans ((k7.gm L.pb).trans (k8.gm L.pb) (rq _ _)) fA;have fB:∀l,F l->fz F6 h6.next l:=by grind[rq]
 refine ec q8.qL (ec q8.D.AW (ec q8.wX (ec q8.D.AW (ec q8.D.ok.len ?_))));show cP CS ft [.I s1.known.length,.ptr L.pb 0,.ptr L.lr 0] h8 _;refine OM q8 ho n8 (by omega) λh9 l9 o9 k9 q9 bJ i1 i2=>⟨k9.next,ec i1 (ec i2 ?_)⟩
 have i2:=i2;have q9:=q9;have n9:=n8.one (ops:=ops);have a1:(fO ops s1).2.ee.length=t.s.ee.length+1:=bH;show vV (iW 3 1 2 (V.I 0) [(0,V.I ((fO ops s1).1:Nat)),(1,V.I t.s.ee.length)]) h9 _;generalize bK:(fO ops s1).2=sg at*;generalize bL:(fO ops s1).1=g at*;rw[e3,gU]
 let⟨X,bQ,bR⟩:=Hg q9 [g,t.s.ee.length]
 have co:(h9.new (.cells 3 1 true false (oJ [g,t.s.ee.length]))).get h9.next=_:=eQ _ _;refine ec (by rfl) ⟨by grind[O.jT],gS i2 (eE _ bJ),X.D.AW,X.qL,?_⟩;refine PX X n9 (by omega) (vl 21 0 0 0 [g,t.s.ee.length] 0) bQ rfl λcp cq a2 _ Y=>⟨a2.next,?_⟩
 have a3:=n9.put (vl 21 0 0 0 [g,t.s.ee.length] 0);have a4:(put sg (vl 21 0 0 0 [g,t.s.ee.length] 0)).ee.length=t.s.ee.length+2:=by simp[put,a1]
 have bS:=a1;rw[bS];generalize bU:put sg (vl 21 0 0 0 [g,t.s.ee.length] 0)=s2 at*;have Y:=Y;have kC:=kB.trans (k9.trans ((bR.gm L.pb).trans (a2.gm L.pb) (rq _ _)) λ_ h=>h) fB;have fC:∀l,F l->fz (fz F6 h6.next) h9.next l:=by grind[rq]
 refine zbh Y a3 (by omega) [t.s.ee.length,t.s.ee.length+1] (by simp) (by simp) (e3 _ _) λcr ct bV i=>?_;have Z:=a3.app [t.s.ee.length,t.s.ee.length+1];have a5:({s2 with known:=s2.known++[t.s.ee.length,t.s.ee.length+1]}:Ds).ee.length=t.s.ee.length+2:=a4;have i:=i;generalize bW:({s2 with known:=s2.known++[t.s.ee.length,t.s.ee.length+1]}:Ds)=s3 at*;have Z:Sm s3 (n+4):=Z;refine ec i.qL (ec i.Lu ?_);refine Py i ho Z (by omega) λbX cv cw cx a6 v w=>⟨a6.next,?_⟩
 have gI:=Bh ops s3;have a7:(fI ops s3).2.ee.length=t.s.ee.length+2:=by rw[gI.1];exact a5
 have v:=v;have w:=w;show oP (fq _ _ [(0,V.I 23),(5,.I ((fI ops s3).1:Nat))]) _;generalize bY:(fI ops s3).2=s4 at*;generalize bZ:(fI ops s3).1=sn at*;have eS:fq [(V.I 0),(V.I 0),(V.I 0),(V.I 0),V.ed,(V.I 0)] [(0,1),(1,1),(2,1),(3,1),(4,1),(5,1)] [(0,(V.I 23)),(5,.I sn)]=some (.agg (ym (vl 23 0 0 0 [] sn) .ed)):=rfl;refine ec eS ⟨v.qL,?_⟩;refine PX v w (by omega) (vl 23 0 0 0 [] sn) .nil rfl λcy cz a8 _ z=>⟨a8.next,?_⟩
 have a9:=w.put (vl 23 0 0 0 [] sn);have T:(put s4 (vl 23 0 0 0 [] sn)).ee.length=t.s.ee.length+3:=by simp[put,a7]
 have z:=z;generalize ba:put s4 (vl 23 0 0 0 [] sn)=s5 at*;refine ec z.qL ?_;have eO:fq [(V.I 0),(V.I 0),(V.I 0),(V.I 0),V.ed,(V.I 0)] [(0,1),(1,1),(2,1),(3,1),(4,1),(5,1)] [(0,(V.I 2)),(3,(V.I 1))]=some (.agg (ym (vl 2 0 0 1 [] 0) .ed)):=rfl;refine ec eO ?_;refine PX z a9 (by omega) (vl 2 0 0 1 [] 0) .nil rfl λcA cB b1 _ A=>?_;have bb:=a9.put (vl 2 0 0 1 [] 0);have j:(put s5 (vl 2 0 0 1 [] 0)).ee.length=t.s.ee.length+4:=by simp[put,T]
 have b2:=T;rw[b2];have A:=A;generalize bc:put s5 (vl 2 0 0 1 [] 0)=e at*;refine ec A.qL ?_;have eUn:∀p o,fq [(V.I 0),(V.I 0),(V.I 0),(V.I 0),V.ed,(V.I 0)] [(0,1),(1,1),(2,1),(3,1),(4,1),(5,1)] [(0,(V.I 4)),(1,.I (p:Nat)),(2,.I (o:Nat))]=some (.agg (ym (vl 4 p o 0 [] 0) .ed)):=λ_ _=>rfl;refine ec (eUn _ _) ?_;refine PX A bb (by omega) (vl 4 t.s.ee.length (t.s.ee.length+3) 0 [] 0) .nil rfl λcC cD b3 _ b4=>?_;have bd:=bb.put (vl 4 t.s.ee.length (t.s.ee.length+3) 0 [] 0);have b5:=j;rw[b5];refine zbh b4 bd (by omega) [t.s.ee.length+4] (by simp) (by simp) rfl λb6 b7 b8 aa=>?_;have ab:=bd.app [t.s.ee.length+4];have be:({ ({t1 with s:=put e (vl 4 t.s.ee.length (t.s.ee.length+3) 0 [] 0)}:Dt).s with known:=({t1 with s:=put e (vl 4 t.s.ee.length (t.s.ee.length+3) 0 [] 0)}:Dt).s.known++[t.s.ee.length+4]}:Ds)=ig e (vl 4 t.s.ee.length (t.s.ee.length+3) 0 [] 0):=by
  unfold ig put;simp[j]
 have aa:Dq bX G b6 L ops {t1 with s:=ig e (vl 4 t.s.ee.length (t.s.ee.length+3) 0 [] 0)} b7:=by rw[<-be];exact aa
 have ab:Sm (ig e (vl 4 t.s.ee.length (t.s.ee.length+3) 0 [] 0)) (n+10):=by rw[<-be];exact ab.le (by grind)
 have bf:(ig e (vl 4 t.s.ee.length (t.s.ee.length+3) 0 [] 0)).ee.length=t.s.ee.length+5:=by simp[ig,j]
 refine fT ?_;refine km (m:=2) (by omega) (by omega) ?_;refine EM aa (show t1.blocks.length<_ by omega) 2 t.s.ee.length [t.blocks.length+2,t.blocks.length+3] 0 rfl (λ_=>rfl) λb9 ca cb cE cd ce=>?_;have bg:=bC;rw[bg];have kD:=((kC.trans ((bV.gm L.pb).trans a6 λ_ h=>h) fC).trans ((((a8.gm L.pb).trans (b1.gm L.pb) λ_ h=>h).trans (b3.gm L.pb) λ_ h=>h).trans (b8.gm L.pb) λ_ h=>h) (by grind)).trans (cd.gm L.pb) (by grind);subst bD bE bI bK bL bU bW bY bZ ba bc;exact H b9 ca cb _ (by grind) kD ce ab rfl bf
theorem NN(ops:List Int)(t:Dt):(uW ops t).ee[t.s.ee.length+1]? =some (vl 21 0 0 0 [DC ops t,t.s.ee.length] 0)/\(uW ops t).ee.length=t.s.ee.length+5:=by
 let⟨x,hx⟩:=NO ops t
 grind[uW,ig,put]
theorem UA(ops:List Int)(t:Dt):(lR ops t).ee[t.s.ee.length+1]? =some (vl 21 0 0 0 [DC ops t,t.s.ee.length] 0)/\t.s.ee.length+5<=(lR ops t).ee.length/\(lR ops t).known=(row ops (nC ops t).s).known:=by
 let⟨d,g⟩:=NN ops t
 let⟨_,l,hl⟩:=IF ops (nC ops t).s
 have e0:(nC ops t).s.ee=(uW ops t).ee:=rfl;have e:(row ops (nC ops t).s).ee[t.s.ee.length+1]? =some (vl 21 0 0 0 [DC ops t,t.s.ee.length] 0):=by
  rw[hl,e0,VQ (by omega)];exact d
 have f:t.s.ee.length+5<=(row ops (nC ops t).s).ee.length:=by rw[hl,e0,nB];omega
 have a:∀s l,s.ee[t.s.ee.length+1]? =some (vl 21 0 0 0 [DC ops t,t.s.ee.length] 0)->(setArgs s t.s.ee.length l).ee[t.s.ee.length+1]? =some (vl 21 0 0 0 [DC ops t,t.s.ee.length] 0):=by
  intro s l hs;show(s.ee.modify t.s.ee.length _)[t.s.ee.length+1]? =_;rw[List.getElem?_modify,hs];show some (if _ then _ else _)=_;rw[if_neg (by omega)]
 have b:=a _ [(fO ops t.s).1,t.s.ee.length+4] e;have h:t.s.ee.length+5<=(pI ops t).ee.length:=by unfold pI;rw[(Fp _ _ _).1];exact f
 have c:(num ops (pI ops t) 3).2.ee=(pI ops t).ee:=rfl;unfold lR;split
 ·exact⟨a _ _ (by rw[c];exact b),by grind[Fp],rfl⟩
 ·exact⟨by rw[c];exact b,by simp_all,rfl⟩
theorem nx2(x y:Nat):iW 3 1 2 (V.I 0) [(0,V.I x),(1,V.I y)]=some (.cells 3 1 true false (oJ [x,y]),λl=> .slice l 0 2):=rfl
theorem zcx(ho:ops.length<9223372036854775808){n:Nat}(hn:Sm (lR ops t) n)(ai:n<880)(hb:t.blocks.length<900)(q:Dq F G h L ops {nC ops t with s:=lR ops t} R){K:Hp->Prop}
  (H:∀F' h' R',(∀l,F l->F' l)->Kp F (gm G L.pb) h h'->Dq F' G h' L ops (loop ops t) R'->Sm (loop ops t).s (n+6)->K h') :
  oP (fV 2 (.ptr L.lu 0)) λb=>
  oP (eD b h) λc=>
  oP (fV 2 (.ptr L.lu 0)) λd=>
  oP (eD d h) λe=>
  oP (gQ 6 e (.I ((t.s.ee.length+1:Nat):Int))) λx=>
  oP (fV 4 x) λf=>
  oP (eD f h) λg=>
  oP (gQ 1 g (V.I 0)) λj=>
  oP (eD j h) λm=>
  oP (eD (.ptr L.im 0) h) λo=>
  oP (eD (.ptr L.im 0) h) λp=>
  oP (fM p) λy=>
  oP (eh .sub 3 y (V.I 1)) λz=>
  oP (gQ 1 o z) λr=>
  oP (eD r h) λu=>
  vV (iW 3 1 2 (V.I 0) [(0,m),(1,u)]) h λv A a=>
  oP (gQ 6 c (.I ((t.s.ee.length+1:Nat):Int))) λB=>
  oP (fV 4 B) λC=>
  ((a.get (h.next)=some v/\O.beq v v=true)/\
  ((eD r a=some u)/\
  ((eD (.ptr L.im 0) a=some p)/\
  ((eD (.ptr L.im 0) a=some o)/\
  ((eD j a=some m)/\
  ((eD f a=some g)/\
  ((eD d a=some e)/\
  ((eD b a=some c)/\
  eJ (gw 1 C A a) λvu X=>
  (a.next<=X.next/\
  oP (eD (.ptr L.im 0) X) λE=>
  oP (jE 1 E none (some (.I ((uW ops t).known.length:Nat))) X) λI=>
  eJ (gw 1 (.ptr L.im 0) I X) λad h3=>
  hV (iW 3 1 1 (V.I 0) [(0,(.I ((t.blocks.length+1:Nat):Int)))]) h3 λJ h4=>
  oP (fq [V.ed,(V.I 0),(V.I 0),V.ed,V.ed,(V.I 0)] [(0,1),(1,1),(2,1),(3,1),(4,1),(5,1)] [(1,(V.I 1)),(3,J)]) λM=>
  gO CS (gg (L8 L) [M]) h4 λae h5=>
  hV (iW 3 1 1 (V.I 0) [(0,(.I ((t.blocks.length+1:Nat):Int)))]) h5 λN h6=>
  oP (fV 4 (.ptr L.jL 0)) λP=>
  eJ (gw 1 P N h6) λag h7=>
  gO CS (gg (MA L) []) h7 λah h8=>K h8))))))))):=by
 let⟨y1,y2,y3⟩:=UA ops t
 have aa:=(IF ops (nC ops t).s).kl;have Q:(uW ops t).known.length<=(lR ops t).known.length:=by rw[y3];exact aa
 have hk:=hn.k;have S:=hn.k0;have ab:0<(uW ops t).known.length:=by
  show 0<(_++[_]).length;simp
 have T:t.s.ee.length+1<({nC ops t with s:=lR ops t}:Dt).s.ee.length:=by show _<(lR ops t).ee.length;omega
 have eg:(lR ops t).ee[t.s.ee.length+1]'(by omega)=vl 21 0 0 0 [DC ops t,t.s.ee.length] 0:=by
  rw[hN (by omega)]at y1;exact Option.some.inj y1
 have aj:({nC ops t with s:=lR ops t}:Dt).blocks.length=t.blocks.length+2:=by simp[nC,QI,end_]
 refine ec (by rfl) (ec q.D.ZX (ec (by rfl) (ec q.D.ZX ?_)))
 let⟨Y,o1,w1,hl1,Z,i2,i3,i4⟩:=q.D.ov.read.ix T .i64
 let⟨wa,hwa,sa⟩:=i3
 rw[eg]at hwa sa;have ia:=i4 4 wa (by rw[hwa];rfl);have Z:gQ 6 R.vv (.I ((t.s.ee.length+1:Nat):Int))=some (.ptr Y o1):=Z;refine ec Z (ec (by rfl) (ec ia ?_));have U:=hl1.elim (q.D.fl Y) λh=>(q.D.ov.y6 h).2.1
 let⟨l2,o2,u2,hl2,j1,j2,j3⟩:=sa.Yk (i:=0) (by simp[vl]) .i64 rfl
 have W:=hl2.elim (q.D.fl l2) λh=>(q.D.ov.y6 h).2.1;obtain⟨rfl⟩:u2 = .I (DC ops t:Nat):=by
  have:[u2]=[V.I (DC ops t:Nat)]:=j3
  simp_all
 refine ec j1 (ec j2 ?_)
 let⟨l3,o3,hl3,_,m1,m2⟩:=q.IL (i:=(lR ops t).known.length-1) (by grind)
 have m3:eD (.ptr l3 o3) h=some (.I ((lR ops t).known.getLastD 0:Nat)):=by rw[m2];show some (V.I (((lR ops t).known.getD _ 0:Nat):Int))=_;rw[Cv _ S]
 refine ec q.D.AW (ec q.D.AW (ec q.D.ok.len (Ak (by grind) S (ec m1 (ec m3 ?_)))));rw[nx2,gU]
 let⟨w,s1,k1⟩:=Hg q [DC ops t,(lR ops t).known.getLastD 0]
 have g1:(h.new (.cells 3 1 true false (oJ [DC ops t,(lR ops t).known.getLastD 0]))).get h.next=_:=eQ _ _;refine ec Z (ec (by rfl) ?_);refine⟨by simp_all,gS m3 (eE _ hl3),w.D.AW,w.D.AW,gS j2 (eE _ W),gS ia (eE _ U),w.D.ZX,w.D.ZX,?_⟩
 let⟨l4,h4,a1,a2,a3,a4,D4⟩:=w.D.zeo T s1
 have e4:V.ptr Y (o1+4)=V.ptr l4 ((t.s.ee.length+1)*6+4):=by
  have:(V.ptr Y o1)=V.ptr l4 ((t.s.ee.length+1)*6):=by simp_all
  cases this;rfl
 rw [e4];simp only[MZ,wBt]at a2;rw[a2,ef];refine⟨a3,?_⟩;have q4:=ZL (t':={nC ops t with s:=Ld ops t}) (w.step a4 D4 (by simp_all) q.gl w.hq rfl) (by
  grind[Ld])
 have ac:Sm (Ld ops t) n:=hn.setArgs _ _;refine Sw q4 Q λh5 R5 k5 q5=>?_;have n5:=ac.cut ab Q;refine EM q5 (show({nC ops t with s:=lR ops t}:Dt).blocks.length<_ by omega) 1 0 [t.blocks.length+1] 0 rfl (λ_=>rfl) λF6 h6 R6 f6 k6 q6=>?_;refine yO q6 [t.blocks.length+1] rfl λF7 h7 R7 f7 k7 q7=>?_;have q7:=ZL (t':=TV ops t) q7 rfl;have n7:Sm (TV ops t).s n:=n5.end_ _ _ _ _ _;refine Ik q7 ho n7 (by omega) λF8 h8 R8 f8 k8 q8 n8=>?_;have ff:∀l,F l->F7 l:=by grind[rq]
 refine H F8 h8 R8 (by simp_all) ?_ (by grind[ZL,XT]) (by grind[XT]);have kk:=(((k1.gm L.pb).trans (a4.gm L.pb) (rq _ _)).trans ((k5.gm L.pb).trans (k6.gm L.pb) λ_ h=>h) (rq _ _)).trans (k7.gm L.pb) (by grind[rq]);exact kk.trans k8 ff
theorem zdA(ho:ops.length<9223372036854775808){n:Nat}(hn:Sm (uW ops t) n)(ak:n<860)(hb:t.blocks.length<900)
  (q:Dq F G h L ops (end_ {QI ops t with s:=uW ops t} 2 t.s.ee.length [t.blocks.length+2,t.blocks.length+3] 0 []) R) {K:fo}
  (H:∀F' h' R',(∀l,F l->F' l)->Kp F (gm G L.pb) h h'->Dq F' G h' L ops {nC ops t with s:=lR ops t} R'->Sm (lR ops t) (n+6)->K (.I ((uW ops t).known.length:Nat)) h') :
  oP (eD (.ptr L.im 0) h) λw=>
  oP (fM w) λd=>
  hV (iW 3 1 1 (V.I 0) [(0,(.I ((t.blocks.length+1:Nat):Int)))]) h λx aa=>
  oP (fV 4 (.ptr L.jL 0)) λy=>
  eJ (gw 1 y x aa) λai ab=>
  gO CS (gg (MA L) []) ab λaj z=>
  oP (fV 2 (.ptr L.lu 0)) λA=>
  oP (eD A z) λB=>
  hV (iW 3 1 2 (V.I 0) [(0,(.I ((fO ops t.s).1:Nat))),(1,(.I ((t.s.ee.length+4:Nat):Int)))]) z λC ac=>
  oP (gQ 6 B (.I t.s.ee.length)) λE=>
  oP (fV 4 E) λI=>
  eJ (gw 1 I C ac) λad J=>
  oP (eD (.ptr L.rz 0) J) λM=>
  gO CS (gg M [(V.I 3)]) J λN a=>
  oP (eh .eql 3 N (V.I 0)) λP=>
  bP P (
  oP (fV 2 (.ptr L.lu 0)) λe=>
  oP (eD e a) λf=>
  oP (eD (.ptr L.im 0) a) λg=>
  oP (eD (.ptr L.im 0) a) λj=>
  oP (fM j) λQ=>
  oP (eh .sub 3 Q (V.I 1)) λS=>
  oP (gQ 1 g S) λm=>
  oP (eD m a) λo=>
  vV (iW 3 1 2 (V.I 0) [(0,(.I ((fO ops t.s).1:Nat))),(1,o)]) a λu T b=>
  oP (gQ 6 f (.I t.s.ee.length)) λU=>
  oP (fV 4 U) λW=>
  ((b.get (a.next)=some u/\O.beq u u=true)/\
  ((eD m b=some o)/\
  ((eD (.ptr L.im 0) b=some j)/\
  ((eD (.ptr L.im 0) b=some g)/\
  ((eD e b=some f)/\
  eJ (gw 1 W T b) λae X=>
  (b.next<=X.next/\K d X)))))))
  (K d a):=by
 let⟨_,z2⟩:=NN ops t
 refine ec q.D.AW (ec q.D.ok.len ?_);refine yO q [t.blocks.length+1] rfl λF1 h1 R1 f1 k1 q1=>?_;have q1:=ZL (t':=nC ops t) q1 rfl;have n1:Sm (nC ops t).s n:=hn.end_ _ _ _ _ _;refine Ik q1 ho n1 (by omega) λF2 h2 R2 f2 k2 q2 n2=>?_
 let⟨_,l,hl⟩:=IF ops (nC ops t).s
 have e0:(nC ops t).s.ee=(uW ops t).ee:=rfl;have h4:t.s.ee.length+5<=(row ops (nC ops t).s).ee.length:=by rw[hl,e0,nB];omega
 refine ec (by rfl) (ec q2.D.ZX ?_);rw[nx2,fH]
 let⟨q3,s3,k3⟩:=Hg q2 [(fO ops t.s).1,t.s.ee.length+4]
 let⟨l4,ag,a1,a2,a3,a4,D4⟩:=q3.D.zeo (p:=t.s.ee.length) (by grind) s3
 refine ec a1 (ec (by rfl) ?_);simp[MZ,wBt]at a2;rw[a2,ef];have q4:=q3.step a4 D4 (by simp_all) q.gl q3.hq rfl;have n4:Sm (pI ops t) (n+6):=n2.setArgs _ _;refine ec q4.wX ?_;show cP CS ft [.I ((3:Nat):Int),.ptr L.pb 0,.ptr L.lr 0] ag _;refine yh q4 (by decide) (by decide) ho λZ k5 c=>?_;have c:Dq (fz F2 h2.next) G Z L ops {nC ops t with s:=(num ops (pI ops t) 3).2} R2:=c;have n5:Sm (num ops (pI ops t) 3).2 (n+6):=n4.num 3;have ff:∀l,F l->fz F2 h2.next l:=by grind[rq]
 have kk:=(((k1.gm L.pb).trans k2 f1).trans ((k3.gm L.pb).trans (a4.gm L.pb) (rq _ _)) (by simp_all)).trans k5 ff;show oP (eh .eql 3 (.I ((num ops (pI ops t) 3).1:Nat)) (V.I 0)) _;by_cases hd:(num ops (pI ops t) 3).1=0
 ·refine fD (fX (by omega) ?_);have Y:lR ops t=setArgs (num ops (pI ops t) 3).2 t.s.ee.length [(fO ops t.s).1,(row ops (nC ops t).s).known.getLastD 0]:=by unfold lR;rw[if_pos hd]
  have al:=n5.k;have r:=n5.k0;have ah:(num ops (pI ops t) 3).2.known=(row ops (nC ops t).s).known:=rfl;refine ec (by rfl) (ec c.D.ZX ?_)
  let⟨l3,o3,hl3,_,m1,m2⟩:=c.IL (i:=(num ops (pI ops t) 3).2.known.length-1) (by grind)
  have m3:eD (.ptr l3 o3) Z=some (.I ((row ops (nC ops t).s).known.getLastD 0:Nat)):=by
   rw[m2,<-ah];show some (V.I (((num ops (pI ops t) 3).2.known.getD _ 0:Nat):Int))=_;rw[Cv _ r]
  refine ec c.D.AW (ec c.D.AW (ec c.D.ok.len (Ak (by grind) r (ec m1 (ec m3 ?_)))));rw[nx2,gU]
  let⟨v,s6,k6⟩:=Hg c [(fO ops t.s).1,(row ops (nC ops t).s).known.getLastD 0]
  have g6:(Z.new (.cells 3 1 true false (oJ [(fO ops t.s).1,(row ops (nC ops t).s).known.getLastD 0]))).get Z.next=_:=eQ _ _
  let ⟨l7,h7,b1,b2,b3,b4,D7⟩:=v.D.zeo (p:=t.s.ee.length) (by
   show _<(pI ops t).ee.length
   grind[pI,Fp]) s6
  refine ec b1 (ec (by rfl) ?_);refine⟨by simp_all,gS m3 (eE _ hl3),v.D.AW,v.D.AW,v.D.ZX,?_⟩;simp only[MZ,wBt,Gg]at b2;rw[b2,ef];have q7:=ZL (t':={nC ops t with s:=lR ops t}) (v.step b4 D7 (by simp_all) q.gl v.hq rfl) (by rw[Y]);refine⟨b3,H _ _ _ (by grind[rq]) (kk.trans ((k6.gm L.pb).trans (b4.gm L.pb) (rq _ _)) ff) q7 ?_⟩;rw[Y];exact n5.setArgs _ _
 ·refine fD (fN (by omega) ?_);have Y:lR ops t=(num ops (pI ops t) 3).2:=by unfold lR;rw[if_neg hd]
  exact H _ _ _ ff kk (ZL c (by rw[Y])) (by rw[Y];exact n5)
def uC(u:U)(v b s:V):List V:=[.I u.func,.I u.pc,v,b,s]
def eUn:ue U where
 sz:=5
 rel F h u cs:=∃v b s,cs=uC u v b s/\iD eV F h u.ee v/\iD eK F h u.blocks b/\iD eT F h u.ez s
 len:=λ⟨_,_,_,h,_⟩=>by subst h;rfl
 one:=λ⟨_,_,_,h,a,c,d⟩=>by subst h;simp only[uC,fh,a.one,c.one,d.one];rfl
 fm:=λe ⟨v,n,p,h,a,c,d⟩=>⟨v,n,p,h,a.fm e,c.fm e,d.fm e⟩
 mono:=λf ⟨v,n,p,h,a,c,d⟩=>⟨v,n,p,h,a.mono f,c.mono f,d.mono f⟩
theorem zcJ(ops:List Int)(t:Dt):(fork ops t).blocks.length=t.blocks.length+3:=by simp[fork,end_]
theorem zcX(ops:List Int)(t:Dt):(zM ops t).blocks.length=t.blocks.length+2:=by simp[zM,end_]
theorem zcP(ops:List Int)(t:Dt):(loop ops t).blocks.length=t.blocks.length+3:=by simp[loop,end_]
theorem zfO{a:List Int}{vo vs nv:V}{b:Nat}(x:ops.length<9223372036854775808)(q:Dq F G h L ops t R)(hn:Sm t.s 30)(hb:t.blocks.length=0)(z:h.get L.lr=some (.cells Vb 1 true false [vo,vs,nv]))(X:iD (eI .i64) F h a vs)
  (ag:G b) (Y:b≠L.pb) (Z:∃c,h.get b=some (.cells 34 1 true false c)/\c.length=5)
  (H:∀F' h' R' d,(∀l,F l->F' l)->Kp F (gm G L.pb) h h'->Dq F' G h' L ops d R'->d=end_ {kY ops (a.take 6) t with s:=(fI ops (kY ops (a.take 6) t).s).2} 3 0 [] (fI ops (kY ops (a.take 6) t).s).1 []->
   eJ (gw 5 (.ptr b 0) (.agg [.I 1,.I 2,R'.vv,R'.vb,R'.vs]) h') λ_ f=>oP (gi 5 (.ptr b 0) f) λr=>Q r f) :
  pU Q (.ptr L.lr 0) (.ptr b 0) (.ptr L.lu 0) (.ptr L.im 0) (.ptr L.jL 0) (.ptr L.Aj 0) (.ptr L.rz 0) (.ptr L.Qq 0) (MA L) (L8 L) (.I 0) h:=by
 refine DQ (λk K M N O P S g j m gI iQ h'=>∃F' R',∃i:Nat,∃t',K = .ptr L.lr 0/\M = .ptr b 0/\N = .ptr L.lu 0/\O = .ptr L.im 0/\P = .ptr L.jL 0/\S = .ptr L.Aj 0/\
  g = .ptr L.rz 0/\j = .ptr L.Qq 0/\m=MA L/\gI=L8 L/\iQ = .I i/\i+k=6/\(∀l,F l->F' l)/\Kp F (gm G L.pb) h h'/\Dq F' G h' L ops t' R'/\Sm t'.s (30+30*i)/\t'.blocks.length<=3*i/\
  kY ops ((a.take 6).drop i) t' = kY ops (a.take 6) t) ?_ (k:=6)
  ⟨F,R,0,t,rfl,rfl,rfl,rfl,rfl,rfl,rfl,rfl,rfl,rfl,rfl,rfl,λ_ h=>h,Kp.refl _ _ _,q,hn,by omega,by rw[wBU]⟩
 rintro k K M N O P S g j m gI iQ h' ⟨F1,R1,i,d,rfl,rfl,rfl,rfl,rfl,rfl,rfl,rfl,rfl,rfl,rfl,ah,hF,T,o,U,b1,A⟩;unfold pS;have B:h'.get L.lr=some (.cells Vb 1 true false [vo,vs,nv]):=by rw[T.fm _ (.inl q.fr)];exact z
 have C:eD (.ptr L.lr 1) h' = some vs:=kH B rfl;have lv:=o.D.ov.len;have E:=X.fm λl hl=>T.fm l (.inl hl);refine ec (by rfl) (ec C (ec E.len (ec (by rfl) ?_)));have e1:jm (.bool (decide (((i:Nat):Int)<(a.length:Nat)))) (oB (some (V.I i)) λaa=>eh .lss 3 aa (V.I 6))=some (.bool (decide (((i:Nat):Int)<(a.length:Nat))&&decide (((i:Nat):Int)<6))):=by
  simp[ gX]
 refine ec e1 ?_
 have e2:jm (.bool (decide (((i:Nat):Int)<(a.length:Nat))&&decide (((i:Nat):Int)<6))) (oB (fV 2 (.ptr L.lu 0)) λab=>oB (eD ab h') λac=>oB (fM ac) λad=>eh .lss 3 ad (V.I 160)) =
   some (.bool ((decide (((i:Nat):Int)<(a.length:Nat))&&decide (((i:Nat):Int)<6))&&decide (((d.s.ee.length:Nat):Int)<160))):=by
  simp[ fe,o.D.ZX,lv]
 refine ec e2 (gf ?_);by_cases hgo:i<a.length/\i<6/\d.s.ee.length<160;rotate_left
 ·
  refine fN (by grind) ?_;have I:d=kY ops (a.take 6) t:=by
   rw[<-A];by_cases hi:i<(a.take 6).length
   ·rw[ZH hi];unfold kY
    grind
   ·rw[wBa (by omega)];rfl
  subst I;refine ec o.Lu ?_;refine Py o x U (by omega) λn f p J u v y=>?_;have eB:∀sn,fq [V.ed,(V.I 0),(V.I 0),V.ed,V.ed,(V.I 0)] [(0,1),(1,1),(2,1),(3,1),(4,1),(5,1)] [(1,(V.I 3)),(5,.I (sn:Nat))]=some (.agg (pY ⟨[],3,0,[],[],sn⟩ .ed .ed .ed)):=λ_=>rfl;refine ec (eB _) ?_;refine Xa v (show(kY ops (a.take 6) t).blocks.length<_ by omega) ⟨[],3,0,[],[],_⟩ rfl rfl rfl .nil λF3 h3 R3 f3 k3 W=>?_;have lA:=A6 W.D.gu rfl;refine ec lA ?_;have kk:=(T.trans u hF).trans (k3.gm L.pb) (by simp_all);exact H F3 h3 R3 _ (by grind) kk W rfl
 let⟨g1,g2,g3⟩:=hgo
 refine fX (by grind) ?_
 let⟨l4,o4,u4,_,i1,i2,i3⟩:=E.Yk g1 .i64 rfl
 obtain⟨rfl⟩:u4 = .I a[i]:=by simpa using i3.1
 refine ec (by rfl) (ec C (ec i1 (ec i2 ?_)));show cP CS iR [.I a[i],.I ((3:Nat):Int)] h' _;refine Oc (by decide) (by decide) ?_;have ae:i<(a.take 6).length:=by rw[Sr];omega
 have w:kY ops ((a.take 6).drop (i+1)) (tW ops (jD a[i] 3) d)=kY ops (a.take 6) t:=by
  rw[<-A,ZH ae]
  conv=>rhs;unfold kY
  rw[if_pos g3,wB2]
 have fin:∀n f p,(∀l,F1 l->n l)->Kp F1 (gm G L.pb) h' f->Dq n G f L ops (tW ops (jD a[i] 3) d) p->Sm (tW ops (jD a[i] 3) d).s (30+30*i+30)->(tW ops (jD a[i] 3) d).blocks.length<=3*(i+1)->
   jY Q (λK M N O P S g j m gI iQ hh=>∃k',k' < k/\∃F' R',∃i:Nat,∃t',K = .ptr L.lr 0/\M = .ptr b 0/\N = .ptr L.lu 0/\O = .ptr L.im 0/\P = .ptr L.jL 0/\S = .ptr L.Aj 0/\
    g = .ptr L.rz 0/\j = .ptr L.Qq 0/\m=MA L/\gI=L8 L/\iQ = .I i/\i+k' = 6/\(∀l,F l->F' l)/\Kp F (gm G L.pb) h hh/\Dq F' G hh L ops t' R'/\Sm t'.s (30+30*i)/\t'.blocks.length<=3*i/\
    kY ops ((a.take 6).drop i) t' = kY ops (a.take 6) t) (.ptr L.lr 0) (.ptr b 0) (.ptr L.lu 0) (.ptr L.im 0) (.ptr L.jL 0) (.ptr L.Aj 0) (.ptr L.rz 0) (.ptr L.Qq 0) (MA L) (L8 L) (.I i) f:=by
  intro n f p J u v y b2;refine Cm ?_;unfold oE;refine fT ?_;exact⟨k-1,by omega,n,p,i+1,_,rfl,rfl,rfl,rfl,rfl,rfl,rfl,rfl,rfl,rfl,rfl,by omega,by simp_all,T.trans u hF,v,y,b2,w⟩
 by_cases c0:jD a[i] 3=0
 ·refine fD (fX (by omega) ?_);have e:tW ops (jD a[i] 3) d=fork ops d:=by unfold tW;rw[if_pos c0]
  rw[e]at fin;refine zdD o x U (by omega) (by omega) λn f p J u v y=>?_
  grind[zcJ]
 refine fD (fN (by omega) ?_);by_cases c1:jD a[i] 3=1
 ·refine fD (fX (by omega) ?_);have e:tW ops (jD a[i] 3) d=loop ops d:=by unfold tW;rw[if_neg c0,if_pos c1]
  rw[e]at fin;refine zdE o x U (by omega) (by omega) λn f p s6 J u v y e6 _=>?_;subst e6;refine zdA x y (by omega) (by omega) v λF3 h3 R3 f3 k3 W n3=>?_;refine CH ?_;unfold oC;refine zcx x n3 (by omega) (by omega) W λF4 h4 R4 f4 k4 q4 n4=>?_;exact fin F4 h4 R4 (by grind) ((u.trans k3 J).trans k4 (by simp_all)) q4 (n4.le (by omega)) (by grind[zcP])
 ·refine fD (fN (by omega) ?_);have e:tW ops (jD a[i] 3) d=zM ops d:=by unfold tW;rw[if_neg c0,if_neg c1]
  rw[e]at fin;refine zc7 o x U (by omega) (by omega) λn f p J u v y=>?_
  grind[zcX]
