/- Parts. -/
import Derived.Test.YtnehpeeglbgfpaaDoorM21
set_option maxHeartbeats 4000000
namespace Go.Proofs.YtnehpeeglbgfpaaDoor.Hx
open Un
section
variable{F F' G G':Nat->Prop}{h h':Hp}{L:Lc}{ops:List Int}{t t':Dt}{R R':Rw}{Q:fm}
theorem Sm.app{s:Ds}{n:Nat}(a:Sm s n)(ys:List Nat):Sm {s with known:=s.known++ys} (n+ys.length):=
 ⟨by have:=a.v;grind,by have:=a.c;grind,by have:=a.k;simp_all,by have:=a.st;grind,by have:=a.k0;grind⟩
theorem IC:∀ys,gh (mc ys)=true
 |[]=>rfl
 |y::ys=>by show gh (V.I y::mc ys)=true;rw[fc,IC ys];rfl
theorem QO(q:Dq F G h L ops t R){n:Nat}(d:Sm t.s n)(e:n<1000)(ys:List Nat)(f:0<ys.length)(g:ys.length<=5){ps:Option (O×(Nat->V))}(i:ps=some (O.cells 3 1 true false (mc ys),λl=> .slice l 0 ys.length)){K:Hp->Prop}
  (H:∀h' R',Kp F G h h'->Dq F G h' L ops {t with s:={t.s with known:=t.s.known++ys} } R'->K h') :
  oP (en (.ptr L.gR 0) h) λa=>iQ ps h λv j=>fi (fh 3 1 8 a v j) λw m=>fi (gW 1 (.ptr L.gR 0) w m) λ_ c=>K c:=by
 subst i;refine ec q.D.w9 ?_;rw[fJ];have o:=q.D.grow (kX.new h (.cells 3 1 true false (mc ys)));have z:(mc ys).length=ys.length:=by simp[mc]
 let⟨new,e1,e2⟩:=Ad (n:=ys.length) (off:=0) (ez h (.cells 3 1 true false (mc ys))) (by omega)
 have p:new=mc ys:=by rw[e2,SE,JE (by omega)]
 subst p;have A:=d.k;have r:=IC ys
 let⟨v',c,B,u,C,x,E,y,D4⟩:=o.Vp e1 (ux _ _ ys) (by omega) r f (by omega)
 have b:=u;rw[b,ej,x];have k4:=(q.D.vH (.cells 3 1 true false (mc ys))).trans y λ_ h=>h;exact H _ _ k4 (q.step k4 D4 (by grind) q.gl q.hq rfl)
theorem Ij(q:Dq F G h L ops t R){n:Nat}(c:Sm t.s n)(b:n<999)(x:Vl){w:V}{a:V}(d:iL eN F h x.args a)(e:w = .agg (qT x a)){K:fm}
  (H:∀h' R',Kp F G h h'->R'.vk=R.vk->Dq F G h' L ops {t with s:=put t.s x} R'->K (.I t.s.ee.length) h'):gv CS (fQ (Vn L) [w]) h K:=by
 subst e;show cP CS fe [.agg (qT x a),.ptr L.lu 0,.ptr L.iX 0] h K;exact Ep q c b ⟨a,rfl,d⟩ H
def J1(ops:List Int)(t:Dt):Dt:=end_ {t with s:=(fu ops t.s).2} 1 0 [t.blocks.length+1] 0 [t.blocks.length,t.blocks.length+2]
def Nt(ops:List Int)(t:Dt):Ds:=put (J1 ops t).s (vl 21 0 0 0 [(fu ops t.s).1,0] 0)
def yL(ops:List Int)(t:Dt):Nat:=(fu ops (Nt ops t)).1
def NK(ops:List Int)(t:Dt):Ds:=put (fu ops (Nt ops t)).2 (vl 21 0 0 0 [yL ops t,t.s.ee.length] 0)
def Kj(ops:List Int)(t:Dt):Ds:={NK ops t with known:=(NK ops t).known++[t.s.ee.length,t.s.ee.length+1]}
def KH(ops:List Int)(t:Dt):Ds:=put (fk ops (Kj ops t)).2 (vl 23 0 0 0 [] (fk ops (Kj ops t)).1)
def qA(ops:List Int)(t:Dt):Ds:=gX (put (KH ops t) (vl 2 0 0 1 [] 0)) (vl 4 t.s.ee.length (t.s.ee.length+3) 0 [] 0)
def lD(ops:List Int)(t:Dt):Dt:=end_ {J1 ops t with s:=qA ops t} 2 t.s.ee.length [t.blocks.length+2,t.blocks.length+3] 0 [t.blocks.length+1]
def mq(ops:List Int)(t:Dt):Ds:=setArgs (row ops (lD ops t).s) t.s.ee.length [(fu ops t.s).1,t.s.ee.length+4]
def ke(ops:List Int)(t:Dt):Ds:=if(num ops (mq ops t) 3).1=0 then setArgs (num ops (mq ops t) 3).2 t.s.ee.length [(fu ops t.s).1,(row ops (lD ops t).s).known.getLastD 0] else(num ops (mq ops t) 3).2
def DX(ops:List Int)(t:Dt):Ds:=setArgs (ke ops t) (t.s.ee.length+1) [yL ops t,(row ops (lD ops t).s).known.getLastD 0]
def L9(ops:List Int)(t:Dt):Dt:=end_ {lD ops t with s:=cut (qA ops t).known.length (DX ops t)} 1 0 [t.blocks.length+1] 0 [t.blocks.length+1]
theorem Gi(ops:List Int)(t:Dt):∃x,(KH ops t).ee=t.s.ee++[vl 21 0 0 0 [(fu ops t.s).1,0] 0,vl 21 0 0 0 [yL ops t,t.s.ee.length] 0,x]:=by
 refine⟨vl 23 0 0 0 [] (fk ops (Kj ops t)).1,?_⟩;unfold KH;rw[put,(wF ops (Kj ops t)).1];show(NK ops t).ee++[_]=_;show((Nt ops t).ee++[_])++[_]=_;show(((J1 ops t).s.ee++[_])++[_])++[_]=_;simp[MQ,W3];rfl
theorem Oj(ops:List Int)(t:Dt):loop ops t = {L9 ops t with s:=row ops (L9 ops t).s}:=by
 let⟨x,hx⟩:=Gi ops t
 have e:(KH ops t).ee.length=t.s.ee.length+3:=by rw[hx];simp
 unfold L9 DX ke mq lD qA;rw[show t.s.ee.length+4=(t.s.ee.length+3)+1 from rfl,<-e];rfl
theorem SU(q:Dq F G h L ops t R)(ho:ops.length<9223372036854775808){n:Nat}(hn:Sm t.s n)(cg:n<800)(hb:t.blocks.length<900){K:tg}
  (H:∀F' h' R' e,(∀l,F l->F' l)->Kp F (gm G L.mb) h h'->Dq F' G h' L ops (end_ {J1 ops t with s:=e} 2 t.s.ee.length [t.blocks.length+2,t.blocks.length+3] 0 []) R'->Sm e (n+10)->
   e=qA ops t->
   e.ee.length=t.s.ee.length+5->
   K (.I ((fu ops t.s).1:Nat)) (.I (t.blocks.length+1:Nat)) (.I t.s.ee.length) (.I ((t.s.ee.length+1:Nat):Int)) (.I ((t.s.ee.length+4:Nat):Int)) (.I ((t.blocks.length+1:Nat):Int)) h') :
  oP (en (.ptr L.gR 0) h) λB=>
  oP (en (.ptr L.na 0) h) λac=>
  oP (en (.ptr L.gR 0) h) λae=>
  oP (fF ae) λag=>
  gv CS (fQ ac [ag]) h λah f=>
  (h.next<=f.next/\
  oP (gy 1 B ah) λai=>
  oP (en ai f) λC=>
  ((en (.ptr L.gR 0) f=some B)/\
  oP (fI 3 (.ptr L.lu 0)) λaj=>
  oP (en aj f) λak=>
  oP (fF ak) λal=>
  oP (ef .add 3 al (V.I 1)) λam=>
  iQ (ju 3 1 1 (V.I 0) [(0,am)]) f λan bj=>
  oP (fG [V.ed,(V.I 0),(V.I 0),V.ed,V.ed,(V.I 0)] [(0,1),(1,1),(2,1),(3,1),(4,1),(5,1)] [(1,(V.I 1)),(3,an)]) λao=>
  gv CS (fQ (DR L) [ao]) bj λE bm=>
  oP (ef .add 3 E (V.I 1)) λb=>
  oP (ef .add 3 b (V.I 1)) λaq=>
  iQ (ju 3 1 2 (V.I 0) [(0,E),(1,aq)]) bm λar bn=>
  oP (fI 4 (.ptr L.iX 0)) λau=>
  fi (gW 1 au ar bn) λcb aw=>
  oP (en (.ptr L.vV 0) aw) λax=>
  iQ (ju 3 1 2 (V.I 0) [(0,C),(1,(V.I 0))]) aw λay bo=>
  oP (fG [(V.I 0),(V.I 0),(V.I 0),(V.I 0),V.ed,(V.I 0)] [(0,1),(1,1),(2,1),(3,1),(4,1),(5,1)] [(0,(V.I 21)),(4,ay)]) λaz=>
  gv CS (fQ ax [az]) bo λa c=>
  oP (en (.ptr L.vV 0) c) λI=>
  oP (en (.ptr L.gR 0) c) λJ=>
  oP (en (.ptr L.na 0) c) λaA=>
  oP (en (.ptr L.gR 0) c) λaB=>
  oP (fF aB) λaC=>
  gv CS (fQ aA [aC]) c λaD k=>
  (c.next<=k.next/\
  oP (gy 1 J aD) λM=>
  oP (en M k) λN=>
  uN (ju 3 1 2 (V.I 0) [(0,N),(1,a)]) k λo9 aE d=>
  oP (fG [(V.I 0),(V.I 0),(V.I 0),(V.I 0),V.ed,(V.I 0)] [(0,1),(1,1),(2,1),(3,1),(4,1),(5,1)] [(0,(V.I 21)),(4,aE)]) λaF=>
  ((d.get (k.next)=some o9/\O.beq o9 o9=true)/\
  ((en M d=some N)/\
  ((en (.ptr L.gR 0) d=some J)/\
  ((en (.ptr L.vV 0) d=some I)/\
  gv CS (fQ I [aF]) d λP U=>
  (d.next<=U.next/\
  oP (en (.ptr L.gR 0) U) λaG=>
  iQ (ju 3 1 2 (V.I 0) [(0,a),(1,P)]) U λaH bp=>
  fi (fh 3 1 8 aG aH bp) λaI bq=>
  fi (gW 1 (.ptr L.gR 0) aI bq) λcd r=>
  oP (en (.ptr L.vV 0) r) λQ=>
  oP (en (.ptr L.Ox 0) r) λaJ=>
  gv CS (fQ aJ []) r λaK u=>
  (r.next<=u.next/\
  oP (fG [(V.I 0),(V.I 0),(V.I 0),(V.I 0),V.ed,(V.I 0)] [(0,1),(1,1),(2,1),(3,1),(4,1),(5,1)] [(0,(V.I 23)),(5,aK)]) λaL=>
  ((en (.ptr L.vV 0) u=some Q)/\
  gv CS (fQ Q [aL]) u λce W=>
  (u.next<=W.next/\
  oP (en (.ptr L.vV 0) W) λaM=>
  oP (fG [(V.I 0),(V.I 0),(V.I 0),(V.I 0),V.ed,(V.I 0)] [(0,1),(1,1),(2,1),(3,1),(4,1),(5,1)] [(0,(V.I 2)),(3,(V.I 1))]) λaN=>
  gv CS (fQ aM [aN]) W λaO aP=>
  oP (en (.ptr L.vV 0) aP) λaQ=>
  oP (fG [(V.I 0),(V.I 0),(V.I 0),(V.I 0),V.ed,(V.I 0)] [(0,1),(1,1),(2,1),(3,1),(4,1),(5,1)] [(0,(V.I 4)),(1,a),(2,aO)]) λaR=>
  gv CS (fQ aQ [aR]) aP λS aS=>
  oP (en (.ptr L.gR 0) aS) λaT=>
  iQ (ju 3 1 1 (V.I 0) [(0,S)]) aS λaU br=>
  fi (fh 3 1 8 aT aU br) λaV bt=>
  fi (gW 1 (.ptr L.gR 0) aV bt) λcf bu=>
  oP (ef .add 3 b (V.I 1)) λaW=>
  oP (ef .add 3 b (V.I 2)) λaX=>
  iQ (ju 3 1 2 (V.I 0) [(0,aW),(1,aX)]) bu λaY bv=>
  oP (fG [V.ed,(V.I 0),(V.I 0),V.ed,V.ed,(V.I 0)] [(0,1),(1,1),(2,1),(3,1),(4,1),(5,1)] [(1,(V.I 2)),(2,a),(3,aY)]) λaZ=>
  gv CS (fQ (DR L) [aZ]) bv λa0 bw=>K C b a P S a0 bw)))))))))))
   :=by
 refine Nd q ho hn (by omega) λh2 k2 q2=>?_;refine ec (by rfl) (ec q2.D.TQ (ec q2.D.ob.len (iA (m:=1) (show t.blocks.length<_ by omega) (by omega) ?_)));have n2:Sm (fu ops t.s).2 n:=hn.one;refine zt q2 (show t.blocks.length<_ by omega) 1 0 [t.blocks.length+1] 0 rfl (λ_=>rfl) λF4 h4 R4 f4 k4 q4=>?_;refine iA (n:=t.blocks.length) (m:=1) (by omega) (by omega) ?_;refine gq ?_;refine um q4 [t.blocks.length,t.blocks.length+2] rfl λF6 h6 R6 f6 k6 q6=>?_;have q6:=Qj (t':=end_ {t with s:=(fu ops t.s).2} 1 0 [t.blocks.length+1] 0 [t.blocks.length,t.blocks.length+2]) q6 rfl;have n6:Sm (end_ {t with s:=(fu ops t.s).2} 1 0 [t.blocks.length+1] 0 [t.blocks.length,t.blocks.length+2]).s n:=n2.end_ _ _ _ _ _;have bz:(end_ {t with s:=(fu ops t.s).2} 1 0 [t.blocks.length+1] 0 [t.blocks.length,t.blocks.length+2]).blocks.length=t.blocks.length+1:=by simp[end_]
 have a1:(end_ {t with s:=(fu ops t.s).2} 1 0 [t.blocks.length+1] 0 [t.blocks.length,t.blocks.length+2]).s.ee.length=t.s.ee.length:=rfl;have kA:=ZL k2 (k4.trans k6 f4) λ_ h=>h;have fA:∀l,F l->F6 l:=by simp_all
 generalize bA:end_ {t with s:=(fu ops t.s).2} 1 0 [t.blocks.length+1] 0 [t.blocks.length,t.blocks.length+2]=t1 at*;generalize bC:(fu ops t.s).1=fr at*;refine ec q6.mO ?_;have e3:∀x y,ju 3 1 2 (V.I 0) [(0,V.I (x:Nat)),(1,V.I (y:Nat))]=some (.cells 3 1 true false (mc [x,y]),λl=> .slice l 0 2):=λ_ _=>rfl;have bD:ju 3 1 2 (V.I 0) [(0,V.I fr),(1,V.I 0)]=some (.cells 3 1 true false (mc [fr,0]),λl=> .slice l 0 2):=e3 fr 0;rw[bD,fJ]
 let⟨q7,s7,k7⟩:=Bd q6 [fr,0]
 refine ec (by rfl) ?_;refine Ij q7 n6 (by omega) (vl 21 0 0 0 [fr,0] 0) s7 rfl λh8 R8 k8 _ q8=>?_;have n8:=n6.put (vl 21 0 0 0 [fr,0] 0);have bE:(put t1.s (vl 21 0 0 0 [fr,0] 0)).ee.length=t.s.ee.length+1:=by simp[put,a1]
 rw[a1];generalize bG:put t1.s (vl 21 0 0 0 [fr,0] 0)=s1 at*;have kB:=kA.trans ((k7.gm L.mb).trans (k8.gm L.mb) (nf _ _)) fA;have fB:∀l,F l->fz F6 h6.next l:=by grind[nf]
 refine ec q8.mO (ec q8.D.w9 (ec q8.sq (ec q8.D.w9 (ec q8.D.ok.len ?_))));show cP CS eJ [.I s1.known.length,.ptr L.mb 0,.ptr L.lr 0] h8 _;refine Iq q8 ho n8 (by omega) λh9 l9 o9 k9 q9 bH i1 i2=>⟨k9.next,ec i1 (ec i2 ?_)⟩
 have i2:=i2;have q9:=q9;have n9:=n8.one (ops:=ops);have a2:(fu ops s1).2.ee.length=t.s.ee.length+1:=bE;show uN (ju 3 1 2 (V.I 0) [(0,V.I ((fu ops s1).1:Nat)),(1,V.I t.s.ee.length)]) h9 _;generalize bI:(fu ops s1).2=sg at*;generalize bJ:(fu ops s1).1=g at*;rw[e3,ij]
 let⟨X,bK,bL⟩:=Bd q9 [g,t.s.ee.length]
 have ci:(h9.new (.cells 3 1 true false (mc [g,t.s.ee.length]))).get h9.next=_:=ez _ _;refine ec (by rfl) ⟨by grind[O.ie],mN i2 (eR _ bH),X.D.w9,X.mO,?_⟩;refine Ij X n9 (by omega) (vl 21 0 0 0 [g,t.s.ee.length] 0) bK rfl λcj Z8 a3 _ Y=>⟨a3.next,?_⟩
 have a4:=n9.put (vl 21 0 0 0 [g,t.s.ee.length] 0);have a5:(put sg (vl 21 0 0 0 [g,t.s.ee.length] 0)).ee.length=t.s.ee.length+2:=by simp[put,a2]
 have bQ:=a2;rw[bQ];generalize bR:put sg (vl 21 0 0 0 [g,t.s.ee.length] 0)=s2 at*;have Y:=Y;have kC:=kB.trans (k9.trans ((bL.gm L.mb).trans (a3.gm L.mb) (nf _ _)) λ_ h=>h) fB;have fC:∀l,F l->fz (fz F6 h6.next) h9.next l:=by grind[nf]
 refine QO Y a4 (by omega) [t.s.ee.length,t.s.ee.length+1] (by simp) (by simp) (e3 _ _) λcl YC bS i=>?_;have Z:=a4.app [t.s.ee.length,t.s.ee.length+1];have a6:({s2 with known:=s2.known++[t.s.ee.length,t.s.ee.length+1]}:Ds).ee.length=t.s.ee.length+2:=a5;have i:=i;generalize bU:({s2 with known:=s2.known++[t.s.ee.length,t.s.ee.length+1]}:Ds)=s3 at*;have Z:Sm s3 (n+4):=Z;refine ec i.mO (ec i.DM ?_);refine Ib i ho Z (by omega) λbV cm ZU cn a7 v w=>⟨a7.next,?_⟩
 have bW:=wF ops s3;have a8:(fk ops s3).2.ee.length=t.s.ee.length+2:=by rw[bW.1];exact a6
 have v:=v;have w:=w;show oP (fG _ _ [(0,V.I 23),(5,.I ((fk ops s3).1:Nat))]) _;generalize bX:(fk ops s3).2=s4 at*;generalize bY:(fk ops s3).1=sn at*;have eS:fG [(V.I 0),(V.I 0),(V.I 0),(V.I 0),V.ed,(V.I 0)] [(0,1),(1,1),(2,1),(3,1),(4,1),(5,1)] [(0,(V.I 23)),(5,.I sn)]=some (.agg (qT (vl 23 0 0 0 [] sn) .ed)):=rfl;refine ec eS ⟨v.mO,?_⟩;refine Ij v w (by omega) (vl 23 0 0 0 [] sn) .nil rfl λco YR a9 _ z=>⟨a9.next,?_⟩
 have ba:=w.put (vl 23 0 0 0 [] sn);have T:(put s4 (vl 23 0 0 0 [] sn)).ee.length=t.s.ee.length+3:=by simp[put,a8]
 have z:=z;generalize bb:put s4 (vl 23 0 0 0 [] sn)=s5 at*;refine ec z.mO ?_;have eO:fG [(V.I 0),(V.I 0),(V.I 0),(V.I 0),V.ed,(V.I 0)] [(0,1),(1,1),(2,1),(3,1),(4,1),(5,1)] [(0,(V.I 2)),(3,(V.I 1))]=some (.agg (qT (vl 2 0 0 1 [] 0) .ed)):=rfl;refine ec eO ?_;refine Ij z ba (by omega) (vl 2 0 0 1 [] 0) .nil rfl λcp R15 bZ _ A=>?_;have bc:=ba.put (vl 2 0 0 1 [] 0);have j:(put s5 (vl 2 0 0 1 [] 0)).ee.length=t.s.ee.length+4:=by simp[put,T]
 have b1:=T;rw[b1];have A:=A;generalize bd:put s5 (vl 2 0 0 1 [] 0)=e at*;refine ec A.mO ?_;have YV:∀p o,fG [(V.I 0),(V.I 0),(V.I 0),(V.I 0),V.ed,(V.I 0)] [(0,1),(1,1),(2,1),(3,1),(4,1),(5,1)] [(0,(V.I 4)),(1,.I (p:Nat)),(2,.I (o:Nat))]=some (.agg (qT (vl 4 p o 0 [] 0) .ed)):=λ_ _=>rfl;refine ec (YV _ _) ?_;refine Ij A bc (by omega) (vl 4 t.s.ee.length (t.s.ee.length+3) 0 [] 0) .nil rfl λcq cr b2 _ b3=>?_;have be:=bc.put (vl 4 t.s.ee.length (t.s.ee.length+3) 0 [] 0);have b4:=j;rw[b4];refine QO b3 be (by omega) [t.s.ee.length+4] (by simp) (by simp) rfl λb5 Z3 b6 aa=>?_;have ab:=be.app [t.s.ee.length+4];have bf:({ ({t1 with s:=put e (vl 4 t.s.ee.length (t.s.ee.length+3) 0 [] 0)}:Dt).s with known:=({t1 with s:=put e (vl 4 t.s.ee.length (t.s.ee.length+3) 0 [] 0)}:Dt).s.known++[t.s.ee.length+4]}:Ds)=gX e (vl 4 t.s.ee.length (t.s.ee.length+3) 0 [] 0):=by
  unfold gX put;simp[j]
 have aa:Dq bV G b5 L ops {t1 with s:=gX e (vl 4 t.s.ee.length (t.s.ee.length+3) 0 [] 0)} Z3:=by rw[<-bf];exact aa
 have ab:Sm (gX e (vl 4 t.s.ee.length (t.s.ee.length+3) 0 [] 0)) (n+10):=by rw[<-bf];exact ab.le (by grind)
 have bg:(gX e (vl 4 t.s.ee.length (t.s.ee.length+3) 0 [] 0)).ee.length=t.s.ee.length+5:=by simp[gX,j]
 refine gq ?_;refine iA (m:=2) (by omega) (by omega) ?_;refine zt aa (show t1.blocks.length<_ by omega) 2 t.s.ee.length [t.blocks.length+2,t.blocks.length+3] 0 rfl (λ_=>rfl) λb7 b8 Xt ct b9 ca=>?_;have bi:=bz;rw[bi];have kD:=((kC.trans ((bS.gm L.mb).trans a7 λ_ h=>h) fC).trans ((((a9.gm L.mb).trans (bZ.gm L.mb) λ_ h=>h).trans (b2.gm L.mb) λ_ h=>h).trans (b6.gm L.mb) λ_ h=>h) (by grind)).trans (b9.gm L.mb) (by grind);subst bA bC bG bI bJ bR bU bX bY bb bd;exact H b7 b8 Xt _ (by grind) kD ca ab rfl bg
end
open Un
theorem Gn(ops:List Int)(t:Dt):(qA ops t).ee[t.s.ee.length+1]? =some (vl 21 0 0 0 [yL ops t,t.s.ee.length] 0)/\(qA ops t).ee.length=t.s.ee.length+5:=by
 let⟨x,hx⟩:=Gi ops t
 grind[qA,gX,put]
theorem MA(ops:List Int)(t:Dt):(ke ops t).ee[t.s.ee.length+1]? =some (vl 21 0 0 0 [yL ops t,t.s.ee.length] 0)/\t.s.ee.length+5<=(ke ops t).ee.length/\(ke ops t).known=(row ops (lD ops t).s).known:=by
 let⟨d,h⟩:=Gn ops t
 let⟨_,l,hl⟩:=BJ ops (lD ops t).s
 have e0:(lD ops t).s.ee=(qA ops t).ee:=rfl;have e:(row ops (lD ops t).s).ee[t.s.ee.length+1]? =some (vl 21 0 0 0 [yL ops t,t.s.ee.length] 0):=by
  rw[hl,e0,Qg (by omega)];exact d
 have f:t.s.ee.length+5<=(row ops (lD ops t).s).ee.length:=by rw[hl,e0,Ja];omega
 have a:∀s l,s.ee[t.s.ee.length+1]? =some (vl 21 0 0 0 [yL ops t,t.s.ee.length] 0)->(setArgs s t.s.ee.length l).ee[t.s.ee.length+1]? =some (vl 21 0 0 0 [yL ops t,t.s.ee.length] 0):=by
  intro s l g;show(s.ee.modify t.s.ee.length _)[t.s.ee.length+1]? =_;rw[List.getElem?_modify,g];show some (if _ then _ else _)=_;rw[if_neg (by omega)]
 have b:=a _ [(fu ops t.s).1,t.s.ee.length+4] e;have i:t.s.ee.length+5<=(mq ops t).ee.length:=by unfold mq;rw[(zq _ _ _).1];exact f
 have c:(num ops (mq ops t) 3).2.ee=(mq ops t).ee:=rfl;unfold ke;split
 ·exact⟨a _ _ (by rw[c];exact b),by grind[zq],rfl⟩
 ·exact⟨by rw[c];exact b,by simp_all,rfl⟩
section
variable{F F' G G':Nat->Prop}{h h':Hp}{L:Lc}{ops:List Int}{t t':Dt}{R R':Rw}{Q:fm}
theorem Ww(x y:Nat):ju 3 1 2 (V.I 0) [(0,V.I x),(1,V.I y)]=some (.cells 3 1 true false (mc [x,y]),λl=> .slice l 0 2):=rfl
theorem SM(ho:ops.length<9223372036854775808){n:Nat}(hn:Sm (ke ops t) n)(aj:n<880)(hb:t.blocks.length<900)(q:Dq F G h L ops {lD ops t with s:=ke ops t} R){K:Hp->Prop}
  (H:∀F' h' R',(∀l,F l->F' l)->Kp F (gm G L.mb) h h'->Dq F' G h' L ops (loop ops t) R'->Sm (loop ops t).s (n+6)->K h') :
  oP (fI 2 (.ptr L.lu 0)) λb=>
  oP (en b h) λc=>
  oP (fI 2 (.ptr L.lu 0)) λd=>
  oP (en d h) λe=>
  oP (gy 6 e (.I ((t.s.ee.length+1:Nat):Int))) λx=>
  oP (fI 4 x) λf=>
  oP (en f h) λg=>
  oP (gy 1 g (V.I 0)) λj=>
  oP (en j h) λm=>
  oP (en (.ptr L.gR 0) h) λo=>
  oP (en (.ptr L.gR 0) h) λp=>
  oP (fF p) λy=>
  oP (ef .sub 3 y (V.I 1)) λz=>
  oP (gy 1 o z) λr=>
  oP (en r h) λu=>
  uN (ju 3 1 2 (V.I 0) [(0,m),(1,u)]) h λv A a=>
  oP (gy 6 c (.I ((t.s.ee.length+1:Nat):Int))) λB=>
  oP (fI 4 B) λC=>
  ((a.get (h.next)=some v/\O.beq v v=true)/\
  ((en r a=some u)/\
  ((en (.ptr L.gR 0) a=some p)/\
  ((en (.ptr L.gR 0) a=some o)/\
  ((en j a=some m)/\
  ((en f a=some g)/\
  ((en d a=some e)/\
  ((en b a=some c)/\
  fi (gW 1 C A a) λvu X=>
  (a.next<=X.next/\
  oP (en (.ptr L.gR 0) X) λE=>
  oP (iZ 1 E none (some (.I ((qA ops t).known.length:Nat))) X) λI=>
  fi (gW 1 (.ptr L.gR 0) I X) λae h3=>
  iQ (ju 3 1 1 (V.I 0) [(0,(.I ((t.blocks.length+1:Nat):Int)))]) h3 λJ h4=>
  oP (fG [V.ed,(V.I 0),(V.I 0),V.ed,V.ed,(V.I 0)] [(0,1),(1,1),(2,1),(3,1),(4,1),(5,1)] [(1,(V.I 1)),(3,J)]) λM=>
  gv CS (fQ (DR L) [M]) h4 λag h5=>
  iQ (ju 3 1 1 (V.I 0) [(0,(.I ((t.blocks.length+1:Nat):Int)))]) h5 λN h6=>
  oP (fI 4 (.ptr L.iX 0)) λP=>
  fi (gW 1 P N h6) λah h7=>
  gv CS (fQ (Fc L) []) h7 λai h8=>K h8))))))))):=by
 let⟨y1,y2,y3⟩:=MA ops t
 have aa:=(BJ ops (lD ops t).s).kl;have Q:(qA ops t).known.length<=(ke ops t).known.length:=by rw[y3];exact aa
 have hk:=hn.k;have S:=hn.k0;have ab:0<(qA ops t).known.length:=by
  show 0<(_++[_]).length;simp
 have T:t.s.ee.length+1<({lD ops t with s:=ke ops t}:Dt).s.ee.length:=by show _<(ke ops t).ee.length;omega
 have eg:(ke ops t).ee[t.s.ee.length+1]'(by omega)=vl 21 0 0 0 [yL ops t,t.s.ee.length] 0:=by
  rw[iH (by omega)]at y1;exact Option.some.inj y1
 have ak:({lD ops t with s:=ke ops t}:Dt).blocks.length=t.blocks.length+2:=by simp[lD,J1,end_]
 refine ec (by rfl) (ec q.D.Qi (ec (by rfl) (ec q.D.Qi ?_)))
 let⟨Y,o1,w1,hl1,Z,i2,i3,i4⟩:=q.D.ov.read.ix T .i64
 let⟨wa,hwa,sa⟩:=i3
 rw[eg]at hwa sa;have ia:=i4 4 wa (by rw[hwa];rfl);have Z:gy 6 R.vv (.I ((t.s.ee.length+1:Nat):Int))=some (.ptr Y o1):=Z;refine ec Z (ec (by rfl) (ec ia ?_));have U:=hl1.elim (q.D.fl Y) λh=>(q.D.ov.tu h).2.1
 let⟨l2,o2,u2,hl2,j1,j2,j3⟩:=sa.PO (i:=0) (by simp[vl]) .i64 rfl
 have W:=hl2.elim (q.D.fl l2) λh=>(q.D.ov.tu h).2.1;obtain⟨rfl⟩:u2 = .I (yL ops t:Nat):=by
  have:[u2]=[V.I (yL ops t:Nat)]:=j3
  simp_all
 refine ec j1 (ec j2 ?_)
 let⟨l3,o3,hl3,_,m1,m2⟩:=q.BI (i:=(ke ops t).known.length-1) (by grind)
 have m3:en (.ptr l3 o3) h=some (.I ((ke ops t).known.getLastD 0:Nat)):=by rw[m2];show some (V.I (((ke ops t).known.getD _ 0:Nat):Int))=_;rw[yF _ S]
 refine ec q.D.w9 (ec q.D.w9 (ec q.D.ok.len (tM (by grind) S (ec m1 (ec m3 ?_)))));rw[Ww,ij]
 let⟨w,s1,k1⟩:=Bd q [yL ops t,(ke ops t).known.getLastD 0]
 have g1:(h.new (.cells 3 1 true false (mc [yL ops t,(ke ops t).known.getLastD 0]))).get h.next=_:=ez _ _;refine ec Z (ec (by rfl) ?_);refine⟨by simp_all,mN m3 (eR _ hl3),w.D.w9,w.D.w9,mN j2 (eR _ W),mN ia (eR _ U),w.D.Qi,w.D.Qi,?_⟩
 let⟨l4,h4,a1,a2,a3,a4,D4⟩:=w.D.V6 T s1
 have e4:V.ptr Y (o1+4)=V.ptr l4 ((t.s.ee.length+1)*6+4):=by
  have:(V.ptr Y o1)=V.ptr l4 ((t.s.ee.length+1)*6):=by simp_all
  cases this;rfl
 rw [e4];simp only[MX,Wc]at a2;rw[a2,ej];refine⟨a3,?_⟩;have q4:=Qj (t':={lD ops t with s:=DX ops t}) (w.step a4 D4 (by simp_all) q.gl w.hq rfl) (by
  grind[DX])
 have ac:Sm (DX ops t) n:=hn.setArgs _ _;refine J4 q4 Q λh5 R5 k5 q5=>?_;have n5:=ac.cut ab Q;refine zt q5 (show({lD ops t with s:=ke ops t}:Dt).blocks.length<_ by omega) 1 0 [t.blocks.length+1] 0 rfl (λ_=>rfl) λF6 h6 R6 f6 k6 q6=>?_;refine um q6 [t.blocks.length+1] rfl λF7 h7 R7 f7 k7 q7=>?_;have q7:=Qj (t':=L9 ops t) q7 rfl;have n7:Sm (L9 ops t).s n:=n5.end_ _ _ _ _ _;refine Bx q7 ho n7 (by omega) λF8 h8 R8 f8 k8 q8 n8=>?_;have ff:∀l,F l->F7 l:=by grind[nf]
 refine H F8 h8 R8 (by simp_all) ?_ (by grind[Qj,Oj]) (by grind[Oj]);have kk:=(((k1.gm L.mb).trans (a4.gm L.mb) (nf _ _)).trans ((k5.gm L.mb).trans (k6.gm L.mb) λ_ h=>h) (nf _ _)).trans (k7.gm L.mb) (by grind[nf]);exact kk.trans k8 ff
theorem Tx(ho:ops.length<9223372036854775808){n:Nat}(hn:Sm (qA ops t) n)(al:n<860)(hb:t.blocks.length<900)
  (q:Dq F G h L ops (end_ {J1 ops t with s:=qA ops t} 2 t.s.ee.length [t.blocks.length+2,t.blocks.length+3] 0 []) R) {K:fm}
  (H:∀F' h' R',(∀l,F l->F' l)->Kp F (gm G L.mb) h h'->Dq F' G h' L ops {lD ops t with s:=ke ops t} R'->Sm (ke ops t) (n+6)->K (.I ((qA ops t).known.length:Nat)) h') :
  oP (en (.ptr L.gR 0) h) λw=>
  oP (fF w) λd=>
  iQ (ju 3 1 1 (V.I 0) [(0,(.I ((t.blocks.length+1:Nat):Int)))]) h λx aa=>
  oP (fI 4 (.ptr L.iX 0)) λy=>
  fi (gW 1 y x aa) λaj ab=>
  gv CS (fQ (Fc L) []) ab λak z=>
  oP (fI 2 (.ptr L.lu 0)) λA=>
  oP (en A z) λB=>
  iQ (ju 3 1 2 (V.I 0) [(0,(.I ((fu ops t.s).1:Nat))),(1,(.I ((t.s.ee.length+4:Nat):Int)))]) z λC ac=>
  oP (gy 6 B (.I t.s.ee.length)) λE=>
  oP (fI 4 E) λI=>
  fi (gW 1 I C ac) λae J=>
  oP (en (.ptr L.na 0) J) λM=>
  gv CS (fQ M [(V.I 3)]) J λN a=>
  oP (ef .eql 3 N (V.I 0)) λP=>
  bP P (
  oP (fI 2 (.ptr L.lu 0)) λe=>
  oP (en e a) λf=>
  oP (en (.ptr L.gR 0) a) λg=>
  oP (en (.ptr L.gR 0) a) λj=>
  oP (fF j) λQ=>
  oP (ef .sub 3 Q (V.I 1)) λS=>
  oP (gy 1 g S) λm=>
  oP (en m a) λo=>
  uN (ju 3 1 2 (V.I 0) [(0,(.I ((fu ops t.s).1:Nat))),(1,o)]) a λu T b=>
  oP (gy 6 f (.I t.s.ee.length)) λU=>
  oP (fI 4 U) λW=>
  ((b.get (a.next)=some u/\O.beq u u=true)/\
  ((en m b=some o)/\
  ((en (.ptr L.gR 0) b=some j)/\
  ((en (.ptr L.gR 0) b=some g)/\
  ((en e b=some f)/\
  fi (gW 1 W T b) λag X=>
  (b.next<=X.next/\K d X)))))))
  (K d a):=by
 let⟨_,z2⟩:=Gn ops t
 refine ec q.D.w9 (ec q.D.ok.len ?_);refine um q [t.blocks.length+1] rfl λF1 h1 R1 f1 k1 q1=>?_;have q1:=Qj (t':=lD ops t) q1 rfl;have n1:Sm (lD ops t).s n:=hn.end_ _ _ _ _ _;refine Bx q1 ho n1 (by omega) λF2 h2 R2 f2 k2 q2 n2=>?_
 let⟨_,l,hl⟩:=BJ ops (lD ops t).s
 have e0:(lD ops t).s.ee=(qA ops t).ee:=rfl;have h4:t.s.ee.length+5<=(row ops (lD ops t).s).ee.length:=by rw[hl,e0,Ja];omega
 refine ec (by rfl) (ec q2.D.Qi ?_);rw[Ww,fJ]
 let⟨q3,s3,k3⟩:=Bd q2 [(fu ops t.s).1,t.s.ee.length+4]
 let⟨l4,ah,a1,a2,a3,a4,D4⟩:=q3.D.V6 (p:=t.s.ee.length) (by grind) s3
 refine ec a1 (ec (by rfl) ?_);simp[MX,Wc]at a2;rw[a2,ej];have q4:=q3.step a4 D4 (by simp_all) q.gl q3.hq rfl;have n4:Sm (mq ops t) (n+6):=n2.setArgs _ _;refine ec q4.sq ?_;show cP CS eJ [.I ((3:Nat):Int),.ptr L.mb 0,.ptr L.lr 0] ah _;refine tJ q4 (by decide) (by decide) ho λZ k5 c=>?_;have c:Dq (fz F2 h2.next) G Z L ops {lD ops t with s:=(num ops (mq ops t) 3).2} R2:=c;have n5:Sm (num ops (mq ops t) 3).2 (n+6):=n4.num 3;have ff:∀l,F l->fz F2 h2.next l:=by grind[nf]
 have kk:=(((k1.gm L.mb).trans k2 f1).trans ((k3.gm L.mb).trans (a4.gm L.mb) (nf _ _)) (by simp_all)).trans k5 ff;show oP (ef .eql 3 (.I ((num ops (mq ops t) 3).1:Nat)) (V.I 0)) _;by_cases hd:(num ops (mq ops t) 3).1=0
 ·refine hH (gU (by omega) ?_);have Y:ke ops t=setArgs (num ops (mq ops t) 3).2 t.s.ee.length [(fu ops t.s).1,(row ops (lD ops t).s).known.getLastD 0]:=by unfold ke;rw[if_pos hd]
  have am:=n5.k;have r:=n5.k0;have ai:(num ops (mq ops t) 3).2.known=(row ops (lD ops t).s).known:=rfl;refine ec (by rfl) (ec c.D.Qi ?_)
  let⟨l3,o3,hl3,_,m1,m2⟩:=c.BI (i:=(num ops (mq ops t) 3).2.known.length-1) (by grind)
  have m3:en (.ptr l3 o3) Z=some (.I ((row ops (lD ops t).s).known.getLastD 0:Nat)):=by
   rw[m2,<-ai];show some (V.I (((num ops (mq ops t) 3).2.known.getD _ 0:Nat):Int))=_;rw[yF _ r]
  refine ec c.D.w9 (ec c.D.w9 (ec c.D.ok.len (tM (by grind) r (ec m1 (ec m3 ?_)))));rw[Ww,ij]
  let⟨v,s6,k6⟩:=Bd c [(fu ops t.s).1,(row ops (lD ops t).s).known.getLastD 0]
  have g6:(Z.new (.cells 3 1 true false (mc [(fu ops t.s).1,(row ops (lD ops t).s).known.getLastD 0]))).get Z.next=_:=ez _ _
  let ⟨l7,h7,b1,b2,b3,b4,D7⟩:=v.D.V6 (p:=t.s.ee.length) (by
   show _<(mq ops t).ee.length
   grind[mq,zq]) s6
  refine ec b1 (ec (by rfl) ?_);refine⟨by simp_all,mN m3 (eR _ hl3),v.D.w9,v.D.w9,v.D.Qi,?_⟩;simp only[MX,Wc,EM]at b2;rw[b2,ej];have q7:=Qj (t':={lD ops t with s:=ke ops t}) (v.step b4 D7 (by simp_all) q.gl v.hq rfl) (by rw[Y]);refine⟨b3,H _ _ _ (by grind[nf]) (kk.trans ((k6.gm L.mb).trans (b4.gm L.mb) (nf _ _)) ff) q7 ?_⟩;rw[Y];exact n5.setArgs _ _
 ·refine hH (gB (by omega) ?_);have Y:ke ops t=(num ops (mq ops t) 3).2:=by unfold ke;rw[if_neg hd]
  exact H _ _ _ ff kk (Qj c (by rw[Y])) (by rw[Y];exact n5)
end
open Un
def uC(u:U)(v b s:V):List V:=[.I u.func,.I u.pc,v,b,s]
def YV:sQ U where
 sz:=5
 rel F h u cs:=∃v b s,cs=uC u v b s/\iL eV F h u.ee v/\iL eK F h u.blocks b/\iL eT F h u.eh s
 len:=λ⟨_,_,_,h,_⟩=>by subst h;rfl
 one:=λ⟨_,_,_,h,a,c,d⟩=>by subst h;simp only[uC,fc,a.one,c.one,d.one];rfl
 eD:=λe ⟨v,n,p,h,a,c,d⟩=>⟨v,n,p,h,a.eD e,c.eD e,d.eD e⟩
 mono:=λf ⟨v,n,p,h,a,c,d⟩=>⟨v,n,p,h,a.mono f,c.mono f,d.mono f⟩
theorem T0(ops:List Int)(t:Dt):(fork ops t).blocks.length=t.blocks.length+3:=by simp[fork,end_]
theorem S5(ops:List Int)(t:Dt):(wG ops t).blocks.length=t.blocks.length+2:=by simp[wG,end_]
theorem T9(ops:List Int)(t:Dt):(loop ops t).blocks.length=t.blocks.length+3:=by simp[loop,end_]
section
variable{F F' G G':Nat->Prop}{h h':Hp}{L:Lc}{ops:List Int}{t t':Dt}{R R':Rw}{Q:fm}
theorem Xv{a:List Int}{vo vs nv:V}{b:Nat}(y:ops.length<9223372036854775808)(q:Dq F G h L ops t R)(hn:Sm t.s 30)(hb:t.blocks.length=0)(A:h.get L.lr=some (.cells Lq 1 true false [vo,vs,nv]))(Y:iL (eI .i64) F h a vs)
  (ai:G b) (Z:b≠L.mb) (aa:∃c,h.get b=some (.cells 29 1 true false c)/\c.length=5)
  (H:∀F' h' R' d,(∀l,F l->F' l)->Kp F (gm G L.mb) h h'->Dq F' G h' L ops d R'->d=end_ {kI ops (a.take 6) t with s:=(fk ops (kI ops (a.take 6) t).s).2} 3 0 [] (fk ops (kI ops (a.take 6) t).s).1 []->
   fi (gW 5 (.ptr b 0) (.agg [.I 1,.I 2,R'.vv,R'.vb,R'.vs]) h') λ_ f=>oP (fZ 5 (.ptr b 0) f) λr=>Q r f) :
  mB CS Q (.ptr L.lr 0) (.ptr b 0) (.ptr L.lu 0) (.ptr L.gR 0) (.ptr L.iX 0) (.ptr L.vV 0) (.ptr L.na 0) (.ptr L.Ox 0) (Fc L) (DR L) (.I 0) h:=by
 refine yO (λk M N O P S T g j m n o h'=>∃(F':Nat->Prop) (R':Rw) (i:Nat) (t':Dt),M = .ptr L.lr 0/\N = .ptr b 0/\O = .ptr L.lu 0/\P = .ptr L.gR 0/\S = .ptr L.iX 0/\T = .ptr L.vV 0/\
  g = .ptr L.na 0/\j = .ptr L.Ox 0/\m=Fc L/\n=DR L/\o = .I i/\i+k=6/\(∀l,F l->F' l)/\Kp F (gm G L.mb) h h'/\Dq F' G h' L ops t' R'/\Sm t'.s (30+30*i)/\t'.blocks.length<=3*i/\
  kI ops ((a.take 6).drop i) t' = kI ops (a.take 6) t) ?_ (k:=6)
  ⟨F,R,0,t,rfl,rfl,rfl,rfl,rfl,rfl,rfl,rfl,rfl,rfl,rfl,rfl,λ_ h=>h,Kp.refl _ _ _,q,hn,by omega,by rw[SE]⟩
 rintro k M N O P S T g j m n o h' ⟨F1,R1,i,d,rfl,rfl,rfl,rfl,rfl,rfl,rfl,rfl,rfl,rfl,rfl,aj,hF,U,u,W,b1,B⟩;unfold qS;have C:h'.get L.lr=some (.cells Lq 1 true false [vo,vs,nv]):=by rw[U.eD _ (.inl q.fr)];exact A
 have E:en (.ptr L.lr 1) h' = some vs:=js C rfl;have lv:=u.D.ov.len;have I:iL (eI .i64) F h' a vs:=Y.eD λl hl=>U.eD l (.inl hl);refine ec (by rfl) (ec E (ec I.len (ec (by rfl) ?_)));have e1:jq (.bool (decide (((i:Nat):Int)<(a.length:Nat)))) (oB (some (V.I i)) λab=>ef .lss 3 ab (V.I 6))=some (.bool (decide (((i:Nat):Int)<(a.length:Nat))&&decide (((i:Nat):Int)<6))):=by
  simp only[eQ,jo,ir]
 refine ec e1 ?_
 have e2:jq (.bool (decide (((i:Nat):Int)<(a.length:Nat))&&decide (((i:Nat):Int)<6))) (oB (fI 2 (.ptr L.lu 0)) λac=>oB (en ac h') λae=>oB (fF ae) λag=>ef .lss 3 ag (V.I 160)) =
   some (.bool ((decide (((i:Nat):Int)<(a.length:Nat))&&decide (((i:Nat):Int)<6))&&decide (((d.s.ee.length:Nat):Int)<160))):=by
  simp only[fH,eQ,EM,u.D.Qi,lv,jo,ir]
 refine ec e2 (je ?_);by_cases hgo:i<a.length/\i<6/\d.s.ee.length<160;rotate_left
 ·
  refine gB (by grind) ?_;have J:d=kI ops (a.take 6) t:=by
   rw[<-B];by_cases hi:i<(a.take 6).length
   ·rw[YL hi];unfold kI
    grind
   ·rw[List.drop_of_length_le (by omega)];rfl
  subst J;refine ec u.DM ?_;refine Ib u y W (by omega) λp f R2 K v w z=>?_;have eB:∀sn:Nat,fG [V.ed,(V.I 0),(V.I 0),V.ed,V.ed,(V.I 0)] [(0,1),(1,1),(2,1),(3,1),(4,1),(5,1)] [(1,(V.I 3)),(5,.I (sn:Nat))]=some (.agg (lC ⟨[],3,0,[],[],sn⟩ .ed .ed .ed)):=λ_=>rfl;refine ec (eB _) ?_;refine MY w (show(kI ops (a.take 6) t).blocks.length<_ by omega) ⟨[],3,0,[],[],_⟩ rfl rfl rfl .nil λF3 h3 R3 f3 k3 X=>?_;have lA:fZ 5 (.ptr L.lu 0) h3=some (.agg [.I 1,.I 2,R3.vv,R3.vb,R3.vs]):=y6 X.D.gu rfl;refine ec lA ?_;have kk:=(U.trans v hF).trans (k3.gm L.mb) (by simp_all);exact H F3 h3 R3 _ (by grind) kk X rfl
 obtain⟨g1,g2,g3⟩:=hgo;refine gU (by grind) ?_;obtain⟨l4,o4,u4,_,i1,i2,i3⟩:=I.PO g1 .i64 rfl;obtain⟨rfl⟩:u4 = .I a[i]:=by simpa using i3.1
 refine ec (by rfl) (ec E (ec i1 (ec i2 ?_)));show cP CS fP [.I a[i],.I ((3:Nat):Int)] h' _;refine zX (by decide) (by decide) ?_;have ah:i<(a.take 6).length:=by rw[MI];omega
 have x:kI ops ((a.take 6).drop (i+1)) (rh ops (jk a[i] 3) d)=kI ops (a.take 6) t:=by
  rw[<-B,YL ah]
  conv=>rhs;unfold kI
  rw[if_pos g3,List.getElem_take]
 have fin:∀(p:Nat->Prop) (f:Hp) (R2:Rw),(∀l,F1 l->p l)->Kp F1 (gm G L.mb) h' f->Dq p G f L ops (rh ops (jk a[i] 3) d) R2->Sm (rh ops (jk a[i] 3) d).s (30+30*i+30)->(rh ops (jk a[i] 3) d).blocks.length<=3*(i+1)->
   jf CS Q (λM N O P S T g j m n o hh=>∃k',k' < k/\∃(F':Nat->Prop) (R':Rw) (i:Nat) (t':Dt),M = .ptr L.lr 0/\N = .ptr b 0/\O = .ptr L.lu 0/\P = .ptr L.gR 0/\S = .ptr L.iX 0/\T = .ptr L.vV 0/\
    g = .ptr L.na 0/\j = .ptr L.Ox 0/\m=Fc L/\n=DR L/\o = .I i/\i+k' = 6/\(∀l,F l->F' l)/\Kp F (gm G L.mb) h hh/\Dq F' G hh L ops t' R'/\Sm t'.s (30+30*i)/\t'.blocks.length<=3*i/\
    kI ops ((a.take 6).drop i) t' = kI ops (a.take 6) t) (.ptr L.lr 0) (.ptr b 0) (.ptr L.lu 0) (.ptr L.gR 0) (.ptr L.iX 0) (.ptr L.vV 0) (.ptr L.na 0) (.ptr L.Ox 0) (Fc L) (DR L) (.I i) f:=by
  intro p f R2 K v w z b2;refine yj ?_;unfold pY;refine gq ?_;exact⟨k-1,by omega,p,R2,i+1,_,rfl,rfl,rfl,rfl,rfl,rfl,rfl,rfl,rfl,rfl,rfl,by omega,by simp_all,U.trans v hF,w,z,b2,x⟩
 by_cases c0:jk a[i] 3=0
 ·refine hH (gU (by omega) ?_);have e:rh ops (jk a[i] 3) d=fork ops d:=by unfold rh;rw[if_pos c0]
  rw[e]at fin;refine Td u y W (by omega) (by omega) λp f R2 K v w z=>?_
  grind[T0]
 refine hH (gB (by omega) ?_);by_cases c1:jk a[i] 3=1
 ·refine hH (gU (by omega) ?_);have e:rh ops (jk a[i] 3) d=loop ops d:=by unfold rh;rw[if_neg c0,if_pos c1]
  rw[e]at fin;refine SU u y W (by omega) (by omega) λp f R2 s6 K v w z e6 _=>?_;subst e6;refine Tx y z (by omega) (by omega) w λF3 h3 R3 f3 k3 X n3=>?_;refine yp ?_;unfold qd;refine SM y n3 (by omega) (by omega) X λF4 h4 R4 f4 k4 q4 n4=>?_;exact fin F4 h4 R4 (by grind) ((v.trans k3 K).trans k4 (by simp_all)) q4 (n4.le (by omega)) (by grind[T9])
 ·refine hH (gB (by omega) ?_);have e:rh ops (jk a[i] 3) d=wG ops d:=by unfold rh;rw[if_neg c0,if_neg c1]
  rw[e]at fin;refine TG u y W (by omega) (by omega) λp f R2 K v w z=>?_
  grind[S5]
end
