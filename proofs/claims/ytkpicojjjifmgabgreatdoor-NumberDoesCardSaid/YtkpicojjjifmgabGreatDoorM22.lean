/- Parts. -/
import Derived.Test.YtkpicojjjifmgabGreatDoorM21
set_option maxHeartbeats 4000000
namespace Go.Proofs.YtkpicojjjifmgabGreatDoor.Hx
open Un
section
variable{F F' G G':Nat->Prop}{h h':Hp}{L:Lc}{ops:List Int}{t t':Dt}{R R':Rw}{Q:fD}
theorem Sm.app{s:Ds}{n:Nat}(a:Sm s n)(ys:List Nat):Sm {s with known:=s.known++ys} (n+ys.length):=
 ⟨by have:=a.v;grind,by have:=a.c;grind,by have:=a.k;simp_all,by have:=a.st;grind,by have:=a.k0;grind⟩
theorem Ou:∀ys:List Nat,gw (ic ys)=true
 |[]=>rfl
 |y::ys=>by show gw (V.I y::ic ys)=true;rw[eJ,Ou ys];rfl
theorem Zc(q:Dq F G h L ops t R){n:Nat}(e:Sm t.s n)(f:n<1000)(ys:List Nat)(g:0<ys.length)(i:ys.length<=5){ps:Option (O×(Nat->V))}(hx:ps=some (O.cells 3 1 true false (ic ys),λl=> .slice l 0 ys.length)){K:Hp->Prop}
  (H:∀h' R',Kp F G h h'->Dq F G h' L ops {t with s:={t.s with known:=t.s.known++ys} } R'->K h') :
  oP (fe (.ptr L.iH 0) h) λa=>hV ps h λv j=>fm (fh 3 1 8 a v j) λw m=>fm (gJ 1 (.ptr L.iH 0) w m) λ_ b=>K b:=by
 subst hx;refine eh q.D.Bg ?_;rw[fE];have o:=q.D.grow (mA.new h (.cells 3 1 true false (ic ys)));have B:(ic ys).length=ys.length:=by simp[ic]
 obtain⟨new,p,r⟩:=E9 (n:=ys.length) (off:=0) (sz:=1) (fq h (.cells 3 1 true false (ic ys))) (by omega);have u:new=ic ys:=by rw[r,ZT,ZJ (by omega)]
 subst u;have C:=e.k;have x:gw (ic ys)=true:=Ou ys;obtain⟨y,b,E,a1,a2,a3,I,z,A⟩:=o.zdc (ys:=ys) p (zI _ _ ys) (by omega) x g (by omega);have c:fh 3 1 8 R.vk (.slice h.next 0 ys.length) (h.new (.cells 3 1 true false (ic ys)))=some (.val y b):=a1;rw[c,en,a3,en];have d:=(q.D.Al (.cells 3 1 true false (ic ys))).trans z λ_ h=>h;exact H _ _ d (q.step d A (by grind) q.gl q.hq rfl)
theorem N0(q:Dq F G h L ops t R){n:Nat}(c:Sm t.s n)(b:n<999)(x:Vl){w:V}{a:V}(d:im eN F h x.args a)(e:w = .agg (mF x a)){K:fD}
  (H:∀h' R',Kp F G h h'->R'.vk=R.vk->Dq F G h' L ops {t with s:=put t.s x} R'->K (.I t.s.ej.length) h'):ij CS (gv (zcw L) [w]) h K:=by
 subst e;show cP CS fH [.agg (mF x a),.ptr L.lu 0,.ptr L.jT 0] h K;exact Ko q c b ⟨a,rfl,d⟩ H
def MZ(ops:List Int)(t:Dt):Dt:=end_ {t with s:=(fO ops t.s).2} 1 0 [t.blocks.length+1] 0 [t.blocks.length,t.blocks.length+2]
def Ql(ops:List Int)(t:Dt):Ds:=put (MZ ops t).s (vl 21 0 0 0 [(fO ops t.s).1,0] 0)
def Eg(ops:List Int)(t:Dt):Nat:=(fO ops (Ql ops t)).1
def Qk(ops:List Int)(t:Dt):Ds:=put (fO ops (Ql ops t)).2 (vl 21 0 0 0 [Eg ops t,t.s.ej.length] 0)
def Qo(ops:List Int)(t:Dt):Ds:={Qk ops t with known:=(Qk ops t).known++[t.s.ej.length,t.s.ej.length+1]}
def QP(ops:List Int)(t:Dt):Ds:=put (fK ops (Qo ops t)).2 (vl 23 0 0 0 [] (fK ops (Qo ops t)).1)
def qb(ops:List Int)(t:Dt):Ds:=jd (put (QP ops t) (vl 2 0 0 1 [] 0)) (vl 4 t.s.ej.length (t.s.ej.length+3) 0 [] 0)
def nr(ops:List Int)(t:Dt):Dt:=end_ {MZ ops t with s:=qb ops t} 2 t.s.ej.length [t.blocks.length+2,t.blocks.length+3] 0 [t.blocks.length+1]
def pt(ops:List Int)(t:Dt):Ds:=setArgs (row ops (nr ops t).s) t.s.ej.length [(fO ops t.s).1,t.s.ej.length+4]
def mq(ops:List Int)(t:Dt):Ds:=if(num ops (pt ops t) 3).1=0 then setArgs (num ops (pt ops t) 3).2 t.s.ej.length [(fO ops t.s).1,(row ops (nr ops t).s).known.getLastD 0] else(num ops (pt ops t) 3).2
def Fv(ops:List Int)(t:Dt):Ds:=setArgs (mq ops t) (t.s.ej.length+1) [Eg ops t,(row ops (nr ops t).s).known.getLastD 0]
def Ta(ops:List Int)(t:Dt):Dt:=end_ {nr ops t with s:=cut (qb ops t).known.length (Fv ops t)} 1 0 [t.blocks.length+1] 0 [t.blocks.length+1]
theorem Ma(ops:List Int)(t:Dt):∃x,(QP ops t).ej=t.s.ej++[vl 21 0 0 0 [(fO ops t.s).1,0] 0,vl 21 0 0 0 [Eg ops t,t.s.ej.length] 0,x]:=by
 refine⟨vl 23 0 0 0 [] (fK ops (Qo ops t)).1,?_⟩;unfold QP;rw[put,(Ed ops (Qo ops t)).1];show(Qk ops t).ej++[_]=_;unfold Qk;show((Ql ops t).ej++[_])++[_]=_;unfold Ql;show(((MZ ops t).s.ej++[_])++[_])++[_]=_;simp only[Lb,List.singleton_append,wBo,OG];rfl
theorem Vu(ops:List Int)(t:Dt):loop ops t = {Ta ops t with s:=row ops (Ta ops t).s}:=by
 obtain⟨x,hx⟩:=Ma ops t;have e:(QP ops t).ej.length=t.s.ej.length+3:=by rw[hx];simp
 unfold Ta Fv mq pt nr qb;rw[show t.s.ej.length+4=(t.s.ej.length+3)+1 from rfl,<-e];rfl
theorem zaC(q:Dq F G h L ops t R)(ho:ops.length<9223372036854775808){n:Nat}(hn:Sm t.s n)(cB:n<800)(hb:t.blocks.length<900){K:Q1}
  (H:∀F' h' R' d,(∀l,F l->F' l)->Kp F (gm G L.oT) h h'->Dq F' G h' L ops (end_ {MZ ops t with s:=d} 2 t.s.ej.length [t.blocks.length+2,t.blocks.length+3] 0 []) R'->Sm d (n+10)->
   d=qb ops t->
   d.ej.length=t.s.ej.length+5->
   K (.I ((fO ops t.s).1:Nat)) (.I (t.blocks.length+1:Nat)) (.I t.s.ej.length) (.I ((t.s.ej.length+1:Nat):Int)) (.I ((t.s.ej.length+4:Nat):Int)) (.I ((t.blocks.length+1:Nat):Int)) h') :
  oP (fe (.ptr L.iH 0) h) λN=>
  oP (fe (.ptr L.qH 0) h) λaj=>
  oP (fe (.ptr L.iH 0) h) λak=>
  oP (fI ak) λal=>
  ij CS (gv aj [al]) h λam j=>
  (h.next<=j.next/\
  oP (gB 1 N am) λan=>
  oP (fe an j) λP=>
  ((fe (.ptr L.iH 0) j=some N)/\
  oP (fJ 3 (.ptr L.lu 0)) λao=>
  oP (fe ao j) λap=>
  oP (fI ap) λaq=>
  oP (ez .add 3 aq (V.I 1)) λar=>
  hV (jz 3 1 1 (V.I 0) [(0,ar)]) j λau bD=>
  oP (fV [V.ei,(V.I 0),(V.I 0),V.ei,V.ei,(V.I 0)] [(0,1),(1,1),(2,1),(3,1),(4,1),(5,1)] [(1,(V.I 1)),(3,au)]) λaw=>
  ij CS (gv (J5 L) [aw]) bD λQ bE=>
  oP (ez .add 3 Q (V.I 1)) λc=>
  oP (ez .add 3 c (V.I 1)) λax=>
  hV (jz 3 1 2 (V.I 0) [(0,Q),(1,ax)]) bE λay bG=>
  oP (fJ 4 (.ptr L.jT 0)) λaA=>
  fm (gJ 1 aA ay bG) λcx aB=>
  oP (fe (.ptr L.AD 0) aB) λaC=>
  hV (jz 3 1 2 (V.I 0) [(0,P),(1,(V.I 0))]) aB λaD bH=>
  oP (fV [(V.I 0),(V.I 0),(V.I 0),(V.I 0),V.ei,(V.I 0)] [(0,1),(1,1),(2,1),(3,1),(4,1),(5,1)] [(0,(V.I 21)),(4,aD)]) λaE=>
  ij CS (gv aC [aE]) bH λa e=>
  oP (fe (.ptr L.AD 0) e) λS=>
  oP (fe (.ptr L.iH 0) e) λT=>
  oP (fe (.ptr L.qH 0) e) λaF=>
  oP (fe (.ptr L.iH 0) e) λaG=>
  oP (fI aG) λaH=>
  ij CS (gv aF [aH]) e λaI w=>
  (e.next<=w.next/\
  oP (gB 1 T aI) λU=>
  oP (fe U w) λW=>
  yp (jz 3 1 2 (V.I 0) [(0,W),(1,a)]) w λo9 aJ f=>
  oP (fV [(V.I 0),(V.I 0),(V.I 0),(V.I 0),V.ei,(V.I 0)] [(0,1),(1,1),(2,1),(3,1),(4,1),(5,1)] [(0,(V.I 21)),(4,aJ)]) λaK=>
  ((f.get (w.next)=some o9/\O.beq o9 o9=true)/\
  ((fe U f=some W)/\
  ((fe (.ptr L.iH 0) f=some T)/\
  ((fe (.ptr L.AD 0) f=some S)/\
  ij CS (gv S [aK]) f λX ab=>
  (f.next<=ab.next/\
  oP (fe (.ptr L.iH 0) ab) λaL=>
  hV (jz 3 1 2 (V.I 0) [(0,a),(1,X)]) ab λaM bI=>
  fm (fh 3 1 8 aL aM bI) λaN bJ=>
  fm (gJ 1 (.ptr L.iH 0) aN bJ) λcy z=>
  oP (fe (.ptr L.AD 0) z) λY=>
  oP (fe (.ptr L.VS 0) z) λaO=>
  ij CS (gv aO []) z λaP A=>
  (z.next<=A.next/\
  oP (fV [(V.I 0),(V.I 0),(V.I 0),(V.I 0),V.ei,(V.I 0)] [(0,1),(1,1),(2,1),(3,1),(4,1),(5,1)] [(0,(V.I 23)),(5,aP)]) λaQ=>
  ((fe (.ptr L.AD 0) A=some Y)/\
  ij CS (gv Y [aQ]) A λcz ac=>
  (A.next<=ac.next/\
  oP (fe (.ptr L.AD 0) ac) λaR=>
  oP (fV [(V.I 0),(V.I 0),(V.I 0),(V.I 0),V.ei,(V.I 0)] [(0,1),(1,1),(2,1),(3,1),(4,1),(5,1)] [(0,(V.I 2)),(3,(V.I 1))]) λaS=>
  ij CS (gv aR [aS]) ac λaT aU=>
  oP (fe (.ptr L.AD 0) aU) λaV=>
  oP (fV [(V.I 0),(V.I 0),(V.I 0),(V.I 0),V.ei,(V.I 0)] [(0,1),(1,1),(2,1),(3,1),(4,1),(5,1)] [(0,(V.I 4)),(1,a),(2,aT)]) λaW=>
  ij CS (gv aV [aW]) aU λZ aX=>
  oP (fe (.ptr L.iH 0) aX) λaY=>
  hV (jz 3 1 1 (V.I 0) [(0,Z)]) aX λaZ bK=>
  fm (fh 3 1 8 aY aZ bK) λa4 bL=>
  fm (gJ 1 (.ptr L.iH 0) a4 bL) λcA bQ=>
  oP (ez .add 3 c (V.I 1)) λa5=>
  oP (ez .add 3 c (V.I 2)) λa6=>
  hV (jz 3 1 2 (V.I 0) [(0,a5),(1,a6)]) bQ λa7 bR=>
  oP (fV [V.ei,(V.I 0),(V.I 0),V.ei,V.ei,(V.I 0)] [(0,1),(1,1),(2,1),(3,1),(4,1),(5,1)] [(1,(V.I 2)),(2,a),(3,a7)]) λa8=>
  ij CS (gv (J5 L) [a8]) bR λa9 bS=>K P c a X Z a9 bS)))))))))))
   :=by
 have cC:=hn.k0;have hk:=hn.k;have hv:=hn.v;refine UF q ho hn (by omega) λh2 k2 q2=>?_;refine eh (by rfl) (eh q2.D.ldB (eh q2.D.ob.len (lZ (m:=1) (show t.blocks.length<_ by omega) (by omega) ?_)));have n2:Sm (fO ops t.s).2 n:=hn.one;refine EX q2 (show t.blocks.length<_ by omega) 1 0 [t.blocks.length+1] 0 rfl (λ_=>rfl) λF4 h4 R4 f4 k4 q4=>?_;refine lZ (n:=t.blocks.length) (m:=1) (by omega) (by omega) ?_;refine lZ (n:=t.blocks.length+1) (m:=1) (by omega) (by omega) ?_;refine zk q4 [t.blocks.length,t.blocks.length+2] rfl λF6 h6 R6 f6 k6 q6=>?_;have q6:=Xs (t':=end_ {t with s:=(fO ops t.s).2} 1 0 [t.blocks.length+1] 0 [t.blocks.length,t.blocks.length+2]) q6 rfl;have n6:Sm (end_ {t with s:=(fO ops t.s).2} 1 0 [t.blocks.length+1] 0 [t.blocks.length,t.blocks.length+2]).s n:=n2.end_ (t:={t with s:=(fO ops t.s).2}) _ _ _ _ _;have bU:(end_ {t with s:=(fO ops t.s).2} 1 0 [t.blocks.length+1] 0 [t.blocks.length,t.blocks.length+2]).blocks.length=t.blocks.length+1:=by simp[end_]
 have ba:(end_ {t with s:=(fO ops t.s).2} 1 0 [t.blocks.length+1] 0 [t.blocks.length,t.blocks.length+2]).s.ej.length=t.s.ej.length:=rfl;have kA:=kgm k2 (k4.trans k6 f4) λ_ h=>h;have fA:∀l,F l->F6 l:=by simp_all
 generalize bV:end_ {t with s:=(fO ops t.s).2} 1 0 [t.blocks.length+1] 0 [t.blocks.length,t.blocks.length+2]=b at*;clear q2 q4 k2 k4 k6;generalize bW:(fO ops t.s).1=fr at*;refine eh q6.qt ?_;have e3:∀x y:Nat,jz 3 1 2 (V.I 0) [(0,V.I (x:Nat)),(1,V.I (y:Nat))]=some (.cells 3 1 true false (ic [x,y]),λl=> .slice l 0 2):=λ_ _=>rfl;have bX:jz 3 1 2 (V.I 0) [(0,V.I fr),(1,V.I 0)]=some (.cells 3 1 true false (ic [fr,0]),λl=> .slice l 0 2):=e3 fr 0;rw[bX,fE];obtain⟨q7,s7,k7⟩:=G8 q6 [fr,0];generalize h6.new (.cells 3 1 true false (ic [fr,0]))=h7 at*;have eP:∀(x y n:Nat),fV [(V.I 0),(V.I 0),(V.I 0),(V.I 0),V.ei,(V.I 0)] [(0,1),(1,1),(2,1),(3,1),(4,1),(5,1)] [(0,(V.I 21)),(4,.slice n 0 2)]=some (.agg (mF (vl 21 0 0 0 [x,y] 0) (.slice n 0 2))):=λ_ _ _=>rfl;refine eh (by rfl) ?_;refine N0 q7 n6 (by omega) (vl 21 0 0 0 [fr,0] 0) s7 rfl λh8 R8 k8 _ q8=>?_;have n8:=n6.put (vl 21 0 0 0 [fr,0] 0);have bY:(put b.s (vl 21 0 0 0 [fr,0] 0)).ej.length=t.s.ej.length+1:=by simp[put,ba]
 rw[ba];generalize bZ:put b.s (vl 21 0 0 0 [fr,0] 0)=s1 at*;have kB:Kp F (gm G L.oT) h h8:=kA.trans ((k7.gm L.oT).trans (k8.gm L.oT) (qM _ _)) fA;have fB:∀l,F l->fz F6 h6.next l:=by grind[qM]
 clear kA k7 k8 q6 q7 s7;refine eh q8.qt (eh q8.D.Bg (eh q8.xx (eh q8.D.Bg (eh q8.D.ok.len ?_))));show cP CS ft [.I s1.known.length,.ptr L.oT 0,.ptr L.lr 0] h8 _;refine Ov q8 ho n8 (by omega) λB l9 o9 k9 q9 b4 i1 i2=>⟨k9.next,eh i1 (eh i2 ?_)⟩
 have i2:fe (.ptr l9 o9) B=some (.I ((fO ops s1).1:Nat)):=i2;have q9:Dq (fz F6 h6.next) G B L ops {b with s:=(fO ops s1).2} R8:=q9;have n9:=n8.one (ops:=ops);have bb:(fO ops s1).2.ej.length=t.s.ej.length+1:=bY;show yp (jz 3 1 2 (V.I 0) [(0,V.I ((fO ops s1).1:Nat)),(1,V.I t.s.ej.length)]) B _;have eW:∀s:Ds,fO ops s=((fO ops s).1,(fO ops s).2):=λ_=>rfl;generalize b5:(fO ops s1).2=sg at*;generalize b6:(fO ops s1).1=g at*;rw[e3,hX];obtain⟨C,bc,bd⟩:=G8 q9 [g,t.s.ej.length];have cD:(B.new (.cells 3 1 true false (ic [g,t.s.ej.length]))).get B.next=_:=fq _ _;refine eh (by rfl) ⟨by grind[O.kF],iA i2 (fk _ b4),C.D.Bg,C.qt,?_⟩;generalize B.new (.cells 3 1 true false (ic [g,t.s.ej.length]))=cE at*;refine N0 C n9 (by omega) (vl 21 0 0 0 [g,t.s.ej.length] 0) bc rfl λbe R11 RK _ ae=>⟨RK.next,?_⟩
 have bf:=n9.put (vl 21 0 0 0 [g,t.s.ej.length] 0);have bg:(put sg (vl 21 0 0 0 [g,t.s.ej.length] 0)).ej.length=t.s.ej.length+2:=by simp[put,bb]
 have b7:(({b with s:=sg}:Dt).s.ej.length:Nat)=t.s.ej.length+1:=bb;rw[b7];generalize b8:put sg (vl 21 0 0 0 [g,t.s.ej.length] 0)=s2 at*;have ae:Dq (fz (fz F6 h6.next) B.next) G be L ops {b with s:=s2} R11:=ae;have kC:Kp F (gm G L.oT) h be:=kB.trans (k9.trans ((bd.gm L.oT).trans (RK.gm L.oT) (qM _ _)) λ_ h=>h) fB;have fC:∀l,F l->fz (fz F6 h6.next) B.next l:=by grind[qM]
 clear kB k9 bd RK q8 q9 C bc;generalize fz (fz F6 h6.next) B.next=FC at*;refine Zc ae bf (by omega) [t.s.ej.length,t.s.ej.length+1] (by simp) (by simp) (e3 _ _) λb9 R12 ca r=>?_;have ag:=bf.app [t.s.ej.length,t.s.ej.length+1];have bh:({s2 with known:=s2.known++[t.s.ej.length,t.s.ej.length+1]}:Ds).ej.length=t.s.ej.length+2:=bg;have r:Dq FC G b9 L ops {b with s:={s2 with known:=s2.known++[t.s.ej.length,t.s.ej.length+1]} } R12:=r;generalize cb:({s2 with known:=s2.known++[t.s.ej.length,t.s.ej.length+1]}:Ds)=s3 at*;have ag:Sm s3 (n+4):=ag;refine eh r.qt (eh r.Kj ?_);refine Oy r ho ag (by omega) λi cd R13 cF bi E I=>⟨bi.next,?_⟩
 have ce:=Ed ops s3;have bj:(fK ops s3).2.ej.length=t.s.ej.length+2:=by rw[ce.1];exact bh
 have E:Dq i G cd L ops {b with s:=(fK ops s3).2} R13:=E;have I:Sm (fK ops s3).2 (n+4+1):=I;show oP (fV _ _ [(0,V.I 23),(5,.I ((fK ops s3).1:Nat))]) _;generalize cf:(fK ops s3).2=s4 at*;generalize cg:(fK ops s3).1=sn at*;have eS:fV [(V.I 0),(V.I 0),(V.I 0),(V.I 0),V.ei,(V.I 0)] [(0,1),(1,1),(2,1),(3,1),(4,1),(5,1)] [(0,(V.I 23)),(5,.I sn)]=some (.agg (mF (vl 23 0 0 0 [] sn) .ei)):=rfl;refine eh eS ⟨E.qt,?_⟩;refine N0 E I (by omega) (vl 23 0 0 0 [] sn) .nil rfl λci R14 bm _ J=>⟨bm.next,?_⟩
 have bo:=I.put (vl 23 0 0 0 [] sn);have aa:(put s4 (vl 23 0 0 0 [] sn)).ej.length=t.s.ej.length+3:=by simp[put,bj]
 have J:Dq i G ci L ops {b with s:=put s4 (vl 23 0 0 0 [] sn)} R14:=J;generalize br:put s4 (vl 23 0 0 0 [] sn)=s5 at*;refine eh J.qt ?_;have eO:fV [(V.I 0),(V.I 0),(V.I 0),(V.I 0),V.ei,(V.I 0)] [(0,1),(1,1),(2,1),(3,1),(4,1),(5,1)] [(0,(V.I 2)),(3,(V.I 1))]=some (.agg (mF (vl 2 0 0 1 [] 0) .ei)):=rfl;refine eh eO ?_;refine N0 J bo (by omega) (vl 2 0 0 1 [] 0) .nil rfl λcj R15 cm _ M=>?_;have bt:=bo.put (vl 2 0 0 1 [] 0);have u:(put s5 (vl 2 0 0 1 [] 0)).ej.length=t.s.ej.length+4:=by simp[put,aa]
 have cn:(({b with s:=s5}:Dt).s.ej.length:Nat)=t.s.ej.length+3:=aa;rw[cn];have M:Dq i G cj L ops {b with s:=put s5 (vl 2 0 0 1 [] 0)} R15:=M;generalize bu:put s5 (vl 2 0 0 1 [] 0)=d at*;refine eh M.qt ?_;have eUn:∀p o:Nat,fV [(V.I 0),(V.I 0),(V.I 0),(V.I 0),V.ei,(V.I 0)] [(0,1),(1,1),(2,1),(3,1),(4,1),(5,1)] [(0,(V.I 4)),(1,.I (p:Nat)),(2,.I (o:Nat))]=some (.agg (mF (vl 4 p o 0 [] 0) .ei)):=λ_ _=>rfl;refine eh (eUn _ _) ?_;refine N0 M bt (by omega) (vl 4 t.s.ej.length (t.s.ej.length+3) 0 [] 0) .nil rfl λcG cH co _ cp=>?_;have bw:=bt.put (vl 4 t.s.ej.length (t.s.ej.length+3) 0 [] 0);have cq:(({b with s:=d}:Dt).s.ej.length:Nat)=t.s.ej.length+4:=u;rw[cq];refine Zc cp bw (by omega) [t.s.ej.length+4] (by simp) (by simp) rfl λcr R17 ct ah=>?_;have ai:=bw.app [t.s.ej.length+4];have bx:({ ({b with s:=put d (vl 4 t.s.ej.length (t.s.ej.length+3) 0 [] 0)}:Dt).s with known:=({b with s:=put d (vl 4 t.s.ej.length (t.s.ej.length+3) 0 [] 0)}:Dt).s.known++[t.s.ej.length+4]}:Ds)=jd d (vl 4 t.s.ej.length (t.s.ej.length+3) 0 [] 0):=by
  unfold jd put;simp only[u]
 have ah:Dq i G cr L ops {b with s:=jd d (vl 4 t.s.ej.length (t.s.ej.length+3) 0 [] 0)} R17:=by rw[<-bx];exact ah
 have ai:Sm (jd d (vl 4 t.s.ej.length (t.s.ej.length+3) 0 [] 0)) (n+10):=by rw[<-bx];exact ai.le (by grind)
 have bz:(jd d (vl 4 t.s.ej.length (t.s.ej.length+3) 0 [] 0)).ej.length=t.s.ej.length+5:=by simp[jd,u]
 refine lZ (n:=t.blocks.length+1) (m:=1) (by omega) (by omega) ?_;refine lZ (n:=t.blocks.length+1) (m:=2) (by omega) (by omega) ?_;refine EX ah (show b.blocks.length<_ by omega) 2 t.s.ej.length [t.blocks.length+2,t.blocks.length+3] 0 rfl (λ_=>rfl) λcu bA R18 cI cv cw=>?_;have bC:(({b with s:=jd d (vl 4 t.s.ej.length (t.s.ej.length+3) 0 [] 0)}:Dt).blocks.length:Nat)=t.blocks.length+1:=bU;rw[bC];have kD:Kp F (gm G L.oT) h bA:=((kC.trans ((ca.gm L.oT).trans bi λ_ h=>h) fC).trans (F':=i) ((((bm.gm L.oT).trans (cm.gm L.oT) λ_ h=>h).trans (co.gm L.oT) λ_ h=>h).trans (ct.gm L.oT) λ_ h=>h) (by grind)).trans (F':=i) (cv.gm L.oT) (by grind);subst bV bW bZ b5 b6 b8 cb cf cg br bu;exact H cu bA R18 _ (by grind) kD cw ai rfl bz
end
open Un
theorem LL(ops:List Int)(t:Dt):(qb ops t).ej[t.s.ej.length+1]? =some (vl 21 0 0 0 [Eg ops t,t.s.ej.length] 0)/\(qb ops t).ej.length=t.s.ej.length+5:=by
 obtain⟨x,hx⟩:=Ma ops t
 grind[qb,jd,put,Lb,VG,wBd]
theorem RN(ops:List Int)(t:Dt):(mq ops t).ej[t.s.ej.length+1]? =some (vl 21 0 0 0 [Eg ops t,t.s.ej.length] 0)/\t.s.ej.length+5<=(mq ops t).ej.length/\(mq ops t).known=(row ops (nr ops t).s).known:=by
 obtain ⟨e,h⟩:=LL ops t;obtain⟨_,l,b⟩:=Hu ops (nr ops t).s;have e0:(nr ops t).s.ej=(qb ops t).ej:=rfl;have f:(row ops (nr ops t).s).ej[t.s.ej.length+1]? =some (vl 21 0 0 0 [Eg ops t,t.s.ej.length] 0):=by
  rw[b,e0,Rk (by omega)];exact e
 have g:t.s.ej.length+5<=(row ops (nr ops t).s).ej.length:=by rw[b,e0,KC];omega
 have a:∀(s:Ds) (l:List Nat),s.ej[t.s.ej.length+1]? =some (vl 21 0 0 0 [Eg ops t,t.s.ej.length] 0)->(setArgs s t.s.ej.length l).ej[t.s.ej.length+1]? =some (vl 21 0 0 0 [Eg ops t,t.s.ej.length] 0):=by
  intro s l hs;show(s.ej.modify t.s.ej.length _)[t.s.ej.length+1]? =_;rw[List.getElem?_modify,hs];show some (if _ then _ else _)=_;rw[if_neg (by omega)]
 have c:=a _ [(fO ops t.s).1,t.s.ej.length+4] f;have i:t.s.ej.length+5<=(pt ops t).ej.length:=by unfold pt;rw[(Fs _ _ _).1];exact g
 have d:(num ops (pt ops t) 3).2.ej=(pt ops t).ej:=rfl;unfold mq;split
 ·exact⟨a _ _ (by rw[d];exact c),by grind[Fs],rfl⟩
 ·exact⟨by rw[d];exact c,by simp_all,rfl⟩
section
variable{F F' G G':Nat->Prop}{h h':Hp}{L:Lc}{ops:List Int}{t t':Dt}{R R':Rw}{Q:fD}
theorem nx2(x y:Nat):jz 3 1 2 (V.I 0) [(0,V.I x),(1,V.I y)]=some (.cells 3 1 true false (ic [x,y]),λl=> .slice l 0 2):=rfl
theorem zaP(ho:ops.length<9223372036854775808){n:Nat}(hn:Sm (mq ops t) n)(am:n<880)(hb:t.blocks.length<900)(q:Dq F G h L ops {nr ops t with s:=mq ops t} R){K:Hp->Prop}
  (H:∀F' h' R',(∀l,F l->F' l)->Kp F (gm G L.oT) h h'->Dq F' G h' L ops (loop ops t) R'->Sm (loop ops t).s (n+6)->K h') :
  oP (fJ 2 (.ptr L.lu 0)) λb=>
  oP (fe b h) λc=>
  oP (fJ 2 (.ptr L.lu 0)) λd=>
  oP (fe d h) λe=>
  oP (gB 6 e (.I ((t.s.ej.length+1:Nat):Int))) λz=>
  oP (fJ 4 z) λf=>
  oP (fe f h) λg=>
  oP (gB 1 g (V.I 0)) λj=>
  oP (fe j h) λo=>
  oP (fe (.ptr L.iH 0) h) λr=>
  oP (fe (.ptr L.iH 0) h) λu=>
  oP (fI u) λA=>
  oP (ez .sub 3 A (V.I 1)) λB=>
  oP (gB 1 r B) λv=>
  oP (fe v h) λw=>
  yp (jz 3 1 2 (V.I 0) [(0,o),(1,w)]) h λx C a=>
  oP (gB 6 c (.I ((t.s.ej.length+1:Nat):Int))) λE=>
  oP (fJ 4 E) λI=>
  ((a.get (h.next)=some x/\O.beq x x=true)/\
  ((fe v a=some w)/\
  ((fe (.ptr L.iH 0) a=some u)/\
  ((fe (.ptr L.iH 0) a=some r)/\
  ((fe j a=some o)/\
  ((fe f a=some g)/\
  ((fe d a=some e)/\
  ((fe b a=some c)/\
  fm (gJ 1 I C a) λvu h2=>
  (a.next<=h2.next/\
  oP (fe (.ptr L.iH 0) h2) λJ=>
  oP (jA 1 J none (some (.I ((qb ops t).known.length:Nat))) h2) λM=>
  fm (gJ 1 (.ptr L.iH 0) M h2) λai h3=>
  hV (jz 3 1 1 (V.I 0) [(0,(.I ((t.blocks.length+1:Nat):Int)))]) h3 λN h4=>
  oP (fV [V.ei,(V.I 0),(V.I 0),V.ei,V.ei,(V.I 0)] [(0,1),(1,1),(2,1),(3,1),(4,1),(5,1)] [(1,(V.I 1)),(3,N)]) λP=>
  ij CS (gv (J5 L) [P]) h4 λaj h5=>
  hV (jz 3 1 1 (V.I 0) [(0,(.I ((t.blocks.length+1:Nat):Int)))]) h5 λQ h6=>
  oP (fJ 4 (.ptr L.jT 0)) λS=>
  fm (gJ 1 S Q h6) λak h7=>
  ij CS (gv (Lm L) []) h7 λal h8=>K h8))))))))):=by
 obtain⟨y1,y2,y3⟩:=RN ops t;have aa:=(Hu ops (nr ops t).s).kl;have T:(qb ops t).known.length<=(mq ops t).known.length:=by rw[y3];exact aa
 have hk:=hn.k;have U:=hn.k0;have ab:0<(qb ops t).known.length:=by
  show 0<(_++[_]).length;simp
 have W:t.s.ej.length+1<({nr ops t with s:=mq ops t}:Dt).s.ej.length:=by show _<(mq ops t).ej.length;omega
 have eg:(mq ops t).ej[t.s.ej.length+1]'(by omega)=vl 21 0 0 0 [Eg ops t,t.s.ej.length] 0:=by
  rw[iy (by omega)]at y1;exact Option.some.inj y1
 have an:({nr ops t with s:=mq ops t}:Dt).blocks.length=t.blocks.length+2:=by simp[nr,MZ,end_]
 refine eh (by rfl) (eh q.D.Xq (eh (by rfl) (eh q.D.Xq ?_)));obtain⟨l1,o1,w1,ac,i1,i2,i3,i4⟩:=q.D.ov.read.ix W .i64;obtain⟨wa,X,sa⟩:=i3;rw[eg]at X sa;have ia:=i4 4 wa (by rw[X];rfl);have i1:gB 6 R.vv (.I ((t.s.ej.length+1:Nat):Int))=some (.ptr l1 o1):=i1;refine eh i1 (eh (by rfl) (eh ia ?_));have Y:l1<h.next:=ac.elim (q.D.fl l1) λh=>(q.D.ov.vC h).2.1;obtain⟨l2,o2,u2,ae,j1,j2,j3⟩:=sa.U8 (i:=0) (by simp[vl]) .i64 rfl;have Z:l2<h.next:=ae.elim (q.D.fl l2) λh=>(q.D.ov.vC h).2.1;obtain⟨rfl⟩:u2 = .I (Eg ops t:Nat):=by
  have:[u2]=[V.I (Eg ops t:Nat)]:=j3
  simp_all
 refine eh j1 (eh j2 ?_);obtain⟨l3,o3,ag,_,m1,m2⟩:=q.HV (i:=(mq ops t).known.length-1) (by grind);have m3:fe (.ptr l3 o3) h=some (.I ((mq ops t).known.getLastD 0:Nat)):=by rw[m2];show some (V.I (((mq ops t).known.getD _ 0:Nat):Int))=_;rw[CJ _ U]
 refine eh q.D.Bg (eh q.D.Bg (eh q.D.ok.len (ze (by grind) U (eh m1 (eh m3 ?_)))));rw[nx2,hX];obtain⟨y,s1,k1⟩:=G8 q [Eg ops t,(mq ops t).known.getLastD 0];have g1:(h.new (.cells 3 1 true false (ic [Eg ops t,(mq ops t).known.getLastD 0]))).get h.next=_:=fq _ _;refine eh i1 (eh (by rfl) ?_);refine⟨by simp_all,iA m3 (fk _ ag),y.D.Bg,y.D.Bg,iA j2 (fk _ Z),iA ia (fk _ Y),y.D.Xq,y.D.Xq,?_⟩;obtain⟨l4,h4,a1,a2,a3,a4,D4⟩:=y.D.zcE (p:=t.s.ej.length+1) W s1;have e4:V.ptr l1 (o1+4)=V.ptr l4 ((t.s.ej.length+1)*6+4):=by
  have:(V.ptr l1 o1)=V.ptr l4 ((t.s.ej.length+1)*6):=by simp_all
  cases this;rfl
 rw [e4];simp only[Rt,wBk,zO]at a2;rw[a2,en];refine⟨a3,?_⟩;have q4:=Xs (t':={nr ops t with s:=Fv ops t}) (y.step a4 D4 (by simp_all) q.gl y.hq rfl) (by
  grind[Fv])
 have ah:Sm (Fv ops t) n:=hn.setArgs _ _;refine QZ q4 (m:=(qb ops t).known.length) T λh5 R5 k5 q5=>?_;have n5:Sm (cut (qb ops t).known.length (Fv ops t)) n:=ah.cut ab T;refine EX q5 (show({nr ops t with s:=mq ops t}:Dt).blocks.length<_ by omega) 1 0 [t.blocks.length+1] 0 rfl (λ_=>rfl) λF6 h6 R6 f6 k6 q6=>?_;refine zk q6 [t.blocks.length+1] rfl λF7 h7 R7 f7 k7 q7=>?_;have q7:=Xs (t':=Ta ops t) q7 rfl;have n7:Sm (Ta ops t).s n:=n5.end_ (t:={nr ops t with s:=cut (qb ops t).known.length (Fv ops t)}) _ _ _ _ _;refine Hc q7 ho n7 (by omega) λF8 h8 R8 f8 k8 q8 n8=>?_;have ff:∀l,F l->F7 l:=by grind[qM]
 refine H F8 h8 R8 (by simp_all) ?_ (by grind[Xs,Vu]) (by grind[Vu]);have kk:=(((k1.gm L.oT).trans (a4.gm L.oT) (qM _ _)).trans (F':=fz F h.next) ((k5.gm L.oT).trans (k6.gm L.oT) λ_ h=>h) (qM _ _)).trans (F':=F6) (k7.gm L.oT) (by grind[qM]);exact kk.trans k8 ff
theorem ZY(ho:ops.length<9223372036854775808){n:Nat}(hn:Sm (qb ops t) n)(al:n<860)(hb:t.blocks.length<900)
  (q:Dq F G h L ops (end_ {MZ ops t with s:=qb ops t} 2 t.s.ej.length [t.blocks.length+2,t.blocks.length+3] 0 []) R) {K:fD}
  (H:∀F' h' R',(∀l,F l->F' l)->Kp F (gm G L.oT) h h'->Dq F' G h' L ops {nr ops t with s:=mq ops t} R'->Sm (mq ops t) (n+6)->K (.I ((qb ops t).known.length:Nat)) h') :
  oP (fe (.ptr L.iH 0) h) λw=>
  oP (fI w) λd=>
  hV (jz 3 1 1 (V.I 0) [(0,(.I ((t.blocks.length+1:Nat):Int)))]) h λx aa=>
  oP (fJ 4 (.ptr L.jT 0)) λy=>
  fm (gJ 1 y x aa) λaj ab=>
  ij CS (gv (Lm L) []) ab λak z=>
  oP (fJ 2 (.ptr L.lu 0)) λA=>
  oP (fe A z) λB=>
  hV (jz 3 1 2 (V.I 0) [(0,(.I ((fO ops t.s).1:Nat))),(1,(.I ((t.s.ej.length+4:Nat):Int)))]) z λC ac=>
  oP (gB 6 B (.I t.s.ej.length)) λE=>
  oP (fJ 4 E) λI=>
  fm (gJ 1 I C ac) λae J=>
  oP (fe (.ptr L.qH 0) J) λM=>
  ij CS (gv M [(V.I 3)]) J λN a=>
  oP (ez .eql 3 N (V.I 0)) λP=>
  bP P (
  oP (fJ 2 (.ptr L.lu 0)) λe=>
  oP (fe e a) λf=>
  oP (fe (.ptr L.iH 0) a) λg=>
  oP (fe (.ptr L.iH 0) a) λj=>
  oP (fI j) λQ=>
  oP (ez .sub 3 Q (V.I 1)) λS=>
  oP (gB 1 g S) λm=>
  oP (fe m a) λo=>
  yp (jz 3 1 2 (V.I 0) [(0,(.I ((fO ops t.s).1:Nat))),(1,o)]) a λu T b=>
  oP (gB 6 f (.I t.s.ej.length)) λU=>
  oP (fJ 4 U) λW=>
  ((b.get (a.next)=some u/\O.beq u u=true)/\
  ((fe m b=some o)/\
  ((fe (.ptr L.iH 0) b=some j)/\
  ((fe (.ptr L.iH 0) b=some g)/\
  ((fe e b=some f)/\
  fm (gJ 1 W T b) λag X=>
  (b.next<=X.next/\K d X)))))))
  (K d a):=by
 obtain⟨_,z2⟩:=LL ops t;have hk:=hn.k;have am:=hn.k0;refine eh q.D.Bg (eh q.D.ok.len ?_);refine zk q [t.blocks.length+1] rfl λF1 h1 R1 f1 k1 q1=>?_;have q1:=Xs (t':=nr ops t) q1 rfl;have n1:Sm (nr ops t).s n:=hn.end_ (t:={MZ ops t with s:=qb ops t}) _ _ _ _ _;refine Hc q1 ho n1 (by omega) λF2 h2 R2 f2 k2 q2 n2=>?_;obtain⟨_,l,hl⟩:=Hu ops (nr ops t).s;have e0:(nr ops t).s.ej=(qb ops t).ej:=rfl;have h4:t.s.ej.length+5<=(row ops (nr ops t).s).ej.length:=by rw[hl,e0,KC];omega
 refine eh (by rfl) (eh q2.D.Xq ?_);rw[nx2,fE];obtain⟨q3,s3,k3⟩:=G8 q2 [(fO ops t.s).1,t.s.ej.length+4];obtain⟨l4,Y,a1,a2,a3,a4,D4⟩:=q3.D.zcE (p:=t.s.ej.length) (by grind) s3;refine eh a1 (eh (by rfl) ?_);simp only[Rt,wBk,zO]at a2;rw[a2,en];have q4:Dq (fz F2 h2.next) G Y L ops {nr ops t with s:=pt ops t} R2:=q3.step a4 D4 (by simp_all) q.gl q3.hq rfl;have n4:Sm (pt ops t) (n+6):=n2.setArgs _ _;refine eh q4.xx ?_;show cP CS ft [.I ((3:Nat):Int),.ptr L.oT 0,.ptr L.lr 0] Y _;refine zd q4 (by decide) (by decide) ho λZ k5 c=>?_;have c:Dq (fz F2 h2.next) G Z L ops {nr ops t with s:=(num ops (pt ops t) 3).2} R2:=c;have n5:Sm (num ops (pt ops t) 3).2 (n+6):=n4.num 3;have ff:∀l,F l->fz F2 h2.next l:=by grind[qM]
 have kk:Kp F (gm G L.oT) h Z:=(((k1.gm L.oT).trans k2 f1).trans ((k3.gm L.oT).trans (a4.gm L.oT) (qM _ _)) (by simp_all)).trans k5 ff;show oP (ez .eql 3 (.I ((num ops (pt ops t) 3).1:Nat)) (V.I 0)) _;by_cases hd:(num ops (pt ops t) 3).1=0
 ·refine gy (gz (by omega) ?_);have e9:mq ops t=setArgs (num ops (pt ops t) 3).2 t.s.ej.length [(fO ops t.s).1,(row ops (nr ops t).s).known.getLastD 0]:=by unfold mq;rw[if_pos hd]
  have an:=n5.k;have r:=n5.k0;have ah:(num ops (pt ops t) 3).2.known=(row ops (nr ops t).s).known:=rfl;refine eh (by rfl) (eh c.D.Xq ?_);obtain⟨l3,o3,ai,_,m1,m2⟩:=c.HV (i:=(num ops (pt ops t) 3).2.known.length-1) (by grind);have m3:fe (.ptr l3 o3) Z=some (.I ((row ops (nr ops t).s).known.getLastD 0:Nat)):=by
   rw[m2,<-ah];show some (V.I (((num ops (pt ops t) 3).2.known.getD _ 0:Nat):Int))=_;rw[CJ _ r]
  refine eh c.D.Bg (eh c.D.Bg (eh c.D.ok.len (ze (by grind) r (eh m1 (eh m3 ?_)))));rw[nx2,hX];obtain⟨v,s6,k6⟩:=G8 c [(fO ops t.s).1,(row ops (nr ops t).s).known.getLastD 0];have g6:(Z.new (.cells 3 1 true false (ic [(fO ops t.s).1,(row ops (nr ops t).s).known.getLastD 0]))).get Z.next=_:=fq _ _;obtain⟨l7,h7,b1,b2,b3,b4,D7⟩:=v.D.zcE (p:=t.s.ej.length) (by
   show _<(pt ops t).ej.length
   grind[pt,Fs]) s6
  refine eh b1 (eh (by rfl) ?_);refine⟨by simp_all,iA m3 (fk _ ai),v.D.Bg,v.D.Bg,v.D.Xq,?_⟩;simp only[Rt,wBk,zO]at b2;rw[b2,en];have q7:=Xs (t':={nr ops t with s:=mq ops t}) (v.step b4 D7 (by simp_all) q.gl v.hq rfl) (by rw[e9]);refine⟨b3,H _ _ _ (by grind[qM]) (kk.trans ((k6.gm L.oT).trans (b4.gm L.oT) (qM _ _)) ff) q7 ?_⟩;rw[e9];exact n5.setArgs _ _
 ·refine gy (gh (by omega) ?_);have e9:mq ops t=(num ops (pt ops t) 3).2:=by unfold mq;rw[if_neg hd]
  exact H _ _ _ ff kk (Xs c (by rw[e9])) (by rw[e9];exact n5)
end
open Un
def uC(u:U)(v b s:V):List V:=[.I u.func,.I u.pc,v,b,s]
def eUn:qp U where
 sz:=5
 rel F h u cs:=∃v b s,cs=uC u v b s/\im eV F h u.ej v/\im eK F h u.blocks b/\im eT F h u.ev s
 len:=λ⟨_,_,_,h,_⟩=>by subst h;rfl
 one:=λ⟨_,_,_,h,a,c,d⟩=>by subst h;simp only[uC,eJ,a.one,c.one,d.one];rfl
 fj:=λe ⟨v,n,p,h,a,c,d⟩=>⟨v,n,p,h,a.fj e,c.fj e,d.fj e⟩
 mono:=λhb ⟨v,n,p,h,a,c,d⟩=>⟨v,n,p,h,a.mono hb,c.mono hb,d.mono hb⟩
theorem za6(ops:List Int)(t:Dt):(fork ops t).blocks.length=t.blocks.length+3:=by simp[fork,end_]
theorem zaB(ops:List Int)(t:Dt):(zl ops t).blocks.length=t.blocks.length+2:=by simp[zl,end_]
theorem Z6(ops:List Int)(t:Dt):(loop ops t).blocks.length=t.blocks.length+3:=by simp[loop,end_]
section
variable{F F' G G':Nat->Prop}{h h':Hp}{L:Lc}{ops:List Int}{t t':Dt}{R R':Rw}{Q:fD}
theorem zek{a:List Int}{vo vs nv:V}{b:Nat}(y:ops.length<9223372036854775808)(q:Dq F G h L ops t R)(hn:Sm t.s 30)(hb:t.blocks.length=0)(A:h.get L.lr=some (.cells Sl 1 true false [vo,vs,nv]))(Y:im (eI .i64) F h a vs)
  (ai:G b) (Z:b≠L.oT) (aa:∃c,h.get b=some (.cells 30 1 true false c)/\c.length=5)
  (H:∀F' h' R' d,(∀l,F l->F' l)->Kp F (gm G L.oT) h h'->Dq F' G h' L ops d R'->d=end_ {mz ops (a.take 6) t with s:=(fK ops (mz ops (a.take 6) t).s).2} 3 0 [] (fK ops (mz ops (a.take 6) t).s).1 []->
   fm (gJ 5 (.ptr b 0) (.agg [.I 1,.I 2,R'.vv,R'.vb,R'.vs]) h') λ_ f=>oP (fW 5 (.ptr b 0) f) λr=>Q r f) :
  pU CS Q (.ptr L.lr 0) (.ptr b 0) (.ptr L.lu 0) (.ptr L.iH 0) (.ptr L.jT 0) (.ptr L.AD 0) (.ptr L.qH 0) (.ptr L.VS 0) (Lm L) (J5 L) (.I 0) h:=by
 refine Et (λk M N O P S T g j m n o h'=>∃(F':Nat->Prop) (R':Rw) (i:Nat) (t':Dt),M = .ptr L.lr 0/\N = .ptr b 0/\O = .ptr L.lu 0/\P = .ptr L.iH 0/\S = .ptr L.jT 0/\T = .ptr L.AD 0/\
  g = .ptr L.qH 0/\j = .ptr L.VS 0/\m=Lm L/\n=J5 L/\o = .I i/\i+k=6/\(∀l,F l->F' l)/\Kp F (gm G L.oT) h h'/\Dq F' G h' L ops t' R'/\Sm t'.s (30+30*i)/\t'.blocks.length<=3*i/\
  mz ops ((a.take 6).drop i) t' = mz ops (a.take 6) t) ?_ (k:=6)
  ⟨F,R,0,t,rfl,rfl,rfl,rfl,rfl,rfl,rfl,rfl,rfl,rfl,rfl,rfl,λ_ h=>h,Kp.refl _ _ _,q,hn,by omega,by rw[ZT]⟩
 rintro k M N O P S T g j m n o h' ⟨F1,R1,i,d,rfl,rfl,rfl,rfl,rfl,rfl,rfl,rfl,rfl,rfl,rfl,aj,hF,U,u,W,b1,B⟩;unfold vG;have C:h'.get L.lr=some (.cells Sl 1 true false [vo,vs,nv]):=by rw[U.fj _ (.inl q.fr)];exact A
 have E:fe (.ptr L.lr 1) h' = some vs:=lJ C rfl;have lv:=u.D.ov.len;have I:im (eI .i64) F h' a vs:=Y.fj λl hl=>U.fj l (.inl hl);refine eh (by rfl) (eh E (eh I.len (eh (by rfl) ?_)));have e1:kE (.bool (decide (((i:Nat):Int)<(a.length:Nat)))) (oB (some (V.I i)) λab=>ez .lss 3 ab (V.I 6))=some (.bool (decide (((i:Nat):Int)<(a.length:Nat))&&decide (((i:Nat):Int)<6))):=by
  simp only[fo,kX,j8]
 refine eh e1 ?_
 have e2:kE (.bool (decide (((i:Nat):Int)<(a.length:Nat))&&decide (((i:Nat):Int)<6))) (oB (fJ 2 (.ptr L.lu 0)) λac=>oB (fe ac h') λae=>oB (fI ae) λag=>ez .lss 3 ag (V.I 160)) =
   some (.bool ((decide (((i:Nat):Int)<(a.length:Nat))&&decide (((i:Nat):Int)<6))&&decide (((d.s.ej.length:Nat):Int)<160))):=by
  simp only[fM,fo,zO,u.D.Xq,lv,kX,j8]
 refine eh e2 (jj ?_);by_cases hgo:i<a.length/\i<6/\d.s.ej.length<160;rotate_left
 ·
  refine gh (by grind) ?_;have J:d=mz ops (a.take 6) t:=by
   rw[<-B];by_cases hi:i<(a.take 6).length
   ·rw[ZH hi];unfold mz
    grind
   ·rw[List.drop_of_length_le (by omega)];rfl
  subst J;refine eh u.Kj ?_;refine Oy u y W (by omega) λp f R2 K v w z=>?_;have eB:∀sn:Nat,fV [V.ei,(V.I 0),(V.I 0),V.ei,V.ei,(V.I 0)] [(0,1),(1,1),(2,1),(3,1),(4,1),(5,1)] [(1,(V.I 3)),(5,.I (sn:Nat))]=some (.agg (km ⟨[],3,0,[],[],sn⟩ .ei .ei .ei)):=λ_=>rfl;refine eh (eB _) ?_;refine TK w (show(mz ops (a.take 6) t).blocks.length<_ by omega) ⟨[],3,0,[],[],_⟩ rfl rfl rfl .nil λF3 h3 R3 f3 k3 X=>?_;have lA:fW 5 (.ptr L.lu 0) h3=some (.agg [.I 1,.I 2,R3.vv,R3.vb,R3.vs]):=DJ X.D.gu rfl;refine eh lA ?_;have kk:=(U.trans v hF).trans (k3.gm L.oT) (by simp_all);exact H F3 h3 R3 _ (by grind) kk X rfl
 obtain⟨g1,g2,g3⟩:=hgo;refine gz (by grind) ?_;obtain⟨l4,o4,u4,_,i1,i2,i3⟩:=I.U8 g1 .i64 rfl;obtain⟨rfl⟩:u4 = .I a[i]:=by simpa using i3.1
 refine eh (by rfl) (eh E (eh i1 (eh i2 ?_)));show cP CS iS [.I a[i],.I ((3:Nat):Int)] h' _;refine Mt (by decide) (by decide) ?_;have ah:i<(a.take 6).length:=by rw[Mq];omega
 have x:mz ops ((a.take 6).drop (i+1)) (vw ops (mS a[i] 3) d)=mz ops (a.take 6) t:=by
  rw[<-B,ZH ah]
  conv=>rhs;unfold mz
  rw[if_pos g3,List.getElem_take]
 have fin:∀(p:Nat->Prop) (f:Hp) (R2:Rw),(∀l,F1 l->p l)->Kp F1 (gm G L.oT) h' f->Dq p G f L ops (vw ops (mS a[i] 3) d) R2->Sm (vw ops (mS a[i] 3) d).s (30+30*i+30)->(vw ops (mS a[i] 3) d).blocks.length<=3*(i+1)->
   ka CS Q (λM N O P S T g j m n o hh=>∃k',k' < k/\∃(F':Nat->Prop) (R':Rw) (i:Nat) (t':Dt),M = .ptr L.lr 0/\N = .ptr b 0/\O = .ptr L.lu 0/\P = .ptr L.iH 0/\S = .ptr L.jT 0/\T = .ptr L.AD 0/\
    g = .ptr L.qH 0/\j = .ptr L.VS 0/\m=Lm L/\n=J5 L/\o = .I i/\i+k' = 6/\(∀l,F l->F' l)/\Kp F (gm G L.oT) h hh/\Dq F' G hh L ops t' R'/\Sm t'.s (30+30*i)/\t'.blocks.length<=3*i/\
    mz ops ((a.take 6).drop i) t' = mz ops (a.take 6) t) (.ptr L.lr 0) (.ptr b 0) (.ptr L.lu 0) (.ptr L.iH 0) (.ptr L.jT 0) (.ptr L.AD 0) (.ptr L.qH 0) (.ptr L.VS 0) (Lm L) (J5 L) (.I i) f:=by
  intro p f R2 K v w z b2;refine CP ?_;unfold uJ;refine fL ?_;exact⟨k-1,by omega,p,R2,i+1,_,rfl,rfl,rfl,rfl,rfl,rfl,rfl,rfl,rfl,rfl,rfl,by omega,by simp_all,U.trans v hF,w,z,b2,x⟩
 by_cases c0:mS a[i] 3=0
 ·refine gy (gz (by omega) ?_);have e:vw ops (mS a[i] 3) d=fork ops d:=by unfold vw;rw[if_pos c0]
  rw[e]at fin;refine zar u y W (by omega) (by omega) λp f R2 K v w z=>?_
  grind[za6]
 refine gy (gh (by omega) ?_);by_cases c1:mS a[i] 3=1
 ·refine gy (gz (by omega) ?_);have e:vw ops (mS a[i] 3) d=loop ops d:=by unfold vw;rw[if_neg c0,if_pos c1]
  rw[e]at fin;refine zaC u y W (by omega) (by omega) λp f R2 s6 K v w z e6 _=>?_;subst e6;refine ZY y z (by omega) (by omega) w λF3 h3 R3 f3 k3 X n3=>?_;refine CW ?_;unfold uq;refine zaP y n3 (by omega) (by omega) X λF4 h4 R4 f4 k4 q4 n4=>?_;exact fin F4 h4 R4 (by grind) ((v.trans k3 K).trans k4 (by simp_all)) q4 (n4.le (by omega)) (by grind[Z6])
 ·refine gy (gh (by omega) ?_);have e:vw ops (mS a[i] 3) d=zl ops d:=by unfold vw;rw[if_neg c0,if_neg c1]
  rw[e]at fin;refine zaN u y W (by omega) (by omega) λp f R2 K v w z=>?_
  grind[zaB]
end
