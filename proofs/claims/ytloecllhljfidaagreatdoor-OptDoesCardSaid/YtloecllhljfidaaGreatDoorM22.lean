/- Parts. -/
import Derived.Test.YtloecllhljfidaaGreatDoorM21
set_option maxHeartbeats 4000000
namespace Go.Proofs.YtloecllhljfidaaGreatDoor.Hx
open Un
section
variable{F F' G G':Nat->Prop}{h h':Hp}{L:Lc}{ops:List Int}{t t':Dt}{R R':Rw}{Q:fq}
theorem Sm.app{s:Ds}{n:Nat}(a:Sm s n)(ys:List Nat):Sm {s with known:=s.known++ys} (n+ys.length):=
 ⟨by have:=a.v;grind,by have:=a.c;grind,by have:=a.k;simp_all,by have:=a.st;grind,by have:=a.k0;grind⟩
theorem OT:∀ys,gj (ig ys)=true
 |[]=>rfl
 |y::ys=>by show gj (V.I y::ig ys)=true;rw[eQ,OT ys];rfl
theorem zae(q:Dq F G h L ops t R){n:Nat}(f:Sm t.s n)(g:n<1000)(ys:List Nat)(i:0<ys.length)(j:ys.length<=5){c:Option (O×(Nat->V))}(hx:c=some (O.cells 3 1 true false (ig ys),λl=> .slice l 0 ys.length)){K:Hp->Prop}
  (H:∀h' R',Kp F G h h'->Dq F G h' L ops {t with s:={t.s with known:=t.s.known++ys} } R'->K h') :
  oP (fe (.ptr L.iA 0) h) λa=>gS c h λv m=>fj (fi 3 1 8 a v m) λw o=>fj (gq 1 (.ptr L.iA 0) w o) λ_ d=>K d:=by
 subst hx;refine eh q.D.AW ?_;rw[fu];have p:=q.D.grow (lP.new h (.cells 3 1 true false (ig ys)));have A:(ig ys).length=ys.length:=by simp[ig]
 let⟨new,r,u⟩:=EI (n:=ys.length) (off:=0) (fm h (.cells 3 1 true false (ig ys))) (by omega)
 have x:new=ig ys:=by rw[u,wBP,wAz (by omega)]
 subst x;have hk:=f.k;have y:=OT ys
 let⟨v',d,B,a1,a2,a3,a4,z,D4⟩:=p.zdy r (xC _ _ ys) (by omega) y i (by omega)
 have b:=a1;rw[b,en,a3];have e:=(q.D.zN (.cells 3 1 true false (ig ys))).trans z λ_ h=>h;exact H _ _ e (q.step e D4 (by grind) q.gl q.hq rfl)
theorem Pb(q:Dq F G h L ops t R){n:Nat}(c:Sm t.s n)(b:n<999)(x:Vl){w:V}{a:V}(d:il eN F h x.args a)(e:w = .agg (mh x a)){K:fq}
  (H:∀h' R',Kp F G h h'->R'.vk=R.vk->Dq F G h' L ops {t with s:=put t.s x} R'->K (.I t.s.ej.length) h'):gY CS (gi (zdR L) [w]) h K:=by
 subst e;show cP CS fK [.agg (mh x a),.ptr L.lu 0,.ptr L.jx 0] h K;exact KY q c b ⟨a,rfl,d⟩ H
def QA(ops:List Int)(t:Dt):Dt:=end_ {t with s:=(fQ ops t.s).2} 1 0 [t.blocks.length+1] 0 [t.blocks.length,t.blocks.length+2]
def Vz(ops:List Int)(t:Dt):Ds:=put (QA ops t).s (vl 21 0 0 0 [(fQ ops t.s).1,0] 0)
def Ek(ops:List Int)(t:Dt):Nat:=(fQ ops (Vz ops t)).1
def U3(ops:List Int)(t:Dt):Ds:=put (fQ ops (Vz ops t)).2 (vl 21 0 0 0 [Ek ops t,t.s.ej.length] 0)
def Rr(ops:List Int)(t:Dt):Ds:={U3 ops t with known:=(U3 ops t).known++[t.s.ej.length,t.s.ej.length+1]}
def Sg(ops:List Int)(t:Dt):Ds:=put (fN ops (Rr ops t)).2 (vl 23 0 0 0 [] (fN ops (Rr ops t)).1)
def vT(ops:List Int)(t:Dt):Ds:=iO (put (Sg ops t) (vl 2 0 0 1 [] 0)) (vl 4 t.s.ej.length (t.s.ej.length+3) 0 [] 0)
def mZ(ops:List Int)(t:Dt):Dt:=end_ {QA ops t with s:=vT ops t} 2 t.s.ej.length [t.blocks.length+2,t.blocks.length+3] 0 [t.blocks.length+1]
def pE(ops:List Int)(t:Dt):Ds:=setArgs (row ops (mZ ops t).s) t.s.ej.length [(fQ ops t.s).1,t.s.ej.length+4]
def lQ(ops:List Int)(t:Dt):Ds:=if(num ops (pE ops t) 3).1=0 then setArgs (num ops (pE ops t) 3).2 t.s.ej.length [(fQ ops t.s).1,(row ops (mZ ops t).s).known.getLastD 0] else(num ops (pE ops t) 3).2
def Kx(ops:List Int)(t:Dt):Ds:=setArgs (lQ ops t) (t.s.ej.length+1) [Ek ops t,(row ops (mZ ops t).s).known.getLastD 0]
def Sr(ops:List Int)(t:Dt):Dt:=end_ {mZ ops t with s:=cut (vT ops t).known.length (Kx ops t)} 1 0 [t.blocks.length+1] 0 [t.blocks.length+1]
theorem MB(ops:List Int)(t:Dt):∃x,(Sg ops t).ej=t.s.ej++[vl 21 0 0 0 [(fQ ops t.s).1,0] 0,vl 21 0 0 0 [Ek ops t,t.s.ej.length] 0,x]:=by
 refine⟨vl 23 0 0 0 [] (fN ops (Rr ops t)).1,?_⟩;unfold Sg;rw[put,(Eo ops (Rr ops t)).1];show(U3 ops t).ej++[_]=_;show((Vz ops t).ej++[_])++[_]=_;show(((QA ops t).s.ej++[_])++[_])++[_]=_;simp[Pr,List.singleton_append];rfl
theorem W7(ops:List Int)(t:Dt):loop ops t = {Sr ops t with s:=row ops (Sr ops t).s}:=by
 let⟨x,hx⟩:=MB ops t
 have e:(Sg ops t).ej.length=t.s.ej.length+3:=by rw[hx];simp
 unfold Sr Kx lQ pE mZ vT;rw[show t.s.ej.length+4=(t.s.ej.length+3)+1 from rfl,<-e];rfl
theorem zbK(q:Dq F G h L ops t R)(ho:ops.length<9223372036854775808){n:Nat}(hn:Sm t.s n)(cu:n<800)(hb:t.blocks.length<900){K:QP6}
  (H:∀F' h' R' e,(∀l,F l->F' l)->Kp F (gm G L.oY) h h'->Dq F' G h' L ops (end_ {QA ops t with s:=e} 2 t.s.ej.length [t.blocks.length+2,t.blocks.length+3] 0 []) R'->Sm e (n+10)->
   e=vT ops t->
   e.ej.length=t.s.ej.length+5->
   K (.I ((fQ ops t.s).1:Nat)) (.I (t.blocks.length+1:Nat)) (.I t.s.ej.length) (.I ((t.s.ej.length+1:Nat):Int)) (.I ((t.s.ej.length+4:Nat):Int)) (.I ((t.blocks.length+1:Nat):Int)) h') :
  oP (fe (.ptr L.iA 0) h) λB=>
  oP (fe (.ptr L.qQ 0) h) λac=>
  oP (fe (.ptr L.iA 0) h) λad=>
  oP (fE ad) λae=>
  gY CS (gi ac [ae]) h λag f=>
  (h.next<=f.next/\
  oP (gB 1 B ag) λah=>
  oP (fe ah f) λC=>
  ((fe (.ptr L.iA 0) f=some B)/\
  oP (fI 3 (.ptr L.lu 0)) λai=>
  oP (fe ai f) λaj=>
  oP (fE aj) λak=>
  oP (ez .add 3 ak (V.I 1)) λal=>
  gS (iS 3 1 1 (V.I 0) [(0,al)]) f λam bo=>
  oP (fT [V.ei,(V.I 0),(V.I 0),V.ei,V.ei,(V.I 0)] [(0,1),(1,1),(2,1),(3,1),(4,1),(5,1)] [(1,(V.I 1)),(3,am)]) λan=>
  gY CS (gi (Lq L) [an]) bo λE br=>
  oP (ez .add 3 E (V.I 1)) λb=>
  oP (ez .add 3 b (V.I 1)) λao=>
  gS (iS 3 1 2 (V.I 0) [(0,E),(1,ao)]) br λap bt=>
  oP (fI 4 (.ptr L.jx 0)) λaq=>
  fj (gq 1 aq ap bt) λcp ar=>
  oP (fe (.ptr L.Aa 0) ar) λau=>
  gS (iS 3 1 2 (V.I 0) [(0,C),(1,(V.I 0))]) ar λaw bu=>
  oP (fT [(V.I 0),(V.I 0),(V.I 0),(V.I 0),V.ei,(V.I 0)] [(0,1),(1,1),(2,1),(3,1),(4,1),(5,1)] [(0,(V.I 21)),(4,aw)]) λax=>
  gY CS (gi au [ax]) bu λa c=>
  oP (fe (.ptr L.Aa 0) c) λI=>
  oP (fe (.ptr L.iA 0) c) λJ=>
  oP (fe (.ptr L.qQ 0) c) λay=>
  oP (fe (.ptr L.iA 0) c) λaA=>
  oP (fE aA) λaB=>
  gY CS (gi ay [aB]) c λaC k=>
  (c.next<=k.next/\
  oP (gB 1 J aC) λM=>
  oP (fe M k) λN=>
  xB (iS 3 1 2 (V.I 0) [(0,N),(1,a)]) k λo9 aD d=>
  oP (fT [(V.I 0),(V.I 0),(V.I 0),(V.I 0),V.ei,(V.I 0)] [(0,1),(1,1),(2,1),(3,1),(4,1),(5,1)] [(0,(V.I 21)),(4,aD)]) λaE=>
  ((d.get (k.next)=some o9/\O.beq o9 o9=true)/\
  ((fe M d=some N)/\
  ((fe (.ptr L.iA 0) d=some J)/\
  ((fe (.ptr L.Aa 0) d=some I)/\
  gY CS (gi I [aE]) d λP U=>
  (d.next<=U.next/\
  oP (fe (.ptr L.iA 0) U) λaF=>
  gS (iS 3 1 2 (V.I 0) [(0,a),(1,P)]) U λaG bw=>
  fj (fi 3 1 8 aF aG bw) λaH bx=>
  fj (gq 1 (.ptr L.iA 0) aH bx) λcq r=>
  oP (fe (.ptr L.Aa 0) r) λQ=>
  oP (fe (.ptr L.WQ 0) r) λaI=>
  gY CS (gi aI []) r λaJ u=>
  (r.next<=u.next/\
  oP (fT [(V.I 0),(V.I 0),(V.I 0),(V.I 0),V.ei,(V.I 0)] [(0,1),(1,1),(2,1),(3,1),(4,1),(5,1)] [(0,(V.I 23)),(5,aJ)]) λaK=>
  ((fe (.ptr L.Aa 0) u=some Q)/\
  gY CS (gi Q [aK]) u λcr W=>
  (u.next<=W.next/\
  oP (fe (.ptr L.Aa 0) W) λaL=>
  oP (fT [(V.I 0),(V.I 0),(V.I 0),(V.I 0),V.ei,(V.I 0)] [(0,1),(1,1),(2,1),(3,1),(4,1),(5,1)] [(0,(V.I 2)),(3,(V.I 1))]) λaM=>
  gY CS (gi aL [aM]) W λaN aO=>
  oP (fe (.ptr L.Aa 0) aO) λaP=>
  oP (fT [(V.I 0),(V.I 0),(V.I 0),(V.I 0),V.ei,(V.I 0)] [(0,1),(1,1),(2,1),(3,1),(4,1),(5,1)] [(0,(V.I 4)),(1,a),(2,aN)]) λaQ=>
  gY CS (gi aP [aQ]) aO λS aR=>
  oP (fe (.ptr L.iA 0) aR) λaS=>
  gS (iS 3 1 1 (V.I 0) [(0,S)]) aR λaT bz=>
  fj (fi 3 1 8 aS aT bz) λaU bA=>
  fj (gq 1 (.ptr L.iA 0) aU bA) λct bC=>
  oP (ez .add 3 b (V.I 1)) λaV=>
  oP (ez .add 3 b (V.I 2)) λaW=>
  gS (iS 3 1 2 (V.I 0) [(0,aV),(1,aW)]) bC λaX bD=>
  oP (fT [V.ei,(V.I 0),(V.I 0),V.ei,V.ei,(V.I 0)] [(0,1),(1,1),(2,1),(3,1),(4,1),(5,1)] [(1,(V.I 2)),(2,a),(3,aX)]) λaY=>
  gY CS (gi (Lq L) [aY]) bD λaZ bE=>K C b a P S aZ bE)))))))))))
   :=by
 refine Vm q ho hn (by omega) λh2 k2 q2=>?_;refine eh (by rfl) (eh q2.D.ldB (eh q2.D.ob.len (ka (m:=1) (show t.blocks.length<_ by omega) (by omega) ?_)));have n2:Sm (fQ ops t.s).2 n:=hn.one;refine Fh q2 (show t.blocks.length<_ by omega) 1 0 [t.blocks.length+1] 0 rfl (λ_=>rfl) λF4 h4 R4 f4 k4 q4=>?_;refine ka (n:=t.blocks.length) (m:=1) (by omega) (by omega) ?_;refine fF ?_;refine zd q4 [t.blocks.length,t.blocks.length+2] rfl λF6 h6 R6 f6 k6 q6=>?_;have q6:=YM (t':=end_ {t with s:=(fQ ops t.s).2} 1 0 [t.blocks.length+1] 0 [t.blocks.length,t.blocks.length+2]) q6 rfl;have n6:Sm (end_ {t with s:=(fQ ops t.s).2} 1 0 [t.blocks.length+1] 0 [t.blocks.length,t.blocks.length+2]).s n:=n2.end_ _ _ _ _ _;have bG:(end_ {t with s:=(fQ ops t.s).2} 1 0 [t.blocks.length+1] 0 [t.blocks.length,t.blocks.length+2]).blocks.length=t.blocks.length+1:=by simp[end_]
 have a5:(end_ {t with s:=(fQ ops t.s).2} 1 0 [t.blocks.length+1] 0 [t.blocks.length,t.blocks.length+2]).s.ej.length=t.s.ej.length:=rfl;have kA:=kgm k2 (k4.trans k6 f4) λ_ h=>h;have fA:∀l,F l->F6 l:=by simp_all
 generalize bH:end_ {t with s:=(fQ ops t.s).2} 1 0 [t.blocks.length+1] 0 [t.blocks.length,t.blocks.length+2]=t1 at*;generalize bI:(fQ ops t.s).1=fr at*;refine eh q6.qk ?_;have e3:∀x y,iS 3 1 2 (V.I 0) [(0,V.I (x:Nat)),(1,V.I (y:Nat))]=some (.cells 3 1 true false (ig [x,y]),λl=> .slice l 0 2):=λ_ _=>rfl;have bJ:iS 3 1 2 (V.I 0) [(0,V.I fr),(1,V.I 0)]=some (.cells 3 1 true false (ig [fr,0]),λl=> .slice l 0 2):=e3 fr 0;rw[bJ,fu]
 let⟨q7,s7,k7⟩:=GR q6 [fr,0]
 refine eh (by rfl) ?_;refine Pb q7 n6 (by omega) (vl 21 0 0 0 [fr,0] 0) s7 rfl λh8 R8 k8 _ q8=>?_;have n8:=n6.put (vl 21 0 0 0 [fr,0] 0);have bK:(put t1.s (vl 21 0 0 0 [fr,0] 0)).ej.length=t.s.ej.length+1:=by simp[put,a5]
 rw[a5];generalize bL:put t1.s (vl 21 0 0 0 [fr,0] 0)=s1 at*;have kB:=kA.trans ((k7.gm L.oY).trans (k8.gm L.oY) (qR _ _)) fA;have fB:∀l,F l->fz F6 h6.next l:=by grind[qR]
 refine eh q8.qk (eh q8.D.AW (eh q8.xY (eh q8.D.AW (eh q8.D.ok.len ?_))));show cP CS fD [.I s1.known.length,.ptr L.oY 0,.ptr L.lr 0] h8 _;refine Nw q8 ho n8 (by omega) λh9 l9 o9 k9 q9 bQ i1 i2=>⟨k9.next,eh i1 (eh i2 ?_)⟩
 have i2:=i2;have q9:=q9;have n9:=n8.one (ops:=ops);have a6:(fQ ops s1).2.ej.length=t.s.ej.length+1:=bK;show xB (iS 3 1 2 (V.I 0) [(0,V.I ((fQ ops s1).1:Nat)),(1,V.I t.s.ej.length)]) h9 _;generalize bR:(fQ ops s1).2=sg at*;generalize bS:(fQ ops s1).1=g at*;rw[e3,gO]
 let⟨X,bU,bV⟩:=GR q9 [g,t.s.ej.length]
 have cv:(h9.new (.cells 3 1 true false (ig [g,t.s.ej.length]))).get h9.next=_:=fm _ _;refine eh (by rfl) ⟨by grind[O.kE],ij i2 (fo _ bQ),X.D.AW,X.qk,?_⟩;refine Pb X n9 (by omega) (vl 21 0 0 0 [g,t.s.ej.length] 0) bU rfl λcw cx UB _ Y=>⟨UB.next,?_⟩
 have a7:=n9.put (vl 21 0 0 0 [g,t.s.ej.length] 0);have a8:(put sg (vl 21 0 0 0 [g,t.s.ej.length] 0)).ej.length=t.s.ej.length+2:=by simp[put,a6]
 have bW:=a6;rw[bW];generalize bX:put sg (vl 21 0 0 0 [g,t.s.ej.length] 0)=s2 at*;have Y:=Y;have kC:=kB.trans (k9.trans ((bV.gm L.oY).trans (UB.gm L.oY) (qR _ _)) λ_ h=>h) fB;have fC:∀l,F l->fz (fz F6 h6.next) h9.next l:=by grind[qR]
 refine zae Y a7 (by omega) [t.s.ej.length,t.s.ej.length+1] (by simp) (by simp) (e3 _ _) λcy cz bY i=>?_;have Z:=a7.app [t.s.ej.length,t.s.ej.length+1];have a9:({s2 with known:=s2.known++[t.s.ej.length,t.s.ej.length+1]}:Ds).ej.length=t.s.ej.length+2:=a8;have i:=i;generalize bZ:({s2 with known:=s2.known++[t.s.ej.length,t.s.ej.length+1]}:Ds)=s3 at*;have Z:Sm s3 (n+4):=Z;refine eh i.qk (eh i.KN ?_);refine OI i ho Z (by omega) λb4 cA cB cC ba v w=>⟨ba.next,?_⟩
 have b5:=Eo ops s3;have bb:(fN ops s3).2.ej.length=t.s.ej.length+2:=by rw[b5.1];exact a9
 have v:=v;have w:=w;show oP (fT _ _ [(0,V.I 23),(5,.I ((fN ops s3).1:Nat))]) _;generalize b6:(fN ops s3).2=s4 at*;generalize b7:(fN ops s3).1=sn at*;have eS:fT [(V.I 0),(V.I 0),(V.I 0),(V.I 0),V.ei,(V.I 0)] [(0,1),(1,1),(2,1),(3,1),(4,1),(5,1)] [(0,(V.I 23)),(5,.I sn)]=some (.agg (mh (vl 23 0 0 0 [] sn) .ei)):=rfl;refine eh eS ⟨v.qk,?_⟩;refine Pb v w (by omega) (vl 23 0 0 0 [] sn) .nil rfl λcD cE bc _ z=>⟨bc.next,?_⟩
 have bd:=w.put (vl 23 0 0 0 [] sn);have T:(put s4 (vl 23 0 0 0 [] sn)).ej.length=t.s.ej.length+3:=by simp[put,bb]
 have z:=z;generalize be:put s4 (vl 23 0 0 0 [] sn)=s5 at*;refine eh z.qk ?_;have eO:fT [(V.I 0),(V.I 0),(V.I 0),(V.I 0),V.ei,(V.I 0)] [(0,1),(1,1),(2,1),(3,1),(4,1),(5,1)] [(0,(V.I 2)),(3,(V.I 1))]=some (.agg (mh (vl 2 0 0 1 [] 0) .ei)):=rfl;refine eh eO ?_;refine Pb z bd (by omega) (vl 2 0 0 1 [] 0) .nil rfl λcF cG b8 _ A=>?_;have bf:=bd.put (vl 2 0 0 1 [] 0);have j:(put s5 (vl 2 0 0 1 [] 0)).ej.length=t.s.ej.length+4:=by simp[put,T]
 have b9:=T;rw[b9];have A:=A;generalize bg:put s5 (vl 2 0 0 1 [] 0)=e at*;refine eh A.qk ?_;have eUn:∀p o,fT [(V.I 0),(V.I 0),(V.I 0),(V.I 0),V.ei,(V.I 0)] [(0,1),(1,1),(2,1),(3,1),(4,1),(5,1)] [(0,(V.I 4)),(1,.I (p:Nat)),(2,.I (o:Nat))]=some (.agg (mh (vl 4 p o 0 [] 0) .ei)):=λ_ _=>rfl;refine eh (eUn _ _) ?_;refine Pb A bf (by omega) (vl 4 t.s.ej.length (t.s.ej.length+3) 0 [] 0) .nil rfl λcH cI ca _ cb=>?_;have bh:=bf.put (vl 4 t.s.ej.length (t.s.ej.length+3) 0 [] 0);have cd:=j;rw[cd];refine zae cb bh (by omega) [t.s.ej.length+4] (by simp) (by simp) rfl λce cf cg aa=>?_;have ab:=bh.app [t.s.ej.length+4];have bi:({ ({t1 with s:=put e (vl 4 t.s.ej.length (t.s.ej.length+3) 0 [] 0)}:Dt).s with known:=({t1 with s:=put e (vl 4 t.s.ej.length (t.s.ej.length+3) 0 [] 0)}:Dt).s.known++[t.s.ej.length+4]}:Ds)=iO e (vl 4 t.s.ej.length (t.s.ej.length+3) 0 [] 0):=by
  unfold iO put;simp[j]
 have aa:Dq b4 G ce L ops {t1 with s:=iO e (vl 4 t.s.ej.length (t.s.ej.length+3) 0 [] 0)} cf:=by rw[<-bi];exact aa
 have ab:Sm (iO e (vl 4 t.s.ej.length (t.s.ej.length+3) 0 [] 0)) (n+10):=by rw[<-bi];exact ab.le (by grind)
 have bj:(iO e (vl 4 t.s.ej.length (t.s.ej.length+3) 0 [] 0)).ej.length=t.s.ej.length+5:=by simp[iO,j]
 refine fF ?_;refine ka (m:=2) (by omega) (by omega) ?_;refine Fh aa (show t1.blocks.length<_ by omega) 2 t.s.ej.length [t.blocks.length+2,t.blocks.length+3] 0 rfl (λ_=>rfl) λci cj cm cJ cn co=>?_;have bm:=bG;rw[bm];have kD:=((kC.trans ((bY.gm L.oY).trans ba λ_ h=>h) fC).trans ((((bc.gm L.oY).trans (b8.gm L.oY) λ_ h=>h).trans (ca.gm L.oY) λ_ h=>h).trans (cg.gm L.oY) λ_ h=>h) (by grind)).trans (cn.gm L.oY) (by grind);subst bH bI bL bR bS bX bZ b6 b7 be bg;exact H ci cj cm _ (by grind) kD co ab rfl bj
end
open Un
theorem ME(ops:List Int)(t:Dt):(vT ops t).ej[t.s.ej.length+1]? =some (vl 21 0 0 0 [Ek ops t,t.s.ej.length] 0)/\(vT ops t).ej.length=t.s.ej.length+5:=by
 let⟨x,hx⟩:=MB ops t
 grind[vT,iO,put]
theorem Td(ops:List Int)(t:Dt):(lQ ops t).ej[t.s.ej.length+1]? =some (vl 21 0 0 0 [Ek ops t,t.s.ej.length] 0)/\t.s.ej.length+5<=(lQ ops t).ej.length/\(lQ ops t).known=(row ops (mZ ops t).s).known:=by
 let⟨e,h⟩:=ME ops t
 let⟨_,l,hl⟩:=HT ops (mZ ops t).s
 have b:(mZ ops t).s.ej=(vT ops t).ej:=rfl;have f:(row ops (mZ ops t).s).ej[t.s.ej.length+1]? =some (vl 21 0 0 0 [Ek ops t,t.s.ej.length] 0):=by
  rw[hl,b,VU (by omega)];exact e
 have g:t.s.ej.length+5<=(row ops (mZ ops t).s).ej.length:=by rw[hl,b,Lw];omega
 have a:∀s l,s.ej[t.s.ej.length+1]? =some (vl 21 0 0 0 [Ek ops t,t.s.ej.length] 0)->(setArgs s t.s.ej.length l).ej[t.s.ej.length+1]? =some (vl 21 0 0 0 [Ek ops t,t.s.ej.length] 0):=by
  intro s l hs;show(s.ej.modify t.s.ej.length _)[t.s.ej.length+1]? =_;rw[List.getElem?_modify,hs];show some (if _ then _ else _)=_;rw[if_neg (by omega)]
 have c:=a _ [(fQ ops t.s).1,t.s.ej.length+4] f;have i:t.s.ej.length+5<=(pE ops t).ej.length:=by unfold pE;rw[(E6 _ _ _).1];exact g
 have d:(num ops (pE ops t) 3).2.ej=(pE ops t).ej:=rfl;unfold lQ;split
 ·exact⟨a _ _ (by rw[d];exact c),by grind[E6],rfl⟩
 ·exact⟨by rw[d];exact c,by simp_all,rfl⟩
section
variable{F F' G G':Nat->Prop}{h h':Hp}{L:Lc}{ops:List Int}{t t':Dt}{R R':Rw}{Q:fq}
theorem nx2(x y:Nat):iS 3 1 2 (V.I 0) [(0,V.I x),(1,V.I y)]=some (.cells 3 1 true false (ig [x,y]),λl=> .slice l 0 2):=rfl
theorem zcd(ho:ops.length<9223372036854775808){n:Nat}(Z:Sm (lQ ops t) n)(ai:n<880)(hb:t.blocks.length<900)(q:Dq F G h L ops {mZ ops t with s:=lQ ops t} R){K:Hp->Prop}
  (H:∀F' h' R',(∀l,F l->F' l)->Kp F (gm G L.oY) h h'->Dq F' G h' L ops (loop ops t) R'->Sm (loop ops t).s (n+6)->K h') :
  oP (fI 2 (.ptr L.lu 0)) λb=>
  oP (fe b h) λc=>
  oP (fI 2 (.ptr L.lu 0)) λd=>
  oP (fe d h) λe=>
  oP (gB 6 e (.I ((t.s.ej.length+1:Nat):Int))) λx=>
  oP (fI 4 x) λf=>
  oP (fe f h) λg=>
  oP (gB 1 g (V.I 0)) λj=>
  oP (fe j h) λm=>
  oP (fe (.ptr L.iA 0) h) λo=>
  oP (fe (.ptr L.iA 0) h) λp=>
  oP (fE p) λy=>
  oP (ez .sub 3 y (V.I 1)) λz=>
  oP (gB 1 o z) λr=>
  oP (fe r h) λu=>
  xB (iS 3 1 2 (V.I 0) [(0,m),(1,u)]) h λv A a=>
  oP (gB 6 c (.I ((t.s.ej.length+1:Nat):Int))) λB=>
  oP (fI 4 B) λC=>
  ((a.get (h.next)=some v/\O.beq v v=true)/\
  ((fe r a=some u)/\
  ((fe (.ptr L.iA 0) a=some p)/\
  ((fe (.ptr L.iA 0) a=some o)/\
  ((fe j a=some m)/\
  ((fe f a=some g)/\
  ((fe d a=some e)/\
  ((fe b a=some c)/\
  fj (gq 1 C A a) λvu X=>
  (a.next<=X.next/\
  oP (fe (.ptr L.iA 0) X) λE=>
  oP (iY 1 E none (some (.I ((vT ops t).known.length:Nat))) X) λI=>
  fj (gq 1 (.ptr L.iA 0) I X) λad h3=>
  gS (iS 3 1 1 (V.I 0) [(0,(.I ((t.blocks.length+1:Nat):Int)))]) h3 λJ h4=>
  oP (fT [V.ei,(V.I 0),(V.I 0),V.ei,V.ei,(V.I 0)] [(0,1),(1,1),(2,1),(3,1),(4,1),(5,1)] [(1,(V.I 1)),(3,J)]) λM=>
  gY CS (gi (Lq L) [M]) h4 λae h5=>
  gS (iS 3 1 1 (V.I 0) [(0,(.I ((t.blocks.length+1:Nat):Int)))]) h5 λN h6=>
  oP (fI 4 (.ptr L.jx 0)) λP=>
  fj (gq 1 P N h6) λag h7=>
  gY CS (gi (Mm L) []) h7 λah h8=>K h8))))))))):=by
 let⟨y1,y2,y3⟩:=Td ops t
 have aa:=(HT ops (mZ ops t).s).kl;have Q:(vT ops t).known.length<=(lQ ops t).known.length:=by rw[y3];exact aa
 have hk:=Z.k;have S:=Z.k0;have ab:0<(vT ops t).known.length:=by
  show 0<(_++[_]).length;simp
 have T:t.s.ej.length+1<({mZ ops t with s:=lQ ops t}:Dt).s.ej.length:=by show _<(lQ ops t).ej.length;omega
 have eg:(lQ ops t).ej[t.s.ej.length+1]'(by omega)=vl 21 0 0 0 [Ek ops t,t.s.ej.length] 0:=by
  rw[gN (by omega)]at y1;exact Option.some.inj y1
 have aj:({mZ ops t with s:=lQ ops t}:Dt).blocks.length=t.blocks.length+2:=by simp[mZ,QA,end_]
 refine eh (by rfl) (eh q.D.YG (eh (by rfl) (eh q.D.YG ?_)))
 let⟨l1,o1,w1,hl1,Y,i2,i3,i4⟩:=q.D.ov.read.ix T .i64
 let⟨wa,hwa,sa⟩:=i3
 rw[eg]at hwa sa;have ia:=i4 4 wa (by rw[hwa];rfl);have Y:gB 6 R.vv (.I ((t.s.ej.length+1:Nat):Int))=some (.ptr l1 o1):=Y;refine eh Y (eh (by rfl) (eh ia ?_));have U:=hl1.elim (q.D.fl l1) λh=>(q.D.ov.vV h).2.1
 let⟨l2,o2,u2,hl2,j1,j2,j3⟩:=sa.Wd (i:=0) (by simp[vl]) .i64 rfl
 have W:=hl2.elim (q.D.fl l2) λh=>(q.D.ov.vV h).2.1;obtain⟨rfl⟩:u2 = .I (Ek ops t:Nat):=by
  have:[u2]=[V.I (Ek ops t:Nat)]:=j3
  simp_all
 refine eh j1 (eh j2 ?_)
 let⟨l3,o3,hl3,_,m1,m2⟩:=q.Ib (i:=(lQ ops t).known.length-1) (by grind)
 have m3:fe (.ptr l3 o3) h=some (.I ((lQ ops t).known.getLastD 0:Nat)):=by rw[m2];show some (V.I (((lQ ops t).known.getD _ 0:Nat):Int))=_;rw[CV _ S]
 refine eh q.D.AW (eh q.D.AW (eh q.D.ok.len (sR (by grind) S (eh m1 (eh m3 ?_)))));rw[nx2,gO]
 let⟨w,s1,k1⟩:=GR q [Ek ops t,(lQ ops t).known.getLastD 0]
 have g1:(h.new (.cells 3 1 true false (ig [Ek ops t,(lQ ops t).known.getLastD 0]))).get h.next=_:=fm _ _;refine eh Y (eh (by rfl) ?_);refine⟨by simp_all,ij m3 (fo _ hl3),w.D.AW,w.D.AW,ij j2 (fo _ W),ij ia (fo _ U),w.D.YG,w.D.YG,?_⟩
 let⟨l4,h4,a1,a2,a3,a4,D4⟩:=w.D.zd0 T s1
 have e4:V.ptr l1 (o1+4)=V.ptr l4 ((t.s.ej.length+1)*6+4):=by
  have:(V.ptr l1 o1)=V.ptr l4 ((t.s.ej.length+1)*6):=by simp_all
  cases this;rfl
 rw [e4];simp only[VS,List.length_nil]at a2;rw[a2,en];refine⟨a3,?_⟩;have q4:=YM (t':={mZ ops t with s:=Kx ops t}) (w.step a4 D4 (by simp_all) q.gl w.hq rfl) (by
  grind[Kx])
 have ac:Sm (Kx ops t) n:=Z.setArgs _ _;refine QL q4 Q λh5 R5 k5 q5=>?_;have n5:=ac.cut ab Q;refine Fh q5 (show({mZ ops t with s:=lQ ops t}:Dt).blocks.length<_ by omega) 1 0 [t.blocks.length+1] 0 rfl (λ_=>rfl) λF6 h6 R6 f6 k6 q6=>?_;refine zd q6 [t.blocks.length+1] rfl λF7 h7 R7 f7 k7 q7=>?_;have q7:=YM (t':=Sr ops t) q7 rfl;have n7:Sm (Sr ops t).s n:=n5.end_ _ _ _ _ _;refine G9 q7 ho n7 (by omega) λF8 h8 R8 f8 k8 q8 n8=>?_;have ff:∀l,F l->F7 l:=by grind[qR]
 refine H F8 h8 R8 (by simp_all) ?_ (by grind[YM,W7]) (by grind[W7]);have kk:=(((k1.gm L.oY).trans (a4.gm L.oY) (qR _ _)).trans ((k5.gm L.oY).trans (k6.gm L.oY) λ_ h=>h) (qR _ _)).trans (k7.gm L.oY) (by grind[qR]);exact kk.trans k8 ff
theorem zbV(ho:ops.length<9223372036854775808){n:Nat}(hn:Sm (vT ops t) n)(ak:n<860)(hb:t.blocks.length<900)
  (q:Dq F G h L ops (end_ {QA ops t with s:=vT ops t} 2 t.s.ej.length [t.blocks.length+2,t.blocks.length+3] 0 []) R) {K:fq}
  (H:∀F' h' R',(∀l,F l->F' l)->Kp F (gm G L.oY) h h'->Dq F' G h' L ops {mZ ops t with s:=lQ ops t} R'->Sm (lQ ops t) (n+6)->K (.I ((vT ops t).known.length:Nat)) h') :
  oP (fe (.ptr L.iA 0) h) λw=>
  oP (fE w) λd=>
  gS (iS 3 1 1 (V.I 0) [(0,(.I ((t.blocks.length+1:Nat):Int)))]) h λx aa=>
  oP (fI 4 (.ptr L.jx 0)) λy=>
  fj (gq 1 y x aa) λai ab=>
  gY CS (gi (Mm L) []) ab λaj z=>
  oP (fI 2 (.ptr L.lu 0)) λA=>
  oP (fe A z) λB=>
  gS (iS 3 1 2 (V.I 0) [(0,(.I ((fQ ops t.s).1:Nat))),(1,(.I ((t.s.ej.length+4:Nat):Int)))]) z λC ac=>
  oP (gB 6 B (.I t.s.ej.length)) λE=>
  oP (fI 4 E) λI=>
  fj (gq 1 I C ac) λad J=>
  oP (fe (.ptr L.qQ 0) J) λM=>
  gY CS (gi M [(V.I 3)]) J λN a=>
  oP (ez .eql 3 N (V.I 0)) λP=>
  bP P (
  oP (fI 2 (.ptr L.lu 0)) λe=>
  oP (fe e a) λf=>
  oP (fe (.ptr L.iA 0) a) λg=>
  oP (fe (.ptr L.iA 0) a) λj=>
  oP (fE j) λQ=>
  oP (ez .sub 3 Q (V.I 1)) λS=>
  oP (gB 1 g S) λm=>
  oP (fe m a) λo=>
  xB (iS 3 1 2 (V.I 0) [(0,(.I ((fQ ops t.s).1:Nat))),(1,o)]) a λu T b=>
  oP (gB 6 f (.I t.s.ej.length)) λU=>
  oP (fI 4 U) λW=>
  ((b.get (a.next)=some u/\O.beq u u=true)/\
  ((fe m b=some o)/\
  ((fe (.ptr L.iA 0) b=some j)/\
  ((fe (.ptr L.iA 0) b=some g)/\
  ((fe e b=some f)/\
  fj (gq 1 W T b) λae X=>
  (b.next<=X.next/\K d X)))))))
  (K d a):=by
 let⟨_,z2⟩:=ME ops t
 refine eh q.D.AW (eh q.D.ok.len ?_);refine zd q [t.blocks.length+1] rfl λF1 h1 R1 f1 k1 q1=>?_;have q1:=YM (t':=mZ ops t) q1 rfl;have n1:Sm (mZ ops t).s n:=hn.end_ _ _ _ _ _;refine G9 q1 ho n1 (by omega) λF2 h2 R2 f2 k2 q2 n2=>?_
 let⟨_,l,hl⟩:=HT ops (mZ ops t).s
 have e0:(mZ ops t).s.ej=(vT ops t).ej:=rfl;have h4:t.s.ej.length+5<=(row ops (mZ ops t).s).ej.length:=by rw[hl,e0,Lw];omega
 refine eh (by rfl) (eh q2.D.YG ?_);rw[nx2,fu]
 let⟨q3,s3,k3⟩:=GR q2 [(fQ ops t.s).1,t.s.ej.length+4]
 let⟨l4,ag,a1,a2,a3,a4,D4⟩:=q3.D.zd0 (p:=t.s.ej.length) (by grind) s3
 refine eh a1 (eh (by rfl) ?_);simp[VS,List.length_nil]at a2;rw[a2,en];have q4:=q3.step a4 D4 (by simp_all) q.gl q3.hq rfl;have n4:Sm (pE ops t) (n+6):=n2.setArgs _ _;refine eh q4.xY ?_;show cP CS fD [.I ((3:Nat):Int),.ptr L.oY 0,.ptr L.lr 0] ag _;refine yR q4 (by decide) (by decide) ho λZ k5 c=>?_;have c:Dq (fz F2 h2.next) G Z L ops {mZ ops t with s:=(num ops (pE ops t) 3).2} R2:=c;have n5:Sm (num ops (pE ops t) 3).2 (n+6):=n4.num 3;have ff:∀l,F l->fz F2 h2.next l:=by grind[qR]
 have kk:=(((k1.gm L.oY).trans k2 f1).trans ((k3.gm L.oY).trans (a4.gm L.oY) (qR _ _)) (by simp_all)).trans k5 ff;show oP (ez .eql 3 (.I ((num ops (pE ops t) 3).1:Nat)) (V.I 0)) _;by_cases hd:(num ops (pE ops t) 3).1=0
 ·refine fX (fW (by omega) ?_);have Y:lQ ops t=setArgs (num ops (pE ops t) 3).2 t.s.ej.length [(fQ ops t.s).1,(row ops (mZ ops t).s).known.getLastD 0]:=by unfold lQ;rw[if_pos hd]
  have al:=n5.k;have r:=n5.k0;have ah:(num ops (pE ops t) 3).2.known=(row ops (mZ ops t).s).known:=rfl;refine eh (by rfl) (eh c.D.YG ?_)
  let⟨l3,o3,hl3,_,m1,m2⟩:=c.Ib (i:=(num ops (pE ops t) 3).2.known.length-1) (by grind)
  have m3:fe (.ptr l3 o3) Z=some (.I ((row ops (mZ ops t).s).known.getLastD 0:Nat)):=by
   rw[m2,<-ah];show some (V.I (((num ops (pE ops t) 3).2.known.getD _ 0:Nat):Int))=_;rw[CV _ r]
  refine eh c.D.AW (eh c.D.AW (eh c.D.ok.len (sR (by grind) r (eh m1 (eh m3 ?_)))));rw[nx2,gO]
  let⟨v,s6,k6⟩:=GR c [(fQ ops t.s).1,(row ops (mZ ops t).s).known.getLastD 0]
  have g6:(Z.new (.cells 3 1 true false (ig [(fQ ops t.s).1,(row ops (mZ ops t).s).known.getLastD 0]))).get Z.next=_:=fm _ _
  let ⟨l7,h7,b1,b2,b3,b4,D7⟩:=v.D.zd0 (p:=t.s.ej.length) (by
   show _<(pE ops t).ej.length
   grind[pE,E6]) s6
  refine eh b1 (eh (by rfl) ?_);refine⟨by simp_all,ij m3 (fo _ hl3),v.D.AW,v.D.AW,v.D.YG,?_⟩;simp only[VS,List.length_nil,C7]at b2;rw[b2,en];have q7:=YM (t':={mZ ops t with s:=lQ ops t}) (v.step b4 D7 (by simp_all) q.gl v.hq rfl) (by rw[Y]);refine⟨b3,H _ _ _ (by grind[qR]) (kk.trans ((k6.gm L.oY).trans (b4.gm L.oY) (qR _ _)) ff) q7 ?_⟩;rw[Y];exact n5.setArgs _ _
 ·refine fX (fP (by omega) ?_);have Y:lQ ops t=(num ops (pE ops t) 3).2:=by unfold lQ;rw[if_neg hd]
  exact H _ _ _ ff kk (YM c (by rw[Y])) (by rw[Y];exact n5)
end
open Un
def uC(u:U)(v b s:V):List V:=[.I u.func,.I u.pc,v,b,s]
def eUn:qf U where
 sz:=5
 rel F h u cs:=∃v b s,cs=uC u v b s/\il eV F h u.ej v/\il eK F h u.blocks b/\il eT F h u.eo s
 len:=λ⟨_,_,_,h,_⟩=>by subst h;rfl
 one:=λ⟨_,_,_,h,a,c,d⟩=>by subst h;simp only[uC,eQ,a.one,c.one,d.one];rfl
 fk:=λhk ⟨v,n,p,h,a,c,d⟩=>⟨v,n,p,h,a.fk hk,c.fk hk,d.fk hk⟩
 mono:=λhb ⟨v,n,p,h,a,c,d⟩=>⟨v,n,p,h,a.mono hb,c.mono hb,d.mono hb⟩
theorem zbo(ops:List Int)(t:Dt):(fork ops t).blocks.length=t.blocks.length+3:=by simp[fork,end_]
theorem zaR(ops:List Int)(t:Dt):(zj ops t).blocks.length=t.blocks.length+2:=by simp[zj,end_]
theorem zaO(ops:List Int)(t:Dt):(loop ops t).blocks.length=t.blocks.length+3:=by simp[loop,end_]
section
variable{F F' G G':Nat->Prop}{h h':Hp}{L:Lc}{ops:List Int}{t t':Dt}{R R':Rw}{Q:fq}
theorem zfd{a:List Int}{vo vs nv:V}{b:Nat}(z:ops.length<9223372036854775808)(q:Dq F G h L ops t R)(hn:Sm t.s 30)(hb:t.blocks.length=0)(B:h.get L.lr=some (.cells T9 1 true false [vo,vs,nv]))(Z:il (eI .i64) F h a vs)
  (ai:G b) (aa:b≠L.oY) (ab:∃c,h.get b=some (.cells 30 1 true false c)/\c.length=5)
  (H:∀F' h' R' d,(∀l,F l->F' l)->Kp F (gm G L.oY) h h'->Dq F' G h' L ops d R'->d=end_ {lM ops (a.take 6) t with s:=(fN ops (lM ops (a.take 6) t).s).2} 3 0 [] (fN ops (lM ops (a.take 6) t).s).1 []->
   fj (gq 5 (.ptr b 0) (.agg [.I 1,.I 2,R'.vv,R'.vb,R'.vs]) h') λ_ f=>oP (fO 5 (.ptr b 0) f) λr=>Q r f) :
  pj Q (.ptr L.lr 0) (.ptr b 0) (.ptr L.lu 0) (.ptr L.iA 0) (.ptr L.jx 0) (.ptr L.Aa 0) (.ptr L.qQ 0) (.ptr L.WQ 0) (Mm L) (Lq L) (.I 0) h:=by
 refine En (λk N O P S T U g j m n o h'=>∃F' R',∃i:Nat,∃t',N = .ptr L.lr 0/\O = .ptr b 0/\P = .ptr L.lu 0/\S = .ptr L.iA 0/\T = .ptr L.jx 0/\U = .ptr L.Aa 0/\
  g = .ptr L.qQ 0/\j = .ptr L.WQ 0/\m=Mm L/\n=Lq L/\o = .I i/\i+k=6/\(∀l,F l->F' l)/\Kp F (gm G L.oY) h h'/\Dq F' G h' L ops t' R'/\Sm t'.s (30+30*i)/\t'.blocks.length<=3*i/\
  lM ops ((a.take 6).drop i) t' = lM ops (a.take 6) t) ?_ (k:=6)
  ⟨F,R,0,t,rfl,rfl,rfl,rfl,rfl,rfl,rfl,rfl,rfl,rfl,rfl,rfl,λ_ h=>h,Kp.refl _ _ _,q,hn,by omega,by rw[wBP]⟩
 rintro k N O P S T U g j m n o h' ⟨F1,R1,i,d,rfl,rfl,rfl,rfl,rfl,rfl,rfl,rfl,rfl,rfl,rfl,aj,hF,W,u,X,b1,C⟩;unfold pH;have E:h'.get L.lr=some (.cells T9 1 true false [vo,vs,nv]):=by rw[W.fk _ (.inl q.fr)];exact B
 have I:fe (.ptr L.lr 1) h' = some vs:=kP E rfl;have lv:=u.D.ov.len;have J:=Z.fk λl hl=>W.fk l (.inl hl);refine eh (by rfl) (eh I (eh J.len (eh (by rfl) ?_)));have e1:jI (.bool (decide (((i:Nat):Int)<(a.length:Nat)))) (oB (some (V.I i)) λac=>ez .lss 3 ac (V.I 6))=some (.bool (decide (((i:Nat):Int)<(a.length:Nat))&&decide (((i:Nat):Int)<6))):=by
  simp[ j7]
 refine eh e1 ?_
 have e2:jI (.bool (decide (((i:Nat):Int)<(a.length:Nat))&&decide (((i:Nat):Int)<6))) (oB (fI 2 (.ptr L.lu 0)) λad=>oB (fe ad h') λae=>oB (fE ae) λag=>ez .lss 3 ag (V.I 160)) =
   some (.bool ((decide (((i:Nat):Int)<(a.length:Nat))&&decide (((i:Nat):Int)<6))&&decide (((d.s.ej.length:Nat):Int)<160))):=by
  simp[ ft,u.D.YG,lv]
 refine eh e2 (iB ?_);by_cases hgo:i<a.length/\i<6/\d.s.ej.length<160;rotate_left
 ·
  refine fP (by grind) ?_;have K:d=lM ops (a.take 6) t:=by
   rw[<-C];by_cases hi:i<(a.take 6).length
   ·rw[YD hi];unfold lM
    grind
   ·rw[List.drop_of_length_le (by omega)];rfl
  subst K;refine eh u.KN ?_;refine OI u z X (by omega) λp f v M w x A=>?_;have eB:∀sn,fT [V.ei,(V.I 0),(V.I 0),V.ei,V.ei,(V.I 0)] [(0,1),(1,1),(2,1),(3,1),(4,1),(5,1)] [(1,(V.I 3)),(5,.I (sn:Nat))]=some (.agg (ku ⟨[],3,0,[],[],sn⟩ .ei .ei .ei)):=λ_=>rfl;refine eh (eB _) ?_;refine VP x (show(lM ops (a.take 6) t).blocks.length<_ by omega) ⟨[],3,0,[],[],_⟩ rfl rfl rfl .nil λF3 h3 R3 f3 k3 Y=>?_;have lA:=DD Y.D.gu rfl;refine eh lA ?_;have kk:=(W.trans w hF).trans (k3.gm L.oY) (by simp_all);exact H F3 h3 R3 _ (by grind) kk Y rfl
 let⟨g1,g2,g3⟩:=hgo
 refine fW (by grind) ?_
 let⟨l4,o4,u4,_,i1,i2,i3⟩:=J.Wd g1 .i64 rfl
 obtain⟨rfl⟩:u4 = .I a[i]:=by simpa using i3.1
 refine eh (by rfl) (eh I (eh i1 (eh i2 ?_)));show cP CS iD [.I a[i],.I ((3:Nat):Int)] h' _;refine Kk (by decide) (by decide) ?_;have ah:i<(a.take 6).length:=by rw[Pw];omega
 have y:lM ops ((a.take 6).drop (i+1)) (vR ops (mJ a[i] 3) d)=lM ops (a.take 6) t:=by
  rw[<-C,YD ah]
  conv=>rhs;unfold lM
  rw[if_pos g3,List.getElem_take]
 have fin:∀p f v,(∀l,F1 l->p l)->Kp F1 (gm G L.oY) h' f->Dq p G f L ops (vR ops (mJ a[i] 3) d) v->Sm (vR ops (mJ a[i] 3) d).s (30+30*i+30)->(vR ops (mJ a[i] 3) d).blocks.length<=3*(i+1)->
   jH Q (λN O P S T U g j m n o hh=>∃k',k' < k/\∃F' R',∃i:Nat,∃t',N = .ptr L.lr 0/\O = .ptr b 0/\P = .ptr L.lu 0/\S = .ptr L.iA 0/\T = .ptr L.jx 0/\U = .ptr L.Aa 0/\
    g = .ptr L.qQ 0/\j = .ptr L.WQ 0/\m=Mm L/\n=Lq L/\o = .I i/\i+k' = 6/\(∀l,F l->F' l)/\Kp F (gm G L.oY) h hh/\Dq F' G hh L ops t' R'/\Sm t'.s (30+30*i)/\t'.blocks.length<=3*i/\
    lM ops ((a.take 6).drop i) t' = lM ops (a.take 6) t) (.ptr L.lr 0) (.ptr b 0) (.ptr L.lu 0) (.ptr L.iA 0) (.ptr L.jx 0) (.ptr L.Aa 0) (.ptr L.qQ 0) (.ptr L.WQ 0) (Mm L) (Lq L) (.I i) f:=by
  intro p f v M w x A b2;refine CC ?_;unfold oh;refine fF ?_;exact⟨k-1,by omega,p,v,i+1,_,rfl,rfl,rfl,rfl,rfl,rfl,rfl,rfl,rfl,rfl,rfl,by omega,by simp_all,W.trans w hF,x,A,b2,y⟩
 by_cases c0:mJ a[i] 3=0
 ·refine fX (fW (by omega) ?_);have e:vR ops (mJ a[i] 3) d=fork ops d:=by unfold vR;rw[if_pos c0]
  rw[e]at fin;refine zbz u z X (by omega) (by omega) λp f v M w x A=>?_
  grind[zbo]
 refine fX (fP (by omega) ?_);by_cases c1:mJ a[i] 3=1
 ·refine fX (fW (by omega) ?_);have e:vR ops (mJ a[i] 3) d=loop ops d:=by unfold vR;rw[if_neg c0,if_pos c1]
  rw[e]at fin;refine zbK u z X (by omega) (by omega) λp f v s6 M w x A e6 _=>?_;subst e6;refine zbV z A (by omega) (by omega) x λF3 h3 R3 f3 k3 Y n3=>?_;refine Cn ?_;unfold oC;refine zcd z n3 (by omega) (by omega) Y λF4 h4 R4 f4 k4 q4 n4=>?_;exact fin F4 h4 R4 (by grind) ((w.trans k3 M).trans k4 (by simp_all)) q4 (n4.le (by omega)) (by grind[zaO])
 ·refine fX (fP (by omega) ?_);have e:vR ops (mJ a[i] 3) d=zj ops d:=by unfold vR;rw[if_neg c0,if_neg c1]
  rw[e]at fin;refine zbu u z X (by omega) (by omega) λp f v M w x A=>?_
  grind[zaR]
end
