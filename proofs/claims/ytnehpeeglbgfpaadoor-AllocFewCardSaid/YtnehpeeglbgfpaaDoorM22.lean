/- Parts. -/
import Derived.Test.YtnehpeeglbgfpaaDoorM21
set_option maxHeartbeats 4000000
namespace Go.Proofs.YtnehpeeglbgfpaaDoor.Hx
open Un
section
variable{F F' G G':Nat->Prop}{h h':Hp}{L:Lc}{ops:List Int}{t t':Dt}{R R':Rw}{Q:fu}
theorem Sm.app{s:Ds}{n:Nat}(a:Sm s n)(ys:List Nat):Sm {s with known:=s.known++ys} (n+ys.length):=
 ⟨by have:=a.v;grind,by have:=a.c;grind,by have:=a.k;simp_all,by have:=a.st;grind,by have:=a.k0;grind⟩
theorem Gt:∀ys,fZ (lF ys)=true
 |[]=>rfl
 |y::ys=>by show fZ (V.I y::lF ys)=true;rw[eR,Gt ys];rfl
theorem O1(q:Dq F G h L ops t R){n:Nat}(e:Sm t.s n)(f:n<1000)(ys:List Nat)(g:0<ys.length)(i:ys.length<=5){ps:Option (O×(Nat->V))}(j:ps=some (O.cells 3 1 true false (lF ys),λl=> .slice l 0 ys.length)){K:Hp->Prop}
  (H:∀h' R',Kp F G h h'->Dq F G h' L ops {t with s:={t.s with known:=t.s.known++ys} } R'->K h') :
  oP (er (.ptr L.gK 0) h) λa=>iW ps h λv m=>fj (fh 3 1 8 a v m) λw o=>fj (gU 1 (.ptr L.gK 0) w o) λ_ c=>K c:=by
 subst j;refine ec q.D.vC ?_;rw[fF];have p:=q.D.grow (ki.new h (.cells 3 1 true false (lF ys)));have A:(lF ys).length=ys.length:=by simp[lF]
 let⟨new,e1,e2⟩:=yq (n:=ys.length) (off:=0) (ey h (.cells 3 1 true false (lF ys))) (by omega)
 have r:new=lF ys:=by rw[e2,OK,Hq (by omega)]
 subst r;have B:=e.k;have u:=Gt ys
 let⟨v',c,C,x,E,y,I,z,D4⟩:=p.Tt e1 (sS _ _ ys) (by omega) u g (by omega)
 have b:=x;rw[b,eh,y];have d:=(q.D.uv (.cells 3 1 true false (lF ys))).trans z λ_ h=>h;exact H _ _ d (q.step d D4 (by grind) q.gl q.hq rfl)
theorem GY(q:Dq F G h L ops t R){n:Nat}(c:Sm t.s n)(b:n<999)(x:Vl){w:V}{a:V}(d:iB eN F h x.args a)(e:w = .agg (qq x a)){K:fu}
  (H:∀h' R',Kp F G h h'->R'.vk=R.vk->Dq F G h' L ops {t with s:=put t.s x} R'->K (.I t.s.ee.length) h'):gg CS (fL (Tw L) [w]) h K:=by
 subst e;show cP CS eQ [.agg (qq x a),.ptr L.lu 0,.ptr L.iK 0] h K;exact Ci q c b ⟨a,rfl,d⟩ H
def HT(ops:List Int)(t:Dt):Dt:=end_ {t with s:=(fm ops t.s).2} 1 0 [t.blocks.length+1] 0 [t.blocks.length,t.blocks.length+2]
def LV(ops:List Int)(t:Dt):Ds:=put (HT ops t).s (vl 21 0 0 0 [(fm ops t.s).1,0] 0)
def xU(ops:List Int)(t:Dt):Nat:=(fm ops (LV ops t)).1
def L6(ops:List Int)(t:Dt):Ds:=put (fm ops (LV ops t)).2 (vl 21 0 0 0 [xU ops t,t.s.ee.length] 0)
def IJ(ops:List Int)(t:Dt):Ds:={L6 ops t with known:=(L6 ops t).known++[t.s.ee.length,t.s.ee.length+1]}
def IE(ops:List Int)(t:Dt):Ds:=put (fi ops (IJ ops t)).2 (vl 23 0 0 0 [] (fi ops (IJ ops t)).1)
def pW(ops:List Int)(t:Dt):Ds:=gR (put (IE ops t) (vl 2 0 0 1 [] 0)) (vl 4 t.s.ee.length (t.s.ee.length+3) 0 [] 0)
def kI(ops:List Int)(t:Dt):Dt:=end_ {HT ops t with s:=pW ops t} 2 t.s.ee.length [t.blocks.length+2,t.blocks.length+3] 0 [t.blocks.length+1]
def lP(ops:List Int)(t:Dt):Ds:=setArgs (row ops (kI ops t).s) t.s.ee.length [(fm ops t.s).1,t.s.ee.length+4]
def jK(ops:List Int)(t:Dt):Ds:=if(num ops (lP ops t) 3).1=0 then setArgs (num ops (lP ops t) 3).2 t.s.ee.length [(fm ops t.s).1,(row ops (kI ops t).s).known.getLastD 0] else(num ops (lP ops t) 3).2
def Co(ops:List Int)(t:Dt):Ds:=setArgs (jK ops t) (t.s.ee.length+1) [xU ops t,(row ops (kI ops t).s).known.getLastD 0]
def KW(ops:List Int)(t:Dt):Dt:=end_ {kI ops t with s:=cut (pW ops t).known.length (Co ops t)} 1 0 [t.blocks.length+1] 0 [t.blocks.length+1]
theorem EX(ops:List Int)(t:Dt):∃x,(IE ops t).ee=t.s.ee++[vl 21 0 0 0 [(fm ops t.s).1,0] 0,vl 21 0 0 0 [xU ops t,t.s.ee.length] 0,x]:=by
 refine⟨vl 23 0 0 0 [] (fi ops (IJ ops t)).1,?_⟩;unfold IE;rw[put,(vF ops (IJ ops t)).1];show(L6 ops t).ee++[_]=_;show((LV ops t).ee++[_])++[_]=_;show(((HT ops t).s.ee++[_])++[_])++[_]=_;simp[LX,Ve];rfl
theorem Nn(ops:List Int)(t:Dt):loop ops t = {KW ops t with s:=row ops (KW ops t).s}:=by
 let⟨x,hx⟩:=EX ops t
 have e:(IE ops t).ee.length=t.s.ee.length+3:=by rw[hx];simp
 unfold KW Co jK lP kI pW;rw[show t.s.ee.length+4=(t.s.ee.length+3)+1 from rfl,<-e];rfl
theorem Si(q:Dq F G h L ops t R)(ho:ops.length<9223372036854775808){n:Nat}(hn:Sm t.s n)(cg:n<800)(hb:t.blocks.length<900){K:rW}
  (H:∀F' h' R' e,(∀l,F l->F' l)->Kp F (gm G L.lE) h h'->Dq F' G h' L ops (end_ {HT ops t with s:=e} 2 t.s.ee.length [t.blocks.length+2,t.blocks.length+3] 0 []) R'->Sm e (n+10)->
   e=pW ops t->
   e.ee.length=t.s.ee.length+5->
   K (.I ((fm ops t.s).1:Nat)) (.I (t.blocks.length+1:Nat)) (.I t.s.ee.length) (.I ((t.s.ee.length+1:Nat):Int)) (.I ((t.s.ee.length+4:Nat):Int)) (.I ((t.blocks.length+1:Nat):Int)) h') :
  oP (er (.ptr L.gK 0) h) λB=>
  oP (er (.ptr L.mI 0) h) λac=>
  oP (er (.ptr L.gK 0) h) λae=>
  oP (fJ ae) λag=>
  gg CS (fL ac [ag]) h λah f=>
  (h.next<=f.next/\
  oP (gM 1 B ah) λai=>
  oP (er ai f) λC=>
  ((er (.ptr L.gK 0) f=some B)/\
  oP (fP 3 (.ptr L.lu 0)) λaj=>
  oP (er aj f) λak=>
  oP (fJ ak) λal=>
  oP (ej .add 3 al (V.I 1)) λam=>
  iW (jm 3 1 1 (V.I 0) [(0,am)]) f λan bj=>
  oP (fH [V.ed,(V.I 0),(V.I 0),V.ed,V.ed,(V.I 0)] [(0,1),(1,1),(2,1),(3,1),(4,1),(5,1)] [(1,(V.I 1)),(3,an)]) λao=>
  gg CS (fL (CO L) [ao]) bj λE bm=>
  oP (ej .add 3 E (V.I 1)) λb=>
  oP (ej .add 3 b (V.I 1)) λaq=>
  iW (jm 3 1 2 (V.I 0) [(0,E),(1,aq)]) bm λar bn=>
  oP (fP 4 (.ptr L.iK 0)) λau=>
  fj (gU 1 au ar bn) λcb aw=>
  oP (er (.ptr L.uQ 0) aw) λax=>
  iW (jm 3 1 2 (V.I 0) [(0,C),(1,(V.I 0))]) aw λay bo=>
  oP (fH [(V.I 0),(V.I 0),(V.I 0),(V.I 0),V.ed,(V.I 0)] [(0,1),(1,1),(2,1),(3,1),(4,1),(5,1)] [(0,(V.I 21)),(4,ay)]) λaz=>
  gg CS (fL ax [az]) bo λa c=>
  oP (er (.ptr L.uQ 0) c) λI=>
  oP (er (.ptr L.gK 0) c) λJ=>
  oP (er (.ptr L.mI 0) c) λaA=>
  oP (er (.ptr L.gK 0) c) λaB=>
  oP (fJ aB) λaC=>
  gg CS (fL aA [aC]) c λaD k=>
  (c.next<=k.next/\
  oP (gM 1 J aD) λM=>
  oP (er M k) λN=>
  uY (jm 3 1 2 (V.I 0) [(0,N),(1,a)]) k λo9 aE d=>
  oP (fH [(V.I 0),(V.I 0),(V.I 0),(V.I 0),V.ed,(V.I 0)] [(0,1),(1,1),(2,1),(3,1),(4,1),(5,1)] [(0,(V.I 21)),(4,aE)]) λaF=>
  ((d.get (k.next)=some o9/\O.beq o9 o9=true)/\
  ((er M d=some N)/\
  ((er (.ptr L.gK 0) d=some J)/\
  ((er (.ptr L.uQ 0) d=some I)/\
  gg CS (fL I [aF]) d λP U=>
  (d.next<=U.next/\
  oP (er (.ptr L.gK 0) U) λaG=>
  iW (jm 3 1 2 (V.I 0) [(0,a),(1,P)]) U λaH bp=>
  fj (fh 3 1 8 aG aH bp) λaI bq=>
  fj (gU 1 (.ptr L.gK 0) aI bq) λcd r=>
  oP (er (.ptr L.uQ 0) r) λQ=>
  oP (er (.ptr L.Nd 0) r) λaJ=>
  gg CS (fL aJ []) r λaK u=>
  (r.next<=u.next/\
  oP (fH [(V.I 0),(V.I 0),(V.I 0),(V.I 0),V.ed,(V.I 0)] [(0,1),(1,1),(2,1),(3,1),(4,1),(5,1)] [(0,(V.I 23)),(5,aK)]) λaL=>
  ((er (.ptr L.uQ 0) u=some Q)/\
  gg CS (fL Q [aL]) u λce W=>
  (u.next<=W.next/\
  oP (er (.ptr L.uQ 0) W) λaM=>
  oP (fH [(V.I 0),(V.I 0),(V.I 0),(V.I 0),V.ed,(V.I 0)] [(0,1),(1,1),(2,1),(3,1),(4,1),(5,1)] [(0,(V.I 2)),(3,(V.I 1))]) λaN=>
  gg CS (fL aM [aN]) W λaO aP=>
  oP (er (.ptr L.uQ 0) aP) λaQ=>
  oP (fH [(V.I 0),(V.I 0),(V.I 0),(V.I 0),V.ed,(V.I 0)] [(0,1),(1,1),(2,1),(3,1),(4,1),(5,1)] [(0,(V.I 4)),(1,a),(2,aO)]) λaR=>
  gg CS (fL aQ [aR]) aP λS aS=>
  oP (er (.ptr L.gK 0) aS) λaT=>
  iW (jm 3 1 1 (V.I 0) [(0,S)]) aS λaU br=>
  fj (fh 3 1 8 aT aU br) λaV bt=>
  fj (gU 1 (.ptr L.gK 0) aV bt) λcf bu=>
  oP (ej .add 3 b (V.I 1)) λaW=>
  oP (ej .add 3 b (V.I 2)) λaX=>
  iW (jm 3 1 2 (V.I 0) [(0,aW),(1,aX)]) bu λaY bv=>
  oP (fH [V.ed,(V.I 0),(V.I 0),V.ed,V.ed,(V.I 0)] [(0,1),(1,1),(2,1),(3,1),(4,1),(5,1)] [(1,(V.I 2)),(2,a),(3,aY)]) λaZ=>
  gg CS (fL (CO L) [aZ]) bv λa0 bw=>K C b a P S a0 bw)))))))))))
   :=by
 refine Lt q ho hn (by omega) λh2 k2 q2=>?_;refine ec (by rfl) (ec q2.D.Q3 (ec q2.D.ob.len (iE (m:=1) (show t.blocks.length<_ by omega) (by omega) ?_)));have n2:Sm (fm ops t.s).2 n:=hn.one;refine yK q2 (show t.blocks.length<_ by omega) 1 0 [t.blocks.length+1] 0 rfl (λ_=>rfl) λF4 h4 R4 f4 k4 q4=>?_;refine iE (n:=t.blocks.length) (m:=1) (by omega) (by omega) ?_;refine gv ?_;refine tD q4 [t.blocks.length,t.blocks.length+2] rfl λF6 h6 R6 f6 k6 q6=>?_;have q6:=OD (t':=end_ {t with s:=(fm ops t.s).2} 1 0 [t.blocks.length+1] 0 [t.blocks.length,t.blocks.length+2]) q6 rfl;have n6:Sm (end_ {t with s:=(fm ops t.s).2} 1 0 [t.blocks.length+1] 0 [t.blocks.length,t.blocks.length+2]).s n:=n2.end_ _ _ _ _ _;have bz:(end_ {t with s:=(fm ops t.s).2} 1 0 [t.blocks.length+1] 0 [t.blocks.length,t.blocks.length+2]).blocks.length=t.blocks.length+1:=by simp[end_]
 have a1:(end_ {t with s:=(fm ops t.s).2} 1 0 [t.blocks.length+1] 0 [t.blocks.length,t.blocks.length+2]).s.ee.length=t.s.ee.length:=rfl;have kA:=Xn k2 (k4.trans k6 f4) λ_ h=>h;have fA:∀l,F l->F6 l:=by simp_all
 generalize bA:end_ {t with s:=(fm ops t.s).2} 1 0 [t.blocks.length+1] 0 [t.blocks.length,t.blocks.length+2]=t1 at*;generalize bC:(fm ops t.s).1=fr at*;refine ec q6.mg ?_;have e3:∀x y,jm 3 1 2 (V.I 0) [(0,V.I (x:Nat)),(1,V.I (y:Nat))]=some (.cells 3 1 true false (lF [x,y]),λl=> .slice l 0 2):=λ_ _=>rfl;have bD:jm 3 1 2 (V.I 0) [(0,V.I fr),(1,V.I 0)]=some (.cells 3 1 true false (lF [fr,0]),λl=> .slice l 0 2):=e3 fr 0;rw[bD,fF]
 let⟨q7,s7,k7⟩:=Ag q6 [fr,0]
 refine ec (by rfl) ?_;refine GY q7 n6 (by omega) (vl 21 0 0 0 [fr,0] 0) s7 rfl λh8 R8 k8 _ q8=>?_;have n8:=n6.put (vl 21 0 0 0 [fr,0] 0);have bE:(put t1.s (vl 21 0 0 0 [fr,0] 0)).ee.length=t.s.ee.length+1:=by simp[put,a1]
 rw[a1];generalize bG:put t1.s (vl 21 0 0 0 [fr,0] 0)=s1 at*;have kB:=kA.trans ((k7.gm L.lE).trans (k8.gm L.lE) (mK _ _)) fA;have fB:∀l,F l->fz F6 h6.next l:=by grind[mK]
 refine ec q8.mg (ec q8.D.vC (ec q8.qH (ec q8.D.vC (ec q8.D.ok.len ?_))));show cP CS eD [.I s1.known.length,.ptr L.lE 0,.ptr L.lr 0] h8 _;refine Gc q8 ho n8 (by omega) λh9 l9 o9 k9 q9 bH i1 i2=>⟨k9.next,ec i1 (ec i2 ?_)⟩
 have i2:=i2;have q9:=q9;have n9:=n8.one (ops:=ops);have a2:(fm ops s1).2.ee.length=t.s.ee.length+1:=bE;show uY (jm 3 1 2 (V.I 0) [(0,V.I ((fm ops s1).1:Nat)),(1,V.I t.s.ee.length)]) h9 _;generalize bI:(fm ops s1).2=sg at*;generalize bJ:(fm ops s1).1=g at*;rw[e3,hN]
 let⟨X,bK,bL⟩:=Ag q9 [g,t.s.ee.length]
 have ci:(h9.new (.cells 3 1 true false (lF [g,t.s.ee.length]))).get h9.next=_:=ey _ _;refine ec (by rfl) ⟨by grind[O.ie],mm i2 (eJ _ bH),X.D.vC,X.mg,?_⟩;refine GY X n9 (by omega) (vl 21 0 0 0 [g,t.s.ee.length] 0) bK rfl λcj Xy a3 _ Y=>⟨a3.next,?_⟩
 have a4:=n9.put (vl 21 0 0 0 [g,t.s.ee.length] 0);have a5:(put sg (vl 21 0 0 0 [g,t.s.ee.length] 0)).ee.length=t.s.ee.length+2:=by simp[put,a2]
 have bQ:=a2;rw[bQ];generalize bR:put sg (vl 21 0 0 0 [g,t.s.ee.length] 0)=s2 at*;have Y:=Y;have kC:=kB.trans (k9.trans ((bL.gm L.lE).trans (a3.gm L.lE) (mK _ _)) λ_ h=>h) fB;have fC:∀l,F l->fz (fz F6 h6.next) h9.next l:=by grind[mK]
 refine O1 Y a4 (by omega) [t.s.ee.length,t.s.ee.length+1] (by simp) (by simp) (e3 _ _) λcl WJ bS i=>?_;have Z:=a4.app [t.s.ee.length,t.s.ee.length+1];have a6:({s2 with known:=s2.known++[t.s.ee.length,t.s.ee.length+1]}:Ds).ee.length=t.s.ee.length+2:=a5;have i:=i;generalize bU:({s2 with known:=s2.known++[t.s.ee.length,t.s.ee.length+1]}:Ds)=s3 at*;have Z:Sm s3 (n+4):=Z;refine ec i.mg (ec i.Dk ?_);refine GV i ho Z (by omega) λbV cm XB cn a7 v w=>⟨a7.next,?_⟩
 have bW:=vF ops s3;have a8:(fi ops s3).2.ee.length=t.s.ee.length+2:=by rw[bW.1];exact a6
 have v:=v;have w:=w;show oP (fH _ _ [(0,V.I 23),(5,.I ((fi ops s3).1:Nat))]) _;generalize bX:(fi ops s3).2=s4 at*;generalize bY:(fi ops s3).1=sn at*;have eS:fH [(V.I 0),(V.I 0),(V.I 0),(V.I 0),V.ed,(V.I 0)] [(0,1),(1,1),(2,1),(3,1),(4,1),(5,1)] [(0,(V.I 23)),(5,.I sn)]=some (.agg (qq (vl 23 0 0 0 [] sn) .ed)):=rfl;refine ec eS ⟨v.mg,?_⟩;refine GY v w (by omega) (vl 23 0 0 0 [] sn) .nil rfl λco WE a9 _ z=>⟨a9.next,?_⟩
 have ba:=w.put (vl 23 0 0 0 [] sn);have T:(put s4 (vl 23 0 0 0 [] sn)).ee.length=t.s.ee.length+3:=by simp[put,a8]
 have z:=z;generalize bb:put s4 (vl 23 0 0 0 [] sn)=s5 at*;refine ec z.mg ?_;have eO:fH [(V.I 0),(V.I 0),(V.I 0),(V.I 0),V.ed,(V.I 0)] [(0,1),(1,1),(2,1),(3,1),(4,1),(5,1)] [(0,(V.I 2)),(3,(V.I 1))]=some (.agg (qq (vl 2 0 0 1 [] 0) .ed)):=rfl;refine ec eO ?_;refine GY z ba (by omega) (vl 2 0 0 1 [] 0) .nil rfl λcp XU bZ _ A=>?_;have bc:=ba.put (vl 2 0 0 1 [] 0);have j:(put s5 (vl 2 0 0 1 [] 0)).ee.length=t.s.ee.length+4:=by simp[put,T]
 have b1:=T;rw[b1];have A:=A;generalize bd:put s5 (vl 2 0 0 1 [] 0)=e at*;refine ec A.mg ?_;have W2:∀p o,fH [(V.I 0),(V.I 0),(V.I 0),(V.I 0),V.ed,(V.I 0)] [(0,1),(1,1),(2,1),(3,1),(4,1),(5,1)] [(0,(V.I 4)),(1,.I (p:Nat)),(2,.I (o:Nat))]=some (.agg (qq (vl 4 p o 0 [] 0) .ed)):=λ_ _=>rfl;refine ec (W2 _ _) ?_;refine GY A bc (by omega) (vl 4 t.s.ee.length (t.s.ee.length+3) 0 [] 0) .nil rfl λcq cr b2 _ b3=>?_;have be:=bc.put (vl 4 t.s.ee.length (t.s.ee.length+3) 0 [] 0);have b4:=j;rw[b4];refine O1 b3 be (by omega) [t.s.ee.length+4] (by simp) (by simp) rfl λb5 XR b6 aa=>?_;have ab:=be.app [t.s.ee.length+4];have bf:({ ({t1 with s:=put e (vl 4 t.s.ee.length (t.s.ee.length+3) 0 [] 0)}:Dt).s with known:=({t1 with s:=put e (vl 4 t.s.ee.length (t.s.ee.length+3) 0 [] 0)}:Dt).s.known++[t.s.ee.length+4]}:Ds)=gR e (vl 4 t.s.ee.length (t.s.ee.length+3) 0 [] 0):=by
  unfold gR put;simp[j]
 have aa:Dq bV G b5 L ops {t1 with s:=gR e (vl 4 t.s.ee.length (t.s.ee.length+3) 0 [] 0)} XR:=by rw[<-bf];exact aa
 have ab:Sm (gR e (vl 4 t.s.ee.length (t.s.ee.length+3) 0 [] 0)) (n+10):=by rw[<-bf];exact ab.le (by grind)
 have bg:(gR e (vl 4 t.s.ee.length (t.s.ee.length+3) 0 [] 0)).ee.length=t.s.ee.length+5:=by simp[gR,j]
 refine gv ?_;refine iE (m:=2) (by omega) (by omega) ?_;refine yK aa (show t1.blocks.length<_ by omega) 2 t.s.ee.length [t.blocks.length+2,t.blocks.length+3] 0 rfl (λ_=>rfl) λb7 b8 Wn ct b9 ca=>?_;have bi:=bz;rw[bi];have kD:=((kC.trans ((bS.gm L.lE).trans a7 λ_ h=>h) fC).trans ((((a9.gm L.lE).trans (bZ.gm L.lE) λ_ h=>h).trans (b2.gm L.lE) λ_ h=>h).trans (b6.gm L.lE) λ_ h=>h) (by grind)).trans (b9.gm L.lE) (by grind);subst bA bC bG bI bJ bR bU bX bY bb bd;exact H b7 b8 Wn _ (by grind) kD ca ab rfl bg
end
open Un
theorem ER(ops:List Int)(t:Dt):(pW ops t).ee[t.s.ee.length+1]? =some (vl 21 0 0 0 [xU ops t,t.s.ee.length] 0)/\(pW ops t).ee.length=t.s.ee.length+5:=by
 let⟨x,hx⟩:=EX ops t
 grind[pW,gR,put]
theorem J0(ops:List Int)(t:Dt):(jK ops t).ee[t.s.ee.length+1]? =some (vl 21 0 0 0 [xU ops t,t.s.ee.length] 0)/\t.s.ee.length+5<=(jK ops t).ee.length/\(jK ops t).known=(row ops (kI ops t).s).known:=by
 let⟨d,h⟩:=ER ops t
 let⟨_,l,hl⟩:=AR ops (kI ops t).s
 have e0:(kI ops t).s.ee=(pW ops t).ee:=rfl;have e:(row ops (kI ops t).s).ee[t.s.ee.length+1]? =some (vl 21 0 0 0 [xU ops t,t.s.ee.length] 0):=by
  rw[hl,e0,NQ (by omega)];exact d
 have f:t.s.ee.length+5<=(row ops (kI ops t).s).ee.length:=by rw[hl,e0,Hm];omega
 have a:∀s l,s.ee[t.s.ee.length+1]? =some (vl 21 0 0 0 [xU ops t,t.s.ee.length] 0)->(setArgs s t.s.ee.length l).ee[t.s.ee.length+1]? =some (vl 21 0 0 0 [xU ops t,t.s.ee.length] 0):=by
  intro s l g;show(s.ee.modify t.s.ee.length _)[t.s.ee.length+1]? =_;rw[List.getElem?_modify,g];show some (if _ then _ else _)=_;rw[if_neg (by omega)]
 have b:=a _ [(fm ops t.s).1,t.s.ee.length+4] e;have i:t.s.ee.length+5<=(lP ops t).ee.length:=by unfold lP;rw[(yI _ _ _).1];exact f
 have c:(num ops (lP ops t) 3).2.ee=(lP ops t).ee:=rfl;unfold jK;split
 ·exact⟨a _ _ (by rw[c];exact b),by grind[yI],rfl⟩
 ·exact⟨by rw[c];exact b,by simp_all,rfl⟩
section
variable{F F' G G':Nat->Prop}{h h':Hp}{L:Lc}{ops:List Int}{t t':Dt}{R R':Rw}{Q:fu}
theorem Uw(x y:Nat):jm 3 1 2 (V.I 0) [(0,V.I x),(1,V.I y)]=some (.cells 3 1 true false (lF [x,y]),λl=> .slice l 0 2):=rfl
theorem Ru(ho:ops.length<9223372036854775808){n:Nat}(hn:Sm (jK ops t) n)(aj:n<880)(hb:t.blocks.length<900)(q:Dq F G h L ops {kI ops t with s:=jK ops t} R){K:Hp->Prop}
  (H:∀F' h' R',(∀l,F l->F' l)->Kp F (gm G L.lE) h h'->Dq F' G h' L ops (loop ops t) R'->Sm (loop ops t).s (n+6)->K h') :
  oP (fP 2 (.ptr L.lu 0)) λb=>
  oP (er b h) λc=>
  oP (fP 2 (.ptr L.lu 0)) λd=>
  oP (er d h) λe=>
  oP (gM 6 e (.I ((t.s.ee.length+1:Nat):Int))) λx=>
  oP (fP 4 x) λf=>
  oP (er f h) λg=>
  oP (gM 1 g (V.I 0)) λj=>
  oP (er j h) λm=>
  oP (er (.ptr L.gK 0) h) λo=>
  oP (er (.ptr L.gK 0) h) λp=>
  oP (fJ p) λy=>
  oP (ej .sub 3 y (V.I 1)) λz=>
  oP (gM 1 o z) λr=>
  oP (er r h) λu=>
  uY (jm 3 1 2 (V.I 0) [(0,m),(1,u)]) h λv A a=>
  oP (gM 6 c (.I ((t.s.ee.length+1:Nat):Int))) λB=>
  oP (fP 4 B) λC=>
  ((a.get (h.next)=some v/\O.beq v v=true)/\
  ((er r a=some u)/\
  ((er (.ptr L.gK 0) a=some p)/\
  ((er (.ptr L.gK 0) a=some o)/\
  ((er j a=some m)/\
  ((er f a=some g)/\
  ((er d a=some e)/\
  ((er b a=some c)/\
  fj (gU 1 C A a) λvu X=>
  (a.next<=X.next/\
  oP (er (.ptr L.gK 0) X) λE=>
  oP (iF 1 E none (some (.I ((pW ops t).known.length:Nat))) X) λI=>
  fj (gU 1 (.ptr L.gK 0) I X) λae h3=>
  iW (jm 3 1 1 (V.I 0) [(0,(.I ((t.blocks.length+1:Nat):Int)))]) h3 λJ h4=>
  oP (fH [V.ed,(V.I 0),(V.I 0),V.ed,V.ed,(V.I 0)] [(0,1),(1,1),(2,1),(3,1),(4,1),(5,1)] [(1,(V.I 1)),(3,J)]) λM=>
  gg CS (fL (CO L) [M]) h4 λag h5=>
  iW (jm 3 1 1 (V.I 0) [(0,(.I ((t.blocks.length+1:Nat):Int)))]) h5 λN h6=>
  oP (fP 4 (.ptr L.iK 0)) λP=>
  fj (gU 1 P N h6) λah h7=>
  gg CS (fL (Et L) []) h7 λai h8=>K h8))))))))):=by
 let⟨y1,y2,y3⟩:=J0 ops t
 have aa:=(AR ops (kI ops t).s).kl;have Q:(pW ops t).known.length<=(jK ops t).known.length:=by rw[y3];exact aa
 have hk:=hn.k;have S:=hn.k0;have ab:0<(pW ops t).known.length:=by
  show 0<(_++[_]).length;simp
 have T:t.s.ee.length+1<({kI ops t with s:=jK ops t}:Dt).s.ee.length:=by show _<(jK ops t).ee.length;omega
 have eg:(jK ops t).ee[t.s.ee.length+1]'(by omega)=vl 21 0 0 0 [xU ops t,t.s.ee.length] 0:=by
  rw[iQ (by omega)]at y1;exact Option.some.inj y1
 have ak:({kI ops t with s:=jK ops t}:Dt).blocks.length=t.blocks.length+2:=by simp[kI,HT,end_]
 refine ec (by rfl) (ec q.D.Ov (ec (by rfl) (ec q.D.Ov ?_)))
 let⟨Y,o1,w1,hl1,Z,i2,i3,i4⟩:=q.D.ov.read.ix T .i64
 let⟨wa,hwa,sa⟩:=i3
 rw[eg]at hwa sa;have ia:=i4 4 wa (by rw[hwa];rfl);have Z:gM 6 R.vv (.I ((t.s.ee.length+1:Nat):Int))=some (.ptr Y o1):=Z;refine ec Z (ec (by rfl) (ec ia ?_));have U:=hl1.elim (q.D.fl Y) λh=>(q.D.ov.sm h).2.1
 let⟨l2,o2,u2,hl2,j1,j2,j3⟩:=sa.OZ (i:=0) (by simp[vl]) .i64 rfl
 have W:=hl2.elim (q.D.fl l2) λh=>(q.D.ov.sm h).2.1;obtain⟨rfl⟩:u2 = .I (xU ops t:Nat):=by
  have:[u2]=[V.I (xU ops t:Nat)]:=j3
  simp_all
 refine ec j1 (ec j2 ?_)
 let⟨l3,o3,hl3,_,m1,m2⟩:=q.AU (i:=(jK ops t).known.length-1) (by grind)
 have m3:er (.ptr l3 o3) h=some (.I ((jK ops t).known.getLastD 0:Nat)):=by rw[m2];show some (V.I (((jK ops t).known.getD _ 0:Nat):Int))=_;rw[xD _ S]
 refine ec q.D.vC (ec q.D.vC (ec q.D.ok.len (sL (by grind) S (ec m1 (ec m3 ?_)))));rw[Uw,hN]
 let⟨w,s1,k1⟩:=Ag q [xU ops t,(jK ops t).known.getLastD 0]
 have g1:(h.new (.cells 3 1 true false (lF [xU ops t,(jK ops t).known.getLastD 0]))).get h.next=_:=ey _ _;refine ec Z (ec (by rfl) ?_);refine⟨by simp_all,mm m3 (eJ _ hl3),w.D.vC,w.D.vC,mm j2 (eJ _ W),mm ia (eJ _ U),w.D.Ov,w.D.Ov,?_⟩
 let⟨l4,h4,a1,a2,a3,a4,D4⟩:=w.D.TJ T s1
 have e4:V.ptr Y (o1+4)=V.ptr l4 ((t.s.ee.length+1)*6+4):=by
  have:(V.ptr Y o1)=V.ptr l4 ((t.s.ee.length+1)*6):=by simp_all
  cases this;rfl
 rw [e4];simp only[Li,UZ]at a2;rw[a2,eh];refine⟨a3,?_⟩;have q4:=OD (t':={kI ops t with s:=Co ops t}) (w.step a4 D4 (by simp_all) q.gl w.hq rfl) (by
  grind[Co])
 have ac:Sm (Co ops t) n:=hn.setArgs _ _;refine Jh q4 Q λh5 R5 k5 q5=>?_;have n5:=ac.cut ab Q;refine yK q5 (show({kI ops t with s:=jK ops t}:Dt).blocks.length<_ by omega) 1 0 [t.blocks.length+1] 0 rfl (λ_=>rfl) λF6 h6 R6 f6 k6 q6=>?_;refine tD q6 [t.blocks.length+1] rfl λF7 h7 R7 f7 k7 q7=>?_;have q7:=OD (t':=KW ops t) q7 rfl;have n7:Sm (KW ops t).s n:=n5.end_ _ _ _ _ _;refine Ac q7 ho n7 (by omega) λF8 h8 R8 f8 k8 q8 n8=>?_;have ff:∀l,F l->F7 l:=by grind[mK]
 refine H F8 h8 R8 (by simp_all) ?_ (by grind[OD,Nn]) (by grind[Nn]);have kk:=(((k1.gm L.lE).trans (a4.gm L.lE) (mK _ _)).trans ((k5.gm L.lE).trans (k6.gm L.lE) λ_ h=>h) (mK _ _)).trans (k7.gm L.lE) (by grind[mK]);exact kk.trans k8 ff
theorem Sp(ho:ops.length<9223372036854775808){n:Nat}(hn:Sm (pW ops t) n)(al:n<860)(hb:t.blocks.length<900)
  (q:Dq F G h L ops (end_ {HT ops t with s:=pW ops t} 2 t.s.ee.length [t.blocks.length+2,t.blocks.length+3] 0 []) R) {K:fu}
  (H:∀F' h' R',(∀l,F l->F' l)->Kp F (gm G L.lE) h h'->Dq F' G h' L ops {kI ops t with s:=jK ops t} R'->Sm (jK ops t) (n+6)->K (.I ((pW ops t).known.length:Nat)) h') :
  oP (er (.ptr L.gK 0) h) λw=>
  oP (fJ w) λd=>
  iW (jm 3 1 1 (V.I 0) [(0,(.I ((t.blocks.length+1:Nat):Int)))]) h λx aa=>
  oP (fP 4 (.ptr L.iK 0)) λy=>
  fj (gU 1 y x aa) λaj ab=>
  gg CS (fL (Et L) []) ab λak z=>
  oP (fP 2 (.ptr L.lu 0)) λA=>
  oP (er A z) λB=>
  iW (jm 3 1 2 (V.I 0) [(0,(.I ((fm ops t.s).1:Nat))),(1,(.I ((t.s.ee.length+4:Nat):Int)))]) z λC ac=>
  oP (gM 6 B (.I t.s.ee.length)) λE=>
  oP (fP 4 E) λI=>
  fj (gU 1 I C ac) λae J=>
  oP (er (.ptr L.mI 0) J) λM=>
  gg CS (fL M [(V.I 3)]) J λN a=>
  oP (ej .eql 3 N (V.I 0)) λP=>
  bP P (
  oP (fP 2 (.ptr L.lu 0)) λe=>
  oP (er e a) λf=>
  oP (er (.ptr L.gK 0) a) λg=>
  oP (er (.ptr L.gK 0) a) λj=>
  oP (fJ j) λQ=>
  oP (ej .sub 3 Q (V.I 1)) λS=>
  oP (gM 1 g S) λm=>
  oP (er m a) λo=>
  uY (jm 3 1 2 (V.I 0) [(0,(.I ((fm ops t.s).1:Nat))),(1,o)]) a λu T b=>
  oP (gM 6 f (.I t.s.ee.length)) λU=>
  oP (fP 4 U) λW=>
  ((b.get (a.next)=some u/\O.beq u u=true)/\
  ((er m b=some o)/\
  ((er (.ptr L.gK 0) b=some j)/\
  ((er (.ptr L.gK 0) b=some g)/\
  ((er e b=some f)/\
  fj (gU 1 W T b) λag X=>
  (b.next<=X.next/\K d X)))))))
  (K d a):=by
 let⟨_,z2⟩:=ER ops t
 refine ec q.D.vC (ec q.D.ok.len ?_);refine tD q [t.blocks.length+1] rfl λF1 h1 R1 f1 k1 q1=>?_;have q1:=OD (t':=kI ops t) q1 rfl;have n1:Sm (kI ops t).s n:=hn.end_ _ _ _ _ _;refine Ac q1 ho n1 (by omega) λF2 h2 R2 f2 k2 q2 n2=>?_
 let⟨_,l,hl⟩:=AR ops (kI ops t).s
 have e0:(kI ops t).s.ee=(pW ops t).ee:=rfl;have h4:t.s.ee.length+5<=(row ops (kI ops t).s).ee.length:=by rw[hl,e0,Hm];omega
 refine ec (by rfl) (ec q2.D.Ov ?_);rw[Uw,fF]
 let⟨q3,s3,k3⟩:=Ag q2 [(fm ops t.s).1,t.s.ee.length+4]
 let⟨l4,ah,a1,a2,a3,a4,D4⟩:=q3.D.TJ (p:=t.s.ee.length) (by grind) s3
 refine ec a1 (ec (by rfl) ?_);simp[Li,UZ]at a2;rw[a2,eh];have q4:=q3.step a4 D4 (by simp_all) q.gl q3.hq rfl;have n4:Sm (lP ops t) (n+6):=n2.setArgs _ _;refine ec q4.qH ?_;show cP CS eD [.I ((3:Nat):Int),.ptr L.lE 0,.ptr L.lr 0] ah _;refine sJ q4 (by decide) (by decide) ho λZ k5 c=>?_;have c:Dq (fz F2 h2.next) G Z L ops {kI ops t with s:=(num ops (lP ops t) 3).2} R2:=c;have n5:Sm (num ops (lP ops t) 3).2 (n+6):=n4.num 3;have ff:∀l,F l->fz F2 h2.next l:=by grind[mK]
 have kk:=(((k1.gm L.lE).trans k2 f1).trans ((k3.gm L.lE).trans (a4.gm L.lE) (mK _ _)) (by simp_all)).trans k5 ff;show oP (ej .eql 3 (.I ((num ops (lP ops t) 3).1:Nat)) (V.I 0)) _;by_cases hd:(num ops (lP ops t) 3).1=0
 ·refine gP (hV (by omega) ?_);have Y:jK ops t=setArgs (num ops (lP ops t) 3).2 t.s.ee.length [(fm ops t.s).1,(row ops (kI ops t).s).known.getLastD 0]:=by unfold jK;rw[if_pos hd]
  have am:=n5.k;have r:=n5.k0;have ai:(num ops (lP ops t) 3).2.known=(row ops (kI ops t).s).known:=rfl;refine ec (by rfl) (ec c.D.Ov ?_)
  let⟨l3,o3,hl3,_,m1,m2⟩:=c.AU (i:=(num ops (lP ops t) 3).2.known.length-1) (by grind)
  have m3:er (.ptr l3 o3) Z=some (.I ((row ops (kI ops t).s).known.getLastD 0:Nat)):=by
   rw[m2,<-ai];show some (V.I (((num ops (lP ops t) 3).2.known.getD _ 0:Nat):Int))=_;rw[xD _ r]
  refine ec c.D.vC (ec c.D.vC (ec c.D.ok.len (sL (by grind) r (ec m1 (ec m3 ?_)))));rw[Uw,hN]
  let⟨v,s6,k6⟩:=Ag c [(fm ops t.s).1,(row ops (kI ops t).s).known.getLastD 0]
  have g6:(Z.new (.cells 3 1 true false (lF [(fm ops t.s).1,(row ops (kI ops t).s).known.getLastD 0]))).get Z.next=_:=ey _ _
  let ⟨l7,h7,b1,b2,b3,b4,D7⟩:=v.D.TJ (p:=t.s.ee.length) (by
   show _<(lP ops t).ee.length
   grind[lP,yI]) s6
  refine ec b1 (ec (by rfl) ?_);refine⟨by simp_all,mm m3 (eJ _ hl3),v.D.vC,v.D.vC,v.D.Ov,?_⟩;simp only[Li,UZ,Dr]at b2;rw[b2,eh];have q7:=OD (t':={kI ops t with s:=jK ops t}) (v.step b4 D7 (by simp_all) q.gl v.hq rfl) (by rw[Y]);refine⟨b3,H _ _ _ (by grind[mK]) (kk.trans ((k6.gm L.lE).trans (b4.gm L.lE) (mK _ _)) ff) q7 ?_⟩;rw[Y];exact n5.setArgs _ _
 ·refine gP (gJ (by omega) ?_);have Y:jK ops t=(num ops (lP ops t) 3).2:=by unfold jK;rw[if_neg hd]
  exact H _ _ _ ff kk (OD c (by rw[Y])) (by rw[Y];exact n5)
end
open Un
def uC(u:U)(v b s:V):List V:=[.I u.func,.I u.pc,v,b,s]
def W2:sO U where
 sz:=5
 rel F h u cs:=∃v b s,cs=uC u v b s/\iB eV F h u.ee v/\iB eK F h u.blocks b/\iB eT F h u.ef s
 len:=λ⟨_,_,_,h,_⟩=>by subst h;rfl
 one:=λ⟨_,_,_,h,a,c,d⟩=>by subst h;simp only[uC,eR,a.one,c.one,d.one];rfl
 eC:=λe ⟨v,n,p,h,a,c,d⟩=>⟨v,n,p,h,a.eC e,c.eC e,d.eC e⟩
 mono:=λf ⟨v,n,p,h,a,c,d⟩=>⟨v,n,p,h,a.mono f,c.mono f,d.mono f⟩
theorem Rf(ops:List Int)(t:Dt):(fork ops t).blocks.length=t.blocks.length+3:=by simp[fork,end_]
theorem RU(ops:List Int)(t:Dt):(vm ops t).blocks.length=t.blocks.length+2:=by simp[vm,end_]
theorem Sh(ops:List Int)(t:Dt):(loop ops t).blocks.length=t.blocks.length+3:=by simp[loop,end_]
section
variable{F F' G G':Nat->Prop}{h h':Hp}{L:Lc}{ops:List Int}{t t':Dt}{R R':Rw}{Q:fu}
theorem Wo{a:List Int}{vo vs nv:V}{b:Nat}(y:ops.length<9223372036854775808)(q:Dq F G h L ops t R)(hn:Sm t.s 30)(hb:t.blocks.length=0)(A:h.get L.lr=some (.cells La 1 true false [vo,vs,nv]))(Y:iB (eI .i64) F h a vs)
  (ai:G b) (Z:b≠L.lE) (aa:∃c,h.get b=some (.cells 29 1 true false c)/\c.length=5)
  (H:∀F' h' R' d,(∀l,F l->F' l)->Kp F (gm G L.lE) h h'->Dq F' G h' L ops d R'->d=end_ {jW ops (a.take 6) t with s:=(fi ops (jW ops (a.take 6) t).s).2} 3 0 [] (fi ops (jW ops (a.take 6) t).s).1 []->
   fj (gU 5 (.ptr b 0) (.agg [.I 1,.I 2,R'.vv,R'.vb,R'.vs]) h') λ_ f=>oP (hH 5 (.ptr b 0) f) λr=>Q r f) :
  lM CS Q (.ptr L.lr 0) (.ptr b 0) (.ptr L.lu 0) (.ptr L.gK 0) (.ptr L.iK 0) (.ptr L.uQ 0) (.ptr L.mI 0) (.ptr L.Nd 0) (Et L) (CO L) (.I 0) h:=by
 refine xQ (λk M N O P S T g j m n o h'=>∃(F':Nat->Prop) (R':Rw) (i:Nat) (t':Dt),M = .ptr L.lr 0/\N = .ptr b 0/\O = .ptr L.lu 0/\P = .ptr L.gK 0/\S = .ptr L.iK 0/\T = .ptr L.uQ 0/\
  g = .ptr L.mI 0/\j = .ptr L.Nd 0/\m=Et L/\n=CO L/\o = .I i/\i+k=6/\(∀l,F l->F' l)/\Kp F (gm G L.lE) h h'/\Dq F' G h' L ops t' R'/\Sm t'.s (30+30*i)/\t'.blocks.length<=3*i/\
  jW ops ((a.take 6).drop i) t' = jW ops (a.take 6) t) ?_ (k:=6)
  ⟨F,R,0,t,rfl,rfl,rfl,rfl,rfl,rfl,rfl,rfl,rfl,rfl,rfl,rfl,λ_ h=>h,Kp.refl _ _ _,q,hn,by omega,by rw[OK]⟩
 rintro k M N O P S T g j m n o h' ⟨F1,R1,i,d,rfl,rfl,rfl,rfl,rfl,rfl,rfl,rfl,rfl,rfl,rfl,aj,hF,U,u,W,b1,B⟩;unfold qa;have C:h'.get L.lr=some (.cells La 1 true false [vo,vs,nv]):=by rw[U.eC _ (.inl q.fr)];exact A
 have E:er (.ptr L.lr 1) h' = some vs:=jd C rfl;have lv:=u.D.ov.len;have I:iB (eI .i64) F h' a vs:=Y.eC λl hl=>U.eC l (.inl hl);refine ec (by rfl) (ec E (ec I.len (ec (by rfl) ?_)));have e1:kH (.bool (decide (((i:Nat):Int)<(a.length:Nat)))) (oB (some (V.I i)) λab=>ej .lss 3 ab (V.I 6))=some (.bool (decide (((i:Nat):Int)<(a.length:Nat))&&decide (((i:Nat):Int)<6))):=by
  simp only[fg,mU,jR]
 refine ec e1 ?_
 have e2:kH (.bool (decide (((i:Nat):Int)<(a.length:Nat))&&decide (((i:Nat):Int)<6))) (oB (fP 2 (.ptr L.lu 0)) λac=>oB (er ac h') λae=>oB (fJ ae) λag=>ej .lss 3 ag (V.I 160)) =
   some (.bool ((decide (((i:Nat):Int)<(a.length:Nat))&&decide (((i:Nat):Int)<6))&&decide (((d.s.ee.length:Nat):Int)<160))):=by
  simp only[fM,fg,Dr,u.D.Ov,lv,mU,jR]
 refine ec e2 (jL ?_);by_cases hgo:i<a.length/\i<6/\d.s.ee.length<160;rotate_left
 ·
  refine gJ (by grind) ?_;have J:d=jW ops (a.take 6) t:=by
   rw[<-B];by_cases hi:i<(a.take 6).length
   ·rw[WK hi];unfold jW
    grind
   ·rw[List.drop_of_length_le (by omega)];rfl
  subst J;refine ec u.Dk ?_;refine GV u y W (by omega) λp f R2 K v w z=>?_;have eB:∀sn:Nat,fH [V.ed,(V.I 0),(V.I 0),V.ed,V.ed,(V.I 0)] [(0,1),(1,1),(2,1),(3,1),(4,1),(5,1)] [(1,(V.I 3)),(5,.I (sn:Nat))]=some (.agg (kJ ⟨[],3,0,[],[],sn⟩ .ed .ed .ed)):=λ_=>rfl;refine ec (eB _) ?_;refine Mk w (show(jW ops (a.take 6) t).blocks.length<_ by omega) ⟨[],3,0,[],[],_⟩ rfl rfl rfl .nil λF3 h3 R3 f3 k3 X=>?_;have lA:hH 5 (.ptr L.lu 0) h3=some (.agg [.I 1,.I 2,R3.vv,R3.vb,R3.vs]):=xK X.D.gu rfl;refine ec lA ?_;have kk:=(U.trans v hF).trans (k3.gm L.lE) (by simp_all);exact H F3 h3 R3 _ (by grind) kk X rfl
 obtain⟨g1,g2,g3⟩:=hgo;refine hV (by grind) ?_;obtain⟨l4,o4,u4,_,i1,i2,i3⟩:=I.OZ g1 .i64 rfl;obtain⟨rfl⟩:u4 = .I a[i]:=by simpa using i3.1
 refine ec (by rfl) (ec E (ec i1 (ec i2 ?_)));show cP CS hX [.I a[i],.I ((3:Nat):Int)] h' _;refine Jz (by decide) (by decide) ?_;have ah:i<(a.take 6).length:=by rw[JN];omega
 have x:jW ops ((a.take 6).drop (i+1)) (rF ops (jl a[i] 3) d)=jW ops (a.take 6) t:=by
  rw[<-B,WK ah]
  conv=>rhs;unfold jW
  rw[if_pos g3,List.getElem_take]
 have fin:∀(p:Nat->Prop) (f:Hp) (R2:Rw),(∀l,F1 l->p l)->Kp F1 (gm G L.lE) h' f->Dq p G f L ops (rF ops (jl a[i] 3) d) R2->Sm (rF ops (jl a[i] 3) d).s (30+30*i+30)->(rF ops (jl a[i] 3) d).blocks.length<=3*(i+1)->
   iS CS Q (λM N O P S T g j m n o hh=>∃k',k' < k/\∃(F':Nat->Prop) (R':Rw) (i:Nat) (t':Dt),M = .ptr L.lr 0/\N = .ptr b 0/\O = .ptr L.lu 0/\P = .ptr L.gK 0/\S = .ptr L.iK 0/\T = .ptr L.uQ 0/\
    g = .ptr L.mI 0/\j = .ptr L.Nd 0/\m=Et L/\n=CO L/\o = .I i/\i+k' = 6/\(∀l,F l->F' l)/\Kp F (gm G L.lE) h hh/\Dq F' G hh L ops t' R'/\Sm t'.s (30+30*i)/\t'.blocks.length<=3*i/\
    jW ops ((a.take 6).drop i) t' = jW ops (a.take 6) t) (.ptr L.lr 0) (.ptr b 0) (.ptr L.lu 0) (.ptr L.gK 0) (.ptr L.iK 0) (.ptr L.uQ 0) (.ptr L.mI 0) (.ptr L.Nd 0) (Et L) (CO L) (.I i) f:=by
  intro p f R2 K v w z b2;refine xy ?_;unfold pf;refine gv ?_;exact⟨k-1,by omega,p,R2,i+1,_,rfl,rfl,rfl,rfl,rfl,rfl,rfl,rfl,rfl,rfl,rfl,by omega,by simp_all,U.trans v hF,w,z,b2,x⟩
 by_cases c0:jl a[i] 3=0
 ·refine gP (hV (by omega) ?_);have e:rF ops (jl a[i] 3) d=fork ops d:=by unfold rF;rw[if_pos c0]
  rw[e]at fin;refine Sq u y W (by omega) (by omega) λp f R2 K v w z=>?_
  grind[Rf]
 refine gP (gJ (by omega) ?_);by_cases c1:jl a[i] 3=1
 ·refine gP (hV (by omega) ?_);have e:rF ops (jl a[i] 3) d=loop ops d:=by unfold rF;rw[if_neg c0,if_pos c1]
  rw[e]at fin;refine Si u y W (by omega) (by omega) λp f R2 s6 K v w z e6 _=>?_;subst e6;refine Sp y z (by omega) (by omega) w λF3 h3 R3 f3 k3 X n3=>?_;refine wZ ?_;unfold pK;refine Ru y n3 (by omega) (by omega) X λF4 h4 R4 f4 k4 q4 n4=>?_;exact fin F4 h4 R4 (by grind) ((v.trans k3 K).trans k4 (by simp_all)) q4 (n4.le (by omega)) (by grind[Sh])
 ·refine gP (gJ (by omega) ?_);have e:rF ops (jl a[i] 3) d=vm ops d:=by unfold rF;rw[if_neg c0,if_neg c1]
  rw[e]at fin;refine Rn u y W (by omega) (by omega) λp f R2 K v w z=>?_
  grind[RU]
end
