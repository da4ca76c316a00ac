/- Parts. -/
import Derived.Test.YtcoaokdoecgcbaaGreatDoorM21
set_option maxHeartbeats 4000000
namespace Go.Proofs.YtcoaokdoecgcbaaGreatDoor.Hx
open Un
section
variable{F F' G G':Nat->Prop}{h h':Hp}{L:Lc}{ops:List Int}{t t':Dt}{R R':Rw}{Q:fo}
theorem Sm.app{s:Ds}{n:Nat}(a:Sm s n)(ys:List Nat):Sm {s with known:=s.known++ys} (n+ys.length):=
 ⟨by have:=a.v;grind,by have:=a.c;grind,by have:=a.k;simp_all,by have:=a.st;grind,by have:=a.k0;grind⟩
theorem Np:∀ys,gz (nD ys)=true
 |[]=>rfl
 |y::ys=>by show gz (V.I y::nD ys)=true;rw[fe,Np ys];rfl
theorem zaG(q:Dq F G h L ops t R){n:Nat}(f:Sm t.s n)(g:n<1000)(ys:List Nat)(i:0<ys.length)(j:ys.length<=5){c:Option (O×(Nat->V))}(m:c=some (O.cells 3 1 true false (nD ys),λl=> .slice l 0 ys.length)){K:Hp->Prop}
  (H:∀h' R',Kp F G h h'->Dq F G h' L ops {t with s:={t.s with known:=t.s.known++ys} } R'->K h') :
  oP (eC (.ptr L.ie 0) h) λa=>hZ c h λv o=>fg (eQ 3 1 8 a v o) λw p=>fg (gL 1 (.ptr L.ie 0) w p) λ_ d=>K d:=by
 subst m;refine ec q.D.Ae ?_;rw[fI];have r:=q.D.grow (lU.new h (.cells 3 1 true false (nD ys)));have hl:(nD ys).length=ys.length:=by simp[nD]
 let⟨new,e1,e2⟩:=DV (n:=ys.length) (off:=0) (eJ h (.cells 3 1 true false (nD ys))) (by omega)
 have u:new=nD ys:=by rw[e2,wBL,Uj (by omega)]
 subst u;have B:=f.k;have x:=Np ys
 let⟨v',d,C,y,E,z,I,A,D4⟩:=r.zdd e1 (zY _ _ ys) (by omega) x i (by omega)
 have b:=y;rw[b,eh,z];have e:=(q.D.yA (.cells 3 1 true false (nD ys))).trans A λ_ h=>h;exact H _ _ e (q.step e D4 (by grind) q.gl q.hq rfl)
theorem OC(q:Dq F G h L ops t R){n:Nat}(c:Sm t.s n)(b:n<999)(x:Vl){w:V}{a:V}(d:iH eN F h x.args a)(e:w = .agg (yH x a)){K:fo}
  (H:∀h' R',Kp F G h h'->R'.vk=R.vk->Dq F G h' L ops {t with s:=put t.s x} R'->K (.I t.s.ee.length) h'):gO CS (fX (zd3 L) [w]) h K:=by
 subst e;show cP CS fx [.agg (yH x a),.ptr L.lu 0,.ptr L.jq 0] h K;exact Kt q c b ⟨a,rfl,d⟩ H
def PJ(ops:List Int)(t:Dt):Dt:=end_ {t with s:=(fJ ops t.s).2} 1 0 [t.blocks.length+1] 0 [t.blocks.length,t.blocks.length+2]
def UQ(ops:List Int)(t:Dt):Ds:=put (PJ ops t).s (vl 21 0 0 0 [(fJ ops t.s).1,0] 0)
def B5(ops:List Int)(t:Dt):Nat:=(fJ ops (UQ ops t)).1
def U3(ops:List Int)(t:Dt):Ds:=put (fJ ops (UQ ops t)).2 (vl 21 0 0 0 [B5 ops t,t.s.ee.length] 0)
def Ru(ops:List Int)(t:Dt):Ds:={U3 ops t with known:=(U3 ops t).known++[t.s.ee.length,t.s.ee.length+1]}
def Rc(ops:List Int)(t:Dt):Ds:=put (fG ops (Ru ops t)).2 (vl 23 0 0 0 [] (fG ops (Ru ops t)).1)
def sO(ops:List Int)(t:Dt):Ds:=hO (put (Rc ops t) (vl 2 0 0 1 [] 0)) (vl 4 t.s.ee.length (t.s.ee.length+3) 0 [] 0)
def mF(ops:List Int)(t:Dt):Dt:=end_ {PJ ops t with s:=sO ops t} 2 t.s.ee.length [t.blocks.length+2,t.blocks.length+3] 0 [t.blocks.length+1]
def oE(ops:List Int)(t:Dt):Ds:=setArgs (row ops (mF ops t).s) t.s.ee.length [(fJ ops t.s).1,t.s.ee.length+4]
def kX(ops:List Int)(t:Dt):Ds:=if(num ops (oE ops t) 3).1=0 then setArgs (num ops (oE ops t) 3).2 t.s.ee.length [(fJ ops t.s).1,(row ops (mF ops t).s).known.getLastD 0] else(num ops (oE ops t) 3).2
def Jz(ops:List Int)(t:Dt):Ds:=setArgs (kX ops t) (t.s.ee.length+1) [B5 ops t,(row ops (mF ops t).s).known.getLastD 0]
def TS(ops:List Int)(t:Dt):Dt:=end_ {mF ops t with s:=cut (sO ops t).known.length (Jz ops t)} 1 0 [t.blocks.length+1] 0 [t.blocks.length+1]
theorem LS(ops:List Int)(t:Dt):∃x,(Rc ops t).ee=t.s.ee++[vl 21 0 0 0 [(fJ ops t.s).1,0] 0,vl 21 0 0 0 [B5 ops t,t.s.ee.length] 0,x]:=by
 refine⟨vl 23 0 0 0 [] (fG ops (Ru ops t)).1,?_⟩;unfold Rc;rw[put,(zH ops (Ru ops t)).1];show(U3 ops t).ee++[_]=_;show((UQ ops t).ee++[_])++[_]=_;show(((PJ ops t).s.ee++[_])++[_])++[_]=_;simp[KB,List.singleton_append];rfl
theorem VJ(ops:List Int)(t:Dt):loop ops t = {TS ops t with s:=row ops (TS ops t).s}:=by
 let⟨x,hx⟩:=LS ops t
 have e:(Rc ops t).ee.length=t.s.ee.length+3:=by rw[hx];simp
 unfold TS Jz kX oE mF sO;rw[show t.s.ee.length+4=(t.s.ee.length+3)+1 from rfl,<-e];rfl
theorem zbU(q:Dq F G h L ops t R)(ho:ops.length<9223372036854775808){n:Nat}(hn:Sm t.s n)(cf:n<800)(hb:t.blocks.length<900){K:OF}
  (H:∀F' h' R' e,(∀l,F l->F' l)->Kp F (gm G L.nW) h h'->Dq F' G h' L ops (end_ {PJ ops t with s:=e} 2 t.s.ee.length [t.blocks.length+2,t.blocks.length+3] 0 []) R'->Sm e (n+10)->
   e=sO ops t->
   e.ee.length=t.s.ee.length+5->
   K (.I ((fJ ops t.s).1:Nat)) (.I (t.blocks.length+1:Nat)) (.I t.s.ee.length) (.I ((t.s.ee.length+1:Nat):Int)) (.I ((t.s.ee.length+4:Nat):Int)) (.I ((t.blocks.length+1:Nat):Int)) h') :
  oP (eC (.ptr L.ie 0) h) λB=>
  oP (eC (.ptr L.pT 0) h) λac=>
  oP (eC (.ptr L.ie 0) h) λae=>
  oP (fD ae) λag=>
  gO CS (fX ac [ag]) h λah f=>
  (h.next<=f.next/\
  oP (gP 1 B ah) λai=>
  oP (eC ai f) λC=>
  ((eC (.ptr L.ie 0) f=some B)/\
  oP (fK 3 (.ptr L.lu 0)) λaj=>
  oP (eC aj f) λak=>
  oP (fD ak) λal=>
  oP (ef .add 3 al (V.I 1)) λam=>
  hZ (iK 3 1 1 (V.I 0) [(0,am)]) f λan bj=>
  oP (fm [V.ed,(V.I 0),(V.I 0),V.ed,V.ed,(V.I 0)] [(0,1),(1,1),(2,1),(3,1),(4,1),(5,1)] [(1,(V.I 1)),(3,an)]) λao=>
  gO CS (fX (Js L) [ao]) bj λE bm=>
  oP (ef .add 3 E (V.I 1)) λb=>
  oP (ef .add 3 b (V.I 1)) λaq=>
  hZ (iK 3 1 2 (V.I 0) [(0,E),(1,aq)]) bm λar bn=>
  oP (fK 4 (.ptr L.jq 0)) λau=>
  fg (gL 1 au ar bn) λca aw=>
  oP (eC (.ptr L.zt 0) aw) λax=>
  hZ (iK 3 1 2 (V.I 0) [(0,C),(1,(V.I 0))]) aw λay bo=>
  oP (fm [(V.I 0),(V.I 0),(V.I 0),(V.I 0),V.ed,(V.I 0)] [(0,1),(1,1),(2,1),(3,1),(4,1),(5,1)] [(0,(V.I 21)),(4,ay)]) λaz=>
  gO CS (fX ax [az]) bo λa c=>
  oP (eC (.ptr L.zt 0) c) λI=>
  oP (eC (.ptr L.ie 0) c) λJ=>
  oP (eC (.ptr L.pT 0) c) λaA=>
  oP (eC (.ptr L.ie 0) c) λaB=>
  oP (fD aB) λaC=>
  gO CS (fX aA [aC]) c λaD k=>
  (c.next<=k.next/\
  oP (gP 1 J aD) λM=>
  oP (eC M k) λN=>
  vj (iK 3 1 2 (V.I 0) [(0,N),(1,a)]) k λo9 aE d=>
  oP (fm [(V.I 0),(V.I 0),(V.I 0),(V.I 0),V.ed,(V.I 0)] [(0,1),(1,1),(2,1),(3,1),(4,1),(5,1)] [(0,(V.I 21)),(4,aE)]) λaF=>
  ((d.get (k.next)=some o9/\O.beq o9 o9=true)/\
  ((eC M d=some N)/\
  ((eC (.ptr L.ie 0) d=some J)/\
  ((eC (.ptr L.zt 0) d=some I)/\
  gO CS (fX I [aF]) d λP U=>
  (d.next<=U.next/\
  oP (eC (.ptr L.ie 0) U) λaG=>
  hZ (iK 3 1 2 (V.I 0) [(0,a),(1,P)]) U λaH bp=>
  fg (eQ 3 1 8 aG aH bp) λaI br=>
  fg (gL 1 (.ptr L.ie 0) aI br) λcb r=>
  oP (eC (.ptr L.zt 0) r) λQ=>
  oP (eC (.ptr L.VN 0) r) λaJ=>
  gO CS (fX aJ []) r λaK u=>
  (r.next<=u.next/\
  oP (fm [(V.I 0),(V.I 0),(V.I 0),(V.I 0),V.ed,(V.I 0)] [(0,1),(1,1),(2,1),(3,1),(4,1),(5,1)] [(0,(V.I 23)),(5,aK)]) λaL=>
  ((eC (.ptr L.zt 0) u=some Q)/\
  gO CS (fX Q [aL]) u λcd W=>
  (u.next<=W.next/\
  oP (eC (.ptr L.zt 0) W) λaM=>
  oP (fm [(V.I 0),(V.I 0),(V.I 0),(V.I 0),V.ed,(V.I 0)] [(0,1),(1,1),(2,1),(3,1),(4,1),(5,1)] [(0,(V.I 2)),(3,(V.I 1))]) λaN=>
  gO CS (fX aM [aN]) W λaO aP=>
  oP (eC (.ptr L.zt 0) aP) λaQ=>
  oP (fm [(V.I 0),(V.I 0),(V.I 0),(V.I 0),V.ed,(V.I 0)] [(0,1),(1,1),(2,1),(3,1),(4,1),(5,1)] [(0,(V.I 4)),(1,a),(2,aO)]) λaR=>
  gO CS (fX aQ [aR]) aP λS aS=>
  oP (eC (.ptr L.ie 0) aS) λaT=>
  hZ (iK 3 1 1 (V.I 0) [(0,S)]) aS λaU bt=>
  fg (eQ 3 1 8 aT aU bt) λaV bu=>
  fg (gL 1 (.ptr L.ie 0) aV bu) λce bv=>
  oP (ef .add 3 b (V.I 1)) λaW=>
  oP (ef .add 3 b (V.I 2)) λaX=>
  hZ (iK 3 1 2 (V.I 0) [(0,aW),(1,aX)]) bv λaY bw=>
  oP (fm [V.ed,(V.I 0),(V.I 0),V.ed,V.ed,(V.I 0)] [(0,1),(1,1),(2,1),(3,1),(4,1),(5,1)] [(1,(V.I 2)),(2,a),(3,aY)]) λaZ=>
  gO CS (fX (Js L) [aZ]) bw λa0 bx=>K C b a P S a0 bx)))))))))))
   :=by
 refine U7 q ho hn (by omega) λh2 k2 q2=>?_;refine ec (by rfl) (ec q2.D.ldB (ec q2.D.ob.len (ju (m:=1) (show t.blocks.length<_ by omega) (by omega) ?_)));have n2:Sm (fJ ops t.s).2 n:=hn.one;refine Dd q2 (show t.blocks.length<_ by omega) 1 0 [t.blocks.length+1] 0 rfl (λ_=>rfl) λF4 h4 R4 f4 k4 q4=>?_;refine ju (n:=t.blocks.length) (m:=1) (by omega) (by omega) ?_;refine gf ?_;refine xP q4 [t.blocks.length,t.blocks.length+2] rfl λF6 h6 R6 f6 k6 q6=>?_;have q6:=XT (t':=end_ {t with s:=(fJ ops t.s).2} 1 0 [t.blocks.length+1] 0 [t.blocks.length,t.blocks.length+2]) q6 rfl;have n6:Sm (end_ {t with s:=(fJ ops t.s).2} 1 0 [t.blocks.length+1] 0 [t.blocks.length,t.blocks.length+2]).s n:=n2.end_ _ _ _ _ _;have bz:(end_ {t with s:=(fJ ops t.s).2} 1 0 [t.blocks.length+1] 0 [t.blocks.length,t.blocks.length+2]).blocks.length=t.blocks.length+1:=by simp[end_]
 have a1:(end_ {t with s:=(fJ ops t.s).2} 1 0 [t.blocks.length+1] 0 [t.blocks.length,t.blocks.length+2]).s.ee.length=t.s.ee.length:=rfl;have kA:=kgm k2 (k4.trans k6 f4) λ_ h=>h;have fA:∀l,F l->F6 l:=by simp_all
 generalize bA:end_ {t with s:=(fJ ops t.s).2} 1 0 [t.blocks.length+1] 0 [t.blocks.length,t.blocks.length+2]=t1 at*;generalize bC:(fJ ops t.s).1=fr at*;refine ec q6.px ?_;have e3:∀x y,iK 3 1 2 (V.I 0) [(0,V.I (x:Nat)),(1,V.I (y:Nat))]=some (.cells 3 1 true false (nD [x,y]),λl=> .slice l 0 2):=λ_ _=>rfl;have bD:iK 3 1 2 (V.I 0) [(0,V.I fr),(1,V.I 0)]=some (.cells 3 1 true false (nD [fr,0]),λl=> .slice l 0 2):=e3 fr 0;rw[bD,fI]
 let⟨q7,s7,k7⟩:=GK q6 [fr,0]
 refine ec (by rfl) ?_;refine OC q7 n6 (by omega) (vl 21 0 0 0 [fr,0] 0) s7 rfl λh8 R8 k8 _ q8=>?_;have n8:=n6.put (vl 21 0 0 0 [fr,0] 0);have bE:(put t1.s (vl 21 0 0 0 [fr,0] 0)).ee.length=t.s.ee.length+1:=by simp[put,a1]
 rw[a1];generalize bG:put t1.s (vl 21 0 0 0 [fr,0] 0)=s1 at*;have kB:=kA.trans ((k7.gm L.nW).trans (k8.gm L.nW) (pP _ _)) fA;have fB:∀l,F l->fz F6 h6.next l:=by grind[pP]
 refine ec q8.px (ec q8.D.Ae (ec q8.uj (ec q8.D.Ae (ec q8.D.ok.len ?_))));show cP CS fq [.I s1.known.length,.ptr L.nW 0,.ptr L.lr 0] h8 _;refine Nz q8 ho n8 (by omega) λh9 l9 o9 k9 q9 bH i1 i2=>⟨k9.next,ec i1 (ec i2 ?_)⟩
 have i2:=i2;have q9:=q9;have n9:=n8.one (ops:=ops);have a2:(fJ ops s1).2.ee.length=t.s.ee.length+1:=bE;show vj (iK 3 1 2 (V.I 0) [(0,V.I ((fJ ops s1).1:Nat)),(1,V.I t.s.ee.length)]) h9 _;generalize bI:(fJ ops s1).2=sg at*;generalize bJ:(fJ ops s1).1=g at*;rw[e3,hH]
 let⟨X,bK,bL⟩:=GK q9 [g,t.s.ee.length]
 have cg:(h9.new (.cells 3 1 true false (nD [g,t.s.ee.length]))).get h9.next=_:=eJ _ _;refine ec (by rfl) ⟨by grind[O.jA],iJ i2 (eE _ bH),X.D.Ae,X.px,?_⟩;refine OC X n9 (by omega) (vl 21 0 0 0 [g,t.s.ee.length] 0) bK rfl λci R11 a3 _ Y=>⟨a3.next,?_⟩
 have a4:=n9.put (vl 21 0 0 0 [g,t.s.ee.length] 0);have a5:(put sg (vl 21 0 0 0 [g,t.s.ee.length] 0)).ee.length=t.s.ee.length+2:=by simp[put,a2]
 have bQ:=a2;rw[bQ];generalize bR:put sg (vl 21 0 0 0 [g,t.s.ee.length] 0)=s2 at*;have Y:=Y;have kC:=kB.trans (k9.trans ((bL.gm L.nW).trans (a3.gm L.nW) (pP _ _)) λ_ h=>h) fB;have fC:∀l,F l->fz (fz F6 h6.next) h9.next l:=by grind[pP]
 refine zaG Y a4 (by omega) [t.s.ee.length,t.s.ee.length+1] (by simp) (by simp) (e3 _ _) λcj R12 bS i=>?_;have Z:=a4.app [t.s.ee.length,t.s.ee.length+1];have a6:({s2 with known:=s2.known++[t.s.ee.length,t.s.ee.length+1]}:Ds).ee.length=t.s.ee.length+2:=a5;have i:=i;generalize bU:({s2 with known:=s2.known++[t.s.ee.length,t.s.ee.length+1]}:Ds)=s3 at*;have Z:Sm s3 (n+4):=Z;refine ec i.px (ec i.Ke ?_);refine N3 i ho Z (by omega) λbV cm R13 cn a7 v w=>⟨a7.next,?_⟩
 have bW:=zH ops s3;have a8:(fG ops s3).2.ee.length=t.s.ee.length+2:=by rw[bW.1];exact a6
 have v:=v;have w:=w;show oP (fm _ _ [(0,V.I 23),(5,.I ((fG ops s3).1:Nat))]) _;generalize bX:(fG ops s3).2=s4 at*;generalize bY:(fG ops s3).1=sn at*;have eS:fm [(V.I 0),(V.I 0),(V.I 0),(V.I 0),V.ed,(V.I 0)] [(0,1),(1,1),(2,1),(3,1),(4,1),(5,1)] [(0,(V.I 23)),(5,.I sn)]=some (.agg (yH (vl 23 0 0 0 [] sn) .ed)):=rfl;refine ec eS ⟨v.px,?_⟩;refine OC v w (by omega) (vl 23 0 0 0 [] sn) .nil rfl λco R14 a9 _ z=>⟨a9.next,?_⟩
 have ba:=w.put (vl 23 0 0 0 [] sn);have T:(put s4 (vl 23 0 0 0 [] sn)).ee.length=t.s.ee.length+3:=by simp[put,a8]
 have z:=z;generalize bb:put s4 (vl 23 0 0 0 [] sn)=s5 at*;refine ec z.px ?_;have eO:fm [(V.I 0),(V.I 0),(V.I 0),(V.I 0),V.ed,(V.I 0)] [(0,1),(1,1),(2,1),(3,1),(4,1),(5,1)] [(0,(V.I 2)),(3,(V.I 1))]=some (.agg (yH (vl 2 0 0 1 [] 0) .ed)):=rfl;refine ec eO ?_;refine OC z ba (by omega) (vl 2 0 0 1 [] 0) .nil rfl λcp R15 bZ _ A=>?_;have bc:=ba.put (vl 2 0 0 1 [] 0);have j:(put s5 (vl 2 0 0 1 [] 0)).ee.length=t.s.ee.length+4:=by simp[put,T]
 have b1:=T;rw[b1];have A:=A;generalize bd:put s5 (vl 2 0 0 1 [] 0)=e at*;refine ec A.px ?_;have eUn:∀p o,fm [(V.I 0),(V.I 0),(V.I 0),(V.I 0),V.ed,(V.I 0)] [(0,1),(1,1),(2,1),(3,1),(4,1),(5,1)] [(0,(V.I 4)),(1,.I (p:Nat)),(2,.I (o:Nat))]=some (.agg (yH (vl 4 p o 0 [] 0) .ed)):=λ_ _=>rfl;refine ec (eUn _ _) ?_;refine OC A bc (by omega) (vl 4 t.s.ee.length (t.s.ee.length+3) 0 [] 0) .nil rfl λcq cr Hi _ b2=>?_;have be:=bc.put (vl 4 t.s.ee.length (t.s.ee.length+3) 0 [] 0);have b3:=j;rw[b3];refine zaG b2 be (by omega) [t.s.ee.length+4] (by simp) (by simp) rfl λb4 R17 b5 aa=>?_;have ab:=be.app [t.s.ee.length+4];have bf:({ ({t1 with s:=put e (vl 4 t.s.ee.length (t.s.ee.length+3) 0 [] 0)}:Dt).s with known:=({t1 with s:=put e (vl 4 t.s.ee.length (t.s.ee.length+3) 0 [] 0)}:Dt).s.known++[t.s.ee.length+4]}:Ds)=hO e (vl 4 t.s.ee.length (t.s.ee.length+3) 0 [] 0):=by
  unfold hO put;simp[j]
 have aa:Dq bV G b4 L ops {t1 with s:=hO e (vl 4 t.s.ee.length (t.s.ee.length+3) 0 [] 0)} R17:=by rw[<-bf];exact aa
 have ab:Sm (hO e (vl 4 t.s.ee.length (t.s.ee.length+3) 0 [] 0)) (n+10):=by rw[<-bf];exact ab.le (by grind)
 have bg:(hO e (vl 4 t.s.ee.length (t.s.ee.length+3) 0 [] 0)).ee.length=t.s.ee.length+5:=by simp[hO,j]
 refine gf ?_;refine ju (m:=2) (by omega) (by omega) ?_;refine Dd aa (show t1.blocks.length<_ by omega) 2 t.s.ee.length [t.blocks.length+2,t.blocks.length+3] 0 rfl (λ_=>rfl) λb6 b7 R18 ct b8 b9=>?_;have bi:=bz;rw[bi];have kD:=((kC.trans ((bS.gm L.nW).trans a7 λ_ h=>h) fC).trans ((((a9.gm L.nW).trans (bZ.gm L.nW) λ_ h=>h).trans (Hi.gm L.nW) λ_ h=>h).trans (b5.gm L.nW) λ_ h=>h) (by grind)).trans (b8.gm L.nW) (by grind);subst bA bC bG bI bJ bR bU bX bY bb bd;exact H b6 b7 R18 _ (by grind) kD b9 ab rfl bg
end
open Un
theorem LU(ops:List Int)(t:Dt):(sO ops t).ee[t.s.ee.length+1]? =some (vl 21 0 0 0 [B5 ops t,t.s.ee.length] 0)/\(sO ops t).ee.length=t.s.ee.length+5:=by
 let⟨x,hx⟩:=LS ops t
 grind[sO,hO,put]
theorem R0(ops:List Int)(t:Dt):(kX ops t).ee[t.s.ee.length+1]? =some (vl 21 0 0 0 [B5 ops t,t.s.ee.length] 0)/\t.s.ee.length+5<=(kX ops t).ee.length/\(kX ops t).known=(row ops (mF ops t).s).known:=by
 let⟨d,g⟩:=LU ops t
 let⟨_,l,hl⟩:=GP ops (mF ops t).s
 have e0:(mF ops t).s.ee=(sO ops t).ee:=rfl;have e:(row ops (mF ops t).s).ee[t.s.ee.length+1]? =some (vl 21 0 0 0 [B5 ops t,t.s.ee.length] 0):=by
  rw[hl,e0,wAv (by omega)];exact d
 have f:t.s.ee.length+5<=(row ops (mF ops t).s).ee.length:=by rw[hl,e0,oQ];omega
 have a:∀s l,s.ee[t.s.ee.length+1]? =some (vl 21 0 0 0 [B5 ops t,t.s.ee.length] 0)->(setArgs s t.s.ee.length l).ee[t.s.ee.length+1]? =some (vl 21 0 0 0 [B5 ops t,t.s.ee.length] 0):=by
  intro s l hs;show(s.ee.modify t.s.ee.length _)[t.s.ee.length+1]? =_;rw[List.getElem?_modify,hs];show some (if _ then _ else _)=_;rw[if_neg (by omega)]
 have b:=a _ [(fJ ops t.s).1,t.s.ee.length+4] e;have h:t.s.ee.length+5<=(oE ops t).ee.length:=by unfold oE;rw[(DP _ _ _).1];exact f
 have c:(num ops (oE ops t) 3).2.ee=(oE ops t).ee:=rfl;unfold kX;split
 ·exact⟨a _ _ (by rw[c];exact b),by grind[DP],rfl⟩
 ·exact⟨by rw[c];exact b,by simp_all,rfl⟩
section
variable{F F' G G':Nat->Prop}{h h':Hp}{L:Lc}{ops:List Int}{t t':Dt}{R R':Rw}{Q:fo}
theorem nx2(x y:Nat):iK 3 1 2 (V.I 0) [(0,V.I x),(1,V.I y)]=some (.cells 3 1 true false (nD [x,y]),λl=> .slice l 0 2):=rfl
theorem zbS(ho:ops.length<9223372036854775808){n:Nat}(Z:Sm (kX ops t) n)(aj:n<880)(hb:t.blocks.length<900)(q:Dq F G h L ops {mF ops t with s:=kX ops t} R){K:Hp->Prop}
  (H:∀F' h' R',(∀l,F l->F' l)->Kp F (gm G L.nW) h h'->Dq F' G h' L ops (loop ops t) R'->Sm (loop ops t).s (n+6)->K h') :
  oP (fK 2 (.ptr L.lu 0)) λb=>
  oP (eC b h) λc=>
  oP (fK 2 (.ptr L.lu 0)) λd=>
  oP (eC d h) λe=>
  oP (gP 6 e (.I ((t.s.ee.length+1:Nat):Int))) λx=>
  oP (fK 4 x) λf=>
  oP (eC f h) λg=>
  oP (gP 1 g (V.I 0)) λj=>
  oP (eC j h) λm=>
  oP (eC (.ptr L.ie 0) h) λo=>
  oP (eC (.ptr L.ie 0) h) λp=>
  oP (fD p) λy=>
  oP (ef .sub 3 y (V.I 1)) λz=>
  oP (gP 1 o z) λr=>
  oP (eC r h) λu=>
  vj (iK 3 1 2 (V.I 0) [(0,m),(1,u)]) h λv A a=>
  oP (gP 6 c (.I ((t.s.ee.length+1:Nat):Int))) λB=>
  oP (fK 4 B) λC=>
  ((a.get (h.next)=some v/\O.beq v v=true)/\
  ((eC r a=some u)/\
  ((eC (.ptr L.ie 0) a=some p)/\
  ((eC (.ptr L.ie 0) a=some o)/\
  ((eC j a=some m)/\
  ((eC f a=some g)/\
  ((eC d a=some e)/\
  ((eC b a=some c)/\
  fg (gL 1 C A a) λvu X=>
  (a.next<=X.next/\
  oP (eC (.ptr L.ie 0) X) λE=>
  oP (iL 1 E none (some (.I ((sO ops t).known.length:Nat))) X) λI=>
  fg (gL 1 (.ptr L.ie 0) I X) λae h3=>
  hZ (iK 3 1 1 (V.I 0) [(0,(.I ((t.blocks.length+1:Nat):Int)))]) h3 λJ h4=>
  oP (fm [V.ed,(V.I 0),(V.I 0),V.ed,V.ed,(V.I 0)] [(0,1),(1,1),(2,1),(3,1),(4,1),(5,1)] [(1,(V.I 1)),(3,J)]) λM=>
  gO CS (fX (Js L) [M]) h4 λag h5=>
  hZ (iK 3 1 1 (V.I 0) [(0,(.I ((t.blocks.length+1:Nat):Int)))]) h5 λN h6=>
  oP (fK 4 (.ptr L.jq 0)) λP=>
  fg (gL 1 P N h6) λah h7=>
  gO CS (fX (Lq L) []) h7 λai h8=>K h8))))))))):=by
 let⟨y1,y2,y3⟩:=R0 ops t
 have aa:=(GP ops (mF ops t).s).kl;have Q:(sO ops t).known.length<=(kX ops t).known.length:=by rw[y3];exact aa
 have hk:=Z.k;have S:=Z.k0;have ab:0<(sO ops t).known.length:=by
  show 0<(_++[_]).length;simp
 have T:t.s.ee.length+1<({mF ops t with s:=kX ops t}:Dt).s.ee.length:=by show _<(kX ops t).ee.length;omega
 have eg:(kX ops t).ee[t.s.ee.length+1]'(by omega)=vl 21 0 0 0 [B5 ops t,t.s.ee.length] 0:=by
  rw[iz (by omega)]at y1;exact Option.some.inj y1
 have ak:({mF ops t with s:=kX ops t}:Dt).blocks.length=t.blocks.length+2:=by simp[mF,PJ,end_]
 refine ec (by rfl) (ec q.D.XP (ec (by rfl) (ec q.D.XP ?_)))
 let⟨l1,o1,w1,hl1,Y,i2,i3,i4⟩:=q.D.ov.read.ix T .i64
 let⟨wa,hwa,sa⟩:=i3
 rw[eg]at hwa sa;have ia:=i4 4 wa (by rw[hwa];rfl);have Y:gP 6 R.vv (.I ((t.s.ee.length+1:Nat):Int))=some (.ptr l1 o1):=Y;refine ec Y (ec (by rfl) (ec ia ?_));have U:=hl1.elim (q.D.fl l1) λh=>(q.D.ov.xN h).2.1
 let⟨l2,o2,u2,hl2,j1,j2,j3⟩:=sa.XZ (i:=0) (by simp[vl]) .i64 rfl
 have W:=hl2.elim (q.D.fl l2) λh=>(q.D.ov.xN h).2.1;obtain⟨rfl⟩:u2 = .I (B5 ops t:Nat):=by
  have:[u2]=[V.I (B5 ops t:Nat)]:=j3
  simp_all
 refine ec j1 (ec j2 ?_)
 let⟨l3,o3,hl3,_,m1,m2⟩:=q.GQ (i:=(kX ops t).known.length-1) (by grind)
 have m3:eC (.ptr l3 o3) h=some (.I ((kX ops t).known.getLastD 0:Nat)):=by rw[m2];show some (V.I (((kX ops t).known.getD _ 0:Nat):Int))=_;rw[BE _ S]
 refine ec q.D.Ae (ec q.D.Ae (ec q.D.ok.len (zr (by grind) S (ec m1 (ec m3 ?_)))));rw[nx2,hH]
 let⟨w,s1,k1⟩:=GK q [B5 ops t,(kX ops t).known.getLastD 0]
 have g1:(h.new (.cells 3 1 true false (nD [B5 ops t,(kX ops t).known.getLastD 0]))).get h.next=_:=eJ _ _;refine ec Y (ec (by rfl) ?_);refine⟨by simp_all,iJ m3 (eE _ hl3),w.D.Ae,w.D.Ae,iJ j2 (eE _ W),iJ ia (eE _ U),w.D.XP,w.D.XP,?_⟩
 let⟨l4,h4,a1,a2,a3,a4,D4⟩:=w.D.zdi T s1
 have e4:V.ptr l1 (o1+4)=V.ptr l4 ((t.s.ee.length+1)*6+4):=by
  have:(V.ptr l1 o1)=V.ptr l4 ((t.s.ee.length+1)*6):=by simp_all
  cases this;rfl
 rw [e4];simp only[Jo,wBw]at a2;rw[a2,eh];refine⟨a3,?_⟩;have q4:=XT (t':={mF ops t with s:=Jz ops t}) (w.step a4 D4 (by simp_all) q.gl w.hq rfl) (by
  grind[Jz])
 have ac:Sm (Jz ops t) n:=Z.setArgs _ _;refine QD q4 Q λh5 R5 k5 q5=>?_;have n5:=ac.cut ab Q;refine Dd q5 (show({mF ops t with s:=kX ops t}:Dt).blocks.length<_ by omega) 1 0 [t.blocks.length+1] 0 rfl (λ_=>rfl) λF6 h6 R6 f6 k6 q6=>?_;refine xP q6 [t.blocks.length+1] rfl λF7 h7 R7 f7 k7 q7=>?_;have q7:=XT (t':=TS ops t) q7 rfl;have n7:Sm (TS ops t).s n:=n5.end_ _ _ _ _ _;refine FT q7 ho n7 (by omega) λF8 h8 R8 f8 k8 q8 n8=>?_;have ff:∀l,F l->F7 l:=by grind[pP]
 refine H F8 h8 R8 (by simp_all) ?_ (by grind[XT,VJ]) (by grind[VJ]);have kk:=(((k1.gm L.nW).trans (a4.gm L.nW) (pP _ _)).trans ((k5.gm L.nW).trans (k6.gm L.nW) λ_ h=>h) (pP _ _)).trans (k7.gm L.nW) (by grind[pP]);exact kk.trans k8 ff
theorem za6(ho:ops.length<9223372036854775808){n:Nat}(hn:Sm (sO ops t) n)(al:n<860)(hb:t.blocks.length<900)
  (q:Dq F G h L ops (end_ {PJ ops t with s:=sO ops t} 2 t.s.ee.length [t.blocks.length+2,t.blocks.length+3] 0 []) R) {K:fo}
  (H:∀F' h' R',(∀l,F l->F' l)->Kp F (gm G L.nW) h h'->Dq F' G h' L ops {mF ops t with s:=kX ops t} R'->Sm (kX ops t) (n+6)->K (.I ((sO ops t).known.length:Nat)) h') :
  oP (eC (.ptr L.ie 0) h) λw=>
  oP (fD w) λd=>
  hZ (iK 3 1 1 (V.I 0) [(0,(.I ((t.blocks.length+1:Nat):Int)))]) h λx aa=>
  oP (fK 4 (.ptr L.jq 0)) λy=>
  fg (gL 1 y x aa) λaj ab=>
  gO CS (fX (Lq L) []) ab λak z=>
  oP (fK 2 (.ptr L.lu 0)) λA=>
  oP (eC A z) λB=>
  hZ (iK 3 1 2 (V.I 0) [(0,(.I ((fJ ops t.s).1:Nat))),(1,(.I ((t.s.ee.length+4:Nat):Int)))]) z λC ac=>
  oP (gP 6 B (.I t.s.ee.length)) λE=>
  oP (fK 4 E) λI=>
  fg (gL 1 I C ac) λae J=>
  oP (eC (.ptr L.pT 0) J) λM=>
  gO CS (fX M [(V.I 3)]) J λN a=>
  oP (ef .eql 3 N (V.I 0)) λP=>
  bP P (
  oP (fK 2 (.ptr L.lu 0)) λe=>
  oP (eC e a) λf=>
  oP (eC (.ptr L.ie 0) a) λg=>
  oP (eC (.ptr L.ie 0) a) λj=>
  oP (fD j) λQ=>
  oP (ef .sub 3 Q (V.I 1)) λS=>
  oP (gP 1 g S) λm=>
  oP (eC m a) λo=>
  vj (iK 3 1 2 (V.I 0) [(0,(.I ((fJ ops t.s).1:Nat))),(1,o)]) a λu T b=>
  oP (gP 6 f (.I t.s.ee.length)) λU=>
  oP (fK 4 U) λW=>
  ((b.get (a.next)=some u/\O.beq u u=true)/\
  ((eC m b=some o)/\
  ((eC (.ptr L.ie 0) b=some j)/\
  ((eC (.ptr L.ie 0) b=some g)/\
  ((eC e b=some f)/\
  fg (gL 1 W T b) λag X=>
  (b.next<=X.next/\K d X)))))))
  (K d a):=by
 let⟨_,z2⟩:=LU ops t
 refine ec q.D.Ae (ec q.D.ok.len ?_);refine xP q [t.blocks.length+1] rfl λF1 h1 R1 f1 k1 q1=>?_;have q1:=XT (t':=mF ops t) q1 rfl;have n1:Sm (mF ops t).s n:=hn.end_ _ _ _ _ _;refine FT q1 ho n1 (by omega) λF2 h2 R2 f2 k2 q2 n2=>?_
 let⟨_,l,hl⟩:=GP ops (mF ops t).s
 have e0:(mF ops t).s.ee=(sO ops t).ee:=rfl;have h4:t.s.ee.length+5<=(row ops (mF ops t).s).ee.length:=by rw[hl,e0,oQ];omega
 refine ec (by rfl) (ec q2.D.XP ?_);rw[nx2,fI]
 let⟨q3,s3,k3⟩:=GK q2 [(fJ ops t.s).1,t.s.ee.length+4]
 let⟨l4,ah,a1,a2,a3,a4,D4⟩:=q3.D.zdi (p:=t.s.ee.length) (by grind) s3
 refine ec a1 (ec (by rfl) ?_);simp[Jo,wBw]at a2;rw[a2,eh];have q4:=q3.step a4 D4 (by simp_all) q.gl q3.hq rfl;have n4:Sm (oE ops t) (n+6):=n2.setArgs _ _;refine ec q4.uj ?_;show cP CS fq [.I ((3:Nat):Int),.ptr L.nW 0,.ptr L.lr 0] ah _;refine wN q4 (by decide) (by decide) ho λZ k5 c=>?_;have c:Dq (fz F2 h2.next) G Z L ops {mF ops t with s:=(num ops (oE ops t) 3).2} R2:=c;have n5:Sm (num ops (oE ops t) 3).2 (n+6):=n4.num 3;have ff:∀l,F l->fz F2 h2.next l:=by grind[pP]
 have kk:=(((k1.gm L.nW).trans k2 f1).trans ((k3.gm L.nW).trans (a4.gm L.nW) (pP _ _)) (by simp_all)).trans k5 ff;show oP (ef .eql 3 (.I ((num ops (oE ops t) 3).1:Nat)) (V.I 0)) _;by_cases hd:(num ops (oE ops t) 3).1=0
 ·refine gw (gN (by omega) ?_);have Y:kX ops t=setArgs (num ops (oE ops t) 3).2 t.s.ee.length [(fJ ops t.s).1,(row ops (mF ops t).s).known.getLastD 0]:=by unfold kX;rw[if_pos hd]
  have am:=n5.k;have r:=n5.k0;have ai:(num ops (oE ops t) 3).2.known=(row ops (mF ops t).s).known:=rfl;refine ec (by rfl) (ec c.D.XP ?_)
  let⟨l3,o3,hl3,_,m1,m2⟩:=c.GQ (i:=(num ops (oE ops t) 3).2.known.length-1) (by grind)
  have m3:eC (.ptr l3 o3) Z=some (.I ((row ops (mF ops t).s).known.getLastD 0:Nat)):=by
   rw[m2,<-ai];show some (V.I (((num ops (oE ops t) 3).2.known.getD _ 0:Nat):Int))=_;rw[BE _ r]
  refine ec c.D.Ae (ec c.D.Ae (ec c.D.ok.len (zr (by grind) r (ec m1 (ec m3 ?_)))));rw[nx2,hH]
  let⟨v,s6,k6⟩:=GK c [(fJ ops t.s).1,(row ops (mF ops t).s).known.getLastD 0]
  have g6:(Z.new (.cells 3 1 true false (nD [(fJ ops t.s).1,(row ops (mF ops t).s).known.getLastD 0]))).get Z.next=_:=eJ _ _
  let ⟨l7,h7,b1,b2,b3,b4,D7⟩:=v.D.zdi (p:=t.s.ee.length) (by
   show _<(oE ops t).ee.length
   grind[oE,DP]) s6
  refine ec b1 (ec (by rfl) ?_);refine⟨by simp_all,iJ m3 (eE _ hl3),v.D.Ae,v.D.Ae,v.D.XP,?_⟩;simp only[Jo,wBw,HP]at b2;rw[b2,eh];have q7:=XT (t':={mF ops t with s:=kX ops t}) (v.step b4 D7 (by simp_all) q.gl v.hq rfl) (by rw[Y]);refine⟨b3,H _ _ _ (by grind[pP]) (kk.trans ((k6.gm L.nW).trans (b4.gm L.nW) (pP _ _)) ff) q7 ?_⟩;rw[Y];exact n5.setArgs _ _
 ·refine gw (gD (by omega) ?_);have Y:kX ops t=(num ops (oE ops t) 3).2:=by unfold kX;rw[if_neg hd]
  exact H _ _ _ ff kk (XT c (by rw[Y])) (by rw[Y];exact n5)
end
open Un
def uC(u:U)(v b s:V):List V:=[.I u.func,.I u.pc,v,b,s]
def eUn:rG U where
 sz:=5
 rel F h u cs:=∃v b s,cs=uC u v b s/\iH eV F h u.ee v/\iH eK F h u.blocks b/\iH eT F h u.ez s
 len:=λ⟨_,_,_,h,_⟩=>by subst h;rfl
 one:=λ⟨_,_,_,h,a,c,d⟩=>by subst h;simp only[uC,fe,a.one,c.one,d.one];rfl
 fh:=λe ⟨v,n,p,h,a,c,d⟩=>⟨v,n,p,h,a.fh e,c.fh e,d.fh e⟩
 mono:=λf ⟨v,n,p,h,a,c,d⟩=>⟨v,n,p,h,a.mono f,c.mono f,d.mono f⟩
theorem zaS(ops:List Int)(t:Dt):(fork ops t).blocks.length=t.blocks.length+3:=by simp[fork,end_]
theorem zbV(ops:List Int)(t:Dt):(zJ ops t).blocks.length=t.blocks.length+2:=by simp[zJ,end_]
theorem zaN(ops:List Int)(t:Dt):(loop ops t).blocks.length=t.blocks.length+3:=by simp[loop,end_]
section
variable{F F' G G':Nat->Prop}{h h':Hp}{L:Lc}{ops:List Int}{t t':Dt}{R R':Rw}{Q:fo}
theorem zeM{a:List Int}{vo vs nv:V}{b:Nat}(y:ops.length<9223372036854775808)(q:Dq F G h L ops t R)(hn:Sm t.s 30)(hb:t.blocks.length=0)(A:h.get L.lr=some (.cells Ss 1 true false [vo,vs,nv]))(Y:iH (eI .i64) F h a vs)
  (ai:G b) (Z:b≠L.nW) (aa:∃c,h.get b=some (.cells 34 1 true false c)/\c.length=5)
  (H:∀F' h' R' d,(∀l,F l->F' l)->Kp F (gm G L.nW) h h'->Dq F' G h' L ops d R'->d=end_ {lh ops (a.take 6) t with s:=(fG ops (lh ops (a.take 6) t).s).2} 3 0 [] (fG ops (lh ops (a.take 6) t).s).1 []->
   fg (gL 5 (.ptr b 0) (.agg [.I 1,.I 2,R'.vv,R'.vb,R'.vs]) h') λ_ f=>oP (gy 5 (.ptr b 0) f) λr=>Q r f) :
  ot CS Q (.ptr L.lr 0) (.ptr b 0) (.ptr L.lu 0) (.ptr L.ie 0) (.ptr L.jq 0) (.ptr L.zt 0) (.ptr L.pT 0) (.ptr L.VN 0) (Lq L) (Js L) (.I 0) h:=by
 refine CN (λk M N O P S T g j m n o h'=>∃F' R',∃i:Nat,∃t',M = .ptr L.lr 0/\N = .ptr b 0/\O = .ptr L.lu 0/\P = .ptr L.ie 0/\S = .ptr L.jq 0/\T = .ptr L.zt 0/\
  g = .ptr L.pT 0/\j = .ptr L.VN 0/\m=Lq L/\n=Js L/\o = .I i/\i+k=6/\(∀l,F l->F' l)/\Kp F (gm G L.nW) h h'/\Dq F' G h' L ops t' R'/\Sm t'.s (30+30*i)/\t'.blocks.length<=3*i/\
  lh ops ((a.take 6).drop i) t' = lh ops (a.take 6) t) ?_ (k:=6)
  ⟨F,R,0,t,rfl,rfl,rfl,rfl,rfl,rfl,rfl,rfl,rfl,rfl,rfl,rfl,λ_ h=>h,Kp.refl _ _ _,q,hn,by omega,by rw[wBL]⟩
 rintro k M N O P S T g j m n o h' ⟨F1,R1,i,d,rfl,rfl,rfl,rfl,rfl,rfl,rfl,rfl,rfl,rfl,rfl,aj,hF,U,u,W,b1,B⟩;unfold sV;have C:h'.get L.lr=some (.cells Ss 1 true false [vo,vs,nv]):=by rw[U.fh _ (.inl q.fr)];exact A
 have E:eC (.ptr L.lr 1) h' = some vs:=j5 C rfl;have lv:=u.D.ov.len;have I:=Y.fh λl hl=>U.fh l (.inl hl);refine ec (by rfl) (ec E (ec I.len (ec (by rfl) ?_)));have e1:iM (.bool (decide (((i:Nat):Int)<(a.length:Nat)))) (oB (some (V.I i)) λab=>ef .lss 3 ab (V.I 6))=some (.bool (decide (((i:Nat):Int)<(a.length:Nat))&&decide (((i:Nat):Int)<6))):=by
  simp[ jC]
 refine ec e1 ?_
 have e2:iM (.bool (decide (((i:Nat):Int)<(a.length:Nat))&&decide (((i:Nat):Int)<6))) (oB (fK 2 (.ptr L.lu 0)) λac=>oB (eC ac h') λae=>oB (fD ae) λag=>ef .lss 3 ag (V.I 160)) =
   some (.bool ((decide (((i:Nat):Int)<(a.length:Nat))&&decide (((i:Nat):Int)<6))&&decide (((d.s.ee.length:Nat):Int)<160))):=by
  simp[ eD,u.D.XP,lv]
 refine ec e2 (gh ?_);by_cases hgo:i<a.length/\i<6/\d.s.ee.length<160;rotate_left
 ·
  refine gD (by grind) ?_;have J:d=lh ops (a.take 6) t:=by
   rw[<-B];by_cases hi:i<(a.take 6).length
   ·rw[wAj hi];unfold lh
    grind
   ·rw[wBS (by omega)];rfl
  subst J;refine ec u.Ke ?_;refine N3 u y W (by omega) λp f R2 K v w z=>?_;have eB:∀sn,fm [V.ed,(V.I 0),(V.I 0),V.ed,V.ed,(V.I 0)] [(0,1),(1,1),(2,1),(3,1),(4,1),(5,1)] [(1,(V.I 3)),(5,.I (sn:Nat))]=some (.agg (rr ⟨[],3,0,[],[],sn⟩ .ed .ed .ed)):=λ_=>rfl;refine ec (eB _) ?_;refine Uy w (show(lh ops (a.take 6) t).blocks.length<_ by omega) ⟨[],3,0,[],[],_⟩ rfl rfl rfl .nil λF3 h3 R3 f3 k3 X=>?_;have lA:=Av X.D.gu rfl;refine ec lA ?_;have kk:=(U.trans v hF).trans (k3.gm L.nW) (by simp_all);exact H F3 h3 R3 _ (by grind) kk X rfl
 let⟨g1,g2,g3⟩:=hgo
 refine gN (by grind) ?_
 let⟨l4,o4,u4,_,i1,i2,i3⟩:=I.XZ g1 .i64 rfl
 obtain⟨rfl⟩:u4 = .I a[i]:=by simpa using i3.1
 refine ec (by rfl) (ec E (ec i1 (ec i2 ?_)));show cP CS gj [.I a[i],.I ((3:Nat):Int)] h' _;refine wL (by decide) (by decide) ?_;have ah:i<(a.take 6).length:=by rw[Rh];omega
 have x:lh ops ((a.take 6).drop (i+1)) (uR ops (iF a[i] 3) d)=lh ops (a.take 6) t:=by
  rw[<-B,wAj ah]
  conv=>rhs;unfold lh
  rw[if_pos g3,List.getElem_take]
 have fin:∀p f R2,(∀l,F1 l->p l)->Kp F1 (gm G L.nW) h' f->Dq p G f L ops (uR ops (iF a[i] 3) d) R2->Sm (uR ops (iF a[i] 3) d).s (30+30*i+30)->(uR ops (iF a[i] 3) d).blocks.length<=3*(i+1)->
   jD CS Q (λM N O P S T g j m n o hh=>∃k',k' < k/\∃F' R',∃i:Nat,∃t',M = .ptr L.lr 0/\N = .ptr b 0/\O = .ptr L.lu 0/\P = .ptr L.ie 0/\S = .ptr L.jq 0/\T = .ptr L.zt 0/\
    g = .ptr L.pT 0/\j = .ptr L.VN 0/\m=Lq L/\n=Js L/\o = .I i/\i+k' = 6/\(∀l,F l->F' l)/\Kp F (gm G L.nW) h hh/\Dq F' G hh L ops t' R'/\Sm t'.s (30+30*i)/\t'.blocks.length<=3*i/\
    lh ops ((a.take 6).drop i) t' = lh ops (a.take 6) t) (.ptr L.lr 0) (.ptr b 0) (.ptr L.lu 0) (.ptr L.ie 0) (.ptr L.jq 0) (.ptr L.zt 0) (.ptr L.pT 0) (.ptr L.VN 0) (Lq L) (Js L) (.I i) f:=by
  intro p f R2 K v w z b2;refine BJ ?_;unfold rX;refine gf ?_;exact⟨k-1,by omega,p,R2,i+1,_,rfl,rfl,rfl,rfl,rfl,rfl,rfl,rfl,rfl,rfl,rfl,by omega,by simp_all,U.trans v hF,w,z,b2,x⟩
 by_cases c0:iF a[i] 3=0
 ·refine gw (gN (by omega) ?_);have e:uR ops (iF a[i] 3) d=fork ops d:=by unfold uR;rw[if_pos c0]
  rw[e]at fin;refine zbj u y W (by omega) (by omega) λp f R2 K v w z=>?_
  grind[zaS]
 refine gw (gD (by omega) ?_);by_cases c1:iF a[i] 3=1
 ·refine gw (gN (by omega) ?_);have e:uR ops (iF a[i] 3) d=loop ops d:=by unfold uR;rw[if_neg c0,if_pos c1]
  rw[e]at fin;refine zbU u y W (by omega) (by omega) λp f R2 s6 K v w z e6 _=>?_;subst e6;refine za6 y z (by omega) (by omega) w λF3 h3 R3 f3 k3 X n3=>?_;refine BB ?_;unfold rZ;refine zbS y n3 (by omega) (by omega) X λF4 h4 R4 f4 k4 q4 n4=>?_;exact fin F4 h4 R4 (by grind) ((v.trans k3 K).trans k4 (by simp_all)) q4 (n4.le (by omega)) (by grind[zaN])
 ·refine gw (gD (by omega) ?_);have e:uR ops (iF a[i] 3) d=zJ ops d:=by unfold uR;rw[if_neg c0,if_neg c1]
  rw[e]at fin;refine zbd u y W (by omega) (by omega) λp f R2 K v w z=>?_
  grind[zbV]
end
