/- Parts. -/
import Derived.Test.YtcoaokdoecgcbaaGreatDoorM21
set_option maxHeartbeats 4000000
namespace Go.Proofs.YtcoaokdoecgcbaaGreatDoor.Hx
open Un
section
variable{F F' G G':Nat->Prop}{h h':Hp}{L:Lc}{ops:List Int}{t t':Dt}{R R':Rw}{Q:fj}
theorem Sm.app{s:Ds}{n:Nat}(a:Sm s n)(ys:List Nat):Sm {s with known:=s.known++ys} (n+ys.length):=
 ⟨by have:=a.v;grind,by have:=a.c;grind,by have:=a.k;simp_all,by have:=a.st;grind,by have:=a.k0;grind⟩
theorem QI:∀ys,gi (oY ys)=true
 |[]=>rfl
 |y::ys=>by show gi (V.I y::oY ys)=true;rw[fe,QI ys];rfl
theorem zba(q:Dq F G h L ops t R){n:Nat}(f:Sm t.s n)(g:n<1000)(ys:List Nat)(i:0<ys.length)(j:ys.length<=5){c:Option (O×(Nat->V))}(m:c=some (O.cells 3 1 true false (oY ys),λl=> .slice l 0 ys.length)){K:Hp->Prop}
  (H:∀h' R',Kp F G h h'->Dq F G h' L ops {t with s:={t.s with known:=t.s.known++ys} } R'->K h') :
  oP (ez (.ptr L.iI 0) h) λa=>gU c h λv o=>eJ (fg 3 1 8 a v o) λw p=>eJ (gj 1 (.ptr L.iI 0) w p) λ_ d=>K d:=by
 subst m;refine ec q.D.AX ?_;rw[fK];have r:=q.D.grow (uE.new h (.cells 3 1 true false (oY ys)));have hl:(oY ys).length=ys.length:=by simp[oY]
 let⟨new,e1,e2⟩:=Fv (n:=ys.length) (off:=0) (fh h (.cells 3 1 true false (oY ys))) (by omega)
 have u:new=oY ys:=by rw[e2,wBT,Xb (by omega)]
 subst u;have B:=f.k;have x:=QI ys
 let⟨v',d,C,y,E,z,I,A,D4⟩:=r.zfJ e1 (BB _ _ ys) (by omega) x i (by omega)
 have b:=y;rw[b,eh,z];have e:=(q.D.Kz (.cells 3 1 true false (oY ys))).trans A λ_ h=>h;exact H _ _ e (q.step e D4 (by grind) q.gl q.hq rfl)
theorem Qb(q:Dq F G h L ops t R){n:Nat}(c:Sm t.s n)(b:n<999)(x:Vl){w:V}{a:V}(d:hD eN F h x.args a)(e:w = .agg (yM x a)){K:fj}
  (H:∀h' R',Kp F G h h'->R'.vk=R.vk->Dq F G h' L ops {t with s:=put t.s x} R'->K (.I t.s.ee.length) h'):gP CS (gh (zga L) [w]) h K:=by
 subst e;show cP CS gF [.agg (yM x a),.ptr L.lu 0,.ptr L.kj 0] h K;exact Mu q c b ⟨a,rfl,d⟩ H
def RY(ops:List Int)(t:Dt):Dt:=end_ {t with s:=(fT ops t.s).2} 1 0 [t.blocks.length+1] 0 [t.blocks.length,t.blocks.length+2]
def Xa(ops:List Int)(t:Dt):Ds:=put (RY ops t).s (vl 21 0 0 0 [(fT ops t.s).1,0] 0)
def DU(ops:List Int)(t:Dt):Nat:=(fT ops (Xa ops t)).1
def X0(ops:List Int)(t:Dt):Ds:=put (fT ops (Xa ops t)).2 (vl 21 0 0 0 [DU ops t,t.s.ee.length] 0)
def Td(ops:List Int)(t:Dt):Ds:={X0 ops t with known:=(X0 ops t).known++[t.s.ee.length,t.s.ee.length+1]}
def Ul(ops:List Int)(t:Dt):Ds:=put (fI ops (Td ops t)).2 (vl 23 0 0 0 [] (fI ops (Td ops t)).1)
def vG(ops:List Int)(t:Dt):Ds:=il (put (Ul ops t) (vl 2 0 0 1 [] 0)) (vl 4 t.s.ee.length (t.s.ee.length+3) 0 [] 0)
def ny(ops:List Int)(t:Dt):Dt:=end_ {RY ops t with s:=vG ops t} 2 t.s.ee.length [t.blocks.length+2,t.blocks.length+3] 0 [t.blocks.length+1]
def pH(ops:List Int)(t:Dt):Ds:=setArgs (row ops (ny ops t).s) t.s.ee.length [(fT ops t.s).1,t.s.ee.length+4]
def lM(ops:List Int)(t:Dt):Ds:=if(num ops (pH ops t) 3).1=0 then setArgs (num ops (pH ops t) 3).2 t.s.ee.length [(fT ops t.s).1,(row ops (ny ops t).s).known.getLastD 0] else(num ops (pH ops t) 3).2
def Mm(ops:List Int)(t:Dt):Ds:=setArgs (lM ops t) (t.s.ee.length+1) [DU ops t,(row ops (ny ops t).s).known.getLastD 0]
def VT(ops:List Int)(t:Dt):Dt:=end_ {ny ops t with s:=cut (vG ops t).known.length (Mm ops t)} 1 0 [t.blocks.length+1] 0 [t.blocks.length+1]
theorem Og(ops:List Int)(t:Dt):∃x,(Ul ops t).ee=t.s.ee++[vl 21 0 0 0 [(fT ops t.s).1,0] 0,vl 21 0 0 0 [DU ops t,t.s.ee.length] 0,x]:=by
 refine⟨vl 23 0 0 0 [] (fI ops (Td ops t)).1,?_⟩;unfold Ul;rw[put,(A8 ops (Td ops t)).1];show(X0 ops t).ee++[_]=_;show((Xa ops t).ee++[_])++[_]=_;show(((RY ops t).s.ee++[_])++[_])++[_]=_;simp[Cy,List.singleton_append];rfl
theorem ZE(ops:List Int)(t:Dt):loop ops t = {VT ops t with s:=row ops (VT ops t).s}:=by
 let⟨x,hx⟩:=Og ops t
 have e:(Ul ops t).ee.length=t.s.ee.length+3:=by rw[hx];simp
 unfold VT Mm lM pH ny vG;rw[show t.s.ee.length+4=(t.s.ee.length+3)+1 from rfl,<-e];rfl
theorem zdp(q:Dq F G h L ops t R)(ho:ops.length<9223372036854775808){n:Nat}(hn:Sm t.s n)(cm:n<800)(hb:t.blocks.length<900){K:QP6}
  (H:∀F' h' R' e,(∀l,F l->F' l)->Kp F (gm G L.mM) h h'->Dq F' G h' L ops (end_ {RY ops t with s:=e} 2 t.s.ee.length [t.blocks.length+2,t.blocks.length+3] 0 []) R'->Sm e (n+10)->
   e=vG ops t->
   e.ee.length=t.s.ee.length+5->
   K (.I ((fT ops t.s).1:Nat)) (.I (t.blocks.length+1:Nat)) (.I t.s.ee.length) (.I ((t.s.ee.length+1:Nat):Int)) (.I ((t.s.ee.length+4:Nat):Int)) (.I ((t.blocks.length+1:Nat):Int)) h') :
  oP (ez (.ptr L.iI 0) h) λB=>
  oP (ez (.ptr L.rF 0) h) λac=>
  oP (ez (.ptr L.iI 0) h) λad=>
  oP (fE ad) λae=>
  gP CS (gh ac [ae]) h λag f=>
  (h.next<=f.next/\
  oP (gM 1 B ag) λah=>
  oP (ez ah f) λC=>
  ((ez (.ptr L.iI 0) f=some B)/\
  oP (fJ 3 (.ptr L.lu 0)) λai=>
  oP (ez ai f) λaj=>
  oP (fE aj) λak=>
  oP (ef .add 3 ak (V.I 1)) λal=>
  gU (iO 3 1 1 (V.I 0) [(0,al)]) f λam bi=>
  oP (fq [V.ed,(V.I 0),(V.I 0),V.ed,V.ed,(V.I 0)] ge [(1,(V.I 1)),(3,am)]) λan=>
  gP CS (gh (Mx L) [an]) bi λE bj=>
  oP (ef .add 3 E (V.I 1)) λb=>
  oP (ef .add 3 b (V.I 1)) λao=>
  gU (iO 3 1 2 (V.I 0) [(0,E),(1,ao)]) bj λaq bm=>
  oP (fJ 4 (.ptr L.kj 0)) λar=>
  eJ (gj 1 ar aq bm) λcf au=>
  oP (ez (.ptr L.wF 0) au) λaw=>
  gU (iO 3 1 2 (V.I 0) [(0,C),(1,(V.I 0))]) au λax bo=>
  oP (fq [(V.I 0),(V.I 0),(V.I 0),(V.I 0),V.ed,(V.I 0)] ge [(0,(V.I 21)),(4,ax)]) λay=>
  gP CS (gh aw [ay]) bo λa c=>
  oP (ez (.ptr L.wF 0) c) λI=>
  oP (ez (.ptr L.iI 0) c) λJ=>
  oP (ez (.ptr L.rF 0) c) λaz=>
  oP (ez (.ptr L.iI 0) c) λaA=>
  oP (fE aA) λaB=>
  gP CS (gh az [aB]) c λaC k=>
  (c.next<=k.next/\
  oP (gM 1 J aC) λM=>
  oP (ez M k) λN=>
  uj (iO 3 1 2 (V.I 0) [(0,N),(1,a)]) k λo9 aD d=>
  oP (fq [(V.I 0),(V.I 0),(V.I 0),(V.I 0),V.ed,(V.I 0)] ge [(0,(V.I 21)),(4,aD)]) λaE=>
  ((d.get (k.next)=some o9/\O.beq o9 o9=true)/\
  ((ez M d=some N)/\
  ((ez (.ptr L.iI 0) d=some J)/\
  ((ez (.ptr L.wF 0) d=some I)/\
  gP CS (gh I [aE]) d λP U=>
  (d.next<=U.next/\
  oP (ez (.ptr L.iI 0) U) λaF=>
  gU (iO 3 1 2 (V.I 0) [(0,a),(1,P)]) U λaG br=>
  eJ (fg 3 1 8 aF aG br) λaH bt=>
  eJ (gj 1 (.ptr L.iI 0) aH bt) λcg r=>
  oP (ez (.ptr L.wF 0) r) λQ=>
  oP (ez (.ptr L.Pq 0) r) λaI=>
  gP CS (gh aI []) r λaJ u=>
  (r.next<=u.next/\
  oP (fq [(V.I 0),(V.I 0),(V.I 0),(V.I 0),V.ed,(V.I 0)] ge [(0,(V.I 23)),(5,aJ)]) λaK=>
  ((ez (.ptr L.wF 0) u=some Q)/\
  gP CS (gh Q [aK]) u λci W=>
  (u.next<=W.next/\
  oP (ez (.ptr L.wF 0) W) λaL=>
  oP (fq [(V.I 0),(V.I 0),(V.I 0),(V.I 0),V.ed,(V.I 0)] ge [(0,(V.I 2)),(3,(V.I 1))]) λaM=>
  gP CS (gh aL [aM]) W λaN aO=>
  oP (ez (.ptr L.wF 0) aO) λaP=>
  oP (fq [(V.I 0),(V.I 0),(V.I 0),(V.I 0),V.ed,(V.I 0)] ge [(0,(V.I 4)),(1,a),(2,aN)]) λaQ=>
  gP CS (gh aP [aQ]) aO λS aR=>
  oP (ez (.ptr L.iI 0) aR) λaS=>
  gU (iO 3 1 1 (V.I 0) [(0,S)]) aR λaT bu=>
  eJ (fg 3 1 8 aS aT bu) λaU bw=>
  eJ (gj 1 (.ptr L.iI 0) aU bw) λcj bx=>
  oP (ef .add 3 b (V.I 1)) λaV=>
  oP (ef .add 3 b (V.I 2)) λaW=>
  gU (iO 3 1 2 (V.I 0) [(0,aV),(1,aW)]) bx λaX bz=>
  oP (fq [V.ed,(V.I 0),(V.I 0),V.ed,V.ed,(V.I 0)] ge [(1,(V.I 2)),(2,a),(3,aX)]) λaY=>
  gP CS (gh (Mx L) [aY]) bz λaZ bA=>K C b a P S aZ bA)))))))))))
   :=by
 refine WW q ho hn (by omega) λh2 k2 q2=>?_;refine ec (by rfl) (ec q2.D.ldB (ec q2.D.ob.len (j9 (m:=1) (show t.blocks.length<_ by omega) (by omega) ?_)));have n2:Sm (fT ops t.s).2 n:=hn.one;refine Gp q2 (show t.blocks.length<_ by omega) 1 0 [t.blocks.length+1] 0 rfl (λ_=>rfl) λF4 h4 R4 f4 k4 q4=>?_;refine j9 (n:=t.blocks.length) (m:=1) (by omega) (by omega) ?_;refine fG ?_;refine yZ q4 [t.blocks.length,t.blocks.length+2] rfl λF6 h6 R6 f6 k6 q6=>?_;have q6:=pkg (t':=end_ {t with s:=(fT ops t.s).2} 1 0 [t.blocks.length+1] 0 [t.blocks.length,t.blocks.length+2]) q6 rfl;have n6:Sm (end_ {t with s:=(fT ops t.s).2} 1 0 [t.blocks.length+1] 0 [t.blocks.length,t.blocks.length+2]).s n:=n2.end_ _ _ _ _ _;have bC:(end_ {t with s:=(fT ops t.s).2} 1 0 [t.blocks.length+1] 0 [t.blocks.length,t.blocks.length+2]).blocks.length=t.blocks.length+1:=by simp[end_]
 have a0:(end_ {t with s:=(fT ops t.s).2} 1 0 [t.blocks.length+1] 0 [t.blocks.length,t.blocks.length+2]).s.ee.length=t.s.ee.length:=rfl;have kA:=kgm k2 (k4.trans k6 f4) λ_ h=>h;have fA:∀l,F l->F6 l:=by simp_all
 generalize bD:end_ {t with s:=(fT ops t.s).2} 1 0 [t.blocks.length+1] 0 [t.blocks.length,t.blocks.length+2]=t1 at*;generalize bE:(fT ops t.s).1=fr at*;refine ec q6.qF ?_;have e3:∀x y,iO 3 1 2 (V.I 0) [(0,V.I (x:Nat)),(1,V.I (y:Nat))]=some (.cells 3 1 true false (oY [x,y]),λl=> .slice l 0 2):=λ_ _=>rfl;have bG:iO 3 1 2 (V.I 0) [(0,V.I fr),(1,V.I 0)]=some (.cells 3 1 true false (oY [fr,0]),λl=> .slice l 0 2):=e3 fr 0;rw[bG,fK]
 let⟨q7,s7,k7⟩:=Ja q6 [fr,0]
 refine ec (by rfl) ?_;refine Qb q7 n6 (by omega) (vl 21 0 0 0 [fr,0] 0) s7 rfl λh8 R8 k8 _ q8=>?_;have n8:=n6.put (vl 21 0 0 0 [fr,0] 0);have bH:(put t1.s (vl 21 0 0 0 [fr,0] 0)).ee.length=t.s.ee.length+1:=by simp[put,a0]
 rw[a0];generalize bI:put t1.s (vl 21 0 0 0 [fr,0] 0)=s1 at*;have kB:=kA.trans ((k7.gm L.mM).trans (k8.gm L.mM) (rK _ _)) fA;have fB:∀l,F l->fz F6 h6.next l:=by grind[rK]
 refine ec q8.qF (ec q8.D.AX (ec q8.xj (ec q8.D.AX (ec q8.D.ok.len ?_))));show cP CS fU [.I s1.known.length,.ptr L.mM 0,.ptr L.lr 0] h8 _;refine Qk q8 ho n8 (by omega) λh9 l9 o9 k9 q9 bJ i1 i2=>⟨k9.next,ec i1 (ec i2 ?_)⟩
 have i2:=i2;have q9:=q9;have n9:=n8.one (ops:=ops);have a1:(fT ops s1).2.ee.length=t.s.ee.length+1:=bH;show uj (iO 3 1 2 (V.I 0) [(0,V.I ((fT ops s1).1:Nat)),(1,V.I t.s.ee.length)]) h9 _;generalize bK:(fT ops s1).2=sg at*;generalize bL:(fT ops s1).1=g at*;rw[e3,gI]
 let⟨X,bQ,bR⟩:=Ja q9 [g,t.s.ee.length]
 have co:(h9.new (.cells 3 1 true false (oY [g,t.s.ee.length]))).get h9.next=_:=fh _ _;refine ec (by rfl) ⟨by grind[O.jS],gz i2 (fi _ bJ),X.D.AX,X.qF,?_⟩;refine Qb X n9 (by omega) (vl 21 0 0 0 [g,t.s.ee.length] 0) bQ rfl λcp cq a2 _ Y=>⟨a2.next,?_⟩
 have a3:=n9.put (vl 21 0 0 0 [g,t.s.ee.length] 0);have a4:(put sg (vl 21 0 0 0 [g,t.s.ee.length] 0)).ee.length=t.s.ee.length+2:=by simp[put,a1]
 have bS:=a1;rw[bS];generalize bU:put sg (vl 21 0 0 0 [g,t.s.ee.length] 0)=s2 at*;have Y:=Y;have kC:=kB.trans (k9.trans ((bR.gm L.mM).trans (a2.gm L.mM) (rK _ _)) λ_ h=>h) fB;have fC:∀l,F l->fz (fz F6 h6.next) h9.next l:=by grind[rK]
 refine zba Y a3 (by omega) [t.s.ee.length,t.s.ee.length+1] (by simp) (by simp) (e3 _ _) λcr ct bV i=>?_;have Z:=a3.app [t.s.ee.length,t.s.ee.length+1];have a5:({s2 with known:=s2.known++[t.s.ee.length,t.s.ee.length+1]}:Ds).ee.length=t.s.ee.length+2:=a4;have i:=i;generalize bW:({s2 with known:=s2.known++[t.s.ee.length,t.s.ee.length+1]}:Ds)=s3 at*;have Z:Sm s3 (n+4):=Z;refine ec i.qF (ec i.L7 ?_);refine PR i ho Z (by omega) λbX cv cw cx a6 v w=>⟨a6.next,?_⟩
 have gL:=A8 ops s3;have a7:(fI ops s3).2.ee.length=t.s.ee.length+2:=by rw[gL.1];exact a5
 have v:=v;have w:=w;show oP (fq _ _ [(0,V.I 23),(5,.I ((fI ops s3).1:Nat))]) _;generalize bY:(fI ops s3).2=s4 at*;generalize bZ:(fI ops s3).1=sn at*;have eS:fq [(V.I 0),(V.I 0),(V.I 0),(V.I 0),V.ed,(V.I 0)] ge [(0,(V.I 23)),(5,.I sn)]=some (.agg (yM (vl 23 0 0 0 [] sn) .ed)):=rfl;refine ec eS ⟨v.qF,?_⟩;refine Qb v w (by omega) (vl 23 0 0 0 [] sn) .nil rfl λcy cz a8 _ z=>⟨a8.next,?_⟩
 have a9:=w.put (vl 23 0 0 0 [] sn);have T:(put s4 (vl 23 0 0 0 [] sn)).ee.length=t.s.ee.length+3:=by simp[put,a7]
 have z:=z;generalize ba:put s4 (vl 23 0 0 0 [] sn)=s5 at*;refine ec z.qF ?_;have eO:fq [(V.I 0),(V.I 0),(V.I 0),(V.I 0),V.ed,(V.I 0)] ge [(0,(V.I 2)),(3,(V.I 1))]=some (.agg (yM (vl 2 0 0 1 [] 0) .ed)):=rfl;refine ec eO ?_;refine Qb z a9 (by omega) (vl 2 0 0 1 [] 0) .nil rfl λcA cB b1 _ A=>?_;have bb:=a9.put (vl 2 0 0 1 [] 0);have j:(put s5 (vl 2 0 0 1 [] 0)).ee.length=t.s.ee.length+4:=by simp[put,T]
 have b2:=T;rw[b2];have A:=A;generalize bc:put s5 (vl 2 0 0 1 [] 0)=e at*;refine ec A.qF ?_;have eUn:∀p o,fq [(V.I 0),(V.I 0),(V.I 0),(V.I 0),V.ed,(V.I 0)] ge [(0,(V.I 4)),(1,.I (p:Nat)),(2,.I (o:Nat))]=some (.agg (yM (vl 4 p o 0 [] 0) .ed)):=λ_ _=>rfl;refine ec (eUn _ _) ?_;refine Qb A bb (by omega) (vl 4 t.s.ee.length (t.s.ee.length+3) 0 [] 0) .nil rfl λcC cD b3 _ b4=>?_;have bd:=bb.put (vl 4 t.s.ee.length (t.s.ee.length+3) 0 [] 0);have b5:=j;rw[b5];refine zba b4 bd (by omega) [t.s.ee.length+4] (by simp) (by simp) rfl λb6 b7 b8 aa=>?_;have ab:=bd.app [t.s.ee.length+4];have be:({ ({t1 with s:=put e (vl 4 t.s.ee.length (t.s.ee.length+3) 0 [] 0)}:Dt).s with known:=({t1 with s:=put e (vl 4 t.s.ee.length (t.s.ee.length+3) 0 [] 0)}:Dt).s.known++[t.s.ee.length+4]}:Ds)=il e (vl 4 t.s.ee.length (t.s.ee.length+3) 0 [] 0):=by
  unfold il put;simp[j]
 have aa:Dq bX G b6 L ops {t1 with s:=il e (vl 4 t.s.ee.length (t.s.ee.length+3) 0 [] 0)} b7:=by rw[<-be];exact aa
 have ab:Sm (il e (vl 4 t.s.ee.length (t.s.ee.length+3) 0 [] 0)) (n+10):=by rw[<-be];exact ab.le (by grind)
 have bf:(il e (vl 4 t.s.ee.length (t.s.ee.length+3) 0 [] 0)).ee.length=t.s.ee.length+5:=by simp[il,j]
 refine fG ?_;refine j9 (m:=2) (by omega) (by omega) ?_;refine Gp aa (show t1.blocks.length<_ by omega) 2 t.s.ee.length [t.blocks.length+2,t.blocks.length+3] 0 rfl (λ_=>rfl) λb9 ca cb cE cd ce=>?_;have bg:=bC;rw[bg];have kD:=((kC.trans ((bV.gm L.mM).trans a6 λ_ h=>h) fC).trans ((((a8.gm L.mM).trans (b1.gm L.mM) λ_ h=>h).trans (b3.gm L.mM) λ_ h=>h).trans (b8.gm L.mM) λ_ h=>h) (by grind)).trans (cd.gm L.mM) (by grind);subst bD bE bI bK bL bU bW bY bZ ba bc;exact H b9 ca cb _ (by grind) kD ce ab rfl bf
theorem OB(ops:List Int)(t:Dt):(vG ops t).ee[t.s.ee.length+1]? =some (vl 21 0 0 0 [DU ops t,t.s.ee.length] 0)/\(vG ops t).ee.length=t.s.ee.length+5:=by
 let⟨x,hx⟩:=Og ops t
 grind[vG,il,put]
theorem WD(ops:List Int)(t:Dt):(lM ops t).ee[t.s.ee.length+1]? =some (vl 21 0 0 0 [DU ops t,t.s.ee.length] 0)/\t.s.ee.length+5<=(lM ops t).ee.length/\(lM ops t).known=(row ops (ny ops t).s).known:=by
 let⟨d,g⟩:=OB ops t
 let⟨_,l,hl⟩:=Jk ops (ny ops t).s
 have e0:(ny ops t).s.ee=(vG ops t).ee:=rfl;have e:(row ops (ny ops t).s).ee[t.s.ee.length+1]? =some (vl 21 0 0 0 [DU ops t,t.s.ee.length] 0):=by
  rw[hl,e0,UF (by omega)];exact d
 have f:t.s.ee.length+5<=(row ops (ny ops t).s).ee.length:=by rw[hl,e0,qu];omega
 have a:∀s l,s.ee[t.s.ee.length+1]? =some (vl 21 0 0 0 [DU ops t,t.s.ee.length] 0)->(setArgs s t.s.ee.length l).ee[t.s.ee.length+1]? =some (vl 21 0 0 0 [DU ops t,t.s.ee.length] 0):=by
  intro s l hs;show(s.ee.modify t.s.ee.length _)[t.s.ee.length+1]? =_;rw[List.getElem?_modify,hs];show some (if _ then _ else _)=_;rw[if_neg (by omega)]
 have b:=a _ [(fT ops t.s).1,t.s.ee.length+4] e;have h:t.s.ee.length+5<=(pH ops t).ee.length:=by unfold pH;rw[(Fy _ _ _).1];exact f
 have c:(num ops (pH ops t) 3).2.ee=(pH ops t).ee:=rfl;unfold lM;split
 ·exact⟨a _ _ (by rw[c];exact b),by grind[Fy],rfl⟩
 ·exact⟨by rw[c];exact b,by simp_all,rfl⟩
theorem nx2(x y:Nat):iO 3 1 2 (V.I 0) [(0,V.I x),(1,V.I y)]=some (.cells 3 1 true false (oY [x,y]),λl=> .slice l 0 2):=rfl
theorem zd3(ho:ops.length<9223372036854775808){n:Nat}(hn:Sm (lM ops t) n)(ai:n<880)(hb:t.blocks.length<900)(q:Dq F G h L ops {ny ops t with s:=lM ops t} R){K:Hp->Prop}
  (H:∀F' h' R',(∀l,F l->F' l)->Kp F (gm G L.mM) h h'->Dq F' G h' L ops (loop ops t) R'->Sm (loop ops t).s (n+6)->K h') :
  oP (fJ 2 (.ptr L.lu 0)) λb=>
  oP (ez b h) λc=>
  oP (fJ 2 (.ptr L.lu 0)) λd=>
  oP (ez d h) λe=>
  oP (gM 6 e (.I ((t.s.ee.length+1:Nat):Int))) λx=>
  oP (fJ 4 x) λf=>
  oP (ez f h) λg=>
  oP (gM 1 g (V.I 0)) λj=>
  oP (ez j h) λm=>
  oP (ez (.ptr L.iI 0) h) λo=>
  oP (ez (.ptr L.iI 0) h) λp=>
  oP (fE p) λy=>
  oP (ef .sub 3 y (V.I 1)) λz=>
  oP (gM 1 o z) λr=>
  oP (ez r h) λu=>
  uj (iO 3 1 2 (V.I 0) [(0,m),(1,u)]) h λv A a=>
  oP (gM 6 c (.I ((t.s.ee.length+1:Nat):Int))) λB=>
  oP (fJ 4 B) λC=>
  ((a.get (h.next)=some v/\O.beq v v=true)/\
  ((ez r a=some u)/\
  ((ez (.ptr L.iI 0) a=some p)/\
  ((ez (.ptr L.iI 0) a=some o)/\
  ((ez j a=some m)/\
  ((ez f a=some g)/\
  ((ez d a=some e)/\
  ((ez b a=some c)/\
  eJ (gj 1 C A a) λvu X=>
  (a.next<=X.next/\
  oP (ez (.ptr L.iI 0) X) λE=>
  oP (jw 1 E none (some (.I ((vG ops t).known.length:Nat))) X) λI=>
  eJ (gj 1 (.ptr L.iI 0) I X) λad h3=>
  gU (iO 3 1 1 (V.I 0) [(0,(.I ((t.blocks.length+1:Nat):Int)))]) h3 λJ h4=>
  oP (fq [V.ed,(V.I 0),(V.I 0),V.ed,V.ed,(V.I 0)] ge [(1,(V.I 1)),(3,J)]) λM=>
  gP CS (gh (Mx L) [M]) h4 λae h5=>
  gU (iO 3 1 1 (V.I 0) [(0,(.I ((t.blocks.length+1:Nat):Int)))]) h5 λN h6=>
  oP (fJ 4 (.ptr L.kj 0)) λP=>
  eJ (gj 1 P N h6) λag h7=>
  gP CS (gh (Nd L) []) h7 λah h8=>K h8))))))))):=by
 let⟨y1,y2,y3⟩:=WD ops t
 have aa:=(Jk ops (ny ops t).s).kl;have Q:(vG ops t).known.length<=(lM ops t).known.length:=by rw[y3];exact aa
 have hk:=hn.k;have S:=hn.k0;have ab:0<(vG ops t).known.length:=by
  show 0<(_++[_]).length;simp
 have T:t.s.ee.length+1<({ny ops t with s:=lM ops t}:Dt).s.ee.length:=by show _<(lM ops t).ee.length;omega
 have eg:(lM ops t).ee[t.s.ee.length+1]'(by omega)=vl 21 0 0 0 [DU ops t,t.s.ee.length] 0:=by
  rw[hZ (by omega)]at y1;exact Option.some.inj y1
 have aj:({ny ops t with s:=lM ops t}:Dt).blocks.length=t.blocks.length+2:=by simp[ny,RY,end_]
 refine ec (by rfl) (ec q.D.ldV (ec (by rfl) (ec q.D.ldV ?_)))
 let⟨Y,o1,w1,hl1,Z,i2,i3,i4⟩:=q.D.ov.read.ix T .i64
 let⟨wa,hwa,sa⟩:=i3
 rw[eg]at hwa sa;have ia:=i4 4 wa (by rw[hwa];rfl);have Z:gM 6 R.vv (.I ((t.s.ee.length+1:Nat):Int))=some (.ptr Y o1):=Z;refine ec Z (ec (by rfl) (ec ia ?_));have U:=hl1.elim (q.D.fl Y) λh=>(q.D.ov.TZ h).2.1
 let⟨l2,o2,u2,hl2,j1,j2,j3⟩:=sa.Yt (i:=0) (by simp[vl]) .i64 rfl
 have W:=hl2.elim (q.D.fl l2) λh=>(q.D.ov.TZ h).2.1;obtain⟨rfl⟩:u2 = .I (DU ops t:Nat):=by
  have:[u2]=[V.I (DU ops t:Nat)]:=j3
  simp_all
 refine ec j1 (ec j2 ?_)
 let⟨l3,o3,hl3,_,m1,m2⟩:=q.Jl (i:=(lM ops t).known.length-1) (by grind)
 have m3:ez (.ptr l3 o3) h=some (.I ((lM ops t).known.getLastD 0:Nat)):=by rw[m2];show some (V.I (((lM ops t).known.getD _ 0:Nat):Int))=_;rw[CL _ S]
 refine ec q.D.AX (ec q.D.AX (ec q.D.ok.len (vz (by grind) S (ec m1 (ec m3 ?_)))));rw[nx2,gI]
 let⟨w,s1,k1⟩:=Ja q [DU ops t,(lM ops t).known.getLastD 0]
 have g1:(h.new (.cells 3 1 true false (oY [DU ops t,(lM ops t).known.getLastD 0]))).get h.next=_:=fh _ _;refine ec Z (ec (by rfl) ?_);refine⟨by simp_all,gz m3 (fi _ hl3),w.D.AX,w.D.AX,gz j2 (fi _ W),gz ia (fi _ U),w.D.ldV,w.D.ldV,?_⟩
 let⟨l4,h4,a1,a2,a3,a4,D4⟩:=w.D.zgn T s1
 have e4:V.ptr Y (o1+4)=V.ptr l4 ((t.s.ee.length+1)*6+4):=by
  have:(V.ptr Y o1)=V.ptr l4 ((t.s.ee.length+1)*6):=by simp_all
  cases this;rfl
 rw [e4];simp only[Re,wBu]at a2;rw[a2,eh];refine⟨a3,?_⟩;have q4:=pkg (t':={ny ops t with s:=Mm ops t}) (w.step a4 D4 (by simp_all) q.gl w.hq rfl) (by
  grind[Mm])
 have ac:Sm (Mm ops t) n:=hn.setArgs _ _;refine T0 q4 Q λh5 R5 k5 q5=>?_;have n5:=ac.cut ab Q;refine Gp q5 (show({ny ops t with s:=lM ops t}:Dt).blocks.length<_ by omega) 1 0 [t.blocks.length+1] 0 rfl (λ_=>rfl) λF6 h6 R6 f6 k6 q6=>?_;refine yZ q6 [t.blocks.length+1] rfl λF7 h7 R7 f7 k7 q7=>?_;have q7:=pkg (t':=VT ops t) q7 rfl;have n7:Sm (VT ops t).s n:=n5.end_ _ _ _ _ _;refine HD q7 ho n7 (by omega) λF8 h8 R8 f8 k8 q8 n8=>?_;have ff:∀l,F l->F7 l:=by grind[rK]
 refine H F8 h8 R8 (by simp_all) ?_ (by grind[pkg,ZE]) (by grind[ZE]);have kk:=(((k1.gm L.mM).trans (a4.gm L.mM) (rK _ _)).trans ((k5.gm L.mM).trans (k6.gm L.mM) λ_ h=>h) (rK _ _)).trans (k7.gm L.mM) (by grind[rK]);exact kk.trans k8 ff
theorem zdT(ho:ops.length<9223372036854775808){n:Nat}(hn:Sm (vG ops t) n)(ak:n<860)(hb:t.blocks.length<900)
  (q:Dq F G h L ops (end_ {RY ops t with s:=vG ops t} 2 t.s.ee.length [t.blocks.length+2,t.blocks.length+3] 0 []) R) {K:fj}
  (H:∀F' h' R',(∀l,F l->F' l)->Kp F (gm G L.mM) h h'->Dq F' G h' L ops {ny ops t with s:=lM ops t} R'->Sm (lM ops t) (n+6)->K (.I ((vG ops t).known.length:Nat)) h') :
  oP (ez (.ptr L.iI 0) h) λw=>
  oP (fE w) λd=>
  gU (iO 3 1 1 (V.I 0) [(0,(.I ((t.blocks.length+1:Nat):Int)))]) h λx aa=>
  oP (fJ 4 (.ptr L.kj 0)) λy=>
  eJ (gj 1 y x aa) λai ab=>
  gP CS (gh (Nd L) []) ab λaj z=>
  oP (fJ 2 (.ptr L.lu 0)) λA=>
  oP (ez A z) λB=>
  gU (iO 3 1 2 (V.I 0) [(0,(.I ((fT ops t.s).1:Nat))),(1,(.I ((t.s.ee.length+4:Nat):Int)))]) z λC ac=>
  oP (gM 6 B (.I t.s.ee.length)) λE=>
  oP (fJ 4 E) λI=>
  eJ (gj 1 I C ac) λad J=>
  oP (ez (.ptr L.rF 0) J) λM=>
  gP CS (gh M [(V.I 3)]) J λN a=>
  oP (ef .eql 3 N (V.I 0)) λP=>
  bP P (
  oP (fJ 2 (.ptr L.lu 0)) λe=>
  oP (ez e a) λf=>
  oP (ez (.ptr L.iI 0) a) λg=>
  oP (ez (.ptr L.iI 0) a) λj=>
  oP (fE j) λQ=>
  oP (ef .sub 3 Q (V.I 1)) λS=>
  oP (gM 1 g S) λm=>
  oP (ez m a) λo=>
  uj (iO 3 1 2 (V.I 0) [(0,(.I ((fT ops t.s).1:Nat))),(1,o)]) a λu T b=>
  oP (gM 6 f (.I t.s.ee.length)) λU=>
  oP (fJ 4 U) λW=>
  ((b.get (a.next)=some u/\O.beq u u=true)/\
  ((ez m b=some o)/\
  ((ez (.ptr L.iI 0) b=some j)/\
  ((ez (.ptr L.iI 0) b=some g)/\
  ((ez e b=some f)/\
  eJ (gj 1 W T b) λae X=>
  (b.next<=X.next/\K d X)))))))
  (K d a):=by
 let⟨_,z2⟩:=OB ops t
 refine ec q.D.AX (ec q.D.ok.len ?_);refine yZ q [t.blocks.length+1] rfl λF1 h1 R1 f1 k1 q1=>?_;have q1:=pkg (t':=ny ops t) q1 rfl;have n1:Sm (ny ops t).s n:=hn.end_ _ _ _ _ _;refine HD q1 ho n1 (by omega) λF2 h2 R2 f2 k2 q2 n2=>?_
 let⟨_,l,hl⟩:=Jk ops (ny ops t).s
 have e0:(ny ops t).s.ee=(vG ops t).ee:=rfl;have h4:t.s.ee.length+5<=(row ops (ny ops t).s).ee.length:=by rw[hl,e0,qu];omega
 refine ec (by rfl) (ec q2.D.ldV ?_);rw[nx2,fK]
 let⟨q3,s3,k3⟩:=Ja q2 [(fT ops t.s).1,t.s.ee.length+4]
 let⟨l4,ag,a1,a2,a3,a4,D4⟩:=q3.D.zgn (p:=t.s.ee.length) (by grind) s3
 refine ec a1 (ec (by rfl) ?_);simp[Re,wBu]at a2;rw[a2,eh];have q4:=q3.step a4 D4 (by simp_all) q.gl q3.hq rfl;have n4:Sm (pH ops t) (n+6):=n2.setArgs _ _;refine ec q4.xj ?_;show cP CS fU [.I ((3:Nat):Int),.ptr L.mM 0,.ptr L.lr 0] ag _;refine yG q4 (by decide) (by decide) ho λZ k5 c=>?_;have c:Dq (fz F2 h2.next) G Z L ops {ny ops t with s:=(num ops (pH ops t) 3).2} R2:=c;have n5:Sm (num ops (pH ops t) 3).2 (n+6):=n4.num 3;have ff:∀l,F l->fz F2 h2.next l:=by grind[rK]
 have kk:=(((k1.gm L.mM).trans k2 f1).trans ((k3.gm L.mM).trans (a4.gm L.mM) (rK _ _)) (by simp_all)).trans k5 ff;show oP (ef .eql 3 (.I ((num ops (pH ops t) 3).1:Nat)) (V.I 0)) _;by_cases hd:(num ops (pH ops t) 3).1=0
 ·refine fx (io ?_);have Y:lM ops t=setArgs (num ops (pH ops t) 3).2 t.s.ee.length [(fT ops t.s).1,(row ops (ny ops t).s).known.getLastD 0]:=by unfold lM;rw[if_pos hd]
  have al:=n5.k;have r:=n5.k0;have ah:(num ops (pH ops t) 3).2.known=(row ops (ny ops t).s).known:=rfl;refine ec (by rfl) (ec c.D.ldV ?_)
  let⟨l3,o3,hl3,_,m1,m2⟩:=c.Jl (i:=(num ops (pH ops t) 3).2.known.length-1) (by grind)
  have m3:ez (.ptr l3 o3) Z=some (.I ((row ops (ny ops t).s).known.getLastD 0:Nat)):=by
   rw[m2,<-ah];show some (V.I (((num ops (pH ops t) 3).2.known.getD _ 0:Nat):Int))=_;rw[CL _ r]
  refine ec c.D.AX (ec c.D.AX (ec c.D.ok.len (vz (by grind) r (ec m1 (ec m3 ?_)))));rw[nx2,gI]
  let⟨v,s6,k6⟩:=Ja c [(fT ops t.s).1,(row ops (ny ops t).s).known.getLastD 0]
  have g6:(Z.new (.cells 3 1 true false (oY [(fT ops t.s).1,(row ops (ny ops t).s).known.getLastD 0]))).get Z.next=_:=fh _ _
  let ⟨l7,h7,b1,b2,b3,b4,D7⟩:=v.D.zgn (p:=t.s.ee.length) (by
   show _<(pH ops t).ee.length
   grind[pH,Fy]) s6
  refine ec b1 (ec (by rfl) ?_);refine⟨by simp_all,gz m3 (fi _ hl3),v.D.AX,v.D.AX,v.D.ldV,?_⟩;simp only[Re,wBu,Jn]at b2;rw[b2,eh];have q7:=pkg (t':={ny ops t with s:=lM ops t}) (v.step b4 D7 (by simp_all) q.gl v.hq rfl) (by rw[Y]);refine⟨b3,H _ _ _ (by grind[rK]) (kk.trans ((k6.gm L.mM).trans (b4.gm L.mM) (rK _ _)) ff) q7 ?_⟩;rw[Y];exact n5.setArgs _ _
 ·refine fx (kw ?_);have Y:lM ops t=(num ops (pH ops t) 3).2:=by unfold lM;rw[if_neg hd]
  exact H _ _ _ ff kk (pkg c (by rw[Y])) (by rw[Y];exact n5)
def uC(u:U)(v b s:V):List V:=[.I u.func,.I u.pc,v,b,s]
def eUn:tq U where
 sz:=5
 rel F h u cs:=∃v b s,cs=uC u v b s/\hD eV F h u.ee v/\hD eK F h u.blocks b/\hD eT F h u.eE s
 len:=λ⟨_,_,_,h,_⟩=>by subst h;rfl
 one:=λ⟨_,_,_,h,a,c,d⟩=>by subst h;simp only[uC,fe,a.one,c.one,d.one];rfl
 fy:=λe ⟨v,n,p,h,a,c,d⟩=>⟨v,n,p,h,a.fy e,c.fy e,d.fy e⟩
 mono:=λf ⟨v,n,p,h,a,c,d⟩=>⟨v,n,p,h,a.mono f,c.mono f,d.mono f⟩
theorem zdv(ops:List Int)(t:Dt):(fork ops t).blocks.length=t.blocks.length+3:=by simp[fork,end_]
theorem zd9(ops:List Int)(t:Dt):(Ai ops t).blocks.length=t.blocks.length+2:=by simp[Ai,end_]
theorem zdg(ops:List Int)(t:Dt):(loop ops t).blocks.length=t.blocks.length+3:=by simp[loop,end_]
theorem zgM{a:List Int}{vo vs nv:V}{b:Nat}(x:ops.length<9223372036854775808)(q:Dq F G h L ops t R)(hn:Sm t.s 30)(hb:t.blocks.length=0)(z:h.get L.lr=some (.cells VY 1 true false [vo,vs,nv]))(X:hD (eI .i64) F h a vs)
  (ag:G b) (Y:b≠L.mM) (Z:∃c,h.get b=some (.cells 34 1 true false c)/\c.length=5)
  (H:∀F' h' R' d,(∀l,F l->F' l)->Kp F (gm G L.mM) h h'->Dq F' G h' L ops d R'->d=end_ {kM ops (a.take 6) t with s:=(fI ops (kM ops (a.take 6) t).s).2} 3 0 [] (fI ops (kM ops (a.take 6) t).s).1 []->
   eJ (gj 5 (.ptr b 0) (.agg [.I 1,.I 2,R'.vv,R'.vb,R'.vs]) h') λ_ f=>oP (fZ 5 (.ptr b 0) f) λr=>Q r f) :
  pC Q (.ptr L.lr 0) (.ptr b 0) (.ptr L.lu 0) (.ptr L.iI 0) (.ptr L.kj 0) (.ptr L.wF 0) (.ptr L.rF 0) (.ptr L.Pq 0) (Nd L) (Mx L) (.I 0) h:=by
 refine Es (λk K M N O P S g j m gL jd h'=>∃F' R',∃i:Nat,∃t',K = .ptr L.lr 0/\M = .ptr b 0/\N = .ptr L.lu 0/\O = .ptr L.iI 0/\P = .ptr L.kj 0/\S = .ptr L.wF 0/\
  g = .ptr L.rF 0/\j = .ptr L.Pq 0/\m=Nd L/\gL=Mx L/\jd = .I i/\i+k=6/\(∀l,F l->F' l)/\Kp F (gm G L.mM) h h'/\Dq F' G h' L ops t' R'/\Sm t'.s (30+30*i)/\t'.blocks.length<=3*i/\
  kM ops ((a.take 6).drop i) t' = kM ops (a.take 6) t) ?_ (k:=6)
  ⟨F,R,0,t,rfl,rfl,rfl,rfl,rfl,rfl,rfl,rfl,rfl,rfl,rfl,rfl,λ_ h=>h,Kp.refl _ _ _,q,hn,by omega,by rw[wBT]⟩
 rintro k K M N O P S g j m gL jd h' ⟨F1,R1,i,d,rfl,rfl,rfl,rfl,rfl,rfl,rfl,rfl,rfl,rfl,rfl,ah,hF,T,o,U,b1,A⟩;unfold pQ;have B:h'.get L.lr=some (.cells VY 1 true false [vo,vs,nv]):=by rw[T.fy _ (.inl q.fr)];exact z
 have C:ez (.ptr L.lr 1) h' = some vs:=lK B rfl;have lv:=o.D.ov.len;have E:=X.fy λl hl=>T.fy l (.inl hl);refine ec (by rfl) (ec C (ec E.len (ec (by rfl) ?_)));have e1:iM (.bool (decide (((i:Nat):Int)<(a.length:Nat)))) (oB (some (V.I i)) λaa=>ef .lss 3 aa (V.I 6))=some (.bool (decide (((i:Nat):Int)<(a.length:Nat))&&decide (((i:Nat):Int)<6))):=by
  simp[ iF]
 refine ec e1 ?_
 have e2:iM (.bool (decide (((i:Nat):Int)<(a.length:Nat))&&decide (((i:Nat):Int)<6))) (oB (fJ 2 (.ptr L.lu 0)) λab=>oB (ez ab h') λac=>oB (fE ac) λad=>ef .lss 3 ad (V.I 160)) =
   some (.bool ((decide (((i:Nat):Int)<(a.length:Nat))&&decide (((i:Nat):Int)<6))&&decide (((d.s.ee.length:Nat):Int)<160))):=by
  simp[ eQ,o.D.ldV,lv]
 refine ec e2 (fX ?_);by_cases hgo:i<a.length/\i<6/\d.s.ee.length<160;rotate_left
 ·
  refine fH (by grind) ?_;have I:d=kM ops (a.take 6) t:=by
   rw[<-A];by_cases hi:i<(a.take 6).length
   ·rw[wAb hi];unfold kM
    grind
   ·rw[wBX (by omega)];rfl
  subst I;refine ec o.L7 ?_;refine PR o x U (by omega) λn f p J u v y=>?_;have eB:∀sn,fq [V.ed,(V.I 0),(V.I 0),V.ed,V.ed,(V.I 0)] ge [(1,(V.I 3)),(5,.I (sn:Nat))]=some (.agg (pR ⟨[],3,0,[],[],sn⟩ .ed .ed .ed)):=λ_=>rfl;refine ec (eB _) ?_;refine Xv v (show(kM ops (a.take 6) t).blocks.length<_ by omega) ⟨[],3,0,[],[],_⟩ rfl rfl rfl .nil λF3 h3 R3 f3 k3 W=>?_;have lA:=IP W.D.gu rfl;refine ec lA ?_;have kk:=(T.trans u hF).trans (k3.gm L.mM) (by simp_all);exact H F3 h3 R3 _ (by grind) kk W rfl
 let⟨g1,g2,g3⟩:=hgo
 refine fO (by grind) ?_
 let⟨l4,o4,u4,_,i1,i2,i3⟩:=E.Yt g1 .i64 rfl
 obtain⟨rfl⟩:u4 = .I a[i]:=by simpa using i3.1
 refine ec (by rfl) (ec C (ec i1 (ec i2 ?_)));show cP CS iR [.I a[i],.I ((3:Nat):Int)] h' _;refine Pu (by decide) (by decide) ?_;have ae:i<(a.take 6).length:=by rw[TV];omega
 have w:kM ops ((a.take 6).drop (i+1)) (um ops (jC a[i] 3) d)=kM ops (a.take 6) t:=by
  rw[<-A,wAb ae]
  conv=>rhs;unfold kM
  rw[if_pos g3,wBy]
 have fin:∀n f p,(∀l,F1 l->n l)->Kp F1 (gm G L.mM) h' f->Dq n G f L ops (um ops (jC a[i] 3) d) p->Sm (um ops (jC a[i] 3) d).s (30+30*i+30)->(um ops (jC a[i] 3) d).blocks.length<=3*(i+1)->
   jU Q (λK M N O P S g j m gL jd hh=>∃k',k' < k/\∃F' R',∃i:Nat,∃t',K = .ptr L.lr 0/\M = .ptr b 0/\N = .ptr L.lu 0/\O = .ptr L.iI 0/\P = .ptr L.kj 0/\S = .ptr L.wF 0/\
    g = .ptr L.rF 0/\j = .ptr L.Pq 0/\m=Nd L/\gL=Mx L/\jd = .I i/\i+k' = 6/\(∀l,F l->F' l)/\Kp F (gm G L.mM) h hh/\Dq F' G hh L ops t' R'/\Sm t'.s (30+30*i)/\t'.blocks.length<=3*i/\
    kM ops ((a.take 6).drop i) t' = kM ops (a.take 6) t) (.ptr L.lr 0) (.ptr b 0) (.ptr L.lu 0) (.ptr L.iI 0) (.ptr L.kj 0) (.ptr L.wF 0) (.ptr L.rF 0) (.ptr L.Pq 0) (Nd L) (Mx L) (.I i) f:=by
  intro n f p J u v y b2;refine Dv ?_;unfold oH;refine fG ?_;exact⟨k-1,by omega,n,p,i+1,_,rfl,rfl,rfl,rfl,rfl,rfl,rfl,rfl,rfl,rfl,rfl,by omega,by simp_all,T.trans u hF,v,y,b2,w⟩
 by_cases c0:jC a[i] 3=0
 ·refine fx (io ?_);have e:um ops (jC a[i] 3) d=fork ops d:=by unfold um;rw[if_pos c0]
  rw[e]at fin;refine zej o x U (by omega) (by omega) λn f p J u v y=>?_
  grind[zdv]
 refine fx (kw ?_);by_cases c1:jC a[i] 3=1
 ·refine fx (io ?_);have e:um ops (jC a[i] 3) d=loop ops d:=by unfold um;rw[if_neg c0,if_pos c1]
  rw[e]at fin;refine zdp o x U (by omega) (by omega) λn f p s6 J u v y e6 _=>?_;subst e6;refine zdT x y (by omega) (by omega) v λF3 h3 R3 f3 k3 W n3=>?_;refine CX ?_;unfold oD;refine zd3 x n3 (by omega) (by omega) W λF4 h4 R4 f4 k4 q4 n4=>?_;exact fin F4 h4 R4 (by grind) ((u.trans k3 J).trans k4 (by simp_all)) q4 (n4.le (by omega)) (by grind[zdg])
 ·refine fx (kw ?_);have e:um ops (jC a[i] 3) d=Ai ops d:=by unfold um;rw[if_neg c0,if_neg c1]
  rw[e]at fin;refine zd6 o x U (by omega) (by omega) λn f p J u v y=>?_
  grind[zd9]
variable{lu iI kj:Nat}
theorem UT{x:Vl}{w:List V}(D:Dw F G h lu iI kj t R)(hq:R.cc=R.vc)(r:eV.rel F h x w)(hv:t.s.ee.length<1000)(hc:t.s.cur.length<1000)(I:t.s.known.length<1000){K:Hp->Prop}
  (H:∀h' R',Kp F G h h'->Dw F G h' lu iI kj {t with s:=il t.s x} R'->R'.cc=R'.vc->K h') :
  cP CS gF [.agg w,.ptr lu 0,.ptr kj 0] h λc a=>(h.next<=a.next/\uj (iO 3 1 1 (V.I 0) [(0,c)]) a λo d b=>((b.get a.next=some o/\O.beq o o=true)/\(ez (.ptr iI 0) b=some R.vk/\eJ (fg 3 1 8 R.vk d b) λe f=>(b.next<=f.next/\eJ (gj 1 (.ptr iI 0) e f) λ_ m=>(f.next<=m.next/\K m))))):=by
 refine X3 D hq r hv hc λg J n p i j=>⟨n.next,?_⟩
 rw[<-j];have u:iO 3 1 1 (V.I 0) [(0,V.I t.s.ee.length)]=some (.cells 3 1 true false [V.I t.s.ee.length],λl=> .slice l 0 1):=rfl;rw[u,gI];have q:=p.grow (uE.new g (.cells 3 1 true false [V.I t.s.ee.length]));have v:mV (g.new (.cells 3 1 true false [V.I t.s.ee.length])) 1 (.slice g.next 0 1)=some (1,[V.I t.s.ee.length]):=rP rfl
 let⟨v',L,a,y,z,A,B,C,D4⟩:=q.zfJ (ys:=[t.s.ee.length]) v ⟨[V.I t.s.ee.length],[],rfl,rfl,trivial⟩ rfl rfl (by simp) (by show t.s.known.length+1<_;omega)
 have k:=y;refine⟨by grind[fh,O.jS],q.AX,?_⟩;simp[k,eh,A];have E:=(p.Kz (.cells 3 1 true false [V.I t.s.ee.length])).trans C λ_ h=>h;exact⟨z,B,H _ _ (n.trans E λ_ h=>h) D4 i⟩
theorem zeG{cs:List Pc}{d:List Int}{np:Int}{u vs:V}(H0:ej F h cs)(K:hD (eI .i64) F h ops u)(L:hD (eI .i64) F h d vs)(ho:ops.length<9223372036854775808)
  (H:∀F' h' w,Sn F h F' h'->ej F' h' cs->eUn.rel F' h' (Ao ops d np) w->Q (.agg w) h'):cP CS nY [.agg [u,vs,.I np]] h Q:=by
 refine Iu ?_;have o1:gi [u,vs,.I np]=true:=by simp[K.one,L.one];rfl
 rw[Jy o1,fK,fK];obtain⟨H1,s1⟩:=H0.xC 24 [u,vs,.I np];obtain⟨Hf,I⟩:=H1.Co 0 rfl;have A:(h.new (.cells 24 1 true false [u,vs,.I np])).get h.next=some (.cells 24 1 true false [u,vs,.I np]):=fh _ _;have H1:ej (λl=>F l\/l=h.next) (h.new (.cells 24 1 true false [u,vs,.I np])) cs:=Hf.tail;have s1:=s1.trans I;generalize h.new (.cells 24 1 true false [u,vs,.I np])=h1 at*;generalize h.next=lr at*;obtain⟨H2,s2⟩:=H1.xC 34 [(V.I 0),(V.I 0),V.ed,V.ed,V.ed];generalize h1.new (.cells 34 1 true false [(V.I 0),(V.I 0),V.ed,V.ed,V.ed])=h2 at*;generalize h1.next=a at*;refine ec (show _=some (V.agg [.I 1,.I 2,.ed,.ed,.ed]) from rfl) (zcQ H2 rfl rfl rfl λh4 H4 s4=>?_);have g:=s2.trans s4;refine ec (by rfl) (ec (lK ((g.fy lr (.inr rfl)).trans A) rfl) ?_);show cP CS iR [.I np,.I ((5:Nat):Int)] h4 _;refine Pu (by decide) (by decide) ?_;rw[fK];obtain⟨H5,s5⟩:=H4.xC 22 [V.ed];generalize h4.new (.cells 22 1 true false [V.ed])=h5 at*;refine ec (show _=some (V.agg [V.ed,(V.I 0),(V.I 0),V.ed,V.ed,(V.I 0)]) from rfl) (zcQ H5 rfl rfl rfl λh7 H7 s7=>YT H7 rfl λM H9 s9=>?_);obtain⟨Hf,I⟩:=H9.Co 0 rfl;have xN:M.get h7.next=some (.cells 82 1 true false [.func gF [] [.ptr h2.next 0,.ptr h5.next 0]]):=H9.get 0 rfl;have o:=(((g.trans s5).trans s7).trans s9).trans I;generalize h2.next=lu at*;generalize h4.next=iI at*;generalize h5.next=kj at*;generalize h7.next=wF at*;have N:∀{α:Type} (E:tq α) (ty:Nat),(ft E ty ([]:List α) .ed).ok (λl=>(F l\/l=lr)\/l=wF) M:=λ_ _=> .inl ⟨rfl,rfl⟩;have D9:=Dw.mk' (t:=⟨⟨[],[],[],[],0⟩,[],[]⟩) (R:=⟨.ed,.ed,.ed,.ed,.ed,.ed,.ed⟩) (((((((Hf.add (p:=zca eN [] .ed) .nil λ_ h=>h).add (N eN fN) λ_ h=>h).add (N eN fN) λ_ h=>h).add (N eT Pw) λ_ h=>h).add (N eK AI) λ_ h=>h).add (N eV Ay) λ_ h=>h).perm [9,8,7,0,1,2,3,4,5] 10 (by decide) (by decide) (by simp));have Hc:ej _ M (eD a 34 [(V.I 0),(V.I 0),V.ed,V.ed,V.ed]::cs):=Hf.perm [] 4 (by simp) (by simp) (by simp);have y:=(o.fy lr (.inr rfl)).trans A;have q:=s1.trans o;have O:=(K.fy q.fy).mono q.mono;have P:=(L.fy q.fy).mono q.mono
 change Dw _ (OM (eD a 34 [(V.I 0),(V.I 0),V.ed,V.ed,V.ed]::cs)) _ _ _ _ _ _ at D9
 clear A o g s9 s7 s5 s2 s4 I H9 H7 H5 H4 H2 H1;have aq:=zq np (m:=5) (by decide)
 refine Ei (λk x1 x2 x3 x4 x5 x6 x7 x8 J=>∃R' i s,x1 = .ptr lr 0/\x2 = .ptr a 0/\x3 = .ptr lu 0/\x4 = .I (jC np 5:Nat)/\x5 = .ptr iI 0/\x6 = .ptr kj 0/\x7 = .ptr wF 0/\x8 = .I (i:Nat)/\
  i+k=jC np 5/\Kp (λl=>(F l\/l=lr)\/l=wF) (OM (eD a 34 [(V.I 0),(V.I 0),V.ed,V.ed,V.ed]::cs)) M J/\Dw (λl=>(F l\/l=lr)\/l=wF) (OM (eD a 34 [(V.I 0),(V.I 0),V.ed,V.ed,V.ed]::cs)) J lu iI kj ⟨s,[],[]⟩ R'/\R'.cc=R'.vc/\
  s.ee.length=i/\s.cur.length=i/\s.known.length=i/\s.eE=[]/\params k i s=params (jC np 5) 0 ⟨[],[],[],[],0⟩/\s.pos=0) ?_
  ⟨_,0,⟨[],[],[],[],0⟩,rfl,rfl,rfl,rfl,rfl,rfl,rfl,rfl,by omega,Kp.refl _ _ _,D9,rfl,rfl,rfl,rfl,rfl,rfl,rfl⟩
 rintro k x1 x2 x3 x4 x5 x6 x7 x8 J ⟨R1,i,s,rfl,rfl,rfl,rfl,rfl,rfl,rfl,rfl,ar,B,D,hq,s1,s2,s3,s4,hp,z⟩;unfold pK;have S:ez (.ptr wF 0) J=some (.func gF [] [.ptr lu 0,.ptr kj 0]):=lK (by rw[B.fy _ (.inl (.inr rfl))];exact xN) rfl;by_cases G6:i<jC np 5
 ·refine gy ?_;refine ec D.AX (ec S ?_);have eP:∀i,fq [(V.I 0),(V.I 0),(V.I 0),(V.I 0),V.ed,(V.I 0)] ge [(0,(V.I 1)),(3,.I (i:Nat))]=some (.agg (yM (vl 1 0 0 (i:Nat) [] 0) .ed)):=λ_=>rfl;refine ec (eP _) ?_;show cP CS gF [.agg (yM (vl 1 0 0 (i:Nat) [] 0) .ed),.ptr lu 0,.ptr kj 0] J _;refine UT D hq ⟨_,rfl,.nil⟩ (by show s.ee.length<_;omega) (by show s.cur.length<_;omega) (by show s.known.length<_;omega) λC R2 k2 D2 G=>?_;refine fG ?_;obtain⟨k',rfl⟩:∃k',k=k' + 1:=⟨k-1,by omega⟩
  exact⟨k',by omega,R2,i+1,il s (vl 1 0 0 (i:Nat) [] 0),rfl,rfl,rfl,rfl,rfl,rfl,rfl,rfl,by omega,B.trans k2 λ_ h=>h,D2,G,by simp[il,s1],by simp[il,s2],by simp[il,s3],s4,by rw[<-hp];rfl,z⟩
 refine iA ?_;obtain rfl:k=0:=by omega
 have hs:s=params (jC np 5) 0 ⟨[],[],[],[],0⟩:=hp;refine ec D.AX (ec S ?_);refine ec (show _=some (V.agg (yM (vl 2 0 0 5 [] 0) .ed)) from rfl) ?_;show cP CS gF [.agg (yM (vl 2 0 0 5 [] 0) .ed),.ptr lu 0,.ptr kj 0] J _;refine UT D hq ⟨_,rfl,.nil⟩ (by show s.ee.length<_;omega) (by show s.cur.length<_;omega) (by show s.known.length<_;omega) λC R2 k2 D2 G=>?_;have kq:=B.trans k2 λ_ h=>h;have sq:Sn _ M _ C:=⟨kq.next,λl hl=>kq.fy l (.inl hl),λ_ h=>h⟩
 refine YT (D2.back Hc sq λc hc l hl=>⟨⟨c,hc,hl⟩,kq.fy l (.inr ⟨c,hc,hl⟩)⟩) rfl λac ad ae=>YT ad rfl λag T g=>?_;obtain⟨Hn,sn⟩:=T.Co 0 rfl;have gn:=T.get 0 rfl;refine YT Hn.tail rfl λv U W=>?_;obtain⟨Hs,ss⟩:=U.Co 0 rfl;have gs:=U.get 0 rfl;have I:=((ae.trans g).trans sn).trans (W.trans ss);have X:=(W.fy _ (.inr rfl)).trans gn;have b:=sq.trans I;generalize C.next=mM at*;generalize ac.next=Y at*;generalize ag.next=Pq at*;have D8:=Dw.mk' (Hs.tail.perm [1,2,3,4,5,6,7,8,9,0] 10 (by decide) (by decide) (by simp));have Hl:ej _ v (eD mM 3 [V.I 0]::eD a 34 [(V.I 0),(V.I 0),V.ed,V.ed,V.ed]::cs):=Hs.tail.perm [0] 10 (by decide) (by decide) (by simp);have Z:OM (eD mM 3 [V.I 0]::eD a 34 [(V.I 0),(V.I 0),V.ed,V.ed,V.ed]::cs) a:=⟨_,.tail _ (.head _),rfl⟩
 have r:∀c∈eD a 34 [(V.I 0),(V.I 0),V.ed,V.ed,V.ed]::cs,∀l,c.pS l->l≠mM:=λc hc l hl e=>by
  let⟨j,hj⟩:=mz.1 hc
  exact Hl.Hj 0 (j+1) _ c rfl hj (by omega) l e hl
 have q8:Dq _ _ v ⟨lr,lu,iI,kj,wF,mM,Y,Pq⟩ ops ⟨il s (vl 2 0 0 5 [] 0),[],[]⟩ R2:=
  { D:=D8
    hq:=G
    gl:=⟨_,.head _,rfl⟩
    ga:=by rw[show((⟨il s (vl 2 0 0 5 [] 0),[],[]⟩:Dt).s.pos:Nat)=0 from z];exact Hl.get 0 rfl
    fr:= .inl (.inl (.inl (.inr rfl)))
    gr:=⟨u,vs,.I np,(b.fy lr (.inl (.inr rfl))).trans y,(O.fy b.fy).mono b.mono⟩
    fp:= .inl (.inl (.inr rfl))
    gp:=⟨_,(b.fy wF (.inr rfl)).trans xN⟩
    fn:= .inl (.inr rfl)
    gn:=⟨_,X⟩
    fs:= .inr rfl
    gs:=⟨_,gs⟩ }
 have ah:Sm (il s (vl 2 0 0 5 [] 0)) 10:=⟨by simp[il];omega,by simp[il];omega,by simp[il];omega,by simp[il,s4],by simp[il]⟩
 show gP CS (gh (Nd ⟨lr,lu,iI,kj,wF,mM,Y,Pq⟩) []) v _;refine HD q8 ho ah (by omega) λF9 au R9 f9 k9 q9 n9=>?_
 refine zgM ho q9 (n9.le (by omega)) rfl ((k9.fy _ (.inl q8.fr)).trans ((b.fy lr (.inl (.inr rfl))).trans y)) ((((P.fy b.fy).mono b.mono).fy λl hl=>k9.fy l (.inl hl)).mono f9) Z (r _ (.head _) _ rfl)
  ⟨_,(k9.fy _ (.inr ⟨Z,r _ (.head _) _ rfl⟩)).trans (Hl.get 1 rfl),rfl⟩ λai aj f t1 ak al x am=>?_
 have B:=k9.trans al f9;have aa:Sn _ v ai aj:=⟨B.next,λl hl=>B.fy l (.inl hl),λl hl=>ak l (f9 l hl)⟩
 have an:=x.D.back Hl.tail aa λc hc l hl=>⟨⟨c,.tail _ hc,hl⟩,B.fy l (.inr ⟨⟨c,.tail _ hc,hl⟩,r c hc l hl⟩)⟩
 have ow:gi [.I 1,.I 2,f.vv,f.vb,f.vs]=true:=by simp only[fe,x.D.ov.one,x.D.ob.one,x.D.os.one];rfl
 let⟨aw,ao,_,ab,o⟩:=an.Tw (n:=5) 9 rfl rfl rfl ow
 rw[ao,eh];refine ec (ab.tj 9 rfl rfl) ?_
 let⟨Hv,sv,rv⟩:=ab.hY 3 rfl
 let⟨Hb,sb,rb⟩:=Hv.hY 4 rfl
 let⟨Hs,ss,rs⟩:=Hb.hY 5 rfl
 refine H _ _ _ (q.trans (b.trans (aa.trans (o.trans (sv.trans (sb.trans ss)))))) (Hs.perm [] 10 (by simp) (by simp) (by simp)) ?_;have eu:Ao ops d np=⟨1,2,t1.s.ee,t1.blocks,t1.s.eE⟩:=by
  rw[am];unfold Ao;rw[hs]
 rw[eu];exact⟨f.vv,f.vb,f.vs,rfl,rv.mono λ_ h=> .inl (.inl h),rb.mono λ_ h=> .inl h,rs⟩
