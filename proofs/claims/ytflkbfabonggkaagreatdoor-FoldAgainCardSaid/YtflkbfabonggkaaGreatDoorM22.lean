/- Parts. -/
import Derived.Test.YtflkbfabonggkaaGreatDoorM21
set_option maxHeartbeats 4000000
namespace Go.Proofs.YtflkbfabonggkaaGreatDoor.Hx
open Un
section
variable{F F' G G':Nat->Prop}{h h':Hp}{L:Lc}{ops:List Int}{t t':Dt}{R R':Rw}{Q:ft}
theorem Sm.app{s:Ds}{n:Nat}(a:Sm s n)(ys:List Nat):Sm {s with known:=s.known++ys} (n+ys.length):=
 ⟨by have:=a.v;grind,by have:=a.c;grind,by have:=a.k;simp_all,by have:=a.st;grind,by have:=a.k0;grind⟩
theorem MU:∀ys:List Nat,gj (gP ys)=true
 |[]=>rfl
 |y::ys=>by show gj (V.I y::gP ys)=true;rw[ey,MU ys];rfl
theorem Yg(q:Dq F G h L ops t R){n:Nat}(e:Sm t.s n)(f:n<1000)(ys:List Nat)(g:0<ys.length)(i:ys.length<=5){ps:Option (O×(Nat->V))}(j:ps=some (O.cells 3 1 true false (gP ys),λl=> .slice l 0 ys.length)){K:Hp->Prop}
  (H:∀h' R',Kp F G h h'->Dq F G h' L ops {t with s:={t.s with known:=t.s.known++ys} } R'->K h') :
  oP (ez (.ptr L.iq 0) h) λa=>ig ps h λv m=>fi (eR 3 1 8 a v m) λw o=>fi (gI 1 (.ptr L.iq 0) w o) λ_ b=>K b:=by
 subst j;refine ed q.D.AD ?_;rw[fx];have p:=q.D.grow (lN.new h (.cells 3 1 true false (gP ys)));have C:(gP ys).length=ys.length:=by simp[gP]
 obtain⟨new,r,u⟩:=EY (n:=ys.length) (off:=0) (sz:=1) (fg h (.cells 3 1 true false (gP ys))) (by omega);have x:new=gP ys:=by rw[u,ZV,ZU (by omega)]
 subst x;have hk:=e.k;have y:gj (gP ys)=true:=MU ys;obtain⟨z,b,E,a1,a2,a3,I,A,B⟩:=p.zct (ys:=ys) r (wF _ _ ys) (by omega) y g (by omega);have c:eR 3 1 8 R.vk (.slice h.next 0 ys.length) (h.new (.cells 3 1 true false (gP ys)))=some (.val z b):=a1;rw[c,ei,a3,ei];have d:=(q.D.zO (.cells 3 1 true false (gP ys))).trans A λ_ h=>h;exact H _ _ d (q.step d B (by grind) q.gl q.hq rfl)
theorem NI(q:Dq F G h L ops t R){n:Nat}(c:Sm t.s n)(b:n<999)(x:Vl){w:V}{a:V}(d:iy eN F h x.args a)(e:w = .agg (my x a)){K:ft}
  (H:∀h' R',Kp F G h h'->R'.vk=R.vk->Dq F G h' L ops {t with s:=put t.s x} R'->K (.I t.s.ef.length) h'):hH CS (gh (zcb L) [w]) h K:=by
 subst e;show cP CS fu [.agg (my x a),.ptr L.lu 0,.ptr L.jw 0] h K;exact Kd q c b ⟨a,rfl,d⟩ H
def MQ(ops:List Int)(t:Dt):Dt:=end_ {t with s:=(fJ ops t.s).2} 1 0 [t.blocks.length+1] 0 [t.blocks.length,t.blocks.length+2]
def PZ(ops:List Int)(t:Dt):Ds:=put (MQ ops t).s (vl 21 0 0 0 [(fJ ops t.s).1,0] 0)
def De(ops:List Int)(t:Dt):Nat:=(fJ ops (PZ ops t)).1
def QO(ops:List Int)(t:Dt):Ds:=put (fJ ops (PZ ops t)).2 (vl 21 0 0 0 [De ops t,t.s.ef.length] 0)
def Qo(ops:List Int)(t:Dt):Ds:={QO ops t with known:=(QO ops t).known++[t.s.ef.length,t.s.ef.length+1]}
def PH(ops:List Int)(t:Dt):Ds:=put (fF ops (Qo ops t)).2 (vl 23 0 0 0 [] (fF ops (Qo ops t)).1)
def pj(ops:List Int)(t:Dt):Ds:=iP (put (PH ops t) (vl 2 0 0 1 [] 0)) (vl 4 t.s.ef.length (t.s.ef.length+3) 0 [] 0)
def mD(ops:List Int)(t:Dt):Dt:=end_ {MQ ops t with s:=pj ops t} 2 t.s.ef.length [t.blocks.length+2,t.blocks.length+3] 0 [t.blocks.length+1]
def oi(ops:List Int)(t:Dt):Ds:=setArgs (row ops (mD ops t).s) t.s.ef.length [(fJ ops t.s).1,t.s.ef.length+4]
def lJ(ops:List Int)(t:Dt):Ds:=if(num ops (oi ops t) 3).1=0 then setArgs (num ops (oi ops t) 3).2 t.s.ef.length [(fJ ops t.s).1,(row ops (mD ops t).s).known.getLastD 0] else(num ops (oi ops t) 3).2
def D2(ops:List Int)(t:Dt):Ds:=setArgs (lJ ops t) (t.s.ef.length+1) [De ops t,(row ops (mD ops t).s).known.getLastD 0]
def Ro(ops:List Int)(t:Dt):Dt:=end_ {mD ops t with s:=cut (pj ops t).known.length (D2 ops t)} 1 0 [t.blocks.length+1] 0 [t.blocks.length+1]
theorem Ll(ops:List Int)(t:Dt):∃x,(PH ops t).ef=t.s.ef++[vl 21 0 0 0 [(fJ ops t.s).1,0] 0,vl 21 0 0 0 [De ops t,t.s.ef.length] 0,x]:=by
 refine⟨vl 23 0 0 0 [] (fF ops (Qo ops t)).1,?_⟩;unfold PH;rw[put,(C9 ops (Qo ops t)).1];show(QO ops t).ef++[_]=_;unfold QO;show((PZ ops t).ef++[_])++[_]=_;unfold PZ;show(((MQ ops t).s.ef++[_])++[_])++[_]=_;simp only[LY,List.singleton_append,List.cons_append,SO];rfl
theorem VL(ops:List Int)(t:Dt):loop ops t = {Ro ops t with s:=row ops (Ro ops t).s}:=by
 obtain⟨x,a⟩:=Ll ops t;have e:(PH ops t).ef.length=t.s.ef.length+3:=by rw[a];simp
 unfold Ro D2 lJ oi mD pj;rw[show t.s.ef.length+4=(t.s.ef.length+3)+1 from rfl,<-e];rfl
theorem zaD(q:Dq F G h L ops t R)(ho:ops.length<9223372036854775808){n:Nat}(hn:Sm t.s n)(cB:n<800)(hb:t.blocks.length<900){K:Qg}
  (H:∀F' h' R' d,(∀l,F l->F' l)->Kp F (gm G L.nr) h h'->Dq F' G h' L ops (end_ {MQ ops t with s:=d} 2 t.s.ef.length [t.blocks.length+2,t.blocks.length+3] 0 []) R'->Sm d (n+10)->
   d=pj ops t->
   d.ef.length=t.s.ef.length+5->
   K (.I ((fJ ops t.s).1:Nat)) (.I (t.blocks.length+1:Nat)) (.I t.s.ef.length) (.I ((t.s.ef.length+1:Nat):Int)) (.I ((t.s.ef.length+4:Nat):Int)) (.I ((t.blocks.length+1:Nat):Int)) h') :
  oP (ez (.ptr L.iq 0) h) λN=>
  oP (ez (.ptr L.qa 0) h) λak=>
  oP (ez (.ptr L.iq 0) h) λal=>
  oP (fE al) λam=>
  hH CS (gh ak [am]) h λan j=>
  (h.next<=j.next/\
  oP (gz 1 N an) λao=>
  oP (ez ao j) λP=>
  ((ez (.ptr L.iq 0) j=some N)/\
  oP (fH 3 (.ptr L.lu 0)) λap=>
  oP (ez ap j) λaq=>
  oP (fE aq) λar=>
  oP (en .add 3 ar (V.I 1)) λau=>
  ig (jr 3 1 1 (V.I 0) [(0,au)]) j λaw bE=>
  oP (fV [V.ee,(V.I 0),(V.I 0),V.ee,V.ee,(V.I 0)] [(0,1),(1,1),(2,1),(3,1),(4,1),(5,1)] [(1,(V.I 1)),(3,aw)]) λax=>
  hH CS (gh (JJ L) [ax]) bE λQ bG=>
  oP (en .add 3 Q (V.I 1)) λc=>
  oP (en .add 3 c (V.I 1)) λay=>
  ig (jr 3 1 2 (V.I 0) [(0,Q),(1,ay)]) bG λaA bH=>
  oP (fH 4 (.ptr L.jw 0)) λaB=>
  fi (gI 1 aB aA bH) λcx aC=>
  oP (ez (.ptr L.z6 0) aC) λaD=>
  ig (jr 3 1 2 (V.I 0) [(0,P),(1,(V.I 0))]) aC λaE bI=>
  oP (fV [(V.I 0),(V.I 0),(V.I 0),(V.I 0),V.ee,(V.I 0)] [(0,1),(1,1),(2,1),(3,1),(4,1),(5,1)] [(0,(V.I 21)),(4,aE)]) λaF=>
  hH CS (gh aD [aF]) bI λa e=>
  oP (ez (.ptr L.z6 0) e) λS=>
  oP (ez (.ptr L.iq 0) e) λT=>
  oP (ez (.ptr L.qa 0) e) λaG=>
  oP (ez (.ptr L.iq 0) e) λaH=>
  oP (fE aH) λaI=>
  hH CS (gh aG [aI]) e λaJ w=>
  (e.next<=w.next/\
  oP (gz 1 T aJ) λU=>
  oP (ez U w) λW=>
  yn (jr 3 1 2 (V.I 0) [(0,W),(1,a)]) w λo9 aK f=>
  oP (fV [(V.I 0),(V.I 0),(V.I 0),(V.I 0),V.ee,(V.I 0)] [(0,1),(1,1),(2,1),(3,1),(4,1),(5,1)] [(0,(V.I 21)),(4,aK)]) λaL=>
  ((f.get (w.next)=some o9/\O.beq o9 o9=true)/\
  ((ez U f=some W)/\
  ((ez (.ptr L.iq 0) f=some T)/\
  ((ez (.ptr L.z6 0) f=some S)/\
  hH CS (gh S [aL]) f λX ab=>
  (f.next<=ab.next/\
  oP (ez (.ptr L.iq 0) ab) λaM=>
  ig (jr 3 1 2 (V.I 0) [(0,a),(1,X)]) ab λaN bJ=>
  fi (eR 3 1 8 aM aN bJ) λaO bK=>
  fi (gI 1 (.ptr L.iq 0) aO bK) λcy z=>
  oP (ez (.ptr L.z6 0) z) λY=>
  oP (ez (.ptr L.VV 0) z) λaP=>
  hH CS (gh aP []) z λaQ A=>
  (z.next<=A.next/\
  oP (fV [(V.I 0),(V.I 0),(V.I 0),(V.I 0),V.ee,(V.I 0)] [(0,1),(1,1),(2,1),(3,1),(4,1),(5,1)] [(0,(V.I 23)),(5,aQ)]) λaR=>
  ((ez (.ptr L.z6 0) A=some Y)/\
  hH CS (gh Y [aR]) A λcz ac=>
  (A.next<=ac.next/\
  oP (ez (.ptr L.z6 0) ac) λaS=>
  oP (fV [(V.I 0),(V.I 0),(V.I 0),(V.I 0),V.ee,(V.I 0)] [(0,1),(1,1),(2,1),(3,1),(4,1),(5,1)] [(0,(V.I 2)),(3,(V.I 1))]) λaT=>
  hH CS (gh aS [aT]) ac λaU aV=>
  oP (ez (.ptr L.z6 0) aV) λaW=>
  oP (fV [(V.I 0),(V.I 0),(V.I 0),(V.I 0),V.ee,(V.I 0)] [(0,1),(1,1),(2,1),(3,1),(4,1),(5,1)] [(0,(V.I 4)),(1,a),(2,aU)]) λaX=>
  hH CS (gh aW [aX]) aV λZ aY=>
  oP (ez (.ptr L.iq 0) aY) λaZ=>
  ig (jr 3 1 1 (V.I 0) [(0,Z)]) aY λa4 bL=>
  fi (eR 3 1 8 aZ a4 bL) λa5 bQ=>
  fi (gI 1 (.ptr L.iq 0) a5 bQ) λcA bR=>
  oP (en .add 3 c (V.I 1)) λa6=>
  oP (en .add 3 c (V.I 2)) λa7=>
  ig (jr 3 1 2 (V.I 0) [(0,a6),(1,a7)]) bR λa8 bS=>
  oP (fV [V.ee,(V.I 0),(V.I 0),V.ee,V.ee,(V.I 0)] [(0,1),(1,1),(2,1),(3,1),(4,1),(5,1)] [(1,(V.I 2)),(2,a),(3,a8)]) λa9=>
  hH CS (gh (JJ L) [a9]) bS λba bU=>K P c a X Z ba bU)))))))))))
   :=by
 have cC:=hn.k0;have hk:=hn.k;have hv:=hn.v;refine Ty q ho hn (by omega) λh2 k2 q2=>?_;refine ed (by rfl) (ed q2.D.ldB (ed q2.D.ob.len (kZ (m:=1) (show t.blocks.length<_ by omega) (by omega) ?_)));have n2:Sm (fJ ops t.s).2 n:=hn.one;refine EZ q2 (show t.blocks.length<_ by omega) 1 0 [t.blocks.length+1] 0 rfl (λ_=>rfl) λF4 h4 R4 f4 k4 q4=>?_;refine kZ (n:=t.blocks.length) (m:=1) (by omega) (by omega) ?_;refine kZ (n:=t.blocks.length+1) (m:=1) (by omega) (by omega) ?_;refine yW q4 [t.blocks.length,t.blocks.length+2] rfl λF6 h6 R6 f6 k6 q6=>?_;have q6:=Xw (t':=end_ {t with s:=(fJ ops t.s).2} 1 0 [t.blocks.length+1] 0 [t.blocks.length,t.blocks.length+2]) q6 rfl;have n6:Sm (end_ {t with s:=(fJ ops t.s).2} 1 0 [t.blocks.length+1] 0 [t.blocks.length,t.blocks.length+2]).s n:=n2.end_ (t:={t with s:=(fJ ops t.s).2}) _ _ _ _ _;have bV:(end_ {t with s:=(fJ ops t.s).2} 1 0 [t.blocks.length+1] 0 [t.blocks.length,t.blocks.length+2]).blocks.length=t.blocks.length+1:=by simp[end_]
 have bb:(end_ {t with s:=(fJ ops t.s).2} 1 0 [t.blocks.length+1] 0 [t.blocks.length,t.blocks.length+2]).s.ef.length=t.s.ef.length:=rfl;have kA:=kgm k2 (k4.trans k6 f4) λ_ h=>h;have fA:∀l,F l->F6 l:=by simp_all
 generalize bW:end_ {t with s:=(fJ ops t.s).2} 1 0 [t.blocks.length+1] 0 [t.blocks.length,t.blocks.length+2]=b at*;clear q2 q4 k2 k4 k6;generalize bX:(fJ ops t.s).1=fr at*;refine ed q6.pE ?_;have e3:∀x y:Nat,jr 3 1 2 (V.I 0) [(0,V.I (x:Nat)),(1,V.I (y:Nat))]=some (.cells 3 1 true false (gP [x,y]),λl=> .slice l 0 2):=λ_ _=>rfl;have bY:jr 3 1 2 (V.I 0) [(0,V.I fr),(1,V.I 0)]=some (.cells 3 1 true false (gP [fr,0]),λl=> .slice l 0 2):=e3 fr 0;rw[bY,fx];obtain⟨q7,s7,k7⟩:=Gu q6 [fr,0];generalize h6.new (.cells 3 1 true false (gP [fr,0]))=h7 at*;have eP:∀(x y n:Nat),fV [(V.I 0),(V.I 0),(V.I 0),(V.I 0),V.ee,(V.I 0)] [(0,1),(1,1),(2,1),(3,1),(4,1),(5,1)] [(0,(V.I 21)),(4,.slice n 0 2)]=some (.agg (my (vl 21 0 0 0 [x,y] 0) (.slice n 0 2))):=λ_ _ _=>rfl;refine ed (by rfl) ?_;refine NI q7 n6 (by omega) (vl 21 0 0 0 [fr,0] 0) s7 rfl λh8 R8 k8 _ q8=>?_;have n8:=n6.put (vl 21 0 0 0 [fr,0] 0);have bZ:(put b.s (vl 21 0 0 0 [fr,0] 0)).ef.length=t.s.ef.length+1:=by simp[put,bb]
 rw[bb];generalize b4:put b.s (vl 21 0 0 0 [fr,0] 0)=s1 at*;have kB:Kp F (gm G L.nr) h h8:=kA.trans ((k7.gm L.nr).trans (k8.gm L.nr) (pU _ _)) fA;have fB:∀l,F l->fz F6 h6.next l:=by grind[pU]
 clear kA k7 k8 q6 q7 s7;refine ed q8.pE (ed q8.D.AD (ed q8.xB (ed q8.D.AD (ed q8.D.ok.len ?_))));show cP CS fk [.I s1.known.length,.ptr L.nr 0,.ptr L.lr 0] h8 _;refine MD q8 ho n8 (by omega) λB l9 o9 k9 q9 b5 i1 i2=>⟨k9.next,ed i1 (ed i2 ?_)⟩
 have i2:ez (.ptr l9 o9) B=some (.I ((fJ ops s1).1:Nat)):=i2;have q9:Dq (fz F6 h6.next) G B L ops {b with s:=(fJ ops s1).2} R8:=q9;have n9:=n8.one (ops:=ops);have bc:(fJ ops s1).2.ef.length=t.s.ef.length+1:=bZ;show yn (jr 3 1 2 (V.I 0) [(0,V.I ((fJ ops s1).1:Nat)),(1,V.I t.s.ef.length)]) B _;have eW:∀s:Ds,fJ ops s=((fJ ops s).1,(fJ ops s).2):=λ_=>rfl;generalize b6:(fJ ops s1).2=sg at*;generalize b7:(fJ ops s1).1=g at*;rw[e3,gR];obtain⟨C,bd,be⟩:=Gu q9 [g,t.s.ef.length];have cD:(B.new (.cells 3 1 true false (gP [g,t.s.ef.length]))).get B.next=_:=fg _ _;refine ed (by rfl) ⟨by grind[O.kF],iK i2 (fj _ b5),C.D.AD,C.pE,?_⟩;generalize B.new (.cells 3 1 true false (gP [g,t.s.ef.length]))=cE at*;refine NI C n9 (by omega) (vl 21 0 0 0 [g,t.s.ef.length] 0) bd rfl λbf R11 ae _ ag=>⟨ae.next,?_⟩
 have bg:=n9.put (vl 21 0 0 0 [g,t.s.ef.length] 0);have bh:(put sg (vl 21 0 0 0 [g,t.s.ef.length] 0)).ef.length=t.s.ef.length+2:=by simp[put,bc]
 have b8:(({b with s:=sg}:Dt).s.ef.length:Nat)=t.s.ef.length+1:=bc;rw[b8];generalize b9:put sg (vl 21 0 0 0 [g,t.s.ef.length] 0)=s2 at*;have ag:Dq (fz (fz F6 h6.next) B.next) G bf L ops {b with s:=s2} R11:=ag;have kC:Kp F (gm G L.nr) h bf:=kB.trans (k9.trans ((be.gm L.nr).trans (ae.gm L.nr) (pU _ _)) λ_ h=>h) fB;have fC:∀l,F l->fz (fz F6 h6.next) B.next l:=by grind[pU]
 clear kB k9 be ae q8 q9 C bd;generalize fz (fz F6 h6.next) B.next=FC at*;refine Yg ag bg (by omega) [t.s.ef.length,t.s.ef.length+1] (by simp) (by simp) (e3 _ _) λca R12 cb r=>?_;have ah:=bg.app [t.s.ef.length,t.s.ef.length+1];have bi:({s2 with known:=s2.known++[t.s.ef.length,t.s.ef.length+1]}:Ds).ef.length=t.s.ef.length+2:=bh;have r:Dq FC G ca L ops {b with s:={s2 with known:=s2.known++[t.s.ef.length,t.s.ef.length+1]} } R12:=r;generalize cd:({s2 with known:=s2.known++[t.s.ef.length,t.s.ef.length+1]}:Ds)=s3 at*;have ah:Sm s3 (n+4):=ah;refine ed r.pE (ed r.JU ?_);refine Mw r ho ah (by omega) λi ce R13 cF bj E I=>⟨bj.next,?_⟩
 have cf:=C9 ops s3;have bm:(fF ops s3).2.ef.length=t.s.ef.length+2:=by rw[cf.1];exact bi
 have E:Dq i G ce L ops {b with s:=(fF ops s3).2} R13:=E;have I:Sm (fF ops s3).2 (n+4+1):=I;show oP (fV _ _ [(0,V.I 23),(5,.I ((fF ops s3).1:Nat))]) _;generalize cg:(fF ops s3).2=s4 at*;generalize ci:(fF ops s3).1=sn at*;have eS:fV [(V.I 0),(V.I 0),(V.I 0),(V.I 0),V.ee,(V.I 0)] [(0,1),(1,1),(2,1),(3,1),(4,1),(5,1)] [(0,(V.I 23)),(5,.I sn)]=some (.agg (my (vl 23 0 0 0 [] sn) .ee)):=rfl;refine ed eS ⟨E.pE,?_⟩;refine NI E I (by omega) (vl 23 0 0 0 [] sn) .nil rfl λcj R14 bo _ J=>⟨bo.next,?_⟩
 have br:=I.put (vl 23 0 0 0 [] sn);have aa:(put s4 (vl 23 0 0 0 [] sn)).ef.length=t.s.ef.length+3:=by simp[put,bm]
 have J:Dq i G cj L ops {b with s:=put s4 (vl 23 0 0 0 [] sn)} R14:=J;generalize bt:put s4 (vl 23 0 0 0 [] sn)=s5 at*;refine ed J.pE ?_;have eO:fV [(V.I 0),(V.I 0),(V.I 0),(V.I 0),V.ee,(V.I 0)] [(0,1),(1,1),(2,1),(3,1),(4,1),(5,1)] [(0,(V.I 2)),(3,(V.I 1))]=some (.agg (my (vl 2 0 0 1 [] 0) .ee)):=rfl;refine ed eO ?_;refine NI J br (by omega) (vl 2 0 0 1 [] 0) .nil rfl λcl R15 cm _ M=>?_;have bu:=br.put (vl 2 0 0 1 [] 0);have u:(put s5 (vl 2 0 0 1 [] 0)).ef.length=t.s.ef.length+4:=by simp[put,aa]
 have cn:(({b with s:=s5}:Dt).s.ef.length:Nat)=t.s.ef.length+3:=aa;rw[cn];have M:Dq i G cl L ops {b with s:=put s5 (vl 2 0 0 1 [] 0)} R15:=M;generalize bw:put s5 (vl 2 0 0 1 [] 0)=d at*;refine ed M.pE ?_;have eUn:∀p o:Nat,fV [(V.I 0),(V.I 0),(V.I 0),(V.I 0),V.ee,(V.I 0)] [(0,1),(1,1),(2,1),(3,1),(4,1),(5,1)] [(0,(V.I 4)),(1,.I (p:Nat)),(2,.I (o:Nat))]=some (.agg (my (vl 4 p o 0 [] 0) .ee)):=λ_ _=>rfl;refine ed (eUn _ _) ?_;refine NI M bu (by omega) (vl 4 t.s.ef.length (t.s.ef.length+3) 0 [] 0) .nil rfl λcG cH co _ cp=>?_;have bx:=bu.put (vl 4 t.s.ef.length (t.s.ef.length+3) 0 [] 0);have cq:(({b with s:=d}:Dt).s.ef.length:Nat)=t.s.ef.length+4:=u;rw[cq];refine Yg cp bx (by omega) [t.s.ef.length+4] (by simp) (by simp) rfl λcr R17 ct ai=>?_;have aj:=bx.app [t.s.ef.length+4];have bz:({ ({b with s:=put d (vl 4 t.s.ef.length (t.s.ef.length+3) 0 [] 0)}:Dt).s with known:=({b with s:=put d (vl 4 t.s.ef.length (t.s.ef.length+3) 0 [] 0)}:Dt).s.known++[t.s.ef.length+4]}:Ds)=iP d (vl 4 t.s.ef.length (t.s.ef.length+3) 0 [] 0):=by
  unfold iP put;simp only[u]
 have ai:Dq i G cr L ops {b with s:=iP d (vl 4 t.s.ef.length (t.s.ef.length+3) 0 [] 0)} R17:=by rw[<-bz];exact ai
 have aj:Sm (iP d (vl 4 t.s.ef.length (t.s.ef.length+3) 0 [] 0)) (n+10):=by rw[<-bz];exact aj.le (by grind)
 have bA:(iP d (vl 4 t.s.ef.length (t.s.ef.length+3) 0 [] 0)).ef.length=t.s.ef.length+5:=by simp[iP,u]
 refine kZ (n:=t.blocks.length+1) (m:=1) (by omega) (by omega) ?_;refine kZ (n:=t.blocks.length+1) (m:=2) (by omega) (by omega) ?_;refine EZ ai (show b.blocks.length<_ by omega) 2 t.s.ef.length [t.blocks.length+2,t.blocks.length+3] 0 rfl (λ_=>rfl) λcu bC R18 cI cv cw=>?_;have bD:(({b with s:=iP d (vl 4 t.s.ef.length (t.s.ef.length+3) 0 [] 0)}:Dt).blocks.length:Nat)=t.blocks.length+1:=bV;rw[bD];have kD:Kp F (gm G L.nr) h bC:=((kC.trans ((cb.gm L.nr).trans bj λ_ h=>h) fC).trans (F':=i) ((((bo.gm L.nr).trans (cm.gm L.nr) λ_ h=>h).trans (co.gm L.nr) λ_ h=>h).trans (ct.gm L.nr) λ_ h=>h) (by grind)).trans (F':=i) (cv.gm L.nr) (by grind);subst bW bX b4 b6 b7 b9 cd cg ci bt bw;exact H cu bC R18 _ (by grind) kD cw aj rfl bA
end
open Un
theorem LI(ops:List Int)(t:Dt):(pj ops t).ef[t.s.ef.length+1]? =some (vl 21 0 0 0 [De ops t,t.s.ef.length] 0)/\(pj ops t).ef.length=t.s.ef.length+5:=by
 obtain⟨x,a⟩:=Ll ops t
 grind[pj,iP,put,LY,Yq,wBe]
theorem Re(ops:List Int)(t:Dt):(lJ ops t).ef[t.s.ef.length+1]? =some (vl 21 0 0 0 [De ops t,t.s.ef.length] 0)/\t.s.ef.length+5<=(lJ ops t).ef.length/\(lJ ops t).known=(row ops (mD ops t).s).known:=by
 obtain ⟨e,h⟩:=LI ops t;obtain⟨_,l,b⟩:=Hk ops (mD ops t).s;have e0:(mD ops t).s.ef=(pj ops t).ef:=rfl;have f:(row ops (mD ops t).s).ef[t.s.ef.length+1]? =some (vl 21 0 0 0 [De ops t,t.s.ef.length] 0):=by
  rw[b,e0,Vx (by omega)];exact e
 have g:t.s.ef.length+5<=(row ops (mD ops t).s).ef.length:=by rw[b,e0,Ji];omega
 have a:∀(s:Ds) (l:List Nat),s.ef[t.s.ef.length+1]? =some (vl 21 0 0 0 [De ops t,t.s.ef.length] 0)->(setArgs s t.s.ef.length l).ef[t.s.ef.length+1]? =some (vl 21 0 0 0 [De ops t,t.s.ef.length] 0):=by
  intro s l hs;show(s.ef.modify t.s.ef.length _)[t.s.ef.length+1]? =_;rw[List.getElem?_modify,hs];show some (if _ then _ else _)=_;rw[if_neg (by omega)]
 have c:=a _ [(fJ ops t.s).1,t.s.ef.length+4] f;have i:t.s.ef.length+5<=(oi ops t).ef.length:=by unfold oi;rw[(Es _ _ _).1];exact g
 have d:(num ops (oi ops t) 3).2.ef=(oi ops t).ef:=rfl;unfold lJ;split
 ·exact⟨a _ _ (by rw[d];exact c),by grind[Es],rfl⟩
 ·exact⟨by rw[d];exact c,by simp_all,rfl⟩
section
variable{F F' G G':Nat->Prop}{h h':Hp}{L:Lc}{ops:List Int}{t t':Dt}{R R':Rw}{Q:ft}
theorem nx2(x y:Nat):jr 3 1 2 (V.I 0) [(0,V.I x),(1,V.I y)]=some (.cells 3 1 true false (gP [x,y]),λl=> .slice l 0 2):=rfl
theorem ZY(ho:ops.length<9223372036854775808){n:Nat}(hn:Sm (lJ ops t) n)(am:n<880)(hb:t.blocks.length<900)(q:Dq F G h L ops {mD ops t with s:=lJ ops t} R){K:Hp->Prop}
  (H:∀F' h' R',(∀l,F l->F' l)->Kp F (gm G L.nr) h h'->Dq F' G h' L ops (loop ops t) R'->Sm (loop ops t).s (n+6)->K h') :
  oP (fH 2 (.ptr L.lu 0)) λb=>
  oP (ez b h) λc=>
  oP (fH 2 (.ptr L.lu 0)) λd=>
  oP (ez d h) λe=>
  oP (gz 6 e (.I ((t.s.ef.length+1:Nat):Int))) λz=>
  oP (fH 4 z) λf=>
  oP (ez f h) λg=>
  oP (gz 1 g (V.I 0)) λj=>
  oP (ez j h) λo=>
  oP (ez (.ptr L.iq 0) h) λr=>
  oP (ez (.ptr L.iq 0) h) λu=>
  oP (fE u) λA=>
  oP (en .sub 3 A (V.I 1)) λB=>
  oP (gz 1 r B) λv=>
  oP (ez v h) λw=>
  yn (jr 3 1 2 (V.I 0) [(0,o),(1,w)]) h λx C a=>
  oP (gz 6 c (.I ((t.s.ef.length+1:Nat):Int))) λE=>
  oP (fH 4 E) λI=>
  ((a.get (h.next)=some x/\O.beq x x=true)/\
  ((ez v a=some w)/\
  ((ez (.ptr L.iq 0) a=some u)/\
  ((ez (.ptr L.iq 0) a=some r)/\
  ((ez j a=some o)/\
  ((ez f a=some g)/\
  ((ez d a=some e)/\
  ((ez b a=some c)/\
  fi (gI 1 I C a) λvu h2=>
  (a.next<=h2.next/\
  oP (ez (.ptr L.iq 0) h2) λJ=>
  oP (jf 1 J none (some (.I ((pj ops t).known.length:Nat))) h2) λM=>
  fi (gI 1 (.ptr L.iq 0) M h2) λai h3=>
  ig (jr 3 1 1 (V.I 0) [(0,(.I ((t.blocks.length+1:Nat):Int)))]) h3 λN h4=>
  oP (fV [V.ee,(V.I 0),(V.I 0),V.ee,V.ee,(V.I 0)] [(0,1),(1,1),(2,1),(3,1),(4,1),(5,1)] [(1,(V.I 1)),(3,N)]) λP=>
  hH CS (gh (JJ L) [P]) h4 λaj h5=>
  ig (jr 3 1 1 (V.I 0) [(0,(.I ((t.blocks.length+1:Nat):Int)))]) h5 λQ h6=>
  oP (fH 4 (.ptr L.jw 0)) λS=>
  fi (gI 1 S Q h6) λak h7=>
  hH CS (gh (Kv L) []) h7 λal h8=>K h8))))))))):=by
 obtain⟨y1,y2,y3⟩:=Re ops t;have aa:=(Hk ops (mD ops t).s).kl;have T:(pj ops t).known.length<=(lJ ops t).known.length:=by rw[y3];exact aa
 have hk:=hn.k;have U:=hn.k0;have ab:0<(pj ops t).known.length:=by
  show 0<(_++[_]).length;simp
 have W:t.s.ef.length+1<({mD ops t with s:=lJ ops t}:Dt).s.ef.length:=by show _<(lJ ops t).ef.length;omega
 have eg:(lJ ops t).ef[t.s.ef.length+1]'(by omega)=vl 21 0 0 0 [De ops t,t.s.ef.length] 0:=by
  rw[gW (by omega)]at y1;exact Option.some.inj y1
 have an:({mD ops t with s:=lJ ops t}:Dt).blocks.length=t.blocks.length+2:=by simp[mD,MQ,end_]
 refine ed (by rfl) (ed q.D.Xy (ed (by rfl) (ed q.D.Xy ?_)));obtain⟨l1,o1,w1,ac,i1,i2,i3,i4⟩:=q.D.ov.read.ix W .i64;obtain⟨wa,X,sa⟩:=i3;rw[eg]at X sa;have ia:=i4 4 wa (by rw[X];rfl);have i1:gz 6 R.vv (.I ((t.s.ef.length+1:Nat):Int))=some (.ptr l1 o1):=i1;refine ed i1 (ed (by rfl) (ed ia ?_));have Y:l1<h.next:=ac.elim (q.D.fl l1) λh=>(q.D.ov.we h).2.1;obtain⟨l2,o2,u2,ae,j1,j2,j3⟩:=sa.Vc (i:=0) (by simp[vl]) .i64 rfl;have Z:l2<h.next:=ae.elim (q.D.fl l2) λh=>(q.D.ov.we h).2.1;obtain⟨rfl⟩:u2 = .I (De ops t:Nat):=by
  have:[u2]=[V.I (De ops t:Nat)]:=j3
  simp_all
 refine ed j1 (ed j2 ?_);obtain⟨l3,o3,ag,_,m1,m2⟩:=q.Hq (i:=(lJ ops t).known.length-1) (by grind);have m3:ez (.ptr l3 o3) h=some (.I ((lJ ops t).known.getLastD 0:Nat)):=by rw[m2];show some (V.I (((lJ ops t).known.getD _ 0:Nat):Int))=_;rw[B7 _ U]
 refine ed q.D.AD (ed q.D.AD (ed q.D.ok.len (Aa (by grind) U (ed m1 (ed m3 ?_)))));rw[nx2,gR];obtain⟨y,s1,k1⟩:=Gu q [De ops t,(lJ ops t).known.getLastD 0];have g1:(h.new (.cells 3 1 true false (gP [De ops t,(lJ ops t).known.getLastD 0]))).get h.next=_:=fg _ _;refine ed i1 (ed (by rfl) ?_);refine⟨by simp_all,iK m3 (fj _ ag),y.D.AD,y.D.AD,iK j2 (fj _ Z),iK ia (fj _ Y),y.D.Xy,y.D.Xy,?_⟩;obtain⟨l4,h4,a1,a2,a3,a4,D4⟩:=y.D.zcq (p:=t.s.ef.length+1) W s1;have e4:V.ptr l1 (o1+4)=V.ptr l4 ((t.s.ef.length+1)*6+4):=by
  have:(V.ptr l1 o1)=V.ptr l4 ((t.s.ef.length+1)*6):=by simp_all
  cases this;rfl
 rw [e4];simp only[QN,wBl,zj]at a2;rw[a2,ei];refine⟨a3,?_⟩;have q4:=Xw (t':={mD ops t with s:=D2 ops t}) (y.step a4 D4 (by simp_all) q.gl y.hq rfl) (by
  grind[D2])
 have ah:Sm (D2 ops t) n:=hn.setArgs _ _;refine PW q4 (m:=(pj ops t).known.length) T λh5 R5 k5 q5=>?_;have n5:Sm (cut (pj ops t).known.length (D2 ops t)) n:=ah.cut ab T;refine EZ q5 (show({mD ops t with s:=lJ ops t}:Dt).blocks.length<_ by omega) 1 0 [t.blocks.length+1] 0 rfl (λ_=>rfl) λF6 h6 R6 f6 k6 q6=>?_;refine yW q6 [t.blocks.length+1] rfl λF7 h7 R7 f7 k7 q7=>?_;have q7:=Xw (t':=Ro ops t) q7 rfl;have n7:Sm (Ro ops t).s n:=n5.end_ (t:={mD ops t with s:=cut (pj ops t).known.length (D2 ops t)}) _ _ _ _ _;refine GJ q7 ho n7 (by omega) λF8 h8 R8 f8 k8 q8 n8=>?_;have ff:∀l,F l->F7 l:=by grind[pU]
 refine H F8 h8 R8 (by simp_all) ?_ (by grind[Xw,VL]) (by grind[VL]);have kk:=(((k1.gm L.nr).trans (a4.gm L.nr) (pU _ _)).trans (F':=fz F h.next) ((k5.gm L.nr).trans (k6.gm L.nr) λ_ h=>h) (pU _ _)).trans (F':=F6) (k7.gm L.nr) (by grind[pU]);exact kk.trans k8 ff
theorem zbo(ho:ops.length<9223372036854775808){n:Nat}(hn:Sm (pj ops t) n)(al:n<860)(hb:t.blocks.length<900)
  (q:Dq F G h L ops (end_ {MQ ops t with s:=pj ops t} 2 t.s.ef.length [t.blocks.length+2,t.blocks.length+3] 0 []) R) {K:ft}
  (H:∀F' h' R',(∀l,F l->F' l)->Kp F (gm G L.nr) h h'->Dq F' G h' L ops {mD ops t with s:=lJ ops t} R'->Sm (lJ ops t) (n+6)->K (.I ((pj ops t).known.length:Nat)) h') :
  oP (ez (.ptr L.iq 0) h) λw=>
  oP (fE w) λd=>
  ig (jr 3 1 1 (V.I 0) [(0,(.I ((t.blocks.length+1:Nat):Int)))]) h λx aa=>
  oP (fH 4 (.ptr L.jw 0)) λy=>
  fi (gI 1 y x aa) λaj ab=>
  hH CS (gh (Kv L) []) ab λak z=>
  oP (fH 2 (.ptr L.lu 0)) λA=>
  oP (ez A z) λB=>
  ig (jr 3 1 2 (V.I 0) [(0,(.I ((fJ ops t.s).1:Nat))),(1,(.I ((t.s.ef.length+4:Nat):Int)))]) z λC ac=>
  oP (gz 6 B (.I t.s.ef.length)) λE=>
  oP (fH 4 E) λI=>
  fi (gI 1 I C ac) λae J=>
  oP (ez (.ptr L.qa 0) J) λM=>
  hH CS (gh M [(V.I 3)]) J λN a=>
  oP (en .eql 3 N (V.I 0)) λP=>
  bP P (
  oP (fH 2 (.ptr L.lu 0)) λe=>
  oP (ez e a) λf=>
  oP (ez (.ptr L.iq 0) a) λg=>
  oP (ez (.ptr L.iq 0) a) λj=>
  oP (fE j) λQ=>
  oP (en .sub 3 Q (V.I 1)) λS=>
  oP (gz 1 g S) λm=>
  oP (ez m a) λo=>
  yn (jr 3 1 2 (V.I 0) [(0,(.I ((fJ ops t.s).1:Nat))),(1,o)]) a λu T b=>
  oP (gz 6 f (.I t.s.ef.length)) λU=>
  oP (fH 4 U) λW=>
  ((b.get (a.next)=some u/\O.beq u u=true)/\
  ((ez m b=some o)/\
  ((ez (.ptr L.iq 0) b=some j)/\
  ((ez (.ptr L.iq 0) b=some g)/\
  ((ez e b=some f)/\
  fi (gI 1 W T b) λag X=>
  (b.next<=X.next/\K d X)))))))
  (K d a):=by
 obtain⟨_,z2⟩:=LI ops t;have hk:=hn.k;have am:=hn.k0;refine ed q.D.AD (ed q.D.ok.len ?_);refine yW q [t.blocks.length+1] rfl λF1 h1 R1 f1 k1 q1=>?_;have q1:=Xw (t':=mD ops t) q1 rfl;have n1:Sm (mD ops t).s n:=hn.end_ (t:={MQ ops t with s:=pj ops t}) _ _ _ _ _;refine GJ q1 ho n1 (by omega) λF2 h2 R2 f2 k2 q2 n2=>?_;obtain⟨_,l,hl⟩:=Hk ops (mD ops t).s;have e0:(mD ops t).s.ef=(pj ops t).ef:=rfl;have h4:t.s.ef.length+5<=(row ops (mD ops t).s).ef.length:=by rw[hl,e0,Ji];omega
 refine ed (by rfl) (ed q2.D.Xy ?_);rw[nx2,fx];obtain⟨q3,s3,k3⟩:=Gu q2 [(fJ ops t.s).1,t.s.ef.length+4];obtain⟨l4,Y,a1,a2,a3,a4,D4⟩:=q3.D.zcq (p:=t.s.ef.length) (by grind) s3;refine ed a1 (ed (by rfl) ?_);simp only[QN,wBl,zj]at a2;rw[a2,ei];have q4:Dq (fz F2 h2.next) G Y L ops {mD ops t with s:=oi ops t} R2:=q3.step a4 D4 (by simp_all) q.gl q3.hq rfl;have n4:Sm (oi ops t) (n+6):=n2.setArgs _ _;refine ed q4.xB ?_;show cP CS fk [.I ((3:Nat):Int),.ptr L.nr 0,.ptr L.lr 0] Y _;refine yy q4 (by decide) (by decide) ho λZ k5 c=>?_;have c:Dq (fz F2 h2.next) G Z L ops {mD ops t with s:=(num ops (oi ops t) 3).2} R2:=c;have n5:Sm (num ops (oi ops t) 3).2 (n+6):=n4.num 3;have ff:∀l,F l->fz F2 h2.next l:=by grind[pU]
 have kk:Kp F (gm G L.nr) h Z:=(((k1.gm L.nr).trans k2 f1).trans ((k3.gm L.nr).trans (a4.gm L.nr) (pU _ _)) (by simp_all)).trans k5 ff;show oP (en .eql 3 (.I ((num ops (oi ops t) 3).1:Nat)) (V.I 0)) _;by_cases hd:(num ops (oi ops t) 3).1=0
 ·refine fX (gi (by omega) ?_);have e9:lJ ops t=setArgs (num ops (oi ops t) 3).2 t.s.ef.length [(fJ ops t.s).1,(row ops (mD ops t).s).known.getLastD 0]:=by unfold lJ;rw[if_pos hd]
  have an:=n5.k;have r:=n5.k0;have ah:(num ops (oi ops t) 3).2.known=(row ops (mD ops t).s).known:=rfl;refine ed (by rfl) (ed c.D.Xy ?_);obtain⟨l3,o3,ai,_,m1,m2⟩:=c.Hq (i:=(num ops (oi ops t) 3).2.known.length-1) (by grind);have m3:ez (.ptr l3 o3) Z=some (.I ((row ops (mD ops t).s).known.getLastD 0:Nat)):=by
   rw[m2,<-ah];show some (V.I (((num ops (oi ops t) 3).2.known.getD _ 0:Nat):Int))=_;rw[B7 _ r]
  refine ed c.D.AD (ed c.D.AD (ed c.D.ok.len (Aa (by grind) r (ed m1 (ed m3 ?_)))));rw[nx2,gR];obtain⟨v,s6,k6⟩:=Gu c [(fJ ops t.s).1,(row ops (mD ops t).s).known.getLastD 0];have g6:(Z.new (.cells 3 1 true false (gP [(fJ ops t.s).1,(row ops (mD ops t).s).known.getLastD 0]))).get Z.next=_:=fg _ _;obtain⟨l7,h7,b1,b2,b3,b4,D7⟩:=v.D.zcq (p:=t.s.ef.length) (by
   show _<(oi ops t).ef.length
   grind[oi,Es]) s6
  refine ed b1 (ed (by rfl) ?_);refine⟨by simp_all,iK m3 (fj _ ai),v.D.AD,v.D.AD,v.D.Xy,?_⟩;simp only[QN,wBl,zj]at b2;rw[b2,ei];have q7:=Xw (t':={mD ops t with s:=lJ ops t}) (v.step b4 D7 (by simp_all) q.gl v.hq rfl) (by rw[e9]);refine⟨b3,H _ _ _ (by grind[pU]) (kk.trans ((k6.gm L.nr).trans (b4.gm L.nr) (pU _ _)) ff) q7 ?_⟩;rw[e9];exact n5.setArgs _ _
 ·refine fX (fU (by omega) ?_);have e9:lJ ops t=(num ops (oi ops t) 3).2:=by unfold lJ;rw[if_neg hd]
  exact H _ _ _ ff kk (Xw c (by rw[e9])) (by rw[e9];exact n5)
end
open Un
def uC(u:U)(v b s:V):List V:=[.I u.func,.I u.pc,v,b,s]
def eUn:p8 U where
 sz:=5
 rel F h u cs:=∃v b s,cs=uC u v b s/\iy eV F h u.ef v/\iy eK F h u.blocks b/\iy eT F h u.eh s
 len:=λ⟨_,_,_,h,_⟩=>by subst h;rfl
 one:=λ⟨_,_,_,h,a,c,d⟩=>by subst h;simp only[uC,ey,a.one,c.one,d.one];rfl
 fh:=λhk ⟨v,n,p,h,a,c,d⟩=>⟨v,n,p,h,a.fh hk,c.fh hk,d.fh hk⟩
 mono:=λe ⟨v,n,p,h,a,c,d⟩=>⟨v,n,p,h,a.mono e,c.mono e,d.mono e⟩
theorem zaf(ops:List Int)(t:Dt):(fork ops t).blocks.length=t.blocks.length+3:=by simp[fork,end_]
theorem ZX(ops:List Int)(t:Dt):(za ops t).blocks.length=t.blocks.length+2:=by simp[za,end_]
theorem zbr(ops:List Int)(t:Dt):(loop ops t).blocks.length=t.blocks.length+3:=by simp[loop,end_]
section
variable{F F' G G':Nat->Prop}{h h':Hp}{L:Lc}{ops:List Int}{t t':Dt}{R R':Rw}{Q:ft}
theorem zet{a:List Int}{vo vs nv:V}{b:Nat}(y:ops.length<9223372036854775808)(q:Dq F G h L ops t R)(hn:Sm t.s 30)(hb:t.blocks.length=0)(A:h.get L.lr=some (.cells Ss 1 true false [vo,vs,nv]))(Y:iy (eI .i64) F h a vs)
  (ai:G b) (Z:b≠L.nr) (aa:∃c,h.get b=some (.cells 30 1 true false c)/\c.length=5)
  (H:∀F' h' R' d,(∀l,F l->F' l)->Kp F (gm G L.nr) h h'->Dq F' G h' L ops d R'->d=end_ {lI ops (a.take 6) t with s:=(fF ops (lI ops (a.take 6) t).s).2} 3 0 [] (fF ops (lI ops (a.take 6) t).s).1 []->
   fi (gI 5 (.ptr b 0) (.agg [.I 1,.I 2,R'.vv,R'.vb,R'.vs]) h') λ_ f=>oP (gv 5 (.ptr b 0) f) λr=>Q r f) :
  oJ CS Q (.ptr L.lr 0) (.ptr b 0) (.ptr L.lu 0) (.ptr L.iq 0) (.ptr L.jw 0) (.ptr L.z6 0) (.ptr L.qa 0) (.ptr L.VV 0) (Kv L) (JJ L) (.I 0) h:=by
 refine CV (λk M N O P S T g j m n o h'=>∃(F':Nat->Prop) (R':Rw) (i:Nat) (t':Dt),M = .ptr L.lr 0/\N = .ptr b 0/\O = .ptr L.lu 0/\P = .ptr L.iq 0/\S = .ptr L.jw 0/\T = .ptr L.z6 0/\
  g = .ptr L.qa 0/\j = .ptr L.VV 0/\m=Kv L/\n=JJ L/\o = .I i/\i+k=6/\(∀l,F l->F' l)/\Kp F (gm G L.nr) h h'/\Dq F' G h' L ops t' R'/\Sm t'.s (30+30*i)/\t'.blocks.length<=3*i/\
  lI ops ((a.take 6).drop i) t' = lI ops (a.take 6) t) ?_ (k:=6)
  ⟨F,R,0,t,rfl,rfl,rfl,rfl,rfl,rfl,rfl,rfl,rfl,rfl,rfl,rfl,λ_ h=>h,Kp.refl _ _ _,q,hn,by omega,by rw[ZV]⟩
 rintro k M N O P S T g j m n o h' ⟨F1,R1,i,d,rfl,rfl,rfl,rfl,rfl,rfl,rfl,rfl,rfl,rfl,rfl,aj,hF,U,u,W,b1,B⟩;unfold uY;have C:h'.get L.lr=some (.cells Ss 1 true false [vo,vs,nv]):=by rw[U.fh _ (.inl q.fr)];exact A
 have E:ez (.ptr L.lr 1) h' = some vs:=lE C rfl;have lv:=u.D.ov.len;have I:iy (eI .i64) F h' a vs:=Y.fh λl hl=>U.fh l (.inl hl);refine ed (by rfl) (ed E (ed I.len (ed (by rfl) ?_)));have e1:jO (.bool (decide (((i:Nat):Int)<(a.length:Nat)))) (oB (some (V.I i)) λab=>en .lss 3 ab (V.I 6))=some (.bool (decide (((i:Nat):Int)<(a.length:Nat))&&decide (((i:Nat):Int)<6))):=by
  simp only[fe,jB,jc]
 refine ed e1 ?_
 have e2:jO (.bool (decide (((i:Nat):Int)<(a.length:Nat))&&decide (((i:Nat):Int)<6))) (oB (fH 2 (.ptr L.lu 0)) λac=>oB (ez ac h') λae=>oB (fE ae) λag=>en .lss 3 ag (V.I 160)) =
   some (.bool ((decide (((i:Nat):Int)<(a.length:Nat))&&decide (((i:Nat):Int)<6))&&decide (((d.s.ef.length:Nat):Int)<160))):=by
  simp only[fT,fe,zj,u.D.Xy,lv,jB,jc]
 refine ed e2 (iO ?_);by_cases hgo:i<a.length/\i<6/\d.s.ef.length<160;rotate_left
 ·
  refine fU (by grind) ?_;have J:d=lI ops (a.take 6) t:=by
   rw[<-B];by_cases hi:i<(a.take 6).length
   ·rw[Xx hi];unfold lI
    grind
   ·rw[List.drop_of_length_le (by omega)];rfl
  subst J;refine ed u.JU ?_;refine Mw u y W (by omega) λp f R2 K v w z=>?_;have eB:∀sn:Nat,fV [V.ee,(V.I 0),(V.I 0),V.ee,V.ee,(V.I 0)] [(0,1),(1,1),(2,1),(3,1),(4,1),(5,1)] [(1,(V.I 3)),(5,.I (sn:Nat))]=some (.agg (kI ⟨[],3,0,[],[],sn⟩ .ee .ee .ee)):=λ_=>rfl;refine ed (eB _) ?_;refine Ur w (show(lI ops (a.take 6) t).blocks.length<_ by omega) ⟨[],3,0,[],[],_⟩ rfl rfl rfl .nil λF3 h3 R3 f3 k3 X=>?_;have lA:gv 5 (.ptr L.lu 0) h3=some (.agg [.I 1,.I 2,R3.vv,R3.vb,R3.vs]):=Dr X.D.gu rfl;refine ed lA ?_;have kk:=(U.trans v hF).trans (k3.gm L.nr) (by simp_all);exact H F3 h3 R3 _ (by grind) kk X rfl
 obtain⟨g1,g2,g3⟩:=hgo;refine gi (by grind) ?_;obtain⟨l4,o4,u4,_,i1,i2,i3⟩:=I.Vc g1 .i64 rfl;obtain⟨rfl⟩:u4 = .I a[i]:=by simpa using i3.1
 refine ed (by rfl) (ed E (ed i1 (ed i2 ?_)));show cP CS iI [.I a[i],.I ((3:Nat):Int)] h' _;refine Ml (by decide) (by decide) ?_;have ah:i<(a.take 6).length:=by rw[Mo];omega
 have x:lI ops ((a.take 6).drop (i+1)) (uu ops (mh a[i] 3) d)=lI ops (a.take 6) t:=by
  rw[<-B,Xx ah]
  conv=>rhs;unfold lI
  rw[if_pos g3,List.getElem_take]
 have fin:∀(p:Nat->Prop) (f:Hp) (R2:Rw),(∀l,F1 l->p l)->Kp F1 (gm G L.nr) h' f->Dq p G f L ops (uu ops (mh a[i] 3) d) R2->Sm (uu ops (mh a[i] 3) d).s (30+30*i+30)->(uu ops (mh a[i] 3) d).blocks.length<=3*(i+1)->
   jN CS Q (λM N O P S T g j m n o hh=>∃k',k' < k/\∃(F':Nat->Prop) (R':Rw) (i:Nat) (t':Dt),M = .ptr L.lr 0/\N = .ptr b 0/\O = .ptr L.lu 0/\P = .ptr L.iq 0/\S = .ptr L.jw 0/\T = .ptr L.z6 0/\
    g = .ptr L.qa 0/\j = .ptr L.VV 0/\m=Kv L/\n=JJ L/\o = .I i/\i+k' = 6/\(∀l,F l->F' l)/\Kp F (gm G L.nr) h hh/\Dq F' G hh L ops t' R'/\Sm t'.s (30+30*i)/\t'.blocks.length<=3*i/\
    lI ops ((a.take 6).drop i) t' = lI ops (a.take 6) t) (.ptr L.lr 0) (.ptr b 0) (.ptr L.lu 0) (.ptr L.iq 0) (.ptr L.jw 0) (.ptr L.z6 0) (.ptr L.qa 0) (.ptr L.VV 0) (Kv L) (JJ L) (.I i) f:=by
  intro p f R2 K v w z b2;refine Cm ?_;unfold ua;refine fL ?_;exact⟨k-1,by omega,p,R2,i+1,_,rfl,rfl,rfl,rfl,rfl,rfl,rfl,rfl,rfl,rfl,rfl,by omega,by simp_all,U.trans v hF,w,z,b2,x⟩
 by_cases c0:mh a[i] 3=0
 ·refine fX (gi (by omega) ?_);have e:uu ops (mh a[i] 3) d=fork ops d:=by unfold uu;rw[if_pos c0]
  rw[e]at fin;refine zbl u y W (by omega) (by omega) λp f R2 K v w z=>?_
  grind[zaf]
 refine fX (fU (by omega) ?_);by_cases c1:mh a[i] 3=1
 ·refine fX (gi (by omega) ?_);have e:uu ops (mh a[i] 3) d=loop ops d:=by unfold uu;rw[if_neg c0,if_pos c1]
  rw[e]at fin;refine zaD u y W (by omega) (by omega) λp f R2 s6 K v w z e6 _=>?_;subst e6;refine zbo y z (by omega) (by omega) w λF3 h3 R3 f3 k3 X n3=>?_;refine Cv ?_;unfold tO;refine ZY y n3 (by omega) (by omega) X λF4 h4 R4 f4 k4 q4 n4=>?_;exact fin F4 h4 R4 (by grind) ((v.trans k3 K).trans k4 (by simp_all)) q4 (n4.le (by omega)) (by grind[zbr])
 ·refine fX (fU (by omega) ?_);have e:uu ops (mh a[i] 3) d=za ops d:=by unfold uu;rw[if_neg c0,if_neg c1]
  rw[e]at fin;refine zaO u y W (by omega) (by omega) λp f R2 K v w z=>?_
  grind[ZX]
end
