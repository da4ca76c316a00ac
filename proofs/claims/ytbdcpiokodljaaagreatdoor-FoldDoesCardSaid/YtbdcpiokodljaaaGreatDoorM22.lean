/- Parts. -/
import Derived.Test.YtbdcpiokodljaaaGreatDoorM21
set_option maxHeartbeats 4000000
namespace Go.Proofs.YtbdcpiokodljaaaGreatDoor.Hx
open Un
section
variable{F F' G G':Nat->Prop}{h h':Hp}{L:Lc}{ops:List Int}{t t':Dt}{R R':Rw}{Q:fo}
theorem Sm.app{s:Ds}{n:Nat}(a:Sm s n)(ys:List Nat):Sm {s with known:=s.known++ys} (n+ys.length):=
 ⟨by have:=a.v;grind,by have:=a.c;grind,by have:=a.k;simp_all,by have:=a.st;grind,by have:=a.k0;grind⟩
theorem NA:∀ys:List Nat,gv (gZ ys)=true
 |[]=>rfl
 |y::ys=>by show gv (V.I y::gZ ys)=true;rw[eo,NA ys];rfl
theorem Zg(q:Dq F G h L ops t R){n:Nat}(e:Sm t.s n)(f:n<1000)(ys:List Nat)(g:0<ys.length)(i:ys.length<=5){ps:Option (O×(Nat->V))}(j:ps=some (O.cells 3 1 true false (gZ ys),λl=> .slice l 0 ys.length)){K:Hp->Prop}
  (H:∀h' R',Kp F G h h'->Dq F G h' L ops {t with s:={t.s with known:=t.s.known++ys} } R'->K h') :
  oP (ez (.ptr L.iE 0) h) λa=>hH ps h λv m=>fg (eR 3 1 8 a v m) λw o=>fg (gJ 1 (.ptr L.iE 0) w o) λ_ b=>K b:=by
 subst j;refine ed q.D.Bm ?_;rw[fE];have p:=q.D.grow (mw.new h (.cells 3 1 true false (gZ ys)));have C:(gZ ys).length=ys.length:=by simp[gZ]
 obtain⟨new,r,u⟩:=Fz (n:=ys.length) (off:=0) (sz:=1) (fh h (.cells 3 1 true false (gZ ys))) (by omega);have x:new=gZ ys:=by rw[u,wBS,wA1 (by omega)]
 subst x;have hk:=e.k;have y:gv (gZ ys)=true:=NA ys;obtain⟨z,b,E,a1,a2,a3,I,A,B⟩:=p.zc0 (ys:=ys) r (yd _ _ ys) (by omega) y g (by omega);have c:eR 3 1 8 R.vk (.slice h.next 0 ys.length) (h.new (.cells 3 1 true false (gZ ys)))=some (.val z b):=a1;rw[c,ei,a3,ei];have d:=(q.D.Ai (.cells 3 1 true false (gZ ys))).trans A λ_ h=>h;exact H _ _ d (q.step d B (by grind) q.gl q.hq rfl)
theorem Nz(q:Dq F G h L ops t R){n:Nat}(c:Sm t.s n)(b:n<999)(x:Vl){w:V}{a:V}(d:ie eN F h x.args a)(e:w = .agg (mW x a)){K:fo}
  (H:∀h' R',Kp F G h h'->R'.vk=R.vk->Dq F G h' L ops {t with s:=put t.s x} R'->K (.I t.s.ef.length) h'):hV CS (gi (zdl L) [w]) h K:=by
 subst e;show cP CS fy [.agg (mW x a),.ptr L.lu 0,.ptr L.jP 0] h K;exact Ky q c b ⟨a,rfl,d⟩ H
def NS(ops:List Int)(t:Dt):Dt:=end_ {t with s:=(fL ops t.s).2} 1 0 [t.blocks.length+1] 0 [t.blocks.length,t.blocks.length+2]
def Ro(ops:List Int)(t:Dt):Ds:=put (NS ops t).s (vl 21 0 0 0 [(fL ops t.s).1,0] 0)
def EB(ops:List Int)(t:Dt):Nat:=(fL ops (Ro ops t)).1
def QY(ops:List Int)(t:Dt):Ds:=put (fL ops (Ro ops t)).2 (vl 21 0 0 0 [EB ops t,t.s.ef.length] 0)
def Qv(ops:List Int)(t:Dt):Ds:={QY ops t with known:=(QY ops t).known++[t.s.ef.length,t.s.ef.length+1]}
def RB(ops:List Int)(t:Dt):Ds:=put (fH ops (Qv ops t)).2 (vl 23 0 0 0 [] (fH ops (Qv ops t)).1)
def p9(ops:List Int)(t:Dt):Ds:=jh (put (RB ops t) (vl 2 0 0 1 [] 0)) (vl 4 t.s.ef.length (t.s.ef.length+3) 0 [] 0)
def nq(ops:List Int)(t:Dt):Dt:=end_ {NS ops t with s:=p9 ops t} 2 t.s.ef.length [t.blocks.length+2,t.blocks.length+3] 0 [t.blocks.length+1]
def pw(ops:List Int)(t:Dt):Ds:=setArgs (row ops (nq ops t).s) t.s.ef.length [(fL ops t.s).1,t.s.ef.length+4]
def mm(ops:List Int)(t:Dt):Ds:=if(num ops (pw ops t) 3).1=0 then setArgs (num ops (pw ops t) 3).2 t.s.ef.length [(fL ops t.s).1,(row ops (nq ops t).s).known.getLastD 0] else(num ops (pw ops t) 3).2
def EV(ops:List Int)(t:Dt):Ds:=setArgs (mm ops t) (t.s.ef.length+1) [EB ops t,(row ops (nq ops t).s).known.getLastD 0]
def TD(ops:List Int)(t:Dt):Dt:=end_ {nq ops t with s:=cut (p9 ops t).known.length (EV ops t)} 1 0 [t.blocks.length+1] 0 [t.blocks.length+1]
theorem Ma(ops:List Int)(t:Dt):∃x,(RB ops t).ef=t.s.ef++[vl 21 0 0 0 [(fL ops t.s).1,0] 0,vl 21 0 0 0 [EB ops t,t.s.ef.length] 0,x]:=by
 refine⟨vl 23 0 0 0 [] (fH ops (Qv ops t)).1,?_⟩;unfold RB;rw[put,(Ei ops (Qv ops t)).1];show(QY ops t).ef++[_]=_;unfold QY;show((Ro ops t).ef++[_])++[_]=_;unfold Ro;show(((NS ops t).s.ef++[_])++[_])++[_]=_;simp only[M6,List.singleton_append,wBo,O7];rfl
theorem V6(ops:List Int)(t:Dt):loop ops t = {TD ops t with s:=row ops (TD ops t).s}:=by
 obtain⟨x,a⟩:=Ma ops t;have e:(RB ops t).ef.length=t.s.ef.length+3:=by rw[a];simp
 unfold TD EV mm pw nq p9;rw[show t.s.ef.length+4=(t.s.ef.length+3)+1 from rfl,<-e];rfl
theorem zbu(q:Dq F G h L ops t R)(ho:ops.length<9223372036854775808){n:Nat}(hn:Sm t.s n)(cz:n<800)(hb:t.blocks.length<900){K:QR}
  (H:∀F' h' R' d,(∀l,F l->F' l)->Kp F (gm G L.oG) h h'->Dq F' G h' L ops (end_ {NS ops t with s:=d} 2 t.s.ef.length [t.blocks.length+2,t.blocks.length+3] 0 []) R'->Sm d (n+10)->
   d=p9 ops t->
   d.ef.length=t.s.ef.length+5->
   K (.I ((fL ops t.s).1:Nat)) (.I (t.blocks.length+1:Nat)) (.I t.s.ef.length) (.I ((t.s.ef.length+1:Nat):Int)) (.I ((t.s.ef.length+4:Nat):Int)) (.I ((t.blocks.length+1:Nat):Int)) h') :
  oP (ez (.ptr L.iE 0) h) λN=>
  oP (ez (.ptr L.qC 0) h) λak=>
  oP (ez (.ptr L.iE 0) h) λal=>
  oP (fD al) λam=>
  hV CS (gi ak [am]) h λan j=>
  (h.next<=j.next/\
  oP (gG 1 N an) λao=>
  oP (ez ao j) λP=>
  ((ez (.ptr L.iE 0) j=some N)/\
  oP (fF 3 (.ptr L.lu 0)) λap=>
  oP (ez ap j) λaq=>
  oP (fD aq) λar=>
  oP (en .add 3 ar (V.I 1)) λau=>
  hH (jK 3 1 1 (V.I 0) [(0,au)]) j λaw bD=>
  oP (fW [V.ee,(V.I 0),(V.I 0),V.ee,V.ee,(V.I 0)] [(0,1),(1,1),(2,1),(3,1),(4,1),(5,1)] [(1,(V.I 1)),(3,aw)]) λax=>
  hV CS (gi (KQ L) [ax]) bD λQ bE=>
  oP (en .add 3 Q (V.I 1)) λc=>
  oP (en .add 3 c (V.I 1)) λay=>
  hH (jK 3 1 2 (V.I 0) [(0,Q),(1,ay)]) bE λaA bG=>
  oP (fF 4 (.ptr L.jP 0)) λaB=>
  fg (gJ 1 aB aA bG) λcv aC=>
  oP (ez (.ptr L.Aq 0) aC) λaD=>
  hH (jK 3 1 2 (V.I 0) [(0,P),(1,(V.I 0))]) aC λaE bH=>
  oP (fW [(V.I 0),(V.I 0),(V.I 0),(V.I 0),V.ee,(V.I 0)] [(0,1),(1,1),(2,1),(3,1),(4,1),(5,1)] [(0,(V.I 21)),(4,aE)]) λaF=>
  hV CS (gi aD [aF]) bH λa e=>
  oP (ez (.ptr L.Aq 0) e) λS=>
  oP (ez (.ptr L.iE 0) e) λT=>
  oP (ez (.ptr L.qC 0) e) λaG=>
  oP (ez (.ptr L.iE 0) e) λaH=>
  oP (fD aH) λaI=>
  hV CS (gi aG [aI]) e λaJ w=>
  (e.next<=w.next/\
  oP (gG 1 T aJ) λU=>
  oP (ez U w) λW=>
  yU (jK 3 1 2 (V.I 0) [(0,W),(1,a)]) w λo9 aK f=>
  oP (fW [(V.I 0),(V.I 0),(V.I 0),(V.I 0),V.ee,(V.I 0)] [(0,1),(1,1),(2,1),(3,1),(4,1),(5,1)] [(0,(V.I 21)),(4,aK)]) λaL=>
  ((f.get (w.next)=some o9/\O.beq o9 o9=true)/\
  ((ez U f=some W)/\
  ((ez (.ptr L.iE 0) f=some T)/\
  ((ez (.ptr L.Aq 0) f=some S)/\
  hV CS (gi S [aL]) f λX ab=>
  (f.next<=ab.next/\
  oP (ez (.ptr L.iE 0) ab) λaM=>
  hH (jK 3 1 2 (V.I 0) [(0,a),(1,X)]) ab λaN bI=>
  fg (eR 3 1 8 aM aN bI) λaO bJ=>
  fg (gJ 1 (.ptr L.iE 0) aO bJ) λcw z=>
  oP (ez (.ptr L.Aq 0) z) λY=>
  oP (ez (.ptr L.WI 0) z) λaP=>
  hV CS (gi aP []) z λaQ A=>
  (z.next<=A.next/\
  oP (fW [(V.I 0),(V.I 0),(V.I 0),(V.I 0),V.ee,(V.I 0)] [(0,1),(1,1),(2,1),(3,1),(4,1),(5,1)] [(0,(V.I 23)),(5,aQ)]) λaR=>
  ((ez (.ptr L.Aq 0) A=some Y)/\
  hV CS (gi Y [aR]) A λcx ac=>
  (A.next<=ac.next/\
  oP (ez (.ptr L.Aq 0) ac) λaS=>
  oP (fW [(V.I 0),(V.I 0),(V.I 0),(V.I 0),V.ee,(V.I 0)] [(0,1),(1,1),(2,1),(3,1),(4,1),(5,1)] [(0,(V.I 2)),(3,(V.I 1))]) λaT=>
  hV CS (gi aS [aT]) ac λaU aV=>
  oP (ez (.ptr L.Aq 0) aV) λaW=>
  oP (fW [(V.I 0),(V.I 0),(V.I 0),(V.I 0),V.ee,(V.I 0)] [(0,1),(1,1),(2,1),(3,1),(4,1),(5,1)] [(0,(V.I 4)),(1,a),(2,aU)]) λaX=>
  hV CS (gi aW [aX]) aV λZ aY=>
  oP (ez (.ptr L.iE 0) aY) λaZ=>
  hH (jK 3 1 1 (V.I 0) [(0,Z)]) aY λa4 bK=>
  fg (eR 3 1 8 aZ a4 bK) λa5 bL=>
  fg (gJ 1 (.ptr L.iE 0) a5 bL) λcy bQ=>
  oP (en .add 3 c (V.I 1)) λa6=>
  oP (en .add 3 c (V.I 2)) λa7=>
  hH (jK 3 1 2 (V.I 0) [(0,a6),(1,a7)]) bQ λa8 bR=>
  oP (fW [V.ee,(V.I 0),(V.I 0),V.ee,V.ee,(V.I 0)] [(0,1),(1,1),(2,1),(3,1),(4,1),(5,1)] [(1,(V.I 2)),(2,a),(3,a8)]) λa9=>
  hV CS (gi (KQ L) [a9]) bR λba bS=>K P c a X Z ba bS)))))))))))
   :=by
 have cA:=hn.k0;have hk:=hn.k;have hv:=hn.v;refine UA q ho hn (by omega) λh2 k2 q2=>?_;refine ed (by rfl) (ed q2.D.ldB (ed q2.D.ob.len (lT (m:=1) (show t.blocks.length<_ by omega) (by omega) ?_)));have n2:Sm (fL ops t.s).2 n:=hn.one;refine E2 q2 (show t.blocks.length<_ by omega) 1 0 [t.blocks.length+1] 0 rfl (λ_=>rfl) λF4 h4 R4 f4 k4 q4=>?_;refine lT (n:=t.blocks.length) (m:=1) (by omega) (by omega) ?_;refine lT (n:=t.blocks.length+1) (m:=1) (by omega) (by omega) ?_;refine zl q4 [t.blocks.length,t.blocks.length+2] rfl λF6 h6 R6 f6 k6 q6=>?_;have q6:=Ys (t':=end_ {t with s:=(fL ops t.s).2} 1 0 [t.blocks.length+1] 0 [t.blocks.length,t.blocks.length+2]) q6 rfl;have n6:Sm (end_ {t with s:=(fL ops t.s).2} 1 0 [t.blocks.length+1] 0 [t.blocks.length,t.blocks.length+2]).s n:=n2.end_ (t:={t with s:=(fL ops t.s).2}) _ _ _ _ _;have bU:(end_ {t with s:=(fL ops t.s).2} 1 0 [t.blocks.length+1] 0 [t.blocks.length,t.blocks.length+2]).blocks.length=t.blocks.length+1:=by simp[end_]
 have bb:(end_ {t with s:=(fL ops t.s).2} 1 0 [t.blocks.length+1] 0 [t.blocks.length,t.blocks.length+2]).s.ef.length=t.s.ef.length:=rfl;have kA:=kgm k2 (k4.trans k6 f4) λ_ h=>h;have fA:∀l,F l->F6 l:=by simp_all
 generalize bV:end_ {t with s:=(fL ops t.s).2} 1 0 [t.blocks.length+1] 0 [t.blocks.length,t.blocks.length+2]=b at*;clear q2 q4 k2 k4 k6;generalize bW:(fL ops t.s).1=fr at*;refine ed q6.qc ?_;have e3:∀x y:Nat,jK 3 1 2 (V.I 0) [(0,V.I (x:Nat)),(1,V.I (y:Nat))]=some (.cells 3 1 true false (gZ [x,y]),λl=> .slice l 0 2):=λ_ _=>rfl;have bX:jK 3 1 2 (V.I 0) [(0,V.I fr),(1,V.I 0)]=some (.cells 3 1 true false (gZ [fr,0]),λl=> .slice l 0 2):=e3 fr 0;rw[bX,fE];obtain⟨q7,s7,k7⟩:=GH q6 [fr,0];generalize h6.new (.cells 3 1 true false (gZ [fr,0]))=h7 at*;have eP:∀(x y n:Nat),fW [(V.I 0),(V.I 0),(V.I 0),(V.I 0),V.ee,(V.I 0)] [(0,1),(1,1),(2,1),(3,1),(4,1),(5,1)] [(0,(V.I 21)),(4,.slice n 0 2)]=some (.agg (mW (vl 21 0 0 0 [x,y] 0) (.slice n 0 2))):=λ_ _ _=>rfl;refine ed (by rfl) ?_;refine Nz q7 n6 (by omega) (vl 21 0 0 0 [fr,0] 0) s7 rfl λh8 R8 k8 _ q8=>?_;have n8:=n6.put (vl 21 0 0 0 [fr,0] 0);have bY:(put b.s (vl 21 0 0 0 [fr,0] 0)).ef.length=t.s.ef.length+1:=by simp[put,bb]
 rw[bb];generalize bZ:put b.s (vl 21 0 0 0 [fr,0] 0)=s1 at*;have kB:Kp F (gm G L.oG) h h8:=kA.trans ((k7.gm L.oG).trans (k8.gm L.oG) (qL _ _)) fA;have fB:∀l,F l->fz F6 h6.next l:=by grind[qL]
 clear kA k7 k8 q6 q7 s7;refine ed q8.qc (ed q8.D.Bm (ed q8.xu (ed q8.D.Bm (ed q8.D.ok.len ?_))));show cP CS fm [.I s1.known.length,.ptr L.oG 0,.ptr L.lr 0] h8 _;refine OG q8 ho n8 (by omega) λB l9 o9 k9 q9 b4 i1 i2=>⟨k9.next,ed i1 (ed i2 ?_)⟩
 have i2:ez (.ptr l9 o9) B=some (.I ((fL ops s1).1:Nat)):=i2;have q9:Dq (fz F6 h6.next) G B L ops {b with s:=(fL ops s1).2} R8:=q9;have n9:=n8.one (ops:=ops);have bc:(fL ops s1).2.ef.length=t.s.ef.length+1:=bY;show yU (jK 3 1 2 (V.I 0) [(0,V.I ((fL ops s1).1:Nat)),(1,V.I t.s.ef.length)]) B _;have eW:∀s:Ds,fL ops s=((fL ops s).1,(fL ops s).2):=λ_=>rfl;generalize b5:(fL ops s1).2=sg at*;generalize b6:(fL ops s1).1=g at*;rw[e3,g0];obtain⟨C,bd,Po⟩:=GH q9 [g,t.s.ef.length];have g10:(B.new (.cells 3 1 true false (gZ [g,t.s.ef.length]))).get B.next=_:=fh _ _;refine ed (by rfl) ⟨by grind[O.kX],iR i2 (fj _ b4),C.D.Bm,C.qc,?_⟩;generalize B.new (.cells 3 1 true false (gZ [g,t.s.ef.length]))=cB at*;refine Nz C n9 (by omega) (vl 21 0 0 0 [g,t.s.ef.length] 0) bd rfl λbe R11 ae _ ag=>⟨ae.next,?_⟩
 have bf:=n9.put (vl 21 0 0 0 [g,t.s.ef.length] 0);have bg:(put sg (vl 21 0 0 0 [g,t.s.ef.length] 0)).ef.length=t.s.ef.length+2:=by simp[put,bc]
 have Nj:(({b with s:=sg}:Dt).s.ef.length:Nat)=t.s.ef.length+1:=bc;rw[Nj];generalize b7:put sg (vl 21 0 0 0 [g,t.s.ef.length] 0)=s2 at*;have ag:Dq (fz (fz F6 h6.next) B.next) G be L ops {b with s:=s2} R11:=ag;have kC:Kp F (gm G L.oG) h be:=kB.trans (k9.trans ((Po.gm L.oG).trans (ae.gm L.oG) (qL _ _)) λ_ h=>h) fB;have fC:∀l,F l->fz (fz F6 h6.next) B.next l:=by grind[qL]
 clear kB k9 Po ae q8 q9 C bd;generalize fz (fz F6 h6.next) B.next=FC at*;refine Zg ag bf (by omega) [t.s.ef.length,t.s.ef.length+1] (by simp) (by simp) (e3 _ _) λb8 R12 b9 r=>?_;have ah:=bf.app [t.s.ef.length,t.s.ef.length+1];have bh:({s2 with known:=s2.known++[t.s.ef.length,t.s.ef.length+1]}:Ds).ef.length=t.s.ef.length+2:=bg;have r:Dq FC G b8 L ops {b with s:={s2 with known:=s2.known++[t.s.ef.length,t.s.ef.length+1]} } R12:=r;generalize ca:({s2 with known:=s2.known++[t.s.ef.length,t.s.ef.length+1]}:Ds)=s3 at*;have ah:Sm s3 (n+4):=ah;refine ed r.qc (ed r.KY ?_);refine OC r ho ah (by omega) λi cb R13 cC bi E I=>⟨bi.next,?_⟩
 have cd:=Ei ops s3;have bj:(fH ops s3).2.ef.length=t.s.ef.length+2:=by rw[cd.1];exact bh
 have E:Dq i G cb L ops {b with s:=(fH ops s3).2} R13:=E;have I:Sm (fH ops s3).2 (n+4+1):=I;show oP (fW _ _ [(0,V.I 23),(5,.I ((fH ops s3).1:Nat))]) _;generalize ce:(fH ops s3).2=s4 at*;generalize cf:(fH ops s3).1=sn at*;have eS:fW [(V.I 0),(V.I 0),(V.I 0),(V.I 0),V.ee,(V.I 0)] [(0,1),(1,1),(2,1),(3,1),(4,1),(5,1)] [(0,(V.I 23)),(5,.I sn)]=some (.agg (mW (vl 23 0 0 0 [] sn) .ee)):=rfl;refine ed eS ⟨E.qc,?_⟩;refine Nz E I (by omega) (vl 23 0 0 0 [] sn) .nil rfl λcg R14 bm _ J=>⟨bm.next,?_⟩
 have bo:=I.put (vl 23 0 0 0 [] sn);have aa:(put s4 (vl 23 0 0 0 [] sn)).ef.length=t.s.ef.length+3:=by simp[put,bj]
 have J:Dq i G cg L ops {b with s:=put s4 (vl 23 0 0 0 [] sn)} R14:=J;generalize br:put s4 (vl 23 0 0 0 [] sn)=s5 at*;refine ed J.qc ?_;have eO:fW [(V.I 0),(V.I 0),(V.I 0),(V.I 0),V.ee,(V.I 0)] [(0,1),(1,1),(2,1),(3,1),(4,1),(5,1)] [(0,(V.I 2)),(3,(V.I 1))]=some (.agg (mW (vl 2 0 0 1 [] 0) .ee)):=rfl;refine ed eO ?_;refine Nz J bo (by omega) (vl 2 0 0 1 [] 0) .nil rfl λci R15 cj _ M=>?_;have bt:=bo.put (vl 2 0 0 1 [] 0);have u:(put s5 (vl 2 0 0 1 [] 0)).ef.length=t.s.ef.length+4:=by simp[put,aa]
 have cl:(({b with s:=s5}:Dt).s.ef.length:Nat)=t.s.ef.length+3:=aa;rw[cl];have M:Dq i G ci L ops {b with s:=put s5 (vl 2 0 0 1 [] 0)} R15:=M;generalize bu:put s5 (vl 2 0 0 1 [] 0)=d at*;refine ed M.qc ?_;have eUn:∀p o:Nat,fW [(V.I 0),(V.I 0),(V.I 0),(V.I 0),V.ee,(V.I 0)] [(0,1),(1,1),(2,1),(3,1),(4,1),(5,1)] [(0,(V.I 4)),(1,.I (p:Nat)),(2,.I (o:Nat))]=some (.agg (mW (vl 4 p o 0 [] 0) .ee)):=λ_ _=>rfl;refine ed (eUn _ _) ?_;refine Nz M bt (by omega) (vl 4 t.s.ef.length (t.s.ef.length+3) 0 [] 0) .nil rfl λcD cE cm _ cn=>?_;have bw:=bt.put (vl 4 t.s.ef.length (t.s.ef.length+3) 0 [] 0);have co:(({b with s:=d}:Dt).s.ef.length:Nat)=t.s.ef.length+4:=u;rw[co];refine Zg cn bw (by omega) [t.s.ef.length+4] (by simp) (by simp) rfl λcp R17 cq ai=>?_;have aj:=bw.app [t.s.ef.length+4];have bx:({ ({b with s:=put d (vl 4 t.s.ef.length (t.s.ef.length+3) 0 [] 0)}:Dt).s with known:=({b with s:=put d (vl 4 t.s.ef.length (t.s.ef.length+3) 0 [] 0)}:Dt).s.known++[t.s.ef.length+4]}:Ds)=jh d (vl 4 t.s.ef.length (t.s.ef.length+3) 0 [] 0):=by
  unfold jh put;simp only[u]
 have ai:Dq i G cp L ops {b with s:=jh d (vl 4 t.s.ef.length (t.s.ef.length+3) 0 [] 0)} R17:=by rw[<-bx];exact ai
 have aj:Sm (jh d (vl 4 t.s.ef.length (t.s.ef.length+3) 0 [] 0)) (n+10):=by rw[<-bx];exact aj.le (by grind)
 have bz:(jh d (vl 4 t.s.ef.length (t.s.ef.length+3) 0 [] 0)).ef.length=t.s.ef.length+5:=by simp[jh,u]
 refine lT (n:=t.blocks.length+1) (m:=1) (by omega) (by omega) ?_;refine lT (n:=t.blocks.length+1) (m:=2) (by omega) (by omega) ?_;refine E2 ai (show b.blocks.length<_ by omega) 2 t.s.ef.length [t.blocks.length+2,t.blocks.length+3] 0 rfl (λ_=>rfl) λcr bA R18 cF ct cu=>?_;have bC:(({b with s:=jh d (vl 4 t.s.ef.length (t.s.ef.length+3) 0 [] 0)}:Dt).blocks.length:Nat)=t.blocks.length+1:=bU;rw[bC];have kD:Kp F (gm G L.oG) h bA:=((kC.trans ((b9.gm L.oG).trans bi λ_ h=>h) fC).trans (F':=i) ((((bm.gm L.oG).trans (cj.gm L.oG) λ_ h=>h).trans (cm.gm L.oG) λ_ h=>h).trans (cq.gm L.oG) λ_ h=>h) (by grind)).trans (F':=i) (ct.gm L.oG) (by grind);subst bV bW bZ b5 b6 b7 ca ce cf br bu;exact H cr bA R18 _ (by grind) kD cu aj rfl bz
end
open Un
theorem L8(ops:List Int)(t:Dt):(p9 ops t).ef[t.s.ef.length+1]? =some (vl 21 0 0 0 [EB ops t,t.s.ef.length] 0)/\(p9 ops t).ef.length=t.s.ef.length+5:=by
 obtain⟨x,a⟩:=Ma ops t
 grind[p9,jh,put,M6,Zo,wBd]
theorem R0(ops:List Int)(t:Dt):(mm ops t).ef[t.s.ef.length+1]? =some (vl 21 0 0 0 [EB ops t,t.s.ef.length] 0)/\t.s.ef.length+5<=(mm ops t).ef.length/\(mm ops t).known=(row ops (nq ops t).s).known:=by
 obtain ⟨e,h⟩:=L8 ops t;obtain⟨_,l,b⟩:=HT ops (nq ops t).s;have e0:(nq ops t).s.ef=(p9 ops t).ef:=rfl;have f:(row ops (nq ops t).s).ef[t.s.ef.length+1]? =some (vl 21 0 0 0 [EB ops t,t.s.ef.length] 0):=by
  rw[b,e0,Wx (by omega)];exact e
 have g:t.s.ef.length+5<=(row ops (nq ops t).s).ef.length:=by rw[b,e0,K8];omega
 have a:∀(s:Ds) (l:List Nat),s.ef[t.s.ef.length+1]? =some (vl 21 0 0 0 [EB ops t,t.s.ef.length] 0)->(setArgs s t.s.ef.length l).ef[t.s.ef.length+1]? =some (vl 21 0 0 0 [EB ops t,t.s.ef.length] 0):=by
  intro s l hs;show(s.ef.modify t.s.ef.length _)[t.s.ef.length+1]? =_;rw[List.getElem?_modify,hs];show some (if _ then _ else _)=_;rw[if_neg (by omega)]
 have c:=a _ [(fL ops t.s).1,t.s.ef.length+4] f;have i:t.s.ef.length+5<=(pw ops t).ef.length:=by unfold pw;rw[(E6 _ _ _).1];exact g
 have d:(num ops (pw ops t) 3).2.ef=(pw ops t).ef:=rfl;unfold mm;split
 ·exact⟨a _ _ (by rw[d];exact c),by grind[E6],rfl⟩
 ·exact⟨by rw[d];exact c,by simp_all,rfl⟩
section
variable{F F' G G':Nat->Prop}{h h':Hp}{L:Lc}{ops:List Int}{t t':Dt}{R R':Rw}{Q:fo}
theorem nx2(x y:Nat):jK 3 1 2 (V.I 0) [(0,V.I x),(1,V.I y)]=some (.cells 3 1 true false (gZ [x,y]),λl=> .slice l 0 2):=rfl
theorem zaB(ho:ops.length<9223372036854775808){n:Nat}(hn:Sm (mm ops t) n)(am:n<880)(hb:t.blocks.length<900)(q:Dq F G h L ops {nq ops t with s:=mm ops t} R){K:Hp->Prop}
  (H:∀F' h' R',(∀l,F l->F' l)->Kp F (gm G L.oG) h h'->Dq F' G h' L ops (loop ops t) R'->Sm (loop ops t).s (n+6)->K h') :
  oP (fF 2 (.ptr L.lu 0)) λb=>
  oP (ez b h) λc=>
  oP (fF 2 (.ptr L.lu 0)) λd=>
  oP (ez d h) λe=>
  oP (gG 6 e (.I ((t.s.ef.length+1:Nat):Int))) λz=>
  oP (fF 4 z) λf=>
  oP (ez f h) λg=>
  oP (gG 1 g (V.I 0)) λj=>
  oP (ez j h) λo=>
  oP (ez (.ptr L.iE 0) h) λr=>
  oP (ez (.ptr L.iE 0) h) λu=>
  oP (fD u) λA=>
  oP (en .sub 3 A (V.I 1)) λB=>
  oP (gG 1 r B) λv=>
  oP (ez v h) λw=>
  yU (jK 3 1 2 (V.I 0) [(0,o),(1,w)]) h λx C a=>
  oP (gG 6 c (.I ((t.s.ef.length+1:Nat):Int))) λE=>
  oP (fF 4 E) λI=>
  ((a.get (h.next)=some x/\O.beq x x=true)/\
  ((ez v a=some w)/\
  ((ez (.ptr L.iE 0) a=some u)/\
  ((ez (.ptr L.iE 0) a=some r)/\
  ((ez j a=some o)/\
  ((ez f a=some g)/\
  ((ez d a=some e)/\
  ((ez b a=some c)/\
  fg (gJ 1 I C a) λvu h2=>
  (a.next<=h2.next/\
  oP (ez (.ptr L.iE 0) h2) λJ=>
  oP (jz 1 J none (some (.I ((p9 ops t).known.length:Nat))) h2) λM=>
  fg (gJ 1 (.ptr L.iE 0) M h2) λai h3=>
  hH (jK 3 1 1 (V.I 0) [(0,(.I ((t.blocks.length+1:Nat):Int)))]) h3 λN h4=>
  oP (fW [V.ee,(V.I 0),(V.I 0),V.ee,V.ee,(V.I 0)] [(0,1),(1,1),(2,1),(3,1),(4,1),(5,1)] [(1,(V.I 1)),(3,N)]) λP=>
  hV CS (gi (KQ L) [P]) h4 λaj h5=>
  hH (jK 3 1 1 (V.I 0) [(0,(.I ((t.blocks.length+1:Nat):Int)))]) h5 λQ h6=>
  oP (fF 4 (.ptr L.jP 0)) λS=>
  fg (gJ 1 S Q h6) λak h7=>
  hV CS (gi (LD L) []) h7 λal h8=>K h8))))))))):=by
 obtain⟨y1,y2,y3⟩:=R0 ops t;have aa:=(HT ops (nq ops t).s).kl;have T:(p9 ops t).known.length<=(mm ops t).known.length:=by rw[y3];exact aa
 have hk:=hn.k;have U:=hn.k0;have ab:0<(p9 ops t).known.length:=by
  show 0<(_++[_]).length;simp
 have W:t.s.ef.length+1<({nq ops t with s:=mm ops t}:Dt).s.ef.length:=by show _<(mm ops t).ef.length;omega
 have eg:(mm ops t).ef[t.s.ef.length+1]'(by omega)=vl 21 0 0 0 [EB ops t,t.s.ef.length] 0:=by
  rw[hO (by omega)]at y1;exact Option.some.inj y1
 have an:({nq ops t with s:=mm ops t}:Dt).blocks.length=t.blocks.length+2:=by simp[nq,NS,end_]
 refine ed (by rfl) (ed q.D.Yl (ed (by rfl) (ed q.D.Yl ?_)));obtain⟨l1,o1,w1,ac,i1,i2,i3,i4⟩:=q.D.ov.read.ix W .i64;obtain⟨wa,X,sa⟩:=i3;rw[eg]at X sa;have ia:=i4 4 wa (by rw[X];rfl);have i1:gG 6 R.vv (.I ((t.s.ef.length+1:Nat):Int))=some (.ptr l1 o1):=i1;refine ed i1 (ed (by rfl) (ed ia ?_));have Y:l1<h.next:=ac.elim (q.D.fl l1) λh=>(q.D.ov.xi h).2.1;obtain⟨l2,o2,u2,ae,j1,j2,j3⟩:=sa.Wd (i:=0) (by simp[vl]) .i64 rfl;have Z:l2<h.next:=ae.elim (q.D.fl l2) λh=>(q.D.ov.xi h).2.1;obtain⟨rfl⟩:u2 = .I (EB ops t:Nat):=by
  have:[u2]=[V.I (EB ops t:Nat)]:=j3
  simp_all
 refine ed j1 (ed j2 ?_);obtain⟨l3,o3,ag,_,m1,m2⟩:=q.HW (i:=(mm ops t).known.length-1) (by grind);have m3:ez (.ptr l3 o3) h=some (.I ((mm ops t).known.getLastD 0:Nat)):=by rw[m2];show some (V.I (((mm ops t).known.getD _ 0:Nat):Int))=_;rw[C7 _ U]
 refine ed q.D.Bm (ed q.D.Bm (ed q.D.ok.len (Av (by grind) U (ed m1 (ed m3 ?_)))));rw[nx2,g0];obtain⟨y,s1,k1⟩:=GH q [EB ops t,(mm ops t).known.getLastD 0];have g1:(h.new (.cells 3 1 true false (gZ [EB ops t,(mm ops t).known.getLastD 0]))).get h.next=_:=fh _ _;refine ed i1 (ed (by rfl) ?_);refine⟨by simp_all,iR m3 (fj _ ag),y.D.Bm,y.D.Bm,iR j2 (fj _ Z),iR ia (fj _ Y),y.D.Yl,y.D.Yl,?_⟩;obtain⟨l4,h4,a1,a2,a3,a4,D4⟩:=y.D.zdL (p:=t.s.ef.length+1) W s1;have e4:V.ptr l1 (o1+4)=V.ptr l4 ((t.s.ef.length+1)*6+4):=by
  have:(V.ptr l1 o1)=V.ptr l4 ((t.s.ef.length+1)*6):=by simp_all
  cases this;rfl
 rw [e4];simp only[Rb,wB4,zO]at a2;rw[a2,ei];refine⟨a3,?_⟩;have q4:=Ys (t':={nq ops t with s:=EV ops t}) (y.step a4 D4 (by simp_all) q.gl y.hq rfl) (by
  grind[EV])
 have ah:Sm (EV ops t) n:=hn.setArgs _ _;refine QW q4 (m:=(p9 ops t).known.length) T λh5 R5 k5 q5=>?_;have n5:Sm (cut (p9 ops t).known.length (EV ops t)) n:=ah.cut ab T;refine E2 q5 (show({nq ops t with s:=mm ops t}:Dt).blocks.length<_ by omega) 1 0 [t.blocks.length+1] 0 rfl (λ_=>rfl) λF6 h6 R6 f6 k6 q6=>?_;refine zl q6 [t.blocks.length+1] rfl λF7 h7 R7 f7 k7 q7=>?_;have q7:=Ys (t':=TD ops t) q7 rfl;have n7:Sm (TD ops t).s n:=n5.end_ (t:={nq ops t with s:=cut (p9 ops t).known.length (EV ops t)}) _ _ _ _ _;refine HB q7 ho n7 (by omega) λF8 h8 R8 f8 k8 q8 n8=>?_;have ff:∀l,F l->F7 l:=by grind[qL]
 refine H F8 h8 R8 (by simp_all) ?_ (by grind[Ys,V6]) (by grind[V6]);have kk:=(((k1.gm L.oG).trans (a4.gm L.oG) (qL _ _)).trans (F':=fz F h.next) ((k5.gm L.oG).trans (k6.gm L.oG) λ_ h=>h) (qL _ _)).trans (F':=F6) (k7.gm L.oG) (by grind[qL]);exact kk.trans k8 ff
theorem zbP(ho:ops.length<9223372036854775808){n:Nat}(hn:Sm (p9 ops t) n)(al:n<860)(hb:t.blocks.length<900)
  (q:Dq F G h L ops (end_ {NS ops t with s:=p9 ops t} 2 t.s.ef.length [t.blocks.length+2,t.blocks.length+3] 0 []) R) {K:fo}
  (H:∀F' h' R',(∀l,F l->F' l)->Kp F (gm G L.oG) h h'->Dq F' G h' L ops {nq ops t with s:=mm ops t} R'->Sm (mm ops t) (n+6)->K (.I ((p9 ops t).known.length:Nat)) h') :
  oP (ez (.ptr L.iE 0) h) λw=>
  oP (fD w) λd=>
  hH (jK 3 1 1 (V.I 0) [(0,(.I ((t.blocks.length+1:Nat):Int)))]) h λx aa=>
  oP (fF 4 (.ptr L.jP 0)) λy=>
  fg (gJ 1 y x aa) λaj ab=>
  hV CS (gi (LD L) []) ab λak z=>
  oP (fF 2 (.ptr L.lu 0)) λA=>
  oP (ez A z) λB=>
  hH (jK 3 1 2 (V.I 0) [(0,(.I ((fL ops t.s).1:Nat))),(1,(.I ((t.s.ef.length+4:Nat):Int)))]) z λC ac=>
  oP (gG 6 B (.I t.s.ef.length)) λE=>
  oP (fF 4 E) λI=>
  fg (gJ 1 I C ac) λae J=>
  oP (ez (.ptr L.qC 0) J) λM=>
  hV CS (gi M [(V.I 3)]) J λN a=>
  oP (en .eql 3 N (V.I 0)) λP=>
  bP P (
  oP (fF 2 (.ptr L.lu 0)) λe=>
  oP (ez e a) λf=>
  oP (ez (.ptr L.iE 0) a) λg=>
  oP (ez (.ptr L.iE 0) a) λj=>
  oP (fD j) λQ=>
  oP (en .sub 3 Q (V.I 1)) λS=>
  oP (gG 1 g S) λm=>
  oP (ez m a) λo=>
  yU (jK 3 1 2 (V.I 0) [(0,(.I ((fL ops t.s).1:Nat))),(1,o)]) a λu T b=>
  oP (gG 6 f (.I t.s.ef.length)) λU=>
  oP (fF 4 U) λW=>
  ((b.get (a.next)=some u/\O.beq u u=true)/\
  ((ez m b=some o)/\
  ((ez (.ptr L.iE 0) b=some j)/\
  ((ez (.ptr L.iE 0) b=some g)/\
  ((ez e b=some f)/\
  fg (gJ 1 W T b) λag X=>
  (b.next<=X.next/\K d X)))))))
  (K d a):=by
 obtain⟨_,z2⟩:=L8 ops t;have hk:=hn.k;have am:=hn.k0;refine ed q.D.Bm (ed q.D.ok.len ?_);refine zl q [t.blocks.length+1] rfl λF1 h1 R1 f1 k1 q1=>?_;have q1:=Ys (t':=nq ops t) q1 rfl;have n1:Sm (nq ops t).s n:=hn.end_ (t:={NS ops t with s:=p9 ops t}) _ _ _ _ _;refine HB q1 ho n1 (by omega) λF2 h2 R2 f2 k2 q2 n2=>?_;obtain⟨_,l,hl⟩:=HT ops (nq ops t).s;have e0:(nq ops t).s.ef=(p9 ops t).ef:=rfl;have h4:t.s.ef.length+5<=(row ops (nq ops t).s).ef.length:=by rw[hl,e0,K8];omega
 refine ed (by rfl) (ed q2.D.Yl ?_);rw[nx2,fE];obtain⟨q3,s3,k3⟩:=GH q2 [(fL ops t.s).1,t.s.ef.length+4];obtain⟨l4,Y,a1,a2,a3,a4,D4⟩:=q3.D.zdL (p:=t.s.ef.length) (by grind) s3;refine ed a1 (ed (by rfl) ?_);simp only[Rb,wB4,zO]at a2;rw[a2,ei];have q4:Dq (fz F2 h2.next) G Y L ops {nq ops t with s:=pw ops t} R2:=q3.step a4 D4 (by simp_all) q.gl q3.hq rfl;have n4:Sm (pw ops t) (n+6):=n2.setArgs _ _;refine ed q4.xu ?_;show cP CS fm [.I ((3:Nat):Int),.ptr L.oG 0,.ptr L.lr 0] Y _;refine ze q4 (by decide) (by decide) ho λZ k5 c=>?_;have c:Dq (fz F2 h2.next) G Z L ops {nq ops t with s:=(num ops (pw ops t) 3).2} R2:=c;have n5:Sm (num ops (pw ops t) 3).2 (n+6):=n4.num 3;have ff:∀l,F l->fz F2 h2.next l:=by grind[qL]
 have kk:Kp F (gm G L.oG) h Z:=(((k1.gm L.oG).trans k2 f1).trans ((k3.gm L.oG).trans (a4.gm L.oG) (qL _ _)) (by simp_all)).trans k5 ff;show oP (en .eql 3 (.I ((num ops (pw ops t) 3).1:Nat)) (V.I 0)) _;by_cases hd:(num ops (pw ops t) 3).1=0
 ·refine fZ (gj (by omega) ?_);have e9:mm ops t=setArgs (num ops (pw ops t) 3).2 t.s.ef.length [(fL ops t.s).1,(row ops (nq ops t).s).known.getLastD 0]:=by unfold mm;rw[if_pos hd]
  have an:=n5.k;have r:=n5.k0;have ah:(num ops (pw ops t) 3).2.known=(row ops (nq ops t).s).known:=rfl;refine ed (by rfl) (ed c.D.Yl ?_);obtain⟨l3,o3,ai,_,m1,m2⟩:=c.HW (i:=(num ops (pw ops t) 3).2.known.length-1) (by grind);have m3:ez (.ptr l3 o3) Z=some (.I ((row ops (nq ops t).s).known.getLastD 0:Nat)):=by
   rw[m2,<-ah];show some (V.I (((num ops (pw ops t) 3).2.known.getD _ 0:Nat):Int))=_;rw[C7 _ r]
  refine ed c.D.Bm (ed c.D.Bm (ed c.D.ok.len (Av (by grind) r (ed m1 (ed m3 ?_)))));rw[nx2,g0];obtain⟨v,s6,k6⟩:=GH c [(fL ops t.s).1,(row ops (nq ops t).s).known.getLastD 0];have g6:(Z.new (.cells 3 1 true false (gZ [(fL ops t.s).1,(row ops (nq ops t).s).known.getLastD 0]))).get Z.next=_:=fh _ _;obtain⟨l7,h7,b1,b2,b3,b4,D7⟩:=v.D.zdL (p:=t.s.ef.length) (by
   show _<(pw ops t).ef.length
   grind[pw,E6]) s6
  refine ed b1 (ed (by rfl) ?_);refine⟨by simp_all,iR m3 (fj _ ai),v.D.Bm,v.D.Bm,v.D.Yl,?_⟩;simp only[Rb,wB4,zO]at b2;rw[b2,ei];have q7:=Ys (t':={nq ops t with s:=mm ops t}) (v.step b4 D7 (by simp_all) q.gl v.hq rfl) (by rw[e9]);refine⟨b3,H _ _ _ (by grind[qL]) (kk.trans ((k6.gm L.oG).trans (b4.gm L.oG) (qL _ _)) ff) q7 ?_⟩;rw[e9];exact n5.setArgs _ _
 ·refine fZ (fU (by omega) ?_);have e9:mm ops t=(num ops (pw ops t) 3).2:=by unfold mm;rw[if_neg hd]
  exact H _ _ _ ff kk (Ys c (by rw[e9])) (by rw[e9];exact n5)
end
open Un
def uC(u:U)(v b s:V):List V:=[.I u.func,.I u.pc,v,b,s]
def eUn:qH U where
 sz:=5
 rel F h u cs:=∃v b s,cs=uC u v b s/\ie eV F h u.ef v/\ie eK F h u.blocks b/\ie eT F h u.eh s
 len:=λ⟨_,_,_,h,_⟩=>by subst h;rfl
 one:=λ⟨_,_,_,h,a,c,d⟩=>by subst h;simp only[uC,eo,a.one,c.one,d.one];rfl
 fi:=λhk ⟨v,n,p,h,a,c,d⟩=>⟨v,n,p,h,a.fi hk,c.fi hk,d.fi hk⟩
 mono:=λe ⟨v,n,p,h,a,c,d⟩=>⟨v,n,p,h,a.mono e,c.mono e,d.mono e⟩
theorem za6(ops:List Int)(t:Dt):(fork ops t).blocks.length=t.blocks.length+3:=by simp[fork,end_]
theorem zbw(ops:List Int)(t:Dt):(zo ops t).blocks.length=t.blocks.length+2:=by simp[zo,end_]
theorem zbV(ops:List Int)(t:Dt):(loop ops t).blocks.length=t.blocks.length+3:=by simp[loop,end_]
section
variable{F F' G G':Nat->Prop}{h h':Hp}{L:Lc}{ops:List Int}{t t':Dt}{R R':Rw}{Q:fo}
theorem zfn{a:List Int}{vo vs nv:V}{b:Nat}(y:ops.length<9223372036854775808)(q:Dq F G h L ops t R)(hn:Sm t.s 30)(hb:t.blocks.length=0)(A:h.get L.lr=some (.cells Sl 1 true false [vo,vs,nv]))(Y:ie (eI .i64) F h a vs)
  (ai:G b) (Z:b≠L.oG) (aa:∃c,h.get b=some (.cells 30 1 true false c)/\c.length=5)
  (H:∀F' h' R' d,(∀l,F l->F' l)->Kp F (gm G L.oG) h h'->Dq F' G h' L ops d R'->d=end_ {mi ops (a.take 6) t with s:=(fH ops (mi ops (a.take 6) t).s).2} 3 0 [] (fH ops (mi ops (a.take 6) t).s).1 []->
   fg (gJ 5 (.ptr b 0) (.agg [.I 1,.I 2,R'.vv,R'.vb,R'.vs]) h') λ_ f=>oP (fX 5 (.ptr b 0) f) λr=>Q r f) :
  pH CS Q (.ptr L.lr 0) (.ptr b 0) (.ptr L.lu 0) (.ptr L.iE 0) (.ptr L.jP 0) (.ptr L.Aq 0) (.ptr L.qC 0) (.ptr L.WI 0) (LD L) (KQ L) (.I 0) h:=by
 refine DM (λk M N O P S T g j m n o h'=>∃(F':Nat->Prop) (R':Rw) (i:Nat) (t':Dt),M = .ptr L.lr 0/\N = .ptr b 0/\O = .ptr L.lu 0/\P = .ptr L.iE 0/\S = .ptr L.jP 0/\T = .ptr L.Aq 0/\
  g = .ptr L.qC 0/\j = .ptr L.WI 0/\m=LD L/\n=KQ L/\o = .I i/\i+k=6/\(∀l,F l->F' l)/\Kp F (gm G L.oG) h h'/\Dq F' G h' L ops t' R'/\Sm t'.s (30+30*i)/\t'.blocks.length<=3*i/\
  mi ops ((a.take 6).drop i) t' = mi ops (a.take 6) t) ?_ (k:=6)
  ⟨F,R,0,t,rfl,rfl,rfl,rfl,rfl,rfl,rfl,rfl,rfl,rfl,rfl,rfl,λ_ h=>h,Kp.refl _ _ _,q,hn,by omega,by rw[wBS]⟩
 rintro k M N O P S T g j m n o h' ⟨F1,R1,i,d,rfl,rfl,rfl,rfl,rfl,rfl,rfl,rfl,rfl,rfl,rfl,aj,hF,U,u,W,b1,B⟩;unfold vD;have C:h'.get L.lr=some (.cells Sl 1 true false [vo,vs,nv]):=by rw[U.fi _ (.inl q.fr)];exact A
 have E:ez (.ptr L.lr 1) h' = some vs:=ma C rfl;have lv:=u.D.ov.len;have I:ie (eI .i64) F h' a vs:=Y.fi λl hl=>U.fi l (.inl hl);refine ed (by rfl) (ed E (ed I.len (ed (by rfl) ?_)));have e1:jX (.bool (decide (((i:Nat):Int)<(a.length:Nat)))) (oB (some (V.I i)) λab=>en .lss 3 ab (V.I 6))=some (.bool (decide (((i:Nat):Int)<(a.length:Nat))&&decide (((i:Nat):Int)<6))):=by
  simp only[fe,jT,j6]
 refine ed e1 ?_
 have e2:jX (.bool (decide (((i:Nat):Int)<(a.length:Nat))&&decide (((i:Nat):Int)<6))) (oB (fF 2 (.ptr L.lu 0)) λac=>oB (ez ac h') λae=>oB (fD ae) λag=>en .lss 3 ag (V.I 160)) =
   some (.bool ((decide (((i:Nat):Int)<(a.length:Nat))&&decide (((i:Nat):Int)<6))&&decide (((d.s.ef.length:Nat):Int)<160))):=by
  simp only[fS,fe,zO,u.D.Yl,lv,jT,j6]
 refine ed e2 (iJ ?_);by_cases hgo:i<a.length/\i<6/\d.s.ef.length<160;rotate_left
 ·
  refine fU (by grind) ?_;have J:d=mi ops (a.take 6) t:=by
   rw[<-B];by_cases hi:i<(a.take 6).length
   ·rw[Yq hi];unfold mi
    grind
   ·rw[List.drop_of_length_le (by omega)];rfl
  subst J;refine ed u.KY ?_;refine OC u y W (by omega) λp f R2 K v w z=>?_;have eB:∀sn:Nat,fW [V.ee,(V.I 0),(V.I 0),V.ee,V.ee,(V.I 0)] [(0,1),(1,1),(2,1),(3,1),(4,1),(5,1)] [(1,(V.I 3)),(5,.I (sn:Nat))]=some (.agg (lB ⟨[],3,0,[],[],sn⟩ .ee .ee .ee)):=λ_=>rfl;refine ed (eB _) ?_;refine VF w (show(mi ops (a.take 6) t).blocks.length<_ by omega) ⟨[],3,0,[],[],_⟩ rfl rfl rfl .nil λF3 h3 R3 f3 k3 X=>?_;have lA:fX 5 (.ptr L.lu 0) h3=some (.agg [.I 1,.I 2,R3.vv,R3.vb,R3.vs]):=DB X.D.gu rfl;refine ed lA ?_;have kk:=(U.trans v hF).trans (k3.gm L.oG) (by simp_all);exact H F3 h3 R3 _ (by grind) kk X rfl
 obtain⟨g1,g2,g3⟩:=hgo;refine gj (by grind) ?_;obtain⟨l4,o4,u4,_,i1,i2,i3⟩:=I.Wd g1 .i64 rfl;obtain⟨rfl⟩:u4 = .I a[i]:=by simpa using i3.1
 refine ed (by rfl) (ed E (ed i1 (ed i2 ?_)));show cP CS iQ [.I a[i],.I ((3:Nat):Int)] h' _;refine MZ (by decide) (by decide) ?_;have ah:i<(a.take 6).length:=by rw[NM];omega
 have x:mi ops ((a.take 6).drop (i+1)) (vn ops (mV a[i] 3) d)=mi ops (a.take 6) t:=by
  rw[<-B,Yq ah]
  conv=>rhs;unfold mi
  rw[if_pos g3,List.getElem_take]
 have fin:∀(p:Nat->Prop) (f:Hp) (R2:Rw),(∀l,F1 l->p l)->Kp F1 (gm G L.oG) h' f->Dq p G f L ops (vn ops (mV a[i] 3) d) R2->Sm (vn ops (mV a[i] 3) d).s (30+30*i+30)->(vn ops (mV a[i] 3) d).blocks.length<=3*(i+1)->
   ke CS Q (λM N O P S T g j m n o hh=>∃k',k' < k/\∃(F':Nat->Prop) (R':Rw) (i:Nat) (t':Dt),M = .ptr L.lr 0/\N = .ptr b 0/\O = .ptr L.lu 0/\P = .ptr L.iE 0/\S = .ptr L.jP 0/\T = .ptr L.Aq 0/\
    g = .ptr L.qC 0/\j = .ptr L.WI 0/\m=LD L/\n=KQ L/\o = .I i/\i+k' = 6/\(∀l,F l->F' l)/\Kp F (gm G L.oG) h hh/\Dq F' G hh L ops t' R'/\Sm t'.s (30+30*i)/\t'.blocks.length<=3*i/\
    mi ops ((a.take 6).drop i) t' = mi ops (a.take 6) t) (.ptr L.lr 0) (.ptr b 0) (.ptr L.lu 0) (.ptr L.iE 0) (.ptr L.jP 0) (.ptr L.Aq 0) (.ptr L.qC 0) (.ptr L.WI 0) (LD L) (KQ L) (.I i) f:=by
  intro p f R2 K v w z b2;refine CN ?_;unfold uE;refine fI ?_;exact⟨k-1,by omega,p,R2,i+1,_,rfl,rfl,rfl,rfl,rfl,rfl,rfl,rfl,rfl,rfl,rfl,by omega,by simp_all,U.trans v hF,w,z,b2,x⟩
 by_cases c0:mV a[i] 3=0
 ·refine fZ (gj (by omega) ?_);have e:vn ops (mV a[i] 3) d=fork ops d:=by unfold vn;rw[if_pos c0]
  rw[e]at fin;refine zaJ u y W (by omega) (by omega) λp f R2 K v w z=>?_
  grind[za6]
 refine fZ (fU (by omega) ?_);by_cases c1:mV a[i] 3=1
 ·refine fZ (gj (by omega) ?_);have e:vn ops (mV a[i] 3) d=loop ops d:=by unfold vn;rw[if_neg c0,if_pos c1]
  rw[e]at fin;refine zbu u y W (by omega) (by omega) λp f R2 s6 K v w z e6 _=>?_;subst e6;refine zbP y z (by omega) (by omega) w λF3 h3 R3 f3 k3 X n3=>?_;refine CX ?_;unfold uP;refine zaB y n3 (by omega) (by omega) X λF4 h4 R4 f4 k4 q4 n4=>?_;exact fin F4 h4 R4 (by grind) ((v.trans k3 K).trans k4 (by simp_all)) q4 (n4.le (by omega)) (by grind[zbV])
 ·refine fZ (fU (by omega) ?_);have e:vn ops (mV a[i] 3) d=zo ops d:=by unfold vn;rw[if_neg c0,if_neg c1]
  rw[e]at fin;refine zaN u y W (by omega) (by omega) λp f R2 K v w z=>?_
  grind[zbw]
end
