/- Parts. -/
import Derived.Test.YtpfjdlicdljhaaaDoorM21
set_option maxHeartbeats 4000000
namespace Go.Proofs.YtpfjdlicdljhaaaDoor.Hx
open Un
section
variable{F F' G G':Nat->Prop}{h h':Hp}{L:Lc}{ops:List Int}{t t':Dt}{R R':Rw}{Q:fo}
theorem Sm.app{s:Ds}{n:Nat}(a:Sm s n)(ys:List Nat):Sm {s with known:=s.known++ys} (n+ys.length):=
 ⟨by have:=a.v;grind,by have:=a.c;grind,by have:=a.k;simp_all,by have:=a.st;grind,by have:=a.k0;grind⟩
theorem J7:∀ys:List Nat,fW (gJ ys)=true
 |[]=>rfl
 |y::ys=>by show fW (V.I y::gJ ys)=true;rw[ev,J7 ys];rfl
theorem Vw(q:Dq F G h L ops t R){n:Nat}(e:Sm t.s n)(f:n<1000)(ys:List Nat)(g:0<ys.length)(i:ys.length<=5){ps:Option (O×(Nat->V))}(j:ps=some (O.cells 3 1 true false (gJ ys),λl=> .slice l 0 ys.length)){K:Hp->Prop}
  (H:∀h' R',Kp F G h h'->Dq F G h' L ops {t with s:={t.s with known:=t.s.known++ys} } R'->K h') :
  oP (ey (.ptr L.hO 0) h) λa=>im ps h λv m=>fi (eQ 3 1 8 a v m) λw o=>fi (gG 1 (.ptr L.hO 0) w o) λ_ b=>K b:=by
 subst j;refine ed q.D.yL ?_;rw[fw];have p:=q.D.grow (kM.new h (.cells 3 1 true false (gJ ys)));have C:(gJ ys).length=ys.length:=by simp[gJ]
 obtain⟨new,r,u⟩:=BU (n:=ys.length) (off:=0) (sz:=1) (fg h (.cells 3 1 true false (gJ ys))) (by omega);have x:new=gJ ys:=by rw[u,Xk,Xj (by omega)]
 subst x;have hk:=e.k;have y:fW (gJ ys)=true:=J7 ys;obtain⟨z,b,E,a1,a2,a3,I,A,B⟩:=p.zaG (ys:=ys) r (tP _ _ ys) (by omega) y g (by omega);have c:eQ 3 1 8 R.vk (.slice h.next 0 ys.length) (h.new (.cells 3 1 true false (gJ ys)))=some (.val z b):=a1;rw[c,ej,a3,ej];have d:=(q.D.xE (.cells 3 1 true false (gJ ys))).trans A λ_ h=>h;exact H _ _ d (q.step d B (by grind) q.gl q.hq rfl)
theorem KO(q:Dq F G h L ops t R){n:Nat}(c:Sm t.s n)(b:n<999)(x:Vl){w:V}{a:V}(d:iA eN F h x.args a)(e:w = .agg (lT x a)){K:fo}
  (H:∀h' R',Kp F G h h'->R'.vk=R.vk->Dq F G h' L ops {t with s:=put t.s x} R'->K (.I t.s.ef.length) h'):gP CS (fU (Z4 L) [w]) h K:=by
 subst e;show cP CS fj [.agg (lT x a),.ptr L.lu 0,.ptr L.iU 0] h K;exact Hm q c b ⟨a,rfl,d⟩ H
def KS(ops:List Int)(t:Dt):Dt:=end_ {t with s:=(fx ops t.s).2} 1 0 [t.blocks.length+1] 0 [t.blocks.length,t.blocks.length+2]
def Nu(ops:List Int)(t:Dt):Ds:=put (KS ops t).s (vl 21 0 0 0 [(fx ops t.s).1,0] 0)
def Bd(ops:List Int)(t:Dt):Nat:=(fx ops (Nu ops t)).1
def Ns(ops:List Int)(t:Dt):Ds:=put (fx ops (Nu ops t)).2 (vl 21 0 0 0 [Bd ops t,t.s.ef.length] 0)
def NC(ops:List Int)(t:Dt):Ds:={Ns ops t with known:=(Ns ops t).known++[t.s.ef.length,t.s.ef.length+1]}
def Nv(ops:List Int)(t:Dt):Ds:=put (ft ops (NC ops t)).2 (vl 23 0 0 0 [] (ft ops (NC ops t)).1)
def nR(ops:List Int)(t:Dt):Ds:=iz (put (Nv ops t) (vl 2 0 0 1 [] 0)) (vl 4 t.s.ef.length (t.s.ef.length+3) 0 [] 0)
def lK(ops:List Int)(t:Dt):Dt:=end_ {KS ops t with s:=nR ops t} 2 t.s.ef.length [t.blocks.length+2,t.blocks.length+3] 0 [t.blocks.length+1]
def mK(ops:List Int)(t:Dt):Ds:=setArgs (row ops (lK ops t).s) t.s.ef.length [(fx ops t.s).1,t.s.ef.length+4]
def kI(ops:List Int)(t:Dt):Ds:=if(num ops (mK ops t) 3).1=0 then setArgs (num ops (mK ops t) 3).2 t.s.ef.length [(fx ops t.s).1,(row ops (lK ops t).s).known.getLastD 0] else(num ops (mK ops t) 3).2
def Ce(ops:List Int)(t:Dt):Ds:=setArgs (kI ops t) (t.s.ef.length+1) [Bd ops t,(row ops (lK ops t).s).known.getLastD 0]
def Pv(ops:List Int)(t:Dt):Dt:=end_ {lK ops t with s:=cut (nR ops t).known.length (Ce ops t)} 1 0 [t.blocks.length+1] 0 [t.blocks.length+1]
theorem I0(ops:List Int)(t:Dt):∃x,(Nv ops t).ef=t.s.ef++[vl 21 0 0 0 [(fx ops t.s).1,0] 0,vl 21 0 0 0 [Bd ops t,t.s.ef.length] 0,x]:=by
 refine⟨vl 23 0 0 0 [] (ft ops (NC ops t)).1,?_⟩;unfold Nv;rw[put,(Bq ops (NC ops t)).1];show(Ns ops t).ef++[_]=_;unfold Ns;show((Nu ops t).ef++[_])++[_]=_;unfold Nu;show(((KS ops t).s.ef++[_])++[_])++[_]=_;simp only[Jx,List.singleton_append,List.cons_append,Qk];rfl
theorem Tk(ops:List Int)(t:Dt):loop ops t = {Pv ops t with s:=row ops (Pv ops t).s}:=by
 obtain⟨x,a⟩:=I0 ops t;have e:(Nv ops t).ef.length=t.s.ef.length+3:=by rw[a];simp
 unfold Pv Ce kI mK lK nR;rw[show t.s.ef.length+4=(t.s.ef.length+3)+1 from rfl,<-e];rfl
theorem Yg(q:Dq F G h L ops t R)(ho:ops.length<9223372036854775808){n:Nat}(hn:Sm t.s n)(cy:n<800)(hb:t.blocks.length<900){K:NO}
  (H:∀F' h' R' d,(∀l,F l->F' l)->Kp F (gm G L.mA) h h'->Dq F' G h' L ops (end_ {KS ops t with s:=d} 2 t.s.ef.length [t.blocks.length+2,t.blocks.length+3] 0 []) R'->Sm d (n+10)->
   d=nR ops t->
   d.ef.length=t.s.ef.length+5->
   K (.I ((fx ops t.s).1:Nat)) (.I (t.blocks.length+1:Nat)) (.I t.s.ef.length) (.I ((t.s.ef.length+1:Nat):Int)) (.I ((t.s.ef.length+4:Nat):Int)) (.I ((t.blocks.length+1:Nat):Int)) h') :
  oP (ey (.ptr L.hO 0) h) λN=>
  oP (ey (.ptr L.oJ 0) h) λak=>
  oP (ey (.ptr L.hO 0) h) λal=>
  oP (fy al) λam=>
  gP CS (fU ak [am]) h λan j=>
  (h.next<=j.next/\
  oP (gI 1 N an) λao=>
  oP (ey ao j) λP=>
  ((ey (.ptr L.hO 0) j=some N)/\
  oP (fH 3 (.ptr L.lu 0)) λap=>
  oP (ey ap j) λaq=>
  oP (fy aq) λar=>
  oP (eo .add 3 ar (V.I 1)) λau=>
  im (ji 3 1 1 (V.I 0) [(0,au)]) j λaw bA=>
  oP (fR [V.ee,(V.I 0),(V.I 0),V.ee,V.ee,(V.I 0)] [(0,1),(1,1),(2,1),(3,1),(4,1),(5,1)] [(1,(V.I 1)),(3,aw)]) λax=>
  gP CS (fU (GJ L) [ax]) bA λQ bC=>
  oP (eo .add 3 Q (V.I 1)) λc=>
  oP (eo .add 3 c (V.I 1)) λay=>
  im (ji 3 1 2 (V.I 0) [(0,Q),(1,ay)]) bC λaA bD=>
  oP (fH 4 (.ptr L.iU 0)) λaB=>
  fi (gG 1 aB aA bD) λcu aC=>
  oP (ey (.ptr L.xQ 0) aC) λaD=>
  im (ji 3 1 2 (V.I 0) [(0,P),(1,(V.I 0))]) aC λaE bE=>
  oP (fR [(V.I 0),(V.I 0),(V.I 0),(V.I 0),V.ee,(V.I 0)] [(0,1),(1,1),(2,1),(3,1),(4,1),(5,1)] [(0,(V.I 21)),(4,aE)]) λaF=>
  gP CS (fU aD [aF]) bE λa e=>
  oP (ey (.ptr L.xQ 0) e) λS=>
  oP (ey (.ptr L.hO 0) e) λT=>
  oP (ey (.ptr L.oJ 0) e) λaG=>
  oP (ey (.ptr L.hO 0) e) λaH=>
  oP (fy aH) λaI=>
  gP CS (fU aG [aI]) e λaJ w=>
  (e.next<=w.next/\
  oP (gI 1 T aJ) λU=>
  oP (ey U w) λW=>
  xR (ji 3 1 2 (V.I 0) [(0,W),(1,a)]) w λo9 aK f=>
  oP (fR [(V.I 0),(V.I 0),(V.I 0),(V.I 0),V.ee,(V.I 0)] [(0,1),(1,1),(2,1),(3,1),(4,1),(5,1)] [(0,(V.I 21)),(4,aK)]) λaL=>
  ((f.get (w.next)=some o9/\O.beq o9 o9=true)/\
  ((ey U f=some W)/\
  ((ey (.ptr L.hO 0) f=some T)/\
  ((ey (.ptr L.xQ 0) f=some S)/\
  gP CS (fU S [aL]) f λX ab=>
  (f.next<=ab.next/\
  oP (ey (.ptr L.hO 0) ab) λaM=>
  im (ji 3 1 2 (V.I 0) [(0,a),(1,X)]) ab λaN bG=>
  fi (eQ 3 1 8 aM aN bG) λaO bH=>
  fi (gG 1 (.ptr L.hO 0) aO bH) λcv z=>
  oP (ey (.ptr L.xQ 0) z) λY=>
  oP (ey (.ptr L.Sg 0) z) λaP=>
  gP CS (fU aP []) z λaQ A=>
  (z.next<=A.next/\
  oP (fR [(V.I 0),(V.I 0),(V.I 0),(V.I 0),V.ee,(V.I 0)] [(0,1),(1,1),(2,1),(3,1),(4,1),(5,1)] [(0,(V.I 23)),(5,aQ)]) λaR=>
  ((ey (.ptr L.xQ 0) A=some Y)/\
  gP CS (fU Y [aR]) A λcw ac=>
  (A.next<=ac.next/\
  oP (ey (.ptr L.xQ 0) ac) λaS=>
  oP (fR [(V.I 0),(V.I 0),(V.I 0),(V.I 0),V.ee,(V.I 0)] [(0,1),(1,1),(2,1),(3,1),(4,1),(5,1)] [(0,(V.I 2)),(3,(V.I 1))]) λaT=>
  gP CS (fU aS [aT]) ac λaU aV=>
  oP (ey (.ptr L.xQ 0) aV) λaW=>
  oP (fR [(V.I 0),(V.I 0),(V.I 0),(V.I 0),V.ee,(V.I 0)] [(0,1),(1,1),(2,1),(3,1),(4,1),(5,1)] [(0,(V.I 4)),(1,a),(2,aU)]) λaX=>
  gP CS (fU aW [aX]) aV λZ aY=>
  oP (ey (.ptr L.hO 0) aY) λaZ=>
  im (ji 3 1 1 (V.I 0) [(0,Z)]) aY λa4 bI=>
  fi (eQ 3 1 8 aZ a4 bI) λa5 bJ=>
  fi (gG 1 (.ptr L.hO 0) a5 bJ) λcx bK=>
  oP (eo .add 3 c (V.I 1)) λa6=>
  oP (eo .add 3 c (V.I 2)) λa7=>
  im (ji 3 1 2 (V.I 0) [(0,a6),(1,a7)]) bK λa8 bL=>
  oP (fR [V.ee,(V.I 0),(V.I 0),V.ee,V.ee,(V.I 0)] [(0,1),(1,1),(2,1),(3,1),(4,1),(5,1)] [(1,(V.I 2)),(2,a),(3,a8)]) λa9=>
  gP CS (fU (GJ L) [a9]) bL λba bQ=>K P c a X Z ba bQ)))))))))))
   :=by
 have cz:=hn.k0;have hk:=hn.k;have hv:=hn.v;refine Q9 q ho hn (by omega) λh2 k2 q2=>?_;refine ed (by rfl) (ed q2.D.X1 (ed q2.D.ob.len (kh (m:=1) (show t.blocks.length<_ by omega) (by omega) ?_)));have n2:Sm (fx ops t.s).2 n:=hn.one;refine BE q2 (show t.blocks.length<_ by omega) 1 0 [t.blocks.length+1] 0 rfl (λ_=>rfl) λF4 h4 R4 f4 k4 q4=>?_;refine kh (n:=t.blocks.length) (m:=1) (by omega) (by omega) ?_;refine kh (n:=t.blocks.length+1) (m:=1) (by omega) (by omega) ?_;refine wR q4 [t.blocks.length,t.blocks.length+2] rfl λF6 h6 R6 f6 k6 q6=>?_;have q6:=UX (t':=end_ {t with s:=(fx ops t.s).2} 1 0 [t.blocks.length+1] 0 [t.blocks.length,t.blocks.length+2]) q6 rfl;have n6:Sm (end_ {t with s:=(fx ops t.s).2} 1 0 [t.blocks.length+1] 0 [t.blocks.length,t.blocks.length+2]).s n:=n2.end_ (t:={t with s:=(fx ops t.s).2}) _ _ _ _ _;have bR:(end_ {t with s:=(fx ops t.s).2} 1 0 [t.blocks.length+1] 0 [t.blocks.length,t.blocks.length+2]).blocks.length=t.blocks.length+1:=by simp[end_]
 have bb:(end_ {t with s:=(fx ops t.s).2} 1 0 [t.blocks.length+1] 0 [t.blocks.length,t.blocks.length+2]).s.ef.length=t.s.ef.length:=rfl;have kA:=kgm k2 (k4.trans k6 f4) λ_ h=>h;have fA:∀l,F l->F6 l:=by simp_all
 generalize bS:end_ {t with s:=(fx ops t.s).2} 1 0 [t.blocks.length+1] 0 [t.blocks.length,t.blocks.length+2]=b at*;clear q2 q4 k2 k4 k6;generalize bU:(fx ops t.s).1=fr at*;refine ed q6.nW ?_;have e3:∀x y:Nat,ji 3 1 2 (V.I 0) [(0,V.I (x:Nat)),(1,V.I (y:Nat))]=some (.cells 3 1 true false (gJ [x,y]),λl=> .slice l 0 2):=λ_ _=>rfl;have bV:ji 3 1 2 (V.I 0) [(0,V.I fr),(1,V.I 0)]=some (.cells 3 1 true false (gJ [fr,0]),λl=> .slice l 0 2):=e3 fr 0;rw[bV,fw];obtain⟨q7,s7,k7⟩:=Db q6 [fr,0];generalize h6.new (.cells 3 1 true false (gJ [fr,0]))=h7 at*;have eP:∀(x y n:Nat),fR [(V.I 0),(V.I 0),(V.I 0),(V.I 0),V.ee,(V.I 0)] [(0,1),(1,1),(2,1),(3,1),(4,1),(5,1)] [(0,(V.I 21)),(4,.slice n 0 2)]=some (.agg (lT (vl 21 0 0 0 [x,y] 0) (.slice n 0 2))):=λ_ _ _=>rfl;refine ed (by rfl) ?_;refine KO q7 n6 (by omega) (vl 21 0 0 0 [fr,0] 0) s7 rfl λh8 R8 k8 _ q8=>?_;have n8:=n6.put (vl 21 0 0 0 [fr,0] 0);have bW:(put b.s (vl 21 0 0 0 [fr,0] 0)).ef.length=t.s.ef.length+1:=by simp[put,bb]
 rw[bb];generalize bX:put b.s (vl 21 0 0 0 [fr,0] 0)=s1 at*;have kB:Kp F (gm G L.mA) h h8:=kA.trans ((k7.gm L.mA).trans (k8.gm L.mA) (oK _ _)) fA;have fB:∀l,F l->fz F6 h6.next l:=by grind[oK]
 clear kA k7 k8 q6 q7 s7;refine ed q8.nW (ed q8.D.yL (ed q8.ud (ed q8.D.yL (ed q8.D.ok.len ?_))));show cP CS fc [.I s1.known.length,.ptr L.mA 0,.ptr L.lr 0] h8 _;refine K2 q8 ho n8 (by omega) λB l9 o9 k9 q9 bY i1 i2=>⟨k9.next,ed i1 (ed i2 ?_)⟩
 have i2:ey (.ptr l9 o9) B=some (.I ((fx ops s1).1:Nat)):=i2;have q9:Dq (fz F6 h6.next) G B L ops {b with s:=(fx ops s1).2} R8:=q9;have n9:=n8.one (ops:=ops);have bc:(fx ops s1).2.ef.length=t.s.ef.length+1:=bW;show xR (ji 3 1 2 (V.I 0) [(0,V.I ((fx ops s1).1:Nat)),(1,V.I t.s.ef.length)]) B _;have eW:∀s:Ds,fx ops s=((fx ops s).1,(fx ops s).2):=λ_=>rfl;generalize bZ:(fx ops s1).2=sg at*;generalize b4:(fx ops s1).1=g at*;rw[e3,ic];obtain⟨C,bd,be⟩:=Db q9 [g,t.s.ef.length];have cA:(B.new (.cells 3 1 true false (gJ [g,t.s.ef.length]))).get B.next=_:=fg _ _;refine ed (by rfl) ⟨by grind[O.jL],j5 i2 (fm _ bY),C.D.yL,C.nW,?_⟩;generalize B.new (.cells 3 1 true false (gJ [g,t.s.ef.length]))=cB at*;refine KO C n9 (by omega) (vl 21 0 0 0 [g,t.s.ef.length] 0) bd rfl λbf R11 ae _ ag=>⟨ae.next,?_⟩
 have bg:=n9.put (vl 21 0 0 0 [g,t.s.ef.length] 0);have bh:(put sg (vl 21 0 0 0 [g,t.s.ef.length] 0)).ef.length=t.s.ef.length+2:=by simp[put,bc]
 have b5:(({b with s:=sg}:Dt).s.ef.length:Nat)=t.s.ef.length+1:=bc;rw[b5];generalize b6:put sg (vl 21 0 0 0 [g,t.s.ef.length] 0)=s2 at*;have ag:Dq (fz (fz F6 h6.next) B.next) G bf L ops {b with s:=s2} R11:=ag;have kC:Kp F (gm G L.mA) h bf:=kB.trans (k9.trans ((be.gm L.mA).trans (ae.gm L.mA) (oK _ _)) λ_ h=>h) fB;have fC:∀l,F l->fz (fz F6 h6.next) B.next l:=by grind[oK]
 clear kB k9 be ae q8 q9 C bd;generalize fz (fz F6 h6.next) B.next=FC at*;refine Vw ag bg (by omega) [t.s.ef.length,t.s.ef.length+1] (by simp) (by simp) (e3 _ _) λb7 ZH b8 r=>?_;have ah:=bg.app [t.s.ef.length,t.s.ef.length+1];have bi:({s2 with known:=s2.known++[t.s.ef.length,t.s.ef.length+1]}:Ds).ef.length=t.s.ef.length+2:=bh;have r:Dq FC G b7 L ops {b with s:={s2 with known:=s2.known++[t.s.ef.length,t.s.ef.length+1]} } ZH:=r;generalize b9:({s2 with known:=s2.known++[t.s.ef.length,t.s.ef.length+1]}:Ds)=s3 at*;have ah:Sm s3 (n+4):=ah;refine ed r.nW (ed r.HH ?_);refine KV r ho ah (by omega) λi ca R13 cC bj E I=>⟨bj.next,?_⟩
 have cb:=Bq ops s3;have bm:(ft ops s3).2.ef.length=t.s.ef.length+2:=by rw[cb.1];exact bi
 have E:Dq i G ca L ops {b with s:=(ft ops s3).2} R13:=E;have I:Sm (ft ops s3).2 (n+4+1):=I;show oP (fR _ _ [(0,V.I 23),(5,.I ((ft ops s3).1:Nat))]) _;generalize cd:(ft ops s3).2=s4 at*;generalize ce:(ft ops s3).1=sn at*;have eS:fR [(V.I 0),(V.I 0),(V.I 0),(V.I 0),V.ee,(V.I 0)] [(0,1),(1,1),(2,1),(3,1),(4,1),(5,1)] [(0,(V.I 23)),(5,.I sn)]=some (.agg (lT (vl 23 0 0 0 [] sn) .ee)):=rfl;refine ed eS ⟨E.nW,?_⟩;refine KO E I (by omega) (vl 23 0 0 0 [] sn) .nil rfl λcf R14 bn _ J=>⟨bn.next,?_⟩
 have bo:=I.put (vl 23 0 0 0 [] sn);have aa:(put s4 (vl 23 0 0 0 [] sn)).ef.length=t.s.ef.length+3:=by simp[put,bm]
 have J:Dq i G cf L ops {b with s:=put s4 (vl 23 0 0 0 [] sn)} R14:=J;generalize bp:put s4 (vl 23 0 0 0 [] sn)=s5 at*;refine ed J.nW ?_;have eO:fR [(V.I 0),(V.I 0),(V.I 0),(V.I 0),V.ee,(V.I 0)] [(0,1),(1,1),(2,1),(3,1),(4,1),(5,1)] [(0,(V.I 2)),(3,(V.I 1))]=some (.agg (lT (vl 2 0 0 1 [] 0) .ee)):=rfl;refine ed eO ?_;refine KO J bo (by omega) (vl 2 0 0 1 [] 0) .nil rfl λcg R15 ci _ M=>?_;have br:=bo.put (vl 2 0 0 1 [] 0);have u:(put s5 (vl 2 0 0 1 [] 0)).ef.length=t.s.ef.length+4:=by simp[put,aa]
 have cj:(({b with s:=s5}:Dt).s.ef.length:Nat)=t.s.ef.length+3:=aa;rw[cj];have M:Dq i G cg L ops {b with s:=put s5 (vl 2 0 0 1 [] 0)} R15:=M;generalize bt:put s5 (vl 2 0 0 1 [] 0)=d at*;refine ed M.nW ?_;have eUn:∀p o:Nat,fR [(V.I 0),(V.I 0),(V.I 0),(V.I 0),V.ee,(V.I 0)] [(0,1),(1,1),(2,1),(3,1),(4,1),(5,1)] [(0,(V.I 4)),(1,.I (p:Nat)),(2,.I (o:Nat))]=some (.agg (lT (vl 4 p o 0 [] 0) .ee)):=λ_ _=>rfl;refine ed (eUn _ _) ?_;refine KO M br (by omega) (vl 4 t.s.ef.length (t.s.ef.length+3) 0 [] 0) .nil rfl λcD cE cl _ cm=>?_;have bu:=br.put (vl 4 t.s.ef.length (t.s.ef.length+3) 0 [] 0);have cn:(({b with s:=d}:Dt).s.ef.length:Nat)=t.s.ef.length+4:=u;rw[cn];refine Vw cm bu (by omega) [t.s.ef.length+4] (by simp) (by simp) rfl λco R17 cp ai=>?_;have aj:=bu.app [t.s.ef.length+4];have bv:({ ({b with s:=put d (vl 4 t.s.ef.length (t.s.ef.length+3) 0 [] 0)}:Dt).s with known:=({b with s:=put d (vl 4 t.s.ef.length (t.s.ef.length+3) 0 [] 0)}:Dt).s.known++[t.s.ef.length+4]}:Ds)=iz d (vl 4 t.s.ef.length (t.s.ef.length+3) 0 [] 0):=by
  unfold iz put;simp only[u]
 have ai:Dq i G co L ops {b with s:=iz d (vl 4 t.s.ef.length (t.s.ef.length+3) 0 [] 0)} R17:=by rw[<-bv];exact ai
 have aj:Sm (iz d (vl 4 t.s.ef.length (t.s.ef.length+3) 0 [] 0)) (n+10):=by rw[<-bv];exact aj.le (by grind)
 have bw:(iz d (vl 4 t.s.ef.length (t.s.ef.length+3) 0 [] 0)).ef.length=t.s.ef.length+5:=by simp[iz,u]
 refine kh (n:=t.blocks.length+1) (m:=1) (by omega) (by omega) ?_;refine kh (n:=t.blocks.length+1) (m:=2) (by omega) (by omega) ?_;refine BE ai (show b.blocks.length<_ by omega) 2 t.s.ef.length [t.blocks.length+2,t.blocks.length+3] 0 rfl (λ_=>rfl) λcq bx R18 cF cr ct=>?_;have bz:(({b with s:=iz d (vl 4 t.s.ef.length (t.s.ef.length+3) 0 [] 0)}:Dt).blocks.length:Nat)=t.blocks.length+1:=bR;rw[bz];have kD:Kp F (gm G L.mA) h bx:=((kC.trans ((b8.gm L.mA).trans bj λ_ h=>h) fC).trans (F':=i) ((((bn.gm L.mA).trans (ci.gm L.mA) λ_ h=>h).trans (cl.gm L.mA) λ_ h=>h).trans (cp.gm L.mA) λ_ h=>h) (by grind)).trans (F':=i) (cr.gm L.mA) (by grind);subst bS bU bX bZ b4 b6 b9 cd ce bp bt;exact H cq bx R18 _ (by grind) kD ct aj rfl bw
end
open Un
theorem IU(ops:List Int)(t:Dt):(nR ops t).ef[t.s.ef.length+1]? =some (vl 21 0 0 0 [Bd ops t,t.s.ef.length] 0)/\(nR ops t).ef.length=t.s.ef.length+5:=by
 obtain⟨x,a⟩:=I0 ops t
 grind[nR,iz,put,Jx,WK,wBb]
theorem P9(ops:List Int)(t:Dt):(kI ops t).ef[t.s.ef.length+1]? =some (vl 21 0 0 0 [Bd ops t,t.s.ef.length] 0)/\t.s.ef.length+5<=(kI ops t).ef.length/\(kI ops t).known=(row ops (lK ops t).s).known:=by
 obtain ⟨e,h⟩:=IU ops t;obtain⟨_,l,b⟩:=Es ops (lK ops t).s;have e0:(lK ops t).s.ef=(nR ops t).ef:=rfl;have f:(row ops (lK ops t).s).ef[t.s.ef.length+1]? =some (vl 21 0 0 0 [Bd ops t,t.s.ef.length] 0):=by
  rw[b,e0,TA (by omega)];exact e
 have g:t.s.ef.length+5<=(row ops (lK ops t).s).ef.length:=by rw[b,e0,I9];omega
 have a:∀(s:Ds) (l:List Nat),s.ef[t.s.ef.length+1]? =some (vl 21 0 0 0 [Bd ops t,t.s.ef.length] 0)->(setArgs s t.s.ef.length l).ef[t.s.ef.length+1]? =some (vl 21 0 0 0 [Bd ops t,t.s.ef.length] 0):=by
  intro s l hs;show(s.ef.modify t.s.ef.length _)[t.s.ef.length+1]? =_;rw[List.getElem?_modify,hs];show some (if _ then _ else _)=_;rw[if_neg (by omega)]
 have c:=a _ [(fx ops t.s).1,t.s.ef.length+4] f;have i:t.s.ef.length+5<=(mK ops t).ef.length:=by unfold mK;rw[(B1 _ _ _).1];exact g
 have d:(num ops (mK ops t) 3).2.ef=(mK ops t).ef:=rfl;unfold kI;split
 ·exact⟨a _ _ (by rw[d];exact c),by grind[B1],rfl⟩
 ·exact⟨by rw[d];exact c,by simp_all,rfl⟩
section
variable{F F' G G':Nat->Prop}{h h':Hp}{L:Lc}{ops:List Int}{t t':Dt}{R R':Rw}{Q:fo}
theorem nx2(x y:Nat):ji 3 1 2 (V.I 0) [(0,V.I x),(1,V.I y)]=some (.cells 3 1 true false (gJ [x,y]),λl=> .slice l 0 2):=rfl
theorem XI(ho:ops.length<9223372036854775808){n:Nat}(hn:Sm (kI ops t) n)(am:n<880)(hb:t.blocks.length<900)(q:Dq F G h L ops {lK ops t with s:=kI ops t} R){K:Hp->Prop}
  (H:∀F' h' R',(∀l,F l->F' l)->Kp F (gm G L.mA) h h'->Dq F' G h' L ops (loop ops t) R'->Sm (loop ops t).s (n+6)->K h') :
  oP (fH 2 (.ptr L.lu 0)) λb=>
  oP (ey b h) λc=>
  oP (fH 2 (.ptr L.lu 0)) λd=>
  oP (ey d h) λe=>
  oP (gI 6 e (.I ((t.s.ef.length+1:Nat):Int))) λz=>
  oP (fH 4 z) λf=>
  oP (ey f h) λg=>
  oP (gI 1 g (V.I 0)) λj=>
  oP (ey j h) λo=>
  oP (ey (.ptr L.hO 0) h) λr=>
  oP (ey (.ptr L.hO 0) h) λu=>
  oP (fy u) λA=>
  oP (eo .sub 3 A (V.I 1)) λB=>
  oP (gI 1 r B) λv=>
  oP (ey v h) λw=>
  xR (ji 3 1 2 (V.I 0) [(0,o),(1,w)]) h λx C a=>
  oP (gI 6 c (.I ((t.s.ef.length+1:Nat):Int))) λE=>
  oP (fH 4 E) λI=>
  ((a.get (h.next)=some x/\O.beq x x=true)/\
  ((ey v a=some w)/\
  ((ey (.ptr L.hO 0) a=some u)/\
  ((ey (.ptr L.hO 0) a=some r)/\
  ((ey j a=some o)/\
  ((ey f a=some g)/\
  ((ey d a=some e)/\
  ((ey b a=some c)/\
  fi (gG 1 I C a) λvu h2=>
  (a.next<=h2.next/\
  oP (ey (.ptr L.hO 0) h2) λJ=>
  oP (iK 1 J none (some (.I ((nR ops t).known.length:Nat))) h2) λM=>
  fi (gG 1 (.ptr L.hO 0) M h2) λai h3=>
  im (ji 3 1 1 (V.I 0) [(0,(.I ((t.blocks.length+1:Nat):Int)))]) h3 λN h4=>
  oP (fR [V.ee,(V.I 0),(V.I 0),V.ee,V.ee,(V.I 0)] [(0,1),(1,1),(2,1),(3,1),(4,1),(5,1)] [(1,(V.I 1)),(3,N)]) λP=>
  gP CS (fU (GJ L) [P]) h4 λaj h5=>
  im (ji 3 1 1 (V.I 0) [(0,(.I ((t.blocks.length+1:Nat):Int)))]) h5 λQ h6=>
  oP (fH 4 (.ptr L.iU 0)) λS=>
  fi (gG 1 S Q h6) λak h7=>
  gP CS (fU (Il L) []) h7 λal h8=>K h8))))))))):=by
 obtain⟨y1,y2,y3⟩:=P9 ops t;have aa:=(Es ops (lK ops t).s).kl;have T:(nR ops t).known.length<=(kI ops t).known.length:=by rw[y3];exact aa
 have hk:=hn.k;have U:=hn.k0;have ab:0<(nR ops t).known.length:=by
  show 0<(_++[_]).length;simp
 have W:t.s.ef.length+1<({lK ops t with s:=kI ops t}:Dt).s.ef.length:=by show _<(kI ops t).ef.length;omega
 have eg:(kI ops t).ef[t.s.ef.length+1]'(by omega)=vl 21 0 0 0 [Bd ops t,t.s.ef.length] 0:=by
  rw[ig (by omega)]at y1;exact Option.some.inj y1
 have an:({lK ops t with s:=kI ops t}:Dt).blocks.length=t.blocks.length+2:=by simp[lK,KS,end_]
 refine ed (by rfl) (ed q.D.UN (ed (by rfl) (ed q.D.UN ?_)));obtain⟨l1,o1,w1,ac,i1,i2,i3,i4⟩:=q.D.ov.read.ix W .i64;obtain⟨wa,X,sa⟩:=i3;rw[eg]at X sa;have ia:=i4 4 wa (by rw[X];rfl);have i1:gI 6 R.vv (.I ((t.s.ef.length+1:Nat):Int))=some (.ptr l1 o1):=i1;refine ed i1 (ed (by rfl) (ed ia ?_));have Y:l1<h.next:=ac.elim (q.D.fl l1) λh=>(q.D.ov.tZ h).2.1;obtain⟨l2,o2,u2,ae,j1,j2,j3⟩:=sa.US (i:=0) (by simp[vl]) .i64 rfl;have Z:l2<h.next:=ae.elim (q.D.fl l2) λh=>(q.D.ov.tZ h).2.1;obtain⟨rfl⟩:u2 = .I (Bd ops t:Nat):=by
  have:[u2]=[V.I (Bd ops t:Nat)]:=j3
  simp_all
 refine ed j1 (ed j2 ?_);obtain⟨l3,o3,ag,_,m1,m2⟩:=q.EH (i:=(kI ops t).known.length-1) (by grind);have m3:ey (.ptr l3 o3) h=some (.I ((kI ops t).known.getLastD 0:Nat)):=by rw[m2];show some (V.I (((kI ops t).known.getD _ 0:Nat):Int))=_;rw[Az _ U]
 refine ed q.D.yL (ed q.D.yL (ed q.D.ok.len (xY (by grind) U (ed m1 (ed m3 ?_)))));rw[nx2,ic];obtain⟨y,s1,k1⟩:=Db q [Bd ops t,(kI ops t).known.getLastD 0];have g1:(h.new (.cells 3 1 true false (gJ [Bd ops t,(kI ops t).known.getLastD 0]))).get h.next=_:=fg _ _;refine ed i1 (ed (by rfl) ?_);refine⟨by simp_all,j5 m3 (fm _ ag),y.D.yL,y.D.yL,j5 j2 (fm _ Z),j5 ia (fm _ Y),y.D.UN,y.D.UN,?_⟩;obtain⟨l4,h4,a1,a2,a3,a4,D4⟩:=y.D.ZX (p:=t.s.ef.length+1) W s1;have e4:V.ptr l1 (o1+4)=V.ptr l4 ((t.s.ef.length+1)*6+4):=by
  have:(V.ptr l1 o1)=V.ptr l4 ((t.s.ef.length+1)*6):=by simp_all
  cases this;rfl
 rw [e4];simp only[M0,Zs,wX]at a2;rw[a2,ej];refine⟨a3,?_⟩;have q4:=UX (t':={lK ops t with s:=Ce ops t}) (y.step a4 D4 (by simp_all) q.gl y.hq rfl) (by
  grind[Ce])
 have ah:Sm (Ce ops t) n:=hn.setArgs _ _;refine Oe q4 (m:=(nR ops t).known.length) T λh5 R5 k5 q5=>?_;have n5:Sm (cut (nR ops t).known.length (Ce ops t)) n:=ah.cut ab T;refine BE q5 (show({lK ops t with s:=kI ops t}:Dt).blocks.length<_ by omega) 1 0 [t.blocks.length+1] 0 rfl (λ_=>rfl) λF6 h6 R6 f6 k6 q6=>?_;refine wR q6 [t.blocks.length+1] rfl λF7 h7 R7 f7 k7 q7=>?_;have q7:=UX (t':=Pv ops t) q7 rfl;have n7:Sm (Pv ops t).s n:=n5.end_ (t:={lK ops t with s:=cut (nR ops t).known.length (Ce ops t)}) _ _ _ _ _;refine DO q7 ho n7 (by omega) λF8 h8 R8 f8 k8 q8 n8=>?_;have ff:∀l,F l->F7 l:=by grind[oK]
 refine H F8 h8 R8 (by simp_all) ?_ (by grind[UX,Tk]) (by grind[Tk]);have kk:=(((k1.gm L.mA).trans (a4.gm L.mA) (oK _ _)).trans (F':=fz F h.next) ((k5.gm L.mA).trans (k6.gm L.mA) λ_ h=>h) (oK _ _)).trans (F':=F6) (k7.gm L.mA) (by grind[oK]);exact kk.trans k8 ff
theorem XP(ho:ops.length<9223372036854775808){n:Nat}(hn:Sm (nR ops t) n)(al:n<860)(hb:t.blocks.length<900)
  (q:Dq F G h L ops (end_ {KS ops t with s:=nR ops t} 2 t.s.ef.length [t.blocks.length+2,t.blocks.length+3] 0 []) R) {K:fo}
  (H:∀F' h' R',(∀l,F l->F' l)->Kp F (gm G L.mA) h h'->Dq F' G h' L ops {lK ops t with s:=kI ops t} R'->Sm (kI ops t) (n+6)->K (.I ((nR ops t).known.length:Nat)) h') :
  oP (ey (.ptr L.hO 0) h) λw=>
  oP (fy w) λd=>
  im (ji 3 1 1 (V.I 0) [(0,(.I ((t.blocks.length+1:Nat):Int)))]) h λx aa=>
  oP (fH 4 (.ptr L.iU 0)) λy=>
  fi (gG 1 y x aa) λaj ab=>
  gP CS (fU (Il L) []) ab λak z=>
  oP (fH 2 (.ptr L.lu 0)) λA=>
  oP (ey A z) λB=>
  im (ji 3 1 2 (V.I 0) [(0,(.I ((fx ops t.s).1:Nat))),(1,(.I ((t.s.ef.length+4:Nat):Int)))]) z λC ac=>
  oP (gI 6 B (.I t.s.ef.length)) λE=>
  oP (fH 4 E) λI=>
  fi (gG 1 I C ac) λae J=>
  oP (ey (.ptr L.oJ 0) J) λM=>
  gP CS (fU M [(V.I 3)]) J λN a=>
  oP (eo .eql 3 N (V.I 0)) λP=>
  bP P (
  oP (fH 2 (.ptr L.lu 0)) λe=>
  oP (ey e a) λf=>
  oP (ey (.ptr L.hO 0) a) λg=>
  oP (ey (.ptr L.hO 0) a) λj=>
  oP (fy j) λQ=>
  oP (eo .sub 3 Q (V.I 1)) λS=>
  oP (gI 1 g S) λm=>
  oP (ey m a) λo=>
  xR (ji 3 1 2 (V.I 0) [(0,(.I ((fx ops t.s).1:Nat))),(1,o)]) a λu T b=>
  oP (gI 6 f (.I t.s.ef.length)) λU=>
  oP (fH 4 U) λW=>
  ((b.get (a.next)=some u/\O.beq u u=true)/\
  ((ey m b=some o)/\
  ((ey (.ptr L.hO 0) b=some j)/\
  ((ey (.ptr L.hO 0) b=some g)/\
  ((ey e b=some f)/\
  fi (gG 1 W T b) λag X=>
  (b.next<=X.next/\K d X)))))))
  (K d a):=by
 obtain⟨_,z2⟩:=IU ops t;have hk:=hn.k;have am:=hn.k0;refine ed q.D.yL (ed q.D.ok.len ?_);refine wR q [t.blocks.length+1] rfl λF1 h1 R1 f1 k1 q1=>?_;have q1:=UX (t':=lK ops t) q1 rfl;have n1:Sm (lK ops t).s n:=hn.end_ (t:={KS ops t with s:=nR ops t}) _ _ _ _ _;refine DO q1 ho n1 (by omega) λF2 h2 R2 f2 k2 q2 n2=>?_;obtain⟨_,l,hl⟩:=Es ops (lK ops t).s;have e0:(lK ops t).s.ef=(nR ops t).ef:=rfl;have h4:t.s.ef.length+5<=(row ops (lK ops t).s).ef.length:=by rw[hl,e0,I9];omega
 refine ed (by rfl) (ed q2.D.UN ?_);rw[nx2,fw];obtain⟨q3,s3,k3⟩:=Db q2 [(fx ops t.s).1,t.s.ef.length+4];obtain⟨l4,Y,a1,a2,a3,a4,D4⟩:=q3.D.ZX (p:=t.s.ef.length) (by grind) s3;refine ed a1 (ed (by rfl) ?_);simp only[M0,Zs,wX]at a2;rw[a2,ej];have q4:Dq (fz F2 h2.next) G Y L ops {lK ops t with s:=mK ops t} R2:=q3.step a4 D4 (by simp_all) q.gl q3.hq rfl;have n4:Sm (mK ops t) (n+6):=n2.setArgs _ _;refine ed q4.ud ?_;show cP CS fc [.I ((3:Nat):Int),.ptr L.mA 0,.ptr L.lr 0] Y _;refine wq q4 (by decide) (by decide) ho λZ k5 c=>?_;have c:Dq (fz F2 h2.next) G Z L ops {lK ops t with s:=(num ops (mK ops t) 3).2} R2:=c;have n5:Sm (num ops (mK ops t) 3).2 (n+6):=n4.num 3;have ff:∀l,F l->fz F2 h2.next l:=by grind[oK]
 have kk:Kp F (gm G L.mA) h Z:=(((k1.gm L.mA).trans k2 f1).trans ((k3.gm L.mA).trans (a4.gm L.mA) (oK _ _)) (by simp_all)).trans k5 ff;show oP (eo .eql 3 (.I ((num ops (mK ops t) 3).1:Nat)) (V.I 0)) _;by_cases hd:(num ops (mK ops t) 3).1=0
 ·refine fP (gw (by omega) ?_);have e9:kI ops t=setArgs (num ops (mK ops t) 3).2 t.s.ef.length [(fx ops t.s).1,(row ops (lK ops t).s).known.getLastD 0]:=by unfold kI;rw[if_pos hd]
  have an:=n5.k;have r:=n5.k0;have ah:(num ops (mK ops t) 3).2.known=(row ops (lK ops t).s).known:=rfl;refine ed (by rfl) (ed c.D.UN ?_);obtain⟨l3,o3,ai,_,m1,m2⟩:=c.EH (i:=(num ops (mK ops t) 3).2.known.length-1) (by grind);have m3:ey (.ptr l3 o3) Z=some (.I ((row ops (lK ops t).s).known.getLastD 0:Nat)):=by
   rw[m2,<-ah];show some (V.I (((num ops (mK ops t) 3).2.known.getD _ 0:Nat):Int))=_;rw[Az _ r]
  refine ed c.D.yL (ed c.D.yL (ed c.D.ok.len (xY (by grind) r (ed m1 (ed m3 ?_)))));rw[nx2,ic];obtain⟨v,s6,k6⟩:=Db c [(fx ops t.s).1,(row ops (lK ops t).s).known.getLastD 0];have g6:(Z.new (.cells 3 1 true false (gJ [(fx ops t.s).1,(row ops (lK ops t).s).known.getLastD 0]))).get Z.next=_:=fg _ _;obtain⟨l7,h7,b1,b2,b3,b4,D7⟩:=v.D.ZX (p:=t.s.ef.length) (by
   show _<(mK ops t).ef.length
   grind[mK,B1]) s6
  refine ed b1 (ed (by rfl) ?_);refine⟨by simp_all,j5 m3 (fm _ ai),v.D.yL,v.D.yL,v.D.UN,?_⟩;simp only[M0,Zs,wX]at b2;rw[b2,ej];have q7:=UX (t':={lK ops t with s:=kI ops t}) (v.step b4 D7 (by simp_all) q.gl v.hq rfl) (by rw[e9]);refine⟨b3,H _ _ _ (by grind[oK]) (kk.trans ((k6.gm L.mA).trans (b4.gm L.mA) (oK _ _)) ff) q7 ?_⟩;rw[e9];exact n5.setArgs _ _
 ·refine fP (fT (by omega) ?_);have e9:kI ops t=(num ops (mK ops t) 3).2:=by unfold kI;rw[if_neg hd]
  exact H _ _ _ ff kk (UX c (by rw[e9])) (by rw[e9];exact n5)
end
open Un
def uC(u:U)(v b s:V):List V:=[.I u.func,.I u.pc,v,b,s]
def eUn:pG U where
 sz:=5
 rel F h u cs:=∃v b s,cs=uC u v b s/\iA eV F h u.ef v/\iA eK F h u.blocks b/\iA eT F h u.eh s
 len:=λ⟨_,_,_,h,_⟩=>by subst h;rfl
 one:=λ⟨_,_,_,h,a,c,d⟩=>by subst h;simp only[uC,ev,a.one,c.one,d.one];rfl
 eR:=λhk ⟨v,n,p,h,a,c,d⟩=>⟨v,n,p,h,a.eR hk,c.eR hk,d.eR hk⟩
 mono:=λe ⟨v,n,p,h,a,c,d⟩=>⟨v,n,p,h,a.mono e,c.mono e,d.mono e⟩
theorem XO(ops:List Int)(t:Dt):(fork ops t).blocks.length=t.blocks.length+3:=by simp[fork,end_]
theorem Xn(ops:List Int)(t:Dt):(wC ops t).blocks.length=t.blocks.length+2:=by simp[wC,end_]
theorem XD(ops:List Int)(t:Dt):(loop ops t).blocks.length=t.blocks.length+3:=by simp[loop,end_]
section
variable{F F' G G':Nat->Prop}{h h':Hp}{L:Lc}{ops:List Int}{t t':Dt}{R R':Rw}{Q:fo}
theorem zbA{a:List Int}{vo vs nv:V}{b:Nat}(y:ops.length<9223372036854775808)(q:Dq F G h L ops t R)(hn:Sm t.s 30)(hb:t.blocks.length=0)(A:h.get L.lr=some (.cells Ox 1 true false [vo,vs,nv]))(Y:iA (eI .i64) F h a vs)
  (ai:G b) (Z:b≠L.mA) (aa:∃c,h.get b=some (.cells 29 1 true false c)/\c.length=5)
  (H:∀F' h' R' d,(∀l,F l->F' l)->Kp F (gm G L.mA) h h'->Dq F' G h' L ops d R'->d=end_ {kH ops (a.take 6) t with s:=(ft ops (kH ops (a.take 6) t).s).2} 3 0 [] (ft ops (kH ops (a.take 6) t).s).1 []->
   fi (gG 5 (.ptr b 0) (.agg [.I 1,.I 2,R'.vv,R'.vb,R'.vs]) h') λ_ f=>oP (gy 5 (.ptr b 0) f) λr=>Q r f) :
  nt CS Q (.ptr L.lr 0) (.ptr b 0) (.ptr L.lu 0) (.ptr L.hO 0) (.ptr L.iU 0) (.ptr L.xQ 0) (.ptr L.oJ 0) (.ptr L.Sg 0) (Il L) (GJ L) (.I 0) h:=by
 refine Bp (λk M N O P S T g j m n o h'=>∃(F':Nat->Prop) (R':Rw) (i:Nat) (t':Dt),M = .ptr L.lr 0/\N = .ptr b 0/\O = .ptr L.lu 0/\P = .ptr L.hO 0/\S = .ptr L.iU 0/\T = .ptr L.xQ 0/\
  g = .ptr L.oJ 0/\j = .ptr L.Sg 0/\m=Il L/\n=GJ L/\o = .I i/\i+k=6/\(∀l,F l->F' l)/\Kp F (gm G L.mA) h h'/\Dq F' G h' L ops t' R'/\Sm t'.s (30+30*i)/\t'.blocks.length<=3*i/\
  kH ops ((a.take 6).drop i) t' = kH ops (a.take 6) t) ?_ (k:=6)
  ⟨F,R,0,t,rfl,rfl,rfl,rfl,rfl,rfl,rfl,rfl,rfl,rfl,rfl,rfl,λ_ h=>h,Kp.refl _ _ _,q,hn,by omega,by rw[Xk]⟩
 rintro k M N O P S T g j m n o h' ⟨F1,R1,i,d,rfl,rfl,rfl,rfl,rfl,rfl,rfl,rfl,rfl,rfl,rfl,aj,hF,U,u,W,b1,B⟩;unfold tC;have C:h'.get L.lr=some (.cells Ox 1 true false [vo,vs,nv]):=by rw[U.eR _ (.inl q.fr)];exact A
 have E:ey (.ptr L.lr 1) h' = some vs:=kr C rfl;have lv:=u.D.ov.len;have I:iA (eI .i64) F h' a vs:=Y.eR λl hl=>U.eR l (.inl hl);refine ed (by rfl) (ed E (ed I.len (ed (by rfl) ?_)));have e1:jz (.bool (decide (((i:Nat):Int)<(a.length:Nat)))) (oB (some (V.I i)) λab=>eo .lss 3 ab (V.I 6))=some (.bool (decide (((i:Nat):Int)<(a.length:Nat))&&decide (((i:Nat):Int)<6))):=by
  simp only[fe,mj,iD]
 refine ed e1 ?_
 have e2:jz (.bool (decide (((i:Nat):Int)<(a.length:Nat))&&decide (((i:Nat):Int)<6))) (oB (fH 2 (.ptr L.lu 0)) λac=>oB (ey ac h') λae=>oB (fy ae) λag=>eo .lss 3 ag (V.I 160)) =
   some (.bool ((decide (((i:Nat):Int)<(a.length:Nat))&&decide (((i:Nat):Int)<6))&&decide (((d.s.ef.length:Nat):Int)<160))):=by
  simp only[fJ,fe,wX,u.D.UN,lv,mj,iD]
 refine ed e2 (iI ?_);by_cases hgo:i<a.length/\i<6/\d.s.ef.length<160;rotate_left
 ·
  refine fT (by grind) ?_;have J:d=kH ops (a.take 6) t:=by
   rw[<-B];by_cases hi:i<(a.take 6).length
   ·rw[V9 hi];unfold kH
    grind
   ·rw[List.drop_of_length_le (by omega)];rfl
  subst J;refine ed u.HH ?_;refine KV u y W (by omega) λp f R2 K v w z=>?_;have eB:∀sn:Nat,fR [V.ee,(V.I 0),(V.I 0),V.ee,V.ee,(V.I 0)] [(0,1),(1,1),(2,1),(3,1),(4,1),(5,1)] [(1,(V.I 3)),(5,.I (sn:Nat))]=some (.agg (lB ⟨[],3,0,[],[],sn⟩ .ee .ee .ee)):=λ_=>rfl;refine ed (eB _) ?_;refine Q1 w (show(kH ops (a.take 6) t).blocks.length<_ by omega) ⟨[],3,0,[],[],_⟩ rfl rfl rfl .nil λF3 h3 R3 f3 k3 X=>?_;have lA:gy 5 (.ptr L.lu 0) h3=some (.agg [.I 1,.I 2,R3.vv,R3.vb,R3.vs]):=Bv X.D.gu rfl;refine ed lA ?_;have kk:=(U.trans v hF).trans (k3.gm L.mA) (by simp_all);exact H F3 h3 R3 _ (by grind) kk X rfl
 obtain⟨g1,g2,g3⟩:=hgo;refine gw (by grind) ?_;obtain⟨l4,o4,u4,_,i1,i2,i3⟩:=I.US g1 .i64 rfl;obtain⟨rfl⟩:u4 = .I a[i]:=by simpa using i3.1
 refine ed (by rfl) (ed E (ed i1 (ed i2 ?_)));show cP CS iB [.I a[i],.I ((3:Nat):Int)] h' _;refine Oa (by decide) (by decide) ?_;have ah:i<(a.take 6).length:=by rw[KN];omega
 have x:kH ops ((a.take 6).drop (i+1)) (sN ops (lj a[i] 3) d)=kH ops (a.take 6) t:=by
  rw[<-B,V9 ah]
  conv=>rhs;unfold kH
  rw[if_pos g3,List.getElem_take]
 have fin:∀(p:Nat->Prop) (f:Hp) (R2:Rw),(∀l,F1 l->p l)->Kp F1 (gm G L.mA) h' f->Dq p G f L ops (sN ops (lj a[i] 3) d) R2->Sm (sN ops (lj a[i] 3) d).s (30+30*i+30)->(sN ops (lj a[i] 3) d).blocks.length<=3*(i+1)->
   jf CS Q (λM N O P S T g j m n o hh=>∃k',k' < k/\∃(F':Nat->Prop) (R':Rw) (i:Nat) (t':Dt),M = .ptr L.lr 0/\N = .ptr b 0/\O = .ptr L.lu 0/\P = .ptr L.hO 0/\S = .ptr L.iU 0/\T = .ptr L.xQ 0/\
    g = .ptr L.oJ 0/\j = .ptr L.Sg 0/\m=Il L/\n=GJ L/\o = .I i/\i+k' = 6/\(∀l,F l->F' l)/\Kp F (gm G L.mA) h hh/\Dq F' G hh L ops t' R'/\Sm t'.s (30+30*i)/\t'.blocks.length<=3*i/\
    kH ops ((a.take 6).drop i) t' = kH ops (a.take 6) t) (.ptr L.lr 0) (.ptr b 0) (.ptr L.lu 0) (.ptr L.hO 0) (.ptr L.iU 0) (.ptr L.xQ 0) (.ptr L.oJ 0) (.ptr L.Sg 0) (Il L) (GJ L) (.I i) f:=by
  intro p f R2 K v w z b2;refine Am ?_;unfold rz;refine fM ?_;exact⟨k-1,by omega,p,R2,i+1,_,rfl,rfl,rfl,rfl,rfl,rfl,rfl,rfl,rfl,rfl,rfl,by omega,by simp_all,U.trans v hF,w,z,b2,x⟩
 by_cases c0:lj a[i] 3=0
 ·refine fP (gw (by omega) ?_);have e:sN ops (lj a[i] 3) d=fork ops d:=by unfold sN;rw[if_pos c0]
  rw[e]at fin;refine YF u y W (by omega) (by omega) λp f R2 K v w z=>?_
  grind[XO]
 refine fP (fT (by omega) ?_);by_cases c1:lj a[i] 3=1
 ·refine fP (gw (by omega) ?_);have e:sN ops (lj a[i] 3) d=loop ops d:=by unfold sN;rw[if_neg c0,if_pos c1]
  rw[e]at fin;refine Yg u y W (by omega) (by omega) λp f R2 s6 K v w z e6 _=>?_;subst e6;refine XP y z (by omega) (by omega) w λF3 h3 R3 f3 k3 X n3=>?_;refine AG ?_;unfold rP;refine XI y n3 (by omega) (by omega) X λF4 h4 R4 f4 k4 q4 n4=>?_;exact fin F4 h4 R4 (by grind) ((v.trans k3 K).trans k4 (by simp_all)) q4 (n4.le (by omega)) (by grind[XD])
 ·refine fP (fT (by omega) ?_);have e:sN ops (lj a[i] 3) d=wC ops d:=by unfold sN;rw[if_neg c0,if_neg c1]
  rw[e]at fin;refine YG u y W (by omega) (by omega) λp f R2 K v w z=>?_
  grind[Xn]
end
