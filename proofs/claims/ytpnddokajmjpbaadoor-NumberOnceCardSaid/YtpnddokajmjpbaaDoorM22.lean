/- Parts. -/
import Derived.Test.YtpnddokajmjpbaaDoorM21
namespace Go.Proofs.YtpnddokajmjpbaaDoor.Hx
open Go.Proofs.YtpnddokajmjpbaaDoor.Un
section
variable{F F' G G':Nat->Prop}{h h':Hp}{L:Lc}{ops:List Int}{t t':Dt}{R R':Rw}{Q:fx}
theorem Sm.app {s:Ds}{n:Nat}(a:Sm s n)(ys:List Nat):Sm {s with known:=s.known++ys} (n+ys.length):=
 ⟨by have:=a.v;show s.ee.length<=_;omega,by have:=a.c;show s.cur.length<=_;omega,by have:=a.k;show(s.known++ys).length<=_;rw[zL];omega,by have:=a.st;show s.eh.length<=_;omega,by have:=a.k0;show 0<(s.known++ys).length;rw[zL];omega⟩
theorem Jy:∀ys:List Nat,fV (gN ys)=true
 |[]=>rfl
 |y::ys=>by show fV (V.int .i64 y::gN ys)=true;rw[eJ,Jy ys];rfl
theorem T9 (q:Dq F G h L ops t R){n:Nat}(f:Sm t.s n)(g:n<1000)(ys:List Nat)(i:0<ys.length)(j:ys.length<=5){ps:Option (O×(Nat->V))}(hx:ps=some (O.cells 3 1 true false (gN ys),λl=> .slice l 0 ys.length)){K:Hp->Prop}
  (H:∀h' R',Kp F G h h'->Dq F G h' L ops {t with s:={t.s with known:=t.s.known++ys} } R'->K h') :
  oP (ev (.ptr L.hX 0) h) λa=>ij ps h λv m=>fm (eR 3 1 8 a v m) λw o=>fm (gB 1 (.ptr L.hX 0) w o) λ_ b=>K b:=by
 subst hx;refine ed q.D.yr ?_;rw[fq];have p:=q.D.grow (jZ.new h (.cells 3 1 true false (gN ys)));have d:(gN ys).length=ys.length:=by simp[gN]
 obtain⟨new,r,u⟩:=B5 (n:=ys.length) (off:=0) (sz:=1) (fg h (.cells 3 1 true false (gN ys))) (by rw[d];omega);have x:new=gN ys:=by rw[u,Ss,VE (by omega)]
 subst x;have C:=f.k;have y:fV (gN ys)=true:=Jy ys;obtain⟨z,b,E,a1,a2,a3,I,A,B⟩:=p.Y6 (ys:=ys) r (wo _ _ ys) (by rw[d];omega) y i (by omega);have c:eR 3 1 8 R.vk (.slice h.next 0 ys.length) (h.new (.cells 3 1 true false (gN ys)))=some (.val z b):=a1;rw[c,ef,a3,ef];have e:=(q.D.xG (.cells 3 1 true false (gN ys))).trans A λ_ h=>h;exact H _ _ e (q.step e B (λ_ h=>h) q.gl q.hq rfl)
theorem K0 (q:Dq F G h L ops t R){n:Nat}(c:Sm t.s n)(b:n<999)(x:Vl){w:V}{a:V}(d:ik eN F h x.args a)(e:w = .agg (ll x a)){K:fx}
  (H:∀h' R',Kp F G h h'->R'.vk=R.vk->Dq F G h' L ops {t with s:=put t.s x} R'->K (.int .i64 t.s.ee.length) h'):gU CS (fU (YN L) [w]) h K:=by
 subst e;show cP CS fo [.agg (ll x a),.ptr L.lu 0,.ptr L.iX 0] h K;exact GB q c b ⟨a,rfl,d⟩ H
def KT (ops:List Int)(t:Dt):Dt:=end_ {t with s:=(fy ops t.s).2} 1 0 [t.blocks.length+1] 0 [t.blocks.length,t.blocks.length+2]
def M8 (ops:List Int)(t:Dt):Ds:=put (KT ops t).s (vl 21 0 0 0 [(fy ops t.s).1,0] 0)
def A1 (ops:List Int)(t:Dt):Nat:=(fy ops (M8 ops t)).1
def M3 (ops:List Int)(t:Dt):Ds:=put (fy ops (M8 ops t)).2 (vl 21 0 0 0 [A1 ops t,t.s.ee.length] 0)
def MX (ops:List Int)(t:Dt):Ds:={M3 ops t with known:=(M3 ops t).known++[t.s.ee.length,t.s.ee.length+1]}
def Ml (ops:List Int)(t:Dt):Ds:=put (fw ops (MX ops t)).2 (vl 23 0 0 0 [] (fw ops (MX ops t)).1)
def nT (ops:List Int)(t:Dt):Ds:=il (put (Ml ops t) (vl 2 0 0 1 [] 0)) (vl 4 t.s.ee.length (t.s.ee.length+3) 0 [] 0)
def lj (ops:List Int)(t:Dt):Dt:=end_ {KT ops t with s:=nT ops t} 2 t.s.ee.length [t.blocks.length+2,t.blocks.length+3] 0 [t.blocks.length+1]
def lL (ops:List Int)(t:Dt):Ds:=setArgs (row ops (lj ops t).s) t.s.ee.length [(fy ops t.s).1,t.s.ee.length+4]
def jL (ops:List Int)(t:Dt):Ds:=if(num ops (lL ops t) 3).1=0 then setArgs (num ops (lL ops t) 3).2 t.s.ee.length [(fy ops t.s).1,(row ops (lj ops t).s).known.getLastD 0] else(num ops (lL ops t) 3).2
def BZ (ops:List Int)(t:Dt):Ds:=setArgs (jL ops t) (t.s.ee.length+1) [A1 ops t,(row ops (lj ops t).s).known.getLastD 0]
def OO (ops:List Int)(t:Dt):Dt:=end_ {lj ops t with s:=cut (nT ops t).known.length (BZ ops t)} 1 0 [t.blocks.length+1] 0 [t.blocks.length+1]
theorem Im (ops:List Int)(t:Dt):∃x,(Ml ops t).ee=t.s.ee++[vl 21 0 0 0 [(fy ops t.s).1,0] 0,vl 21 0 0 0 [A1 ops t,t.s.ee.length] 0,x]:=by
 refine⟨vl 23 0 0 0 [] (fw ops (MX ops t)).1,?_⟩;unfold Ml;rw[put,(Bi ops (MX ops t)).1];show(M3 ops t).ee++[_]=_;unfold M3;show((M8 ops t).ee++[_])++[_]=_;unfold M8;show(((KT ops t).s.ee++[_])++[_])++[_]=_;simp only[Cy,List.singleton_append,YO,LG];rfl
theorem RD (ops:List Int)(t:Dt):loop ops t = {OO ops t with s:=row ops (OO ops t).s}:=by
 obtain⟨x,hx⟩:=Im ops t;have e:(Ml ops t).ee.length=t.s.ee.length+3:=by rw[hx];simp
 unfold OO BZ jL lL lj nT;rw[show t.s.ee.length+4=(t.s.ee.length+3)+1 from rfl,<-e];rfl
theorem Xt (q:Dq F G h L ops t R)(ho:ops.length<9223372036854775808){n:Nat}(hn:Sm t.s n)(cE:n<800)(hb:t.blocks.length<900){K:Mq}
  (H:∀F' h' R' d,(∀l,F l->F' l)->Kp F (gm G L.mj) h h'->Dq F' G h' L ops (end_ {KT ops t with s:=d} 2 t.s.ee.length [t.blocks.length+2,t.blocks.length+3] 0 []) R'->Sm d (n+10)->
   d=nT ops t->
   d.ee.length=t.s.ee.length+5->
   K (.int .i64 ((fy ops t.s).1:Nat)) (.int .i64 (t.blocks.length+1:Nat)) (.int .i64 t.s.ee.length) (.int .i64 ((t.s.ee.length+1:Nat):Int)) (.int .i64 ((t.s.ee.length+4:Nat):Int)) (.int .i64 ((t.blocks.length+1:Nat):Int)) h') :
  oP (ev (.ptr L.hX 0) h) λP=>
  oP (ev (.ptr L.oG 0) h) λam=>
  oP (ev (.ptr L.hX 0) h) λan=>
  oP (fD an) λao=>
  gU CS (fU am [ao]) h λap j=>
  (h.next<=j.next/\
  oP (gD 1 P ap) λaq=>
  oP (ev aq j) λQ=>
  ((ev (.ptr L.hX 0) j=some P)/\
  oP (fH 3 (.ptr L.lu 0)) λar=>
  oP (ev ar j) λau=>
  oP (fD au) λaw=>
  oP (er .add 3 aw (V.int .i64 1)) λax=>
  ij (iZ 3 1 1 (V.int .i64 0) [(0,ax)]) j λay bC=>
  oP (fN [V.ec,(V.int .i64 0),(V.int .i64 0),V.ec,V.ec,(V.int .i64 0)] [(0,1),(1,1),(2,1),(3,1),(4,1),(5,1)] [(1,(V.int .i64 1)),(3,ay)]) λaA=>
  gU CS (fU (Gb L) [aA]) bC λS bD=>
  oP (er .add 3 S (V.int .i64 1)) λc=>
  oP (er .add 3 c (V.int .i64 1)) λaB=>
  ij (iZ 3 1 2 (V.int .i64 0) [(0,S),(1,aB)]) bD λaC bE=>
  oP (fH 4 (.ptr L.iX 0)) λaD=>
  fm (gB 1 aD aC bE) λcA aE=>
  oP (ev (.ptr L.xO 0) aE) λaF=>
  ij (iZ 3 1 2 (V.int .i64 0) [(0,Q),(1,(V.int .i64 0))]) aE λaG bG=>
  oP (fN [(V.int .i64 0),(V.int .i64 0),(V.int .i64 0),(V.int .i64 0),V.ec,(V.int .i64 0)] [(0,1),(1,1),(2,1),(3,1),(4,1),(5,1)] [(0,(V.int .i64 21)),(4,aG)]) λaH=>
  gU CS (fU aF [aH]) bG λa e=>
  oP (ev (.ptr L.xO 0) e) λT=>
  oP (ev (.ptr L.hX 0) e) λU=>
  oP (ev (.ptr L.oG 0) e) λaI=>
  oP (ev (.ptr L.hX 0) e) λaJ=>
  oP (fD aJ) λaK=>
  gU CS (fU aI [aK]) e λaL z=>
  (e.next<=z.next/\
  oP (gD 1 U aL) λW=>
  oP (ev W z) λX=>
  wS (iZ 3 1 2 (V.int .i64 0) [(0,X),(1,a)]) z λo9 aM f=>
  oP (fN [(V.int .i64 0),(V.int .i64 0),(V.int .i64 0),(V.int .i64 0),V.ec,(V.int .i64 0)] [(0,1),(1,1),(2,1),(3,1),(4,1),(5,1)] [(0,(V.int .i64 21)),(4,aM)]) λaN=>
  ((f.get (z.next)=some o9/\O.beq o9 o9=true)/\
  ((ev W f=some X)/\
  ((ev (.ptr L.hX 0) f=some U)/\
  ((ev (.ptr L.xO 0) f=some T)/\
  gU CS (fU T [aN]) f λY ac=>
  (f.next<=ac.next/\
  oP (ev (.ptr L.hX 0) ac) λaO=>
  ij (iZ 3 1 2 (V.int .i64 0) [(0,a),(1,Y)]) ac λaP bH=>
  fm (eR 3 1 8 aO aP bH) λaQ bI=>
  fm (gB 1 (.ptr L.hX 0) aQ bI) λcB A=>
  oP (ev (.ptr L.xO 0) A) λZ=>
  oP (ev (.ptr L.RI 0) A) λaR=>
  gU CS (fU aR []) A λaS B=>
  (A.next<=B.next/\
  oP (fN [(V.int .i64 0),(V.int .i64 0),(V.int .i64 0),(V.int .i64 0),V.ec,(V.int .i64 0)] [(0,1),(1,1),(2,1),(3,1),(4,1),(5,1)] [(0,(V.int .i64 23)),(5,aS)]) λaT=>
  ((ev (.ptr L.xO 0) B=some Z)/\
  gU CS (fU Z [aT]) B λcC ae=>
  (B.next<=ae.next/\
  oP (ev (.ptr L.xO 0) ae) λaU=>
  oP (fN [(V.int .i64 0),(V.int .i64 0),(V.int .i64 0),(V.int .i64 0),V.ec,(V.int .i64 0)] [(0,1),(1,1),(2,1),(3,1),(4,1),(5,1)] [(0,(V.int .i64 2)),(3,(V.int .i64 1))]) λaV=>
  gU CS (fU aU [aV]) ae λaW aX=>
  oP (ev (.ptr L.xO 0) aX) λaY=>
  oP (fN [(V.int .i64 0),(V.int .i64 0),(V.int .i64 0),(V.int .i64 0),V.ec,(V.int .i64 0)] [(0,1),(1,1),(2,1),(3,1),(4,1),(5,1)] [(0,(V.int .i64 4)),(1,a),(2,aW)]) λaZ=>
  gU CS (fU aY [aZ]) aX λaa a4=>
  oP (ev (.ptr L.hX 0) a4) λa5=>
  ij (iZ 3 1 1 (V.int .i64 0) [(0,aa)]) a4 λa6 bJ=>
  fm (eR 3 1 8 a5 a6 bJ) λa7 bK=>
  fm (gB 1 (.ptr L.hX 0) a7 bK) λcD bL=>
  oP (er .add 3 c (V.int .i64 1)) λa8=>
  oP (er .add 3 c (V.int .i64 2)) λa9=>
  ij (iZ 3 1 2 (V.int .i64 0) [(0,a8),(1,a9)]) bL λba bQ=>
  oP (fN [V.ec,(V.int .i64 0),(V.int .i64 0),V.ec,V.ec,(V.int .i64 0)] [(0,1),(1,1),(2,1),(3,1),(4,1),(5,1)] [(1,(V.int .i64 2)),(2,a),(3,ba)]) λbb=>
  gU CS (fU (Gb L) [bb]) bQ λbc bR=>K Q c a Y aa bc bR)))))))))))
   :=by
 have cF:=hn.k0;have hk:=hn.k;have hv:=hn.v;refine Pq q ho hn (by omega) λh2 k2 q2=>?_;refine ed (ez _ _ _) (ed q2.D.Ww (ed q2.D.ob.len (j7 (m:=1) (show t.blocks.length<_ by omega) (by omega) ?_)));have n2:Sm (fy ops t.s).2 n:=hn.one;refine BR q2 (show t.blocks.length<_ by omega) 1 0 [t.blocks.length+1] 0 rfl (λ_=>rfl) λF4 h4 R4 f4 k4 q4=>?_;refine j7 (n:=t.blocks.length) (m:=1) (by omega) (by omega) ?_;refine j7 (n:=t.blocks.length+1) (m:=1) (by omega) (by omega) ?_;refine wk q4 [t.blocks.length,t.blocks.length+2] rfl λF6 h6 R6 f6 k6 q6=>?_;have q6:=QX (t':=end_ {t with s:=(fy ops t.s).2} 1 0 [t.blocks.length+1] 0 [t.blocks.length,t.blocks.length+2]) q6 rfl;have n6:Sm (end_ {t with s:=(fy ops t.s).2} 1 0 [t.blocks.length+1] 0 [t.blocks.length,t.blocks.length+2]).s n:=n2.end_ (t:={t with s:=(fy ops t.s).2}) _ _ _ _ _;have bS:(end_ {t with s:=(fy ops t.s).2} 1 0 [t.blocks.length+1] 0 [t.blocks.length,t.blocks.length+2]).blocks.length=t.blocks.length+1:=by simp[end_]
 have bd:(end_ {t with s:=(fy ops t.s).2} 1 0 [t.blocks.length+1] 0 [t.blocks.length,t.blocks.length+2]).s.ee.length=t.s.ee.length:=rfl;have kA:=kgm k2 (k4.trans k6 f4) λ_ h=>h;have fA:∀l,F l->F6 l:=λl r=>f6 l (f4 l r);generalize bU:end_ {t with s:=(fy ops t.s).2} 1 0 [t.blocks.length+1] 0 [t.blocks.length,t.blocks.length+2]=b at*;clear q2 q4 k2 k4 k6;generalize bV:(fy ops t.s).1=fr at*;refine ed q6.ou ?_;have e3:∀x y:Nat,iZ 3 1 2 (V.int .i64 0) [(0,V.int .i64 (x:Nat)),(1,V.int .i64 (y:Nat))]=some (.cells 3 1 true false (gN [x,y]),λl=> .slice l 0 2):=λ_ _=>rfl;have bW:iZ 3 1 2 (V.int .i64 0) [(0,V.int .i64 fr),(1,V.int .i64 0)]=some (.cells 3 1 true false (gN [fr,0]),λl=> .slice l 0 2):=e3 fr 0;rw[bW,fq];obtain⟨q7,s7,k7⟩:=C8 q6 [fr,0];generalize h6.new (.cells 3 1 true false (gN [fr,0]))=h7 at*;have eP:∀(x y n:Nat),fN [(V.int .i64 0),(V.int .i64 0),(V.int .i64 0),(V.int .i64 0),V.ec,(V.int .i64 0)] [(0,1),(1,1),(2,1),(3,1),(4,1),(5,1)] [(0,(V.int .i64 21)),(4,.slice n 0 2)]=some (.agg (ll (vl 21 0 0 0 [x,y] 0) (.slice n 0 2))):=λ_ _ _=>rfl;refine ed (eP fr 0 _) ?_;refine K0 q7 n6 (by omega) (vl 21 0 0 0 [fr,0] 0) s7 rfl λh8 R8 k8 _ q8=>?_;have n8:=n6.put (vl 21 0 0 0 [fr,0] 0);have bX:(put b.s (vl 21 0 0 0 [fr,0] 0)).ee.length=t.s.ee.length+1:=by simp[put,bd]
 rw[bd];generalize bY:put b.s (vl 21 0 0 0 [fr,0] 0)=s1 at*;have kB:Kp F (gm G L.mj) h h8:=kA.trans ((k7.gm L.mj).trans (k8.gm L.mj) (oT _ _)) fA;have fB:∀l,F l->fz F6 h6.next l:=λl r=>oT _ _ l (fA l r);clear kA k7 k8 q6 q7 s7;refine ed q8.ou (ed q8.D.yr (ed q8.uH (ed q8.D.yr (ed q8.D.ok.len ?_))));show cP CS fi [.int .i64 s1.known.length,.ptr L.mj 0,.ptr L.lr 0] h8 _;refine Kv q8 ho n8 (by omega) λC l9 o9 k9 q9 bZ i1 i2=>⟨k9.next,ed i1 (ed i2 ?_)⟩
 have i2:ev (.ptr l9 o9) C=some (.int .i64 ((fy ops s1).1:Nat)):=i2;have q9:Dq (fz F6 h6.next) G C L ops {b with s:=(fy ops s1).2} R8:=q9;have n9:=n8.one (ops:=ops);have be:(fy ops s1).2.ee.length=t.s.ee.length+1:=bX;show wS (iZ 3 1 2 (V.int .i64 0) [(0,V.int .i64 ((fy ops s1).1:Nat)),(1,V.int .i64 t.s.ee.length)]) C _;have eW:∀s:Ds,fy ops s=((fy ops s).1,(fy ops s).2):=λ_=>rfl;generalize b4:(fy ops s1).2=sg at*;generalize b5:(fy ops s1).1=g at*;rw[e3,gY];obtain⟨E,bf,bg⟩:=C8 q9 [g,t.s.ee.length];have b6:(C.new (.cells 3 1 true false (gN [g,t.s.ee.length]))).get C.next=_:=fg _ _;refine ed (eP g t.s.ee.length _) ⟨⟨b6,O.gL _ _ _ _ _⟩,jj i2 (fk _ bZ),E.D.yr,E.ou,?_⟩;generalize C.new (.cells 3 1 true false (gN [g,t.s.ee.length]))=cG at*;refine K0 E n9 (by omega) (vl 21 0 0 0 [g,t.s.ee.length] 0) bf rfl λbh R11 ag _ ah=>⟨ag.next,?_⟩
 have bi:=n9.put (vl 21 0 0 0 [g,t.s.ee.length] 0);have bj:(put sg (vl 21 0 0 0 [g,t.s.ee.length] 0)).ee.length=t.s.ee.length+2:=by simp[put,be]
 have b7:(({b with s:=sg}:Dt).s.ee.length:Nat)=t.s.ee.length+1:=be;rw[b7];generalize b8:put sg (vl 21 0 0 0 [g,t.s.ee.length] 0)=s2 at*;have ah:Dq (fz (fz F6 h6.next) C.next) G bh L ops {b with s:=s2} R11:=ah;have kC:Kp F (gm G L.mj) h bh:=kB.trans (k9.trans ((bg.gm L.mj).trans (ag.gm L.mj) (oT _ _)) λ_ h=>h) fB;have fC:∀l,F l->fz (fz F6 h6.next) C.next l:=λl r=>oT _ _ l (fB l r);clear kB k9 bg ag q8 q9 E bf;generalize fz (fz F6 h6.next) C.next=FC at*;refine T9 ah bi (by omega) [t.s.ee.length,t.s.ee.length+1] (by simp) (by simp) (e3 _ _) λb9 Y7 ca u=>?_;have ai:=bi.app [t.s.ee.length,t.s.ee.length+1];have bm:({s2 with known:=s2.known++[t.s.ee.length,t.s.ee.length+1]}:Ds).ee.length=t.s.ee.length+2:=bj;have u:Dq FC G b9 L ops {b with s:={s2 with known:=s2.known++[t.s.ee.length,t.s.ee.length+1]} } Y7:=u;generalize cb:({s2 with known:=s2.known++[t.s.ee.length,t.s.ee.length+1]}:Ds)=s3 at*;have ai:Sm s3 (n+4):=ai;refine ed u.ou (ed u.GV ?_);refine Kd u ho ai (by omega) λi cd R13 aj bn I J=>⟨bn.next,?_⟩
 have ce:=Bi ops s3;have bo:(fw ops s3).2.ee.length=t.s.ee.length+2:=by rw[ce.1];exact bm
 have I:Dq i G cd L ops {b with s:=(fw ops s3).2} R13:=I;have J:Sm (fw ops s3).2 (n+4+1):=J;show oP (fN _ _ [(0,V.int .i64 23),(5,.int .i64 ((fw ops s3).1:Nat))]) _;generalize cf:(fw ops s3).2=s4 at*;generalize cg:(fw ops s3).1=sn at*;have eS:fN [(V.int .i64 0),(V.int .i64 0),(V.int .i64 0),(V.int .i64 0),V.ec,(V.int .i64 0)] [(0,1),(1,1),(2,1),(3,1),(4,1),(5,1)] [(0,(V.int .i64 23)),(5,.int .i64 sn)]=some (.agg (ll (vl 23 0 0 0 [] sn) .ec)):=rfl;refine ed eS ⟨I.ou,?_⟩;refine K0 I J (by omega) (vl 23 0 0 0 [] sn) .nil rfl λci R14 bp _ M=>⟨bp.next,?_⟩
 have bq:=J.put (vl 23 0 0 0 [] sn);have ab:(put s4 (vl 23 0 0 0 [] sn)).ee.length=t.s.ee.length+3:=by simp[put,bo]
 have M:Dq i G ci L ops {b with s:=put s4 (vl 23 0 0 0 [] sn)} R14:=M;generalize br:put s4 (vl 23 0 0 0 [] sn)=s5 at*;refine ed M.ou ?_;have eO:fN [(V.int .i64 0),(V.int .i64 0),(V.int .i64 0),(V.int .i64 0),V.ec,(V.int .i64 0)] [(0,1),(1,1),(2,1),(3,1),(4,1),(5,1)] [(0,(V.int .i64 2)),(3,(V.int .i64 1))]=some (.agg (ll (vl 2 0 0 1 [] 0) .ec)):=rfl;refine ed eO ?_;refine K0 M bq (by omega) (vl 2 0 0 1 [] 0) .nil rfl λcj cm cn _ N=>?_;have bt:=bq.put (vl 2 0 0 1 [] 0);have w:(put s5 (vl 2 0 0 1 [] 0)).ee.length=t.s.ee.length+4:=by simp[put,ab]
 have co:(({b with s:=s5}:Dt).s.ee.length:Nat)=t.s.ee.length+3:=ab;rw[co];have N:Dq i G cj L ops {b with s:=put s5 (vl 2 0 0 1 [] 0)} cm:=N;generalize bu:put s5 (vl 2 0 0 1 [] 0)=d at*;refine ed N.ou ?_;have eUn:∀p o:Nat,fN [(V.int .i64 0),(V.int .i64 0),(V.int .i64 0),(V.int .i64 0),V.ec,(V.int .i64 0)] [(0,1),(1,1),(2,1),(3,1),(4,1),(5,1)] [(0,(V.int .i64 4)),(1,.int .i64 (p:Nat)),(2,.int .i64 (o:Nat))]=some (.agg (ll (vl 4 p o 0 [] 0) .ec)):=λ_ _=>rfl;refine ed (eUn _ _) ?_;refine K0 N bt (by omega) (vl 4 t.s.ee.length (t.s.ee.length+3) 0 [] 0) .nil rfl λcH cI cp _ cq=>?_;have bv:=bt.put (vl 4 t.s.ee.length (t.s.ee.length+3) 0 [] 0);have cr:(({b with s:=d}:Dt).s.ee.length:Nat)=t.s.ee.length+4:=w;rw[cr];refine T9 cq bv (by omega) [t.s.ee.length+4] (by simp) (by simp) rfl λct cu cv ak=>?_;have al:=bv.app [t.s.ee.length+4];have bw:({ ({b with s:=put d (vl 4 t.s.ee.length (t.s.ee.length+3) 0 [] 0)}:Dt).s with known:=({b with s:=put d (vl 4 t.s.ee.length (t.s.ee.length+3) 0 [] 0)}:Dt).s.known++[t.s.ee.length+4]}:Ds)=il d (vl 4 t.s.ee.length (t.s.ee.length+3) 0 [] 0):=by
  unfold il put;simp only[w]
 have ak:Dq i G ct L ops {b with s:=il d (vl 4 t.s.ee.length (t.s.ee.length+3) 0 [] 0)} cu:=by rw[<-bw];exact ak
 have al:Sm (il d (vl 4 t.s.ee.length (t.s.ee.length+3) 0 [] 0)) (n+10):=by rw[<-bw];exact al.le (by simp <;> omega)
 have bx:(il d (vl 4 t.s.ee.length (t.s.ee.length+3) 0 [] 0)).ee.length=t.s.ee.length+5:=by simp[il,w]
 refine j7 (n:=t.blocks.length+1) (m:=1) (by omega) (by omega) ?_;refine j7 (n:=t.blocks.length+1) (m:=2) (by omega) (by omega) ?_;refine BR ak (show b.blocks.length<_ by omega) 2 t.s.ee.length [t.blocks.length+2,t.blocks.length+3] 0 rfl (λ_=>rfl) λcw bz R18 cx cy cz=>?_;have bA:(({b with s:=il d (vl 4 t.s.ee.length (t.s.ee.length+3) 0 [] 0)}:Dt).blocks.length:Nat)=t.blocks.length+1:=bS;rw[bA];have kD:Kp F (gm G L.mj) h bz:=((kC.trans ((ca.gm L.mj).trans bn λ_ h=>h) fC).trans (F':=i) ((((bp.gm L.mj).trans (cn.gm L.mj) λ_ h=>h).trans (cp.gm L.mj) λ_ h=>h).trans (cv.gm L.mj) λ_ h=>h) λl r=>aj l (fC l r)).trans (F':=i) (cy.gm L.mj) λl r=>aj l (fC l r);subst bU bV bY b4 b5 b8 cb cf cg br bu;exact H cw bz R18 _ (λl r=>cx l (aj l (fC l r))) kD cz al rfl bx
end
open Go.Proofs.YtpnddokajmjpbaaDoor.Un
theorem Is (ops:List Int)(t:Dt):(nT ops t).ee[t.s.ee.length+1]? =some (vl 21 0 0 0 [A1 ops t,t.s.ee.length] 0)/\(nT ops t).ee.length=t.s.ee.length+5:=by
 obtain⟨x,hx⟩:=Im ops t;unfold nT;simp only[il,put,hx];constructor
 ·rw[Cy,Cy,Rr (by omega),wCF];rfl
 ·simp
theorem Pb (ops:List Int)(t:Dt):(jL ops t).ee[t.s.ee.length+1]? =some (vl 21 0 0 0 [A1 ops t,t.s.ee.length] 0)/\t.s.ee.length+5<=(jL ops t).ee.length/\(jL ops t).known=(row ops (lj ops t).s).known:=by
 obtain ⟨f,i⟩:=Is ops t;obtain⟨_,l,c⟩:=Eb ops (lj ops t).s;have e0:(lj ops t).s.ee=(nT ops t).ee:=rfl;have g:(row ops (lj ops t).s).ee[t.s.ee.length+1]? =some (vl 21 0 0 0 [A1 ops t,t.s.ee.length] 0):=by
  rw[c,e0,Ns (by omega)];exact f
 have h:t.s.ee.length+5<=(row ops (lj ops t).s).ee.length:=by rw[c,e0,zL];omega
 have a:∀(s:Ds) (l:List Nat),s.ee[t.s.ee.length+1]? =some (vl 21 0 0 0 [A1 ops t,t.s.ee.length] 0)->(setArgs s t.s.ee.length l).ee[t.s.ee.length+1]? =some (vl 21 0 0 0 [A1 ops t,t.s.ee.length] 0):=by
  intro s l hs;show(s.ee.modify t.s.ee.length _)[t.s.ee.length+1]? =_;rw[wB7,hs];show some (if _ then _ else _)=_;rw[if_neg (by omega)]
 have d:=a _ [(fy ops t.s).1,t.s.ee.length+4] g;have e:t.s.ee.length+5<=(lL ops t).ee.length:=by unfold lL;rw[(Ce _ _ _).1];exact h
 have b:(num ops (lL ops t) 3).2.ee=(lL ops t).ee:=rfl;unfold jL;split
 ·exact⟨a _ _ (by rw[b];exact d),by rw[(Ce _ _ _).1,b];exact e,rfl⟩
 ·exact⟨by rw[b];exact d,by rw[b];exact e,rfl⟩
section
variable{F F' G G':Nat->Prop}{h h':Hp}{L:Lc}{ops:List Int}{t t':Dt}{R R':Rw}{Q:fx}
theorem ZQ (x y:Nat):iZ 3 1 2 (V.int .i64 0) [(0,V.int .i64 x),(1,V.int .i64 y)]=some (.cells 3 1 true false (gN [x,y]),λl=> .slice l 0 2):=rfl
theorem Xu (ho:ops.length<9223372036854775808){n:Nat}(hn:Sm (jL ops t) n)(an:n<880)(hb:t.blocks.length<900)(q:Dq F G h L ops {lj ops t with s:=jL ops t} R){K:Hp->Prop}
  (H:∀F' h' R',(∀l,F l->F' l)->Kp F (gm G L.mj) h h'->Dq F' G h' L ops (loop ops t) R'->Sm (loop ops t).s (n+6)->K h') :
  oP (fH 2 (.ptr L.lu 0)) λb=>
  oP (ev b h) λc=>
  oP (fH 2 (.ptr L.lu 0)) λd=>
  oP (ev d h) λe=>
  oP (gD 6 e (.int .i64 ((t.s.ee.length+1:Nat):Int))) λz=>
  oP (fH 4 z) λf=>
  oP (ev f h) λg=>
  oP (gD 1 g (V.int .i64 0)) λj=>
  oP (ev j h) λo=>
  oP (ev (.ptr L.hX 0) h) λr=>
  oP (ev (.ptr L.hX 0) h) λu=>
  oP (fD u) λA=>
  oP (er .sub 3 A (V.int .i64 1)) λB=>
  oP (gD 1 r B) λv=>
  oP (ev v h) λw=>
  wS (iZ 3 1 2 (V.int .i64 0) [(0,o),(1,w)]) h λx C a=>
  oP (gD 6 c (.int .i64 ((t.s.ee.length+1:Nat):Int))) λE=>
  oP (fH 4 E) λI=>
  ((a.get (h.next)=some x/\O.beq x x=true)/\
  ((ev v a=some w)/\
  ((ev (.ptr L.hX 0) a=some u)/\
  ((ev (.ptr L.hX 0) a=some r)/\
  ((ev j a=some o)/\
  ((ev f a=some g)/\
  ((ev d a=some e)/\
  ((ev b a=some c)/\
  fm (gB 1 I C a) λvu h2=>
  (a.next<=h2.next/\
  oP (ev (.ptr L.hX 0) h2) λJ=>
  oP (iJ 1 J none (some (.int .i64 ((nT ops t).known.length:Nat))) h2) λM=>
  fm (gB 1 (.ptr L.hX 0) M h2) λaj h3=>
  ij (iZ 3 1 1 (V.int .i64 0) [(0,(.int .i64 ((t.blocks.length+1:Nat):Int)))]) h3 λN h4=>
  oP (fN [V.ec,(V.int .i64 0),(V.int .i64 0),V.ec,V.ec,(V.int .i64 0)] [(0,1),(1,1),(2,1),(3,1),(4,1),(5,1)] [(1,(V.int .i64 1)),(3,N)]) λP=>
  gU CS (fU (Gb L) [P]) h4 λak h5=>
  ij (iZ 3 1 1 (V.int .i64 0) [(0,(.int .i64 ((t.blocks.length+1:Nat):Int)))]) h5 λQ h6=>
  oP (fH 4 (.ptr L.iX 0)) λS=>
  fm (gB 1 S Q h6) λal h7=>
  gU CS (fU (Hw L) []) h7 λam h8=>K h8))))))))):=by
 obtain⟨y1,y2,y3⟩:=Pb ops t;have ab:=(Eb ops (lj ops t).s).kl;have T:(nT ops t).known.length<=(jL ops t).known.length:=by rw[y3];exact ab
 have hk:=hn.k;have U:=hn.k0;have ac:0<(nT ops t).known.length:=by
  show 0<(_++[_]).length;simp
 have W:t.s.ee.length+1<({lj ops t with s:=jL ops t}:Dt).s.ee.length:=by show _<(jL ops t).ee.length;omega
 have eg:(jL ops t).ee[t.s.ee.length+1]'(by omega)=vl 21 0 0 0 [A1 ops t,t.s.ee.length] 0:=by
  rw[gQ (by omega)]at y1;exact Option.some.inj y1
 have ao:({lj ops t with s:=jL ops t}:Dt).blocks.length=t.blocks.length+2:=by simp[lj,KT,end_]
 refine ed (ez _ _ _) (ed q.D.Tl (ed (ez _ _ _) (ed q.D.Tl ?_)));obtain⟨l1,o1,w1,ae,X,i2,i3,i4⟩:=q.D.ov.read.ix W .i64;obtain⟨wa,Y,sa⟩:=i3;rw[eg]at Y sa;have ia:=i4 4 wa (by rw[Y];rfl);have X:gD 6 R.vv (.int .i64 ((t.s.ee.length+1:Nat):Int))=some (.ptr l1 o1):=X;refine ed X (ed (ez _ _ _) (ed ia ?_));have Z:l1<h.next:=ae.elim (q.D.fl l1) λh=>(q.D.ov.sP h).2.1;obtain⟨l2,o2,u2,ag,j1,j2,j3⟩:=sa.Ts (i:=0) (by simp[vl]) .i64 rfl;have aa:l2<h.next:=ag.elim (q.D.fl l2) λh=>(q.D.ov.sP h).2.1;obtain⟨rfl⟩:u2 = .int .i64 (A1 ops t:Nat):=by
  have:[u2]=[V.int .i64 (A1 ops t:Nat)]:=j3;simpa using this
 refine ed j1 (ed j2 ?_);obtain⟨l3,o3,ah,_,m1,m2⟩:=q.DZ (i:=(jL ops t).known.length-1) (by show _<(jL ops t).known.length;omega);have m3:ev (.ptr l3 o3) h=some (.int .i64 ((jL ops t).known.getLastD 0:Nat)):=by rw[m2];show some (V.int .i64 (((jL ops t).known.getD _ 0:Nat):Int))=_;rw[vV _ U]
 refine ed q.D.yr (ed q.D.yr (ed q.D.ok.len (vU (by show(jL ops t).known.length<_;omega) U (ed m1 (ed m3 ?_)))));rw[ZQ,gY];obtain⟨y,s1,k1⟩:=C8 q [A1 ops t,(jL ops t).known.getLastD 0];have g1:(h.new (.cells 3 1 true false (gN [A1 ops t,(jL ops t).known.getLastD 0]))).get h.next=_:=fg _ _;refine ed X (ed (ez _ _ _) ?_);refine⟨⟨g1,O.gL _ _ _ _ _⟩,jj m3 (fk _ ah),y.D.yr,y.D.yr,jj j2 (fk _ aa),jj ia (fk _ Z),y.D.Tl,y.D.Tl,?_⟩;obtain⟨l4,h4,a1,a2,a3,a4,D4⟩:=y.D.Zc (p:=t.s.ee.length+1) W s1;have e4:V.ptr l1 (o1+4)=V.ptr l4 ((t.s.ee.length+1)*6+4):=by
  have:(V.ptr l1 o1)=V.ptr l4 ((t.s.ee.length+1)*6):=Option.some.inj (X.symm.trans a1);cases this;rfl
 rw [e4];simp only[CM,VR,vI]at a2;rw[a2,ef];refine⟨a3,?_⟩;have q4:=QX (t':={lj ops t with s:=BZ ops t}) (y.step a4 D4 (λ_ h=>h) q.gl y.hq rfl) (by
  unfold BZ;rw[y3])
 have ai:Sm (BZ ops t) n:=hn.setArgs _ _;refine Nk q4 (m:=(nT ops t).known.length) T λh5 R5 k5 q5=>?_;have n5:Sm (cut (nT ops t).known.length (BZ ops t)) n:=ai.cut ac T;refine BR q5 (show({lj ops t with s:=jL ops t}:Dt).blocks.length<_ by omega) 1 0 [t.blocks.length+1] 0 rfl (λ_=>rfl) λF6 h6 R6 f6 k6 q6=>?_;refine wk q6 [t.blocks.length+1] rfl λF7 h7 R7 f7 k7 q7=>?_;have q7:=QX (t':=OO ops t) q7 rfl;have n7:Sm (OO ops t).s n:=n5.end_ (t:={lj ops t with s:=cut (nT ops t).known.length (BZ ops t)}) _ _ _ _ _;refine DN q7 ho n7 (by omega) λF8 h8 R8 f8 k8 q8 n8=>?_;have ff:∀l,F l->F7 l:=λl hl=>f7 l (f6 l (oT _ _ l hl));refine H F8 h8 R8 (λl hl=>f8 l (ff l hl)) ?_ (QX q8 (RD ops t).symm) (by rw[RD];exact n8);have kk:=(((k1.gm L.mj).trans (a4.gm L.mj) (oT _ _)).trans (F':=fz F h.next) ((k5.gm L.mj).trans (k6.gm L.mj) λ_ h=>h) (oT _ _)).trans (F':=F6) (k7.gm L.mj) λl hl=>f6 l (oT _ _ l hl);exact kk.trans k8 ff
theorem WY (ho:ops.length<9223372036854775808){n:Nat}(hn:Sm (nT ops t) n)(al:n<860)(hb:t.blocks.length<900)
  (q:Dq F G h L ops (end_ {KT ops t with s:=nT ops t} 2 t.s.ee.length [t.blocks.length+2,t.blocks.length+3] 0 []) R) {K:fx}
  (H:∀F' h' R',(∀l,F l->F' l)->Kp F (gm G L.mj) h h'->Dq F' G h' L ops {lj ops t with s:=jL ops t} R'->Sm (jL ops t) (n+6)->K (.int .i64 ((nT ops t).known.length:Nat)) h') :
  oP (ev (.ptr L.hX 0) h) λx=>
  oP (fD x) λd=>
  ij (iZ 3 1 1 (V.int .i64 0) [(0,(.int .i64 ((t.blocks.length+1:Nat):Int)))]) h λy aa=>
  oP (fH 4 (.ptr L.iX 0)) λz=>
  fm (gB 1 z y aa) λaj ab=>
  gU CS (fU (Hw L) []) ab λak A=>
  oP (fH 2 (.ptr L.lu 0)) λB=>
  oP (ev B A) λC=>
  ij (iZ 3 1 2 (V.int .i64 0) [(0,(.int .i64 ((fy ops t.s).1:Nat))),(1,(.int .i64 ((t.s.ee.length+4:Nat):Int)))]) A λE ac=>
  oP (gD 6 C (.int .i64 t.s.ee.length)) λI=>
  oP (fH 4 I) λJ=>
  fm (gB 1 J E ac) λae M=>
  oP (ev (.ptr L.oG 0) M) λN=>
  gU CS (fU N [(V.int .i64 3)]) M λP a=>
  oP (er .eql 3 P (V.int .i64 0)) λQ=>
  bP Q (
  oP (fH 2 (.ptr L.lu 0)) λe=>
  oP (ev e a) λf=>
  oP (ev (.ptr L.hX 0) a) λg=>
  oP (ev (.ptr L.hX 0) a) λj=>
  oP (fD j) λS=>
  oP (er .sub 3 S (V.int .i64 1)) λT=>
  oP (gD 1 g T) λm=>
  oP (ev m a) λo=>
  wS (iZ 3 1 2 (V.int .i64 0) [(0,(.int .i64 ((fy ops t.s).1:Nat))),(1,o)]) a λu U b=>
  oP (gD 6 f (.int .i64 t.s.ee.length)) λW=>
  oP (fH 4 W) λX=>
  ((b.get (a.next)=some u/\O.beq u u=true)/\
  ((ev m b=some o)/\
  ((ev (.ptr L.hX 0) b=some j)/\
  ((ev (.ptr L.hX 0) b=some g)/\
  ((ev e b=some f)/\
  fm (gB 1 X U b) λag Y=>
  (b.next<=Y.next/\K d Y)))))))
  (K d a):=by
 obtain⟨_,z2⟩:=Is ops t;have hk:=hn.k;have am:=hn.k0;refine ed q.D.yr (ed q.D.ok.len ?_);refine wk q [t.blocks.length+1] rfl λF1 h1 R1 f1 k1 q1=>?_;have q1:=QX (t':=lj ops t) q1 rfl;have n1:Sm (lj ops t).s n:=hn.end_ (t:={KT ops t with s:=nT ops t}) _ _ _ _ _;refine DN q1 ho n1 (by omega) λF2 h2 R2 f2 k2 q2 n2=>?_;obtain⟨_,l,v⟩:=Eb ops (lj ops t).s;have e0:(lj ops t).s.ee=(nT ops t).ee:=rfl;have h4:t.s.ee.length+5<=(row ops (lj ops t).s).ee.length:=by rw[v,e0,zL];omega
 refine ed (ez _ _ _) (ed q2.D.Tl ?_);rw[ZQ,fq];obtain⟨q3,s3,k3⟩:=C8 q2 [(fy ops t.s).1,t.s.ee.length+4];obtain⟨l4,Z,a1,a2,a3,a4,D4⟩:=q3.D.Zc (p:=t.s.ee.length) (by show _<(row ops (lj ops t).s).ee.length;omega) s3;refine ed a1 (ed (ez _ _ _) ?_);simp only[CM,VR,vI]at a2;rw[a2,ef];have q4:Dq (fz F2 h2.next) G Z L ops {lj ops t with s:=lL ops t} R2:=q3.step a4 D4 (λ_ h=>h) q.gl q3.hq rfl;have n4:Sm (lL ops t) (n+6):=n2.setArgs _ _;refine ed q4.uH ?_;show cP CS fi [.int .i64 ((3:Nat):Int),.ptr L.mj 0,.ptr L.lr 0] Z _;refine vX q4 (by decide) (by decide) ho λh5 k5 c=>?_;have c:Dq (fz F2 h2.next) G h5 L ops {lj ops t with s:=(num ops (lL ops t) 3).2} R2:=c;have n5:Sm (num ops (lL ops t) 3).2 (n+6):=n4.num 3;have ff:∀l,F l->fz F2 h2.next l:=λl v=>oT _ _ l (f2 l (f1 l v));have kk:Kp F (gm G L.mj) h h5:=(((k1.gm L.mj).trans k2 f1).trans ((k3.gm L.mj).trans (a4.gm L.mj) (oT _ _)) λl v=>f2 l (f1 l v)).trans k5 ff;show oP (er .eql 3 (.int .i64 ((num ops (lL ops t) 3).1:Nat)) (V.int .i64 0)) _;by_cases hd:(num ops (lL ops t) 3).1=0
 ·refine gO (ig (by omega) ?_);have e9:jL ops t=setArgs (num ops (lL ops t) 3).2 t.s.ee.length [(fy ops t.s).1,(row ops (lj ops t).s).known.getLastD 0]:=by unfold jL;rw[if_pos hd]
  have an:=n5.k;have r:=n5.k0;have ah:(num ops (lL ops t) 3).2.known=(row ops (lj ops t).s).known:=rfl;refine ed (ez _ _ _) (ed c.D.Tl ?_);obtain⟨l3,o3,ai,_,m1,m2⟩:=c.DZ (i:=(num ops (lL ops t) 3).2.known.length-1) (by show _<(num ops (lL ops t) 3).2.known.length;omega);have m3:ev (.ptr l3 o3) h5=some (.int .i64 ((row ops (lj ops t).s).known.getLastD 0:Nat)):=by
   rw[m2,<-ah];show some (V.int .i64 (((num ops (lL ops t) 3).2.known.getD _ 0:Nat):Int))=_;rw[vV _ r]
  refine ed c.D.yr (ed c.D.yr (ed c.D.ok.len (vU (by show(num ops (lL ops t) 3).2.known.length<_;omega) r (ed m1 (ed m3 ?_)))));rw[ZQ,gY];obtain⟨w,s6,k6⟩:=C8 c [(fy ops t.s).1,(row ops (lj ops t).s).known.getLastD 0];have g6:(h5.new (.cells 3 1 true false (gN [(fy ops t.s).1,(row ops (lj ops t).s).known.getLastD 0]))).get h5.next=_:=fg _ _;obtain⟨l7,h7,b1,b2,b3,b4,D7⟩:=w.D.Zc (p:=t.s.ee.length) (by
   show _<(lL ops t).ee.length;unfold lL;rw[(Ce _ _ _).1];omega) s6
  refine ed b1 (ed (ez _ _ _) ?_);refine⟨⟨g6,O.gL _ _ _ _ _⟩,jj m3 (fk _ ai),w.D.yr,w.D.yr,w.D.Tl,?_⟩;simp only[CM,VR,vI]at b2;rw[b2,ef];have q7:=QX (t':={lj ops t with s:=jL ops t}) (w.step b4 D7 (λ_ h=>h) q.gl w.hq rfl) (by rw[e9]);refine⟨b3,H _ _ _ (λl v=>oT _ _ l (ff l v)) (kk.trans ((k6.gm L.mj).trans (b4.gm L.mj) (oT _ _)) ff) q7 ?_⟩;rw[e9];exact n5.setArgs _ _
 ·refine gO (gG (by omega) ?_);have e9:jL ops t=(num ops (lL ops t) 3).2:=by unfold jL;rw[if_neg hd]
  exact H _ _ _ ff kk (QX c (by rw[e9])) (by rw[e9];exact n5)
end
open Go.Proofs.YtpnddokajmjpbaaDoor.Un
def uC (u:U)(v b s:V):List V:=[.int .i64 u.func,.int .i64 u.pc,v,b,s]
def eUn:nQ U where
 sz:=5
 rel F h u cs:=∃v b s,cs=uC u v b s/\ik eV F h u.ee v/\ik eK F h u.blocks b/\ik eT F h u.eh s
 len:=λ⟨_,_,_,h,_⟩=>by subst h;rfl
 one:=λ⟨_,_,_,h,a,c,d⟩=>by subst h;simp only[uC,eJ,a.one,c.one,d.one];rfl
 fc:=λe ⟨v,n,p,h,a,c,d⟩=>⟨v,n,p,h,a.fc e,c.fc e,d.fc e⟩
 mono:=λhb ⟨v,n,p,h,a,c,d⟩=>⟨v,n,p,h,a.mono hb,c.mono hb,d.mono hb⟩
theorem VT (ops:List Int)(t:Dt):(fork ops t).blocks.length=t.blocks.length+3:=by simp[fork,end_]
theorem Wf (ops:List Int)(t:Dt):(we ops t).blocks.length=t.blocks.length+2:=by simp[we,end_]
theorem Wm (ops:List Int)(t:Dt):(loop ops t).blocks.length=t.blocks.length+3:=by simp[loop,end_]
section
variable{F F' G G':Nat->Prop}{h h':Hp}{L:Lc}{ops:List Int}{t t':Dt}{R R':Rw}{Q:fx}
theorem zaY {a:List Int}{vo vs nv:V}{b:Nat}(B:ops.length<9223372036854775808)(q:Dq F G h L ops t R)(hn:Sm t.s 30)(hb:t.blocks.length=0)(C:h.get L.lr=some (.cells N0 1 true false [vo,vs,nv]))(aa:ik (eI .i64) F h a vs)
  (ak:G b) (ab:b≠L.mj) (ac:∃c,h.get b=some (.cells 30 1 true false c)/\c.length=5)
  (H:∀F' h' R' d,(∀l,F l->F' l)->Kp F (gm G L.mj) h h'->Dq F' G h' L ops d R'->d=end_ {kG ops (a.take 6) t with s:=(fw ops (kG ops (a.take 6) t).s).2} 3 0 [] (fw ops (kG ops (a.take 6) t).s).1 []->
   fm (gB 5 (.ptr b 0) (.agg [.int .i64 1,.int .i64 2,R'.vv,R'.vb,R'.vs]) h') λ_ f=>oP (gg 5 (.ptr b 0) f) λr=>Q r f) :
  nJ CS Q (.ptr L.lr 0) (.ptr b 0) (.ptr L.lu 0) (.ptr L.hX 0) (.ptr L.iX 0) (.ptr L.xO 0) (.ptr L.oG 0) (.ptr L.RI 0) (Hw L) (Gb L) (.int .i64 0) h:=by
 refine AT (λk O P S T U W n o p u v h'=>∃(F':Nat->Prop) (R':Rw) (i:Nat) (t':Dt),O = .ptr L.lr 0/\P = .ptr b 0/\S = .ptr L.lu 0/\T = .ptr L.hX 0/\U = .ptr L.iX 0/\W = .ptr L.xO 0/\
  n = .ptr L.oG 0/\o = .ptr L.RI 0/\p=Hw L/\u=Gb L/\v = .int .i64 i/\i+k=6/\(∀l,F l->F' l)/\Kp F (gm G L.mj) h h'/\Dq F' G h' L ops t' R'/\Sm t'.s (30+30*i)/\t'.blocks.length<=3*i/\
  kG ops ((a.take 6).drop i) t' = kG ops (a.take 6) t) ?_ (k:=6)
  ⟨F,R,0,t,rfl,rfl,rfl,rfl,rfl,rfl,rfl,rfl,rfl,rfl,rfl,rfl,λ_ h=>h,Kp.refl _ _ _,q,hn,by omega,by rw[Ss]⟩
 rintro k O P S T U W n o p u v h' ⟨F1,R1,i,d,rfl,rfl,rfl,rfl,rfl,rfl,rfl,rfl,rfl,rfl,rfl,al,E,X,z,Y,b1,I⟩;unfold sU;have J:h'.get L.lr=some (.cells N0 1 true false [vo,vs,nv]):=by rw[X.fc _ (.inl q.fr)];exact C
 have K:ev (.ptr L.lr 1) h' = some vs:=jR J rfl;have lv:=z.D.ov.len;have M:ik (eI .i64) F h' a vs:=aa.fc λl j=>X.fc l (.inl j);refine ed (ez _ _ _) (ed K (ed M.len (ed (om _ _ _ _) ?_)));have e1:jK (.bool (decide (((i:Nat):Int)<(a.length:Nat)))) (oB (some (V.int .i64 i)) λae=>er .lss 3 ae (V.int .i64 6))=some (.bool (decide (((i:Nat):Int)<(a.length:Nat))&&decide (((i:Nat):Int)<6))):=by
  simp only[fh,om,ji]
 refine ed e1 ?_
 have e2:jK (.bool (decide (((i:Nat):Int)<(a.length:Nat))&&decide (((i:Nat):Int)<6))) (oB (fH 2 (.ptr L.lu 0)) λag=>oB (ev ag h') λah=>oB (fD ah) λai=>er .lss 3 ai (V.int .i64 160)) =
   some (.bool ((decide (((i:Nat):Int)<(a.length:Nat))&&decide (((i:Nat):Int)<6))&&decide (((d.s.ee.length:Nat):Int)<160))):=by
  simp only[ez,fh,vI,z.D.Tl,lv,om,ji]
 refine ed e2 (jH ?_);by_cases hgo:i<a.length/\i<6/\d.s.ee.length<160;rotate_left
 ·
  refine gG (by simp only[tN,DY];omega) ?_;have N:d=kG ops (a.take 6) t:=by
   rw[<-I];by_cases hi:i<(a.take 6).length
   ·rw[Yh hi];unfold kG;rw[if_neg];rw[FY]at hi;omega
   ·rw[List.drop_of_length_le (by omega)];rfl
  subst N;refine ed z.GV ?_;refine Kd z B Y (by omega) λm f R2 g w x y=>?_;have eB:∀sn:Nat,fN [V.ec,(V.int .i64 0),(V.int .i64 0),V.ec,V.ec,(V.int .i64 0)] [(0,1),(1,1),(2,1),(3,1),(4,1),(5,1)] [(1,(V.int .i64 3)),(5,.int .i64 (sn:Nat))]=some (.agg (kM ⟨[],3,0,[],[],sn⟩ .ec .ec .ec)):=λ_=>rfl;refine ed (eB _) ?_;refine Pm x (show(kG ops (a.take 6) t).blocks.length<_ by omega) ⟨[],3,0,[],[],_⟩ rfl rfl rfl .nil λF3 h3 R3 Z k3 q3=>?_;have lA:gg 5 (.ptr L.lu 0) h3=some (.agg [.int .i64 1,.int .i64 2,R3.vv,R3.vb,R3.vs]):=Bg q3.D.gu rfl;refine ed lA ?_;have kk:=(X.trans w E).trans (k3.gm L.mj) λl j=>g l (E l j);exact H F3 h3 R3 _ (λl j=>Z l (g l (E l j))) kk q3 rfl
 obtain⟨g1,g2,g3⟩:=hgo;refine ig (by simp only[tN,DY];omega) ?_;obtain⟨l4,o4,u4,_,i1,i2,i3⟩:=M.Ts g1 .i64 rfl;obtain⟨rfl⟩:u4 = .int .i64 a[i]:=by simpa using i3.1
 refine ed (ez _ _ _) (ed K (ed i1 (ed i2 ?_)));show cP CS iF [.int .i64 a[i],.int .i64 ((3:Nat):Int)] h' _;refine MY (by decide) (by decide) ?_;have aj:i<(a.take 6).length:=by rw[FY];omega
 have A:kG ops ((a.take 6).drop (i+1)) (sy ops (lg a[i] 3) d)=kG ops (a.take 6) t:=by
  rw[<-I,Yh aj]
  conv=>rhs;unfold kG
  rw[if_pos g3,List.getElem_take]
 have fin:∀(m:Nat->Prop) (f:Hp) (R2:Rw),(∀l,F1 l->m l)->Kp F1 (gm G L.mj) h' f->Dq m G f L ops (sy ops (lg a[i] 3) d) R2->Sm (sy ops (lg a[i] 3) d).s (30+30*i+30)->(sy ops (lg a[i] 3) d).blocks.length<=3*(i+1)->
   jo CS Q (λO P S T U W n o p u v hh=>∃k',k' < k/\∃(F':Nat->Prop) (R':Rw) (i:Nat) (t':Dt),O = .ptr L.lr 0/\P = .ptr b 0/\S = .ptr L.lu 0/\T = .ptr L.hX 0/\U = .ptr L.iX 0/\W = .ptr L.xO 0/\
    n = .ptr L.oG 0/\o = .ptr L.RI 0/\p=Hw L/\u=Gb L/\v = .int .i64 i/\i+k' = 6/\(∀l,F l->F' l)/\Kp F (gm G L.mj) h hh/\Dq F' G hh L ops t' R'/\Sm t'.s (30+30*i)/\t'.blocks.length<=3*i/\
    kG ops ((a.take 6).drop i) t' = kG ops (a.take 6) t) (.ptr L.lr 0) (.ptr b 0) (.ptr L.lu 0) (.ptr L.hX 0) (.ptr L.iX 0) (.ptr L.xO 0) (.ptr L.oG 0) (.ptr L.RI 0) (Hw L) (Gb L) (.int .i64 i) f:=by
  intro m f R2 g w x y b2;refine Af ?_;unfold r0;refine fM ?_;exact⟨k-1,by omega,m,R2,i+1,_,rfl,rfl,rfl,rfl,rfl,rfl,rfl,rfl,rfl,rfl,rfl,by omega,λl j=>g l (E l j),X.trans w E,x,y,b2,A⟩
 by_cases c0:lg a[i] 3=0
 ·refine gO (ig (by omega) ?_);have e:sy ops (lg a[i] 3) d=fork ops d:=by unfold sy;rw[if_pos c0]
  rw[e]at fin;refine Wq z B Y (by omega) (by omega) λm f R2 g w x y=>?_;exact fin m f R2 g w x y (by rw[VT];omega)
 refine gO (gG (by omega) ?_);by_cases c1:lg a[i] 3=1
 ·refine gO (ig (by omega) ?_);have e:sy ops (lg a[i] 3) d=loop ops d:=by unfold sy;rw[if_neg c0,if_pos c1]
  rw[e]at fin;refine Xt z B Y (by omega) (by omega) λm f R2 s6 g w x y e6 _=>?_;subst e6;refine WY B y (by omega) (by omega) x λF3 h3 R3 Z k3 q3 n3=>?_;refine Az ?_;unfold rH;refine Xu B n3 (by omega) (by omega) q3 λF4 h4 R4 f4 k4 q4 n4=>?_;exact fin F4 h4 R4 (λl j=>f4 l (Z l (g l j))) ((w.trans k3 g).trans k4 λl j=>Z l (g l j)) q4 (n4.le (by omega)) (by rw[Wm];omega)
 ·refine gO (gG (by omega) ?_);have e:sy ops (lg a[i] 3) d=we ops d:=by unfold sy;rw[if_neg c0,if_neg c1]
  rw[e]at fin;refine We z B Y (by omega) (by omega) λm f R2 g w x y=>?_;exact fin m f R2 g w x y (by rw[Wf];omega)
end
