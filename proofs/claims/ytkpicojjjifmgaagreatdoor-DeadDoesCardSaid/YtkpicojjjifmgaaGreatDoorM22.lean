/- Parts. -/
import Derived.Test.YtkpicojjjifmgaaGreatDoorM21
namespace Go.Proofs.YtkpicojjjifmgaaGreatDoor.Hx
open Un
section
variable{F F' G G':Nat->Prop}{h h':Hp}{L:Lc}{ops:List Int}{t t':Dt}{R R':Rw}{Q:fy}
theorem Sm.app{s:Ds}{n:Nat}(a:Sm s n)(ys:List Nat):Sm {s with known:=s.known++ys} (n+ys.length):=
 ⟨by have:=a.v;show s.eh.length<=_;omega,by have:=a.c;show s.cur.length<=_;omega,by have:=a.k;show(s.known++ys).length<=_;rw[Ec];omega,by have:=a.st;show s.en.length<=_;omega,by have:=a.k0;show 0<(s.known++ys).length;rw[Ec];omega⟩
theorem Mi:∀ys:List Nat,gG (hZ ys)=true
 |[]=>rfl
 |y::ys=>by show gG (V.I y::hZ ys)=true;rw[ey,Mi ys];rfl
theorem WN(q:Dq F G h L ops t R){n:Nat}(f:Sm t.s n)(g:n<1000)(ys:List Nat)(i:0<ys.length)(j:ys.length<=5){ps:Option (O×(Nat->V))}(m:ps=some (O.cells 3 1 true false (hZ ys),λl=> .slice l 0 ys.length)){K:Hp->Prop}
  (H:∀h' R',Kp F G h h'->Dq F G h' L ops {t with s:={t.s with known:=t.s.known++ys} } R'->K h') :
  oP (eQ (.ptr L.iA 0) h) λa=>hX ps h λv o=>fk (fg 3 1 8 a v o) λw p=>fk (gM 1 (.ptr L.iA 0) w p) λ_ b=>K b:=by
 subst m;refine ee q.D.Au ?_;rw[fG];have r:=q.D.grow (mA.new h (.cells 3 1 true false (hZ ys)));have d:(hZ ys).length=ys.length:=by simp[hZ]
 obtain⟨new,u,x⟩:=Eg (n:=ys.length) (off:=0) (sz:=1) (fj h (.cells 3 1 true false (hZ ys))) (by rw[d];omega);have y:new=hZ ys:=by rw[x,Yr,Yq (by omega)]
 subst y;have E:=f.k;have z:gG (hZ ys)=true:=Mi ys;obtain⟨A,b,I,a1,a2,a3,a4,B,C⟩:=r.zbW (ys:=ys) u (yy _ _ ys) (by rw[d];omega) z i (by omega);have c:fg 3 1 8 R.vk (.slice h.next 0 ys.length) (h.new (.cells 3 1 true false (hZ ys)))=some (.val A b):=a1;rw[c,ei,a3,ei];have e:=(q.D.zh (.cells 3 1 true false (hZ ys))).trans B λ_ h=>h;exact H _ _ e (q.step e C (λ_ h=>h) q.gl q.hq rfl)
theorem MV(q:Dq F G h L ops t R){n:Nat}(c:Sm t.s n)(b:n<999)(x:Vl){w:V}{a:V}(d:iq eN F h x.args a)(e:w = .agg (mI x a)){K:fy}
  (H:∀h' R',Kp F G h h'->R'.vk=R.vk->Dq F G h' L ops {t with s:=put t.s x} R'->K (.I t.s.eh.length) h'):ic CS (gh (zbR L) [w]) h K:=by
 subst e;show cP CS fF [.agg (mI x a),.ptr L.lu 0,.ptr L.jN 0] h K;exact Jl q c b ⟨a,rfl,d⟩ H
def LU(ops:List Int)(t:Dt):Dt:=end_ {t with s:=(fK ops t.s).2} 1 0 [t.blocks.length+1] 0 [t.blocks.length,t.blocks.length+2]
def Pk(ops:List Int)(t:Dt):Ds:=put (LU ops t).s (vl 21 0 0 0 [(fK ops t.s).1,0] 0)
def CG(ops:List Int)(t:Dt):Nat:=(fK ops (Pk ops t)).1
def Pj(ops:List Int)(t:Dt):Ds:=put (fK ops (Pk ops t)).2 (vl 21 0 0 0 [CG ops t,t.s.eh.length] 0)
def ON(ops:List Int)(t:Dt):Ds:={Pj ops t with known:=(Pj ops t).known++[t.s.eh.length,t.s.eh.length+1]}
def OW(ops:List Int)(t:Dt):Ds:=put (fJ ops (ON ops t)).2 (vl 23 0 0 0 [] (fJ ops (ON ops t)).1)
def pz(ops:List Int)(t:Dt):Ds:=jc (put (OW ops t) (vl 2 0 0 1 [] 0)) (vl 4 t.s.eh.length (t.s.eh.length+3) 0 [] 0)
def mG(ops:List Int)(t:Dt):Dt:=end_ {LU ops t with s:=pz ops t} 2 t.s.eh.length [t.blocks.length+2,t.blocks.length+3] 0 [t.blocks.length+1]
def mX(ops:List Int)(t:Dt):Ds:=setArgs (row ops (mG ops t).s) t.s.eh.length [(fK ops t.s).1,t.s.eh.length+4]
def kT(ops:List Int)(t:Dt):Ds:=if(num ops (mX ops t) 3).1=0 then setArgs (num ops (mX ops t) 3).2 t.s.eh.length [(fK ops t.s).1,(row ops (mG ops t).s).known.getLastD 0] else(num ops (mX ops t) 3).2
def DO(ops:List Int)(t:Dt):Ds:=setArgs (kT ops t) (t.s.eh.length+1) [CG ops t,(row ops (mG ops t).s).known.getLastD 0]
def Qm(ops:List Int)(t:Dt):Dt:=end_ {mG ops t with s:=cut (pz ops t).known.length (DO ops t)} 1 0 [t.blocks.length+1] 0 [t.blocks.length+1]
theorem KW(ops:List Int)(t:Dt):∃x,(OW ops t).eh=t.s.eh++[vl 21 0 0 0 [(fK ops t.s).1,0] 0,vl 21 0 0 0 [CG ops t,t.s.eh.length] 0,x]:=by
 refine⟨vl 23 0 0 0 [] (fJ ops (ON ops t)).1,?_⟩;unfold OW;rw[put,(CB ops (ON ops t)).1];show(Pj ops t).eh++[_]=_;unfold Pj;show((Pk ops t).eh++[_])++[_]=_;unfold Pk;show(((LU ops t).s.eh++[_])++[_])++[_]=_;simp only[Ii,List.singleton_append,wBq,No];rfl
theorem UF(ops:List Int)(t:Dt):loop ops t = {Qm ops t with s:=row ops (Qm ops t).s}:=by
 obtain⟨x,a⟩:=KW ops t;have e:(OW ops t).eh.length=t.s.eh.length+3:=by rw[a];simp
 unfold Qm DO kT mX mG pz;rw[show t.s.eh.length+4=(t.s.eh.length+3)+1 from rfl,<-e];rfl
theorem Zb(q:Dq F G h L ops t R)(ho:ops.length<9223372036854775808){n:Nat}(hn:Sm t.s n)(cD:n<800)(hb:t.blocks.length<900){K:PS}
  (H:∀F' h' R' d,(∀l,F l->F' l)->Kp F (gm G L.nR) h h'->Dq F' G h' L ops (end_ {LU ops t with s:=d} 2 t.s.eh.length [t.blocks.length+2,t.blocks.length+3] 0 []) R'->Sm d (n+10)->
   d=pz ops t->
   d.eh.length=t.s.eh.length+5->
   K (.I ((fK ops t.s).1:Nat)) (.I (t.blocks.length+1:Nat)) (.I t.s.eh.length) (.I ((t.s.eh.length+1:Nat):Int)) (.I ((t.s.eh.length+4:Nat):Int)) (.I ((t.blocks.length+1:Nat):Int)) h') :
  oP (eQ (.ptr L.iA 0) h) λP=>
  oP (eQ (.ptr L.qf 0) h) λam=>
  oP (eQ (.ptr L.iA 0) h) λan=>
  oP (fH an) λao=>
  ic CS (gh am [ao]) h λap j=>
  (h.next<=j.next/\
  oP (gJ 1 P ap) λaq=>
  oP (eQ aq j) λQ=>
  ((eQ (.ptr L.iA 0) j=some P)/\
  oP (fI 3 (.ptr L.lu 0)) λar=>
  oP (eQ ar j) λau=>
  oP (fH au) λaw=>
  oP (ev .add 3 aw (V.I 1)) λax=>
  hX (jG 3 1 1 (V.I 0) [(0,ax)]) j λay bH=>
  oP (fV [V.ef,(V.I 0),(V.I 0),V.ef,V.ef,(V.I 0)] [(0,1),(1,1),(2,1),(3,1),(4,1),(5,1)] [(1,(V.I 1)),(3,ay)]) λaA=>
  ic CS (gh (I1 L) [aA]) bH λS bI=>
  oP (ev .add 3 S (V.I 1)) λc=>
  oP (ev .add 3 c (V.I 1)) λaB=>
  hX (jG 3 1 2 (V.I 0) [(0,S),(1,aB)]) bI λaC bJ=>
  oP (fI 4 (.ptr L.jN 0)) λaD=>
  fk (gM 1 aD aC bJ) λcz aE=>
  oP (eQ (.ptr L.zL 0) aE) λaF=>
  hX (jG 3 1 2 (V.I 0) [(0,Q),(1,(V.I 0))]) aE λaG bK=>
  oP (fV [(V.I 0),(V.I 0),(V.I 0),(V.I 0),V.ef,(V.I 0)] [(0,1),(1,1),(2,1),(3,1),(4,1),(5,1)] [(0,(V.I 21)),(4,aG)]) λaH=>
  ic CS (gh aF [aH]) bK λa e=>
  oP (eQ (.ptr L.zL 0) e) λT=>
  oP (eQ (.ptr L.iA 0) e) λU=>
  oP (eQ (.ptr L.qf 0) e) λaI=>
  oP (eQ (.ptr L.iA 0) e) λaJ=>
  oP (fH aJ) λaK=>
  ic CS (gh aI [aK]) e λaL z=>
  (e.next<=z.next/\
  oP (gJ 1 U aL) λW=>
  oP (eQ W z) λX=>
  xE (jG 3 1 2 (V.I 0) [(0,X),(1,a)]) z λo9 aM f=>
  oP (fV [(V.I 0),(V.I 0),(V.I 0),(V.I 0),V.ef,(V.I 0)] [(0,1),(1,1),(2,1),(3,1),(4,1),(5,1)] [(0,(V.I 21)),(4,aM)]) λaN=>
  ((f.get (z.next)=some o9/\O.beq o9 o9=true)/\
  ((eQ W f=some X)/\
  ((eQ (.ptr L.iA 0) f=some U)/\
  ((eQ (.ptr L.zL 0) f=some T)/\
  ic CS (gh T [aN]) f λY ac=>
  (f.next<=ac.next/\
  oP (eQ (.ptr L.iA 0) ac) λaO=>
  hX (jG 3 1 2 (V.I 0) [(0,a),(1,Y)]) ac λaP bL=>
  fk (fg 3 1 8 aO aP bL) λaQ bQ=>
  fk (gM 1 (.ptr L.iA 0) aQ bQ) λcA A=>
  oP (eQ (.ptr L.zL 0) A) λZ=>
  oP (eQ (.ptr L.Ua 0) A) λaR=>
  ic CS (gh aR []) A λaS B=>
  (A.next<=B.next/\
  oP (fV [(V.I 0),(V.I 0),(V.I 0),(V.I 0),V.ef,(V.I 0)] [(0,1),(1,1),(2,1),(3,1),(4,1),(5,1)] [(0,(V.I 23)),(5,aS)]) λaT=>
  ((eQ (.ptr L.zL 0) B=some Z)/\
  ic CS (gh Z [aT]) B λcB ae=>
  (B.next<=ae.next/\
  oP (eQ (.ptr L.zL 0) ae) λaU=>
  oP (fV [(V.I 0),(V.I 0),(V.I 0),(V.I 0),V.ef,(V.I 0)] [(0,1),(1,1),(2,1),(3,1),(4,1),(5,1)] [(0,(V.I 2)),(3,(V.I 1))]) λaV=>
  ic CS (gh aU [aV]) ae λaW aX=>
  oP (eQ (.ptr L.zL 0) aX) λaY=>
  oP (fV [(V.I 0),(V.I 0),(V.I 0),(V.I 0),V.ef,(V.I 0)] [(0,1),(1,1),(2,1),(3,1),(4,1),(5,1)] [(0,(V.I 4)),(1,a),(2,aW)]) λaZ=>
  ic CS (gh aY [aZ]) aX λaa a5=>
  oP (eQ (.ptr L.iA 0) a5) λa6=>
  hX (jG 3 1 1 (V.I 0) [(0,aa)]) a5 λa7 bR=>
  fk (fg 3 1 8 a6 a7 bR) λa8 bS=>
  fk (gM 1 (.ptr L.iA 0) a8 bS) λcC bU=>
  oP (ev .add 3 c (V.I 1)) λa9=>
  oP (ev .add 3 c (V.I 2)) λba=>
  hX (jG 3 1 2 (V.I 0) [(0,a9),(1,ba)]) bU λbb bV=>
  oP (fV [V.ef,(V.I 0),(V.I 0),V.ef,V.ef,(V.I 0)] [(0,1),(1,1),(2,1),(3,1),(4,1),(5,1)] [(1,(V.I 2)),(2,a),(3,bb)]) λbc=>
  ic CS (gh (I1 L) [bc]) bV λbd bW=>K Q c a Y aa bd bW)))))))))))
   :=by
 have cE:=hn.k0;have hk:=hn.k;have hv:=hn.v;refine RX q ho hn (by omega) λh2 k2 q2=>?_;refine ee (fe _ _ _) (ee q2.D.YN (ee q2.D.ob.len (j8 (m:=1) (show t.blocks.length<_ by omega) (by omega) ?_)));have n2:Sm (fK ops t.s).2 n:=hn.one;refine De q2 (show t.blocks.length<_ by omega) 1 0 [t.blocks.length+1] 0 rfl (λ_=>rfl) λF4 h4 R4 f4 k4 q4=>?_;refine j8 (n:=t.blocks.length) (m:=1) (by omega) (by omega) ?_;refine j8 (n:=t.blocks.length+1) (m:=1) (by omega) (by omega) ?_;refine yC q4 [t.blocks.length,t.blocks.length+2] rfl λF6 h6 R6 f6 k6 q6=>?_;have q6:=TM (t':=end_ {t with s:=(fK ops t.s).2} 1 0 [t.blocks.length+1] 0 [t.blocks.length,t.blocks.length+2]) q6 rfl;have n6:Sm (end_ {t with s:=(fK ops t.s).2} 1 0 [t.blocks.length+1] 0 [t.blocks.length,t.blocks.length+2]).s n:=n2.end_ (t:={t with s:=(fK ops t.s).2}) _ _ _ _ _;have bX:(end_ {t with s:=(fK ops t.s).2} 1 0 [t.blocks.length+1] 0 [t.blocks.length,t.blocks.length+2]).blocks.length=t.blocks.length+1:=by simp[end_]
 have be:(end_ {t with s:=(fK ops t.s).2} 1 0 [t.blocks.length+1] 0 [t.blocks.length,t.blocks.length+2]).s.eh.length=t.s.eh.length:=rfl;have kA:=kgm k2 (k4.trans k6 f4) λ_ h=>h;have fA:∀l,F l->F6 l:=λl r=>f6 l (f4 l r);generalize bY:end_ {t with s:=(fK ops t.s).2} 1 0 [t.blocks.length+1] 0 [t.blocks.length,t.blocks.length+2]=b at*;clear q2 q4 k2 k4 k6;generalize bZ:(fK ops t.s).1=fr at*;refine ee q6.pN ?_;have e3:∀x y:Nat,jG 3 1 2 (V.I 0) [(0,V.I (x:Nat)),(1,V.I (y:Nat))]=some (.cells 3 1 true false (hZ [x,y]),λl=> .slice l 0 2):=λ_ _=>rfl;have b4:jG 3 1 2 (V.I 0) [(0,V.I fr),(1,V.I 0)]=some (.cells 3 1 true false (hZ [fr,0]),λl=> .slice l 0 2):=e3 fr 0;rw[b4,fG];obtain⟨q7,s7,k7⟩:=Fh q6 [fr,0];generalize h6.new (.cells 3 1 true false (hZ [fr,0]))=h7 at*;have eP:∀(x y n:Nat),fV [(V.I 0),(V.I 0),(V.I 0),(V.I 0),V.ef,(V.I 0)] [(0,1),(1,1),(2,1),(3,1),(4,1),(5,1)] [(0,(V.I 21)),(4,.slice n 0 2)]=some (.agg (mI (vl 21 0 0 0 [x,y] 0) (.slice n 0 2))):=λ_ _ _=>rfl;refine ee (eP fr 0 _) ?_;refine MV q7 n6 (by omega) (vl 21 0 0 0 [fr,0] 0) s7 rfl λh8 R8 k8 _ q8=>?_;have n8:=n6.put (vl 21 0 0 0 [fr,0] 0);have b5:(put b.s (vl 21 0 0 0 [fr,0] 0)).eh.length=t.s.eh.length+1:=by simp[put,be]
 rw[be];generalize b6:put b.s (vl 21 0 0 0 [fr,0] 0)=s1 at*;have kB:Kp F (gm G L.nR) h h8:=kA.trans ((k7.gm L.nR).trans (k8.gm L.nR) (qe _ _)) fA;have fB:∀l,F l->fz F6 h6.next l:=λl r=>qe _ _ l (fA l r);clear kA k7 k8 q6 q7 s7;refine ee q8.pN (ee q8.D.Au (ee q8.wE (ee q8.D.Au (ee q8.D.ok.len ?_))));show cP CS fq [.I s1.known.length,.ptr L.nR 0,.ptr L.lr 0] h8 _;refine M4 q8 ho n8 (by omega) λC l9 o9 k9 q9 b7 i1 i2=>⟨k9.next,ee i1 (ee i2 ?_)⟩
 have i2:eQ (.ptr l9 o9) C=some (.I ((fK ops s1).1:Nat)):=i2;have q9:Dq (fz F6 h6.next) G C L ops {b with s:=(fK ops s1).2} R8:=q9;have n9:=n8.one (ops:=ops);have bf:(fK ops s1).2.eh.length=t.s.eh.length+1:=b5;show xE (jG 3 1 2 (V.I 0) [(0,V.I ((fK ops s1).1:Nat)),(1,V.I t.s.eh.length)]) C _;have eW:∀s:Ds,fK ops s=((fK ops s).1,(fK ops s).2):=λ_=>rfl;generalize b8:(fK ops s1).2=sg at*;generalize b9:(fK ops s1).1=g at*;rw[e3,hV];obtain⟨E,bg,Nb⟩:=Fh q9 [g,t.s.eh.length];have g10:(C.new (.cells 3 1 true false (hZ [g,t.s.eh.length]))).get C.next=_:=fj _ _;refine ee (eP g t.s.eh.length _) ⟨⟨g10,O.iK _ _ _ _ _⟩,iL i2 (fo _ b7),E.D.Au,E.pN,?_⟩;generalize C.new (.cells 3 1 true false (hZ [g,t.s.eh.length]))=cF at*;refine MV E n9 (by omega) (vl 21 0 0 0 [g,t.s.eh.length] 0) bg rfl λbh R11 ag _ ah=>⟨ag.next,?_⟩
 have bi:=n9.put (vl 21 0 0 0 [g,t.s.eh.length] 0);have bj:(put sg (vl 21 0 0 0 [g,t.s.eh.length] 0)).eh.length=t.s.eh.length+2:=by simp[put,bf]
 have K6:(({b with s:=sg}:Dt).s.eh.length:Nat)=t.s.eh.length+1:=bf;rw[K6];generalize ca:put sg (vl 21 0 0 0 [g,t.s.eh.length] 0)=s2 at*;have ah:Dq (fz (fz F6 h6.next) C.next) G bh L ops {b with s:=s2} R11:=ah;have kC:Kp F (gm G L.nR) h bh:=kB.trans (k9.trans ((Nb.gm L.nR).trans (ag.gm L.nR) (qe _ _)) λ_ h=>h) fB;have fC:∀l,F l->fz (fz F6 h6.next) C.next l:=λl r=>qe _ _ l (fB l r);clear kB k9 Nb ag q8 q9 E bg;generalize fz (fz F6 h6.next) C.next=FC at*;refine WN ah bi (by omega) [t.s.eh.length,t.s.eh.length+1] (by simp) (by simp) (e3 _ _) λcb R12 cd u=>?_;have ai:=bi.app [t.s.eh.length,t.s.eh.length+1];have bm:({s2 with known:=s2.known++[t.s.eh.length,t.s.eh.length+1]}:Ds).eh.length=t.s.eh.length+2:=bj;have u:Dq FC G cb L ops {b with s:={s2 with known:=s2.known++[t.s.eh.length,t.s.eh.length+1]} } R12:=u;generalize ce:({s2 with known:=s2.known++[t.s.eh.length,t.s.eh.length+1]}:Ds)=s3 at*;have ai:Sm s3 (n+4):=ai;refine ee u.pN (ee u.Jb ?_);refine MD u ho ai (by omega) λi cf R13 aj bo I J=>⟨bo.next,?_⟩
 have cg:=CB ops s3;have br:(fJ ops s3).2.eh.length=t.s.eh.length+2:=by rw[cg.1];exact bm
 have I:Dq i G cf L ops {b with s:=(fJ ops s3).2} R13:=I;have J:Sm (fJ ops s3).2 (n+4+1):=J;show oP (fV _ _ [(0,V.I 23),(5,.I ((fJ ops s3).1:Nat))]) _;generalize ci:(fJ ops s3).2=s4 at*;generalize cj:(fJ ops s3).1=sn at*;have eS:fV [(V.I 0),(V.I 0),(V.I 0),(V.I 0),V.ef,(V.I 0)] [(0,1),(1,1),(2,1),(3,1),(4,1),(5,1)] [(0,(V.I 23)),(5,.I sn)]=some (.agg (mI (vl 23 0 0 0 [] sn) .ef)):=rfl;refine ee eS ⟨I.pN,?_⟩;refine MV I J (by omega) (vl 23 0 0 0 [] sn) .nil rfl λcl R14 bt _ M=>⟨bt.next,?_⟩
 have bu:=J.put (vl 23 0 0 0 [] sn);have ab:(put s4 (vl 23 0 0 0 [] sn)).eh.length=t.s.eh.length+3:=by simp[put,br]
 have M:Dq i G cl L ops {b with s:=put s4 (vl 23 0 0 0 [] sn)} R14:=M;generalize bw:put s4 (vl 23 0 0 0 [] sn)=s5 at*;refine ee M.pN ?_;have eO:fV [(V.I 0),(V.I 0),(V.I 0),(V.I 0),V.ef,(V.I 0)] [(0,1),(1,1),(2,1),(3,1),(4,1),(5,1)] [(0,(V.I 2)),(3,(V.I 1))]=some (.agg (mI (vl 2 0 0 1 [] 0) .ef)):=rfl;refine ee eO ?_;refine MV M bu (by omega) (vl 2 0 0 1 [] 0) .nil rfl λcm R15 cn _ N=>?_;have bx:=bu.put (vl 2 0 0 1 [] 0);have w:(put s5 (vl 2 0 0 1 [] 0)).eh.length=t.s.eh.length+4:=by simp[put,ab]
 have co:(({b with s:=s5}:Dt).s.eh.length:Nat)=t.s.eh.length+3:=ab;rw[co];have N:Dq i G cm L ops {b with s:=put s5 (vl 2 0 0 1 [] 0)} R15:=N;generalize bz:put s5 (vl 2 0 0 1 [] 0)=d at*;refine ee N.pN ?_;have eUn:∀p o:Nat,fV [(V.I 0),(V.I 0),(V.I 0),(V.I 0),V.ef,(V.I 0)] [(0,1),(1,1),(2,1),(3,1),(4,1),(5,1)] [(0,(V.I 4)),(1,.I (p:Nat)),(2,.I (o:Nat))]=some (.agg (mI (vl 4 p o 0 [] 0) .ef)):=λ_ _=>rfl;refine ee (eUn _ _) ?_;refine MV N bx (by omega) (vl 4 t.s.eh.length (t.s.eh.length+3) 0 [] 0) .nil rfl λcG cH cp _ cq=>?_;have bA:=bx.put (vl 4 t.s.eh.length (t.s.eh.length+3) 0 [] 0);have cr:(({b with s:=d}:Dt).s.eh.length:Nat)=t.s.eh.length+4:=w;rw[cr];refine WN cq bA (by omega) [t.s.eh.length+4] (by simp) (by simp) rfl λct R17 cu ak=>?_;have al:=bA.app [t.s.eh.length+4];have bC:({ ({b with s:=put d (vl 4 t.s.eh.length (t.s.eh.length+3) 0 [] 0)}:Dt).s with known:=({b with s:=put d (vl 4 t.s.eh.length (t.s.eh.length+3) 0 [] 0)}:Dt).s.known++[t.s.eh.length+4]}:Ds)=jc d (vl 4 t.s.eh.length (t.s.eh.length+3) 0 [] 0):=by
  unfold jc put;simp only[w]
 have ak:Dq i G ct L ops {b with s:=jc d (vl 4 t.s.eh.length (t.s.eh.length+3) 0 [] 0)} R17:=by rw[<-bC];exact ak
 have al:Sm (jc d (vl 4 t.s.eh.length (t.s.eh.length+3) 0 [] 0)) (n+10):=by rw[<-bC];exact al.le (by simp <;> omega)
 have bD:(jc d (vl 4 t.s.eh.length (t.s.eh.length+3) 0 [] 0)).eh.length=t.s.eh.length+5:=by simp[jc,w]
 refine j8 (n:=t.blocks.length+1) (m:=1) (by omega) (by omega) ?_;refine j8 (n:=t.blocks.length+1) (m:=2) (by omega) (by omega) ?_;refine De ak (show b.blocks.length<_ by omega) 2 t.s.eh.length [t.blocks.length+2,t.blocks.length+3] 0 rfl (λ_=>rfl) λcv bE R18 cw cx cy=>?_;have bG:(({b with s:=jc d (vl 4 t.s.eh.length (t.s.eh.length+3) 0 [] 0)}:Dt).blocks.length:Nat)=t.blocks.length+1:=bX;rw[bG];have kD:Kp F (gm G L.nR) h bE:=((kC.trans ((cd.gm L.nR).trans bo λ_ h=>h) fC).trans (F':=i) ((((bt.gm L.nR).trans (cn.gm L.nR) λ_ h=>h).trans (cp.gm L.nR) λ_ h=>h).trans (cu.gm L.nR) λ_ h=>h) λl r=>aj l (fC l r)).trans (F':=i) (cx.gm L.nR) λl r=>aj l (fC l r);subst bY bZ b6 b8 b9 ca ce ci cj bw bz;exact H cv bE R18 _ (λl r=>cw l (aj l (fC l r))) kD cy al rfl bD
end
open Un
theorem KH(ops:List Int)(t:Dt):(pz ops t).eh[t.s.eh.length+1]? =some (vl 21 0 0 0 [CG ops t,t.s.eh.length] 0)/\(pz ops t).eh.length=t.s.eh.length+5:=by
 obtain⟨x,a⟩:=KW ops t;unfold pz;simp only[jc,put,a];constructor
 ·rw[Ii,Ii,SQ (by omega),wBe];rfl
 ·simp
theorem Q6(ops:List Int)(t:Dt):(kT ops t).eh[t.s.eh.length+1]? =some (vl 21 0 0 0 [CG ops t,t.s.eh.length] 0)/\t.s.eh.length+5<=(kT ops t).eh.length/\(kT ops t).known=(row ops (mG ops t).s).known:=by
 obtain ⟨f,i⟩:=KH ops t;obtain⟨_,l,c⟩:=GH ops (mG ops t).s;have e0:(mG ops t).s.eh=(pz ops t).eh:=rfl;have g:(row ops (mG ops t).s).eh[t.s.eh.length+1]? =some (vl 21 0 0 0 [CG ops t,t.s.eh.length] 0):=by
  rw[c,e0,PX (by omega)];exact f
 have h:t.s.eh.length+5<=(row ops (mG ops t).s).eh.length:=by rw[c,e0,Ec];omega
 have a:∀(s:Ds) (l:List Nat),s.eh[t.s.eh.length+1]? =some (vl 21 0 0 0 [CG ops t,t.s.eh.length] 0)->(setArgs s t.s.eh.length l).eh[t.s.eh.length+1]? =some (vl 21 0 0 0 [CG ops t,t.s.eh.length] 0):=by
  intro s l hs;show(s.eh.modify t.s.eh.length _)[t.s.eh.length+1]? =_;rw[List.getElem?_modify,hs];show some (if _ then _ else _)=_;rw[if_neg (by omega)]
 have d:=a _ [(fK ops t.s).1,t.s.eh.length+4] g;have e:t.s.eh.length+5<=(mX ops t).eh.length:=by unfold mX;rw[(DX _ _ _).1];exact h
 have b:(num ops (mX ops t) 3).2.eh=(mX ops t).eh:=rfl;unfold kT;split
 ·exact⟨a _ _ (by rw[b];exact d),by rw[(DX _ _ _).1,b];exact e,rfl⟩
 ·exact⟨by rw[b];exact d,by rw[b];exact e,rfl⟩
section
variable{F F' G G':Nat->Prop}{h h':Hp}{L:Lc}{ops:List Int}{t t':Dt}{R R':Rw}{Q:fy}
theorem nx2(x y:Nat):jG 3 1 2 (V.I 0) [(0,V.I x),(1,V.I y)]=some (.cells 3 1 true false (hZ [x,y]),λl=> .slice l 0 2):=rfl
theorem Ze(ho:ops.length<9223372036854775808){n:Nat}(hn:Sm (kT ops t) n)(an:n<880)(hb:t.blocks.length<900)(q:Dq F G h L ops {mG ops t with s:=kT ops t} R){K:Hp->Prop}
  (H:∀F' h' R',(∀l,F l->F' l)->Kp F (gm G L.nR) h h'->Dq F' G h' L ops (loop ops t) R'->Sm (loop ops t).s (n+6)->K h') :
  oP (fI 2 (.ptr L.lu 0)) λb=>
  oP (eQ b h) λc=>
  oP (fI 2 (.ptr L.lu 0)) λd=>
  oP (eQ d h) λe=>
  oP (gJ 6 e (.I ((t.s.eh.length+1:Nat):Int))) λz=>
  oP (fI 4 z) λf=>
  oP (eQ f h) λg=>
  oP (gJ 1 g (V.I 0)) λj=>
  oP (eQ j h) λo=>
  oP (eQ (.ptr L.iA 0) h) λr=>
  oP (eQ (.ptr L.iA 0) h) λu=>
  oP (fH u) λA=>
  oP (ev .sub 3 A (V.I 1)) λB=>
  oP (gJ 1 r B) λv=>
  oP (eQ v h) λw=>
  xE (jG 3 1 2 (V.I 0) [(0,o),(1,w)]) h λx C a=>
  oP (gJ 6 c (.I ((t.s.eh.length+1:Nat):Int))) λE=>
  oP (fI 4 E) λI=>
  ((a.get (h.next)=some x/\O.beq x x=true)/\
  ((eQ v a=some w)/\
  ((eQ (.ptr L.iA 0) a=some u)/\
  ((eQ (.ptr L.iA 0) a=some r)/\
  ((eQ j a=some o)/\
  ((eQ f a=some g)/\
  ((eQ d a=some e)/\
  ((eQ b a=some c)/\
  fk (gM 1 I C a) λvu h2=>
  (a.next<=h2.next/\
  oP (eQ (.ptr L.iA 0) h2) λJ=>
  oP (jy 1 J none (some (.I ((pz ops t).known.length:Nat))) h2) λM=>
  fk (gM 1 (.ptr L.iA 0) M h2) λaj h3=>
  hX (jG 3 1 1 (V.I 0) [(0,(.I ((t.blocks.length+1:Nat):Int)))]) h3 λN h4=>
  oP (fV [V.ef,(V.I 0),(V.I 0),V.ef,V.ef,(V.I 0)] [(0,1),(1,1),(2,1),(3,1),(4,1),(5,1)] [(1,(V.I 1)),(3,N)]) λP=>
  ic CS (gh (I1 L) [P]) h4 λak h5=>
  hX (jG 3 1 1 (V.I 0) [(0,(.I ((t.blocks.length+1:Nat):Int)))]) h5 λQ h6=>
  oP (fI 4 (.ptr L.jN 0)) λS=>
  fk (gM 1 S Q h6) λal h7=>
  ic CS (gh (JS L) []) h7 λam h8=>K h8))))))))):=by
 obtain⟨y1,y2,y3⟩:=Q6 ops t;have ab:=(GH ops (mG ops t).s).kl;have T:(pz ops t).known.length<=(kT ops t).known.length:=by rw[y3];exact ab
 have hk:=hn.k;have U:=hn.k0;have ac:0<(pz ops t).known.length:=by
  show 0<(_++[_]).length;simp
 have W:t.s.eh.length+1<({mG ops t with s:=kT ops t}:Dt).s.eh.length:=by show _<(kT ops t).eh.length;omega
 have eg:(kT ops t).eh[t.s.eh.length+1]'(by omega)=vl 21 0 0 0 [CG ops t,t.s.eh.length] 0:=by
  rw[hO (by omega)]at y1;exact Option.some.inj y1
 have ao:({mG ops t with s:=kT ops t}:Dt).blocks.length=t.blocks.length+2:=by simp[mG,LU,end_]
 refine ee (fe _ _ _) (ee q.D.V2 (ee (fe _ _ _) (ee q.D.V2 ?_)));obtain⟨l1,o1,w1,ae,X,i2,i3,i4⟩:=q.D.ov.read.ix W .i64;obtain⟨wa,Y,sa⟩:=i3;rw[eg]at Y sa;have ia:=i4 4 wa (by rw[Y];rfl);have X:gJ 6 R.vv (.I ((t.s.eh.length+1:Nat):Int))=some (.ptr l1 o1):=X;refine ee X (ee (fe _ _ _) (ee ia ?_));have Z:l1<h.next:=ae.elim (q.D.fl l1) λh=>(q.D.ov.wq h).2.1;obtain⟨l2,o2,u2,ag,j1,j2,j3⟩:=sa.TS (i:=0) (by simp[vl]) .i64 rfl;have aa:l2<h.next:=ag.elim (q.D.fl l2) λh=>(q.D.ov.wq h).2.1;obtain⟨rfl⟩:u2 = .I (CG ops t:Nat):=by
  have:[u2]=[V.I (CG ops t:Nat)]:=j3;simpa using this
 refine ee j1 (ee j2 ?_);obtain⟨l3,o3,ah,_,m1,m2⟩:=q.Gb (i:=(kT ops t).known.length-1) (by show _<(kT ops t).known.length;omega);have m3:eQ (.ptr l3 o3) h=some (.I ((kT ops t).known.getLastD 0:Nat)):=by rw[m2];show some (V.I (((kT ops t).known.getD _ 0:Nat):Int))=_;rw[yg _ U]
 refine ee q.D.Au (ee q.D.Au (ee q.D.ok.len (yl (by show(kT ops t).known.length<_;omega) U (ee m1 (ee m3 ?_)))));rw[nx2,hV];obtain⟨y,s1,k1⟩:=Fh q [CG ops t,(kT ops t).known.getLastD 0];have g1:(h.new (.cells 3 1 true false (hZ [CG ops t,(kT ops t).known.getLastD 0]))).get h.next=_:=fj _ _;refine ee X (ee (fe _ _ _) ?_);refine⟨⟨g1,O.iK _ _ _ _ _⟩,iL m3 (fo _ ah),y.D.Au,y.D.Au,iL j2 (fo _ aa),iL ia (fo _ Z),y.D.V2,y.D.V2,?_⟩;obtain⟨l4,h4,a1,a2,a3,a4,D4⟩:=y.D.zbp (p:=t.s.eh.length+1) W s1;have e4:V.ptr l1 (o1+4)=V.ptr l4 ((t.s.eh.length+1)*6+4):=by
  have:(V.ptr l1 o1)=V.ptr l4 ((t.s.eh.length+1)*6):=Option.some.inj (X.symm.trans a1);cases this;rfl
 rw [e4];simp only[KB,Zi,zA]at a2;rw[a2,ei];refine⟨a3,?_⟩;have q4:=TM (t':={mG ops t with s:=DO ops t}) (y.step a4 D4 (λ_ h=>h) q.gl y.hq rfl) (by
  unfold DO;rw[y3])
 have ai:Sm (DO ops t) n:=hn.setArgs _ _;refine OU q4 (m:=(pz ops t).known.length) T λh5 R5 k5 q5=>?_;have n5:Sm (cut (pz ops t).known.length (DO ops t)) n:=ai.cut ac T;refine De q5 (show({mG ops t with s:=kT ops t}:Dt).blocks.length<_ by omega) 1 0 [t.blocks.length+1] 0 rfl (λ_=>rfl) λF6 h6 R6 f6 k6 q6=>?_;refine yC q6 [t.blocks.length+1] rfl λF7 h7 R7 f7 k7 q7=>?_;have q7:=TM (t':=Qm ops t) q7 rfl;have n7:Sm (Qm ops t).s n:=n5.end_ (t:={mG ops t with s:=cut (pz ops t).known.length (DO ops t)}) _ _ _ _ _;refine EV q7 ho n7 (by omega) λF8 h8 R8 f8 k8 q8 n8=>?_;have ff:∀l,F l->F7 l:=λl hl=>f7 l (f6 l (qe _ _ l hl));refine H F8 h8 R8 (λl hl=>f8 l (ff l hl)) ?_ (TM q8 (UF ops t).symm) (by rw[UF];exact n8);have kk:=(((k1.gm L.nR).trans (a4.gm L.nR) (qe _ _)).trans (F':=fz F h.next) ((k5.gm L.nR).trans (k6.gm L.nR) λ_ h=>h) (qe _ _)).trans (F':=F6) (k7.gm L.nR) λl hl=>f6 l (qe _ _ l hl);exact kk.trans k8 ff
theorem ZK(ho:ops.length<9223372036854775808){n:Nat}(hn:Sm (pz ops t) n)(al:n<860)(hb:t.blocks.length<900)
  (q:Dq F G h L ops (end_ {LU ops t with s:=pz ops t} 2 t.s.eh.length [t.blocks.length+2,t.blocks.length+3] 0 []) R) {K:fy}
  (H:∀F' h' R',(∀l,F l->F' l)->Kp F (gm G L.nR) h h'->Dq F' G h' L ops {mG ops t with s:=kT ops t} R'->Sm (kT ops t) (n+6)->K (.I ((pz ops t).known.length:Nat)) h') :
  oP (eQ (.ptr L.iA 0) h) λx=>
  oP (fH x) λd=>
  hX (jG 3 1 1 (V.I 0) [(0,(.I ((t.blocks.length+1:Nat):Int)))]) h λy aa=>
  oP (fI 4 (.ptr L.jN 0)) λz=>
  fk (gM 1 z y aa) λaj ab=>
  ic CS (gh (JS L) []) ab λak A=>
  oP (fI 2 (.ptr L.lu 0)) λB=>
  oP (eQ B A) λC=>
  hX (jG 3 1 2 (V.I 0) [(0,(.I ((fK ops t.s).1:Nat))),(1,(.I ((t.s.eh.length+4:Nat):Int)))]) A λE ac=>
  oP (gJ 6 C (.I t.s.eh.length)) λI=>
  oP (fI 4 I) λJ=>
  fk (gM 1 J E ac) λae M=>
  oP (eQ (.ptr L.qf 0) M) λN=>
  ic CS (gh N [(V.I 3)]) M λP a=>
  oP (ev .eql 3 P (V.I 0)) λQ=>
  bP Q (
  oP (fI 2 (.ptr L.lu 0)) λe=>
  oP (eQ e a) λf=>
  oP (eQ (.ptr L.iA 0) a) λg=>
  oP (eQ (.ptr L.iA 0) a) λj=>
  oP (fH j) λS=>
  oP (ev .sub 3 S (V.I 1)) λT=>
  oP (gJ 1 g T) λm=>
  oP (eQ m a) λo=>
  xE (jG 3 1 2 (V.I 0) [(0,(.I ((fK ops t.s).1:Nat))),(1,o)]) a λu U b=>
  oP (gJ 6 f (.I t.s.eh.length)) λW=>
  oP (fI 4 W) λX=>
  ((b.get (a.next)=some u/\O.beq u u=true)/\
  ((eQ m b=some o)/\
  ((eQ (.ptr L.iA 0) b=some j)/\
  ((eQ (.ptr L.iA 0) b=some g)/\
  ((eQ e b=some f)/\
  fk (gM 1 X U b) λag Y=>
  (b.next<=Y.next/\K d Y)))))))
  (K d a):=by
 obtain⟨_,z2⟩:=KH ops t;have hk:=hn.k;have am:=hn.k0;refine ee q.D.Au (ee q.D.ok.len ?_);refine yC q [t.blocks.length+1] rfl λF1 h1 R1 f1 k1 q1=>?_;have q1:=TM (t':=mG ops t) q1 rfl;have n1:Sm (mG ops t).s n:=hn.end_ (t:={LU ops t with s:=pz ops t}) _ _ _ _ _;refine EV q1 ho n1 (by omega) λF2 h2 R2 f2 k2 q2 n2=>?_;obtain⟨_,l,v⟩:=GH ops (mG ops t).s;have e0:(mG ops t).s.eh=(pz ops t).eh:=rfl;have h4:t.s.eh.length+5<=(row ops (mG ops t).s).eh.length:=by rw[v,e0,Ec];omega
 refine ee (fe _ _ _) (ee q2.D.V2 ?_);rw[nx2,fG];obtain⟨q3,s3,k3⟩:=Fh q2 [(fK ops t.s).1,t.s.eh.length+4];obtain⟨l4,Z,a1,a2,a3,a4,D4⟩:=q3.D.zbp (p:=t.s.eh.length) (by show _<(row ops (mG ops t).s).eh.length;omega) s3;refine ee a1 (ee (fe _ _ _) ?_);simp only[KB,Zi,zA]at a2;rw[a2,ei];have q4:Dq (fz F2 h2.next) G Z L ops {mG ops t with s:=mX ops t} R2:=q3.step a4 D4 (λ_ h=>h) q.gl q3.hq rfl;have n4:Sm (mX ops t) (n+6):=n2.setArgs _ _;refine ee q4.wE ?_;show cP CS fq [.I ((3:Nat):Int),.ptr L.nR 0,.ptr L.lr 0] Z _;refine yi q4 (by decide) (by decide) ho λh5 k5 c=>?_;have c:Dq (fz F2 h2.next) G h5 L ops {mG ops t with s:=(num ops (mX ops t) 3).2} R2:=c;have n5:Sm (num ops (mX ops t) 3).2 (n+6):=n4.num 3;have ff:∀l,F l->fz F2 h2.next l:=λl v=>qe _ _ l (f2 l (f1 l v));have kk:Kp F (gm G L.nR) h h5:=(((k1.gm L.nR).trans k2 f1).trans ((k3.gm L.nR).trans (a4.gm L.nR) (qe _ _)) λl v=>f2 l (f1 l v)).trans k5 ff;show oP (ev .eql 3 (.I ((num ops (mX ops t) 3).1:Nat)) (V.I 0)) _;by_cases hd:(num ops (mX ops t) 3).1=0
 ·refine gi (gv (by omega) ?_);have e9:kT ops t=setArgs (num ops (mX ops t) 3).2 t.s.eh.length [(fK ops t.s).1,(row ops (mG ops t).s).known.getLastD 0]:=by unfold kT;rw[if_pos hd]
  have an:=n5.k;have r:=n5.k0;have ah:(num ops (mX ops t) 3).2.known=(row ops (mG ops t).s).known:=rfl;refine ee (fe _ _ _) (ee c.D.V2 ?_);obtain⟨l3,o3,ai,_,m1,m2⟩:=c.Gb (i:=(num ops (mX ops t) 3).2.known.length-1) (by show _<(num ops (mX ops t) 3).2.known.length;omega);have m3:eQ (.ptr l3 o3) h5=some (.I ((row ops (mG ops t).s).known.getLastD 0:Nat)):=by
   rw[m2,<-ah];show some (V.I (((num ops (mX ops t) 3).2.known.getD _ 0:Nat):Int))=_;rw[yg _ r]
  refine ee c.D.Au (ee c.D.Au (ee c.D.ok.len (yl (by show(num ops (mX ops t) 3).2.known.length<_;omega) r (ee m1 (ee m3 ?_)))));rw[nx2,hV];obtain⟨w,s6,k6⟩:=Fh c [(fK ops t.s).1,(row ops (mG ops t).s).known.getLastD 0];have g6:(h5.new (.cells 3 1 true false (hZ [(fK ops t.s).1,(row ops (mG ops t).s).known.getLastD 0]))).get h5.next=_:=fj _ _;obtain⟨l7,h7,b1,b2,b3,b4,D7⟩:=w.D.zbp (p:=t.s.eh.length) (by
   show _<(mX ops t).eh.length;unfold mX;rw[(DX _ _ _).1];omega) s6
  refine ee b1 (ee (fe _ _ _) ?_);refine⟨⟨g6,O.iK _ _ _ _ _⟩,iL m3 (fo _ ai),w.D.Au,w.D.Au,w.D.V2,?_⟩;simp only[KB,Zi,zA]at b2;rw[b2,ei];have q7:=TM (t':={mG ops t with s:=kT ops t}) (w.step b4 D7 (λ_ h=>h) q.gl w.hq rfl) (by rw[e9]);refine⟨b3,H _ _ _ (λl v=>qe _ _ l (ff l v)) (kk.trans ((k6.gm L.nR).trans (b4.gm L.nR) (qe _ _)) ff) q7 ?_⟩;rw[e9];exact n5.setArgs _ _
 ·refine gi (gg (by omega) ?_);have e9:kT ops t=(num ops (mX ops t) 3).2:=by unfold kT;rw[if_neg hd]
  exact H _ _ _ ff kk (TM c (by rw[e9])) (by rw[e9];exact n5)
end
open Un
def uC(u:U)(v b s:V):List V:=[.I u.func,.I u.pc,v,b,s]
def eUn:ri U where
 sz:=5
 rel F h u cs:=∃v b s,cs=uC u v b s/\iq eV F h u.eh v/\iq eK F h u.blocks b/\iq eT F h u.en s
 len:=λ⟨_,_,_,h,_⟩=>by subst h;rfl
 one:=λ⟨_,_,_,h,a,c,d⟩=>by subst h;simp only[uC,ey,a.one,c.one,d.one];rfl
 fm:=λe ⟨v,n,p,h,a,c,d⟩=>⟨v,n,p,h,a.fm e,c.fm e,d.fm e⟩
 mono:=λf ⟨v,n,p,h,a,c,d⟩=>⟨v,n,p,h,a.mono f,c.mono f,d.mono f⟩
theorem YY(ops:List Int)(t:Dt):(fork ops t).blocks.length=t.blocks.length+3:=by simp[fork,end_]
theorem Zz(ops:List Int)(t:Dt):(yp ops t).blocks.length=t.blocks.length+2:=by simp[yp,end_]
theorem Zf(ops:List Int)(t:Dt):(loop ops t).blocks.length=t.blocks.length+3:=by simp[loop,end_]
section
variable{F F' G G':Nat->Prop}{h h':Hp}{L:Lc}{ops:List Int}{t t':Dt}{R R':Rw}{Q:fy}
theorem zdg{a:List Int}{vo vs nv:V}{b:Nat}(B:ops.length<9223372036854775808)(q:Dq F G h L ops t R)(hn:Sm t.s 30)(hb:t.blocks.length=0)(C:h.get L.lr=some (.cells QN 1 true false [vo,vs,nv]))(aa:iq (eI .i64) F h a vs)
  (ak:G b) (ab:b≠L.nR) (ac:∃c,h.get b=some (.cells 30 1 true false c)/\c.length=5)
  (H:∀F' h' R' d,(∀l,F l->F' l)->Kp F (gm G L.nR) h h'->Dq F' G h' L ops d R'->d=end_ {lW ops (a.take 6) t with s:=(fJ ops (lW ops (a.take 6) t).s).2} 3 0 [] (fJ ops (lW ops (a.take 6) t).s).1 []->
   fk (gM 5 (.ptr b 0) (.agg [.I 1,.I 2,R'.vv,R'.vb,R'.vs]) h') λ_ f=>oP (fY 5 (.ptr b 0) f) λr=>Q r f) :
  pb CS Q (.ptr L.lr 0) (.ptr b 0) (.ptr L.lu 0) (.ptr L.iA 0) (.ptr L.jN 0) (.ptr L.zL 0) (.ptr L.qf 0) (.ptr L.Ua 0) (JS L) (I1 L) (.I 0) h:=by
 refine CM (λk O P S T U W n o p u v h'=>∃(F':Nat->Prop) (R':Rw) (i:Nat) (t':Dt),O = .ptr L.lr 0/\P = .ptr b 0/\S = .ptr L.lu 0/\T = .ptr L.iA 0/\U = .ptr L.jN 0/\W = .ptr L.zL 0/\
  n = .ptr L.qf 0/\o = .ptr L.Ua 0/\p=JS L/\u=I1 L/\v = .I i/\i+k=6/\(∀l,F l->F' l)/\Kp F (gm G L.nR) h h'/\Dq F' G h' L ops t' R'/\Sm t'.s (30+30*i)/\t'.blocks.length<=3*i/\
  lW ops ((a.take 6).drop i) t' = lW ops (a.take 6) t) ?_ (k:=6)
  ⟨F,R,0,t,rfl,rfl,rfl,rfl,rfl,rfl,rfl,rfl,rfl,rfl,rfl,rfl,λ_ h=>h,Kp.refl _ _ _,q,hn,by omega,by rw[Yr]⟩
 rintro k O P S T U W n o p u v h' ⟨F1,R1,i,d,rfl,rfl,rfl,rfl,rfl,rfl,rfl,rfl,rfl,rfl,rfl,al,E,X,z,Y,b1,I⟩;unfold vD;have J:h'.get L.lr=some (.cells QN 1 true false [vo,vs,nv]):=by rw[X.fm _ (.inl q.fr)];exact C
 have K:eQ (.ptr L.lr 1) h' = some vs:=lQ J rfl;have lv:=z.D.ov.len;have M:iq (eI .i64) F h' a vs:=aa.fm λl j=>X.fm l (.inl j);refine ee (fe _ _ _) (ee K (ee M.len (ee (jO _ _ _ _) ?_)));have e1:kv (.bool (decide (((i:Nat):Int)<(a.length:Nat)))) (oB (some (V.I i)) λae=>ev .lss 3 ae (V.I 6))=some (.bool (decide (((i:Nat):Int)<(a.length:Nat))&&decide (((i:Nat):Int)<6))):=by
  simp only[fi,jO,ke]
 refine ee e1 ?_
 have e2:kv (.bool (decide (((i:Nat):Int)<(a.length:Nat))&&decide (((i:Nat):Int)<6))) (oB (fI 2 (.ptr L.lu 0)) λag=>oB (eQ ag h') λah=>oB (fH ah) λai=>ev .lss 3 ai (V.I 160)) =
   some (.bool ((decide (((i:Nat):Int)<(a.length:Nat))&&decide (((i:Nat):Int)<6))&&decide (((d.s.eh.length:Nat):Int)<160))):=by
  simp only[fe,fi,zA,z.D.V2,lv,jO,ke]
 refine ee e2 (jd ?_);by_cases hgo:i<a.length/\i<6/\d.s.eh.length<160;rotate_left
 ·
  refine gg (by simp only[vR,BP];omega) ?_;have N:d=lW ops (a.take 6) t:=by
   rw[<-I];by_cases hi:i<(a.take 6).length
   ·rw[Ys hi];unfold lW;rw[if_neg];rw[Ip]at hi;omega
   ·rw[List.drop_of_length_le (by omega)];rfl
  subst N;refine ee z.Jb ?_;refine MD z B Y (by omega) λm f R2 g w x y=>?_;have eB:∀sn:Nat,fV [V.ef,(V.I 0),(V.I 0),V.ef,V.ef,(V.I 0)] [(0,1),(1,1),(2,1),(3,1),(4,1),(5,1)] [(1,(V.I 3)),(5,.I (sn:Nat))]=some (.agg (kE ⟨[],3,0,[],[],sn⟩ .ef .ef .ef)):=λ_=>rfl;refine ee (eB _) ?_;refine SW x (show(lW ops (a.take 6) t).blocks.length<_ by omega) ⟨[],3,0,[],[],_⟩ rfl rfl rfl .nil λF3 h3 R3 Z k3 q3=>?_;have lA:fY 5 (.ptr L.lu 0) h3=some (.agg [.I 1,.I 2,R3.vv,R3.vb,R3.vs]):=CJ q3.D.gu rfl;refine ee lA ?_;have kk:=(X.trans w E).trans (k3.gm L.nR) λl j=>g l (E l j);exact H F3 h3 R3 _ (λl j=>Z l (g l (E l j))) kk q3 rfl
 obtain⟨g1,g2,g3⟩:=hgo;refine gv (by simp only[vR,BP];omega) ?_;obtain⟨l4,o4,u4,_,i1,i2,i3⟩:=M.TS g1 .i64 rfl;obtain⟨rfl⟩:u4 = .I a[i]:=by simpa using i3.1
 refine ee (fe _ _ _) (ee K (ee i1 (ee i2 ?_)));show cP CS iM [.I a[i],.I ((3:Nat):Int)] h' _;refine Lw (by decide) (by decide) ?_;have aj:i<(a.take 6).length:=by rw[Ip];omega
 have A:lW ops ((a.take 6).drop (i+1)) (uE ops (mK a[i] 3) d)=lW ops (a.take 6) t:=by
  rw[<-I,Ys aj]
  conv=>rhs;unfold lW
  rw[if_pos g3,List.getElem_take]
 have fin:∀(m:Nat->Prop) (f:Hp) (R2:Rw),(∀l,F1 l->m l)->Kp F1 (gm G L.nR) h' f->Dq m G f L ops (uE ops (mK a[i] 3) d) R2->Sm (uE ops (mK a[i] 3) d).s (30+30*i+30)->(uE ops (mK a[i] 3) d).blocks.length<=3*(i+1)->
   jY CS Q (λO P S T U W n o p u v hh=>∃k',k' < k/\∃(F':Nat->Prop) (R':Rw) (i:Nat) (t':Dt),O = .ptr L.lr 0/\P = .ptr b 0/\S = .ptr L.lu 0/\T = .ptr L.iA 0/\U = .ptr L.jN 0/\W = .ptr L.zL 0/\
    n = .ptr L.qf 0/\o = .ptr L.Ua 0/\p=JS L/\u=I1 L/\v = .I i/\i+k' = 6/\(∀l,F l->F' l)/\Kp F (gm G L.nR) h hh/\Dq F' G hh L ops t' R'/\Sm t'.s (30+30*i)/\t'.blocks.length<=3*i/\
    lW ops ((a.take 6).drop i) t' = lW ops (a.take 6) t) (.ptr L.lr 0) (.ptr b 0) (.ptr L.lu 0) (.ptr L.iA 0) (.ptr L.jN 0) (.ptr L.zL 0) (.ptr L.qf 0) (.ptr L.Ua 0) (JS L) (I1 L) (.I i) f:=by
  intro m f R2 g w x y b2;refine BH ?_;unfold tR;refine fM ?_;exact⟨k-1,by omega,m,R2,i+1,_,rfl,rfl,rfl,rfl,rfl,rfl,rfl,rfl,rfl,rfl,rfl,by omega,λl j=>g l (E l j),X.trans w E,x,y,b2,A⟩
 by_cases c0:mK a[i] 3=0
 ·refine gi (gv (by omega) ?_);have e:uE ops (mK a[i] 3) d=fork ops d:=by unfold uE;rw[if_pos c0]
  rw[e]at fin;refine YP z B Y (by omega) (by omega) λm f R2 g w x y=>?_;exact fin m f R2 g w x y (by rw[YY];omega)
 refine gi (gg (by omega) ?_);by_cases c1:mK a[i] 3=1
 ·refine gi (gv (by omega) ?_);have e:uE ops (mK a[i] 3) d=loop ops d:=by unfold uE;rw[if_neg c0,if_pos c1]
  rw[e]at fin;refine Zb z B Y (by omega) (by omega) λm f R2 s6 g w x y e6 _=>?_;subst e6;refine ZK B y (by omega) (by omega) x λF3 h3 R3 Z k3 q3 n3=>?_;refine B8 ?_;unfold tG;refine Ze B n3 (by omega) (by omega) q3 λF4 h4 R4 f4 k4 q4 n4=>?_;exact fin F4 h4 R4 (λl j=>f4 l (Z l (g l j))) ((w.trans k3 g).trans k4 λl j=>Z l (g l j)) q4 (n4.le (by omega)) (by rw[Zf];omega)
 ·refine gi (gg (by omega) ?_);have e:uE ops (mK a[i] 3) d=yp ops d:=by unfold uE;rw[if_neg c0,if_neg c1]
  rw[e]at fin;refine YG z B Y (by omega) (by omega) λm f R2 g w x y=>?_;exact fin m f R2 g w x y (by rw[Zz];omega)
end
