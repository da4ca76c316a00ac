/- Parts. -/
import Derived.Test.YtpnddokajmjpbaaDoorM21
namespace Go.Proofs.YtpnddokajmjpbaaDoor.Hx
open Go.Proofs.YtpnddokajmjpbaaDoor.Un
section
variable{F F' G G':Nat->Prop}{h h':Hp}{L:Lc}{ops:List Int}{t t':Dt}{R R':Rw}{Q:QP1}
theorem Sm.app {s:Ds}{n:Nat}(a:Sm s n)(ys:List Nat):Sm {s with known:=s.known++ys} (n+ys.length):=
 ⟨by have:=a.v;show s.vals.length<=_;omega,by have:=a.c;show s.cur.length<=_;omega,by have:=a.k;show(s.known++ys).length<=_;rw[wAM];omega,by have:=a.st;show s.states.length<=_;omega,by have:=a.k0;show 0<(s.known++ys).length;rw[wAM];omega⟩
theorem BT:∀ys:List Nat,allOne (nats ys)=true
 |[]=>rfl
 |y::ys=>by show allOne (V.int .i64 y::nats ys)=true;rw[ee,BT ys];rfl
theorem HT (q:Dq F G h L ops t R){n:Nat}(f:Sm t.s n)(g:n<1000)(ys:List Nat)(i:0<ys.length)(j:ys.length<=5){ps:Option (O×(Nat->V))}(m:ps=some (O.cells 3 1 true false (nats ys),λl=> .slice l 0 ys.length)){K:Hp->Prop}
  (H:∀h' R',Kp F G h h'->Dq F G h' L ops {t with s:={t.s with known:=t.s.known++ys} } R'->K h') :
  oP (pLd (.ptr L.lkn 0) h) λa=>alP ps h λv o=>valP (happend 3 1 8 a v o) λw p=>valP (pSt 1 (.ptr L.lkn 0) w p) λ_ b=>K b:=by
 subst m;refine d9 q.D.ldK ?_;rw[ev];have r:=q.D.grow (Chg.new h (.cells 3 1 true false (nats ys)));have d:(nats ys).length=ys.length:=by simp[nats]
 obtain⟨new,u,x⟩:=vN (n:=ys.length) (off:=0) (sz:=1) (ef h (.cells 3 1 true false (nats ys))) (by rw[d];omega);have y:new=nats ys:=by rw[x,wBT,wA1 (by omega)]
 subst y;have E:=f.k;have z:allOne (nats ys)=true:=BT ys;obtain⟨A,b,I,a1,a2,a3,a4,B,C⟩:=r.appK (ys:=ys) u (qB _ _ ys) (by rw[d];omega) z i (by omega);have c:happend 3 1 8 R.vk (.slice h.next 0 ys.length) (h.new (.cells 3 1 true false (nats ys)))=some (.val A b):=a1;rw[c,ec,a3,ec];have e:=(q.D.kpNew (.cells 3 1 true false (nats ys))).trans B λ_ h=>h;exact H _ _ e (q.step e C (λ_ h=>h) q.gl q.hq rfl)
theorem BU (q:Dq F G h L ops t R){n:Nat}(c:Sm t.s n)(b:n<999)(x:Vl){w:V}{a:V}(d:SlR eN F h x.args a)(e:w = .agg (vlC x a)){K:QP1}
  (H:∀h' R',Kp F G h h'->R'.vk=R.vk->Dq F G h' L ops {t with s:=put t.s x} R'->K (.int .i64 t.s.vals.length) h'):calP CS (hcall (fPut L) [w]) h K:=by
 subst e;show cP CS eo [.agg (vlC x a),.ptr L.lu 0,.ptr L.lbl 0] h K;exact ze q c b ⟨a,rfl,d⟩ H
def loop1 (ops:List Int)(t:Dt):Dt:=end_ {t with s:=(one_ ops t.s).2} 1 0 [t.blocks.length+1] 0 [t.blocks.length,t.blocks.length+2]
def loopS1 (ops:List Int)(t:Dt):Ds:=put (loop1 ops t).s (vl 21 0 0 0 [(one_ ops t.s).1,0] 0)
def loopG (ops:List Int)(t:Dt):Nat:=(one_ ops (loopS1 ops t)).1
def loopS2 (ops:List Int)(t:Dt):Ds:=put (one_ ops (loopS1 ops t)).2 (vl 21 0 0 0 [loopG ops t,t.s.vals.length] 0)
def loopS3 (ops:List Int)(t:Dt):Ds:={loopS2 ops t with known:=(loopS2 ops t).known++[t.s.vals.length,t.s.vals.length+1]}
def loopS4 (ops:List Int)(t:Dt):Ds:=put (stateM ops (loopS3 ops t)).2 (vl 23 0 0 0 [] (stateM ops (loopS3 ops t)).1)
def loopS6 (ops:List Int)(t:Dt):Ds:=putK (put (loopS4 ops t) (vl 2 0 0 1 [] 0)) (vl 4 t.s.vals.length (t.s.vals.length+3) 0 [] 0)
def loop2 (ops:List Int)(t:Dt):Dt:=end_ {loop1 ops t with s:=loopS6 ops t} 2 t.s.vals.length [t.blocks.length+2,t.blocks.length+3] 0 [t.blocks.length+1]
def loopS8 (ops:List Int)(t:Dt):Ds:=setArgs (row ops (loop2 ops t).s) t.s.vals.length [(one_ ops t.s).1,t.s.vals.length+4]
def loopS9 (ops:List Int)(t:Dt):Ds:=if(num ops (loopS8 ops t) 3).1=0 then setArgs (num ops (loopS8 ops t) 3).2 t.s.vals.length [(one_ ops t.s).1,(row ops (loop2 ops t).s).known.getLastD 0] else(num ops (loopS8 ops t) 3).2
def loopS10 (ops:List Int)(t:Dt):Ds:=setArgs (loopS9 ops t) (t.s.vals.length+1) [loopG ops t,(row ops (loop2 ops t).s).known.getLastD 0]
def loop3 (ops:List Int)(t:Dt):Dt:=end_ {loop2 ops t with s:=cut (loopS6 ops t).known.length (loopS10 ops t)} 1 0 [t.blocks.length+1] 0 [t.blocks.length+1]
theorem As (ops:List Int)(t:Dt):∃x,(loopS4 ops t).vals=t.s.vals++[vl 21 0 0 0 [(one_ ops t.s).1,0] 0,vl 21 0 0 0 [loopG ops t,t.s.vals.length] 0,x]:=by
 refine⟨vl 23 0 0 0 [] (stateM ops (loopS3 ops t)).1,?_⟩;unfold loopS4;rw[put,(uQ ops (loopS3 ops t)).1];show(loopS2 ops t).vals++[_]=_;unfold loopS2;show((loopS1 ops t).vals++[_])++[_]=_;unfold loopS1;show(((loop1 ops t).s.vals++[_])++[_])++[_]=_;simp only[wAU,List.singleton_append,wBC,wAl];rfl
theorem FJ (ops:List Int)(t:Dt):loop ops t = {loop3 ops t with s:=row ops (loop3 ops t).s}:=by
 obtain⟨x,a⟩:=As ops t;have e:(loopS4 ops t).vals.length=t.s.vals.length+3:=by rw[a];simp
 unfold loop3 loopS10 loopS9 loopS8 loop2 loopS6;rw[show t.s.vals.length+4=(t.s.vals.length+3)+1 from rfl,<-e];rfl
theorem IY (q:Dq F G h L ops t R)(ho:ops.length<9223372036854775808){n:Nat}(hn:Sm t.s n)(cF:n<800)(hb:t.blocks.length<900){K:QP6}
  (H:∀F' h' R' d,(∀l,F l->F' l)->Kp F (gm G L.lat) h h'->Dq F' G h' L ops (end_ {loop1 ops t with s:=d} 2 t.s.vals.length [t.blocks.length+2,t.blocks.length+3] 0 []) R'->Sm d (n+10)->
   d=loopS6 ops t->
   d.vals.length=t.s.vals.length+5->
   K (.int .i64 ((one_ ops t.s).1:Nat)) (.int .i64 (t.blocks.length+1:Nat)) (.int .i64 t.s.vals.length) (.int .i64 ((t.s.vals.length+1:Nat):Int)) (.int .i64 ((t.s.vals.length+4:Nat):Int)) (.int .i64 ((t.blocks.length+1:Nat):Int)) h') :
  oP (pLd (.ptr L.lkn 0) h) λP=>
  oP (pLd (.ptr L.lnext 0) h) λan=>
  oP (pLd (.ptr L.lkn 0) h) λao=>
  oP (pLen ao) λap=>
  calP CS (hcall an [ap]) h λaq j=>
  (h.next<=j.next/\
  oP (pIx 1 P aq) λar=>
  oP (pLd ar j) λQ=>
  ((pLd (.ptr L.lkn 0) j=some P)/\
  oP (pFA 3 (.ptr L.lu 0)) λau=>
  oP (pLd au j) λaw=>
  oP (pLen aw) λax=>
  oP (hbin .add 3 ax (V.int .i64 1)) λay=>
  alP (pBS 3 1 1 (V.int .i64 0) [(0,ay)]) j λaA bE=>
  oP (pBuild [V.nilSlice,(V.int .i64 0),(V.int .i64 0),V.nilSlice,V.nilSlice,(V.int .i64 0)] [(0,1),(1,1),(2,1),(3,1),(4,1),(5,1)] [(1,(V.int .i64 1)),(3,aA)]) λaB=>
  calP CS (hcall (fEnd L) [aB]) bE λS bG=>
  oP (hbin .add 3 S (V.int .i64 1)) λc=>
  oP (hbin .add 3 c (V.int .i64 1)) λaC=>
  alP (pBS 3 1 2 (V.int .i64 0) [(0,S),(1,aC)]) bG λaD bH=>
  oP (pFA 4 (.ptr L.lbl 0)) λaE=>
  valP (pSt 1 aE aD bH) λcB aF=>
  oP (pLd (.ptr L.lput 0) aF) λaG=>
  alP (pBS 3 1 2 (V.int .i64 0) [(0,Q),(1,(V.int .i64 0))]) aF λaH bI=>
  oP (pBuild [(V.int .i64 0),(V.int .i64 0),(V.int .i64 0),(V.int .i64 0),V.nilSlice,(V.int .i64 0)] [(0,1),(1,1),(2,1),(3,1),(4,1),(5,1)] [(0,(V.int .i64 21)),(4,aH)]) λaI=>
  calP CS (hcall aG [aI]) bI λa e=>
  oP (pLd (.ptr L.lput 0) e) λT=>
  oP (pLd (.ptr L.lkn 0) e) λU=>
  oP (pLd (.ptr L.lnext 0) e) λaJ=>
  oP (pLd (.ptr L.lkn 0) e) λaK=>
  oP (pLen aK) λaL=>
  calP CS (hcall aJ [aL]) e λaM z=>
  (e.next<=z.next/\
  oP (pIx 1 U aM) λW=>
  oP (pLd W z) λX=>
  alO (pBS 3 1 2 (V.int .i64 0) [(0,X),(1,a)]) z λo9 aN f=>
  oP (pBuild [(V.int .i64 0),(V.int .i64 0),(V.int .i64 0),(V.int .i64 0),V.nilSlice,(V.int .i64 0)] [(0,1),(1,1),(2,1),(3,1),(4,1),(5,1)] [(0,(V.int .i64 21)),(4,aN)]) λaO=>
  ((f.get (z.next)=some o9/\O.beq o9 o9=true)/\
  ((pLd W f=some X)/\
  ((pLd (.ptr L.lkn 0) f=some U)/\
  ((pLd (.ptr L.lput 0) f=some T)/\
  calP CS (hcall T [aO]) f λY ac=>
  (f.next<=ac.next/\
  oP (pLd (.ptr L.lkn 0) ac) λaP=>
  alP (pBS 3 1 2 (V.int .i64 0) [(0,a),(1,Y)]) ac λaQ bJ=>
  valP (happend 3 1 8 aP aQ bJ) λaR bK=>
  valP (pSt 1 (.ptr L.lkn 0) aR bK) λcC A=>
  oP (pLd (.ptr L.lput 0) A) λZ=>
  oP (pLd (.ptr L.lst 0) A) λaS=>
  calP CS (hcall aS []) A λaT B=>
  (A.next<=B.next/\
  oP (pBuild [(V.int .i64 0),(V.int .i64 0),(V.int .i64 0),(V.int .i64 0),V.nilSlice,(V.int .i64 0)] [(0,1),(1,1),(2,1),(3,1),(4,1),(5,1)] [(0,(V.int .i64 23)),(5,aT)]) λaU=>
  ((pLd (.ptr L.lput 0) B=some Z)/\
  calP CS (hcall Z [aU]) B λcD ae=>
  (B.next<=ae.next/\
  oP (pLd (.ptr L.lput 0) ae) λaV=>
  oP (pBuild [(V.int .i64 0),(V.int .i64 0),(V.int .i64 0),(V.int .i64 0),V.nilSlice,(V.int .i64 0)] [(0,1),(1,1),(2,1),(3,1),(4,1),(5,1)] [(0,(V.int .i64 2)),(3,(V.int .i64 1))]) λaW=>
  calP CS (hcall aV [aW]) ae λaX aY=>
  oP (pLd (.ptr L.lput 0) aY) λaZ=>
  oP (pBuild [(V.int .i64 0),(V.int .i64 0),(V.int .i64 0),(V.int .i64 0),V.nilSlice,(V.int .i64 0)] [(0,1),(1,1),(2,1),(3,1),(4,1),(5,1)] [(0,(V.int .i64 4)),(1,a),(2,aX)]) λa5=>
  calP CS (hcall aZ [a5]) aY λaa a6=>
  oP (pLd (.ptr L.lkn 0) a6) λa7=>
  alP (pBS 3 1 1 (V.int .i64 0) [(0,aa)]) a6 λa8 bL=>
  valP (happend 3 1 8 a7 a8 bL) λa9 bQ=>
  valP (pSt 1 (.ptr L.lkn 0) a9 bQ) λcE bR=>
  oP (hbin .add 3 c (V.int .i64 1)) λba=>
  oP (hbin .add 3 c (V.int .i64 2)) λbb=>
  alP (pBS 3 1 2 (V.int .i64 0) [(0,ba),(1,bb)]) bR λbc bS=>
  oP (pBuild [V.nilSlice,(V.int .i64 0),(V.int .i64 0),V.nilSlice,V.nilSlice,(V.int .i64 0)] [(0,1),(1,1),(2,1),(3,1),(4,1),(5,1)] [(1,(V.int .i64 2)),(2,a),(3,bc)]) λbd=>
  calP CS (hcall (fEnd L) [bd]) bS λbe bU=>K Q c a Y aa be bU)))))))))))
   :=by
 have cG:=hn.k0;have hk:=hn.k;have hv:=hn.v;refine EB q ho hn (by omega) λh2 k2 q2=>?_;refine d9 (ed _ _ _) (d9 q2.D.ldB (d9 q2.D.ob.len (gj (m:=1) (show t.blocks.length<_ by omega) (by omega) ?_)));have n2:Sm (one_ ops t.s).2 n:=hn.one;refine uX q2 (show t.blocks.length<_ by omega) 1 0 [t.blocks.length+1] 0 rfl (λ_=>rfl) λF4 h4 R4 f4 k4 q4=>?_;refine gj (n:=t.blocks.length) (m:=1) (by omega) (by omega) ?_;refine gj (n:=t.blocks.length+1) (m:=1) (by omega) (by omega) ?_;refine qW q4 [t.blocks.length,t.blocks.length+2] rfl λF6 h6 R6 f6 k6 q6=>?_;have q6:=pkg (t':=end_ {t with s:=(one_ ops t.s).2} 1 0 [t.blocks.length+1] 0 [t.blocks.length,t.blocks.length+2]) q6 rfl;have n6:Sm (end_ {t with s:=(one_ ops t.s).2} 1 0 [t.blocks.length+1] 0 [t.blocks.length,t.blocks.length+2]).s n:=n2.end_ (t:={t with s:=(one_ ops t.s).2}) _ _ _ _ _;have bV:(end_ {t with s:=(one_ ops t.s).2} 1 0 [t.blocks.length+1] 0 [t.blocks.length,t.blocks.length+2]).blocks.length=t.blocks.length+1:=by simp[end_]
 have bf:(end_ {t with s:=(one_ ops t.s).2} 1 0 [t.blocks.length+1] 0 [t.blocks.length,t.blocks.length+2]).s.vals.length=t.s.vals.length:=rfl;have kA:=kgm k2 (k4.trans k6 f4) λ_ h=>h;have fA:∀l,F l->F6 l:=λl r=>f6 l (f4 l r);generalize bW:end_ {t with s:=(one_ ops t.s).2} 1 0 [t.blocks.length+1] 0 [t.blocks.length,t.blocks.length+2]=b at*;clear q2 q4 k2 k4 k6;generalize bX:(one_ ops t.s).1=fr at*;refine d9 q6.ldPut ?_;have e3:∀x y:Nat,pBS 3 1 2 (V.int .i64 0) [(0,V.int .i64 (x:Nat)),(1,V.int .i64 (y:Nat))]=some (.cells 3 1 true false (nats [x,y]),λl=> .slice l 0 2):=λ_ _=>rfl;have bY:pBS 3 1 2 (V.int .i64 0) [(0,V.int .i64 fr),(1,V.int .i64 0)]=some (.cells 3 1 true false (nats [fr,0]),λl=> .slice l 0 2):=e3 fr 0;rw[bY,ev];obtain⟨q7,s7,k7⟩:=wT q6 [fr,0];generalize h6.new (.cells 3 1 true false (nats [fr,0]))=h7 at*;have eP:∀(x y n:Nat),pBuild [(V.int .i64 0),(V.int .i64 0),(V.int .i64 0),(V.int .i64 0),V.nilSlice,(V.int .i64 0)] [(0,1),(1,1),(2,1),(3,1),(4,1),(5,1)] [(0,(V.int .i64 21)),(4,.slice n 0 2)]=some (.agg (vlC (vl 21 0 0 0 [x,y] 0) (.slice n 0 2))):=λ_ _ _=>rfl;refine d9 (eP fr 0 _) ?_;refine BU q7 n6 (by omega) (vl 21 0 0 0 [fr,0] 0) s7 rfl λh8 R8 k8 _ q8=>?_;have n8:=n6.put (vl 21 0 0 0 [fr,0] 0);have bZ:(put b.s (vl 21 0 0 0 [fr,0] 0)).vals.length=t.s.vals.length+1:=by simp[put,bf]
 rw[bf];generalize b4:put b.s (vl 21 0 0 0 [fr,0] 0)=s1 at*;have kB:Kp F (gm G L.lat) h h8:=kA.trans ((k7.gm L.lat).trans (k8.gm L.lat) (kr _ _)) fA;have fB:∀l,F l->fz F6 h6.next l:=λl r=>kr _ _ l (fA l r);clear kA k7 k8 q6 q7 s7;refine d9 q8.ldPut (d9 q8.D.ldK (d9 q8.ldNext (d9 q8.D.ldK (d9 q8.D.ok.len ?_))));show cP CS eh [.int .i64 s1.known.length,.ptr L.lat 0,.ptr L.lr 0] h8 _;refine A8 q8 ho n8 (by omega) λC l9 o9 k9 q9 b5 i1 i2=>⟨k9.next,d9 i1 (d9 i2 ?_)⟩
 have i2:pLd (.ptr l9 o9) C=some (.int .i64 ((one_ ops s1).1:Nat)):=i2;have q9:Dq (fz F6 h6.next) G C L ops {b with s:=(one_ ops s1).2} R8:=q9;have n9:=n8.one (ops:=ops);have bg:(one_ ops s1).2.vals.length=t.s.vals.length+1:=bZ;show alO (pBS 3 1 2 (V.int .i64 0) [(0,V.int .i64 ((one_ ops s1).1:Nat)),(1,V.int .i64 t.s.vals.length)]) C _;have eW:∀s:Ds,one_ ops s=((one_ ops s).1,(one_ ops s).2):=λ_=>rfl;generalize b6:(one_ ops s1).2=sg at*;generalize b7:(one_ ops s1).1=g at*;rw[e3,fD];obtain⟨E,bh,bi⟩:=wT q9 [g,t.s.vals.length];have b8:(C.new (.cells 3 1 true false (nats [g,t.s.vals.length]))).get C.next=_:=ef _ _;refine d9 (eP g t.s.vals.length _) ⟨⟨b8,O.beq_cells _ _ _ _ _⟩,gQ i2 (er _ b5),E.D.ldK,E.ldPut,?_⟩;generalize C.new (.cells 3 1 true false (nats [g,t.s.vals.length]))=cH at*;refine BU E n9 (by omega) (vl 21 0 0 0 [g,t.s.vals.length] 0) bh rfl λbj R11 ag _ ah=>⟨ag.next,?_⟩
 have bm:=n9.put (vl 21 0 0 0 [g,t.s.vals.length] 0);have bn:(put sg (vl 21 0 0 0 [g,t.s.vals.length] 0)).vals.length=t.s.vals.length+2:=by simp[put,bg]
 have b9:(({b with s:=sg}:Dt).s.vals.length:Nat)=t.s.vals.length+1:=bg;rw[b9];generalize ca:put sg (vl 21 0 0 0 [g,t.s.vals.length] 0)=s2 at*;have ah:Dq (fz (fz F6 h6.next) C.next) G bj L ops {b with s:=s2} R11:=ah;have kC:Kp F (gm G L.lat) h bj:=kB.trans (k9.trans ((bi.gm L.lat).trans (ag.gm L.lat) (kr _ _)) λ_ h=>h) fB;have fC:∀l,F l->fz (fz F6 h6.next) C.next l:=λl r=>kr _ _ l (fB l r);clear kB k9 bi ag q8 q9 E bh;generalize fz (fz F6 h6.next) C.next=FC at*;refine HT ah bm (by omega) [t.s.vals.length,t.s.vals.length+1] (by simp) (by simp) (e3 _ _) λcb R12 cd u=>?_;have ai:=bm.app [t.s.vals.length,t.s.vals.length+1];have bo:({s2 with known:=s2.known++[t.s.vals.length,t.s.vals.length+1]}:Ds).vals.length=t.s.vals.length+2:=bn;have u:Dq FC G cb L ops {b with s:={s2 with known:=s2.known++[t.s.vals.length,t.s.vals.length+1]} } R12:=u;generalize ce:({s2 with known:=s2.known++[t.s.vals.length,t.s.vals.length+1]}:Ds)=s3 at*;have ai:Sm s3 (n+4):=ai;refine d9 u.ldPut (d9 u.ldState ?_);refine Bo u ho ai (by omega) λi cf R13 aj bp I J=>⟨bp.next,?_⟩
 have cg:=uQ ops s3;have bq:(stateM ops s3).2.vals.length=t.s.vals.length+2:=by rw[cg.1];exact bo
 have I:Dq i G cf L ops {b with s:=(stateM ops s3).2} R13:=I;have J:Sm (stateM ops s3).2 (n+4+1):=J;show oP (pBuild _ _ [(0,V.int .i64 23),(5,.int .i64 ((stateM ops s3).1:Nat))]) _;generalize ci:(stateM ops s3).2=s4 at*;generalize cj:(stateM ops s3).1=sn at*;have eS:pBuild [(V.int .i64 0),(V.int .i64 0),(V.int .i64 0),(V.int .i64 0),V.nilSlice,(V.int .i64 0)] [(0,1),(1,1),(2,1),(3,1),(4,1),(5,1)] [(0,(V.int .i64 23)),(5,.int .i64 sn)]=some (.agg (vlC (vl 23 0 0 0 [] sn) .nilSlice)):=rfl;refine d9 eS ⟨I.ldPut,?_⟩;refine BU I J (by omega) (vl 23 0 0 0 [] sn) .nil rfl λcl R14 br _ M=>⟨br.next,?_⟩
 have bt:=J.put (vl 23 0 0 0 [] sn);have ab:(put s4 (vl 23 0 0 0 [] sn)).vals.length=t.s.vals.length+3:=by simp[put,bq]
 have M:Dq i G cl L ops {b with s:=put s4 (vl 23 0 0 0 [] sn)} R14:=M;generalize bu:put s4 (vl 23 0 0 0 [] sn)=s5 at*;refine d9 M.ldPut ?_;have eO:pBuild [(V.int .i64 0),(V.int .i64 0),(V.int .i64 0),(V.int .i64 0),V.nilSlice,(V.int .i64 0)] [(0,1),(1,1),(2,1),(3,1),(4,1),(5,1)] [(0,(V.int .i64 2)),(3,(V.int .i64 1))]=some (.agg (vlC (vl 2 0 0 1 [] 0) .nilSlice)):=rfl;refine d9 eO ?_;refine BU M bt (by omega) (vl 2 0 0 1 [] 0) .nil rfl λcm cn co _ N=>?_;have bv:=bt.put (vl 2 0 0 1 [] 0);have w:(put s5 (vl 2 0 0 1 [] 0)).vals.length=t.s.vals.length+4:=by simp[put,ab]
 have cp:(({b with s:=s5}:Dt).s.vals.length:Nat)=t.s.vals.length+3:=ab;rw[cp];have N:Dq i G cm L ops {b with s:=put s5 (vl 2 0 0 1 [] 0)} cn:=N;generalize bw:put s5 (vl 2 0 0 1 [] 0)=d at*;refine d9 N.ldPut ?_;have eUn:∀p o:Nat,pBuild [(V.int .i64 0),(V.int .i64 0),(V.int .i64 0),(V.int .i64 0),V.nilSlice,(V.int .i64 0)] [(0,1),(1,1),(2,1),(3,1),(4,1),(5,1)] [(0,(V.int .i64 4)),(1,.int .i64 (p:Nat)),(2,.int .i64 (o:Nat))]=some (.agg (vlC (vl 4 p o 0 [] 0) .nilSlice)):=λ_ _=>rfl;refine d9 (eUn _ _) ?_;refine BU N bv (by omega) (vl 4 t.s.vals.length (t.s.vals.length+3) 0 [] 0) .nil rfl λcI cJ cq _ cr=>?_;have bx:=bv.put (vl 4 t.s.vals.length (t.s.vals.length+3) 0 [] 0);have ct:(({b with s:=d}:Dt).s.vals.length:Nat)=t.s.vals.length+4:=w;rw[ct];refine HT cr bx (by omega) [t.s.vals.length+4] (by simp) (by simp) rfl λcu cv cw al=>?_;have am:=bx.app [t.s.vals.length+4];have bz:({ ({b with s:=put d (vl 4 t.s.vals.length (t.s.vals.length+3) 0 [] 0)}:Dt).s with known:=({b with s:=put d (vl 4 t.s.vals.length (t.s.vals.length+3) 0 [] 0)}:Dt).s.known++[t.s.vals.length+4]}:Ds)=putK d (vl 4 t.s.vals.length (t.s.vals.length+3) 0 [] 0):=by
  unfold putK put;simp only[w]
 have al:Dq i G cu L ops {b with s:=putK d (vl 4 t.s.vals.length (t.s.vals.length+3) 0 [] 0)} cv:=by rw[<-bz];exact al
 have am:Sm (putK d (vl 4 t.s.vals.length (t.s.vals.length+3) 0 [] 0)) (n+10):=by rw[<-bz];exact am.le (by simp <;> omega)
 have bA:(putK d (vl 4 t.s.vals.length (t.s.vals.length+3) 0 [] 0)).vals.length=t.s.vals.length+5:=by simp[putK,w]
 refine gj (n:=t.blocks.length+1) (m:=1) (by omega) (by omega) ?_;refine gj (n:=t.blocks.length+1) (m:=2) (by omega) (by omega) ?_;refine uX al (show b.blocks.length<_ by omega) 2 t.s.vals.length [t.blocks.length+2,t.blocks.length+3] 0 rfl (λ_=>rfl) λcx bC R18 cy cz cA=>?_;have bD:(({b with s:=putK d (vl 4 t.s.vals.length (t.s.vals.length+3) 0 [] 0)}:Dt).blocks.length:Nat)=t.blocks.length+1:=bV;rw[bD];have kD:Kp F (gm G L.lat) h bC:=((kC.trans ((cd.gm L.lat).trans bp λ_ h=>h) fC).trans (F':=i) ((((br.gm L.lat).trans (co.gm L.lat) λ_ h=>h).trans (cq.gm L.lat) λ_ h=>h).trans (cw.gm L.lat) λ_ h=>h) λl r=>aj l (fC l r)).trans (F':=i) (cz.gm L.lat) λl r=>aj l (fC l r);subst bW bX b4 b6 b7 ca ce ci cj bu bw;exact H cx bC R18 _ (λl r=>cy l (aj l (fC l r))) kD cA am rfl bA
end
open Go.Proofs.YtpnddokajmjpbaaDoor.Un
theorem Ay (ops:List Int)(t:Dt):(loopS6 ops t).vals[t.s.vals.length+1]? =some (vl 21 0 0 0 [loopG ops t,t.s.vals.length] 0)/\(loopS6 ops t).vals.length=t.s.vals.length+5:=by
 obtain⟨x,a⟩:=As ops t;unfold loopS6;simp only[putK,put,a];constructor
 ·rw[wAU,wAU,wAn (by omega),wCE];rfl
 ·simp
theorem DA (ops:List Int)(t:Dt):(loopS9 ops t).vals[t.s.vals.length+1]? =some (vl 21 0 0 0 [loopG ops t,t.s.vals.length] 0)/\t.s.vals.length+5<=(loopS9 ops t).vals.length/\(loopS9 ops t).known=(row ops (loop2 ops t).s).known:=by
 obtain ⟨f,i⟩:=Ay ops t;obtain⟨_,l,c⟩:=xC ops (loop2 ops t).s;have e0:(loop2 ops t).s.vals=(loopS6 ops t).vals:=rfl;have g:(row ops (loop2 ops t).s).vals[t.s.vals.length+1]? =some (vl 21 0 0 0 [loopG ops t,t.s.vals.length] 0):=by
  rw[c,e0,wAd (by omega)];exact f
 have h:t.s.vals.length+5<=(row ops (loop2 ops t).s).vals.length:=by rw[c,e0,wAM];omega
 have a:∀(s:Ds) (l:List Nat),s.vals[t.s.vals.length+1]? =some (vl 21 0 0 0 [loopG ops t,t.s.vals.length] 0)->(setArgs s t.s.vals.length l).vals[t.s.vals.length+1]? =some (vl 21 0 0 0 [loopG ops t,t.s.vals.length] 0):=by
  intro s l hs;show(s.vals.modify t.s.vals.length _)[t.s.vals.length+1]? =_;rw[wB5,hs];show some (if _ then _ else _)=_;rw[if_neg (by omega)]
 have d:=a _ [(one_ ops t.s).1,t.s.vals.length+4] g;have e:t.s.vals.length+5<=(loopS8 ops t).vals.length:=by unfold loopS8;rw[(vQ _ _ _).1];exact h
 have b:(num ops (loopS8 ops t) 3).2.vals=(loopS8 ops t).vals:=rfl;unfold loopS9;split
 ·exact⟨a _ _ (by rw[b];exact d),by rw[(vQ _ _ _).1,b];exact e,rfl⟩
 ·exact⟨by rw[b];exact d,by rw[b];exact e,rfl⟩
section
variable{F F' G G':Nat->Prop}{h h':Hp}{L:Lc}{ops:List Int}{t t':Dt}{R R':Rw}{Q:QP1}
theorem nx2 (x y:Nat):pBS 3 1 2 (V.int .i64 0) [(0,V.int .i64 x),(1,V.int .i64 y)]=some (.cells 3 1 true false (nats [x,y]),λl=> .slice l 0 2):=rfl
theorem Jo (ho:ops.length<9223372036854775808){n:Nat}(hn:Sm (loopS9 ops t) n)(ao:n<880)(hb:t.blocks.length<900)(q:Dq F G h L ops {loop2 ops t with s:=loopS9 ops t} R){K:Hp->Prop}
  (H:∀F' h' R',(∀l,F l->F' l)->Kp F (gm G L.lat) h h'->Dq F' G h' L ops (loop ops t) R'->Sm (loop ops t).s (n+6)->K h') :
  oP (pFA 2 (.ptr L.lu 0)) λb=>
  oP (pLd b h) λc=>
  oP (pFA 2 (.ptr L.lu 0)) λd=>
  oP (pLd d h) λe=>
  oP (pIx 6 e (.int .i64 ((t.s.vals.length+1:Nat):Int))) λz=>
  oP (pFA 4 z) λf=>
  oP (pLd f h) λg=>
  oP (pIx 1 g (V.int .i64 0)) λj=>
  oP (pLd j h) λo=>
  oP (pLd (.ptr L.lkn 0) h) λr=>
  oP (pLd (.ptr L.lkn 0) h) λu=>
  oP (pLen u) λA=>
  oP (hbin .sub 3 A (V.int .i64 1)) λB=>
  oP (pIx 1 r B) λv=>
  oP (pLd v h) λw=>
  alO (pBS 3 1 2 (V.int .i64 0) [(0,o),(1,w)]) h λx C a=>
  oP (pIx 6 c (.int .i64 ((t.s.vals.length+1:Nat):Int))) λE=>
  oP (pFA 4 E) λI=>
  ((a.get (h.next)=some x/\O.beq x x=true)/\
  ((pLd v a=some w)/\
  ((pLd (.ptr L.lkn 0) a=some u)/\
  ((pLd (.ptr L.lkn 0) a=some r)/\
  ((pLd j a=some o)/\
  ((pLd f a=some g)/\
  ((pLd d a=some e)/\
  ((pLd b a=some c)/\
  valP (pSt 1 I C a) λvu h2=>
  (a.next<=h2.next/\
  oP (pLd (.ptr L.lkn 0) h2) λJ=>
  oP (hsliceV 1 J none (some (.int .i64 ((loopS6 ops t).known.length:Nat))) h2) λM=>
  valP (pSt 1 (.ptr L.lkn 0) M h2) λaj h3=>
  alP (pBS 3 1 1 (V.int .i64 0) [(0,(.int .i64 ((t.blocks.length+1:Nat):Int)))]) h3 λN h4=>
  oP (pBuild [V.nilSlice,(V.int .i64 0),(V.int .i64 0),V.nilSlice,V.nilSlice,(V.int .i64 0)] [(0,1),(1,1),(2,1),(3,1),(4,1),(5,1)] [(1,(V.int .i64 1)),(3,N)]) λP=>
  calP CS (hcall (fEnd L) [P]) h4 λal h5=>
  alP (pBS 3 1 1 (V.int .i64 0) [(0,(.int .i64 ((t.blocks.length+1:Nat):Int)))]) h5 λQ h6=>
  oP (pFA 4 (.ptr L.lbl 0)) λS=>
  valP (pSt 1 S Q h6) λam h7=>
  calP CS (hcall (fRow L) []) h7 λan h8=>K h8))))))))):=by
 obtain⟨y1,y2,y3⟩:=DA ops t;have ab:=(xC ops (loop2 ops t).s).kl;have T:(loopS6 ops t).known.length<=(loopS9 ops t).known.length:=by rw[y3];exact ab
 have hk:=hn.k;have U:=hn.k0;have ac:0<(loopS6 ops t).known.length:=by
  show 0<(_++[_]).length;simp
 have W:t.s.vals.length+1<({loop2 ops t with s:=loopS9 ops t}:Dt).s.vals.length:=by show _<(loopS9 ops t).vals.length;omega
 have eg:(loopS9 ops t).vals[t.s.vals.length+1]'(by omega)=vl 21 0 0 0 [loopG ops t,t.s.vals.length] 0:=by
  rw[wAA (by omega)]at y1;exact Option.some.inj y1
 have ap:({loop2 ops t with s:=loopS9 ops t}:Dt).blocks.length=t.blocks.length+2:=by simp[loop2,loop1,end_]
 refine d9 (ed _ _ _) (d9 q.D.ldV (d9 (ed _ _ _) (d9 q.D.ldV ?_)));obtain⟨l1,o1,w1,ae,X,i2,i3,i4⟩:=q.D.ov.read.ix W .i64;obtain⟨wa,Y,sa⟩:=i3;rw[eg]at Y sa;have ia:=i4 4 wa (by rw[Y];rfl);have X:pIx 6 R.vv (.int .i64 ((t.s.vals.length+1:Nat):Int))=some (.ptr l1 o1):=X;refine d9 X (d9 (ed _ _ _) (d9 ia ?_));have Z:l1<h.next:=ae.elim (q.D.fl l1) λh=>(q.D.ov.tyOf h).2.1;obtain⟨l2,o2,u2,ag,j1,j2,j3⟩:=sa.ix1 (i:=0) (by simp[vl]) .i64 rfl;have aa:l2<h.next:=ag.elim (q.D.fl l2) λh=>(q.D.ov.tyOf h).2.1;obtain⟨rfl⟩:u2 = .int .i64 (loopG ops t:Nat):=by
  have:[u2]=[V.int .i64 (loopG ops t:Nat)]:=j3;simpa using this
 refine d9 j1 (d9 j2 ?_);obtain⟨l3,o3,ah,_,m1,m2⟩:=q.knownAt (i:=(loopS9 ops t).known.length-1) (by show _<(loopS9 ops t).known.length;omega);have m3:pLd (.ptr l3 o3) h=some (.int .i64 ((loopS9 ops t).known.getLastD 0:Nat)):=by rw[m2];show some (V.int .i64 (((loopS9 ops t).known.getD _ 0:Nat):Int))=_;rw[qu _ U]
 refine d9 q.D.ldK (d9 q.D.ldK (d9 q.D.ok.len (qt (by show(loopS9 ops t).known.length<_;omega) U (d9 m1 (d9 m3 ?_)))));rw[nx2,fD];obtain⟨y,s1,k1⟩:=wT q [loopG ops t,(loopS9 ops t).known.getLastD 0];have g1:(h.new (.cells 3 1 true false (nats [loopG ops t,(loopS9 ops t).known.getLastD 0]))).get h.next=_:=ef _ _;refine d9 X (d9 (ed _ _ _) ?_);refine⟨⟨g1,O.beq_cells _ _ _ _ _⟩,gQ m3 (er _ ah),y.D.ldK,y.D.ldK,gQ j2 (er _ aa),gQ ia (er _ Z),y.D.ldV,y.D.ldV,?_⟩;obtain⟨l4,h4,a1,a2,a3,a4,D4⟩:=y.D.setA (p:=t.s.vals.length+1) W s1;have e4:V.ptr l1 (o1+4)=V.ptr l4 ((t.s.vals.length+1)*6+4):=by
  have:(V.ptr l1 o1)=V.ptr l4 ((t.s.vals.length+1)*6):=Option.some.inj (X.symm.trans a1);cases this;rfl
 rw [e4];simp only[wAX,wBe,wAY]at a2;rw[a2,ec];refine⟨a3,?_⟩;have q4:=pkg (t':={loop2 ops t with s:=loopS10 ops t}) (y.step a4 D4 (λ_ h=>h) q.gl y.hq rfl) (by
  unfold loopS10;rw[y3])
 have ai:Sm (loopS10 ops t) n:=hn.setArgs _ _;refine CN q4 (m:=(loopS6 ops t).known.length) T λh5 R5 k5 q5=>?_;have n5:Sm (cut (loopS6 ops t).known.length (loopS10 ops t)) n:=ai.cut ac T;refine uX q5 (show({loop2 ops t with s:=loopS9 ops t}:Dt).blocks.length<_ by omega) 1 0 [t.blocks.length+1] 0 rfl (λ_=>rfl) λF6 h6 R6 f6 k6 q6=>?_;refine qW q6 [t.blocks.length+1] rfl λF7 h7 R7 f7 k7 q7=>?_;have q7:=pkg (t':=loop3 ops t) q7 rfl;have n7:Sm (loop3 ops t).s n:=n5.end_ (t:={loop2 ops t with s:=cut (loopS6 ops t).known.length (loopS10 ops t)}) _ _ _ _ _;refine wD q7 ho n7 (by omega) λF8 h8 R8 f8 k8 q8 n8=>?_;have ff:∀l,F l->F7 l:=λl hl=>f7 l (f6 l (kr _ _ l hl));refine H F8 h8 R8 (λl hl=>f8 l (ff l hl)) ?_ (pkg q8 (FJ ops t).symm) (by rw[FJ];exact n8);have kk:=(((k1.gm L.lat).trans (a4.gm L.lat) (kr _ _)).trans (F':=fz F h.next) ((k5.gm L.lat).trans (k6.gm L.lat) λ_ h=>h) (kr _ _)).trans (F':=F6) (k7.gm L.lat) λl hl=>f6 l (kr _ _ l hl);exact kk.trans k8 ff
theorem IW (ho:ops.length<9223372036854775808){n:Nat}(hn:Sm (loopS6 ops t) n)(am:n<860)(hb:t.blocks.length<900)
  (q:Dq F G h L ops (end_ {loop1 ops t with s:=loopS6 ops t} 2 t.s.vals.length [t.blocks.length+2,t.blocks.length+3] 0 []) R) {K:QP1}
  (H:∀F' h' R',(∀l,F l->F' l)->Kp F (gm G L.lat) h h'->Dq F' G h' L ops {loop2 ops t with s:=loopS9 ops t} R'->Sm (loopS9 ops t) (n+6)->K (.int .i64 ((loopS6 ops t).known.length:Nat)) h') :
  oP (pLd (.ptr L.lkn 0) h) λx=>
  oP (pLen x) λd=>
  alP (pBS 3 1 1 (V.int .i64 0) [(0,(.int .i64 ((t.blocks.length+1:Nat):Int)))]) h λy aa=>
  oP (pFA 4 (.ptr L.lbl 0)) λz=>
  valP (pSt 1 z y aa) λaj ab=>
  calP CS (hcall (fRow L) []) ab λal A=>
  oP (pFA 2 (.ptr L.lu 0)) λB=>
  oP (pLd B A) λC=>
  alP (pBS 3 1 2 (V.int .i64 0) [(0,(.int .i64 ((one_ ops t.s).1:Nat))),(1,(.int .i64 ((t.s.vals.length+4:Nat):Int)))]) A λE ac=>
  oP (pIx 6 C (.int .i64 t.s.vals.length)) λI=>
  oP (pFA 4 I) λJ=>
  valP (pSt 1 J E ac) λae M=>
  oP (pLd (.ptr L.lnext 0) M) λN=>
  calP CS (hcall N [(V.int .i64 3)]) M λP a=>
  oP (hbin .eql 3 P (V.int .i64 0)) λQ=>
  bP Q (
  oP (pFA 2 (.ptr L.lu 0)) λe=>
  oP (pLd e a) λf=>
  oP (pLd (.ptr L.lkn 0) a) λg=>
  oP (pLd (.ptr L.lkn 0) a) λj=>
  oP (pLen j) λS=>
  oP (hbin .sub 3 S (V.int .i64 1)) λT=>
  oP (pIx 1 g T) λm=>
  oP (pLd m a) λo=>
  alO (pBS 3 1 2 (V.int .i64 0) [(0,(.int .i64 ((one_ ops t.s).1:Nat))),(1,o)]) a λu U b=>
  oP (pIx 6 f (.int .i64 t.s.vals.length)) λW=>
  oP (pFA 4 W) λX=>
  ((b.get (a.next)=some u/\O.beq u u=true)/\
  ((pLd m b=some o)/\
  ((pLd (.ptr L.lkn 0) b=some j)/\
  ((pLd (.ptr L.lkn 0) b=some g)/\
  ((pLd e b=some f)/\
  valP (pSt 1 X U b) λag Y=>
  (b.next<=Y.next/\K d Y)))))))
  (K d a):=by
 obtain⟨_,z2⟩:=Ay ops t;have hk:=hn.k;have an:=hn.k0;refine d9 q.D.ldK (d9 q.D.ok.len ?_);refine qW q [t.blocks.length+1] rfl λF1 h1 R1 f1 k1 q1=>?_;have q1:=pkg (t':=loop2 ops t) q1 rfl;have n1:Sm (loop2 ops t).s n:=hn.end_ (t:={loop1 ops t with s:=loopS6 ops t}) _ _ _ _ _;refine wD q1 ho n1 (by omega) λF2 h2 R2 f2 k2 q2 n2=>?_;obtain⟨_,l,v⟩:=xC ops (loop2 ops t).s;have e0:(loop2 ops t).s.vals=(loopS6 ops t).vals:=rfl;have h4:t.s.vals.length+5<=(row ops (loop2 ops t).s).vals.length:=by rw[v,e0,wAM];omega
 refine d9 (ed _ _ _) (d9 q2.D.ldV ?_);rw[nx2,ev];obtain⟨q3,s3,k3⟩:=wT q2 [(one_ ops t.s).1,t.s.vals.length+4];obtain⟨l4,Z,a1,a2,a3,a4,D4⟩:=q3.D.setA (p:=t.s.vals.length) (by show _<(row ops (loop2 ops t).s).vals.length;omega) s3;refine d9 a1 (d9 (ed _ _ _) ?_);simp only[wAX,wBe,wAY]at a2;rw[a2,ec];have q4:Dq (fz F2 h2.next) G Z L ops {loop2 ops t with s:=loopS8 ops t} R2:=q3.step a4 D4 (λ_ h=>h) q.gl q3.hq rfl;have n4:Sm (loopS8 ops t) (n+6):=n2.setArgs _ _;refine d9 q4.ldNext ?_;show cP CS eh [.int .i64 ((3:Nat):Int),.ptr L.lat 0,.ptr L.lr 0] Z _;refine qr q4 (by decide) (by decide) ho λh5 k5 c=>?_;have c:Dq (fz F2 h2.next) G h5 L ops {loop2 ops t with s:=(num ops (loopS8 ops t) 3).2} R2:=c;have n5:Sm (num ops (loopS8 ops t) 3).2 (n+6):=n4.num 3;have ff:∀l,F l->fz F2 h2.next l:=λl v=>kr _ _ l (f2 l (f1 l v));have kk:Kp F (gm G L.lat) h h5:=(((k1.gm L.lat).trans k2 f1).trans ((k3.gm L.lat).trans (a4.gm L.lat) (kr _ _)) λl v=>f2 l (f1 l v)).trans k5 ff;show oP (hbin .eql 3 (.int .i64 ((num ops (loopS8 ops t) 3).1:Nat)) (V.int .i64 0)) _;by_cases hd:(num ops (loopS8 ops t) 3).1=0
 ·refine fk (if_t (by omega) ?_);have e9:loopS9 ops t=setArgs (num ops (loopS8 ops t) 3).2 t.s.vals.length [(one_ ops t.s).1,(row ops (loop2 ops t).s).known.getLastD 0]:=by unfold loopS9;rw[if_pos hd]
  have ao:=n5.k;have r:=n5.k0;have ah:(num ops (loopS8 ops t) 3).2.known=(row ops (loop2 ops t).s).known:=rfl;refine d9 (ed _ _ _) (d9 c.D.ldV ?_);obtain⟨l3,o3,ai,_,m1,m2⟩:=c.knownAt (i:=(num ops (loopS8 ops t) 3).2.known.length-1) (by show _<(num ops (loopS8 ops t) 3).2.known.length;omega);have m3:pLd (.ptr l3 o3) h5=some (.int .i64 ((row ops (loop2 ops t).s).known.getLastD 0:Nat)):=by
   rw[m2,<-ah];show some (V.int .i64 (((num ops (loopS8 ops t) 3).2.known.getD _ 0:Nat):Int))=_;rw[qu _ r]
  refine d9 c.D.ldK (d9 c.D.ldK (d9 c.D.ok.len (qt (by show(num ops (loopS8 ops t) 3).2.known.length<_;omega) r (d9 m1 (d9 m3 ?_)))));rw[nx2,fD];obtain⟨w,s6,k6⟩:=wT c [(one_ ops t.s).1,(row ops (loop2 ops t).s).known.getLastD 0];have g6:(h5.new (.cells 3 1 true false (nats [(one_ ops t.s).1,(row ops (loop2 ops t).s).known.getLastD 0]))).get h5.next=_:=ef _ _;obtain⟨l7,h7,b1,b2,b3,b4,D7⟩:=w.D.setA (p:=t.s.vals.length) (by
   show _<(loopS8 ops t).vals.length;unfold loopS8;rw[(vQ _ _ _).1];omega) s6
  refine d9 b1 (d9 (ed _ _ _) ?_);refine⟨⟨g6,O.beq_cells _ _ _ _ _⟩,gQ m3 (er _ ai),w.D.ldK,w.D.ldK,w.D.ldV,?_⟩;simp only[wAX,wBe,wAY]at b2;rw[b2,ec];have q7:=pkg (t':={loop2 ops t with s:=loopS9 ops t}) (w.step b4 D7 (λ_ h=>h) q.gl w.hq rfl) (by rw[e9]);refine⟨b3,H _ _ _ (λl v=>kr _ _ l (ff l v)) (kk.trans ((k6.gm L.lat).trans (b4.gm L.lat) (kr _ _)) ff) q7 ?_⟩;rw[e9];exact n5.setArgs _ _
 ·refine fk (if_f (by omega) ?_);have e9:loopS9 ops t=(num ops (loopS8 ops t) 3).2:=by unfold loopS9;rw[if_neg hd]
  exact H _ _ _ ff kk (pkg c (by rw[e9])) (by rw[e9];exact n5)
end
open Go.Proofs.YtpnddokajmjpbaaDoor.Un
def uC (u:U)(v b s:V):List V:=[.int .i64 u.func,.int .i64 u.pc,v,b,s]
def eUn:Enc U where
 sz:=5
 rel F h u cs:=∃v b s,cs=uC u v b s/\SlR eV F h u.vals v/\SlR eK F h u.blocks b/\SlR eT F h u.states s
 len:=λ⟨_,_,_,h,_⟩=>by subst h;rfl
 one:=λ⟨_,_,_,h,a,c,d⟩=>by subst h;simp only[uC,ee,a.one,c.one,d.one];rfl
 keep:=λe ⟨v,n,p,h,a,c,d⟩=>⟨v,n,p,h,a.keep e,c.keep e,d.keep e⟩
 mono:=λf ⟨v,n,p,h,a,c,d⟩=>⟨v,n,p,h,a.mono f,c.mono f,d.mono f⟩
theorem IG (ops:List Int)(t:Dt):(fork ops t).blocks.length=t.blocks.length+3:=by simp[fork,end_]
theorem Jq (ops:List Int)(t:Dt):(qJ ops t).blocks.length=t.blocks.length+2:=by simp[qJ,end_]
theorem Jc (ops:List Int)(t:Dt):(loop ops t).blocks.length=t.blocks.length+3:=by simp[loop,end_]
section
variable{F F' G G':Nat->Prop}{h h':Hp}{L:Lc}{ops:List Int}{t t':Dt}{R R':Rw}{Q:QP1}
theorem Kl {a:List Int}{vo vs nv:V}{b:Nat}(B:ops.length<9223372036854775808)(q:Dq F G h L ops t R)(hn:Sm t.s 30)(hb:t.blocks.length=0)(C:h.get L.lr=some (.cells tyRaw 1 true false [vo,vs,nv]))(aa:SlR (eI .i64) F h a vs)
  (al:G b) (ab:b≠L.lat) (ac:∃c,h.get b=some (.cells 30 1 true false c)/\c.length=5)
  (H:∀F' h' R' d,(∀l,F l->F' l)->Kp F (gm G L.lat) h h'->Dq F' G h' L ops d R'->d=end_ {shapes ops (a.take 6) t with s:=(stateM ops (shapes ops (a.take 6) t).s).2} 3 0 [] (stateM ops (shapes ops (a.take 6) t).s).1 []->
   valP (pSt 5 (.ptr b 0) (.agg [.int .i64 1,.int .i64 2,R'.vv,R'.vb,R'.vs]) h') λ_ f=>oP (pLdA 5 (.ptr b 0) f) λr=>Q r f) :
  jz CS Q (.ptr L.lr 0) (.ptr b 0) (.ptr L.lu 0) (.ptr L.lkn 0) (.ptr L.lbl 0) (.ptr L.lput 0) (.ptr L.lnext 0) (.ptr L.lst 0) (fRow L) (fEnd L) (.int .i64 0) h:=by
 refine uS (λk O P S T U W n o p u v h'=>∃(F':Nat->Prop) (R':Rw) (i:Nat) (t':Dt),O = .ptr L.lr 0/\P = .ptr b 0/\S = .ptr L.lu 0/\T = .ptr L.lkn 0/\U = .ptr L.lbl 0/\W = .ptr L.lput 0/\
  n = .ptr L.lnext 0/\o = .ptr L.lst 0/\p=fRow L/\u=fEnd L/\v = .int .i64 i/\i+k=6/\(∀l,F l->F' l)/\Kp F (gm G L.lat) h h'/\Dq F' G h' L ops t' R'/\Sm t'.s (30+30*i)/\t'.blocks.length<=3*i/\
  shapes ops ((a.take 6).drop i) t' = shapes ops (a.take 6) t) ?_ (k:=6)
  ⟨F,R,0,t,rfl,rfl,rfl,rfl,rfl,rfl,rfl,rfl,rfl,rfl,rfl,rfl,λ_ h=>h,Kp.refl _ _ _,q,hn,by omega,by rw[wBT]⟩
 rintro k O P S T U W n o p u v h' ⟨F1,R1,i,d,rfl,rfl,rfl,rfl,rfl,rfl,rfl,rfl,rfl,rfl,rfl,am,E,X,z,Y,b1,I⟩;unfold oR;have J:h'.get L.lr=some (.cells tyRaw 1 true false [vo,vs,nv]):=by rw[X.keep _ (.inl q.fr)];exact C
 have K:pLd (.ptr L.lr 1) h' = some vs:=gZ J rfl;have lv:=z.D.ov.len;have M:SlR (eI .i64) F h' a vs:=aa.keep λl j=>X.keep l (.inl j);refine d9 (ed _ _ _) (d9 K (d9 M.len (d9 (j4 _ _ _ _) ?_)));have e1:pAnd (.bool (decide (((i:Nat):Int)<(a.length:Nat)))) (oB (some (V.int .i64 i)) λae=>hbin .lss 3 ae (V.int .i64 6))=some (.bool (decide (((i:Nat):Int)<(a.length:Nat))&&decide (((i:Nat):Int)<6))):=by
  simp only[en,j4,gv]
 refine d9 e1 ?_
 have e2:pAnd (.bool (decide (((i:Nat):Int)<(a.length:Nat))&&decide (((i:Nat):Int)<6))) (oB (pFA 2 (.ptr L.lu 0)) λag=>oB (pLd ag h') λah=>oB (pLen ah) λai=>hbin .lss 3 ai (V.int .i64 160)) =
   some (.bool ((decide (((i:Nat):Int)<(a.length:Nat))&&decide (((i:Nat):Int)<6))&&decide (((d.s.vals.length:Nat):Int)<160))):=by
  simp only[ed,en,wAY,z.D.ldV,lv,j4,gv]
 refine d9 e2 (st_b ?_);by_cases hgo:i<a.length/\i<6/\d.s.vals.length<160;rotate_left
 ·
  refine if_f (by simp only[wAJ,wAe];omega) ?_;have N:d=shapes ops (a.take 6) t:=by
   rw[<-I];by_cases hi:i<(a.take 6).length
   ·rw[wBE hi];unfold shapes;rw[if_neg];rw[wAc]at hi;omega
   ·rw[List.drop_of_length_le (by omega)];rfl
  subst N;refine d9 z.ldState ?_;refine Bo z B Y (by omega) λm f R2 g w x y=>?_;have eB:∀sn:Nat,pBuild [V.nilSlice,(V.int .i64 0),(V.int .i64 0),V.nilSlice,V.nilSlice,(V.int .i64 0)] [(0,1),(1,1),(2,1),(3,1),(4,1),(5,1)] [(1,(V.int .i64 3)),(5,.int .i64 (sn:Nat))]=some (.agg (bkC ⟨[],3,0,[],[],sn⟩ .nilSlice .nilSlice .nilSlice)):=λ_=>rfl;refine d9 (eB _) ?_;refine EQ x (show(shapes ops (a.take 6) t).blocks.length<_ by omega) ⟨[],3,0,[],[],_⟩ rfl rfl rfl .nil λF3 h3 R3 Z k3 q3=>?_;have lA:pLdA 5 (.ptr L.lu 0) h3=some (.agg [.int .i64 1,.int .i64 2,R3.vv,R3.vb,R3.vs]):=uL q3.D.gu rfl;refine d9 lA ?_;have kk:=(X.trans w E).trans (k3.gm L.lat) λl j=>g l (E l j);exact H F3 h3 R3 _ (λl j=>Z l (g l (E l j))) kk q3 rfl
 obtain⟨g1,g2,g3⟩:=hgo;refine if_t (by simp only[wAJ,wAe];omega) ?_;obtain⟨l4,o4,u4,_,i1,i2,i3⟩:=M.ix1 g1 .i64 rfl;obtain⟨rfl⟩:u4 = .int .i64 a[i]:=by simpa using i3.1
 refine d9 (ed _ _ _) (d9 K (d9 i1 (d9 i2 ?_)));show cP CS fK [.int .i64 a[i],.int .i64 ((3:Nat):Int)] h' _;refine Dg (by decide) (by decide) ?_;have aj:i<(a.take 6).length:=by rw[wAc];omega
 have A:shapes ops ((a.take 6).drop (i+1)) (shapeM ops (pickN a[i] 3) d)=shapes ops (a.take 6) t:=by
  rw[<-I,wBE aj]
  conv=>rhs;unfold shapes
  rw[if_pos g3,List.getElem_take]
 have fin:∀(m:Nat->Prop) (f:Hp) (R2:Rw),(∀l,F1 l->m l)->Kp F1 (gm G L.lat) h' f->Dq m G f L ops (shapeM ops (pickN a[i] 3) d) R2->Sm (shapeM ops (pickN a[i] 3) d).s (30+30*i+30)->(shapeM ops (pickN a[i] 3) d).blocks.length<=3*(i+1)->
   gg CS Q (λO P S T U W n o p u v hh=>∃k',k' < k/\∃(F':Nat->Prop) (R':Rw) (i:Nat) (t':Dt),O = .ptr L.lr 0/\P = .ptr b 0/\S = .ptr L.lu 0/\T = .ptr L.lkn 0/\U = .ptr L.lbl 0/\W = .ptr L.lput 0/\
    n = .ptr L.lnext 0/\o = .ptr L.lst 0/\p=fRow L/\u=fEnd L/\v = .int .i64 i/\i+k' = 6/\(∀l,F l->F' l)/\Kp F (gm G L.lat) h hh/\Dq F' G hh L ops t' R'/\Sm t'.s (30+30*i)/\t'.blocks.length<=3*i/\
    shapes ops ((a.take 6).drop i) t' = shapes ops (a.take 6) t) (.ptr L.lr 0) (.ptr b 0) (.ptr L.lu 0) (.ptr L.lkn 0) (.ptr L.lbl 0) (.ptr L.lput 0) (.ptr L.lnext 0) (.ptr L.lst 0) (fRow L) (fEnd L) (.int .i64 i) f:=by
  intro m f R2 g w x y b2;refine ui ?_;unfold nf;refine addOne ?_;exact⟨k-1,by omega,m,R2,i+1,_,rfl,rfl,rfl,rfl,rfl,rfl,rfl,rfl,rfl,rfl,rfl,by omega,λl j=>g l (E l j),X.trans w E,x,y,b2,A⟩
 by_cases c0:pickN a[i] 3=0
 ·refine fk (if_t (by omega) ?_);have e:shapeM ops (pickN a[i] 3) d=fork ops d:=by unfold shapeM;rw[if_pos c0]
  rw[e]at fin;refine Je z B Y (by omega) (by omega) λm f R2 g w x y=>?_;exact fin m f R2 g w x y (by rw[IG];omega)
 refine fk (if_f (by omega) ?_);by_cases c1:pickN a[i] 3=1
 ·refine fk (if_t (by omega) ?_);have e:shapeM ops (pickN a[i] 3) d=loop ops d:=by unfold shapeM;rw[if_neg c0,if_pos c1]
  rw[e]at fin;refine IY z B Y (by omega) (by omega) λm f R2 s6 g w x y e6 _=>?_;subst e6;refine IW B y (by omega) (by omega) x λF3 h3 R3 Z k3 q3 n3=>?_;refine um ?_;unfold mP;refine Jo B n3 (by omega) (by omega) q3 λF4 h4 R4 f4 k4 q4 n4=>?_;exact fin F4 h4 R4 (λl j=>f4 l (Z l (g l j))) ((w.trans k3 g).trans k4 λl j=>Z l (g l j)) q4 (n4.le (by omega)) (by rw[Jc];omega)
 ·refine fk (if_f (by omega) ?_);have e:shapeM ops (pickN a[i] 3) d=qJ ops d:=by unfold shapeM;rw[if_neg c0,if_neg c1]
  rw[e]at fin;refine I9 z B Y (by omega) (by omega) λm f R2 g w x y=>?_;exact fin m f R2 g w x y (by rw[Jq];omega)
end
