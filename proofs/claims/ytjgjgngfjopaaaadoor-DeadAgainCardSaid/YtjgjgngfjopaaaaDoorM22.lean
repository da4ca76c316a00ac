/- Parts. -/
import Derived.Test.YtjgjgngfjopaaaaDoorM21
namespace Go.Proofs.YtjgjgngfjopaaaaDoor.Hx
open Un
section
variable{F F' G G':Nat->Prop}{h h':Hp}{L:Lc}{ops:List Int}{t t':Dt}{R R':Rw}{Q:fy}
theorem Sm.app{s:Ds}{n:Nat}(a:Sm s n)(ys:List Nat):Sm {s with known:=s.known++ys} (n+ys.length):=
 ⟨by have:=a.v;show s.ef.length<=_;omega,by have:=a.c;show s.cur.length<=_;omega,by have:=a.k;show(s.known++ys).length<=_;rw[y6];omega,by have:=a.st;show s.eh.length<=_;omega,by have:=a.k0;show 0<(s.known++ys).length;rw[y6];omega⟩
theorem Mt:∀ys:List Nat,gv (hO ys)=true
 |[]=>rfl
 |y::ys=>by show gv (V.I y::hO ys)=true;rw[eQ,Mt ys];rfl
theorem Xa(q:Dq F G h L ops t R){n:Nat}(f:Sm t.s n)(g:n<1000)(ys:List Nat)(i:0<ys.length)(j:ys.length<=5){ps:Option (O×(Nat->V))}(m:ps=some (O.cells 3 1 true false (hO ys),λl=> .slice l 0 ys.length)){K:Hp->Prop}
  (H:∀h' R',Kp F G h h'->Dq F G h' L ops {t with s:={t.s with known:=t.s.known++ys} } R'->K h') :
  oP (ez (.ptr L.iu 0) h) λa=>ik ps h λv o=>fm (fe 3 1 8 a v o) λw p=>fm (gK 1 (.ptr L.iu 0) w p) λ_ b=>K b:=by
 subst m;refine ed q.D.zE ?_;rw[fE];have r:=q.D.grow (lV.new h (.cells 3 1 true false (hO ys)));have d:(hO ys).length=ys.length:=by simp[hO]
 obtain⟨new,u,x⟩:=CW (n:=ys.length) (off:=0) (sz:=1) (fi h (.cells 3 1 true false (hO ys))) (by rw[d];omega);have e3:new=hO ys:=by rw[x,Vt,X0 (by omega)]
 subst e3;have B:=f.k;have y:gv (hO ys)=true:=Mt ys;obtain⟨z,b,C,a1,a2,a3,a4,k3,A⟩:=r.zbr (ys:=ys) u (xU _ _ ys) (by rw[d];omega) y i (by omega);have c:fe 3 1 8 R.vk (.slice h.next 0 ys.length) (h.new (.cells 3 1 true false (hO ys)))=some (.val z b):=a1;rw[c,ei,a3,ei];have e:=(q.D.yI (.cells 3 1 true false (hO ys))).trans k3 λ_ h=>h;exact H _ _ e (q.step e A (λ_ h=>h) q.gl q.hq rfl)
theorem Mg(q:Dq F G h L ops t R){n:Nat}(c:Sm t.s n)(b:n<999)(x:Vl){w:V}{a:V}(d:iC eN F h x.args a)(e:w = .agg (mz x a)){K:fy}
  (H:∀h' R',Kp F G h h'->R'.vk=R.vk->Dq F G h' L ops {t with s:=put t.s x} R'->K (.I t.s.ef.length) h'):ic CS (gh (zbl L) [w]) h K:=by
 subst e;show cP CS fD [.agg (mz x a),.ptr L.lu 0,.ptr L.jA 0] h K;exact I5 q c b ⟨a,rfl,d⟩ H
def Ls(ops:List Int)(t:Dt):Dt:=end_ {t with s:=(fK ops t.s).2} 1 0 [t.blocks.length+1] 0 [t.blocks.length,t.blocks.length+2]
def Oz(ops:List Int)(t:Dt):Ds:=put (Ls ops t).s (vl 21 0 0 0 [(fK ops t.s).1,0] 0)
def B2(ops:List Int)(t:Dt):Nat:=(fK ops (Oz ops t)).1
def Of(ops:List Int)(t:Dt):Ds:=put (fK ops (Oz ops t)).2 (vl 21 0 0 0 [B2 ops t,t.s.ef.length] 0)
def Oq(ops:List Int)(t:Dt):Ds:={Of ops t with known:=(Of ops t).known++[t.s.ef.length,t.s.ef.length+1]}
def OD(ops:List Int)(t:Dt):Ds:=put (fJ ops (Oq ops t)).2 (vl 23 0 0 0 [] (fJ ops (Oq ops t)).1)
def oK(ops:List Int)(t:Dt):Ds:=iJ (put (OD ops t) (vl 2 0 0 1 [] 0)) (vl 4 t.s.ef.length (t.s.ef.length+3) 0 [] 0)
def mf(ops:List Int)(t:Dt):Dt:=end_ {Ls ops t with s:=oK ops t} 2 t.s.ef.length [t.blocks.length+2,t.blocks.length+3] 0 [t.blocks.length+1]
def mw(ops:List Int)(t:Dt):Ds:=setArgs (row ops (mf ops t).s) t.s.ef.length [(fK ops t.s).1,t.s.ef.length+4]
def kE(ops:List Int)(t:Dt):Ds:=if(num ops (mw ops t) 3).1=0 then setArgs (num ops (mw ops t) 3).2 t.s.ef.length [(fK ops t.s).1,(row ops (mf ops t).s).known.getLastD 0] else(num ops (mw ops t) 3).2
def CM(ops:List Int)(t:Dt):Ds:=setArgs (kE ops t) (t.s.ef.length+1) [B2 ops t,(row ops (mf ops t).s).known.getLastD 0]
def Q7(ops:List Int)(t:Dt):Dt:=end_ {mf ops t with s:=cut (oK ops t).known.length (CM ops t)} 1 0 [t.blocks.length+1] 0 [t.blocks.length+1]
theorem Ks(ops:List Int)(t:Dt):∃x,(OD ops t).ef=t.s.ef++[vl 21 0 0 0 [(fK ops t.s).1,0] 0,vl 21 0 0 0 [B2 ops t,t.s.ef.length] 0,x]:=by
 refine⟨vl 23 0 0 0 [] (fJ ops (Oq ops t)).1,?_⟩;unfold OD;rw[put,(Ca ops (Oq ops t)).1];show(Of ops t).ef++[_]=_;unfold Of;show((Oz ops t).ef++[_])++[_]=_;unfold Oz;show(((Ls ops t).s.ef++[_])++[_])++[_]=_;simp only[Ek,List.singleton_append,wB1,OO];rfl
theorem TJ(ops:List Int)(t:Dt):loop ops t = {Q7 ops t with s:=row ops (Q7 ops t).s}:=by
 obtain⟨x,a⟩:=Ks ops t;have e:(OD ops t).ef.length=t.s.ef.length+3:=by rw[a];simp
 unfold Q7 CM kE mw mf oK;rw[show t.s.ef.length+4=(t.s.ef.length+3)+1 from rfl,<-e];rfl
theorem YT(q:Dq F G h L ops t R)(ho:ops.length<9223372036854775808){n:Nat}(hn:Sm t.s n)(cF:n<800)(hb:t.blocks.length<900){K:Pd}
  (H:∀F' h' R' d,(∀l,F l->F' l)->Kp F (gm G L.mX) h h'->Dq F' G h' L ops (end_ {Ls ops t with s:=d} 2 t.s.ef.length [t.blocks.length+2,t.blocks.length+3] 0 []) R'->Sm d (n+10)->
   d=oK ops t->
   d.ef.length=t.s.ef.length+5->
   K (.I ((fK ops t.s).1:Nat)) (.I (t.blocks.length+1:Nat)) (.I t.s.ef.length) (.I ((t.s.ef.length+1:Nat):Int)) (.I ((t.s.ef.length+4:Nat):Int)) (.I ((t.blocks.length+1:Nat):Int)) h') :
  oP (ez (.ptr L.iu 0) h) λP=>
  oP (ez (.ptr L.pE 0) h) λam=>
  oP (ez (.ptr L.iu 0) h) λan=>
  oP (fF an) λao=>
  ic CS (gh am [ao]) h λap j=>
  (h.next<=j.next/\
  oP (gD 1 P ap) λaq=>
  oP (ez aq j) λQ=>
  ((ez (.ptr L.iu 0) j=some P)/\
  oP (fH 3 (.ptr L.lu 0)) λar=>
  oP (ez ar j) λau=>
  oP (fF au) λaw=>
  oP (eo .add 3 aw (V.I 1)) λax=>
  ik (jt 3 1 1 (V.I 0) [(0,ax)]) j λay bH=>
  oP (fV [V.ee,(V.I 0),(V.I 0),V.ee,V.ee,(V.I 0)] [(0,1),(1,1),(2,1),(3,1),(4,1),(5,1)] [(1,(V.I 1)),(3,ay)]) λaA=>
  ic CS (gh (ID L) [aA]) bH λS bI=>
  oP (eo .add 3 S (V.I 1)) λc=>
  oP (eo .add 3 c (V.I 1)) λaB=>
  ik (jt 3 1 2 (V.I 0) [(0,S),(1,aB)]) bI λaC bJ=>
  oP (fH 4 (.ptr L.jA 0)) λaD=>
  fm (gK 1 aD aC bJ) λcB aE=>
  oP (ez (.ptr L.zp 0) aE) λaF=>
  ik (jt 3 1 2 (V.I 0) [(0,Q),(1,(V.I 0))]) aE λaG bK=>
  oP (fV [(V.I 0),(V.I 0),(V.I 0),(V.I 0),V.ee,(V.I 0)] [(0,1),(1,1),(2,1),(3,1),(4,1),(5,1)] [(0,(V.I 21)),(4,aG)]) λaH=>
  ic CS (gh aF [aH]) bK λa e=>
  oP (ez (.ptr L.zp 0) e) λT=>
  oP (ez (.ptr L.iu 0) e) λU=>
  oP (ez (.ptr L.pE 0) e) λaI=>
  oP (ez (.ptr L.iu 0) e) λaJ=>
  oP (fF aJ) λaK=>
  ic CS (gh aI [aK]) e λaL z=>
  (e.next<=z.next/\
  oP (gD 1 U aL) λW=>
  oP (ez W z) λX=>
  wU (jt 3 1 2 (V.I 0) [(0,X),(1,a)]) z λo9 aM f=>
  oP (fV [(V.I 0),(V.I 0),(V.I 0),(V.I 0),V.ee,(V.I 0)] [(0,1),(1,1),(2,1),(3,1),(4,1),(5,1)] [(0,(V.I 21)),(4,aM)]) λaN=>
  ((f.get (z.next)=some o9/\O.beq o9 o9=true)/\
  ((ez W f=some X)/\
  ((ez (.ptr L.iu 0) f=some U)/\
  ((ez (.ptr L.zp 0) f=some T)/\
  ic CS (gh T [aN]) f λY ac=>
  (f.next<=ac.next/\
  oP (ez (.ptr L.iu 0) ac) λaO=>
  ik (jt 3 1 2 (V.I 0) [(0,a),(1,Y)]) ac λaP bL=>
  fm (fe 3 1 8 aO aP bL) λaQ bQ=>
  fm (gK 1 (.ptr L.iu 0) aQ bQ) λcC A=>
  oP (ez (.ptr L.zp 0) A) λZ=>
  oP (ez (.ptr L.TD 0) A) λaR=>
  ic CS (gh aR []) A λaS B=>
  (A.next<=B.next/\
  oP (fV [(V.I 0),(V.I 0),(V.I 0),(V.I 0),V.ee,(V.I 0)] [(0,1),(1,1),(2,1),(3,1),(4,1),(5,1)] [(0,(V.I 23)),(5,aS)]) λaT=>
  ((ez (.ptr L.zp 0) B=some Z)/\
  ic CS (gh Z [aT]) B λcD ae=>
  (B.next<=ae.next/\
  oP (ez (.ptr L.zp 0) ae) λaU=>
  oP (fV [(V.I 0),(V.I 0),(V.I 0),(V.I 0),V.ee,(V.I 0)] [(0,1),(1,1),(2,1),(3,1),(4,1),(5,1)] [(0,(V.I 2)),(3,(V.I 1))]) λaV=>
  ic CS (gh aU [aV]) ae λaW aX=>
  oP (ez (.ptr L.zp 0) aX) λaY=>
  oP (fV [(V.I 0),(V.I 0),(V.I 0),(V.I 0),V.ee,(V.I 0)] [(0,1),(1,1),(2,1),(3,1),(4,1),(5,1)] [(0,(V.I 4)),(1,a),(2,aW)]) λaZ=>
  ic CS (gh aY [aZ]) aX λaa a5=>
  oP (ez (.ptr L.iu 0) a5) λa6=>
  ik (jt 3 1 1 (V.I 0) [(0,aa)]) a5 λa7 bR=>
  fm (fe 3 1 8 a6 a7 bR) λa8 bS=>
  fm (gK 1 (.ptr L.iu 0) a8 bS) λcE bU=>
  oP (eo .add 3 c (V.I 1)) λa9=>
  oP (eo .add 3 c (V.I 2)) λba=>
  ik (jt 3 1 2 (V.I 0) [(0,a9),(1,ba)]) bU λbb bV=>
  oP (fV [V.ee,(V.I 0),(V.I 0),V.ee,V.ee,(V.I 0)] [(0,1),(1,1),(2,1),(3,1),(4,1),(5,1)] [(1,(V.I 2)),(2,a),(3,bb)]) λbc=>
  ic CS (gh (ID L) [bc]) bV λbd bW=>K Q c a Y aa bd bW)))))))))))
   :=by
 have cG:=hn.k0;have hk:=hn.k;have hv:=hn.v;refine SN q ho hn (by omega) λh2 k2 q2=>?_;refine ed (eJ _ _ _) (ed q2.D.ZP (ed q2.D.ob.len (jO (m:=1) (show t.blocks.length<_ by omega) (by omega) ?_)));have n2:Sm (fK ops t.s).2 n:=hn.one;refine DE q2 (show t.blocks.length<_ by omega) 1 0 [t.blocks.length+1] 0 rfl (λ_=>rfl) λF4 h4 R4 f4 k4 q4=>?_;refine jO (n:=t.blocks.length) (m:=1) (by omega) (by omega) ?_;refine jO (n:=t.blocks.length+1) (m:=1) (by omega) (by omega) ?_;refine xS q4 [t.blocks.length,t.blocks.length+2] rfl λF6 h6 R6 f6 k6 q6=>?_;have q6:=Tx (t':=end_ {t with s:=(fK ops t.s).2} 1 0 [t.blocks.length+1] 0 [t.blocks.length,t.blocks.length+2]) q6 rfl;have n6:Sm (end_ {t with s:=(fK ops t.s).2} 1 0 [t.blocks.length+1] 0 [t.blocks.length,t.blocks.length+2]).s n:=n2.end_ (t:={t with s:=(fK ops t.s).2}) _ _ _ _ _;have bX:(end_ {t with s:=(fK ops t.s).2} 1 0 [t.blocks.length+1] 0 [t.blocks.length,t.blocks.length+2]).blocks.length=t.blocks.length+1:=by simp[end_]
 have be:(end_ {t with s:=(fK ops t.s).2} 1 0 [t.blocks.length+1] 0 [t.blocks.length,t.blocks.length+2]).s.ef.length=t.s.ef.length:=rfl;have kA:=kgm k2 (k4.trans k6 f4) λ_ h=>h;have fA:∀l,F l->F6 l:=λl r=>f6 l (f4 l r);generalize bY:end_ {t with s:=(fK ops t.s).2} 1 0 [t.blocks.length+1] 0 [t.blocks.length,t.blocks.length+2]=b at*;clear q2 q4 k2 k4 k6;generalize bZ:(fK ops t.s).1=fr at*;refine ed q6.oS ?_;have e3:∀x y:Nat,jt 3 1 2 (V.I 0) [(0,V.I (x:Nat)),(1,V.I (y:Nat))]=some (.cells 3 1 true false (hO [x,y]),λl=> .slice l 0 2):=λ_ _=>rfl;have b4:jt 3 1 2 (V.I 0) [(0,V.I fr),(1,V.I 0)]=some (.cells 3 1 true false (hO [fr,0]),λl=> .slice l 0 2):=e3 fr 0;rw[b4,fE];obtain⟨q7,s7,k7⟩:=EY q6 [fr,0];generalize h6.new (.cells 3 1 true false (hO [fr,0]))=h7 at*;have eP:∀(x y n:Nat),fV [(V.I 0),(V.I 0),(V.I 0),(V.I 0),V.ee,(V.I 0)] [(0,1),(1,1),(2,1),(3,1),(4,1),(5,1)] [(0,(V.I 21)),(4,.slice n 0 2)]=some (.agg (mz (vl 21 0 0 0 [x,y] 0) (.slice n 0 2))):=λ_ _ _=>rfl;refine ed (eP fr 0 _) ?_;refine Mg q7 n6 (by omega) (vl 21 0 0 0 [fr,0] 0) s7 rfl λh8 R8 k8 _ q8=>?_;have n8:=n6.put (vl 21 0 0 0 [fr,0] 0);have b5:(put b.s (vl 21 0 0 0 [fr,0] 0)).ef.length=t.s.ef.length+1:=by simp[put,be]
 rw[be];generalize b6:put b.s (vl 21 0 0 0 [fr,0] 0)=s1 at*;have kB:Kp F (gm G L.mX) h h8:=kA.trans ((k7.gm L.mX).trans (k8.gm L.mX) (pJ _ _)) fA;have fB:∀l,F l->fz F6 h6.next l:=λl r=>pJ _ _ l (fA l r);clear kA k7 k8 q6 q7 s7;refine ed q8.oS (ed q8.D.zE (ed q8.vg (ed q8.D.zE (ed q8.D.ok.len ?_))));show cP CS fq [.I s1.known.length,.ptr L.mX 0,.ptr L.lr 0] h8 _;refine LI q8 ho n8 (by omega) λC l9 o9 k9 q9 b7 i1 i2=>⟨k9.next,ed i1 (ed i2 ?_)⟩
 have i2:ez (.ptr l9 o9) C=some (.I ((fK ops s1).1:Nat)):=i2;have q9:Dq (fz F6 h6.next) G C L ops {b with s:=(fK ops s1).2} R8:=q9;have n9:=n8.one (ops:=ops);have bf:(fK ops s1).2.ef.length=t.s.ef.length+1:=b5;show wU (jt 3 1 2 (V.I 0) [(0,V.I ((fK ops s1).1:Nat)),(1,V.I t.s.ef.length)]) C _;have eW:∀s:Ds,fK ops s=((fK ops s).1,(fK ops s).2):=λ_=>rfl;generalize b8:(fK ops s1).2=sg at*;generalize b9:(fK ops s1).1=g at*;rw[e3,hK];obtain⟨E,bg,bh⟩:=EY q9 [g,t.s.ef.length];have ca:(C.new (.cells 3 1 true false (hO [g,t.s.ef.length]))).get C.next=_:=fi _ _;refine ed (eP g t.s.ef.length _) ⟨⟨ca,O.gO _ _ _ _ _⟩,iF i2 (fo _ b7),E.D.zE,E.oS,?_⟩;generalize C.new (.cells 3 1 true false (hO [g,t.s.ef.length]))=cH at*;refine Mg E n9 (by omega) (vl 21 0 0 0 [g,t.s.ef.length] 0) bg rfl λbi R11 ag _ ah=>⟨ag.next,?_⟩
 have bj:=n9.put (vl 21 0 0 0 [g,t.s.ef.length] 0);have bm:(put sg (vl 21 0 0 0 [g,t.s.ef.length] 0)).ef.length=t.s.ef.length+2:=by simp[put,bf]
 have cb:(({b with s:=sg}:Dt).s.ef.length:Nat)=t.s.ef.length+1:=bf;rw[cb];generalize cd:put sg (vl 21 0 0 0 [g,t.s.ef.length] 0)=s2 at*;have ah:Dq (fz (fz F6 h6.next) C.next) G bi L ops {b with s:=s2} R11:=ah;have kC:Kp F (gm G L.mX) h bi:=kB.trans (k9.trans ((bh.gm L.mX).trans (ag.gm L.mX) (pJ _ _)) λ_ h=>h) fB;have fC:∀l,F l->fz (fz F6 h6.next) C.next l:=λl r=>pJ _ _ l (fB l r);clear kB k9 bh ag q8 q9 E bg;generalize fz (fz F6 h6.next) C.next=FC at*;refine Xa ah bj (by omega) [t.s.ef.length,t.s.ef.length+1] (by simp) (by simp) (e3 _ _) λce R12 cf u=>?_;have ai:=bj.app [t.s.ef.length,t.s.ef.length+1];have bo:({s2 with known:=s2.known++[t.s.ef.length,t.s.ef.length+1]}:Ds).ef.length=t.s.ef.length+2:=bm;have u:Dq FC G ce L ops {b with s:={s2 with known:=s2.known++[t.s.ef.length,t.s.ef.length+1]} } R12:=u;generalize cg:({s2 with known:=s2.known++[t.s.ef.length,t.s.ef.length+1]}:Ds)=s3 at*;have ai:Sm s3 (n+4):=ai;refine ed u.oS (ed u.IS ?_);refine LN u ho ai (by omega) λi ci R13 aj bq I J=>⟨bq.next,?_⟩
 have cj:=Ca ops s3;have br:(fJ ops s3).2.ef.length=t.s.ef.length+2:=by rw[cj.1];exact bo
 have I:Dq i G ci L ops {b with s:=(fJ ops s3).2} R13:=I;have J:Sm (fJ ops s3).2 (n+4+1):=J;show oP (fV _ _ [(0,V.I 23),(5,.I ((fJ ops s3).1:Nat))]) _;generalize cl:(fJ ops s3).2=s4 at*;generalize cm:(fJ ops s3).1=sn at*;have eS:fV [(V.I 0),(V.I 0),(V.I 0),(V.I 0),V.ee,(V.I 0)] [(0,1),(1,1),(2,1),(3,1),(4,1),(5,1)] [(0,(V.I 23)),(5,.I sn)]=some (.agg (mz (vl 23 0 0 0 [] sn) .ee)):=rfl;refine ed eS ⟨I.oS,?_⟩;refine Mg I J (by omega) (vl 23 0 0 0 [] sn) .nil rfl λcn R14 bt _ M=>⟨bt.next,?_⟩
 have bu:=J.put (vl 23 0 0 0 [] sn);have ab:(put s4 (vl 23 0 0 0 [] sn)).ef.length=t.s.ef.length+3:=by simp[put,br]
 have M:Dq i G cn L ops {b with s:=put s4 (vl 23 0 0 0 [] sn)} R14:=M;generalize bw:put s4 (vl 23 0 0 0 [] sn)=s5 at*;refine ed M.oS ?_;have eO:fV [(V.I 0),(V.I 0),(V.I 0),(V.I 0),V.ee,(V.I 0)] [(0,1),(1,1),(2,1),(3,1),(4,1),(5,1)] [(0,(V.I 2)),(3,(V.I 1))]=some (.agg (mz (vl 2 0 0 1 [] 0) .ee)):=rfl;refine ed eO ?_;refine Mg M bu (by omega) (vl 2 0 0 1 [] 0) .nil rfl λco R15 cp _ N=>?_;have bx:=bu.put (vl 2 0 0 1 [] 0);have w:(put s5 (vl 2 0 0 1 [] 0)).ef.length=t.s.ef.length+4:=by simp[put,ab]
 have cq:(({b with s:=s5}:Dt).s.ef.length:Nat)=t.s.ef.length+3:=ab;rw[cq];have N:Dq i G co L ops {b with s:=put s5 (vl 2 0 0 1 [] 0)} R15:=N;generalize bz:put s5 (vl 2 0 0 1 [] 0)=d at*;refine ed N.oS ?_;have eUn:∀p o:Nat,fV [(V.I 0),(V.I 0),(V.I 0),(V.I 0),V.ee,(V.I 0)] [(0,1),(1,1),(2,1),(3,1),(4,1),(5,1)] [(0,(V.I 4)),(1,.I (p:Nat)),(2,.I (o:Nat))]=some (.agg (mz (vl 4 p o 0 [] 0) .ee)):=λ_ _=>rfl;refine ed (eUn _ _) ?_;refine Mg N bx (by omega) (vl 4 t.s.ef.length (t.s.ef.length+3) 0 [] 0) .nil rfl λcI cJ cr _ ct=>?_;have bA:=bx.put (vl 4 t.s.ef.length (t.s.ef.length+3) 0 [] 0);have cu:(({b with s:=d}:Dt).s.ef.length:Nat)=t.s.ef.length+4:=w;rw[cu];refine Xa ct bA (by omega) [t.s.ef.length+4] (by simp) (by simp) rfl λcv R17 cw ak=>?_;have al:=bA.app [t.s.ef.length+4];have bC:({ ({b with s:=put d (vl 4 t.s.ef.length (t.s.ef.length+3) 0 [] 0)}:Dt).s with known:=({b with s:=put d (vl 4 t.s.ef.length (t.s.ef.length+3) 0 [] 0)}:Dt).s.known++[t.s.ef.length+4]}:Ds)=iJ d (vl 4 t.s.ef.length (t.s.ef.length+3) 0 [] 0):=by
  unfold iJ put;simp only[w]
 have ak:Dq i G cv L ops {b with s:=iJ d (vl 4 t.s.ef.length (t.s.ef.length+3) 0 [] 0)} R17:=by rw[<-bC];exact ak
 have al:Sm (iJ d (vl 4 t.s.ef.length (t.s.ef.length+3) 0 [] 0)) (n+10):=by rw[<-bC];exact al.le (by simp <;> omega)
 have bD:(iJ d (vl 4 t.s.ef.length (t.s.ef.length+3) 0 [] 0)).ef.length=t.s.ef.length+5:=by simp[iJ,w]
 refine jO (n:=t.blocks.length+1) (m:=1) (by omega) (by omega) ?_;refine jO (n:=t.blocks.length+1) (m:=2) (by omega) (by omega) ?_;refine DE ak (show b.blocks.length<_ by omega) 2 t.s.ef.length [t.blocks.length+2,t.blocks.length+3] 0 rfl (λ_=>rfl) λcx bE R18 cy cz cA=>?_;have bG:(({b with s:=iJ d (vl 4 t.s.ef.length (t.s.ef.length+3) 0 [] 0)}:Dt).blocks.length:Nat)=t.blocks.length+1:=bX;rw[bG];have kD:Kp F (gm G L.mX) h bE:=((kC.trans ((cf.gm L.mX).trans bq λ_ h=>h) fC).trans (F':=i) ((((bt.gm L.mX).trans (cp.gm L.mX) λ_ h=>h).trans (cr.gm L.mX) λ_ h=>h).trans (cw.gm L.mX) λ_ h=>h) λl r=>aj l (fC l r)).trans (F':=i) (cz.gm L.mX) λl r=>aj l (fC l r);subst bY bZ b6 b8 b9 cd cg cl cm bw bz;exact H cx bE R18 _ (λl r=>cy l (aj l (fC l r))) kD cA al rfl bD
end
open Un
theorem Ka(ops:List Int)(t:Dt):(oK ops t).ef[t.s.ef.length+1]? =some (vl 21 0 0 0 [B2 ops t,t.s.ef.length] 0)/\(oK ops t).ef.length=t.s.ef.length+5:=by
 obtain⟨x,a⟩:=Ks ops t;unfold oK;simp only[iJ,put,a];constructor
 ·rw[Ek,Ek,Rf (by omega),wBr];rfl
 ·simp
theorem Qt(ops:List Int)(t:Dt):(kE ops t).ef[t.s.ef.length+1]? =some (vl 21 0 0 0 [B2 ops t,t.s.ef.length] 0)/\t.s.ef.length+5<=(kE ops t).ef.length/\(kE ops t).known=(row ops (mf ops t).s).known:=by
 obtain ⟨f,i⟩:=Ka ops t;obtain⟨_,l,c⟩:=Gp ops (mf ops t).s;have e0:(mf ops t).s.ef=(oK ops t).ef:=rfl;have g:(row ops (mf ops t).s).ef[t.s.ef.length+1]? =some (vl 21 0 0 0 [B2 ops t,t.s.ef.length] 0):=by
  rw[c,e0,Ot (by omega)];exact f
 have h:t.s.ef.length+5<=(row ops (mf ops t).s).ef.length:=by rw[c,e0,y6];omega
 have a:∀(s:Ds) (l:List Nat),s.ef[t.s.ef.length+1]? =some (vl 21 0 0 0 [B2 ops t,t.s.ef.length] 0)->(setArgs s t.s.ef.length l).ef[t.s.ef.length+1]? =some (vl 21 0 0 0 [B2 ops t,t.s.ef.length] 0):=by
  intro s l hs;show(s.ef.modify t.s.ef.length _)[t.s.ef.length+1]? =_;rw[wCA,hs];show some (if _ then _ else _)=_;rw[if_neg (by omega)]
 have d:=a _ [(fK ops t.s).1,t.s.ef.length+4] g;have e:t.s.ef.length+5<=(mw ops t).ef.length:=by unfold mw;rw[(DH _ _ _).1];exact h
 have b:(num ops (mw ops t) 3).2.ef=(mw ops t).ef:=rfl;unfold kE;split
 ·exact⟨a _ _ (by rw[b];exact d),by rw[(DH _ _ _).1,b];exact e,rfl⟩
 ·exact⟨by rw[b];exact d,by rw[b];exact e,rfl⟩
section
variable{F F' G G':Nat->Prop}{h h':Hp}{L:Lc}{ops:List Int}{t t':Dt}{R R':Rw}{Q:fy}
theorem nx2(x y:Nat):jt 3 1 2 (V.I 0) [(0,V.I x),(1,V.I y)]=some (.cells 3 1 true false (hO [x,y]),λl=> .slice l 0 2):=rfl
theorem YP(ho:ops.length<9223372036854775808){n:Nat}(hn:Sm (kE ops t) n)(an:n<880)(hb:t.blocks.length<900)(q:Dq F G h L ops {mf ops t with s:=kE ops t} R){K:Hp->Prop}
  (H:∀F' h' R',(∀l,F l->F' l)->Kp F (gm G L.mX) h h'->Dq F' G h' L ops (loop ops t) R'->Sm (loop ops t).s (n+6)->K h') :
  oP (fH 2 (.ptr L.lu 0)) λb=>
  oP (ez b h) λc=>
  oP (fH 2 (.ptr L.lu 0)) λd=>
  oP (ez d h) λe=>
  oP (gD 6 e (.I ((t.s.ef.length+1:Nat):Int))) λz=>
  oP (fH 4 z) λf=>
  oP (ez f h) λg=>
  oP (gD 1 g (V.I 0)) λj=>
  oP (ez j h) λo=>
  oP (ez (.ptr L.iu 0) h) λr=>
  oP (ez (.ptr L.iu 0) h) λu=>
  oP (fF u) λA=>
  oP (eo .sub 3 A (V.I 1)) λB=>
  oP (gD 1 r B) λv=>
  oP (ez v h) λw=>
  wU (jt 3 1 2 (V.I 0) [(0,o),(1,w)]) h λx C a=>
  oP (gD 6 c (.I ((t.s.ef.length+1:Nat):Int))) λE=>
  oP (fH 4 E) λI=>
  ((a.get (h.next)=some x/\O.beq x x=true)/\
  ((ez v a=some w)/\
  ((ez (.ptr L.iu 0) a=some u)/\
  ((ez (.ptr L.iu 0) a=some r)/\
  ((ez j a=some o)/\
  ((ez f a=some g)/\
  ((ez d a=some e)/\
  ((ez b a=some c)/\
  fm (gK 1 I C a) λvu h2=>
  (a.next<=h2.next/\
  oP (ez (.ptr L.iu 0) h2) λJ=>
  oP (jh 1 J none (some (.I ((oK ops t).known.length:Nat))) h2) λM=>
  fm (gK 1 (.ptr L.iu 0) M h2) λaj h3=>
  ik (jt 3 1 1 (V.I 0) [(0,(.I ((t.blocks.length+1:Nat):Int)))]) h3 λN h4=>
  oP (fV [V.ee,(V.I 0),(V.I 0),V.ee,V.ee,(V.I 0)] [(0,1),(1,1),(2,1),(3,1),(4,1),(5,1)] [(1,(V.I 1)),(3,N)]) λP=>
  ic CS (gh (ID L) [P]) h4 λak h5=>
  ik (jt 3 1 1 (V.I 0) [(0,(.I ((t.blocks.length+1:Nat):Int)))]) h5 λQ h6=>
  oP (fH 4 (.ptr L.jA 0)) λS=>
  fm (gK 1 S Q h6) λal h7=>
  ic CS (gh (J4 L) []) h7 λam h8=>K h8))))))))):=by
 obtain⟨y1,y2,y3⟩:=Qt ops t;have ab:=(Gp ops (mf ops t).s).kl;have T:(oK ops t).known.length<=(kE ops t).known.length:=by rw[y3];exact ab
 have hk:=hn.k;have U:=hn.k0;have ac:0<(oK ops t).known.length:=by
  show 0<(_++[_]).length;simp
 have W:t.s.ef.length+1<({mf ops t with s:=kE ops t}:Dt).s.ef.length:=by show _<(kE ops t).ef.length;omega
 have eg:(kE ops t).ef[t.s.ef.length+1]'(by omega)=vl 21 0 0 0 [B2 ops t,t.s.ef.length] 0:=by
  rw[gP (by omega)]at y1;exact Option.some.inj y1
 have ao:({mf ops t with s:=kE ops t}:Dt).blocks.length=t.blocks.length+2:=by simp[mf,Ls,end_]
 refine ed (eJ _ _ _) (ed q.D.Vx (ed (eJ _ _ _) (ed q.D.Vx ?_)));obtain⟨l1,o1,w1,ae,X,i2,i3,i4⟩:=q.D.ov.read.ix W .i64;obtain⟨wa,Y,sa⟩:=i3;rw[eg]at Y sa;have ia:=i4 4 wa (by rw[Y];rfl);have X:gD 6 R.vv (.I ((t.s.ef.length+1:Nat):Int))=some (.ptr l1 o1):=X;refine ed X (ed (eJ _ _ _) (ed ia ?_));have Z:l1<h.next:=ae.elim (q.D.fl l1) λh=>(q.D.ov.wh h).2.1;obtain⟨l2,o2,u2,ag,j1,j2,j3⟩:=sa.Tz (i:=0) (by simp[vl]) .i64 rfl;have aa:l2<h.next:=ag.elim (q.D.fl l2) λh=>(q.D.ov.wh h).2.1;obtain⟨rfl⟩:u2 = .I (B2 ops t:Nat):=by
  have:[u2]=[V.I (B2 ops t:Nat)]:=j3;simpa using this
 refine ed j1 (ed j2 ?_);obtain⟨l3,o3,ah,_,m1,m2⟩:=q.FO (i:=(kE ops t).known.length-1) (by show _<(kE ops t).known.length;omega);have m3:ez (.ptr l3 o3) h=some (.I ((kE ops t).known.getLastD 0:Nat)):=by rw[m2];show some (V.I (((kE ops t).known.getD _ 0:Nat):Int))=_;rw[xG _ U]
 refine ed q.D.zE (ed q.D.zE (ed q.D.ok.len (xK (by show(kE ops t).known.length<_;omega) U (ed m1 (ed m3 ?_)))));rw[nx2,hK];obtain⟨y,s1,k1⟩:=EY q [B2 ops t,(kE ops t).known.getLastD 0];have g1:(h.new (.cells 3 1 true false (hO [B2 ops t,(kE ops t).known.getLastD 0]))).get h.next=_:=fi _ _;refine ed X (ed (eJ _ _ _) ?_);refine⟨⟨g1,O.gO _ _ _ _ _⟩,iF m3 (fo _ ah),y.D.zE,y.D.zE,iF j2 (fo _ aa),iF ia (fo _ Z),y.D.Vx,y.D.Vx,?_⟩;obtain⟨l4,h4,a1,a2,a3,a4,D4⟩:=y.D.zbj (p:=t.s.ef.length+1) W s1;have e4:V.ptr l1 (o1+4)=V.ptr l4 ((t.s.ef.length+1)*6+4):=by
  have:(V.ptr l1 o1)=V.ptr l4 ((t.s.ef.length+1)*6):=Option.some.inj (X.symm.trans a1);cases this;rfl
 rw [e4];simp only[Dz,XZ,yC]at a2;rw[a2,ei];refine⟨a3,?_⟩;have q4:=Tx (t':={mf ops t with s:=CM ops t}) (y.step a4 D4 (λ_ h=>h) q.gl y.hq rfl) (by
  unfold CM;rw[y3])
 have ai:Sm (CM ops t) n:=hn.setArgs _ _;refine OQ q4 (m:=(oK ops t).known.length) T λh5 R5 k5 q5=>?_;have n5:Sm (cut (oK ops t).known.length (CM ops t)) n:=ai.cut ac T;refine DE q5 (show({mf ops t with s:=kE ops t}:Dt).blocks.length<_ by omega) 1 0 [t.blocks.length+1] 0 rfl (λ_=>rfl) λF6 h6 R6 f6 k6 q6=>?_;refine xS q6 [t.blocks.length+1] rfl λF7 h7 R7 f7 k7 q7=>?_;have q7:=Tx (t':=Q7 ops t) q7 rfl;have n7:Sm (Q7 ops t).s n:=n5.end_ (t:={mf ops t with s:=cut (oK ops t).known.length (CM ops t)}) _ _ _ _ _;refine Fv q7 ho n7 (by omega) λF8 h8 R8 f8 k8 q8 n8=>?_;have ff:∀l,F l->F7 l:=λl hl=>f7 l (f6 l (pJ _ _ l hl));refine H F8 h8 R8 (λl hl=>f8 l (ff l hl)) ?_ (Tx q8 (TJ ops t).symm) (by rw[TJ];exact n8);have kk:=(((k1.gm L.mX).trans (a4.gm L.mX) (pJ _ _)).trans (F':=fz F h.next) ((k5.gm L.mX).trans (k6.gm L.mX) λ_ h=>h) (pJ _ _)).trans (F':=F6) (k7.gm L.mX) λl hl=>f6 l (pJ _ _ l hl);exact kk.trans k8 ff
theorem Zj(ho:ops.length<9223372036854775808){n:Nat}(hn:Sm (oK ops t) n)(al:n<860)(hb:t.blocks.length<900)
  (q:Dq F G h L ops (end_ {Ls ops t with s:=oK ops t} 2 t.s.ef.length [t.blocks.length+2,t.blocks.length+3] 0 []) R) {K:fy}
  (H:∀F' h' R',(∀l,F l->F' l)->Kp F (gm G L.mX) h h'->Dq F' G h' L ops {mf ops t with s:=kE ops t} R'->Sm (kE ops t) (n+6)->K (.I ((oK ops t).known.length:Nat)) h') :
  oP (ez (.ptr L.iu 0) h) λx=>
  oP (fF x) λd=>
  ik (jt 3 1 1 (V.I 0) [(0,(.I ((t.blocks.length+1:Nat):Int)))]) h λy aa=>
  oP (fH 4 (.ptr L.jA 0)) λz=>
  fm (gK 1 z y aa) λaj ab=>
  ic CS (gh (J4 L) []) ab λak A=>
  oP (fH 2 (.ptr L.lu 0)) λB=>
  oP (ez B A) λC=>
  ik (jt 3 1 2 (V.I 0) [(0,(.I ((fK ops t.s).1:Nat))),(1,(.I ((t.s.ef.length+4:Nat):Int)))]) A λE ac=>
  oP (gD 6 C (.I t.s.ef.length)) λI=>
  oP (fH 4 I) λJ=>
  fm (gK 1 J E ac) λae M=>
  oP (ez (.ptr L.pE 0) M) λN=>
  ic CS (gh N [(V.I 3)]) M λP a=>
  oP (eo .eql 3 P (V.I 0)) λQ=>
  bP Q (
  oP (fH 2 (.ptr L.lu 0)) λe=>
  oP (ez e a) λf=>
  oP (ez (.ptr L.iu 0) a) λg=>
  oP (ez (.ptr L.iu 0) a) λj=>
  oP (fF j) λS=>
  oP (eo .sub 3 S (V.I 1)) λT=>
  oP (gD 1 g T) λm=>
  oP (ez m a) λo=>
  wU (jt 3 1 2 (V.I 0) [(0,(.I ((fK ops t.s).1:Nat))),(1,o)]) a λu U b=>
  oP (gD 6 f (.I t.s.ef.length)) λW=>
  oP (fH 4 W) λX=>
  ((b.get (a.next)=some u/\O.beq u u=true)/\
  ((ez m b=some o)/\
  ((ez (.ptr L.iu 0) b=some j)/\
  ((ez (.ptr L.iu 0) b=some g)/\
  ((ez e b=some f)/\
  fm (gK 1 X U b) λag Y=>
  (b.next<=Y.next/\K d Y)))))))
  (K d a):=by
 obtain⟨_,z2⟩:=Ka ops t;have hk:=hn.k;have am:=hn.k0;refine ed q.D.zE (ed q.D.ok.len ?_);refine xS q [t.blocks.length+1] rfl λF1 h1 R1 f1 k1 q1=>?_;have q1:=Tx (t':=mf ops t) q1 rfl;have n1:Sm (mf ops t).s n:=hn.end_ (t:={Ls ops t with s:=oK ops t}) _ _ _ _ _;refine Fv q1 ho n1 (by omega) λF2 h2 R2 f2 k2 q2 n2=>?_;obtain⟨_,l,v⟩:=Gp ops (mf ops t).s;have e0:(mf ops t).s.ef=(oK ops t).ef:=rfl;have h4:t.s.ef.length+5<=(row ops (mf ops t).s).ef.length:=by rw[v,e0,y6];omega
 refine ed (eJ _ _ _) (ed q2.D.Vx ?_);rw[nx2,fE];obtain⟨q3,s3,k3⟩:=EY q2 [(fK ops t.s).1,t.s.ef.length+4];obtain⟨l4,Z,a1,a2,a3,a4,D4⟩:=q3.D.zbj (p:=t.s.ef.length) (by show _<(row ops (mf ops t).s).ef.length;omega) s3;refine ed a1 (ed (eJ _ _ _) ?_);simp only[Dz,XZ,yC]at a2;rw[a2,ei];have q4:Dq (fz F2 h2.next) G Z L ops {mf ops t with s:=mw ops t} R2:=q3.step a4 D4 (λ_ h=>h) q.gl q3.hq rfl;have n4:Sm (mw ops t) (n+6):=n2.setArgs _ _;refine ed q4.vg ?_;show cP CS fq [.I ((3:Nat):Int),.ptr L.mX 0,.ptr L.lr 0] Z _;refine xJ q4 (by decide) (by decide) ho λh5 k5 c=>?_;have c:Dq (fz F2 h2.next) G h5 L ops {mf ops t with s:=(num ops (mw ops t) 3).2} R2:=c;have n5:Sm (num ops (mw ops t) 3).2 (n+6):=n4.num 3;have ff:∀l,F l->fz F2 h2.next l:=λl v=>pJ _ _ l (f2 l (f1 l v));have kk:Kp F (gm G L.mX) h h5:=(((k1.gm L.mX).trans k2 f1).trans ((k3.gm L.mX).trans (a4.gm L.mX) (pJ _ _)) λl v=>f2 l (f1 l v)).trans k5 ff;show oP (eo .eql 3 (.I ((num ops (mw ops t) 3).1:Nat)) (V.I 0)) _;by_cases hd:(num ops (mw ops t) 3).1=0
 ·refine gj (gw (by omega) ?_);have e9:kE ops t=setArgs (num ops (mw ops t) 3).2 t.s.ef.length [(fK ops t.s).1,(row ops (mf ops t).s).known.getLastD 0]:=by unfold kE;rw[if_pos hd]
  have an:=n5.k;have r:=n5.k0;have ah:(num ops (mw ops t) 3).2.known=(row ops (mf ops t).s).known:=rfl;refine ed (eJ _ _ _) (ed c.D.Vx ?_);obtain⟨l3,o3,ai,_,m1,m2⟩:=c.FO (i:=(num ops (mw ops t) 3).2.known.length-1) (by show _<(num ops (mw ops t) 3).2.known.length;omega);have m3:ez (.ptr l3 o3) h5=some (.I ((row ops (mf ops t).s).known.getLastD 0:Nat)):=by
   rw[m2,<-ah];show some (V.I (((num ops (mw ops t) 3).2.known.getD _ 0:Nat):Int))=_;rw[xG _ r]
  refine ed c.D.zE (ed c.D.zE (ed c.D.ok.len (xK (by show(num ops (mw ops t) 3).2.known.length<_;omega) r (ed m1 (ed m3 ?_)))));rw[nx2,hK];obtain⟨w,s6,k6⟩:=EY c [(fK ops t.s).1,(row ops (mf ops t).s).known.getLastD 0];have g6:(h5.new (.cells 3 1 true false (hO [(fK ops t.s).1,(row ops (mf ops t).s).known.getLastD 0]))).get h5.next=_:=fi _ _;obtain⟨l7,h7,b1,b2,b3,b4,D7⟩:=w.D.zbj (p:=t.s.ef.length) (by
   show _<(mw ops t).ef.length;unfold mw;rw[(DH _ _ _).1];omega) s6
  refine ed b1 (ed (eJ _ _ _) ?_);refine⟨⟨g6,O.gO _ _ _ _ _⟩,iF m3 (fo _ ai),w.D.zE,w.D.zE,w.D.Vx,?_⟩;simp only[Dz,XZ,yC]at b2;rw[b2,ei];have q7:=Tx (t':={mf ops t with s:=kE ops t}) (w.step b4 D7 (λ_ h=>h) q.gl w.hq rfl) (by rw[e9]);refine⟨b3,H _ _ _ (λl v=>pJ _ _ l (ff l v)) (kk.trans ((k6.gm L.mX).trans (b4.gm L.mX) (pJ _ _)) ff) q7 ?_⟩;rw[e9];exact n5.setArgs _ _
 ·refine gj (gi (by omega) ?_);have e9:kE ops t=(num ops (mw ops t) 3).2:=by unfold kE;rw[if_neg hd]
  exact H _ _ _ ff kk (Tx c (by rw[e9])) (by rw[e9];exact n5)
end
open Un
def uC(u:U)(v b s:V):List V:=[.I u.func,.I u.pc,v,b,s]
def eUn:qA U where
 sz:=5
 rel F h u cs:=∃v b s,cs=uC u v b s/\iC eV F h u.ef v/\iC eK F h u.blocks b/\iC eT F h u.eh s
 len:=λ⟨_,_,_,h,_⟩=>by subst h;rfl
 one:=λ⟨_,_,_,h,a,c,d⟩=>by subst h;simp only[uC,eQ,a.one,c.one,d.one];rfl
 fk:=λe ⟨v,n,p,h,a,c,d⟩=>⟨v,n,p,h,a.fk e,c.fk e,d.fk e⟩
 mono:=λf ⟨v,n,p,h,a,c,d⟩=>⟨v,n,p,h,a.mono f,c.mono f,d.mono f⟩
theorem X9(ops:List Int)(t:Dt):(fork ops t).blocks.length=t.blocks.length+3:=by simp[fork,end_]
theorem Ye(ops:List Int)(t:Dt):(yo ops t).blocks.length=t.blocks.length+2:=by simp[yo,end_]
theorem ZR(ops:List Int)(t:Dt):(loop ops t).blocks.length=t.blocks.length+3:=by simp[loop,end_]
section
variable{F F' G G':Nat->Prop}{h h':Hp}{L:Lc}{ops:List Int}{t t':Dt}{R R':Rw}{Q:fy}
theorem zb2{a:List Int}{vo vs nv:V}{b:Nat}(B:ops.length<9223372036854775808)(q:Dq F G h L ops t R)(hn:Sm t.s 30)(hb:t.blocks.length=0)(C:h.get L.lr=some (.cells PZ 1 true false [vo,vs,nv]))(aa:iC (eI .i64) F h a vs)
  (ak:G b) (ab:b≠L.mX) (ac:∃c,h.get b=some (.cells 30 1 true false c)/\c.length=5)
  (H:∀F' h' R' d,(∀l,F l->F' l)->Kp F (gm G L.mX) h h'->Dq F' G h' L ops d R'->d=end_ {lE ops (a.take 6) t with s:=(fJ ops (lE ops (a.take 6) t).s).2} 3 0 [] (fJ ops (lE ops (a.take 6) t).s).1 []->
   fm (gK 5 (.ptr b 0) (.agg [.I 1,.I 2,R'.vv,R'.vb,R'.vs]) h') λ_ f=>oP (gg 5 (.ptr b 0) f) λr=>Q r f) :
  ou CS Q (.ptr L.lr 0) (.ptr b 0) (.ptr L.lu 0) (.ptr L.iu 0) (.ptr L.jA 0) (.ptr L.zp 0) (.ptr L.pE 0) (.ptr L.TD 0) (J4 L) (ID L) (.I 0) h:=by
 refine B5 (λk O P S T U W n o p u v h'=>∃(F':Nat->Prop) (R':Rw) (i:Nat) (t':Dt),O = .ptr L.lr 0/\P = .ptr b 0/\S = .ptr L.lu 0/\T = .ptr L.iu 0/\U = .ptr L.jA 0/\W = .ptr L.zp 0/\
  n = .ptr L.pE 0/\o = .ptr L.TD 0/\p=J4 L/\u=ID L/\v = .I i/\i+k=6/\(∀l,F l->F' l)/\Kp F (gm G L.mX) h h'/\Dq F' G h' L ops t' R'/\Sm t'.s (30+30*i)/\t'.blocks.length<=3*i/\
  lE ops ((a.take 6).drop i) t' = lE ops (a.take 6) t) ?_ (k:=6)
  ⟨F,R,0,t,rfl,rfl,rfl,rfl,rfl,rfl,rfl,rfl,rfl,rfl,rfl,rfl,λ_ h=>h,Kp.refl _ _ _,q,hn,by omega,by rw[Vt]⟩
 rintro k O P S T U W n o p u v h' ⟨F1,R1,i,d,rfl,rfl,rfl,rfl,rfl,rfl,rfl,rfl,rfl,rfl,rfl,al,E,X,z,Y,b1,I⟩;unfold uI;have J:h'.get L.lr=some (.cells PZ 1 true false [vo,vs,nv]):=by rw[X.fk _ (.inl q.fr)];exact C
 have K:ez (.ptr L.lr 1) h' = some vs:=kX J rfl;have lv:=z.D.ov.len;have M:iC (eI .i64) F h' a vs:=aa.fk λl j=>X.fk l (.inl j);refine ed (eJ _ _ _) (ed K (ed M.len (ed (jD _ _ _ _) ?_)));have e1:jZ (.bool (decide (((i:Nat):Int)<(a.length:Nat)))) (oB (some (V.I i)) λae=>eo .lss 3 ae (V.I 6))=some (.bool (decide (((i:Nat):Int)<(a.length:Nat))&&decide (((i:Nat):Int)<6))):=by
  simp only[fj,jD,jU]
 refine ed e1 ?_
 have e2:jZ (.bool (decide (((i:Nat):Int)<(a.length:Nat))&&decide (((i:Nat):Int)<6))) (oB (fH 2 (.ptr L.lu 0)) λag=>oB (ez ag h') λah=>oB (fF ah) λai=>eo .lss 3 ai (V.I 160)) =
   some (.bool ((decide (((i:Nat):Int)<(a.length:Nat))&&decide (((i:Nat):Int)<6))&&decide (((d.s.ef.length:Nat):Int)<160))):=by
  simp only[eJ,fj,yC,z.D.Vx,lv,jD,jU]
 refine ed e2 (js ?_);by_cases hgo:i<a.length/\i<6/\d.s.ef.length<160;rotate_left
 ·
  refine gi (by simp only[uZ,AW];omega) ?_;have N:d=lE ops (a.take 6) t:=by
   rw[<-I];by_cases hi:i<(a.take 6).length
   ·rw[XU hi];unfold lE;rw[if_neg];rw[GX]at hi;omega
   ·rw[List.drop_of_length_le (by omega)];rfl
  subst N;refine ed z.IS ?_;refine LN z B Y (by omega) λm f R2 g w x y=>?_;have eB:∀sn:Nat,fV [V.ee,(V.I 0),(V.I 0),V.ee,V.ee,(V.I 0)] [(0,1),(1,1),(2,1),(3,1),(4,1),(5,1)] [(1,(V.I 3)),(5,.I (sn:Nat))]=some (.agg (kr ⟨[],3,0,[],[],sn⟩ .ee .ee .ee)):=λ_=>rfl;refine ed (eB _) ?_;refine RK x (show(lE ops (a.take 6) t).blocks.length<_ by omega) ⟨[],3,0,[],[],_⟩ rfl rfl rfl .nil λF3 h3 R3 Z k3 q3=>?_;have lA:gg 5 (.ptr L.lu 0) h3=some (.agg [.I 1,.I 2,R3.vv,R3.vb,R3.vs]):=BY q3.D.gu rfl;refine ed lA ?_;have kk:=(X.trans w E).trans (k3.gm L.mX) λl j=>g l (E l j);exact H F3 h3 R3 _ (λl j=>Z l (g l (E l j))) kk q3 rfl
 obtain⟨g1,g2,g3⟩:=hgo;refine gw (by simp only[uZ,AW];omega) ?_;obtain⟨l4,o4,u4,_,i1,i2,i3⟩:=M.Tz g1 .i64 rfl;obtain⟨rfl⟩:u4 = .I a[i]:=by simpa using i3.1
 refine ed (eJ _ _ _) (ed K (ed i1 (ed i2 ?_)));show cP CS im [.I a[i],.I ((3:Nat):Int)] h' _;refine K3 (by decide) (by decide) ?_;have aj:i<(a.take 6).length:=by rw[GX];omega
 have A:lE ops ((a.take 6).drop (i+1)) (tW ops (l0 a[i] 3) d)=lE ops (a.take 6) t:=by
  rw[<-I,XU aj]
  conv=>rhs;unfold lE
  rw[if_pos g3,List.getElem_take]
 have fin:∀(m:Nat->Prop) (f:Hp) (R2:Rw),(∀l,F1 l->m l)->Kp F1 (gm G L.mX) h' f->Dq m G f L ops (tW ops (l0 a[i] 3) d) R2->Sm (tW ops (l0 a[i] 3) d).s (30+30*i+30)->(tW ops (l0 a[i] 3) d).blocks.length<=3*(i+1)->
   jH CS Q (λO P S T U W n o p u v hh=>∃k',k' < k/\∃(F':Nat->Prop) (R':Rw) (i:Nat) (t':Dt),O = .ptr L.lr 0/\P = .ptr b 0/\S = .ptr L.lu 0/\T = .ptr L.iu 0/\U = .ptr L.jA 0/\W = .ptr L.zp 0/\
    n = .ptr L.pE 0/\o = .ptr L.TD 0/\p=J4 L/\u=ID L/\v = .I i/\i+k' = 6/\(∀l,F l->F' l)/\Kp F (gm G L.mX) h hh/\Dq F' G hh L ops t' R'/\Sm t'.s (30+30*i)/\t'.blocks.length<=3*i/\
    lE ops ((a.take 6).drop i) t' = lE ops (a.take 6) t) (.ptr L.lr 0) (.ptr b 0) (.ptr L.lu 0) (.ptr L.iu 0) (.ptr L.jA 0) (.ptr L.zp 0) (.ptr L.pE 0) (.ptr L.TD 0) (J4 L) (ID L) (.I i) f:=by
  intro m f R2 g w x y b2;refine Bn ?_;unfold tp;refine fN ?_;exact⟨k-1,by omega,m,R2,i+1,_,rfl,rfl,rfl,rfl,rfl,rfl,rfl,rfl,rfl,rfl,rfl,by omega,λl j=>g l (E l j),X.trans w E,x,y,b2,A⟩
 by_cases c0:l0 a[i] 3=0
 ·refine gj (gw (by omega) ?_);have e:tW ops (l0 a[i] 3) d=fork ops d:=by unfold tW;rw[if_pos c0]
  rw[e]at fin;refine Yu z B Y (by omega) (by omega) λm f R2 g w x y=>?_;exact fin m f R2 g w x y (by rw[X9];omega)
 refine gj (gi (by omega) ?_);by_cases c1:l0 a[i] 3=1
 ·refine gj (gw (by omega) ?_);have e:tW ops (l0 a[i] 3) d=loop ops d:=by unfold tW;rw[if_neg c0,if_pos c1]
  rw[e]at fin;refine YT z B Y (by omega) (by omega) λm f R2 s6 g w x y e6 _=>?_;subst e6;refine Zj B y (by omega) (by omega) x λF3 h3 R3 Z k3 q3 n3=>?_;refine Bw ?_;unfold td;refine YP B n3 (by omega) (by omega) q3 λF4 h4 R4 f4 k4 q4 n4=>?_;exact fin F4 h4 R4 (λl j=>f4 l (Z l (g l j))) ((w.trans k3 g).trans k4 λl j=>Z l (g l j)) q4 (n4.le (by omega)) (by rw[ZR];omega)
 ·refine gj (gi (by omega) ?_);have e:tW ops (l0 a[i] 3) d=yo ops d:=by unfold tW;rw[if_neg c0,if_neg c1]
  rw[e]at fin;refine Yz z B Y (by omega) (by omega) λm f R2 g w x y=>?_;exact fin m f R2 g w x y (by rw[Ye];omega)
end
