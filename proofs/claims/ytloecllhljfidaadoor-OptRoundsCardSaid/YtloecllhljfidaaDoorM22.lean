/- Parts. -/
import Derived.Test.YtloecllhljfidaaDoorM21
set_option maxHeartbeats 4000000
namespace Go.Proofs.YtloecllhljfidaaDoor.Hx
open Un
section
variable{F F' G G':Nat->Prop}{h h':Hp}{L:Lc}{ops:List Int}{t t':Dt}{R R':Rw}{Q:fq}
theorem Sm.app{s:Ds}{n:Nat}(a:Sm s n)(ys:List Nat):Sm {s with known:=s.known++ys} (n+ys.length):=
 ⟨by have:=a.v;grind,by have:=a.c;grind,by have:=a.k;simp_all,by have:=a.st;grind,by have:=a.k0;grind⟩
theorem LN:∀ys:List Nat,fZ (iT ys)=true
 |[]=>rfl
 |y::ys=>by show fZ (V.I y::iT ys)=true;rw[eo,LN ys];rfl
theorem V9(q:Dq F G h L ops t R){n:Nat}(e:Sm t.s n)(f:n<1000)(ys:List Nat)(g:0<ys.length)(i:ys.length<=5){ps:Option (O×(Nat->V))}(hx:ps=some (O.cells 3 1 true false (iT ys),λl=> .slice l 0 ys.length)){K:Hp->Prop}
  (H:∀h' R',Kp F G h h'->Dq F G h' L ops {t with s:={t.s with known:=t.s.known++ys} } R'->K h') :
  oP (eQ (.ptr L.hH 0) h) λa=>gX ps h λv j=>fc (eR 3 1 8 a v j) λw m=>fc (gh 1 (.ptr L.hH 0) w m) λ_ b=>K b:=by
 subst hx;refine ed q.D.yS ?_;rw[fF];have o:=q.D.grow (lO.new h (.cells 3 1 true false (iT ys)));have B:(iT ys).length=ys.length:=by simp[iT]
 obtain⟨new,p,r⟩:=BP (n:=ys.length) (off:=0) (sz:=1) (fi h (.cells 3 1 true false (iT ys))) (by omega);have u:new=iT ys:=by rw[r,X9,wBA (by omega)]
 subst u;have hk:=e.k;have x:fZ (iT ys)=true:=LN ys;obtain⟨y,b,C,a1,a2,a3,a4,z,A⟩:=o.za9 (ys:=ys) p (wh _ _ ys) (by omega) x g (by omega);have c:eR 3 1 8 R.vk (.slice h.next 0 ys.length) (h.new (.cells 3 1 true false (iT ys)))=some (.val y b):=a1;rw[c,ei,a3,ei];have d:=(q.D.xg (.cells 3 1 true false (iT ys))).trans z λ_ h=>h;exact H _ _ d (q.step d A (by grind) q.gl q.hq rfl)
theorem Ku(q:Dq F G h L ops t R){n:Nat}(c:Sm t.s n)(b:n<999)(x:Vl){w:V}{a:V}(d:iG eN F h x.args a)(e:w = .agg (lW x a)){K:fq}
  (H:∀h' R',Kp F G h h'->R'.vk=R.vk->Dq F G h' L ops {t with s:=put t.s x} R'->K (.I t.s.ef.length) h'):gN CS (fO (zbx L) [w]) h K:=by
 subst e;show cP CS fk [.agg (lW x a),.ptr L.lu 0,.ptr L.je 0] h K;exact GX q c b ⟨a,rfl,d⟩ H
def Ll(ops:List Int)(t:Dt):Dt:=end_ {t with s:=(fw ops t.s).2} 1 0 [t.blocks.length+1] 0 [t.blocks.length,t.blocks.length+2]
def N5(ops:List Int)(t:Dt):Ds:=put (Ll ops t).s (vl 21 0 0 0 [(fw ops t.s).1,0] 0)
def Av(ops:List Int)(t:Dt):Nat:=(fw ops (N5 ops t)).1
def ND(ops:List Int)(t:Dt):Ds:=put (fw ops (N5 ops t)).2 (vl 21 0 0 0 [Av ops t,t.s.ef.length] 0)
def NN(ops:List Int)(t:Dt):Ds:={ND ops t with known:=(ND ops t).known++[t.s.ef.length,t.s.ef.length+1]}
def OL(ops:List Int)(t:Dt):Ds:=put (ft ops (NN ops t)).2 (vl 23 0 0 0 [] (ft ops (NN ops t)).1)
def nV(ops:List Int)(t:Dt):Ds:=iE (put (OL ops t) (vl 2 0 0 1 [] 0)) (vl 4 t.s.ef.length (t.s.ef.length+3) 0 [] 0)
def lV(ops:List Int)(t:Dt):Dt:=end_ {Ll ops t with s:=nV ops t} 2 t.s.ef.length [t.blocks.length+2,t.blocks.length+3] 0 [t.blocks.length+1]
def mX(ops:List Int)(t:Dt):Ds:=setArgs (row ops (lV ops t).s) t.s.ef.length [(fw ops t.s).1,t.s.ef.length+4]
def lg(ops:List Int)(t:Dt):Ds:=if(num ops (mX ops t) 3).1=0 then setArgs (num ops (mX ops t) 3).2 t.s.ef.length [(fw ops t.s).1,(row ops (lV ops t).s).known.getLastD 0] else(num ops (mX ops t) 3).2
def BK(ops:List Int)(t:Dt):Ds:=setArgs (lg ops t) (t.s.ef.length+1) [Av ops t,(row ops (lV ops t).s).known.getLastD 0]
def PY(ops:List Int)(t:Dt):Dt:=end_ {lV ops t with s:=cut (nV ops t).known.length (BK ops t)} 1 0 [t.blocks.length+1] 0 [t.blocks.length+1]
theorem Jl(ops:List Int)(t:Dt):∃x,(OL ops t).ef=t.s.ef++[vl 21 0 0 0 [(fw ops t.s).1,0] 0,vl 21 0 0 0 [Av ops t,t.s.ef.length] 0,x]:=by
 refine⟨vl 23 0 0 0 [] (ft ops (NN ops t)).1,?_⟩;unfold OL;rw[put,(AE ops (NN ops t)).1];show(ND ops t).ef++[_]=_;unfold ND;show((N5 ops t).ef++[_])++[_]=_;unfold N5;show(((Ll ops t).s.ef++[_])++[_])++[_]=_;simp only[Mb,List.singleton_append,wBo,MR];rfl
theorem Uk(ops:List Int)(t:Dt):loop ops t = {PY ops t with s:=row ops (PY ops t).s}:=by
 obtain⟨x,hx⟩:=Jl ops t;have e:(OL ops t).ef.length=t.s.ef.length+3:=by rw[hx];simp
 unfold PY BK lg mX lV nV;rw[show t.s.ef.length+4=(t.s.ef.length+3)+1 from rfl,<-e];rfl
theorem Zy(q:Dq F G h L ops t R)(ho:ops.length<9223372036854775808){n:Nat}(hn:Sm t.s n)(cA:n<800)(hb:t.blocks.length<900){K:OS}
  (H:∀F' h' R' d,(∀l,F l->F' l)->Kp F (gm G L.mF) h h'->Dq F' G h' L ops (end_ {Ll ops t with s:=d} 2 t.s.ef.length [t.blocks.length+2,t.blocks.length+3] 0 []) R'->Sm d (n+10)->
   d=nV ops t->
   d.ef.length=t.s.ef.length+5->
   K (.I ((fw ops t.s).1:Nat)) (.I (t.blocks.length+1:Nat)) (.I t.s.ef.length) (.I ((t.s.ef.length+1:Nat):Int)) (.I ((t.s.ef.length+4:Nat):Int)) (.I ((t.blocks.length+1:Nat):Int)) h') :
  oP (eQ (.ptr L.hH 0) h) λN=>
  oP (eQ (.ptr L.oT 0) h) λak=>
  oP (eQ (.ptr L.hH 0) h) λal=>
  oP (fD al) λam=>
  gN CS (fO ak [am]) h λan j=>
  (h.next<=j.next/\
  oP (hV 1 N an) λao=>
  oP (eQ ao j) λP=>
  ((eQ (.ptr L.hH 0) j=some N)/\
  oP (fQ 3 (.ptr L.lu 0)) λap=>
  oP (eQ ap j) λaq=>
  oP (fD aq) λar=>
  oP (eJ .add 3 ar (V.I 1)) λau=>
  gX (jd 3 1 1 (V.I 0) [(0,au)]) j λaw bC=>
  oP (fJ [V.ee,(V.I 0),(V.I 0),V.ee,V.ee,(V.I 0)] [(0,1),(1,1),(2,1),(3,1),(4,1),(5,1)] [(1,(V.I 1)),(3,aw)]) λax=>
  gN CS (fO (Hu L) [ax]) bC λQ bD=>
  oP (eJ .add 3 Q (V.I 1)) λc=>
  oP (eJ .add 3 c (V.I 1)) λay=>
  gX (jd 3 1 2 (V.I 0) [(0,Q),(1,ay)]) bD λaA bE=>
  oP (fQ 4 (.ptr L.je 0)) λaB=>
  fc (gh 1 aB aA bE) λcw aC=>
  oP (eQ (.ptr L.xN 0) aC) λaD=>
  gX (jd 3 1 2 (V.I 0) [(0,P),(1,(V.I 0))]) aC λaE bG=>
  oP (fJ [(V.I 0),(V.I 0),(V.I 0),(V.I 0),V.ee,(V.I 0)] [(0,1),(1,1),(2,1),(3,1),(4,1),(5,1)] [(0,(V.I 21)),(4,aE)]) λaF=>
  gN CS (fO aD [aF]) bG λa e=>
  oP (eQ (.ptr L.xN 0) e) λS=>
  oP (eQ (.ptr L.hH 0) e) λT=>
  oP (eQ (.ptr L.oT 0) e) λaG=>
  oP (eQ (.ptr L.hH 0) e) λaH=>
  oP (fD aH) λaI=>
  gN CS (fO aG [aI]) e λaJ w=>
  (e.next<=w.next/\
  oP (hV 1 T aJ) λU=>
  oP (eQ U w) λW=>
  wP (jd 3 1 2 (V.I 0) [(0,W),(1,a)]) w λo9 aK f=>
  oP (fJ [(V.I 0),(V.I 0),(V.I 0),(V.I 0),V.ee,(V.I 0)] [(0,1),(1,1),(2,1),(3,1),(4,1),(5,1)] [(0,(V.I 21)),(4,aK)]) λaL=>
  ((f.get (w.next)=some o9/\O.beq o9 o9=true)/\
  ((eQ U f=some W)/\
  ((eQ (.ptr L.hH 0) f=some T)/\
  ((eQ (.ptr L.xN 0) f=some S)/\
  gN CS (fO S [aL]) f λX ab=>
  (f.next<=ab.next/\
  oP (eQ (.ptr L.hH 0) ab) λaM=>
  gX (jd 3 1 2 (V.I 0) [(0,a),(1,X)]) ab λaN bH=>
  fc (eR 3 1 8 aM aN bH) λaO bI=>
  fc (gh 1 (.ptr L.hH 0) aO bI) λcx z=>
  oP (eQ (.ptr L.xN 0) z) λY=>
  oP (eQ (.ptr L.TA 0) z) λaP=>
  gN CS (fO aP []) z λaQ A=>
  (z.next<=A.next/\
  oP (fJ [(V.I 0),(V.I 0),(V.I 0),(V.I 0),V.ee,(V.I 0)] [(0,1),(1,1),(2,1),(3,1),(4,1),(5,1)] [(0,(V.I 23)),(5,aQ)]) λaR=>
  ((eQ (.ptr L.xN 0) A=some Y)/\
  gN CS (fO Y [aR]) A λcy ac=>
  (A.next<=ac.next/\
  oP (eQ (.ptr L.xN 0) ac) λaS=>
  oP (fJ [(V.I 0),(V.I 0),(V.I 0),(V.I 0),V.ee,(V.I 0)] [(0,1),(1,1),(2,1),(3,1),(4,1),(5,1)] [(0,(V.I 2)),(3,(V.I 1))]) λaT=>
  gN CS (fO aS [aT]) ac λaU aV=>
  oP (eQ (.ptr L.xN 0) aV) λaW=>
  oP (fJ [(V.I 0),(V.I 0),(V.I 0),(V.I 0),V.ee,(V.I 0)] [(0,1),(1,1),(2,1),(3,1),(4,1),(5,1)] [(0,(V.I 4)),(1,a),(2,aU)]) λaX=>
  gN CS (fO aW [aX]) aV λZ aY=>
  oP (eQ (.ptr L.hH 0) aY) λaZ=>
  gX (jd 3 1 1 (V.I 0) [(0,Z)]) aY λa5 bJ=>
  fc (eR 3 1 8 aZ a5 bJ) λa6 bK=>
  fc (gh 1 (.ptr L.hH 0) a6 bK) λcz bL=>
  oP (eJ .add 3 c (V.I 1)) λa7=>
  oP (eJ .add 3 c (V.I 2)) λa8=>
  gX (jd 3 1 2 (V.I 0) [(0,a7),(1,a8)]) bL λa9 bQ=>
  oP (fJ [V.ee,(V.I 0),(V.I 0),V.ee,V.ee,(V.I 0)] [(0,1),(1,1),(2,1),(3,1),(4,1),(5,1)] [(1,(V.I 2)),(2,a),(3,a9)]) λba=>
  gN CS (fO (Hu L) [ba]) bQ λbb bR=>K P c a X Z bb bR)))))))))))
   :=by
 have cB:=hn.k0;have hk:=hn.k;have hv:=hn.v;refine SR q ho hn (by omega) λh2 k2 q2=>?_;refine ed (by rfl) (ed q2.D.ZV (ed q2.D.ob.len (jZ (m:=1) (show t.blocks.length<_ by omega) (by omega) ?_)));have n2:Sm (fw ops t.s).2 n:=hn.one;refine A8 q2 (show t.blocks.length<_ by omega) 1 0 [t.blocks.length+1] 0 rfl (λ_=>rfl) λF4 h4 R4 f4 k4 q4=>?_;refine jZ (n:=t.blocks.length) (m:=1) (by omega) (by omega) ?_;refine jZ (n:=t.blocks.length+1) (m:=1) (by omega) (by omega) ?_;refine wF q4 [t.blocks.length,t.blocks.length+2] rfl λF6 h6 R6 f6 k6 q6=>?_;have q6:=VT (t':=end_ {t with s:=(fw ops t.s).2} 1 0 [t.blocks.length+1] 0 [t.blocks.length,t.blocks.length+2]) q6 rfl;have n6:Sm (end_ {t with s:=(fw ops t.s).2} 1 0 [t.blocks.length+1] 0 [t.blocks.length,t.blocks.length+2]).s n:=n2.end_ (t:={t with s:=(fw ops t.s).2}) _ _ _ _ _;have bS:(end_ {t with s:=(fw ops t.s).2} 1 0 [t.blocks.length+1] 0 [t.blocks.length,t.blocks.length+2]).blocks.length=t.blocks.length+1:=by simp[end_]
 have bc:(end_ {t with s:=(fw ops t.s).2} 1 0 [t.blocks.length+1] 0 [t.blocks.length,t.blocks.length+2]).s.ef.length=t.s.ef.length:=rfl;have kA:=kgm k2 (k4.trans k6 f4) λ_ h=>h;have fA:∀l,F l->F6 l:=by simp_all
 generalize bU:end_ {t with s:=(fw ops t.s).2} 1 0 [t.blocks.length+1] 0 [t.blocks.length,t.blocks.length+2]=b at*;clear q2 q4 k2 k4 k6;generalize bV:(fw ops t.s).1=fr at*;refine ed q6.og ?_;have e3:∀x y:Nat,jd 3 1 2 (V.I 0) [(0,V.I (x:Nat)),(1,V.I (y:Nat))]=some (.cells 3 1 true false (iT [x,y]),λl=> .slice l 0 2):=λ_ _=>rfl;have bW:jd 3 1 2 (V.I 0) [(0,V.I fr),(1,V.I 0)]=some (.cells 3 1 true false (iT [fr,0]),λl=> .slice l 0 2):=e3 fr 0;rw[bW,fF];obtain⟨q7,s7,k7⟩:=CT q6 [fr,0];generalize h6.new (.cells 3 1 true false (iT [fr,0]))=h7 at*;have eP:∀(x y n:Nat),fJ [(V.I 0),(V.I 0),(V.I 0),(V.I 0),V.ee,(V.I 0)] [(0,1),(1,1),(2,1),(3,1),(4,1),(5,1)] [(0,(V.I 21)),(4,.slice n 0 2)]=some (.agg (lW (vl 21 0 0 0 [x,y] 0) (.slice n 0 2))):=λ_ _ _=>rfl;refine ed (by rfl) ?_;refine Ku q7 n6 (by omega) (vl 21 0 0 0 [fr,0] 0) s7 rfl λh8 R8 k8 _ q8=>?_;have n8:=n6.put (vl 21 0 0 0 [fr,0] 0);have bX:(put b.s (vl 21 0 0 0 [fr,0] 0)).ef.length=t.s.ef.length+1:=by simp[put,bc]
 rw[bc];generalize bY:put b.s (vl 21 0 0 0 [fr,0] 0)=s1 at*;have kB:Kp F (gm G L.mF) h h8:=kA.trans ((k7.gm L.mF).trans (k8.gm L.mF) (oR _ _)) fA;have fB:∀l,F l->fz F6 h6.next l:=by grind[oR]
 clear kA k7 k8 q6 q7 s7;refine ed q8.og (ed q8.D.yS (ed q8.tS (ed q8.D.yS (ed q8.D.ok.len ?_))));show cP CS fg [.I s1.known.length,.ptr L.mF 0,.ptr L.lr 0] h8 _;refine L2 q8 ho n8 (by omega) λB l9 o9 k9 q9 bZ i1 i2=>⟨k9.next,ed i1 (ed i2 ?_)⟩
 have i2:eQ (.ptr l9 o9) B=some (.I ((fw ops s1).1:Nat)):=i2;have q9:Dq (fz F6 h6.next) G B L ops {b with s:=(fw ops s1).2} R8:=q9;have n9:=n8.one (ops:=ops);have bd:(fw ops s1).2.ef.length=t.s.ef.length+1:=bX;show wP (jd 3 1 2 (V.I 0) [(0,V.I ((fw ops s1).1:Nat)),(1,V.I t.s.ef.length)]) B _;have eW:∀s:Ds,fw ops s=((fw ops s).1,(fw ops s).2):=λ_=>rfl;generalize b4:(fw ops s1).2=sg at*;generalize b5:(fw ops s1).1=g at*;rw[e3,gZ];obtain⟨C,be,bf⟩:=CT q9 [g,t.s.ef.length];have cC:(B.new (.cells 3 1 true false (iT [g,t.s.ef.length]))).get B.next=_:=fi _ _;refine ed (by rfl) ⟨by grind[O.lC],qN i2 (fh _ bZ),C.D.yS,C.og,?_⟩;generalize B.new (.cells 3 1 true false (iT [g,t.s.ef.length]))=cD at*;refine Ku C n9 (by omega) (vl 21 0 0 0 [g,t.s.ef.length] 0) be rfl λbg R11 ae _ ag=>⟨ae.next,?_⟩
 have bh:=n9.put (vl 21 0 0 0 [g,t.s.ef.length] 0);have bi:(put sg (vl 21 0 0 0 [g,t.s.ef.length] 0)).ef.length=t.s.ef.length+2:=by simp[put,bd]
 have b6:(({b with s:=sg}:Dt).s.ef.length:Nat)=t.s.ef.length+1:=bd;rw[b6];generalize b7:put sg (vl 21 0 0 0 [g,t.s.ef.length] 0)=s2 at*;have ag:Dq (fz (fz F6 h6.next) B.next) G bg L ops {b with s:=s2} R11:=ag;have kC:Kp F (gm G L.mF) h bg:=kB.trans (k9.trans ((bf.gm L.mF).trans (ae.gm L.mF) (oR _ _)) λ_ h=>h) fB;have fC:∀l,F l->fz (fz F6 h6.next) B.next l:=by grind[oR]
 clear kB k9 bf ae q8 q9 C be;generalize fz (fz F6 h6.next) B.next=FC at*;refine V9 ag bh (by omega) [t.s.ef.length,t.s.ef.length+1] (by simp) (by simp) (e3 _ _) λb8 R12 b9 r=>?_;have ah:=bh.app [t.s.ef.length,t.s.ef.length+1];have bj:({s2 with known:=s2.known++[t.s.ef.length,t.s.ef.length+1]}:Ds).ef.length=t.s.ef.length+2:=bi;have r:Dq FC G b8 L ops {b with s:={s2 with known:=s2.known++[t.s.ef.length,t.s.ef.length+1]} } R12:=r;generalize ca:({s2 with known:=s2.known++[t.s.ef.length,t.s.ef.length+1]}:Ds)=s3 at*;have ah:Sm s3 (n+4):=ah;refine ed r.og (ed r.Hl ?_);refine KS r ho ah (by omega) λi cb R13 cE bm E I=>⟨bm.next,?_⟩
 have cd:=AE ops s3;have bn:(ft ops s3).2.ef.length=t.s.ef.length+2:=by rw[cd.1];exact bj
 have E:Dq i G cb L ops {b with s:=(ft ops s3).2} R13:=E;have I:Sm (ft ops s3).2 (n+4+1):=I;show oP (fJ _ _ [(0,V.I 23),(5,.I ((ft ops s3).1:Nat))]) _;generalize ce:(ft ops s3).2=s4 at*;generalize cf:(ft ops s3).1=sn at*;have eS:fJ [(V.I 0),(V.I 0),(V.I 0),(V.I 0),V.ee,(V.I 0)] [(0,1),(1,1),(2,1),(3,1),(4,1),(5,1)] [(0,(V.I 23)),(5,.I sn)]=some (.agg (lW (vl 23 0 0 0 [] sn) .ee)):=rfl;refine ed eS ⟨E.og,?_⟩;refine Ku E I (by omega) (vl 23 0 0 0 [] sn) .nil rfl λcg R14 bo _ J=>⟨bo.next,?_⟩
 have bp:=I.put (vl 23 0 0 0 [] sn);have aa:(put s4 (vl 23 0 0 0 [] sn)).ef.length=t.s.ef.length+3:=by simp[put,bn]
 have J:Dq i G cg L ops {b with s:=put s4 (vl 23 0 0 0 [] sn)} R14:=J;generalize br:put s4 (vl 23 0 0 0 [] sn)=s5 at*;refine ed J.og ?_;have eO:fJ [(V.I 0),(V.I 0),(V.I 0),(V.I 0),V.ee,(V.I 0)] [(0,1),(1,1),(2,1),(3,1),(4,1),(5,1)] [(0,(V.I 2)),(3,(V.I 1))]=some (.agg (lW (vl 2 0 0 1 [] 0) .ee)):=rfl;refine ed eO ?_;refine Ku J bp (by omega) (vl 2 0 0 1 [] 0) .nil rfl λci R15 cj _ M=>?_;have bt:=bp.put (vl 2 0 0 1 [] 0);have u:(put s5 (vl 2 0 0 1 [] 0)).ef.length=t.s.ef.length+4:=by simp[put,aa]
 have cm:(({b with s:=s5}:Dt).s.ef.length:Nat)=t.s.ef.length+3:=aa;rw[cm];have M:Dq i G ci L ops {b with s:=put s5 (vl 2 0 0 1 [] 0)} R15:=M;generalize bu:put s5 (vl 2 0 0 1 [] 0)=d at*;refine ed M.og ?_;have eUn:∀p o:Nat,fJ [(V.I 0),(V.I 0),(V.I 0),(V.I 0),V.ee,(V.I 0)] [(0,1),(1,1),(2,1),(3,1),(4,1),(5,1)] [(0,(V.I 4)),(1,.I (p:Nat)),(2,.I (o:Nat))]=some (.agg (lW (vl 4 p o 0 [] 0) .ee)):=λ_ _=>rfl;refine ed (eUn _ _) ?_;refine Ku M bt (by omega) (vl 4 t.s.ef.length (t.s.ef.length+3) 0 [] 0) .nil rfl λcF cG cn _ co=>?_;have bv:=bt.put (vl 4 t.s.ef.length (t.s.ef.length+3) 0 [] 0);have cp:(({b with s:=d}:Dt).s.ef.length:Nat)=t.s.ef.length+4:=u;rw[cp];refine V9 co bv (by omega) [t.s.ef.length+4] (by simp) (by simp) rfl λcq R17 cr ai=>?_;have aj:=bv.app [t.s.ef.length+4];have bw:({ ({b with s:=put d (vl 4 t.s.ef.length (t.s.ef.length+3) 0 [] 0)}:Dt).s with known:=({b with s:=put d (vl 4 t.s.ef.length (t.s.ef.length+3) 0 [] 0)}:Dt).s.known++[t.s.ef.length+4]}:Ds)=iE d (vl 4 t.s.ef.length (t.s.ef.length+3) 0 [] 0):=by
  unfold iE put;simp only[u]
 have ai:Dq i G cq L ops {b with s:=iE d (vl 4 t.s.ef.length (t.s.ef.length+3) 0 [] 0)} R17:=by rw[<-bw];exact ai
 have aj:Sm (iE d (vl 4 t.s.ef.length (t.s.ef.length+3) 0 [] 0)) (n+10):=by rw[<-bw];exact aj.le (by grind)
 have bx:(iE d (vl 4 t.s.ef.length (t.s.ef.length+3) 0 [] 0)).ef.length=t.s.ef.length+5:=by simp[iE,u]
 refine jZ (n:=t.blocks.length+1) (m:=1) (by omega) (by omega) ?_;refine jZ (n:=t.blocks.length+1) (m:=2) (by omega) (by omega) ?_;refine A8 ai (show b.blocks.length<_ by omega) 2 t.s.ef.length [t.blocks.length+2,t.blocks.length+3] 0 rfl (λ_=>rfl) λct bz R18 cH cu cv=>?_;have bA:(({b with s:=iE d (vl 4 t.s.ef.length (t.s.ef.length+3) 0 [] 0)}:Dt).blocks.length:Nat)=t.blocks.length+1:=bS;rw[bA];have kD:Kp F (gm G L.mF) h bz:=((kC.trans ((b9.gm L.mF).trans bm λ_ h=>h) fC).trans (F':=i) ((((bo.gm L.mF).trans (cj.gm L.mF) λ_ h=>h).trans (cn.gm L.mF) λ_ h=>h).trans (cr.gm L.mF) λ_ h=>h) (by grind)).trans (F':=i) (cu.gm L.mF) (by grind);subst bU bV bY b4 b5 b7 ca ce cf br bu;exact H ct bz R18 _ (by grind) kD cv aj rfl bx
end
open Un
theorem Jr(ops:List Int)(t:Dt):(nV ops t).ef[t.s.ef.length+1]? =some (vl 21 0 0 0 [Av ops t,t.s.ef.length] 0)/\(nV ops t).ef.length=t.s.ef.length+5:=by
 obtain⟨x,hx⟩:=Jl ops t
 grind[nV,iE,put,Mb,Ya,wBd]
theorem QN(ops:List Int)(t:Dt):(lg ops t).ef[t.s.ef.length+1]? =some (vl 21 0 0 0 [Av ops t,t.s.ef.length] 0)/\t.s.ef.length+5<=(lg ops t).ef.length/\(lg ops t).known=(row ops (lV ops t).s).known:=by
 obtain ⟨e,h⟩:=Jr ops t;obtain⟨_,l,b⟩:=Em ops (lV ops t).s;have e0:(lV ops t).s.ef=(nV ops t).ef:=rfl;have f:(row ops (lV ops t).s).ef[t.s.ef.length+1]? =some (vl 21 0 0 0 [Av ops t,t.s.ef.length] 0):=by
  rw[b,e0,Vb (by omega)];exact e
 have g:t.s.ef.length+5<=(row ops (lV ops t).s).ef.length:=by rw[b,e0,KC];omega
 have a:∀(s:Ds) (l:List Nat),s.ef[t.s.ef.length+1]? =some (vl 21 0 0 0 [Av ops t,t.s.ef.length] 0)->(setArgs s t.s.ef.length l).ef[t.s.ef.length+1]? =some (vl 21 0 0 0 [Av ops t,t.s.ef.length] 0):=by
  intro s l hs;show(s.ef.modify t.s.ef.length _)[t.s.ef.length+1]? =_;rw[List.getElem?_modify,hs];show some (if _ then _ else _)=_;rw[if_neg (by omega)]
 have c:=a _ [(fw ops t.s).1,t.s.ef.length+4] f;have i:t.s.ef.length+5<=(mX ops t).ef.length:=by unfold mX;rw[(Br _ _ _).1];exact g
 have d:(num ops (mX ops t) 3).2.ef=(mX ops t).ef:=rfl;unfold lg;split
 ·exact⟨a _ _ (by rw[d];exact c),by grind[Br],rfl⟩
 ·exact⟨by rw[d];exact c,by simp_all,rfl⟩
section
variable{F F' G G':Nat->Prop}{h h':Hp}{L:Lc}{ops:List Int}{t t':Dt}{R R':Rw}{Q:fq}
theorem nx2(x y:Nat):jd 3 1 2 (V.I 0) [(0,V.I x),(1,V.I y)]=some (.cells 3 1 true false (iT [x,y]),λl=> .slice l 0 2):=rfl
theorem YZ(ho:ops.length<9223372036854775808){n:Nat}(hn:Sm (lg ops t) n)(am:n<880)(hb:t.blocks.length<900)(q:Dq F G h L ops {lV ops t with s:=lg ops t} R){K:Hp->Prop}
  (H:∀F' h' R',(∀l,F l->F' l)->Kp F (gm G L.mF) h h'->Dq F' G h' L ops (loop ops t) R'->Sm (loop ops t).s (n+6)->K h') :
  oP (fQ 2 (.ptr L.lu 0)) λb=>
  oP (eQ b h) λc=>
  oP (fQ 2 (.ptr L.lu 0)) λd=>
  oP (eQ d h) λe=>
  oP (hV 6 e (.I ((t.s.ef.length+1:Nat):Int))) λz=>
  oP (fQ 4 z) λf=>
  oP (eQ f h) λg=>
  oP (hV 1 g (V.I 0)) λj=>
  oP (eQ j h) λo=>
  oP (eQ (.ptr L.hH 0) h) λr=>
  oP (eQ (.ptr L.hH 0) h) λu=>
  oP (fD u) λA=>
  oP (eJ .sub 3 A (V.I 1)) λB=>
  oP (hV 1 r B) λv=>
  oP (eQ v h) λw=>
  wP (jd 3 1 2 (V.I 0) [(0,o),(1,w)]) h λx C a=>
  oP (hV 6 c (.I ((t.s.ef.length+1:Nat):Int))) λE=>
  oP (fQ 4 E) λI=>
  ((a.get (h.next)=some x/\O.beq x x=true)/\
  ((eQ v a=some w)/\
  ((eQ (.ptr L.hH 0) a=some u)/\
  ((eQ (.ptr L.hH 0) a=some r)/\
  ((eQ j a=some o)/\
  ((eQ f a=some g)/\
  ((eQ d a=some e)/\
  ((eQ b a=some c)/\
  fc (gh 1 I C a) λvu h2=>
  (a.next<=h2.next/\
  oP (eQ (.ptr L.hH 0) h2) λJ=>
  oP (jc 1 J none (some (.I ((nV ops t).known.length:Nat))) h2) λM=>
  fc (gh 1 (.ptr L.hH 0) M h2) λai h3=>
  gX (jd 3 1 1 (V.I 0) [(0,(.I ((t.blocks.length+1:Nat):Int)))]) h3 λN h4=>
  oP (fJ [V.ee,(V.I 0),(V.I 0),V.ee,V.ee,(V.I 0)] [(0,1),(1,1),(2,1),(3,1),(4,1),(5,1)] [(1,(V.I 1)),(3,N)]) λP=>
  gN CS (fO (Hu L) [P]) h4 λaj h5=>
  gX (jd 3 1 1 (V.I 0) [(0,(.I ((t.blocks.length+1:Nat):Int)))]) h5 λQ h6=>
  oP (fQ 4 (.ptr L.je 0)) λS=>
  fc (gh 1 S Q h6) λak h7=>
  gN CS (fO (IN L) []) h7 λal h8=>K h8))))))))):=by
 obtain⟨y1,y2,y3⟩:=QN ops t;have aa:=(Em ops (lV ops t).s).kl;have T:(nV ops t).known.length<=(lg ops t).known.length:=by rw[y3];exact aa
 have hk:=hn.k;have U:=hn.k0;have ab:0<(nV ops t).known.length:=by
  show 0<(_++[_]).length;simp
 have W:t.s.ef.length+1<({lV ops t with s:=lg ops t}:Dt).s.ef.length:=by show _<(lg ops t).ef.length;omega
 have eg:(lg ops t).ef[t.s.ef.length+1]'(by omega)=vl 21 0 0 0 [Av ops t,t.s.ef.length] 0:=by
  rw[g0 (by omega)]at y1;exact Option.some.inj y1
 have an:({lV ops t with s:=lg ops t}:Dt).blocks.length=t.blocks.length+2:=by simp[lV,Ll,end_]
 refine ed (by rfl) (ed q.D.V0 (ed (by rfl) (ed q.D.V0 ?_)));obtain⟨l1,o1,w1,ac,i1,i2,i3,i4⟩:=q.D.ov.read.ix W .i64;obtain⟨wa,X,sa⟩:=i3;rw[eg]at X sa;have ia:=i4 4 wa (by rw[X];rfl);have i1:hV 6 R.vv (.I ((t.s.ef.length+1:Nat):Int))=some (.ptr l1 o1):=i1;refine ed i1 (ed (by rfl) (ed ia ?_));have Y:l1<h.next:=ac.elim (q.D.fl l1) λh=>(q.D.ov.rI h).2.1;obtain⟨l2,o2,u2,ae,j1,j2,j3⟩:=sa.Wj (i:=0) (by simp[vl]) .i64 rfl;have Z:l2<h.next:=ae.elim (q.D.fl l2) λh=>(q.D.ov.rI h).2.1;obtain⟨rfl⟩:u2 = .I (Av ops t:Nat):=by
  have:[u2]=[V.I (Av ops t:Nat)]:=j3
  simp_all
 refine ed j1 (ed j2 ?_);obtain⟨l3,o3,ag,_,m1,m2⟩:=q.EC (i:=(lg ops t).known.length-1) (by grind);have m3:eQ (.ptr l3 o3) h=some (.I ((lg ops t).known.getLastD 0:Nat)):=by rw[m2];show some (V.I (((lg ops t).known.getD _ 0:Nat):Int))=_;rw[zW _ U]
 refine ed q.D.yS (ed q.D.yS (ed q.D.ok.len (qa (by grind) U (ed m1 (ed m3 ?_)))));rw[nx2,gZ];obtain⟨y,s1,k1⟩:=CT q [Av ops t,(lg ops t).known.getLastD 0];have g1:(h.new (.cells 3 1 true false (iT [Av ops t,(lg ops t).known.getLastD 0]))).get h.next=_:=fi _ _;refine ed i1 (ed (by rfl) ?_);refine⟨by simp_all,qN m3 (fh _ ag),y.D.yS,y.D.yS,qN j2 (fh _ Z),qN ia (fh _ Y),y.D.V0,y.D.V0,?_⟩;obtain⟨l4,h4,a1,a2,a3,a4,D4⟩:=y.D.zbv (p:=t.s.ef.length+1) W s1;have e4:V.ptr l1 (o1+4)=V.ptr l4 ((t.s.ef.length+1)*6+4):=by
  have:(V.ptr l1 o1)=V.ptr l4 ((t.s.ef.length+1)*6):=by simp_all
  cases this;rfl
 rw [e4];simp only[Pb,wBk,wO]at a2;rw[a2,ei];refine⟨a3,?_⟩;have q4:=VT (t':={lV ops t with s:=BK ops t}) (y.step a4 D4 (by simp_all) q.gl y.hq rfl) (by
  grind[BK])
 have ah:Sm (BK ops t) n:=hn.setArgs _ _;refine OX q4 (m:=(nV ops t).known.length) T λh5 R5 k5 q5=>?_;have n5:Sm (cut (nV ops t).known.length (BK ops t)) n:=ah.cut ab T;refine A8 q5 (show({lV ops t with s:=lg ops t}:Dt).blocks.length<_ by omega) 1 0 [t.blocks.length+1] 0 rfl (λ_=>rfl) λF6 h6 R6 f6 k6 q6=>?_;refine wF q6 [t.blocks.length+1] rfl λF7 h7 R7 f7 k7 q7=>?_;have q7:=VT (t':=PY ops t) q7 rfl;have n7:Sm (PY ops t).s n:=n5.end_ (t:={lV ops t with s:=cut (nV ops t).known.length (BK ops t)}) _ _ _ _ _;refine Dg q7 ho n7 (by omega) λF8 h8 R8 f8 k8 q8 n8=>?_;have ff:∀l,F l->F7 l:=by grind[oR]
 refine H F8 h8 R8 (by simp_all) ?_ (by grind[VT,Uk]) (by grind[Uk]);have kk:=(((k1.gm L.mF).trans (a4.gm L.mF) (oR _ _)).trans (F':=fz F h.next) ((k5.gm L.mF).trans (k6.gm L.mF) λ_ h=>h) (oR _ _)).trans (F':=F6) (k7.gm L.mF) (by grind[oR]);exact kk.trans k8 ff
theorem YI(ho:ops.length<9223372036854775808){n:Nat}(hn:Sm (nV ops t) n)(al:n<860)(hb:t.blocks.length<900)
  (q:Dq F G h L ops (end_ {Ll ops t with s:=nV ops t} 2 t.s.ef.length [t.blocks.length+2,t.blocks.length+3] 0 []) R) {K:fq}
  (H:∀F' h' R',(∀l,F l->F' l)->Kp F (gm G L.mF) h h'->Dq F' G h' L ops {lV ops t with s:=lg ops t} R'->Sm (lg ops t) (n+6)->K (.I ((nV ops t).known.length:Nat)) h') :
  oP (eQ (.ptr L.hH 0) h) λw=>
  oP (fD w) λd=>
  gX (jd 3 1 1 (V.I 0) [(0,(.I ((t.blocks.length+1:Nat):Int)))]) h λx aa=>
  oP (fQ 4 (.ptr L.je 0)) λy=>
  fc (gh 1 y x aa) λaj ab=>
  gN CS (fO (IN L) []) ab λak z=>
  oP (fQ 2 (.ptr L.lu 0)) λA=>
  oP (eQ A z) λB=>
  gX (jd 3 1 2 (V.I 0) [(0,(.I ((fw ops t.s).1:Nat))),(1,(.I ((t.s.ef.length+4:Nat):Int)))]) z λC ac=>
  oP (hV 6 B (.I t.s.ef.length)) λE=>
  oP (fQ 4 E) λI=>
  fc (gh 1 I C ac) λae J=>
  oP (eQ (.ptr L.oT 0) J) λM=>
  gN CS (fO M [(V.I 3)]) J λN a=>
  oP (eJ .eql 3 N (V.I 0)) λP=>
  bP P (
  oP (fQ 2 (.ptr L.lu 0)) λe=>
  oP (eQ e a) λf=>
  oP (eQ (.ptr L.hH 0) a) λg=>
  oP (eQ (.ptr L.hH 0) a) λj=>
  oP (fD j) λQ=>
  oP (eJ .sub 3 Q (V.I 1)) λS=>
  oP (hV 1 g S) λm=>
  oP (eQ m a) λo=>
  wP (jd 3 1 2 (V.I 0) [(0,(.I ((fw ops t.s).1:Nat))),(1,o)]) a λu T b=>
  oP (hV 6 f (.I t.s.ef.length)) λU=>
  oP (fQ 4 U) λW=>
  ((b.get (a.next)=some u/\O.beq u u=true)/\
  ((eQ m b=some o)/\
  ((eQ (.ptr L.hH 0) b=some j)/\
  ((eQ (.ptr L.hH 0) b=some g)/\
  ((eQ e b=some f)/\
  fc (gh 1 W T b) λag X=>
  (b.next<=X.next/\K d X)))))))
  (K d a):=by
 obtain⟨_,z2⟩:=Jr ops t;have hk:=hn.k;have am:=hn.k0;refine ed q.D.yS (ed q.D.ok.len ?_);refine wF q [t.blocks.length+1] rfl λF1 h1 R1 f1 k1 q1=>?_;have q1:=VT (t':=lV ops t) q1 rfl;have n1:Sm (lV ops t).s n:=hn.end_ (t:={Ll ops t with s:=nV ops t}) _ _ _ _ _;refine Dg q1 ho n1 (by omega) λF2 h2 R2 f2 k2 q2 n2=>?_;obtain⟨_,l,hl⟩:=Em ops (lV ops t).s;have e0:(lV ops t).s.ef=(nV ops t).ef:=rfl;have h4:t.s.ef.length+5<=(row ops (lV ops t).s).ef.length:=by rw[hl,e0,KC];omega
 refine ed (by rfl) (ed q2.D.V0 ?_);rw[nx2,fF];obtain⟨q3,s3,k3⟩:=CT q2 [(fw ops t.s).1,t.s.ef.length+4];obtain⟨l4,Y,a1,a2,a3,a4,D4⟩:=q3.D.zbv (p:=t.s.ef.length) (by grind) s3;refine ed a1 (ed (by rfl) ?_);simp only[Pb,wBk,wO]at a2;rw[a2,ei];have q4:Dq (fz F2 h2.next) G Y L ops {lV ops t with s:=mX ops t} R2:=q3.step a4 D4 (by simp_all) q.gl q3.hq rfl;have n4:Sm (mX ops t) (n+6):=n2.setArgs _ _;refine ed q4.tS ?_;show cP CS fg [.I ((3:Nat):Int),.ptr L.mF 0,.ptr L.lr 0] Y _;refine vR q4 (by decide) (by decide) ho λZ k5 c=>?_;have c:Dq (fz F2 h2.next) G Z L ops {lV ops t with s:=(num ops (mX ops t) 3).2} R2:=c;have n5:Sm (num ops (mX ops t) 3).2 (n+6):=n4.num 3;have ff:∀l,F l->fz F2 h2.next l:=by grind[oR]
 have kk:Kp F (gm G L.mF) h Z:=(((k1.gm L.mF).trans k2 f1).trans ((k3.gm L.mF).trans (a4.gm L.mF) (oR _ _)) (by simp_all)).trans k5 ff;show oP (eJ .eql 3 (.I ((num ops (mX ops t) 3).1:Nat)) (V.I 0)) _;by_cases hd:(num ops (mX ops t) 3).1=0
 ·refine gM (gI (by omega) ?_);have e9:lg ops t=setArgs (num ops (mX ops t) 3).2 t.s.ef.length [(fw ops t.s).1,(row ops (lV ops t).s).known.getLastD 0]:=by unfold lg;rw[if_pos hd]
  have an:=n5.k;have r:=n5.k0;have ah:(num ops (mX ops t) 3).2.known=(row ops (lV ops t).s).known:=rfl;refine ed (by rfl) (ed c.D.V0 ?_);obtain⟨l3,o3,ai,_,m1,m2⟩:=c.EC (i:=(num ops (mX ops t) 3).2.known.length-1) (by grind);have m3:eQ (.ptr l3 o3) Z=some (.I ((row ops (lV ops t).s).known.getLastD 0:Nat)):=by
   rw[m2,<-ah];show some (V.I (((num ops (mX ops t) 3).2.known.getD _ 0:Nat):Int))=_;rw[zW _ r]
  refine ed c.D.yS (ed c.D.yS (ed c.D.ok.len (qa (by grind) r (ed m1 (ed m3 ?_)))));rw[nx2,gZ];obtain⟨v,s6,k6⟩:=CT c [(fw ops t.s).1,(row ops (lV ops t).s).known.getLastD 0];have g6:(Z.new (.cells 3 1 true false (iT [(fw ops t.s).1,(row ops (lV ops t).s).known.getLastD 0]))).get Z.next=_:=fi _ _;obtain⟨l7,h7,b1,b2,b3,b4,D7⟩:=v.D.zbv (p:=t.s.ef.length) (by
   show _<(mX ops t).ef.length
   grind[mX,Br]) s6
  refine ed b1 (ed (by rfl) ?_);refine⟨by simp_all,qN m3 (fh _ ai),v.D.yS,v.D.yS,v.D.V0,?_⟩;simp only[Pb,wBk,wO]at b2;rw[b2,ei];have q7:=VT (t':={lV ops t with s:=lg ops t}) (v.step b4 D7 (by simp_all) q.gl v.hq rfl) (by rw[e9]);refine⟨b3,H _ _ _ (by grind[oR]) (kk.trans ((k6.gm L.mF).trans (b4.gm L.mF) (oR _ _)) ff) q7 ?_⟩;rw[e9];exact n5.setArgs _ _
 ·refine gM (gv (by omega) ?_);have e9:lg ops t=(num ops (mX ops t) 3).2:=by unfold lg;rw[if_neg hd]
  exact H _ _ _ ff kk (VT c (by rw[e9])) (by rw[e9];exact n5)
end
open Un
def uC(u:U)(v b s:V):List V:=[.I u.func,.I u.pc,v,b,s]
def eUn:o0 U where
 sz:=5
 rel F h u cs:=∃v b s,cs=uC u v b s/\iG eV F h u.ef v/\iG eK F h u.blocks b/\iG eT F h u.eh s
 len:=λ⟨_,_,_,h,_⟩=>by subst h;rfl
 one:=λ⟨_,_,_,h,a,c,d⟩=>by subst h;simp only[uC,eo,a.one,c.one,d.one];rfl
 fe:=λhk ⟨v,n,p,h,a,c,d⟩=>⟨v,n,p,h,a.fe hk,c.fe hk,d.fe hk⟩
 mono:=λhb ⟨v,n,p,h,a,c,d⟩=>⟨v,n,p,h,a.mono hb,c.mono hb,d.mono hb⟩
theorem ZA(ops:List Int)(t:Dt):(fork ops t).blocks.length=t.blocks.length+3:=by simp[fork,end_]
theorem YF(ops:List Int)(t:Dt):(wo ops t).blocks.length=t.blocks.length+2:=by simp[wo,end_]
theorem YL(ops:List Int)(t:Dt):(loop ops t).blocks.length=t.blocks.length+3:=by simp[loop,end_]
section
variable{F F' G G':Nat->Prop}{h h':Hp}{L:Lc}{ops:List Int}{t t':Dt}{R R':Rw}{Q:fq}
theorem zb0{a:List Int}{vo vs nv:V}{b:Nat}(y:ops.length<9223372036854775808)(q:Dq F G h L ops t R)(hn:Sm t.s 30)(hb:t.blocks.length=0)(A:h.get L.lr=some (.cells Q6 1 true false [vo,vs,nv]))(Y:iG (eI .i64) F h a vs)
  (ai:G b) (Z:b≠L.mF) (aa:∃c,h.get b=some (.cells 29 1 true false c)/\c.length=5)
  (H:∀F' h' R' d,(∀l,F l->F' l)->Kp F (gm G L.mF) h h'->Dq F' G h' L ops d R'->d=end_ {kT ops (a.take 6) t with s:=(ft ops (kT ops (a.take 6) t).s).2} 3 0 [] (ft ops (kT ops (a.take 6) t).s).1 []->
   fc (gh 5 (.ptr b 0) (.agg [.I 1,.I 2,R'.vv,R'.vb,R'.vs]) h') λ_ f=>oP (fM 5 (.ptr b 0) f) λr=>Q r f) :
  ny CS Q (.ptr L.lr 0) (.ptr b 0) (.ptr L.lu 0) (.ptr L.hH 0) (.ptr L.je 0) (.ptr L.xN 0) (.ptr L.oT 0) (.ptr L.TA 0) (IN L) (Hu L) (.I 0) h:=by
 refine AX (λk M N O P S T g j m n o h'=>∃(F':Nat->Prop) (R':Rw) (i:Nat) (t':Dt),M = .ptr L.lr 0/\N = .ptr b 0/\O = .ptr L.lu 0/\P = .ptr L.hH 0/\S = .ptr L.je 0/\T = .ptr L.xN 0/\
  g = .ptr L.oT 0/\j = .ptr L.TA 0/\m=IN L/\n=Hu L/\o = .I i/\i+k=6/\(∀l,F l->F' l)/\Kp F (gm G L.mF) h h'/\Dq F' G h' L ops t' R'/\Sm t'.s (30+30*i)/\t'.blocks.length<=3*i/\
  kT ops ((a.take 6).drop i) t' = kT ops (a.take 6) t) ?_ (k:=6)
  ⟨F,R,0,t,rfl,rfl,rfl,rfl,rfl,rfl,rfl,rfl,rfl,rfl,rfl,rfl,λ_ h=>h,Kp.refl _ _ _,q,hn,by omega,by rw[X9]⟩
 rintro k M N O P S T g j m n o h' ⟨F1,R1,i,d,rfl,rfl,rfl,rfl,rfl,rfl,rfl,rfl,rfl,rfl,rfl,aj,hF,U,u,W,b1,B⟩;unfold sB;have C:h'.get L.lr=some (.cells Q6 1 true false [vo,vs,nv]):=by rw[U.fe _ (.inl q.fr)];exact A
 have E:eQ (.ptr L.lr 1) h' = some vs:=kK C rfl;have lv:=u.D.ov.len;have I:iG (eI .i64) F h' a vs:=Y.fe λl hl=>U.fe l (.inl hl);refine ed (by rfl) (ed E (ed I.len (ed (by rfl) ?_)));have e1:mn (.bool (decide (((i:Nat):Int)<(a.length:Nat)))) (oB (some (V.I i)) λab=>eJ .lss 3 ab (V.I 6))=some (.bool (decide (((i:Nat):Int)<(a.length:Nat))&&decide (((i:Nat):Int)<6))):=by
  simp only[fy,qO,jD]
 refine ed e1 ?_
 have e2:mn (.bool (decide (((i:Nat):Int)<(a.length:Nat))&&decide (((i:Nat):Int)<6))) (oB (fQ 2 (.ptr L.lu 0)) λac=>oB (eQ ac h') λae=>oB (fD ae) λag=>eJ .lss 3 ag (V.I 160)) =
   some (.bool ((decide (((i:Nat):Int)<(a.length:Nat))&&decide (((i:Nat):Int)<6))&&decide (((d.s.ef.length:Nat):Int)<160))):=by
  simp only[fR,fy,wO,u.D.V0,lv,qO,jD]
 refine ed e2 (jF ?_);by_cases hgo:i<a.length/\i<6/\d.s.ef.length<160;rotate_left
 ·
  refine gv (by grind) ?_;have J:d=kT ops (a.take 6) t:=by
   rw[<-B];by_cases hi:i<(a.take 6).length
   ·rw[VV hi];unfold kT
    grind
   ·rw[List.drop_of_length_le (by omega)];rfl
  subst J;refine ed u.Hl ?_;refine KS u y W (by omega) λp f R2 K v w z=>?_;have eB:∀sn:Nat,fJ [V.ee,(V.I 0),(V.I 0),V.ee,V.ee,(V.I 0)] [(0,1),(1,1),(2,1),(3,1),(4,1),(5,1)] [(1,(V.I 3)),(5,.I (sn:Nat))]=some (.agg (kS ⟨[],3,0,[],[],sn⟩ .ee .ee .ee)):=λ_=>rfl;refine ed (eB _) ?_;refine SH w (show(kT ops (a.take 6) t).blocks.length<_ by omega) ⟨[],3,0,[],[],_⟩ rfl rfl rfl .nil λF3 h3 R3 f3 k3 X=>?_;have lA:fM 5 (.ptr L.lu 0) h3=some (.agg [.I 1,.I 2,R3.vv,R3.vb,R3.vs]):=Ar X.D.gu rfl;refine ed lA ?_;have kk:=(U.trans v hF).trans (k3.gm L.mF) (by simp_all);exact H F3 h3 R3 _ (by grind) kk X rfl
 obtain⟨g1,g2,g3⟩:=hgo;refine gI (by grind) ?_;obtain⟨l4,o4,u4,_,i1,i2,i3⟩:=I.Wj g1 .i64 rfl;obtain⟨rfl⟩:u4 = .I a[i]:=by simpa using i3.1
 refine ed (by rfl) (ed E (ed i1 (ed i2 ?_)));show cP CS ig [.I a[i],.I ((3:Nat):Int)] h' _;refine J8 (by decide) (by decide) ?_;have ah:i<(a.take 6).length:=by rw[JT];omega
 have x:kT ops ((a.take 6).drop (i+1)) (rN ops (lj a[i] 3) d)=kT ops (a.take 6) t:=by
  rw[<-B,VV ah]
  conv=>rhs;unfold kT
  rw[if_pos g3,List.getElem_take]
 have fin:∀(p:Nat->Prop) (f:Hp) (R2:Rw),(∀l,F1 l->p l)->Kp F1 (gm G L.mF) h' f->Dq p G f L ops (rN ops (lj a[i] 3) d) R2->Sm (rN ops (lj a[i] 3) d).s (30+30*i+30)->(rN ops (lj a[i] 3) d).blocks.length<=3*(i+1)->
   js CS Q (λM N O P S T g j m n o hh=>∃k',k' < k/\∃(F':Nat->Prop) (R':Rw) (i:Nat) (t':Dt),M = .ptr L.lr 0/\N = .ptr b 0/\O = .ptr L.lu 0/\P = .ptr L.hH 0/\S = .ptr L.je 0/\T = .ptr L.xN 0/\
    g = .ptr L.oT 0/\j = .ptr L.TA 0/\m=IN L/\n=Hu L/\o = .I i/\i+k' = 6/\(∀l,F l->F' l)/\Kp F (gm G L.mF) h hh/\Dq F' G hh L ops t' R'/\Sm t'.s (30+30*i)/\t'.blocks.length<=3*i/\
    kT ops ((a.take 6).drop i) t' = kT ops (a.take 6) t) (.ptr L.lr 0) (.ptr b 0) (.ptr L.lu 0) (.ptr L.hH 0) (.ptr L.je 0) (.ptr L.xN 0) (.ptr L.oT 0) (.ptr L.TA 0) (IN L) (Hu L) (.I i) f:=by
  intro p f R2 K v w z b2;refine Ad ?_;unfold rk;refine fS ?_;exact⟨k-1,by omega,p,R2,i+1,_,rfl,rfl,rfl,rfl,rfl,rfl,rfl,rfl,rfl,rfl,rfl,by omega,by simp_all,U.trans v hF,w,z,b2,x⟩
 by_cases c0:lj a[i] 3=0
 ·refine gM (gI (by omega) ?_);have e:rN ops (lj a[i] 3) d=fork ops d:=by unfold rN;rw[if_pos c0]
  rw[e]at fin;refine Yo u y W (by omega) (by omega) λp f R2 K v w z=>?_
  grind[ZA]
 refine gM (gv (by omega) ?_);by_cases c1:lj a[i] 3=1
 ·refine gM (gI (by omega) ?_);have e:rN ops (lj a[i] 3) d=loop ops d:=by unfold rN;rw[if_neg c0,if_pos c1]
  rw[e]at fin;refine Zy u y W (by omega) (by omega) λp f R2 s6 K v w z e6 _=>?_;subst e6;refine YI y z (by omega) (by omega) w λF3 h3 R3 f3 k3 X n3=>?_;refine zQ ?_;unfold qK;refine YZ y n3 (by omega) (by omega) X λF4 h4 R4 f4 k4 q4 n4=>?_;exact fin F4 h4 R4 (by grind) ((v.trans k3 K).trans k4 (by simp_all)) q4 (n4.le (by omega)) (by grind[YL])
 ·refine gM (gv (by omega) ?_);have e:rN ops (lj a[i] 3) d=wo ops d:=by unfold rN;rw[if_neg c0,if_neg c1]
  rw[e]at fin;refine YQ u y W (by omega) (by omega) λp f R2 K v w z=>?_
  grind[YF]
end
