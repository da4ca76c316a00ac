/- Parts. -/
import Derived.Test.YtbdcpiokodljaaaGreatDoorM42
set_option maxHeartbeats 4000000
namespace Go.Proofs.YtbdcpiokodljaaaGreatDoor.Hx
open Un Dm
section
variable{F F':Nat->Prop}{h h':Hp}{cs ds:List Pc}{Q:fo}{u:U}{vv vb vs oE wS rm oV bv bn bp Es:V}{ef hp locals:List Int}{lu lr lh lb Th:Nat}{fN:LP}{gw:Int}{fuel Cu steps polls b:Nat}{mN:Option Nat}{B:Bk}
theorem zeG(g:Good u){s:Rs}{N:Nat}(H0:ej F h (ey lb 43 (lB B bv bn bp)::Rn s.val oE lr lu u vv vb vs lh Th rm oV s.heap ds))(hu:zQ F h u vv vb vs)(aD:s.val.length=u.ef.length)(aV:s.heap.length<1000000000)(hB:u.blocks[b]? =some B)(iv:ie eN F h B.ef bv)(iN:ie eN F h B.next bn)
  (aW:N<=B.ef.length) (aE:∀v∈B.ef.drop N,fR u v=false) (hs:s.steps<=fuel+3000) (aF:s.polls<=s.steps) (aX:fuel<=1000000)
  (HQ:∀F' h' aj a b' c d w,Sn F h F' h'->ej F' h' (ey lh Th [rm,oV]::eJ (eI .u64) Dy aj oV::ds)->aj.length=s.heap.length->ExR F' h' (Vc u locals gw fuel Cu b B (oW u gw fuel (B.ef.drop N) s)) aj a d w->Q (.agg [.I a,.I b',.I c,w,.I d]) h')
  (HN:∀F' h' (s':Rs) t,Sn F h F' h'->ej F' h' (Rn s'.val oE lr lu u vv vb vs lh Th rm oV s'.heap ds)->s'.val.length=u.ef.length->s'.heap.length=s.heap.length->s'.polls<=s'.steps->s.steps<=s'.steps->¬fuel<=s'.steps->u.blocks[t]?≠none->Vc u locals gw fuel Cu b B (oW u gw fuel (B.ef.drop N) s)=runM u locals gw fuel Cu (some b) t {s' with steps:=s'.steps+1}->
   fN [.ptr lh 0,wS,.I gw,.I fuel,.ptr lu 0,.ptr lr 0,oE,.I ((s'.steps+1:Nat):Int),.I s'.polls,.I t,.I b] h') :
  mB CS Q fN [.ptr lh 0,wS,.I gw,.I fuel,.ptr lu 0,.ptr lr 0,oE,.I s.steps,.I s.polls,.I b,.ptr lb 0,.I N] h:=by
 have nv:=g.nv;have aY:=jA _ B.ef (AR g hB) λv hv=>by
  let⟨k,hk⟩:=nT.1 hv
  exact g.jW v b k ⟨B,hB,hk⟩
 obtain ⟨J,hJ⟩:∃J,J=λk l h'=>∃F' i s',l=[.ptr lh 0,wS,.I gw,.I fuel,.ptr lu 0,.ptr lr 0,oE,.I (s'.steps:Nat),.I (s'.polls:Nat),.I b,.ptr lb 0,.I (i:Nat)]/\i+k=B.ef.length/\N<=i/\Sn F h F' h'/\s'.val.length=u.ef.length/\s'.heap.length=s.heap.length/\
   s'.steps<=fuel+3000/\s'.polls<=s'.steps/\s.steps<=s'.steps/\oW u gw fuel (B.ef.drop N) s=oW u gw fuel (B.ef.drop i) s'/\ej F' h' (ey lb 43 (lB B bv bn bp)::Rn s'.val oE lr lu u vv vb vs lh Th rm oV s'.heap ds):=⟨_,rfl⟩
 refine DY J (λk x1 x2 x3 x4 x5 aZ a4 a5 a6 a7 a8 a9 h1 hi=>?_) (k:=B.ef.length-N) ?_;rotate_left
 ·rw[hJ];exact⟨F,N,s,rfl,by omega,ju _,Sn.refl _ _,aD,rfl,hs,aF,ju _,rfl,H0⟩
 rw [hJ]at hi;obtain⟨F1,i,s',⟨⟩,hk,ba,s1,f,m,bb,ap,aG,Y,L⟩:=hi;rw[Y]at HQ HN;unfold wj;have aq:=iv.since s1;have u1:=hu.since s1;have c0:ez (.ptr lb (0+0)) h1=some bv:=L.ld 0 rfl rfl;refine oF c0 (ed aq.len ?_);have Ac:fuel<=s'.steps->Vc u locals gw fuel Cu b B (oW u gw fuel (B.ef.drop i) s') = .Ac->fg (gJ 5 (.ptr lr 0) (.agg [.I 0,.I (-1),.I (-1),.ee,.I s'.steps]) h1) λ_ h2=>oP (fX 5 (.ptr lr 0) h2) λr=>Q r h2:=λ_ he=>by
  refine Up L rfl rfl λh2 s2 H2=>HQ F1 h2 s'.heap _ _ _ _ _ (s1.trans s2) H2 m ?_;rw[he];exact .inl ⟨rfl,rfl,rfl⟩
 by_cases hi:i<B.ef.length;rotate_left
 ·have hi:i=B.ef.length:=by omega
  subst hi;have er:oW u gw fuel (B.ef.drop B.ef.length) s' = .inr s':=by rw[List.drop_length];rfl
  rw[er]at HQ HN Ac;refine iI (VT ?_);by_cases cf:fuel<=s'.steps
  ·refine gj (by omega) (ed (rfl) (Ac cf ?_));show(if fuel<=s'.steps then Ex.Ac else _)=_;rw[if_pos cf]
  refine fU (by omega) (fI (oF (L.ld 0 rfl rfl) (fZ ?_)))
  have e1:Vc u locals gw fuel Cu b B (.inr s')=if B.fin=3 then rz u {s' with steps:=s'.steps+1} B.state else match pT B s' with
    |none=> .stuck
    |some t=>runM u locals gw fuel Cu (some b) t {s' with steps:=s'.steps+1}:=by
   show(if fuel<=s'.steps then Ex.Ac else _)=_;rw[if_neg cf];rfl
  have go:∀t,B.fin≠3->t∈B.next->pT B s' = some t->fN [.ptr lh 0,wS,.I gw,.I fuel,.ptr lu 0,.ptr lr 0,oE,.I ((s'.steps+1:Nat):Int),.I s'.polls,.I (t:Nat),.I b] h1:=λt hf hm hn=>by
   refine HN F1 h1 s' t s1 L.tail f m ap aG cf ?_ ?_
   ·have:=g.nx b t (by unfold next;rw[hB];exact hm);rw[hO this];simp
   ·rw[e1,if_neg hf,hn]
  have ak:=iN.since s1;rcases g.fin b B hB with⟨f1,fl⟩|⟨f2,fl,fc⟩|⟨f3,_,aH⟩
  ·have ht:=hO (l:=B.next) (i:=0) (by omega);have Z:=AU (l:=B.next) (n:=0) (by omega);generalize B.next[0]=t at*
   let⟨l2,o2,_,p1,p2⟩:=ak.nat ht .i64
   refine gj (by omega) (oF (L.ld 0 rfl rfl) (ed p1 (ed p2 (go t (by omega) Z ?_))));unfold pT;rw[if_pos f1,ht]
  ·refine fU (by omega) (fZ (gj (by omega) ?_));have aI:B.cond<s'.val.length:=by rw[f];exact Bl fc
   let⟨l3,o3,q1,q2,q3,_⟩:=L.Mg 1 rfl (KN aI) .i64
   refine oF (L.ld 0 rfl rfl) (ed q1 (ed q2 (tI ?_)));have ar:pT B s' = if Hq s'.val B.cond=0 then B.next[1]? else B.next[0]?:=by
    unfold pT;rw[if_neg (by omega),if_pos f2];rfl
   by_cases cz:Hq s'.val B.cond=0
   ·have ht:=hO (l:=B.next) (i:=1) (by omega);have Z:=AU (l:=B.next) (n:=1) (by omega);generalize B.next[1]=t at*
    let⟨l2,o2,_,p1,p2⟩:=ak.nat ht .i64
    refine gj cz (oF (L.ld 0 rfl rfl) (ed p1 (ed p2 (go t (by omega) Z ?_))));rw[ar,if_pos cz,ht]
   ·have ht:=hO (l:=B.next) (i:=0) (by omega);have Z:=AU (l:=B.next) (n:=0) (by omega);generalize B.next[0]=t at*
    let⟨l2,o2,_,p1,p2⟩:=ak.nat ht .i64
    refine fU cz (oF (L.ld 0 rfl rfl) (ed p1 (ed p2 (go t (by omega) Z ?_))));rw[ar,if_neg cz,ht]
  ·refine fU (by omega) (fZ (fU (by omega) ?_));have I:=hO aH;refine ed (L.tK 3 rfl rfl) (oF (L.ld 0 rfl rfl) ?_);refine Se g L u1 (j:=1) rfl f I λF2 h2 w s2 H2 q=>?_;refine Up H2 rfl (by simp only[eo,q.one];rfl) λO s3 C=>HQ F2 O s'.heap _ _ _ _ _ ((s1.trans s2).trans s3) C m ?_;rw[e1,if_pos f3,Qf I];exact .inr ⟨s'.steps+1,_,rfl,rfl,rfl,q.since s3,Wu g I⟩
 refine gy (VT ?_);have hv:=hO hi;have au:=Yq hi;have aJ:B.ef[i]∈B.ef.drop N:=by
  rw[nT];exact⟨i-N,by rw[wBW,show N+(i-N)=i by omega];exact hv⟩
 have P:=aE _ aJ;generalize B.ef[i]=v at*;rw[au]at HQ HN Ac;by_cases cf:fuel<=s'.steps
 ·refine gj (by omega) (ed (rfl) (Ac cf ?_));rw[Sc cf];rfl
 refine fU (by omega) (fI ?_);have aK:At u v b i:=⟨B,hB,hv⟩
 have aL:=g.jW v b i aK;have hx:=hO aL;generalize u.ef[v]=x at*;have aM:v<s'.val.length:=by omega
 let⟨l1,o1,_,p1,p2⟩:=aq.nat hv .i64
 let⟨l2,o2,xa,_,q1,q2,xr,_⟩:=u1.val hx
 have c2:ez (.ptr lu (0+2)) h1=some vv:=L.ld 3 rfl rfl;refine oF c0 (ed p1 (ed p2 (oF c2 (ed q1 (ed q2 ?_)))));refine gW L rfl rfl (by simp only[mW,eo,xr.one];rfl) λO C s3=>?_;generalize h1.next=lc at*;have R:=s1.trans s3
 have aa:∀{F4:Nat->Prop} {h4:Hp} {s4:Rs},Sn F h F4 h4->qk u gw v x s' = .inr s4->s4.val.length=u.ef.length->s4.heap.length=s.heap.length->s4.steps=s'.steps+1->s4.polls<=s'.polls+1->ej F4 h4 (ey lb 43 (lB B bv bn bp)::Rn s4.val oE lr lu u vv vb vs lh Th rm oV s4.heap ds)->
   gh CS Q fN (BY J k) [.ptr lh 0,wS,.I gw,.I fuel,.ptr lu 0,.ptr lr 0,oE,.I ((s'.steps+1:Nat):Int),.I (s4.polls:Nat),.I b,.ptr lb 0,.I i] h4:=λ{F4 h4 s4} st he aN aO aP bc H4=>by
  refine C8 ?_;unfold uO;refine fI ⟨k-1,by omega,?_⟩;rw[hJ,<-aP];exact⟨F4,i+1,s4,rfl,by omega,by omega,st,aN,aO,by omega,by omega,by omega,by rw[Y,au];exact UK cf hx he,H4⟩
 have M:∀a,a<u.ef.length->∃l o,gG 1 oE (.I (a:Nat))=some (.ptr l o)/\ez (.ptr l o) O=some (.int .u64 (Hq s'.val a))/\rO .u64 (Hq s'.val a):=λa ha=>by
  let⟨l,o,r1,q,r3,_⟩:=C.Mg 2 rfl (KN (v:=a) (by omega)) .i64
  exact⟨l,o,r1,q,r3⟩
 have al:=λw S=>Bl (g.use v x hx w S)
 have A:∀{w:Int},x.op≠19/\x.op≠20/\x.op≠22/\x.op≠23->rO .u64 w->w=Hg x (Hq s'.val) s'.heap->∃p W,gG 1 oE (.I v)=some p/\gJ 1 p (.int .u64 w) O=some (.val .undef W)/\O.next<=W.next/\
   gh CS Q fN (BY J k) [.ptr lh 0,wS,.I gw,.I fuel,.ptr lu 0,.ptr lr 0,oE,.I ((s'.steps+1:Nat):Int),.I s'.polls,.I b,.ptr lb 0,.I i] W:=λ{w} aQ S he=>by
  let⟨l,o,W,r1,q,X,H5,s5⟩:=C.JZ 2 rfl (k:=v) (y:=w) (u:= .int .u64 w) aM rfl rfl ⟨rfl,S⟩
  simp[mP,rV]at H5;refine⟨_,W,r1,q,X,aa (s4:={s' with val:=s'.val.set v w,steps:=s'.steps+1}) (R.trans s5) ?_ (by rw[MC];exact f) m rfl (PT _) H5.tail⟩;rw[Xs aQ,he];rfl
 have x0:ez (.ptr lc (0+0)) O=some (.I x.op):=C.ld 0 rfl rfl;have G:ez (.ptr lc (0+1)) O=some (.I x.a):=C.ld 0 rfl rfl;have ac:ez (.ptr lc (0+2)) O=some (.I x.b):=C.ld 0 rfl rfl;have am:ez (.ptr lc (0+3)) O=some (.I x.n):=C.ld 0 rfl rfl;have aR:ez (.ptr lc (0+4)) O=some xa:=C.ld 0 rfl rfl;have aw:ez (.ptr lc (0+5)) O=some (.I x.state):=C.ld 0 rfl rfl;have ae:x.op≠21:=λe=>by
  unfold fR at P;simp[hx,e]at P;cases P
 have bd:x.op≠1:=λe=>by
  unfold fR at P;simp[hx,e]at P;cases P
 let⟨ab1,ab2⟩:=EK (x:=x)
 have hA:two x.op=true\/nW x.op=true->x.a<u.ef.length:=λhh=>al _ (hh.elim (λh=>(ab1 h ae).1) λh=>ab2 h ae);have ag:two x.op=true->x.b<u.ef.length:=λhh=>al _ (ab1 hh ae).2;have E:s'.heap.length<1000000000:=by omega
 refine oF x0 (fZ ?_);by_cases o2:x.op=2
 ·let⟨p,W,r1,q,X,T⟩:=A (w:=qo x.n) (by omega) (Dr _) (by unfold Hg;rw[if_pos o2])
  refine gj (by omega) (oF am (ed (by rw[iH,jB]) (ed r1 ?_)));rw[q,ei];exact T
 refine fU (by omega) (fZ ?_);by_cases U:x.op=15
 ·have D:nW x.op=true:=by rw[U];rfl
  let⟨l,o,a1,a2,a3⟩:=M x.a (hA (.inr D))
  refine gj (by omega) (oF G (ed a1 (ed a2 (za2 C (i:=5) (j:=6) rfl rfl E a3 λS=>?_))))
  let⟨p,W,r1,q,X,T⟩:=A (w:=uo s'.heap (Hq s'.val x.a) / 4294967296) (by omega) S (by unfold Hg;rw[if_neg o2,if_pos U])
  refine ed (by rw[iH,jB,LH S]) (ed r1 ?_);rw[q,ei];exact T
 refine fU (by omega) (fZ ?_);by_cases ab:x.op=16
 ·have D:nW x.op=true:=by rw[ab];rfl
  let⟨l,o,a1,a2,a3⟩:=M x.a (hA (.inr D))
  refine gj (by omega) (oF G (ed a1 (ed a2 (ZG C (i:=5) (j:=6) rfl rfl E a3 λS=>?_))))
  let⟨p,W,r1,q,X,T⟩:=A (w:=uo s'.heap (Hq s'.val x.a) % 4294967296) (by omega) S (by unfold Hg;rw[if_neg o2,if_neg U,if_pos ab])
  refine ed (by rw[iH,jB,LH S]) (ed r1 ?_);rw[q,ei];exact T
 refine fU (by omega) (fZ ?_);by_cases ah:x.op=17
 ·have D:nW x.op=true:=by rw[ah];rfl
  let⟨l,o,a1,a2,a3⟩:=M x.a (hA (.inr D))
  refine gj (by omega) (oF G (ed a1 (ed a2 (oF am (ed (by rw[iH,jB]) (ed (by rw[mQ,jB]) (M7 C (i:=5) (j:=6) rfl rfl E (Dr _) λS=>?_)))))))
  let⟨p,W,r1,q,X,T⟩:=A (w:=uo s'.heap (qo (Hq s'.val x.a+qo x.n))) (by omega) S (by unfold Hg;rw[if_neg o2,if_neg U,if_neg ab,if_pos ah])
  refine⟨ju _,ed r1 ?_⟩;rw[q,ei];exact⟨X,T⟩
 refine fU (by omega) (fZ ?_);by_cases an:x.op=18
 ·have D:two x.op=true:=by rw[an];rfl
  let⟨l,o,a1,a2,a3⟩:=M x.a (hA (.inl D))
  let⟨l',o',b1,b2,b3⟩:=M x.b (ag D)
  refine gj (by omega) (oF G (ed a1 (ed a2 (ed (by rw[mQ,jB]) (oF ac (ed b1 (ed b2 (ed (by rw[mQ,jB]) (M7 C (i:=5) (j:=6) rfl rfl E (Dr _) λS=>?_)))))))))
  let⟨p,W,r1,q,X,T⟩:=A (w:=uo s'.heap (qo (qo (Hq s'.val x.a+1)+Hq s'.val x.b))) (by omega) S (by unfold Hg;rw[if_neg o2,if_neg U,if_neg ab,if_neg ah,if_pos an])
  refine⟨ju _,ed r1 ?_⟩;rw[q,ei];exact⟨X,T⟩
 refine fU (by omega) (fZ ?_);by_cases K:x.op=19
 ·have D:two x.op=true:=by rw[K];rfl
  let⟨l,o,a1,a2,a3⟩:=M x.a (hA (.inl D))
  let⟨l',o',b1,b2,b3⟩:=M x.b (ag D)
  refine gj (by omega) (oF G (ed a1 (ed a2 (oF am (ed (by rw[iH,jB]) (ed (by rw[mQ,jB]) (oF ac (ed b1 (ed b2 (UN C (i:=5) (j:=6) rfl rfl E (Dr _) b3 λh4 r s4 H4=>⟨s4.next,?_⟩))))))))));simp[mP,rV]at H4;refine aa (s4:={s' with heap:=NG s'.heap (qo (Hq s'.val x.a+qo x.n)) (Hq s'.val x.b),steps:=s'.steps+1}) (R.trans s4) ?_ f (by rw[Oz];exact m) rfl (PT _) H4.tail;unfold qk;rw[if_pos K];rfl
 refine fU (by omega) (fZ ?_);by_cases H:x.op=20
 ·have D:two x.op=true:=by rw[H];rfl
  let⟨l,o,a1,a2,a3⟩:=M x.a (hA (.inl D))
  let⟨l',o',b1,b2,b3⟩:=M x.b (ag D)
  have be:=g.putAt v x hx H;have ax:=hO (l:=x.args) (i:=0) (by omega);have aS:x.args[0]<u.ef.length:=al _ (by
   unfold iP;rw[if_neg ae,if_pos H];have:x.args.take 1=[x.args[0]]:=by rw[OX (by omega)];rfl
   rw[this];simp)
  have aT:x.args.getD 0 0=x.args[0]:=by rw[ED,ax];rfl
  generalize x.args[0]=c at*
  let⟨l6,o6,_,t1,t2⟩:=(xr.since s3).nat ax .i64
  let⟨l7,o7,y1,y2,y3⟩:=M c aS
  refine gj (by omega) (oF G (ed a1 (ed a2 (ed (by rw[mQ,jB]) (oF ac (ed b1 (ed b2 (ed (by rw[mQ,jB]) (oF aR (ed t1 (ed t2 (ed y1 (ed y2 (UN C (i:=5) (j:=6) rfl rfl E (Dr _) y3 λh4 r s4 H4=>⟨s4.next,?_⟩))))))))))))));simp[mP,rV]at H4;refine aa (s4:={s' with heap:=NG s'.heap (qo (qo (Hq s'.val x.a+1)+Hq s'.val x.b)) (Hq s'.val c),steps:=s'.steps+1}) (R.trans s4) ?_ f (by rw[Oz];exact m) rfl (PT _) H4.tail;unfold qk;rw[if_neg K,if_pos H,aT];rfl
 refine fU (by omega) (fZ ?_)
 have lv:∀{fs:List Fm},u.eh[x.state]? =some fs->qk u gw v x s' = .inl (rz u {s' with steps:=s'.steps+1} x.state)->
   cP CS jj [.agg (uC u vv vb vs),oE,.I x.state,.I v,.I ((s'.steps+1:Nat):Int)] O λay aU=>fg (gJ 5 (.ptr lr 0) ay aU) λ_ aA=>oP (fX 5 (.ptr lr 0) aA) λr=>Q r aA:=λ{fs} I he=>by
  refine Se g C (u1.since s3) (j:=2) rfl f I λF2 h2 w s2 H2 q=>?_;refine Up H2.tail rfl (by simp only[eo,q.one];rfl) λh4 s4 H4=>HQ F2 h4 s'.heap _ _ _ _ _ ((R.trans s2).trans s4) H4 m ?_;rw[X0 cf hx he,show Vc u locals gw fuel Cu b B (.inl (rz u {s' with steps:=s'.steps+1} x.state))=rz u {s' with steps:=s'.steps+1} x.state from rfl,Qf I];exact .inr ⟨s'.steps+1,_,rfl,rfl,rfl,q.since s4,Wu g I⟩
 by_cases V:x.op=22
 ·have D:nW x.op=true:=by rw[V];rfl
  let⟨l,o,a1,a2,a3⟩:=M x.a (hA (.inr D))
  have oV:=g.leave v x hx (by rw[V];rfl);refine gj (by omega) (oF G (ed a1 (ed a2 (fZ ?_))));by_cases z:Hq s'.val x.a=0
  ·refine gj z (ed (C.tK 4 rfl rfl) (oF aw (lv (hO oV) ?_)));unfold qk;rw[if_neg K,if_neg H,if_pos V,if_pos (show s'.of x.a=0 from z)]
  ·refine fU z (aa (s4:={s' with steps:=s'.steps+1}) R ?_ f m rfl (PT _) C.tail);unfold qk;rw[if_neg K,if_neg H,if_pos V,if_neg (show ¬s'.of x.a=0 from z)]
 refine fU (by omega) (fZ ?_);by_cases ao:x.op=23
 ·have oV:=g.leave v x hx (by rw[ao];rfl);refine gj (by omega) (ed (oS ..) (ed (a:= .bool (decide (0<=gw/\(s'.polls:Int)=gw))) ?_ (iJ ?_)))
  ·by_cases c:0<=gw
   ·rw[Ml c,mA];simp only[fe,gO];congr 2;rw[Ue,IE,A4];exact⟨λh=>⟨c,h⟩,λh=>h.2⟩
   ·rw[OZ c,EL,OZ λh=>c h.1]
  by_cases z:0<=gw/\(s'.polls:Int)=gw
  ·refine gj (Ml z) (ed (C.tK 4 rfl rfl) (oF aw (lv (hO oV) ?_)));unfold qk;rw[if_neg K,if_neg H,if_neg V,if_pos ao,if_pos z]
  ·refine fU (by rw[A4];exact z) (fI (aa (s4:={s' with steps:=s'.steps+1,polls:=s'.polls+1}) R ?_ f m rfl (ju _) C.tail));unfold qk;rw[if_neg K,if_neg H,if_neg V,if_pos ao,if_neg z]
 refine fU (by omega) ?_
 let⟨g1,g2⟩:=g.op v x hx
 have aB:∀c,(c=true↔x.op=8\/x.op=9)->lY CS Q fN (BY J k) [.ptr lh 0,wS,.I gw,.I fuel,.ptr lu 0,.ptr lr 0,oE,.I ((s'.steps+1:Nat):Int),.I s'.polls,.I b,.ptr lb 0,.I i,.I v,.ptr lc 0,.bool c] O:=λc hc=>by
  refine Dx ?_;unfold uV;have aC:Hg x (Hq s'.val) s'.heap=if x.op=8\/x.op=9 then BC x.op (Hq s'.val x.a) 0 else BC x.op (Hq s'.val x.a) (Hq s'.val x.b):=by
   unfold Hg;rw[if_neg o2,if_neg U,if_neg ab,if_neg ah,if_neg an]
  cases c with
  | true=>
    have ai:=hc.1 rfl;have D:nW x.op=true:=by rcases ai with c|c <;> rw[c] <;> rfl
    let⟨l,o,a1,a2,a3⟩:=M x.a (hA (.inr D))
    let⟨p,W,r1,q,X,T⟩:=A (w:=BC x.op (Hq s'.val x.a) 0) (by omega) (QO _ _ _) (by rw[aC,if_pos ai])
    refine iJ (gj rfl (oF x0 (oF G (ed a1 (ed a2 (Sh a3 AD (by omega) ⟨ju _,?_⟩))))));refine ed (rfl) (ed (rfl) (ed r1 ?_));rw[q,ei]
    exact⟨X,T⟩
  | false=>
    have ai:¬(x.op=8\/x.op=9):=λh=>by have:=hc.2 h;cases this
    have D:two x.op=true:=by
      unfold two;simp[RC,yl,A4,IE];omega
    let⟨l,o,a1,a2,a3⟩:=M x.a (hA (.inl D))
    let⟨l',o',b1,b2,b3⟩:=M x.b (ag D)
    let⟨p,W,r1,q,X,T⟩:=A (w:=BC x.op (Hq s'.val x.a) (Hq s'.val x.b)) (by omega) (QO _ _ _) (by rw[aC,if_neg ai])
    refine iJ (fU (by simp) (oF x0 (oF G (ed a1 (ed a2 (oF ac (ed b1 (ed b2 (Sh a3 b3 (by omega) ⟨ju _,?_⟩)))))))));refine ed (rfl) (ed (rfl) (ed r1 ?_));rw[q,ei];exact⟨X,T⟩
 refine ed (gO ..) (iJ ?_);by_cases o8:x.op=8
 ·have e:((x.op:Int) == 8)=true:=IE.2 (by omega);rw[e];exact gj rfl (aB true ⟨λ_=> .inl o8,λ_=>rfl⟩)
 ·have e:((x.op:Int) == 8)=false:=Uf.2 (by omega);rw[e];refine fU (by simp) (ed (gO ..) (aB _ ?_));rw[IE];constructor
  ·intro h;exact .inr (by omega)
  ·intro h;omega
end
open Un Dm
section
variable{F F':Nat->Prop}{h h':Hp}{cs ds:List Pc}{Q:fo}{u:U}{vv vb vs wS rm oV:V}{hp locals:List Int}{lh Th:Nat}{gw:Int}{fuel:Nat}
theorem Y4(g:Good u)(H0:ej F h (ey lh Th [rm,oV]::eJ (eI .u64) Dy hp oV::ds))(q:zQ F h u vv vb vs)(r:ie (eI .u64) F h locals wS)(ll:locals.length<1000000000)(aj:hp.length<1000000000)(O:fuel<=1000000)
  (H:∀F' h' m a b c d w,Sn F h F' h'->ej F' h' (ey lh Th [rm,oV]::eJ (eI .u64) Dy m oV::ds)->m.length=hp.length->ExR F' h' (runM u locals gw fuel (fuel+1) none 0 (qx u hp)) m a d w->Q (.agg [.I a,.I b,.I c,w,.I d]) h') :
  cP CS jJ [.agg (uC u vv vb vs),.ptr lh 0,wS,.I gw,.I fuel] h Q:=by
 refine GR rfl rfl ?_;unfold zF;have nv:=g.nv;have L2:=g.L2;refine jM H0 q.one λh1 H1 s1=>Be H1 λx P s2=>?_;generalize h.next=lu at*;generalize h1.next=lr at*;refine oF (P.ld 1 rfl rfl) (ed ((q.since s1).since s2).v.len ?_);rw[kW (z:=V.int .u64 0) rfl (by decide) (by omega),fE];obtain⟨M,R⟩:=P.make (E:=eI .u64) (ty:=Dy) (y:=0) (u:=V.int .u64 0) u.ef.length ⟨rfl,AD⟩ rfl;have M:ej F (x.new (.cells 60 1 true false (List.replicate u.ef.length (V.int .u64 0)))) _:=M;have R:Sn F x F (x.new (.cells 60 1 true false (List.replicate u.ef.length (V.int .u64 0)))):=R;generalize x.new (.cells 60 1 true false (List.replicate u.ef.length (V.int .u64 0)))=h3 at*;generalize x.next=lv at*;have S:=(s1.trans s2).trans R
 obtain ⟨J,T⟩:∃J:Nat->LP,J=λk l h'=>∃(F':Nat->Prop) (s:Rs) (mN:Option Nat) (b:Nat),l=[.ptr lh 0,wS,.I gw,.I fuel,.ptr lu 0,.ptr lr 0,.slice lv 0 u.ef.length,.I s.steps,.I s.polls,.I b,.I (Mw mN)]/\fuel<k+s.steps/\s.steps<=fuel/\s.polls<=s.steps/\b<u.blocks.length/\
   Sn F h F' h'/\s.val.length=u.ef.length/\s.heap.length=hp.length/\runM u locals gw fuel (fuel+1) none 0 (qx u hp)=runM u locals gw fuel k mN b s/\ej F' h' (Rn s.val (.slice lv 0 u.ef.length) lr lu u vv vb vs lh Th rm oV s.heap ds):=⟨_,rfl⟩
 refine DA J (λk x1 x2 x3 x4 x5 ak al am an ao ap h4 hi=>?_) (k:=fuel+1) ?_;rotate_left
 ·rw[T];exact⟨F,qx u hp,none,0,rfl,Pv _,Ol _,ju _,by omega,S,Xh,rfl,rfl,M⟩
 clear M P H1;rw[T]at hi;obtain⟨F4,s,mN,b,⟨⟩,hk,aq,ar,hb,s4,n,A,hR,H4⟩:=hi;obtain⟨Cu,rfl⟩:∃Cu,k=Cu+1:=⟨k-1,by omega⟩
 unfold vV;have u4:=q.since s4;have f:=hO hb;generalize u.blocks[b]=B at*;obtain⟨l1,o1,bv,bn,bp,_,x1,x2,N,iN,ip,_⟩:=u4.nV f;refine oF (H4.ld 2 rfl rfl) (ed x1 (ed x2 ?_));refine gW H4 rfl rfl (by simp only[lB,eo,N.one,iN.one,ip.one];rfl) λh5 H5 C=>?_;generalize h4.next=lb at*;have D:=s4.trans C;refine zfp g H5 (q.since D) (r.since D) n f (N.since C) (ip.since C) ll λh6 Es s6 H6=>?_;refine zfk g H6 n f ((N.since C).since s6) (by omega) λh7 s7 U=>?_;have o:=(C.trans s6).trans s7;have p:=s4.trans o;have G:B.ef.takeWhile (fR u)++B.ef.dropWhile (fR u)=B.ef:=wAt;have I:B.ef.drop (B.ef.takeWhile (fR u)).length=B.ef.dropWhile (fR u):=by
  have e:=List.drop_left (l₁:=B.ef.takeWhile (fR u)) (l₂:=B.ef.dropWhile (fR u));rw[G]at e;exact e
 have au:B.ef.length<=u.ef.length:=jA _ B.ef (AR g f) λv hv=>by
  obtain⟨k,hk⟩:=nT.1 hv;exact g.jW v b k ⟨B,f,hk⟩
 have W:(B.ef.takeWhile (fR u)).length<=B.ef.length:=by
  have:=congrArg List.length G;rw[K8]at this;omega
 have i:runM u locals gw fuel (Cu+1) mN b s=Vc u locals gw fuel Cu b B (oW u gw fuel (B.ef.drop (B.ef.takeWhile (fR u)).length) (kP u locals mN B s)):=by rw[zaW f,I]
 have X:(kP u locals mN B s).steps=s.steps+(B.ef.takeWhile (fR u)).length:=rfl;have Y:(kP u locals mN B s).polls=s.polls:=rfl;have Z:(kP u locals mN B s).val.length=u.ef.length:=(A7 _ _).trans n;have K:(kP u locals mN B s).heap.length=hp.length:=A;have U:ej F4 h7 (ey lb 43 (lB B bv bn bp)::Rn (kP u locals mN B s).val (.slice lv 0 u.ef.length) lr lu u vv vb vs lh Th rm oV (kP u locals mN B s).heap ds):=U;rw[<-X,<-Y];generalize kP u locals mN B s=sm at*;refine zeG (Cu:=Cu) (locals:=locals) g U (q.since p) Z (by omega) f (N.since o) (iN.since o) W (λv hv=>Fq g f v (by rw[<-I];exact hv)) (by omega) (by omega) O (λF8 h8 L a b' c d w j H8 aa he=>?_) λF8 h8 j t ab H8 ac ae L aw ax ag ah=>?_
 ·exact H F8 h8 L a b' c d w (p.trans j) H8 (aa.trans K) (by rw[hR,i];exact he)
 ·refine ⟨Cu,by omega,?_⟩;rw[T];have ai:t<u.blocks.length:=by
   rcases Ud t u.blocks.length with h|h
   ·exact h
   ·exact absurd (X8 h) ag
  exact⟨F8,{j with steps:=j.steps+1},some b,t,rfl,by show fuel<Cu+(j.steps+1);omega,by show j.steps+1<=fuel;omega,by show j.polls<=j.steps+1;omega,ai,p.trans ab,ac,ae.trans K,by rw[hR,i,ah],H8⟩
end
