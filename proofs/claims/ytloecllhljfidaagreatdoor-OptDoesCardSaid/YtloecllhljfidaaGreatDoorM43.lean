/- Parts. -/
import Derived.Test.YtloecllhljfidaaGreatDoorM42
set_option maxHeartbeats 4000000
namespace Go.Proofs.YtloecllhljfidaaGreatDoor.Hx
open Un Dm
section
variable{F F':Nat->Prop}{h h':Hp}{cs ds:List Pc}{Q:fq}{u:U}{vv vb vs nK xA rm oS bv bn bp DG:V}{ej hp locals:List Int}{lu lr lh lb Th:Nat}{fy:LP}{gv:Int}{fuel zs steps polls b:Nat}{lV:Option Nat}{B:Bk}
theorem zeY(g:Good u){s:Rs}{O:Nat}(H0:ev F h (eJ lb 43 (ku B bv bn bp)::Rn s.val nK lr lu u vv vb vs lh Th rm oS s.heap ds))(hu:tL F h u vv vb vs)(aD:s.val.length=u.ej.length)(aV:s.heap.length<1000000000)(hB:u.blocks[b]? =some B)(iv:il eN F h B.ej bv)(iN:il eN F h B.next bn)
  (aW:O<=B.ej.length) (aE:∀v∈B.ej.drop O,fL u v=false) (hs:s.steps<=fuel+3000) (aF:s.polls<=s.steps) (aX:fuel<=1000000)
  (HQ:∀F' h' aj a b' c d w,Sn F h F' h'->ev F' h' (eJ lh Th [rm,oS]::fg (eI .u64) C0 aj oS::ds)->aj.length=s.heap.length->ExR F' h' (V7 u locals gv fuel zs b B (nP u gv fuel (B.ej.drop O) s)) aj a d w->Q (.agg [.I a,.I b',.I c,w,.I d]) h')
  (HN:∀F' h' (s':Rs) t,Sn F h F' h'->ev F' h' (Rn s'.val nK lr lu u vv vb vs lh Th rm oS s'.heap ds)->s'.val.length=u.ej.length->s'.heap.length=s.heap.length->s'.polls<=s'.steps->s.steps<=s'.steps->¬fuel<=s'.steps->u.blocks[t]?≠none->V7 u locals gv fuel zs b B (nP u gv fuel (B.ej.drop O) s)=runM u locals gv fuel zs (some b) t {s' with steps:=s'.steps+1}->
   fy [.ptr lh 0,xA,.I gv,.I fuel,.ptr lu 0,.ptr lr 0,nK,.I ((s'.steps+1:Nat):Int),.I s'.polls,.I t,.I b] h') :
  l0 Q fy [.ptr lh 0,xA,.I gv,.I fuel,.ptr lu 0,.ptr lr 0,nK,.I s.steps,.I s.polls,.I b,.ptr lb 0,.I O] h:=by
 have nv:=g.nv;have aY:=iP _ B.ej (wM g hB) λv hv=>by
  let⟨k,hk⟩:=mn.1 hv
  exact g.iM v b k ⟨B,hB,hk⟩
 obtain ⟨J,hJ⟩:∃J,J=λk l h'=>∃F' i s',l=[.ptr lh 0,xA,.I gv,.I fuel,.ptr lu 0,.ptr lr 0,nK,.I (s'.steps:Nat),.I (s'.polls:Nat),.I b,.ptr lb 0,.I (i:Nat)]/\i+k=B.ej.length/\O<=i/\Sn F h F' h'/\s'.val.length=u.ej.length/\s'.heap.length=s.heap.length/\
   s'.steps<=fuel+3000/\s'.polls<=s'.steps/\s.steps<=s'.steps/\nP u gv fuel (B.ej.drop O) s=nP u gv fuel (B.ej.drop i) s'/\ev F' h' (eJ lb 43 (ku B bv bn bp)::Rn s'.val nK lr lu u vv vb vs lh Th rm oS s'.heap ds):=⟨_,rfl⟩
 refine Dg J (λk x1 x2 x3 x4 x5 aZ a5 a6 a7 a8 a9 ba h1 hi=>?_) (k:=B.ej.length-O) ?_;rotate_left
 ·rw[hJ];exact⟨F,O,s,rfl,by omega,iZ _,Sn.refl _ _,aD,rfl,hs,aF,iZ _,rfl,H0⟩
 rw [hJ]at hi;obtain⟨F1,i,s',⟨⟩,hk,bb,s1,f,m,bc,ap,aG,Z,M⟩:=hi;rw[Z]at HQ HN;unfold wA;have aq:=iv.since s1;have u1:=hu.since s1;have c0:fe (.ptr lb (0+0)) h1=some bv:=M.ld 0 rfl rfl;refine oF c0 (eh aq.len ?_);have zQ:fuel<=s'.steps->V7 u locals gv fuel zs b B (nP u gv fuel (B.ej.drop i) s') = .zQ->fj (gq 5 (.ptr lr 0) (.agg [.I 0,.I (-1),.I (-1),.ei,.I s'.steps]) h1) λ_ h2=>oP (fO 5 (.ptr lr 0) h2) λr=>Q r h2:=λ_ he=>by
  refine Vc M rfl rfl λh2 s2 H2=>HQ F1 h2 s'.heap _ _ _ _ _ (s1.trans s2) H2 m ?_;rw[he];exact .inl ⟨rfl,rfl,rfl⟩
 by_cases hi:i<B.ej.length;rotate_left
 ·have hi:i=B.ej.length:=by omega
  subst hi;have er:nP u gv fuel (B.ej.drop B.ej.length) s' = .inr s':=by rw[List.drop_length];rfl
  rw[er]at HQ HN zQ;refine hY (PO ?_);by_cases cf:fuel<=s'.steps
  ·refine fW (by omega) (eh (rfl) (zQ cf ?_));show(if fuel<=s'.steps then Ex.zQ else _)=_;rw[if_pos cf]
  refine fP (by omega) (fF (oF (M.ld 0 rfl rfl) (fX ?_)))
  have e1:V7 u locals gv fuel zs b B (.inr s')=if B.fin=3 then rz u {s' with steps:=s'.steps+1} B.state else match pN B s' with
    |none=> .stuck
    |some t=>runM u locals gv fuel zs (some b) t {s' with steps:=s'.steps+1}:=by
   show(if fuel<=s'.steps then Ex.zQ else _)=_;rw[if_neg cf];rfl
  have go:∀t,B.fin≠3->t∈B.next->pN B s' = some t->fy [.ptr lh 0,xA,.I gv,.I fuel,.ptr lu 0,.ptr lr 0,nK,.I ((s'.steps+1:Nat):Int),.I s'.polls,.I (t:Nat),.I b] h1:=λt hf hm hn=>by
   refine HN F1 h1 s' t s1 M.tail f m ap aG cf ?_ ?_
   ·have:=g.nx b t (by unfold next;rw[hB];exact hm);rw[gN this];simp
   ·rw[e1,if_neg hf,hn]
  have ak:=iN.since s1;rcases g.fin b B hB with⟨f1,fl⟩|⟨f2,fl,fc⟩|⟨f3,_,aH⟩
  ·have ht:=gN (l:=B.next) (i:=0) (by omega);have aa:=zI (l:=B.next) (n:=0) (by omega);generalize B.next[0]=t at*
   let⟨l2,o2,_,p1,p2⟩:=ak.nat ht .i64
   refine fW (by omega) (oF (M.ld 0 rfl rfl) (eh p1 (eh p2 (go t (by omega) aa ?_))));unfold pN;rw[if_pos f1,ht]
  ·refine fP (by omega) (fX (fW (by omega) ?_));have aI:B.cond<s'.val.length:=by rw[f];exact uP fc
   let⟨l3,o3,q1,q2,q3,_⟩:=M.Mq 1 rfl (KC aI) .i64
   refine oF (M.ld 0 rfl rfl) (eh q1 (eh q2 (yq ?_)));have ar:pN B s' = if Hh s'.val B.cond=0 then B.next[1]? else B.next[0]?:=by
    unfold pN;rw[if_neg (by omega),if_pos f2];rfl
   by_cases cz:Hh s'.val B.cond=0
   ·have ht:=gN (l:=B.next) (i:=1) (by omega);have aa:=zI (l:=B.next) (n:=1) (by omega);generalize B.next[1]=t at*
    let⟨l2,o2,_,p1,p2⟩:=ak.nat ht .i64
    refine fW cz (oF (M.ld 0 rfl rfl) (eh p1 (eh p2 (go t (by omega) aa ?_))));rw[ar,if_pos cz,ht]
   ·have ht:=gN (l:=B.next) (i:=0) (by omega);have aa:=zI (l:=B.next) (n:=0) (by omega);generalize B.next[0]=t at*
    let⟨l2,o2,_,p1,p2⟩:=ak.nat ht .i64
    refine fP cz (oF (M.ld 0 rfl rfl) (eh p1 (eh p2 (go t (by omega) aa ?_))));rw[ar,if_neg cz,ht]
  ·refine fP (by omega) (fX (fP (by omega) ?_));have K:=gN aH;refine eh (M.mY 3 rfl rfl) (oF (M.ld 0 rfl rfl) ?_);refine TZ g M u1 (j:=1) rfl f K λF2 h2 w s2 H2 q=>?_;refine Vc H2 rfl (by simp only[eQ,q.one];rfl) λP s3 C=>HQ F2 P s'.heap _ _ _ _ _ ((s1.trans s2).trans s3) C m ?_;rw[e1,if_pos f3,Qw K];exact .inr ⟨s'.steps+1,_,rfl,rfl,rfl,q.since s3,Xh g K⟩
 refine gy (PO ?_);have hv:=gN hi;have au:=YD hi;have aJ:B.ej[i]∈B.ej.drop O:=by
  rw[mn];exact⟨i-O,by rw[wBa,show O+(i-O)=i by omega];exact hv⟩
 have R:=aE _ aJ;generalize B.ej[i]=v at*;rw[au]at HQ HN zQ;by_cases cf:fuel<=s'.steps
 ·refine fW (by omega) (eh (rfl) (zQ cf ?_));rw[TG cf];rfl
 refine fP (by omega) (fF ?_);have aK:At u v b i:=⟨B,hB,hv⟩
 have aL:=g.iM v b i aK;have hx:=gN aL;generalize u.ej[v]=x at*;have aM:v<s'.val.length:=by omega
 let⟨l1,o1,_,p1,p2⟩:=aq.nat hv .i64
 let⟨l2,o2,xa,_,q1,q2,xr,_⟩:=u1.val hx
 have c2:fe (.ptr lu (0+2)) h1=some vv:=M.ld 3 rfl rfl;refine oF c0 (eh p1 (eh p2 (oF c2 (eh q1 (eh q2 ?_)))));refine gQ M rfl rfl (by simp only[mh,eQ,xr.one];rfl) λP C s3=>?_;generalize h1.next=lc at*;have S:=s1.trans s3
 have ab:∀{F4:Nat->Prop} {h4:Hp} {s4:Rs},Sn F h F4 h4->pA u gv v x s' = .inr s4->s4.val.length=u.ej.length->s4.heap.length=s.heap.length->s4.steps=s'.steps+1->s4.polls<=s'.polls+1->ev F4 h4 (eJ lb 43 (ku B bv bn bp)::Rn s4.val nK lr lu u vv vb vs lh Th rm oS s4.heap ds)->
   gg Q fy (Es J k) [.ptr lh 0,xA,.I gv,.I fuel,.ptr lu 0,.ptr lr 0,nK,.I ((s'.steps+1:Nat):Int),.I (s4.polls:Nat),.I b,.ptr lb 0,.I i] h4:=λ{F4 h4 s4} st he aN aO aP bd H4=>by
  refine Cz ?_;unfold uV;refine fF ⟨k-1,by omega,?_⟩;rw[hJ,<-aP];exact⟨F4,i+1,s4,rfl,by omega,by omega,st,aN,aO,by omega,by omega,by omega,by rw[Z,au];exact UR cf hx he,H4⟩
 have N:∀a,a<u.ej.length->∃l o,gB 1 nK (.I (a:Nat))=some (.ptr l o)/\fe (.ptr l o) P=some (.int .u64 (Hh s'.val a))/\sO .u64 (Hh s'.val a):=λa ha=>by
  let⟨l,o,H,q,r3,_⟩:=C.Mq 2 rfl (KC (v:=a) (by omega)) .i64
  exact⟨l,o,H,q,r3⟩
 have al:=λw T=>uP (g.use v x hx w T)
 have A:∀{w:Int},x.op≠19/\x.op≠20/\x.op≠22/\x.op≠23->sO .u64 w->w=zx x (Hh s'.val) s'.heap->∃p X,gB 1 nK (.I v)=some p/\gq 1 p (.int .u64 w) P=some (.val .undef X)/\P.next<=X.next/\
   gg Q fy (Es J k) [.ptr lh 0,xA,.I gv,.I fuel,.ptr lu 0,.ptr lr 0,nK,.I ((s'.steps+1:Nat):Int),.I s'.polls,.I b,.ptr lb 0,.I i] X:=λ{w} aQ T he=>by
  let⟨l,o,X,H,q,Y,H5,s5⟩:=C.IH 2 rfl (k:=v) (y:=w) (u:= .int .u64 w) aM rfl rfl ⟨rfl,T⟩
  simp[oU,pJ]at H5;refine⟨_,X,H,q,Y,ab (s4:={s' with val:=s'.val.set v w,steps:=s'.steps+1}) (S.trans s5) ?_ (by rw[Lj];exact f) m rfl (PH _) H5.tail⟩;rw[X8 aQ,he];rfl
 have x0:fe (.ptr lc (0+0)) P=some (.I x.op):=C.ld 0 rfl rfl;have G:fe (.ptr lc (0+1)) P=some (.I x.a):=C.ld 0 rfl rfl;have ad:fe (.ptr lc (0+2)) P=some (.I x.b):=C.ld 0 rfl rfl;have am:fe (.ptr lc (0+3)) P=some (.I x.n):=C.ld 0 rfl rfl;have aR:fe (.ptr lc (0+4)) P=some xa:=C.ld 0 rfl rfl;have aw:fe (.ptr lc (0+5)) P=some (.I x.state):=C.ld 0 rfl rfl;have ae:x.op≠21:=λe=>by
  unfold fL at R;simp[hx,e]at R;cases R
 have be:x.op≠1:=λe=>by
  unfold fL at R;simp[hx,e]at R;cases R
 let⟨ab1,ab2⟩:=yV (x:=x)
 have hA:two x.op=true\/ml x.op=true->x.a<u.ej.length:=λhh=>al _ (hh.elim (λh=>(ab1 h ae).1) λh=>ab2 h ae);have ag:two x.op=true->x.b<u.ej.length:=λhh=>al _ (ab1 hh ae).2;have E:s'.heap.length<1000000000:=by omega
 refine oF x0 (fX ?_);by_cases o2:x.op=2
 ·let⟨p,X,H,q,Y,U⟩:=A (w:=qq x.n) (by omega) (Cw _) (by unfold zx;rw[if_pos o2])
  refine fW (by omega) (oF am (eh (by rw[iz,jn]) (eh H ?_)));rw[q,en];exact U
 refine fP (by omega) (fX ?_);by_cases V:x.op=15
 ·have D:ml x.op=true:=by rw[V];rfl
  let⟨l,o,a1,a2,a3⟩:=N x.a (hA (.inr D))
  refine fW (by omega) (oF G (eh a1 (eh a2 (zbC C (i:=5) (j:=6) rfl rfl E a3 λT=>?_))))
  let⟨p,X,H,q,Y,U⟩:=A (w:=vj s'.heap (Hh s'.val x.a) / 4294967296) (by omega) T (by unfold zx;rw[if_neg o2,if_pos V])
  refine eh (by rw[iz,jn,LW T]) (eh H ?_);rw[q,en];exact U
 refine fP (by omega) (fX ?_);by_cases ac:x.op=16
 ·have D:ml x.op=true:=by rw[ac];rfl
  let⟨l,o,a1,a2,a3⟩:=N x.a (hA (.inr D))
  refine fW (by omega) (oF G (eh a1 (eh a2 (zaJ C (i:=5) (j:=6) rfl rfl E a3 λT=>?_))))
  let⟨p,X,H,q,Y,U⟩:=A (w:=vj s'.heap (Hh s'.val x.a) % 4294967296) (by omega) T (by unfold zx;rw[if_neg o2,if_neg V,if_pos ac])
  refine eh (by rw[iz,jn,LW T]) (eh H ?_);rw[q,en];exact U
 refine fP (by omega) (fX ?_);by_cases ah:x.op=17
 ·have D:ml x.op=true:=by rw[ah];rfl
  let⟨l,o,a1,a2,a3⟩:=N x.a (hA (.inr D))
  refine fW (by omega) (oF G (eh a1 (eh a2 (oF am (eh (by rw[iz,jn]) (eh (by rw[nT,jn]) (M8 C (i:=5) (j:=6) rfl rfl E (Cw _) λT=>?_)))))))
  let⟨p,X,H,q,Y,U⟩:=A (w:=vj s'.heap (qq (Hh s'.val x.a+qq x.n))) (by omega) T (by unfold zx;rw[if_neg o2,if_neg V,if_neg ac,if_pos ah])
  refine⟨iZ _,eh H ?_⟩;rw[q,en];exact⟨Y,U⟩
 refine fP (by omega) (fX ?_);by_cases an:x.op=18
 ·have D:two x.op=true:=by rw[an];rfl
  let⟨l,o,a1,a2,a3⟩:=N x.a (hA (.inl D))
  let⟨l',o',b1,b2,b3⟩:=N x.b (ag D)
  refine fW (by omega) (oF G (eh a1 (eh a2 (eh (by rw[nT,jn]) (oF ad (eh b1 (eh b2 (eh (by rw[nT,jn]) (M8 C (i:=5) (j:=6) rfl rfl E (Cw _) λT=>?_)))))))))
  let⟨p,X,H,q,Y,U⟩:=A (w:=vj s'.heap (qq (qq (Hh s'.val x.a+1)+Hh s'.val x.b))) (by omega) T (by unfold zx;rw[if_neg o2,if_neg V,if_neg ac,if_neg ah,if_pos an])
  refine⟨iZ _,eh H ?_⟩;rw[q,en];exact⟨Y,U⟩
 refine fP (by omega) (fX ?_);by_cases L:x.op=19
 ·have D:two x.op=true:=by rw[L];rfl
  let⟨l,o,a1,a2,a3⟩:=N x.a (hA (.inl D))
  let⟨l',o',b1,b2,b3⟩:=N x.b (ag D)
  refine fW (by omega) (oF G (eh a1 (eh a2 (oF am (eh (by rw[iz,jn]) (eh (by rw[nT,jn]) (oF ad (eh b1 (eh b2 (UQ C (i:=5) (j:=6) rfl rfl E (Cw _) b3 λh4 r s4 H4=>⟨s4.next,?_⟩))))))))));simp[oU,pJ]at H4;refine ab (s4:={s' with heap:=Nz s'.heap (qq (Hh s'.val x.a+qq x.n)) (Hh s'.val x.b),steps:=s'.steps+1}) (S.trans s4) ?_ f (by rw[OB];exact m) rfl (PH _) H4.tail;unfold pA;rw[if_pos L];rfl
 refine fP (by omega) (fX ?_);by_cases I:x.op=20
 ·have D:two x.op=true:=by rw[I];rfl
  let⟨l,o,a1,a2,a3⟩:=N x.a (hA (.inl D))
  let⟨l',o',b1,b2,b3⟩:=N x.b (ag D)
  have bf:=g.putAt v x hx I;have ax:=gN (l:=x.args) (i:=0) (by omega);have aS:x.args[0]<u.ej.length:=al _ (by
   unfold gG;rw[if_neg ae,if_pos I];have:x.args.take 1=[x.args[0]]:=by rw[M4 (by omega)];rfl
   rw[this];simp)
  have aT:x.args.getD 0 0=x.args[0]:=by rw[CH,ax];rfl
  generalize x.args[0]=c at*
  let⟨l6,o6,_,t1,t2⟩:=(xr.since s3).nat ax .i64
  let⟨l7,o7,y1,y2,y3⟩:=N c aS
  refine fW (by omega) (oF G (eh a1 (eh a2 (eh (by rw[nT,jn]) (oF ad (eh b1 (eh b2 (eh (by rw[nT,jn]) (oF aR (eh t1 (eh t2 (eh y1 (eh y2 (UQ C (i:=5) (j:=6) rfl rfl E (Cw _) y3 λh4 r s4 H4=>⟨s4.next,?_⟩))))))))))))));simp[oU,pJ]at H4;refine ab (s4:={s' with heap:=Nz s'.heap (qq (qq (Hh s'.val x.a+1)+Hh s'.val x.b)) (Hh s'.val c),steps:=s'.steps+1}) (S.trans s4) ?_ f (by rw[OB];exact m) rfl (PH _) H4.tail;unfold pA;rw[if_neg L,if_pos I,aT];rfl
 refine fP (by omega) (fX ?_)
 have lv:∀{fs:List Fm},u.eo[x.state]? =some fs->pA u gv v x s' = .inl (rz u {s' with steps:=s'.steps+1} x.state)->
   cP CS jq [.agg (uC u vv vb vs),nK,.I x.state,.I v,.I ((s'.steps+1:Nat):Int)] P λay aU=>fj (gq 5 (.ptr lr 0) ay aU) λ_ aA=>oP (fO 5 (.ptr lr 0) aA) λr=>Q r aA:=λ{fs} K he=>by
  refine TZ g C (u1.since s3) (j:=2) rfl f K λF2 h2 w s2 H2 q=>?_;refine Vc H2.tail rfl (by simp only[eQ,q.one];rfl) λh4 s4 H4=>HQ F2 h4 s'.heap _ _ _ _ _ ((S.trans s2).trans s4) H4 m ?_;rw[Yp cf hx he,show V7 u locals gv fuel zs b B (.inl (rz u {s' with steps:=s'.steps+1} x.state))=rz u {s' with steps:=s'.steps+1} x.state from rfl,Qw K];exact .inr ⟨s'.steps+1,_,rfl,rfl,rfl,q.since s4,Xh g K⟩
 by_cases W:x.op=22
 ·have D:ml x.op=true:=by rw[W];rfl
  let⟨l,o,a1,a2,a3⟩:=N x.a (hA (.inr D))
  have oS:=g.leave v x hx (by rw[W];rfl);refine fW (by omega) (oF G (eh a1 (eh a2 (fX ?_))));by_cases z:Hh s'.val x.a=0
  ·refine fW z (eh (C.mY 4 rfl rfl) (oF aw (lv (gN oS) ?_)));unfold pA;rw[if_neg L,if_neg I,if_pos W,if_pos (show s'.of x.a=0 from z)]
  ·refine fP z (ab (s4:={s' with steps:=s'.steps+1}) S ?_ f m rfl (PH _) C.tail);unfold pA;rw[if_neg L,if_neg I,if_pos W,if_neg (show ¬s'.of x.a=0 from z)]
 refine fP (by omega) (fX ?_);by_cases ao:x.op=23
 ·have oS:=g.leave v x hx (by rw[ao];rfl);refine fW (by omega) (eh (nW ..) (eh (a:= .bool (decide (0<=gv/\(s'.polls:Int)=gv))) ?_ (iB ?_)))
  ·by_cases c:0<=gv
   ·rw[JO c,pt];simp only[ft,gR];congr 2;rw[Wr,Bg,zX];exact⟨λh=>⟨c,h⟩,λh=>h.2⟩
   ·rw[Li c,Fb,Li λh=>c h.1]
  by_cases z:0<=gv/\(s'.polls:Int)=gv
  ·refine fW (JO z) (eh (C.mY 4 rfl rfl) (oF aw (lv (gN oS) ?_)));unfold pA;rw[if_neg L,if_neg I,if_neg W,if_pos ao,if_pos z]
  ·refine fP (by rw[zX];exact z) (fF (ab (s4:={s' with steps:=s'.steps+1,polls:=s'.polls+1}) S ?_ f m rfl (iZ _) C.tail));unfold pA;rw[if_neg L,if_neg I,if_neg W,if_pos ao,if_neg z]
 refine fP (by omega) ?_
 let⟨g1,g2⟩:=g.op v x hx
 have aB:∀c,(c=true↔x.op=8\/x.op=9)->lH Q fy (Es J k) [.ptr lh 0,xA,.I gv,.I fuel,.ptr lu 0,.ptr lr 0,nK,.I ((s'.steps+1:Nat):Int),.I s'.polls,.I b,.ptr lb 0,.I i,.I v,.ptr lc 0,.bool c] P:=λc hc=>by
  refine Cq ?_;unfold vm;have aC:zx x (Hh s'.val) s'.heap=if x.op=8\/x.op=9 then Bh x.op (Hh s'.val x.a) 0 else Bh x.op (Hh s'.val x.a) (Hh s'.val x.b):=by
   unfold zx;rw[if_neg o2,if_neg V,if_neg ac,if_neg ah,if_neg an]
  cases c with
  | true=>
    have ai:=hc.1 rfl;have D:ml x.op=true:=by rcases ai with c|c <;> rw[c] <;> rfl
    let⟨l,o,a1,a2,a3⟩:=N x.a (hA (.inr D))
    let⟨p,X,H,q,Y,U⟩:=A (w:=Bh x.op (Hh s'.val x.a) 0) (by omega) (QW _ _ _) (by rw[aC,if_pos ai])
    refine iB (fW rfl (oF x0 (oF G (eh a1 (eh a2 (Ui a3 zY (by omega) ⟨iZ _,?_⟩))))));refine eh (rfl) (eh (rfl) (eh H ?_));rw[q,en]
    exact⟨Y,U⟩
  | false=>
    have ai:¬(x.op=8\/x.op=9):=λh=>by have:=hc.2 h;cases this
    have D:two x.op=true:=by
      unfold two;simp[OK,vU,zX,Bg];omega
    let⟨l,o,a1,a2,a3⟩:=N x.a (hA (.inl D))
    let⟨l',o',b1,b2,b3⟩:=N x.b (ag D)
    let⟨p,X,H,q,Y,U⟩:=A (w:=Bh x.op (Hh s'.val x.a) (Hh s'.val x.b)) (by omega) (QW _ _ _) (by rw[aC,if_neg ai])
    refine iB (fP (by simp) (oF x0 (oF G (eh a1 (eh a2 (oF ad (eh b1 (eh b2 (Ui a3 b3 (by omega) ⟨iZ _,?_⟩)))))))));refine eh (rfl) (eh (rfl) (eh H ?_));rw[q,en];exact⟨Y,U⟩
 refine eh (gR ..) (iB ?_);by_cases o8:x.op=8
 ·have e:((x.op:Int) == 8)=true:=Bg.2 (by omega);rw[e];exact fW rfl (aB true ⟨λ_=> .inl o8,λ_=>rfl⟩)
 ·have e:((x.op:Int) == 8)=false:=PG.2 (by omega);rw[e];refine fP (by simp) (eh (gR ..) (aB _ ?_));rw[Bg];constructor
  ·intro h;exact .inr (by omega)
  ·intro h;omega
end
open Un Dm
section
variable{F F':Nat->Prop}{h h':Hp}{cs ds:List Pc}{Q:fq}{u:U}{vv vb vs xA rm oS:V}{hp locals:List Int}{lh Th:Nat}{gv:Int}{fuel:Nat}
theorem YR(g:Good u)(H0:ev F h (eJ lh Th [rm,oS]::fg (eI .u64) C0 hp oS::ds))(q:tL F h u vv vb vs)(r:il (eI .u64) F h locals xA)(ll:locals.length<1000000000)(ai:hp.length<1000000000)(O:fuel<=1000000)
  (H:∀F' h' m a b c d w,Sn F h F' h'->ev F' h' (eJ lh Th [rm,oS]::fg (eI .u64) C0 m oS::ds)->m.length=hp.length->ExR F' h' (runM u locals gv fuel (fuel+1) none 0 (ny u hp)) m a d w->Q (.agg [.I a,.I b,.I c,w,.I d]) h') :
  cP CS jU [.agg (uC u vv vb vs),.ptr lh 0,xA,.I gv,.I fuel] h Q:=by
 refine G8 ?_;have nv:=g.nv;have I5:=g.I5;refine j4 H0 q.one λh1 H1 s1=>pz H1 λx P s2=>?_;generalize h.next=lu at*;generalize h1.next=lr at*;refine oF (P.ld 1 rfl rfl) (eh ((q.since s1).since s2).v.len ?_);rw[jE (z:=V.int .u64 0) rfl (by decide) (by omega),fu];obtain⟨M,R⟩:=P.make (E:=eI .u64) (ty:=C0) (y:=0) (u:=V.int .u64 0) u.ej.length ⟨rfl,zY⟩ rfl;have M:ev F (x.new (.cells 79 1 true false (List.replicate u.ej.length (V.int .u64 0)))) _:=M;have R:Sn F x F (x.new (.cells 79 1 true false (List.replicate u.ej.length (V.int .u64 0)))):=R;generalize x.new (.cells 79 1 true false (List.replicate u.ej.length (V.int .u64 0)))=h3 at*;generalize x.next=lv at*;have S:=(s1.trans s2).trans R
 obtain ⟨J,T⟩:∃J:Nat->LP,J=λk l h'=>∃(F':Nat->Prop) (s:Rs) (lV:Option Nat) (b:Nat),l=[.ptr lh 0,xA,.I gv,.I fuel,.ptr lu 0,.ptr lr 0,.slice lv 0 u.ej.length,.I s.steps,.I s.polls,.I b,.I (MA lV)]/\fuel<k+s.steps/\s.steps<=fuel/\s.polls<=s.steps/\b<u.blocks.length/\
   Sn F h F' h'/\s.val.length=u.ej.length/\s.heap.length=hp.length/\runM u locals gv fuel (fuel+1) none 0 (ny u hp)=runM u locals gv fuel k lV b s/\ev F' h' (Rn s.val (.slice lv 0 u.ej.length) lr lu u vv vb vs lh Th rm oS s.heap ds):=⟨_,rfl⟩
 refine Ei J (λk x1 x2 x3 x4 x5 aj ak al am an ao h4 hi=>?_) (k:=fuel+1) ?_;rotate_left
 ·rw[T];exact⟨F,ny u hp,none,0,rfl,Pf _,Mr _,iZ _,by omega,S,Wt,rfl,rfl,M⟩
 clear M P H1;rw[T]at hi;obtain⟨F4,s,lV,b,⟨⟩,hk,ap,aq,hb,s4,n,A,hR,H4⟩:=hi;obtain⟨zs,rfl⟩:∃zs,k=zs+1:=⟨k-1,by omega⟩
 unfold wD;have u4:=q.since s4;have f:=gN hb;generalize u.blocks[b]=B at*;obtain⟨l1,o1,bv,bn,bp,_,x1,x2,N,iN,ip,_⟩:=u4.nJ f;refine oF (H4.ld 2 rfl rfl) (eh x1 (eh x2 ?_));refine gQ H4 rfl rfl (by simp only[ku,eQ,N.one,iN.one,ip.one];rfl) λh5 H5 C=>?_;generalize h4.next=lb at*;have D:=s4.trans C;refine zfk g H5 (q.since D) (r.since D) n f (N.since C) (ip.since C) ll λh6 DG s6 H6=>?_;refine zeT g H6 n f ((N.since C).since s6) (by omega) λh7 s7 U=>?_;have o:=(C.trans s6).trans s7;have p:=s4.trans o;have G:B.ej.takeWhile (fL u)++B.ej.dropWhile (fL u)=B.ej:=wAq;have I:B.ej.drop (B.ej.takeWhile (fL u)).length=B.ej.dropWhile (fL u):=by
  have e:=List.drop_left (l₁:=B.ej.takeWhile (fL u)) (l₂:=B.ej.dropWhile (fL u));rw[G]at e;exact e
 have ar:B.ej.length<=u.ej.length:=iP _ B.ej (wM g f) λv hv=>by
  obtain⟨k,hk⟩:=mn.1 hv;exact g.iM v b k ⟨B,f,hk⟩
 have W:(B.ej.takeWhile (fL u)).length<=B.ej.length:=by
  have:=congrArg List.length G;rw[Lw]at this;omega
 have i:runM u locals gv fuel (zs+1) lV b s=V7 u locals gv fuel zs b B (nP u gv fuel (B.ej.drop (B.ej.takeWhile (fL u)).length) (jQ u locals lV B s)):=by rw[zbf f,I]
 have X:(jQ u locals lV B s).steps=s.steps+(B.ej.takeWhile (fL u)).length:=rfl;have Y:(jQ u locals lV B s).polls=s.polls:=rfl;have Z:(jQ u locals lV B s).val.length=u.ej.length:=(AJ _ _).trans n;have K:(jQ u locals lV B s).heap.length=hp.length:=A;have U:ev F4 h7 (eJ lb 43 (ku B bv bn bp)::Rn (jQ u locals lV B s).val (.slice lv 0 u.ej.length) lr lu u vv vb vs lh Th rm oS (jQ u locals lV B s).heap ds):=U;rw[<-X,<-Y];generalize jQ u locals lV B s=sm at*;refine zeY (zs:=zs) (locals:=locals) g U (q.since p) Z (by omega) f (N.since o) (iN.since o) W (λv hv=>E7 g f v (by rw[<-I];exact hv)) (by omega) (by omega) O (λF8 h8 L a b' c d w j H8 aa he=>?_) λF8 h8 j t ab H8 ac ad L au aw ae ag=>?_
 ·exact H F8 h8 L a b' c d w (p.trans j) H8 (aa.trans K) (by rw[hR,i];exact he)
 ·refine ⟨zs,by omega,?_⟩;rw[T];have ah:t<u.blocks.length:=by
   rcases Ub t u.blocks.length with h|h
   ·exact h
   ·exact absurd (Q9 h) ae
  exact⟨F8,{j with steps:=j.steps+1},some b,t,rfl,by show fuel<zs+(j.steps+1);omega,by show j.steps+1<=fuel;omega,by show j.polls<=j.steps+1;omega,ah,p.trans ab,ac,ad.trans K,by rw[hR,i,ag],H8⟩
end
