/- Parts. -/
import Derived.Test.YtcoaokdoecgcbaaGreatDoorM50
set_option maxHeartbeats 4000000
namespace Go.Proofs.YtcoaokdoecgcbaaGreatDoor.Hx
open Un Dm
section
variable{F F':Nat->Prop}{h h':Hp}{cs ds:List Pc}{Q:fj}{u:U}{vv vb vs oe yz rm pO bv bn bp EK:V}{ee hp locals:List Int}{lu lr lh lb Th:Nat}{fu:LP}{fm:Int}{fuel JQ steps polls b:Nat}{qJ:Option Nat}{B:Bk}
theorem zhn(g:Good u){s:Rs}{i0:Nat}(H0:ej F h (eD lb 79 (pR B bv bn bp)::Rn s.val oe lr lu u vv vb vs lh Th rm pO s.heap ds))(hu:EZ F h u vv vb vs)(aC:s.val.length=u.ee.length)(aU:s.heap.length<1000000000)(hB:u.blocks[b]? =some B)(iv:hD eN F h B.ee bv)(iN:hD eN F h B.next bn)
  (aV:i0<=B.ee.length) (aD:∀v∈B.ee.drop i0,gN u v=false) (hs:s.steps<=fuel+3000) (aE:s.polls<=s.steps) (aW:fuel<=1000000)
  (HQ:∀F' h' ai a b' c d w,Sn F h F' h'->ej F' h' (eD lh Th [rm,pO]::ft (eI .u64) wR ai pO::ds)->ai.length=s.heap.length->ExR F' h' (WS u locals fm fuel JQ b B (p7 u fm fuel (B.ee.drop i0) s)) ai a b' c d w->Q (.agg [.I a,.I b',.I c,w,.I d]) h')
  (HN:∀F' h' (s':Rs) t,Sn F h F' h'->ej F' h' (Rn s'.val oe lr lu u vv vb vs lh Th rm pO s'.heap ds)->s'.val.length=u.ee.length->s'.heap.length=s.heap.length->s'.polls<=s'.steps->s.steps<=s'.steps->¬fuel<=s'.steps->u.blocks[t]?≠none->WS u locals fm fuel JQ b B (p7 u fm fuel (B.ee.drop i0) s)=runM u locals fm fuel JQ (some b) t {s' with steps:=s'.steps+1}->
   fu [.ptr lh 0,yz,.I fm,.I fuel,.ptr lu 0,.ptr lr 0,oe,.I ((s'.steps+1:Nat):Int),.I s'.polls,.I t,.I b] h') :
  me Q fu [.ptr lh 0,yz,.I fm,.I fuel,.ptr lu 0,.ptr lr 0,oe,.I s.steps,.I s.polls,.I b,.ptr lb 0,.I i0] h:=by
 have nv:=g.nv;have aX:=qG _ B.ee (Ju g hB) λv hv=>by
  let⟨k,hk⟩:=mz.1 hv
  exact g.uP v b k ⟨B,hB,hk⟩
 obtain ⟨J,hJ⟩:∃J,J=λk l h'=>∃F' i s',l=[.ptr lh 0,yz,.I fm,.I fuel,.ptr lu 0,.ptr lr 0,oe,.I (s'.steps:Nat),.I (s'.polls:Nat),.I b,.ptr lb 0,.I (i:Nat)]/\i+k=B.ee.length/\i0<=i/\Sn F h F' h'/\s'.val.length=u.ee.length/\s'.heap.length=s.heap.length/\
   s'.steps<=fuel+3000/\s'.polls<=s'.steps/\s.steps<=s'.steps/\p7 u fm fuel (B.ee.drop i0) s=p7 u fm fuel (B.ee.drop i) s'/\ej F' h' (eD lb 79 (pR B bv bn bp)::Rn s'.val oe lr lu u vv vb vs lh Th rm pO s'.heap ds):=⟨_,rfl⟩
 refine EA J (λk x1 x2 x3 x4 x5 aY aZ a0 gL jd a4 a5 h1 hi=>?_) (k:=B.ee.length-i0) ?_;rotate_left
 ·rw[hJ];exact⟨F,i0,s,rfl,by omega,jJ _,Sn.refl _ _,aC,rfl,hs,aE,jJ _,rfl,H0⟩
 rw [hJ]at hi;obtain⟨F1,i,s',⟨⟩,hk,a6,s1,f,m,a7,ao,aF,Y,M⟩:=hi;rw[Y]at HQ HN;unfold wi;have aq:=iv.since s1;have u1:=hu.since s1;have c0:ez (.ptr lb (0+0)) h1=some bv:=M.ld 0 rfl rfl;refine oF c0 (ec aq.len ?_);have AE:fuel<=s'.steps->WS u locals fm fuel JQ b B (p7 u fm fuel (B.ee.drop i) s') = .AE->eJ (gj 5 (.ptr lr 0) (.agg [.I 0,.I (-1),.I (-1),.ed,.I s'.steps]) h1) λ_ h2=>oP (fZ 5 (.ptr lr 0) h2) λr=>Q r h2:=λ_ he=>by
  refine X9 M rfl rfl λh2 s2 H2=>HQ F1 h2 s'.heap _ _ _ _ _ (s1.trans s2) H2 m ?_;rw[he];exact .inl ⟨rfl,rfl,rfl⟩
 by_cases hi:i<B.ee.length;rotate_left
 ·have hi:i=B.ee.length:=by omega
  subst hi;have er:p7 u fm fuel (B.ee.drop B.ee.length) s' = .inr s':=by rw[List.drop_length];rfl
  rw[er]at HQ HN AE;refine iA (MG ?_);by_cases cf:fuel<=s'.steps
  ·refine io (ec (rfl) (AE cf ?_));show(if fuel<=s'.steps then Ex.AE else _)=_;rw[if_pos cf]
  refine kw (fG (oF (M.ld 0 rfl rfl) (fx ?_)))
  have e1:WS u locals fm fuel JQ b B (.inr s')=if B.fin=3 then zK u {s' with steps:=s'.steps+1} B.state (-1) else match GM B s' with
    |none=> .stuck
    |some t=>runM u locals fm fuel JQ (some b) t {s' with steps:=s'.steps+1}:=by
   show(if fuel<=s'.steps then Ex.AE else _)=_;rw[if_neg cf];rfl
  have go:∀t,B.fin≠3->t∈B.next->GM B s' = some t->fu [.ptr lh 0,yz,.I fm,.I fuel,.ptr lu 0,.ptr lr 0,oe,.I ((s'.steps+1:Nat):Int),.I s'.polls,.I (t:Nat),.I b] h1:=λt hf hm hn=>by
   refine HN F1 h1 s' t s1 M.tail f m ao aF cf ?_ ?_
   ·have:=g.nx b t (by unfold next;rw[hB];exact hm);rw[hZ this];simp
   ·rw[e1,if_neg hf,hn]
  have aj:=iN.since s1;rcases g.fin b B hB with⟨f1,fl⟩|⟨f2,fl,fc⟩|⟨f3,_,aG⟩
  ·have ht:=hZ (l:=B.next) (i:=0) (by omega);have Z:=AL (l:=B.next) (n:=0) (by omega);generalize B.next[0]=t at*
   let⟨l2,o2,_,p1,p2⟩:=aj.nat ht .i64
   refine io (oF (M.ld 0 rfl rfl) (ec p1 (ec p2 (go t (by omega) Z ?_))));unfold GM;rw[if_pos f1,ht]
  ·refine kw (fx (io ?_));have aH:B.cond<s'.val.length:=by rw[f];exact zj fc
   let⟨l3,o3,q1,q2,q3,_⟩:=M.MJ 1 rfl (Mo aH) .i64
   refine oF (M.ld 0 rfl rfl) (ec q1 (ec q2 (xh ?_)));have ar:GM B s' = if IM s'.val B.cond=0 then B.next[1]? else B.next[0]?:=by
    unfold GM;rw[if_neg (by omega),if_pos f2];rfl
   by_cases cz:IM s'.val B.cond=0
   ·have ht:=hZ (l:=B.next) (i:=1) (by omega);have Z:=AL (l:=B.next) (n:=1) (by omega);generalize B.next[1]=t at*
    let⟨l2,o2,_,p1,p2⟩:=aj.nat ht .i64
    refine fO cz (oF (M.ld 0 rfl rfl) (ec p1 (ec p2 (go t (by omega) Z ?_))));rw[ar,if_pos cz,ht]
   ·have ht:=hZ (l:=B.next) (i:=0) (by omega);have Z:=AL (l:=B.next) (n:=0) (by omega);generalize B.next[0]=t at*
    let⟨l2,o2,_,p1,p2⟩:=aj.nat ht .i64
    refine fH cz (oF (M.ld 0 rfl rfl) (ec p1 (ec p2 (go t (by omega) Z ?_))));rw[ar,if_neg cz,ht]
  ·refine kw (fx (kw ?_));have K:=hZ aG;refine ec (M.tj 3 rfl rfl) (oF (M.ld 0 rfl rfl) ?_);refine U9 g M u1 (j:=1) rfl f K λF2 h2 w s2 H2 r2=>?_;refine X9 H2 rfl (by simp only[fe,r2.one];rfl) λN s3 A=>HQ F2 N s'.heap _ _ _ _ _ ((s1.trans s2).trans s3) A m ?_;rw[e1,if_pos f3,SU K];exact .inr ⟨s'.steps+1,_,_,_,rfl,rfl,rfl,rfl,rfl,r2.since s3,YU g K⟩
 refine gy (MG ?_);have hv:=hZ hi;have au:=wAb hi;have aI:B.ee[i]∈B.ee.drop i0:=by
  rw[mz];exact⟨i-i0,by rw[wBc,show i0+(i-i0)=i by omega];exact hv⟩
 have O:=aD _ aI;generalize B.ee[i]=v at*;rw[au]at HQ HN AE;by_cases cf:fuel<=s'.steps
 ·refine io (ec (rfl) (AE cf ?_));rw[VO cf];rfl
 refine kw (fG ?_);have aJ:At u v b i:=⟨B,hB,hv⟩
 have aK:=g.uP v b i aJ;have hx:=hZ aK;generalize u.ee[v]=x at*;have aL:v<s'.val.length:=by omega
 let⟨l1,o1,_,p1,p2⟩:=aq.nat hv .i64
 let⟨l2,o2,xa,_,q1,q2,xr,_⟩:=u1.val hx
 have c2:ez (.ptr lu (0+2)) h1=some vv:=M.ld 3 rfl rfl;refine oF c0 (ec p1 (ec p2 (oF c2 (ec q1 (ec q2 ?_)))));refine jX M rfl rfl (by simp only[yM,fe,xr.one];rfl) λN A s3=>?_;generalize h1.next=lc at*;have P:=s1.trans s3
 have aa:∀{F4:Nat->Prop} {h4:Hp} {s4:Rs},Sn F h F4 h4->uQ u fm v x s' = .inr s4->s4.val.length=u.ee.length->s4.heap.length=s.heap.length->s4.steps=s'.steps+1->s4.polls<=s'.polls+1->ej F4 h4 (eD lb 79 (pR B bv bn bp)::Rn s4.val oe lr lu u vv vb vs lh Th rm pO s4.heap ds)->
   gf Q fu (Pp J k) [.ptr lh 0,yz,.I fm,.I fuel,.ptr lu 0,.ptr lr 0,oe,.I ((s'.steps+1:Nat):Int),.I (s4.polls:Nat),.I b,.ptr lb 0,.I i] h4:=λ{F4 h4 s4} st he aM aN aO a8 H4=>by
  refine CK ?_;unfold uF;refine fG ⟨k-1,by omega,?_⟩;rw[hJ,<-aO];exact⟨F4,i+1,s4,rfl,by omega,by omega,st,aM,aN,by omega,by omega,by omega,by rw[Y,au];exact X5 cf hx he,H4⟩
 have rd:∀a,a<u.ee.length->∃l o,gM 1 oe (.I (a:Nat))=some (.ptr l o)/\ez (.ptr l o) N=some (.int .u64 (IM s'.val a))/\ml .u64 (IM s'.val a):=λa ha=>by
  let⟨l,o,r1,r2,r3,_⟩:=A.MJ 2 rfl (Mo (v:=a) (by omega)) .i64
  exact⟨l,o,r1,r2,r3⟩
 have ak:=λw R=>zj (g.use v x hx w R)
 have q:∀{w:Int},x.op≠19/\x.op≠20/\x.op≠22/\x.op≠23->ml .u64 w->w=ti x (IM s'.val) s'.heap->∃p V,gM 1 oe (.I v)=some p/\gj 1 p (.int .u64 w) N=some (.val .undef V)/\N.next<=V.next/\
   gf Q fu (Pp J k) [.ptr lh 0,yz,.I fm,.I fuel,.ptr lu 0,.ptr lr 0,oe,.I ((s'.steps+1:Nat):Int),.I s'.polls,.I b,.ptr lb 0,.I i] V:=λ{w} aP R he=>by
  let⟨l,o,V,r1,r2,W,H5,s5⟩:=A.M7 2 rfl (k:=v) (y:=w) (u:= .int .u64 w) aL rfl rfl ⟨rfl,R⟩
  simp[DR,M8]at H5;refine⟨_,V,r1,r2,W,aa (s4:={s' with val:=s'.val.set v w,steps:=s'.steps+1}) (P.trans s5) ?_ (by rw[wBF];exact f) m rfl (K5 _) H5.tail⟩;rw[zas aP,he];rfl
 have x0:ez (.ptr lc (0+0)) N=some (.I x.op):=A.ld 0 rfl rfl;have E:ez (.ptr lc (0+1)) N=some (.I x.a):=A.ld 0 rfl rfl;have ac:ez (.ptr lc (0+2)) N=some (.I x.b):=A.ld 0 rfl rfl;have al:ez (.ptr lc (0+3)) N=some (.I x.n):=A.ld 0 rfl rfl;have aQ:ez (.ptr lc (0+4)) N=some xa:=A.ld 0 rfl rfl;have aw:ez (.ptr lc (0+5)) N=some (.I x.state):=A.ld 0 rfl rfl;have ad:x.op≠21:=λe=>by
  unfold gN at O;simp[hx,e]at O;cases O
 have a9:x.op≠1:=λe=>by
  unfold gN at O;simp[hx,e]at O;cases O
 let⟨ab1,ab2⟩:=zeB (x:=x)
 have hA:two x.op=true\/uk x.op=true->x.a<u.ee.length:=λhh=>ak _ (hh.elim (λh=>(ab1 h ad).1) λh=>ab2 h ad);have ae:two x.op=true->x.b<u.ee.length:=λhh=>ak _ (ab1 hh ad).2;have D:s'.heap.length<1000000000:=by omega
 refine oF x0 (fx ?_);by_cases o2:x.op=2
 ·let⟨p,V,r1,r2,W,S⟩:=q (w:=qN x.n) (by omega) (xI _) (by unfold ti;rw[if_pos o2])
  refine io (oF al (ec (by rw[gg,iQ]) (ec r1 ?_)));rw[r2,eh];exact S
 refine kw (fx ?_);by_cases T:x.op=15
 ·have C:uk x.op=true:=by rw[T];rfl
  let⟨l,o,G,H,X⟩:=rd x.a (hA (.inr C))
  refine io (oF E (ec G (ec H (ZM A (i:=5) (j:=6) rfl rfl D X λR=>?_))))
  let⟨p,V,r1,r2,W,S⟩:=q (w:=mI s'.heap (IM s'.val x.a) / 4294967296) (by omega) R (by unfold ti;rw[if_neg o2,if_pos T])
  refine ec (by rw[gg,iQ,IU R]) (ec r1 ?_);rw[r2,eh];exact S
 refine kw (fx ?_);by_cases ab:x.op=16
 ·have C:uk x.op=true:=by rw[ab];rfl
  let⟨l,o,G,H,X⟩:=rd x.a (hA (.inr C))
  refine io (oF E (ec G (ec H (X6 A (i:=5) (j:=6) rfl rfl D X λR=>?_))))
  let⟨p,V,r1,r2,W,S⟩:=q (w:=mI s'.heap (IM s'.val x.a) % 4294967296) (by omega) R (by unfold ti;rw[if_neg o2,if_neg T,if_pos ab])
  refine ec (by rw[gg,iQ,IU R]) (ec r1 ?_);rw[r2,eh];exact S
 refine kw (fx ?_);by_cases ag:x.op=17
 ·have C:uk x.op=true:=by rw[ag];rfl
  let⟨l,o,G,H,X⟩:=rd x.a (hA (.inr C))
  refine io (oF E (ec G (ec H (oF al (ec (by rw[gg,iQ]) (ec (by rw[jf,iQ]) (JL A (i:=5) (j:=6) rfl rfl D (xI _) λR=>?_)))))))
  let⟨p,V,r1,r2,W,S⟩:=q (w:=mI s'.heap (qN (IM s'.val x.a+qN x.n))) (by omega) R (by unfold ti;rw[if_neg o2,if_neg T,if_neg ab,if_pos ag])
  refine⟨jJ _,ec r1 ?_⟩;rw[r2,eh];exact⟨W,S⟩
 refine kw (fx ?_);by_cases am:x.op=18
 ·have C:two x.op=true:=by rw[am];rfl
  let⟨l,o,G,H,X⟩:=rd x.a (hA (.inl C))
  let⟨l',o',b1,b2,b3⟩:=rd x.b (ae C)
  refine io (oF E (ec G (ec H (ec (by rw[jf,iQ]) (oF ac (ec b1 (ec b2 (ec (by rw[jf,iQ]) (JL A (i:=5) (j:=6) rfl rfl D (xI _) λR=>?_)))))))))
  let⟨p,V,r1,r2,W,S⟩:=q (w:=mI s'.heap (qN (qN (IM s'.val x.a+1)+IM s'.val x.b))) (by omega) R (by unfold ti;rw[if_neg o2,if_neg T,if_neg ab,if_neg ag,if_pos am])
  refine⟨jJ _,ec r1 ?_⟩;rw[r2,eh];exact⟨W,S⟩
 refine kw (fx ?_);by_cases L:x.op=19
 ·have C:two x.op=true:=by rw[L];rfl
  let⟨l,o,G,H,X⟩:=rd x.a (hA (.inl C))
  let⟨l',o',b1,b2,b3⟩:=rd x.b (ae C)
  refine io (oF E (ec G (ec H (oF al (ec (by rw[gg,iQ]) (ec (by rw[jf,iQ]) (oF ac (ec b1 (ec b2 (Qr A (i:=5) (j:=6) rfl rfl D (xI _) b3 λh4 r s4 H4=>⟨s4.next,?_⟩))))))))));simp[DR,M8]at H4;refine aa (s4:={s' with heap:=Eo s'.heap (qN (IM s'.val x.a+qN x.n)) (IM s'.val x.b),steps:=s'.steps+1}) (P.trans s4) ?_ f (by rw[Ib];exact m) rfl (K5 _) H4.tail;unfold uQ;rw[if_pos L];rfl
 refine kw (fx ?_);by_cases I:x.op=20
 ·have C:two x.op=true:=by rw[I];rfl
  let⟨l,o,G,H,X⟩:=rd x.a (hA (.inl C))
  let⟨l',o',b1,b2,b3⟩:=rd x.b (ae C)
  have ba:=g.putAt v x hx I;have ax:=hZ (l:=x.args) (i:=0) (by omega);have aR:x.args[0]<u.ee.length:=ak _ (by
   unfold jn;rw[if_neg ad,if_pos I];have:x.args.take 1=[x.args[0]]:=by rw[Ho (by omega)];rfl
   rw[this];simp)
  have aS:x.args.getD 0 0=x.args[0]:=by rw[IY,ax];rfl
  generalize x.args[0]=c at*
  let⟨l6,o6,_,t1,t2⟩:=(xr.since s3).nat ax .i64
  let⟨l7,o7,y1,y2,y3⟩:=rd c aR
  refine io (oF E (ec G (ec H (ec (by rw[jf,iQ]) (oF ac (ec b1 (ec b2 (ec (by rw[jf,iQ]) (oF aQ (ec t1 (ec t2 (ec y1 (ec y2 (Qr A (i:=5) (j:=6) rfl rfl D (xI _) y3 λh4 r s4 H4=>⟨s4.next,?_⟩))))))))))))));simp[DR,M8]at H4;refine aa (s4:={s' with heap:=Eo s'.heap (qN (qN (IM s'.val x.a+1)+IM s'.val x.b)) (IM s'.val c),steps:=s'.steps+1}) (P.trans s4) ?_ f (by rw[Ib];exact m) rfl (K5 _) H4.tail;unfold uQ;rw[if_neg L,if_pos I,aS];rfl
 refine kw (fx ?_)
 have lv:∀{fs:List Fm},u.eE[x.state]? =some fs->uQ u fm v x s' = .inl (zK u {s' with steps:=s'.steps+1} x.state v)->
   cP CS jE [.agg (uC u vv vb vs),oe,.I x.state,.I v,.I ((s'.steps+1:Nat):Int)] N λay aT=>eJ (gj 5 (.ptr lr 0) ay aT) λ_ az=>oP (fZ 5 (.ptr lr 0) az) λr=>Q r az:=λ{fs} K he=>by
  refine U9 g A (u1.since s3) (j:=2) rfl f K λF2 h2 w s2 H2 r2=>?_;refine X9 H2.tail rfl (by simp only[fe,r2.one];rfl) λh4 s4 H4=>HQ F2 h4 s'.heap _ _ _ _ _ ((P.trans s2).trans s4) H4 m ?_;rw[ZQ cf hx he,show WS u locals fm fuel JQ b B (.inl (zK u {s' with steps:=s'.steps+1} x.state v))=zK u {s' with steps:=s'.steps+1} x.state v from rfl,SU K];exact .inr ⟨s'.steps+1,_,_,_,rfl,rfl,rfl,rfl,rfl,r2.since s4,YU g K⟩
 by_cases U:x.op=22
 ·have C:uk x.op=true:=by rw[U];rfl
  let⟨l,o,G,H,X⟩:=rd x.a (hA (.inr C))
  have pO:=g.leave v x hx (by rw[U];rfl);refine io (oF E (ec G (ec H (fx ?_))));by_cases z:IM s'.val x.a=0
  ·refine fO z (ec (A.tj 4 rfl rfl) (oF aw (lv (hZ pO) ?_)));unfold uQ;rw[if_neg L,if_neg I,if_pos U,if_pos (show s'.of x.a=0 from z)]
  ·refine fH z (aa (s4:={s' with steps:=s'.steps+1}) P ?_ f m rfl (K5 _) A.tail);unfold uQ;rw[if_neg L,if_neg I,if_pos U,if_neg (show ¬s'.of x.a=0 from z)]
 refine kw (fx ?_);by_cases an:x.op=23
 ·have pO:=g.leave v x hx (by rw[an];rfl);refine io (ec (jK ..) (ec (a:= .bool (decide (0<=fm/\(s'.polls:Int)=fm))) ?_ (fX ?_)))
  ·by_cases c:0<=fm
   ·rw[Ov c,yo];simp only[eQ,gS];congr 2;rw[WK,Ey,yU];exact⟨λh=>⟨c,h⟩,λh=>h.2⟩
   ·rw[LI c,yC,LI λh=>c h.1]
  by_cases z:0<=fm/\(s'.polls:Int)=fm
  ·refine fO (Ov z) (ec (A.tj 4 rfl rfl) (oF aw (lv (hZ pO) ?_)));unfold uQ;rw[if_neg L,if_neg I,if_neg U,if_pos an,if_pos z]
  ·refine fH (by rw[yU];exact z) (fG (aa (s4:={s' with steps:=s'.steps+1,polls:=s'.polls+1}) P ?_ f m rfl (jJ _) A.tail));unfold uQ;rw[if_neg L,if_neg I,if_neg U,if_pos an,if_neg z]
 refine kw ?_
 let⟨g1,g2⟩:=g.op v x hx
 have aA:∀c,(c=true↔x.op=8\/x.op=9)->lG Q fu (Pp J k) [.ptr lh 0,yz,.I fm,.I fuel,.ptr lu 0,.ptr lr 0,oe,.I ((s'.steps+1:Nat):Int),.I s'.polls,.I b,.ptr lb 0,.I i,.I v,.ptr lc 0,.bool c] N:=λc hc=>by
  refine CQ ?_;unfold uW;have aB:ti x (IM s'.val) s'.heap=if x.op=8\/x.op=9 then Ng x.op (IM s'.val x.a) 0 else Ng x.op (IM s'.val x.a) (IM s'.val x.b):=by
   unfold ti;rw[if_neg o2,if_neg T,if_neg ab,if_neg ag,if_neg am]
  cases c with
  | true=>
    have ah:=hc.1 rfl;have C:uk x.op=true:=by rcases ah with c|c <;> rw[c] <;> rfl
    let⟨l,o,G,H,X⟩:=rd x.a (hA (.inr C))
    let⟨p,V,r1,r2,W,S⟩:=q (w:=Ng x.op (IM s'.val x.a) 0) (by omega) (Tp _ _ _) (by rw[aB,if_pos ah])
    refine fX (fO rfl (oF x0 (oF E (ec G (ec H (Mi X tC (by omega) ⟨jJ _,?_⟩))))));refine ec (rfl) (ec (rfl) (ec r1 ?_));rw[r2,eh]
    exact⟨W,S⟩
  | false=>
    have ah:¬(x.op=8\/x.op=9):=λh=>by have:=hc.2 h;cases this
    have C:two x.op=true:=by
      unfold two;simp[JD,yF,yU,Ey];omega
    let⟨l,o,G,H,X⟩:=rd x.a (hA (.inl C))
    let⟨l',o',b1,b2,b3⟩:=rd x.b (ae C)
    let⟨p,V,r1,r2,W,S⟩:=q (w:=Ng x.op (IM s'.val x.a) (IM s'.val x.b)) (by omega) (Tp _ _ _) (by rw[aB,if_neg ah])
    refine fX (fH (by simp) (oF x0 (oF E (ec G (ec H (oF ac (ec b1 (ec b2 (Mi X b3 (by omega) ⟨jJ _,?_⟩)))))))));refine ec (rfl) (ec (rfl) (ec r1 ?_));rw[r2,eh];exact⟨W,S⟩
 refine ec (gS ..) (fX ?_);by_cases o8:x.op=8
 ·have e:((x.op:Int) == 8)=true:=Ey.2 (by omega);rw[e];exact fO rfl (aA true ⟨λ_=> .inl o8,λ_=>rfl⟩)
 ·have e:((x.op:Int) == 8)=false:=Ym.2 (by omega);rw[e];refine fH (by simp) (ec (gS ..) (aA _ ?_));rw[Ey];constructor
  ·intro h;exact .inr (by omega)
  ·intro h;omega
theorem zfP(g:Good u)(H0:ej F h (eD lh Th [rm,pO]::ft (eI .u64) wR hp pO::ds))(q:EZ F h u vv vb vs)(r:hD (eI .u64) F h locals yz)(ll:locals.length<1000000000)(ai:hp.length<1000000000)(O:fuel<=1000000)
  (H:∀F' h' m a b c d w,Sn F h F' h'->ej F' h' (eD lh Th [rm,pO]::ft (eI .u64) wR m pO::ds)->m.length=hp.length->ExR F' h' (runM u locals fm fuel (fuel+1) none 0 (Fj u hp)) m a b c d w->Q (.agg [.I a,.I b,.I c,w,.I d]) h') :
  cP CS sW [.agg (uC u vv vb vs),.ptr lh 0,yz,.I fm,.I fuel] h Q:=by
 refine Im ?_;have nv:=g.nv;have Xi:=g.Xi;refine oC H0 q.one λh1 H1 s1=>Va H1 λx P s2=>?_;generalize h.next=lu at*;generalize h1.next=lr at*;refine oF (P.ld 1 rfl rfl) (ec ((q.since s1).since s2).v.len ?_);rw[pG (z:=V.int .u64 0) rfl (by decide) (by omega),fK];obtain⟨M,R⟩:=P.make (E:=eI .u64) (ty:=wR) (y:=0) (u:=V.int .u64 0) u.ee.length ⟨rfl,tC⟩ rfl;have M:ej F (x.new (.cells 63 1 true false (List.replicate u.ee.length (V.int .u64 0)))) _:=M;have R:Sn F x F (x.new (.cells 63 1 true false (List.replicate u.ee.length (V.int .u64 0)))):=R;generalize x.new (.cells 63 1 true false (List.replicate u.ee.length (V.int .u64 0)))=h3 at*;generalize x.next=lv at*;have S:=(s1.trans s2).trans R
 obtain ⟨J,T⟩:∃J:Nat->LP,J=λk l h'=>∃(F':Nat->Prop) (s:Rs) (qJ:Option Nat) (b:Nat),l=[.ptr lh 0,yz,.I fm,.I fuel,.ptr lu 0,.ptr lr 0,.slice lv 0 u.ee.length,.I s.steps,.I s.polls,.I b,.I (Ou qJ)]/\fuel<k+s.steps/\s.steps<=fuel/\s.polls<=s.steps/\b<u.blocks.length/\
   Sn F h F' h'/\s.val.length=u.ee.length/\s.heap.length=hp.length/\runM u locals fm fuel (fuel+1) none 0 (Fj u hp)=runM u locals fm fuel k qJ b s/\ej F' h' (Rn s.val (.slice lv 0 u.ee.length) lr lu u vv vb vs lh Th rm pO s.heap ds):=⟨_,rfl⟩
 refine Eh J (λk x1 x2 x3 x4 x5 aj ak al gL jd ug h4 hi=>?_) (k:=fuel+1) ?_;rotate_left
 ·rw[T];exact⟨F,Fj u hp,none,0,rfl,TU _,PM _,jJ _,by omega,S,wBM,rfl,rfl,M⟩
 clear M P H1;rw[T]at hi;obtain⟨F4,s,qJ,b,⟨⟩,hk,am,an,hb,s4,n,A,hR,H4⟩:=hi;obtain⟨JQ,rfl⟩:∃JQ,k=JQ+1:=⟨k-1,by omega⟩
 unfold vN;have u4:=q.since s4;have f:=hZ hb;generalize u.blocks[b]=B at*;obtain⟨l1,o1,bv,bn,bp,_,x1,x2,N,iN,ip,_⟩:=u4.B8 f;refine oF (H4.ld 2 rfl rfl) (ec x1 (ec x2 ?_));refine jX H4 rfl rfl (by simp only[pR,fe,N.one,iN.one,ip.one];rfl) λh5 H5 C=>?_;generalize h4.next=lb at*;have D:=s4.trans C;refine zgW g H5 (q.since D) (r.since D) n f (N.since C) (ip.since C) ll λh6 EK s6 H6=>?_;refine zhi g H6 n f ((N.since C).since s6) (by omega) λh7 s7 U=>?_;have o:=(C.trans s6).trans s7;have p:=s4.trans o;have G:B.ee.takeWhile (gN u)++B.ee.dropWhile (gN u)=B.ee:=wBa;have I:B.ee.drop (B.ee.takeWhile (gN u)).length=B.ee.dropWhile (gN u):=by
  have e:=List.drop_left (l₁:=B.ee.takeWhile (gN u)) (l₂:=B.ee.dropWhile (gN u));rw[G]at e;exact e
 have ao:B.ee.length<=u.ee.length:=qG _ B.ee (Ju g f) λv hv=>by
  obtain⟨k,hk⟩:=mz.1 hv;exact g.uP v b k ⟨B,f,hk⟩
 have NP:(B.ee.takeWhile (gN u)).length<=B.ee.length:=by
  have:=congrArg List.length G;rw[qu]at this;omega
 have i:runM u locals fm fuel (JQ+1) qJ b s=WS u locals fm fuel JQ b B (p7 u fm fuel (B.ee.drop (B.ee.takeWhile (gN u)).length) (lR u locals qJ B s)):=by rw[zdV f,I]
 have W:(lR u locals qJ B s).steps=s.steps+(B.ee.takeWhile (gN u)).length:=rfl;have X:(lR u locals qJ B s).polls=s.polls:=rfl;have Y:(lR u locals qJ B s).val.length=u.ee.length:=(La _ _).trans n;have K:(lR u locals qJ B s).heap.length=hp.length:=A;have U:ej F4 h7 (eD lb 79 (pR B bv bn bp)::Rn (lR u locals qJ B s).val (.slice lv 0 u.ee.length) lr lu u vv vb vs lh Th rm pO (lR u locals qJ B s).heap ds):=U;rw[<-W,<-X];generalize lR u locals qJ B s=sm at*;refine zhn (JQ:=JQ) (locals:=locals) g U (q.since p) Y (by omega) f (N.since o) (iN.since o) NP (λv hv=>Bw g f v (by rw[<-I];exact hv)) (by omega) (by omega) O (λZ h8 L a b' c d w j H8 aa he=>?_) λZ h8 j t ab H8 ac ad L aq ar ae ag=>?_
 ·exact H Z h8 L a b' c d w (p.trans j) H8 (aa.trans K) (by rw[hR,i];exact he)
 ·refine ⟨JQ,by omega,?_⟩;rw[T];have ah:t<u.blocks.length:=by
   rcases Sf t u.blocks.length with h|h
   ·exact h
   ·exact absurd (Z2 h) ae
  exact⟨Z,{j with steps:=j.steps+1},some b,t,rfl,by show fuel<JQ+(j.steps+1);omega,by show j.steps+1<=fuel;omega,by show j.polls<=j.steps+1;omega,ah,p.trans ab,ac,ad.trans K,by rw[hR,i,ag],H8⟩
