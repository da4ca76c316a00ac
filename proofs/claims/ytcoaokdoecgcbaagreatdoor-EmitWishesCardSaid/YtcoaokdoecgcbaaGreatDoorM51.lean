/- Parts. -/
import Derived.Test.YtcoaokdoecgcbaaGreatDoorM50
set_option maxHeartbeats 4000000
namespace Go.Proofs.YtcoaokdoecgcbaaGreatDoor.Hx
open Un Dm
section
variable{F F':Nat->Prop}{h h':Hp}{cs ds:List Pc}{Q:fo}{u:U}{vv vb vs om zi rm qU bv bn bp DG:V}{ee hp locals:List Int}{lu lr lh lb Th:Nat}{fE:LP}{fk:Int}{fuel Jn steps polls b:Nat}{qO:Option Nat}{B:Bk}
theorem zfx(g:Good u){s:Rs}{i0:Nat}(H0:ej F h (fi lb 79 (pY B bv bn bp)::Rn s.val om lr lu u vv vb vs lh Th rm qU s.heap ds))(hu:Ff F h u vv vb vs)(aC:s.val.length=u.ee.length)(aU:s.heap.length<1000000000)(hB:u.blocks[b]? =some B)(iv:iD eN F h B.ee bv)(iN:iD eN F h B.next bn)
  (aV:i0<=B.ee.length) (aD:∀v∈B.ee.drop i0,gM u v=false) (hs:s.steps<=fuel+3000) (aE:s.polls<=s.steps) (aW:fuel<=1000000)
  (HQ:∀F' h' ai a b' c d w,Sn F h F' h'->ej F' h' (fi lh Th [rm,qU]::fu (eI .u64) DE ai qU::ds)->ai.length=s.heap.length->ExR F' h' (Wd u locals fk fuel Jn b B (p9 u fk fuel (B.ee.drop i0) s)) ai a b' c d w->Q (.agg [.I a,.I b',.I c,w,.I d]) h')
  (HN:∀F' h' (s':Rs) t,Sn F h F' h'->ej F' h' (Rn s'.val om lr lu u vv vb vs lh Th rm qU s'.heap ds)->s'.val.length=u.ee.length->s'.heap.length=s.heap.length->s'.polls<=s'.steps->s.steps<=s'.steps->¬fuel<=s'.steps->u.blocks[t]?≠none->Wd u locals fk fuel Jn b B (p9 u fk fuel (B.ee.drop i0) s)=runM u locals fk fuel Jn (some b) t {s' with steps:=s'.steps+1}->
   fE [.ptr lh 0,zi,.I fk,.I fuel,.ptr lu 0,.ptr lr 0,om,.I ((s'.steps+1:Nat):Int),.I s'.polls,.I t,.I b] h') :
  ma Q fE [.ptr lh 0,zi,.I fk,.I fuel,.ptr lu 0,.ptr lr 0,om,.I s.steps,.I s.polls,.I b,.ptr lb 0,.I i0] h:=by
 have nv:=g.nv;have aX:=qH _ B.ee (Ir g hB) λv hv=>by
  let⟨k,hk⟩:=mG.1 hv
  exact g.uz v b k ⟨B,hB,hk⟩
 obtain ⟨J,hJ⟩:∃J,J=λk l h'=>∃F' i s',l=[.ptr lh 0,zi,.I fk,.I fuel,.ptr lu 0,.ptr lr 0,om,.I (s'.steps:Nat),.I (s'.polls:Nat),.I b,.ptr lb 0,.I (i:Nat)]/\i+k=B.ee.length/\i0<=i/\Sn F h F' h'/\s'.val.length=u.ee.length/\s'.heap.length=s.heap.length/\
   s'.steps<=fuel+3000/\s'.polls<=s'.steps/\s.steps<=s'.steps/\p9 u fk fuel (B.ee.drop i0) s=p9 u fk fuel (B.ee.drop i) s'/\ej F' h' (fi lb 79 (pY B bv bn bp)::Rn s'.val om lr lu u vv vb vs lh Th rm qU s'.heap ds):=⟨_,rfl⟩
 refine Ee J (λk x1 x2 x3 x4 x5 aY aZ a0 gI iQ a4 a5 h1 hi=>?_) (k:=B.ee.length-i0) ?_;rotate_left
 ·rw[hJ];exact⟨F,i0,s,rfl,by omega,jj _,Sn.refl _ _,aC,rfl,hs,aE,jj _,rfl,H0⟩
 rw [hJ]at hi;obtain⟨F1,i,s',⟨⟩,hk,a6,s1,f,m,a7,ao,aF,Y,M⟩:=hi;rw[Y]at HQ HN;unfold vQ;have aq:=iv.since s1;have u1:=hu.since s1;have c0:eD (.ptr lb (0+0)) h1=some bv:=M.ld 0 rfl rfl;refine oF c0 (ec aq.len ?_);have z9:fuel<=s'.steps->Wd u locals fk fuel Jn b B (p9 u fk fuel (B.ee.drop i) s') = .z9->eJ (gw 5 (.ptr lr 0) (.agg [.I 0,.I (-1),.I (-1),.ed,.I s'.steps]) h1) λ_ h2=>oP (gi 5 (.ptr lr 0) h2) λr=>Q r h2:=λ_ he=>by
  refine VV M rfl rfl λh2 s2 H2=>HQ F1 h2 s'.heap _ _ _ _ _ (s1.trans s2) H2 m ?_;rw[he];exact .inl ⟨rfl,rfl,rfl⟩
 by_cases hi:i<B.ee.length;rotate_left
 ·have hi:i=B.ee.length:=by omega
  subst hi;have er:p9 u fk fuel (B.ee.drop B.ee.length) s' = .inr s':=by rw[List.drop_length];rfl
  rw[er]at HQ HN z9;refine iY (LG ?_);by_cases cf:fuel<=s'.steps
  ·refine fX (by omega) (ec (rfl) (z9 cf ?_));show(if fuel<=s'.steps then Ex.z9 else _)=_;rw[if_pos cf]
  refine fN (by omega) (fT (oF (M.ld 0 rfl rfl) (fD ?_)))
  have e1:Wd u locals fk fuel Jn b B (.inr s')=if B.fin=3 then zt u {s' with steps:=s'.steps+1} B.state (-1) else match FV B s' with
    |none=> .stuck
    |some t=>runM u locals fk fuel Jn (some b) t {s' with steps:=s'.steps+1}:=by
   show(if fuel<=s'.steps then Ex.z9 else _)=_;rw[if_neg cf];rfl
  have go:∀t,B.fin≠3->t∈B.next->FV B s' = some t->fE [.ptr lh 0,zi,.I fk,.I fuel,.ptr lu 0,.ptr lr 0,om,.I ((s'.steps+1:Nat):Int),.I s'.polls,.I (t:Nat),.I b] h1:=λt hf hm hn=>by
   refine HN F1 h1 s' t s1 M.tail f m ao aF cf ?_ ?_
   ·have:=g.nx b t (by unfold next;rw[hB];exact hm);rw[hN this];simp
   ·rw[e1,if_neg hf,hn]
  have aj:=iN.since s1;rcases g.fin b B hB with⟨f1,fl⟩|⟨f2,fl,fc⟩|⟨f3,_,aG⟩
  ·have ht:=hN (l:=B.next) (i:=0) (by omega);have Z:=AQ (l:=B.next) (n:=0) (by omega);generalize B.next[0]=t at*
   let⟨l2,o2,_,p1,p2⟩:=aj.nat ht .i64
   refine fX (by omega) (oF (M.ld 0 rfl rfl) (ec p1 (ec p2 (go t (by omega) Z ?_))));unfold FV;rw[if_pos f1,ht]
  ·refine fN (by omega) (fD (fX (by omega) ?_));have aH:B.cond<s'.val.length:=by rw[f];exact yT fc
   let⟨l3,o3,q1,q2,q3,_⟩:=M.Nh 1 rfl (LD aH) .i64
   refine oF (M.ld 0 rfl rfl) (ec q1 (ec q2 (Eo ?_)));have ar:FV B s' = if Hr s'.val B.cond=0 then B.next[1]? else B.next[0]?:=by
    unfold FV;rw[if_neg (by omega),if_pos f2];rfl
   by_cases cz:Hr s'.val B.cond=0
   ·have ht:=hN (l:=B.next) (i:=1) (by omega);have Z:=AQ (l:=B.next) (n:=1) (by omega);generalize B.next[1]=t at*
    let⟨l2,o2,_,p1,p2⟩:=aj.nat ht .i64
    refine fX cz (oF (M.ld 0 rfl rfl) (ec p1 (ec p2 (go t (by omega) Z ?_))));rw[ar,if_pos cz,ht]
   ·have ht:=hN (l:=B.next) (i:=0) (by omega);have Z:=AQ (l:=B.next) (n:=0) (by omega);generalize B.next[0]=t at*
    let⟨l2,o2,_,p1,p2⟩:=aj.nat ht .i64
    refine fN cz (oF (M.ld 0 rfl rfl) (ec p1 (ec p2 (go t (by omega) Z ?_))));rw[ar,if_neg cz,ht]
  ·refine fN (by omega) (fD (fN (by omega) ?_));have K:=hN aG;refine ec (M.xk 3 rfl rfl) (oF (M.ld 0 rfl rfl) ?_);refine TI g M u1 (j:=1) rfl f K λF2 h2 w s2 H2 r2=>?_;refine VV H2 rfl (by simp only[fh,r2.one];rfl) λN s3 A=>HQ F2 N s'.heap _ _ _ _ _ ((s1.trans s2).trans s3) A m ?_;rw[e1,if_pos f3,RM K];exact .inr ⟨s'.steps+1,_,_,_,rfl,rfl,rfl,rfl,rfl,r2.since s3,X6 g K⟩
 refine gJ (LG ?_);have hv:=hN hi;have au:=ZH hi;have aI:B.ee[i]∈B.ee.drop i0:=by
  rw[mG];exact⟨i-i0,by rw[wBX,show i0+(i-i0)=i by omega];exact hv⟩
 have O:=aD _ aI;generalize B.ee[i]=v at*;rw[au]at HQ HN z9;by_cases cf:fuel<=s'.steps
 ·refine fX (by omega) (ec (rfl) (z9 cf ?_));rw[Uu cf];rfl
 refine fN (by omega) (fT ?_);have aJ:At u v b i:=⟨B,hB,hv⟩
 have aK:=g.uz v b i aJ;have hx:=hN aK;generalize u.ee[v]=x at*;have aL:v<s'.val.length:=by omega
 let⟨l1,o1,_,p1,p2⟩:=aq.nat hv .i64
 let⟨l2,o2,xa,_,q1,q2,xr,_⟩:=u1.val hx
 have c2:eD (.ptr lu (0+2)) h1=some vv:=M.ld 3 rfl rfl;refine oF c0 (ec p1 (ec p2 (oF c2 (ec q1 (ec q2 ?_)))));refine j5 M rfl rfl (by simp only[ym,fh,xr.one];rfl) λN A s3=>?_;generalize h1.next=lc at*;have P:=s1.trans s3
 have aa:∀{F4:Nat->Prop} {h4:Hp} {s4:Rs},Sn F h F4 h4->uD u fk v x s' = .inr s4->s4.val.length=u.ee.length->s4.heap.length=s.heap.length->s4.steps=s'.steps+1->s4.polls<=s'.polls+1->ej F4 h4 (fi lb 79 (pY B bv bn bp)::Rn s4.val om lr lu u vv vb vs lh Th rm qU s4.heap ds)->
   fZ Q fE (NG J k) [.ptr lh 0,zi,.I fk,.I fuel,.ptr lu 0,.ptr lr 0,om,.I ((s'.steps+1:Nat):Int),.I (s4.polls:Nat),.I b,.ptr lb 0,.I i] h4:=λ{F4 h4 s4} st he aM aN aO a8 H4=>by
  refine CC ?_;unfold uk;refine fT ⟨k-1,by omega,?_⟩;rw[hJ,<-aO];exact⟨F4,i+1,s4,rfl,by omega,by omega,st,aM,aN,by omega,by omega,by omega,by rw[Y,au];exact VM cf hx he,H4⟩
 have rd:∀a,a<u.ee.length->∃l o,gQ 1 om (.I (a:Nat))=some (.ptr l o)/\eD (.ptr l o) N=some (.int .u64 (Hr s'.val a))/\mR .u64 (Hr s'.val a):=λa ha=>by
  let⟨l,o,r1,r2,r3,_⟩:=A.Nh 2 rfl (LD (v:=a) (by omega)) .i64
  exact⟨l,o,r1,r2,r3⟩
 have ak:=λw R=>yT (g.use v x hx w R)
 have q:∀{w:Int},x.op≠19/\x.op≠20/\x.op≠22/\x.op≠23->mR .u64 w->w=rZ x (Hr s'.val) s'.heap->∃p V,gQ 1 om (.I v)=some p/\gw 1 p (.int .u64 w) N=some (.val .undef V)/\N.next<=V.next/\
   fZ Q fE (NG J k) [.ptr lh 0,zi,.I fk,.I fuel,.ptr lu 0,.ptr lr 0,om,.I ((s'.steps+1:Nat):Int),.I s'.polls,.I b,.ptr lb 0,.I i] V:=λ{w} aP R he=>by
  let⟨l,o,V,r1,r2,W,H5,s5⟩:=A.Mb 2 rfl (k:=v) (y:=w) (u:= .int .u64 w) aL rfl rfl ⟨rfl,R⟩
  simp[CW,Mc]at H5;refine⟨_,V,r1,r2,W,aa (s4:={s' with val:=s'.val.set v w,steps:=s'.steps+1}) (P.trans s5) ?_ (by rw[YI];exact f) m rfl (Ql _) H5.tail⟩;rw[ZB aP,he];rfl
 have x0:eD (.ptr lc (0+0)) N=some (.I x.op):=A.ld 0 rfl rfl;have E:eD (.ptr lc (0+1)) N=some (.I x.a):=A.ld 0 rfl rfl;have ac:eD (.ptr lc (0+2)) N=some (.I x.b):=A.ld 0 rfl rfl;have al:eD (.ptr lc (0+3)) N=some (.I x.n):=A.ld 0 rfl rfl;have aQ:eD (.ptr lc (0+4)) N=some xa:=A.ld 0 rfl rfl;have aw:eD (.ptr lc (0+5)) N=some (.I x.state):=A.ld 0 rfl rfl;have ad:x.op≠21:=λe=>by
  unfold gM at O;simp[hx,e]at O;cases O
 have a9:x.op≠1:=λe=>by
  unfold gM at O;simp[hx,e]at O;cases O
 let⟨ab1,ab2⟩:=zc0 (x:=x)
 have hA:two x.op=true\/tZ x.op=true->x.a<u.ee.length:=λhh=>ak _ (hh.elim (λh=>(ab1 h ad).1) λh=>ab2 h ad);have ae:two x.op=true->x.b<u.ee.length:=λhh=>ak _ (ab1 hh ad).2;have D:s'.heap.length<1000000000:=by omega
 refine oF x0 (fD ?_);by_cases o2:x.op=2
 ·let⟨p,V,r1,r2,W,S⟩:=q (w:=qQ x.n) (by omega) (xV _) (by unfold rZ;rw[if_pos o2])
  refine fX (by omega) (oF al (ec (by rw[gB,iV]) (ec r1 ?_)));rw[r2,ef];exact S
 refine fN (by omega) (fD ?_);by_cases T:x.op=15
 ·have C:tZ x.op=true:=by rw[T];rfl
  let⟨l,o,G,H,X⟩:=rd x.a (hA (.inr C))
  refine fX (by omega) (oF E (ec G (ec H (XF A (i:=5) (j:=6) rfl rfl D X λR=>?_))))
  let⟨p,V,r1,r2,W,S⟩:=q (w:=mN s'.heap (Hr s'.val x.a) / 4294967296) (by omega) R (by unfold rZ;rw[if_neg o2,if_pos T])
  refine ec (by rw[gB,iV,HO R]) (ec r1 ?_);rw[r2,ef];exact S
 refine fN (by omega) (fD ?_);by_cases ab:x.op=16
 ·have C:tZ x.op=true:=by rw[ab];rfl
  let⟨l,o,G,H,X⟩:=rd x.a (hA (.inr C))
  refine fX (by omega) (oF E (ec G (ec H (Wm A (i:=5) (j:=6) rfl rfl D X λR=>?_))))
  let⟨p,V,r1,r2,W,S⟩:=q (w:=mN s'.heap (Hr s'.val x.a) % 4294967296) (by omega) R (by unfold rZ;rw[if_neg o2,if_neg T,if_pos ab])
  refine ec (by rw[gB,iV,HO R]) (ec r1 ?_);rw[r2,ef];exact S
 refine fN (by omega) (fD ?_);by_cases ag:x.op=17
 ·have C:tZ x.op=true:=by rw[ag];rfl
  let⟨l,o,G,H,X⟩:=rd x.a (hA (.inr C))
  refine fX (by omega) (oF E (ec G (ec H (oF al (ec (by rw[gB,iV]) (ec (by rw[iU,iV]) (Iw A (i:=5) (j:=6) rfl rfl D (xV _) λR=>?_)))))))
  let⟨p,V,r1,r2,W,S⟩:=q (w:=mN s'.heap (qQ (Hr s'.val x.a+qQ x.n))) (by omega) R (by unfold rZ;rw[if_neg o2,if_neg T,if_neg ab,if_pos ag])
  refine⟨jj _,ec r1 ?_⟩;rw[r2,ef];exact⟨W,S⟩
 refine fN (by omega) (fD ?_);by_cases am:x.op=18
 ·have C:two x.op=true:=by rw[am];rfl
  let⟨l,o,G,H,X⟩:=rd x.a (hA (.inl C))
  let⟨l',o',b1,b2,b3⟩:=rd x.b (ae C)
  refine fX (by omega) (oF E (ec G (ec H (ec (by rw[iU,iV]) (oF ac (ec b1 (ec b2 (ec (by rw[iU,iV]) (Iw A (i:=5) (j:=6) rfl rfl D (xV _) λR=>?_)))))))))
  let⟨p,V,r1,r2,W,S⟩:=q (w:=mN s'.heap (qQ (qQ (Hr s'.val x.a+1)+Hr s'.val x.b))) (by omega) R (by unfold rZ;rw[if_neg o2,if_neg T,if_neg ab,if_neg ag,if_pos am])
  refine⟨jj _,ec r1 ?_⟩;rw[r2,ef];exact⟨W,S⟩
 refine fN (by omega) (fD ?_);by_cases L:x.op=19
 ·have C:two x.op=true:=by rw[L];rfl
  let⟨l,o,G,H,X⟩:=rd x.a (hA (.inl C))
  let⟨l',o',b1,b2,b3⟩:=rd x.b (ae C)
  refine fX (by omega) (oF E (ec G (ec H (oF al (ec (by rw[gB,iV]) (ec (by rw[iU,iV]) (oF ac (ec b1 (ec b2 (OG A (i:=5) (j:=6) rfl rfl D (xV _) b3 λh4 r s4 H4=>⟨s4.next,?_⟩))))))))));simp[CW,Mc]at H4;refine aa (s4:={s' with heap:=Ea s'.heap (qQ (Hr s'.val x.a+qQ x.n)) (Hr s'.val x.b),steps:=s'.steps+1}) (P.trans s4) ?_ f (by rw[GZ];exact m) rfl (Ql _) H4.tail;unfold uD;rw[if_pos L];rfl
 refine fN (by omega) (fD ?_);by_cases I:x.op=20
 ·have C:two x.op=true:=by rw[I];rfl
  let⟨l,o,G,H,X⟩:=rd x.a (hA (.inl C))
  let⟨l',o',b1,b2,b3⟩:=rd x.b (ae C)
  have ba:=g.putAt v x hx I;have ax:=hN (l:=x.args) (i:=0) (by omega);have aR:x.args[0]<u.ee.length:=ak _ (by
   unfold jq;rw[if_neg ad,if_pos I];have:x.args.take 1=[x.args[0]]:=by rw[JE (by omega)];rfl
   rw[this];simp)
  have aS:x.args.getD 0 0=x.args[0]:=by rw[Dz,ax];rfl
  generalize x.args[0]=c at*
  let⟨l6,o6,_,t1,t2⟩:=(xr.since s3).nat ax .i64
  let⟨l7,o7,y1,y2,y3⟩:=rd c aR
  refine fX (by omega) (oF E (ec G (ec H (ec (by rw[iU,iV]) (oF ac (ec b1 (ec b2 (ec (by rw[iU,iV]) (oF aQ (ec t1 (ec t2 (ec y1 (ec y2 (OG A (i:=5) (j:=6) rfl rfl D (xV _) y3 λh4 r s4 H4=>⟨s4.next,?_⟩))))))))))))));simp[CW,Mc]at H4;refine aa (s4:={s' with heap:=Ea s'.heap (qQ (qQ (Hr s'.val x.a+1)+Hr s'.val x.b)) (Hr s'.val c),steps:=s'.steps+1}) (P.trans s4) ?_ f (by rw[GZ];exact m) rfl (Ql _) H4.tail;unfold uD;rw[if_neg L,if_pos I,aS];rfl
 refine fN (by omega) (fD ?_)
 have lv:∀{fs:List Fm},u.ez[x.state]? =some fs->uD u fk v x s' = .inl (zt u {s' with steps:=s'.steps+1} x.state v)->
   cP CS jF [.agg (uC u vv vb vs),om,.I x.state,.I v,.I ((s'.steps+1:Nat):Int)] N λay aT=>eJ (gw 5 (.ptr lr 0) ay aT) λ_ az=>oP (gi 5 (.ptr lr 0) az) λr=>Q r az:=λ{fs} K he=>by
  refine TI g A (u1.since s3) (j:=2) rfl f K λF2 h2 w s2 H2 r2=>?_;refine VV H2.tail rfl (by simp only[fh,r2.one];rfl) λh4 s4 H4=>HQ F2 h4 s'.heap _ _ _ _ _ ((P.trans s2).trans s4) H4 m ?_;rw[Zx cf hx he,show Wd u locals fk fuel Jn b B (.inl (zt u {s' with steps:=s'.steps+1} x.state v))=zt u {s' with steps:=s'.steps+1} x.state v from rfl,RM K];exact .inr ⟨s'.steps+1,_,_,_,rfl,rfl,rfl,rfl,rfl,r2.since s4,X6 g K⟩
 by_cases U:x.op=22
 ·have C:tZ x.op=true:=by rw[U];rfl
  let⟨l,o,G,H,X⟩:=rd x.a (hA (.inr C))
  have qU:=g.leave v x hx (by rw[U];rfl);refine fX (by omega) (oF E (ec G (ec H (fD ?_))));by_cases z:Hr s'.val x.a=0
  ·refine fX z (ec (A.xk 4 rfl rfl) (oF aw (lv (hN qU) ?_)));unfold uD;rw[if_neg L,if_neg I,if_pos U,if_pos (show s'.of x.a=0 from z)]
  ·refine fN z (aa (s4:={s' with steps:=s'.steps+1}) P ?_ f m rfl (Ql _) A.tail);unfold uD;rw[if_neg L,if_neg I,if_pos U,if_neg (show ¬s'.of x.a=0 from z)]
 refine fN (by omega) (fD ?_);by_cases an:x.op=23
 ·have qU:=g.leave v x hx (by rw[an];rfl);refine fX (by omega) (ec (jt ..) (ec (a:= .bool (decide (0<=fk/\(s'.polls:Int)=fk))) ?_ (gf ?_)))
  ·by_cases c:0<=fk
   ·rw[No c,xL];simp only[fe,hZ];congr 2;rw[VC,Gi,xX];exact⟨λh=>⟨c,h⟩,λh=>h.2⟩
   ·rw[JH c,xF,JH λh=>c h.1]
  by_cases z:0<=fk/\(s'.polls:Int)=fk
  ·refine fX (No z) (ec (A.xk 4 rfl rfl) (oF aw (lv (hN qU) ?_)));unfold uD;rw[if_neg L,if_neg I,if_neg U,if_pos an,if_pos z]
  ·refine fN (by rw[xX];exact z) (fT (aa (s4:={s' with steps:=s'.steps+1,polls:=s'.polls+1}) P ?_ f m rfl (jj _) A.tail));unfold uD;rw[if_neg L,if_neg I,if_neg U,if_pos an,if_neg z]
 refine fN (by omega) ?_
 let⟨g1,g2⟩:=g.op v x hx
 have aA:∀c,(c=true↔x.op=8\/x.op=9)->lK Q fE (NG J k) [.ptr lh 0,zi,.I fk,.I fuel,.ptr lu 0,.ptr lr 0,om,.I ((s'.steps+1:Nat):Int),.I s'.polls,.I b,.ptr lb 0,.I i,.I v,.ptr lc 0,.bool c] N:=λc hc=>by
  refine Co ?_;unfold uG;have aB:rZ x (Hr s'.val) s'.heap=if x.op=8\/x.op=9 then Mf x.op (Hr s'.val x.a) 0 else Mf x.op (Hr s'.val x.a) (Hr s'.val x.b):=by
   unfold rZ;rw[if_neg o2,if_neg T,if_neg ab,if_neg ag,if_neg am]
  cases c with
  | true=>
    have ah:=hc.1 rfl;have C:tZ x.op=true:=by rcases ah with c|c <;> rw[c] <;> rfl
    let⟨l,o,G,H,X⟩:=rd x.a (hA (.inr C))
    let⟨p,V,r1,r2,W,S⟩:=q (w:=Mf x.op (Hr s'.val x.a) 0) (by omega) (Sc _ _ _) (by rw[aB,if_pos ah])
    refine gf (fX rfl (oF x0 (oF E (ec G (ec H (Lo X ti (by omega) ⟨jj _,?_⟩))))));refine ec (rfl) (ec (rfl) (ec r1 ?_));rw[r2,ef]
    exact⟨W,S⟩
  | false=>
    have ah:¬(x.op=8\/x.op=9):=λh=>by have:=hc.2 h;cases this
    have C:two x.op=true:=by
      unfold two;simp[Jz,xB,xX,Gi];omega
    let⟨l,o,G,H,X⟩:=rd x.a (hA (.inl C))
    let⟨l',o',b1,b2,b3⟩:=rd x.b (ae C)
    let⟨p,V,r1,r2,W,S⟩:=q (w:=Mf x.op (Hr s'.val x.a) (Hr s'.val x.b)) (by omega) (Sc _ _ _) (by rw[aB,if_neg ah])
    refine gf (fN (by simp) (oF x0 (oF E (ec G (ec H (oF ac (ec b1 (ec b2 (Lo X b3 (by omega) ⟨jj _,?_⟩)))))))));refine ec (rfl) (ec (rfl) (ec r1 ?_));rw[r2,ef];exact⟨W,S⟩
 refine ec (hZ ..) (gf ?_);by_cases o8:x.op=8
 ·have e:((x.op:Int) == 8)=true:=Gi.2 (by omega);rw[e];exact fX rfl (aA true ⟨λ_=> .inl o8,λ_=>rfl⟩)
 ·have e:((x.op:Int) == 8)=false:=Yz.2 (by omega);rw[e];refine fN (by simp) (ec (hZ ..) (aA _ ?_));rw[Gi];constructor
  ·intro h;exact .inr (by omega)
  ·intro h;omega
theorem zeS(g:Good u)(H0:ej F h (fi lh Th [rm,qU]::fu (eI .u64) DE hp qU::ds))(q:Ff F h u vv vb vs)(r:iD (eI .u64) F h locals zi)(ll:locals.length<1000000000)(ai:hp.length<1000000000)(O:fuel<=1000000)
  (H:∀F' h' m a b c d w,Sn F h F' h'->ej F' h' (fi lh Th [rm,qU]::fu (eI .u64) DE m qU::ds)->m.length=hp.length->ExR F' h' (runM u locals fk fuel (fuel+1) none 0 (EH u hp)) m a b c d w->Q (.agg [.I a,.I b,.I c,w,.I d]) h') :
  cP CS su [.agg (uC u vv vb vs),.ptr lh 0,zi,.I fk,.I fuel] h Q:=by
 refine GD ?_;have nv:=g.nv;have WI:=g.WI;refine pz H0 q.one λh1 H1 s1=>U9 H1 λx P s2=>?_;generalize h.next=lu at*;generalize h1.next=lr at*;refine oF (P.ld 1 rfl rfl) (ec ((q.since s1).since s2).v.len ?_);rw[pW (z:=V.int .u64 0) rfl (by decide) (by omega),fH];obtain⟨M,R⟩:=P.make (E:=eI .u64) (ty:=DE) (y:=0) (u:=V.int .u64 0) u.ee.length ⟨rfl,ti⟩ rfl;have M:ej F (x.new (.cells 63 1 true false (List.replicate u.ee.length (V.int .u64 0)))) _:=M;have R:Sn F x F (x.new (.cells 63 1 true false (List.replicate u.ee.length (V.int .u64 0)))):=R;generalize x.new (.cells 63 1 true false (List.replicate u.ee.length (V.int .u64 0)))=h3 at*;generalize x.next=lv at*;have S:=(s1.trans s2).trans R
 obtain ⟨J,T⟩:∃J:Nat->LP,J=λk l h'=>∃(F':Nat->Prop) (s:Rs) (qO:Option Nat) (b:Nat),l=[.ptr lh 0,zi,.I fk,.I fuel,.ptr lu 0,.ptr lr 0,.slice lv 0 u.ee.length,.I s.steps,.I s.polls,.I b,.I (Nm qO)]/\fuel<k+s.steps/\s.steps<=fuel/\s.polls<=s.steps/\b<u.blocks.length/\
   Sn F h F' h'/\s.val.length=u.ee.length/\s.heap.length=hp.length/\runM u locals fk fuel (fuel+1) none 0 (EH u hp)=runM u locals fk fuel k qO b s/\ej F' h' (Rn s.val (.slice lv 0 u.ee.length) lr lu u vv vb vs lh Th rm qU s.heap ds):=⟨_,rfl⟩
 refine Dh J (λk x1 x2 x3 x4 x5 aj ak al gI iQ ye h4 hi=>?_) (k:=fuel+1) ?_;rotate_left
 ·rw[T];exact⟨F,EH u hp,none,0,rfl,Rz _,L9 _,jj _,by omega,S,wBF,rfl,rfl,M⟩
 clear M P H1;rw[T]at hi;obtain⟨F4,s,qO,b,⟨⟩,hk,am,an,hb,s4,n,A,hR,H4⟩:=hi;obtain⟨Jn,rfl⟩:∃Jn,k=Jn+1:=⟨k-1,by omega⟩
 unfold vj;have u4:=q.since s4;have f:=hN hb;generalize u.blocks[b]=B at*;obtain⟨l1,o1,bv,bn,bp,_,x1,x2,N,iN,ip,_⟩:=u4.Bt f;refine oF (H4.ld 2 rfl rfl) (ec x1 (ec x2 ?_));refine j5 H4 rfl rfl (by simp only[pY,fh,N.one,iN.one,ip.one];rfl) λh5 H5 C=>?_;generalize h4.next=lb at*;have D:=s4.trans C;refine zga g H5 (q.since D) (r.since D) n f (N.since C) (ip.since C) ll λh6 DG s6 H6=>?_;refine zfp g H6 n f ((N.since C).since s6) (by omega) λh7 s7 U=>?_;have o:=(C.trans s6).trans s7;have p:=s4.trans o;have G:B.ee.takeWhile (gM u)++B.ee.dropWhile (gM u)=B.ee:=wBf;have I:B.ee.drop (B.ee.takeWhile (gM u)).length=B.ee.dropWhile (gM u):=by
  have e:=List.drop_left (l₁:=B.ee.takeWhile (gM u)) (l₂:=B.ee.dropWhile (gM u));rw[G]at e;exact e
 have ao:B.ee.length<=u.ee.length:=qH _ B.ee (Ir g f) λv hv=>by
  obtain⟨k,hk⟩:=mG.1 hv;exact g.uz v b k ⟨B,f,hk⟩
 have Ma:(B.ee.takeWhile (gM u)).length<=B.ee.length:=by
  have:=congrArg List.length G;rw[nB]at this;omega
 have i:runM u locals fk fuel (Jn+1) qO b s=Wd u locals fk fuel Jn b B (p9 u fk fuel (B.ee.drop (B.ee.takeWhile (gM u)).length) (lW u locals qO B s)):=by rw[zcV f,I]
 have W:(lW u locals qO B s).steps=s.steps+(B.ee.takeWhile (gM u)).length:=rfl;have X:(lW u locals qO B s).polls=s.polls:=rfl;have Y:(lW u locals qO B s).val.length=u.ee.length:=(Kw _ _).trans n;have K:(lW u locals qO B s).heap.length=hp.length:=A;have U:ej F4 h7 (fi lb 79 (pY B bv bn bp)::Rn (lW u locals qO B s).val (.slice lv 0 u.ee.length) lr lu u vv vb vs lh Th rm qU (lW u locals qO B s).heap ds):=U;rw[<-W,<-X];generalize lW u locals qO B s=sm at*;refine zfx (Jn:=Jn) (locals:=locals) g U (q.since p) Y (by omega) f (N.since o) (iN.since o) Ma (λv hv=>AP g f v (by rw[<-I];exact hv)) (by omega) (by omega) O (λZ h8 L a b' c d w j H8 aa he=>?_) λZ h8 j t ab H8 ac ad L aq ar ae ag=>?_
 ·exact H Z h8 L a b' c d w (p.trans j) H8 (aa.trans K) (by rw[hR,i];exact he)
 ·refine ⟨Jn,by omega,?_⟩;rw[T];have ah:t<u.blocks.length:=by
   rcases Ss t u.blocks.length with h|h
   ·exact h
   ·exact absurd (ZR h) ae
  exact⟨Z,{j with steps:=j.steps+1},some b,t,rfl,by show fuel<Jn+(j.steps+1);omega,by show j.steps+1<=fuel;omega,by show j.polls<=j.steps+1;omega,ah,p.trans ab,ac,ad.trans K,by rw[hR,i,ag],H8⟩
