/- Parts. -/
import Derived.Test.YtflkbfabonggkaaGreatDoorM42
set_option maxHeartbeats 4000000
namespace Go.Proofs.YtflkbfabonggkaaGreatDoor.Hx
open Un Dm
section
variable{F F':Nat->Prop}{h h':Hp}{cs ds:List Pc}{Q:ft}{u:U}{vv vb vs nj vQ rm ng bv bn bp Df:V}{ef hp locals:List Int}{lu lr lh lb Th:Nat}{fM:LP}{gw:Int}{fuel BM steps polls b:Nat}{l0:Option Nat}{B:Bk}
theorem zd8(g:Good u){s:Rs}{N:Nat}(H0:ej F h (ev lb 47 (kI B bv bn bp)::Rn s.val nj lr lu u vv vb vs lh Th rm ng s.heap ds))(hu:DA F h u vv vb vs)(aE:s.val.length=u.ef.length)(aX:s.heap.length<1000000000)(hB:u.blocks[b]? =some B)(iv:iy eN F h B.ef bv)(iN:iy eN F h B.next bn)
  (aY:N<=B.ef.length) (aF:∀v∈B.ef.drop N,fP u v=false) (hs:s.steps<=fuel+3000) (aG:s.polls<=s.steps) (aZ:fuel<=1000000)
  (HQ:∀F' h' aj a b' c d w,Sn F h F' h'->ej F' h' (ev lh Th [rm,ng]::eJ (eI .u64) Ac aj ng::ds)->aj.length=s.heap.length->ExR F' h' (Tj u locals gw fuel BM b B (nB u gw fuel (B.ef.drop N) s)) aj a d w->Q (.agg [.I a,.I b',.I c,w,.I d]) h')
  (HN:∀(F':Nat->Prop) (h':Hp) (s':Rs) (t:Nat),Sn F h F' h'->ej F' h' (Rn s'.val nj lr lu u vv vb vs lh Th rm ng s'.heap ds)->s'.val.length=u.ef.length->s'.heap.length=s.heap.length->s'.polls<=s'.steps->s.steps<=s'.steps->¬fuel<=s'.steps->u.blocks[t]?≠none->Tj u locals gw fuel BM b B (nB u gw fuel (B.ef.drop N) s)=runM u locals gw fuel BM (some b) t {s' with steps:=s'.steps+1}->
   fM [.ptr lh 0,vQ,.I gw,.I fuel,.ptr lu 0,.ptr lr 0,nj,.I ((s'.steps+1:Nat):Int),.I s'.polls,.I t,.I b] h') :
  lZ CS Q fM [.ptr lh 0,vQ,.I gw,.I fuel,.ptr lu 0,.ptr lr 0,nj,.I s.steps,.I s.polls,.I b,.ptr lb 0,.I N] h:=by
 have nv:=g.nv;have a4:B.ef.length<=u.ef.length:=jj _ B.ef (Ab g hB) λv hv=>by
  obtain⟨k,hk⟩:=mQ.1 hv;exact g.jE v b k ⟨B,hB,hk⟩
 obtain ⟨J,hJ⟩:∃J:Nat->LP,J=λk l h'=>∃(F':Nat->Prop) (i:Nat) (s':Rs),l=[.ptr lh 0,vQ,.I gw,.I fuel,.ptr lu 0,.ptr lr 0,nj,.I s'.steps,.I s'.polls,.I b,.ptr lb 0,.I i]/\i+k=B.ef.length/\N<=i/\Sn F h F' h'/\s'.val.length=u.ef.length/\s'.heap.length=s.heap.length/\
   s'.steps<=fuel+3000/\s'.polls<=s'.steps/\s.steps<=s'.steps/\nB u gw fuel (B.ef.drop N) s=nB u gw fuel (B.ef.drop i) s'/\ej F' h' (ev lb 47 (kI B bv bn bp)::Rn s'.val nj lr lu u vv vb vs lh Th rm ng s'.heap ds):=⟨_,rfl⟩
 refine CO J (λk x1 x2 x3 x4 x5 a5 a6 a7 a8 a9 ba bb h1 hi=>?_) (k:=B.ef.length-N) ?_;rotate_left
 ·rw[hJ];exact⟨F,N,s,rfl,by omega,iZ _,Sn.refl _ _,aE,rfl,hs,aG,iZ _,rfl,H0⟩
 clear H0;rw[hJ]at hi;obtain⟨F1,i,s',⟨⟩,hk,bc,s1,f,m,bd,ap,aH,Y,L⟩:=hi;rw[Y]at HQ HN;unfold uE;have aq:=iv.since s1;have u1:=hu.since s1;have c0:ez (.ptr lb (0+0)) h1=some bv:=L.ld 0 rfl rfl;refine oF c0 (ed aq.len ?_);have zB:fuel<=s'.steps->Tj u locals gw fuel BM b B (nB u gw fuel (B.ef.drop i) s') = .zB->fi (gI 5 (.ptr lr 0) (.agg [.I 0,.I (-1),.I (-1),.ee,.I s'.steps]) h1) λ_ h2=>oP (gv 5 (.ptr lr 0) h2) λr=>Q r h2:=λ_ he=>by
  refine Ut L rfl rfl λh2 s2 H2=>HQ F1 h2 s'.heap _ _ _ _ _ (s1.trans s2) H2 m ?_;rw[he];exact .inl ⟨rfl,rfl,rfl⟩
 by_cases hi:i<B.ef.length;rotate_left
 ·have hi:i=B.ef.length:=by omega
  subst hi;have er:nB u gw fuel (B.ef.drop B.ef.length) s' = .inr s':=by rw[List.drop_length];rfl
  rw[er]at HQ HN zB;refine iJ (UQ ?_);by_cases cf:fuel<=s'.steps
  ·refine gi (by omega) (ed (show _=some (.agg [.I 0,.I (-1),.I (-1),.ee,.I s'.steps]) from rfl) (zB cf ?_));show(if fuel<=s'.steps then Ex.zB else _)=_;rw[if_pos cf]
  refine fU (by omega) (fL (oF (L.ld 0 rfl rfl) (fX ?_)))
  have e1:Tj u locals gw fuel BM b B (.inr s')=if B.fin=3 then qi u {s' with steps:=s'.steps+1} B.state else match oY B s' with
    |none=> .stuck
    |some t=>runM u locals gw fuel BM (some b) t {s' with steps:=s'.steps+1}:=by
   show(if fuel<=s'.steps then Ex.zB else _)=_;rw[if_neg cf];rfl
  have go:∀t,B.fin≠3->t∈B.next->oY B s' = some t->fM [.ptr lh 0,vQ,.I gw,.I fuel,.ptr lu 0,.ptr lr 0,nj,.I ((s'.steps+1:Nat):Int),.I s'.polls,.I (t:Nat),.I b] h1:=λt hf hm hn=>by
   refine HN F1 h1 s' t s1 L.tail f m ap aH cf ?_ ?_
   ·have:=g.nx b t (by unfold next;rw[hB];exact hm);rw[gW this];simp
   ·rw[e1,if_neg hf,hn]
  have ak:=iN.since s1;rcases g.fin b B hB with⟨f1,fl⟩|⟨f2,fl,fc⟩|⟨f3,_,aI⟩
  ·have ht:=gW (l:=B.next) (i:=0) (by omega);have Z:=AW (l:=B.next) (n:=0) (by omega);generalize B.next[0]=t at*;obtain⟨l2,o2,_,p1,p2⟩:=ak.nat ht .i64;refine gi (by omega) (oF (L.ld 0 rfl rfl) (ed p1 (ed p2 (go t (by omega) Z ?_))));unfold oY;rw[if_pos f1,ht]
  ·refine fU (by omega) (fX (gi (by omega) ?_));have aJ:B.cond<s'.val.length:=by rw[f];exact AK fc
   obtain ⟨l3,o3,q1,q2,q3,_⟩:=L.Lw 1 rfl (JH aJ) .i64;refine oF (L.ld 0 rfl rfl) (ed q1 (ed q2 (yg ?_)));have ar:oY B s' = if CR s'.val B.cond=0 then B.next[1]? else B.next[0]?:=by
    unfold oY;rw[if_neg (by omega),if_pos f2];rfl
   by_cases cz:CR s'.val B.cond=0
   ·have ht:=gW (l:=B.next) (i:=1) (by omega);have Z:=AW (l:=B.next) (n:=1) (by omega);generalize B.next[1]=t at*;obtain⟨l2,o2,_,p1,p2⟩:=ak.nat ht .i64;refine gi cz (oF (L.ld 0 rfl rfl) (ed p1 (ed p2 (go t (by omega) Z ?_))));rw[ar,if_pos cz,ht]
   ·have ht:=gW (l:=B.next) (i:=0) (by omega);have Z:=AW (l:=B.next) (n:=0) (by omega);generalize B.next[0]=t at*;obtain⟨l2,o2,_,p1,p2⟩:=ak.nat ht .i64;refine fU cz (oF (L.ld 0 rfl rfl) (ed p1 (ed p2 (go t (by omega) Z ?_))));rw[ar,if_neg cz,ht]
  ·refine fU (by omega) (fX (fU (by omega) ?_));have I:=gW aI;generalize u.eh[B.state]=fs at*;refine ed (L.zb 3 rfl rfl) (oF (L.ld 0 rfl rfl) ?_);refine RH g L u1 (j:=1) rfl f I λF2 h2 w s2 H2 q=>?_;refine Ut H2 rfl (by simp only[ey,q.one];rfl) λO s3 C=>HQ F2 O s'.heap _ _ _ _ _ ((s1.trans s2).trans s3) C m ?_;rw[e1,if_pos f3,OQ I];exact .inr ⟨s'.steps+1,_,rfl,rfl,rfl,q.since s3,VC g I⟩
 refine gG (UQ ?_);have hv:=gW hi;have au:=Xx hi;have aK:B.ef[i]∈B.ef.drop N:=by
  rw[mQ];exact⟨i-N,by rw[wBW,show N+(i-N)=i by omega];exact hv⟩
 have P:=aF _ aK;generalize B.ef[i]=v at*;rw[au]at HQ HN zB;by_cases cf:fuel<=s'.steps
 ·refine gi (by omega) (ed (show _=some (.agg [.I 0,.I (-1),.I (-1),.ee,.I s'.steps]) from rfl) (zB cf ?_));rw[RR cf];rfl
 refine fU (by omega) (fL ?_);have aL:At u v b i:=⟨B,hB,hv⟩
 have aM:=g.jE v b i aL;have hx:=gW aM;generalize u.ef[v]=x at*;have aN:v<s'.val.length:=by omega
 obtain⟨l1,o1,_,p1,p2⟩:=aq.nat hv .i64;obtain⟨l2,o2,xa,_,q1,q2,xr,_⟩:=u1.val hx;have c2:ez (.ptr lu (0+2)) h1=some vv:=L.ld 3 rfl rfl;refine oF c0 (ed p1 (ed p2 (oF c2 (ed q1 (ed q2 ?_)))));refine ir L rfl rfl (by simp only[my,ey,xr.one];rfl) λO C s3=>?_;generalize h1.next=lc at*;have R:=s1.trans s3
 have aa:∀{F4:Nat->Prop} {h4:Hp} {s4:Rs},Sn F h F4 h4->pw u gw v x s' = .inr s4->s4.val.length=u.ef.length->s4.heap.length=s.heap.length->s4.steps=s'.steps+1->s4.polls<=s'.polls+1->ej F4 h4 (ev lb 47 (kI B bv bn bp)::Rn s4.val nj lr lu u vv vb vs lh Th rm ng s4.heap ds)->
   gf CS Q fM (BK J k) [.ptr lh 0,vQ,.I gw,.I fuel,.ptr lu 0,.ptr lr 0,nj,.I ((s'.steps+1:Nat):Int),.I (s4.polls:Nat),.I b,.ptr lb 0,.I i] h4:=λ{F4 h4 s4} st he aO aP aQ be H4=>by
  refine Cu ?_;unfold tE;refine fL ⟨k-1,by omega,?_⟩;rw[hJ,<-aQ];exact⟨F4,i+1,s4,rfl,by omega,by omega,st,aO,aP,by omega,by omega,by omega,by rw[Y,au];exact UM cf hx he,H4⟩
 have M:∀a,a<u.ef.length->∃l o,gz 1 nj (.I (a:Nat))=some (.ptr l o)/\ez (.ptr l o) O=some (.int .u64 (CR s'.val a))/\qc .u64 (CR s'.val a):=λa ha=>by
  obtain⟨l,o,r1,q,r3,_⟩:=C.Lw 2 rfl (JH (v:=a) (by omega)) .i64;exact⟨l,o,r1,q,r3⟩
 have al:∀w∈iH x,w<u.ef.length:=λw S=>AK (g.use v x hx w S)
 have A:∀{w:Int},x.op≠19/\x.op≠20/\x.op≠22/\x.op≠23->qc .u64 w->w=E9 x (CR s'.val) s'.heap->∃p W,gz 1 nj (.I v)=some p/\gI 1 p (.int .u64 w) O=some (.val .undef W)/\O.next<=W.next/\
   gf CS Q fM (BK J k) [.ptr lh 0,vQ,.I gw,.I fuel,.ptr lu 0,.ptr lr 0,nj,.I ((s'.steps+1:Nat):Int),.I s'.polls,.I b,.ptr lb 0,.I i] W:=λ{w} aR S he=>by
  obtain⟨l,o,W,r1,q,X,H5,s5⟩:=C.Jj 2 rfl (k:=v) (y:=w) (u:= .int .u64 w) aN rfl rfl ⟨rfl,S⟩;simp only[je,mA]at H5;refine⟨_,W,r1,q,X,aa (s4:={s' with val:=s'.val.set v w,steps:=s'.steps+1}) (R.trans s5) ?_ (by rw[LU];exact f) m rfl (O4 _) H5.tail⟩;rw[Wc aR,he];rfl
 have x0:ez (.ptr lc (0+0)) O=some (.I x.op):=C.ld 0 rfl rfl;have G:ez (.ptr lc (0+1)) O=some (.I x.a):=C.ld 0 rfl rfl;have ac:ez (.ptr lc (0+2)) O=some (.I x.b):=C.ld 0 rfl rfl;have am:ez (.ptr lc (0+3)) O=some (.I x.n):=C.ld 0 rfl rfl;have aS:ez (.ptr lc (0+4)) O=some xa:=C.ld 0 rfl rfl;have aw:ez (.ptr lc (0+5)) O=some (.I x.state):=C.ld 0 rfl rfl;have ae:x.op≠21:=λe=>by
  unfold fP at P;simp only[hx,e]at P;cases P
 have bf:x.op≠1:=λe=>by
  unfold fP at P;simp only[hx,e]at P;cases P
 obtain⟨ax,aT⟩:=EG (x:=x);have hA:two x.op=true\/na x.op=true->x.a<u.ef.length:=λhh=>al _ (hh.elim (λh=>(ax h ae).1) λh=>aT h ae);have ag:two x.op=true->x.b<u.ef.length:=λhh=>al _ (ax hh ae).2;have E:s'.heap.length<1000000000:=by omega
 have vW:∀{w:Int},E9 x (CR s'.val) s'.heap=w->w=E9 x (CR s'.val) s'.heap:=λh=>h.symm;refine oF x0 (fX ?_);by_cases o2:x.op=2
 ·obtain⟨p,W,r1,q,X,T⟩:=A (w:=pz x.n) (by omega) (Cw _) (by unfold E9;rw[if_pos o2]);refine gi (by omega) (oF am (ed (by rw[iC,jk]) (ed r1 ?_)));rw[q,ei];exact T
 refine fU (by omega) (fX ?_);by_cases U:x.op=15
 ·have D:na x.op=true:=by rw[U];rfl
  obtain⟨l,o,a1,a2,a3⟩:=M x.a (hA (.inr D));refine gi (by omega) (oF G (ed a1 (ed a2 (zbs C (i:=5) (j:=6) rfl rfl E a3 λS=>?_))));obtain⟨p,W,r1,q,X,T⟩:=A (w:=tw s'.heap (CR s'.val x.a) / 4294967296) (by omega) S (by unfold E9;rw[if_neg o2,if_pos U]);refine ed (by rw[iC,jk,KL S]) (ed r1 ?_);rw[q,ei];exact T
 refine fU (by omega) (fX ?_);by_cases ab:x.op=16
 ·have D:na x.op=true:=by rw[ab];rfl
  obtain⟨l,o,a1,a2,a3⟩:=M x.a (hA (.inr D));refine gi (by omega) (oF G (ed a1 (ed a2 (XB C (i:=5) (j:=6) rfl rfl E a3 λS=>?_))));obtain⟨p,W,r1,q,X,T⟩:=A (w:=tw s'.heap (CR s'.val x.a) % 4294967296) (by omega) S (by unfold E9;rw[if_neg o2,if_neg U,if_pos ab]);refine ed (by rw[iC,jk,KL S]) (ed r1 ?_);rw[q,ei];exact T
 refine fU (by omega) (fX ?_);by_cases ah:x.op=17
 ·have D:na x.op=true:=by rw[ah];rfl
  obtain⟨l,o,a1,a2,a3⟩:=M x.a (hA (.inr D));refine gi (by omega) (oF G (ed a1 (ed a2 (oF am (ed (by rw[iC,jk]) (ed (by rw[mj,jk]) (L9 C (i:=5) (j:=6) rfl rfl E (Cw _) λS=>?_)))))));obtain⟨p,W,r1,q,X,T⟩:=A (w:=tw s'.heap (pz (CR s'.val x.a+pz x.n))) (by omega) S (by unfold E9;rw[if_neg o2,if_neg U,if_neg ab,if_pos ah]);refine⟨iZ _,ed r1 ?_⟩;rw[q,ei];exact⟨X,T⟩
 refine fU (by omega) (fX ?_);by_cases an:x.op=18
 ·have D:two x.op=true:=by rw[an];rfl
  obtain⟨l,o,a1,a2,a3⟩:=M x.a (hA (.inl D));obtain⟨l',o',b1,b2,b3⟩:=M x.b (ag D);refine gi (by omega) (oF G (ed a1 (ed a2 (ed (by rw[mj,jk]) (oF ac (ed b1 (ed b2 (ed (by rw[mj,jk]) (L9 C (i:=5) (j:=6) rfl rfl E (Cw _) λS=>?_)))))))));obtain⟨p,W,r1,q,X,T⟩:=A (w:=tw s'.heap (pz (pz (CR s'.val x.a+1)+CR s'.val x.b))) (by omega) S (by unfold E9;rw[if_neg o2,if_neg U,if_neg ab,if_neg ah,if_pos an]);refine⟨iZ _,ed r1 ?_⟩;rw[q,ei];exact⟨X,T⟩
 refine fU (by omega) (fX ?_);by_cases K:x.op=19
 ·have D:two x.op=true:=by rw[K];rfl
  obtain⟨l,o,a1,a2,a3⟩:=M x.a (hA (.inl D));obtain⟨l',o',b1,b2,b3⟩:=M x.b (ag D);refine gi (by omega) (oF G (ed a1 (ed a2 (oF am (ed (by rw[iC,jk]) (ed (by rw[mj,jk]) (oF ac (ed b1 (ed b2 (Ud C (i:=5) (j:=6) rfl rfl E (Cw _) b3 λh4 r s4 H4=>⟨s4.next,?_⟩))))))))));simp only[je,mA]at H4;refine aa (s4:={s' with heap:=ND s'.heap (pz (CR s'.val x.a+pz x.n)) (CR s'.val x.b),steps:=s'.steps+1}) (R.trans s4) ?_ f (by rw[NM];exact m) rfl (O4 _) H4.tail;unfold pw;rw[if_pos K];rfl
 refine fU (by omega) (fX ?_);by_cases H:x.op=20
 ·have D:two x.op=true:=by rw[H];rfl
  obtain ⟨l,o,a1,a2,a3⟩:=M x.a (hA (.inl D));obtain⟨l',o',b1,b2,b3⟩:=M x.b (ag D);have bg:=g.putAt v x hx H;have ay:=gW (l:=x.args) (i:=0) (by omega);have aU:x.args[0]<u.ef.length:=al _ (by
   unfold iH;rw[if_neg ae,if_pos H];have:x.args.take 1=[x.args[0]]:=by rw[N6 (by omega)];rfl
   rw[this];simp)
  have aV:x.args.getD 0 0=x.args[0]:=by rw[DY,ay];rfl
  generalize x.args[0]=c at*;obtain⟨l6,o6,_,t1,t2⟩:=(xr.since s3).nat ay .i64;obtain⟨l7,o7,y1,y2,y3⟩:=M c aU;refine gi (by omega) (oF G (ed a1 (ed a2 (ed (by rw[mj,jk]) (oF ac (ed b1 (ed b2 (ed (by rw[mj,jk]) (oF aS (ed t1 (ed t2 (ed y1 (ed y2 (Ud C (i:=5) (j:=6) rfl rfl E (Cw _) y3 λh4 r s4 H4=>⟨s4.next,?_⟩))))))))))))));simp only[je,mA]at H4;refine aa (s4:={s' with heap:=ND s'.heap (pz (pz (CR s'.val x.a+1)+CR s'.val x.b)) (CR s'.val c),steps:=s'.steps+1}) (R.trans s4) ?_ f (by rw[NM];exact m) rfl (O4 _) H4.tail;unfold pw;rw[if_neg K,if_pos H,aV];rfl
 refine fU (by omega) (fX ?_)
 have lv:∀{fs:List Fm},u.eh[x.state]? =some fs->pw u gw v x s' = .inl (qi u {s' with steps:=s'.steps+1} x.state)->
   cP CS iS [.agg (uC u vv vb vs),nj,.I x.state,.I v,.I ((s'.steps+1:Nat):Int)] O λaA aW=>fi (gI 5 (.ptr lr 0) aA aW) λ_ aB=>oP (gv 5 (.ptr lr 0) aB) λr=>Q r aB:=λ{fs} I he=>by
  refine RH g C (u1.since s3) (j:=2) rfl f I λF2 h2 w s2 H2 q=>?_;refine Ut H2.tail rfl (by simp only[ey,q.one];rfl) λh4 s4 H4=>HQ F2 h4 s'.heap _ _ _ _ _ ((R.trans s2).trans s4) H4 m ?_;rw[WN cf hx he,show Tj u locals gw fuel BM b B (.inl (qi u {s' with steps:=s'.steps+1} x.state))=qi u {s' with steps:=s'.steps+1} x.state from rfl,OQ I];exact .inr ⟨s'.steps+1,_,rfl,rfl,rfl,q.since s4,VC g I⟩
 by_cases V:x.op=22
 ·have D:na x.op=true:=by rw[V];rfl
  obtain⟨l,o,a1,a2,a3⟩:=M x.a (hA (.inr D));have ng:=g.leave v x hx (by rw[V];rfl);refine gi (by omega) (oF G (ed a1 (ed a2 (fX ?_))));by_cases z:CR s'.val x.a=0
  ·refine gi z (ed (C.zb 4 rfl rfl) (oF aw (lv (gW ng) ?_)));unfold pw;rw[if_neg K,if_neg H,if_pos V,if_pos (show s'.of x.a=0 from z)]
  ·refine fU z (aa (s4:={s' with steps:=s'.steps+1}) R ?_ f m rfl (O4 _) C.tail);unfold pw;rw[if_neg K,if_neg H,if_pos V,if_neg (show ¬s'.of x.a=0 from z)]
 refine fU (by omega) (fX ?_);by_cases ao:x.op=23
 ·have ng:=g.leave v x hx (by rw[ao];rfl);refine gi (by omega) (ed (nM ..) (ed (a:= .bool (decide (0<=gw/\(s'.polls:Int)=gw))) ?_ (iO ?_)))
  ·by_cases c:0<=gw
   ·rw[Kt c,oS];simp only[fe,ik];congr 2;rw[Tf,HR,AQ];exact⟨λh=>⟨c,h⟩,λh=>h.2⟩
   ·rw[N5 c,Ew,N5 λh=>c h.1]
  by_cases z:0<=gw/\(s'.polls:Int)=gw
  ·refine gi (Kt z) (ed (C.zb 4 rfl rfl) (oF aw (lv (gW ng) ?_)));unfold pw;rw[if_neg K,if_neg H,if_neg V,if_pos ao,if_pos z]
  ·refine fU (by rw[AQ];exact z) (fL (aa (s4:={s' with steps:=s'.steps+1,polls:=s'.polls+1}) R ?_ f m rfl (iZ _) C.tail));unfold pw;rw[if_neg K,if_neg H,if_neg V,if_pos ao,if_neg z]
 refine fU (by omega) ?_;obtain⟨g1,g2⟩:=g.op v x hx;have aC:∀c:Bool,(c=true↔x.op=8\/x.op=9)->lD CS Q fM (BK J k) [.ptr lh 0,vQ,.I gw,.I fuel,.ptr lu 0,.ptr lr 0,nj,.I ((s'.steps+1:Nat):Int),.I s'.polls,.I b,.ptr lb 0,.I i,.I v,.ptr lc 0,.bool c] O:=λc hc=>by
  refine B9 ?_;unfold tH;have aD:E9 x (CR s'.val) s'.heap=if x.op=8\/x.op=9 then A4 x.op (CR s'.val x.a) 0 else A4 x.op (CR s'.val x.a) (CR s'.val x.b):=by
   unfold E9;rw[if_neg o2,if_neg U,if_neg ab,if_neg ah,if_neg an]
  cases c with
  | true=>
    have ai:=hc.1 rfl;have D:na x.op=true:=by rcases ai with c|c <;> rw[c] <;> rfl
    obtain⟨l,o,a1,a2,a3⟩:=M x.a (hA (.inr D));obtain⟨p,W,r1,q,X,T⟩:=A (w:=A4 x.op (CR s'.val x.a) 0) (by omega) (Py _ _ _) (by rw[aD,if_pos ai]);refine iO (gi rfl (oF x0 (oF G (ed a1 (ed a2 (RU a3 zR (by omega) ⟨iZ _,?_⟩))))));refine ed (show zk 0 (.tuple [_,_])=_ from rfl) (ed (show zk 1 (.tuple [_,_])=_ from rfl) (ed r1 ?_));rw[q,ei]
    exact⟨X,T⟩
  | false=>
    have ai:¬(x.op=8\/x.op=9):=λh=>by have:=hc.2 h;cases this
    have D:two x.op=true:=by
      unfold two;simp only[PV,xg,AQ,HR];omega
    obtain⟨l,o,a1,a2,a3⟩:=M x.a (hA (.inl D));obtain⟨l',o',b1,b2,b3⟩:=M x.b (ag D);obtain⟨p,W,r1,q,X,T⟩:=A (w:=A4 x.op (CR s'.val x.a) (CR s'.val x.b)) (by omega) (Py _ _ _) (by rw[aD,if_neg ai]);refine iO (fU (by simp) (oF x0 (oF G (ed a1 (ed a2 (oF ac (ed b1 (ed b2 (RU a3 b3 (by omega) ⟨iZ _,?_⟩)))))))));refine ed (show zk 0 (.tuple [_,_])=_ from rfl) (ed (show zk 1 (.tuple [_,_])=_ from rfl) (ed r1 ?_));rw[q,ei];exact⟨X,T⟩
 refine ed (ik ..) (iO ?_);by_cases o8:x.op=8
 ·have e:((x.op:Int) == 8)=true:=HR.2 (by omega);rw[e];exact gi rfl (aC true ⟨λ_=> .inl o8,λ_=>rfl⟩)
 ·have e:((x.op:Int) == 8)=false:=Ti.2 (by omega);rw[e];refine fU (by simp) (ed (ik ..) (aC _ ?_));rw[HR];constructor
  ·intro h;exact .inr (by omega)
  ·intro h;omega
end
open Un Dm
section
variable{F F':Nat->Prop}{h h':Hp}{cs ds:List Pc}{Q:ft}{u:U}{vv vb vs vQ rm ng:V}{hp locals:List Int}{lh Th:Nat}{gw:Int}{fuel:Nat}
theorem XD(g:Good u)(H0:ej F h (ev lh Th [rm,ng]::eJ (eI .u64) Ac hp ng::ds))(q:DA F h u vv vb vs)(r:iy (eI .u64) F h locals vQ)(ll:locals.length<1000000000)(aj:hp.length<1000000000)(O:fuel<=1000000)
  (H:∀F' h' m a b c d w,Sn F h F' h'->ej F' h' (ev lh Th [rm,ng]::eJ (eI .u64) Ac m ng::ds)->m.length=hp.length->ExR F' h' (runM u locals gw fuel (fuel+1) none 0 (pK u hp)) m a d w->Q (.agg [.I a,.I b,.I c,w,.I d]) h') :
  cP CS jq [.agg (uC u vv vb vs),.ptr lh 0,vQ,.I gw,.I fuel] h Q:=by
 refine Gj rfl rfl ?_;unfold yU;have nv:=g.nv;have KC:=g.KC;refine ml H0 q.one λh1 H1 s1=>AU H1 λx P s2=>?_;generalize h.next=lu at*;generalize h1.next=lr at*;refine oF (P.ld 1 rfl rfl) (ed ((q.since s1).since s2).v.len ?_);rw[kr (z:=V.int .u64 0) rfl (by decide) (by omega),fx];obtain⟨M,R⟩:=P.make (E:=eI .u64) (ty:=Ac) (y:=0) (u:=V.int .u64 0) u.ef.length ⟨rfl,zR⟩ rfl;have M:ej F (x.new (.cells 59 1 true false (List.replicate u.ef.length (V.int .u64 0)))) _:=M;have R:Sn F x F (x.new (.cells 59 1 true false (List.replicate u.ef.length (V.int .u64 0)))):=R;generalize x.new (.cells 59 1 true false (List.replicate u.ef.length (V.int .u64 0)))=h3 at*;generalize x.next=lv at*;have S:=(s1.trans s2).trans R
 obtain ⟨J,T⟩:∃J:Nat->LP,J=λk l h'=>∃(F':Nat->Prop) (s:Rs) (l0:Option Nat) (b:Nat),l=[.ptr lh 0,vQ,.I gw,.I fuel,.ptr lu 0,.ptr lr 0,.slice lv 0 u.ef.length,.I s.steps,.I s.polls,.I b,.I (LK l0)]/\fuel<k+s.steps/\s.steps<=fuel/\s.polls<=s.steps/\b<u.blocks.length/\
   Sn F h F' h'/\s.val.length=u.ef.length/\s.heap.length=hp.length/\runM u locals gw fuel (fuel+1) none 0 (pK u hp)=runM u locals gw fuel k l0 b s/\ej F' h' (Rn s.val (.slice lv 0 u.ef.length) lr lu u vv vb vs lh Th rm ng s.heap ds):=⟨_,rfl⟩
 refine Dp J (λk x1 x2 x3 x4 x5 ak al am an ao ap h4 hi=>?_) (k:=fuel+1) ?_;rotate_left
 ·rw[T];exact⟨F,pK u hp,none,0,rfl,Oy _,NJ _,iZ _,by omega,S,W9,rfl,rfl,M⟩
 clear M P H1;rw[T]at hi;obtain⟨F4,s,l0,b,⟨⟩,hk,aq,ar,hb,s4,n,A,hR,H4⟩:=hi;obtain⟨BM,rfl⟩:∃BM,k=BM+1:=⟨k-1,by omega⟩
 unfold uU;have u4:=q.since s4;have f:=gW hb;generalize u.blocks[b]=B at*;obtain⟨l1,o1,bv,bn,bp,_,x1,x2,N,iN,ip,_⟩:=u4.nf f;refine oF (H4.ld 2 rfl rfl) (ed x1 (ed x2 ?_));refine ir H4 rfl rfl (by simp only[kI,ey,N.one,iN.one,ip.one];rfl) λh5 H5 C=>?_;generalize h4.next=lb at*;have D:=s4.trans C;refine zeO g H5 (q.since D) (r.since D) n f (N.since C) (ip.since C) ll λh6 Df s6 H6=>?_;refine zdM g H6 n f ((N.since C).since s6) (by omega) λh7 s7 U=>?_;have o:=(C.trans s6).trans s7;have p:=s4.trans o;have G:B.ef.takeWhile (fP u)++B.ef.dropWhile (fP u)=B.ef:=wAt;have I:B.ef.drop (B.ef.takeWhile (fP u)).length=B.ef.dropWhile (fP u):=by
  have e:=List.drop_left (l₁:=B.ef.takeWhile (fP u)) (l₂:=B.ef.dropWhile (fP u));rw[G]at e;exact e
 have au:B.ef.length<=u.ef.length:=jj _ B.ef (Ab g f) λv hv=>by
  obtain⟨k,hk⟩:=mQ.1 hv;exact g.jE v b k ⟨B,f,hk⟩
 have W:(B.ef.takeWhile (fP u)).length<=B.ef.length:=by
  have:=congrArg List.length G;rw[Ji]at this;omega
 have i:runM u locals gw fuel (BM+1) l0 b s=Tj u locals gw fuel BM b B (nB u gw fuel (B.ef.drop (B.ef.takeWhile (fP u)).length) (ka u locals l0 B s)):=by rw[zaR f,I]
 have X:(ka u locals l0 B s).steps=s.steps+(B.ef.takeWhile (fP u)).length:=rfl;have Y:(ka u locals l0 B s).polls=s.polls:=rfl;have Z:(ka u locals l0 B s).val.length=u.ef.length:=(Aq _ _).trans n;have K:(ka u locals l0 B s).heap.length=hp.length:=A;have U:ej F4 h7 (ev lb 47 (kI B bv bn bp)::Rn (ka u locals l0 B s).val (.slice lv 0 u.ef.length) lr lu u vv vb vs lh Th rm ng (ka u locals l0 B s).heap ds):=U;rw[<-X,<-Y];generalize ka u locals l0 B s=sm at*;refine zd8 (BM:=BM) (locals:=locals) g U (q.since p) Z (by omega) f (N.since o) (iN.since o) W (λv hv=>E0 g f v (by rw[<-I];exact hv)) (by omega) (by omega) O (λF8 h8 L a b' c d w j H8 aa he=>?_) λF8 h8 j t ab H8 ac ae L aw ax ag ah=>?_
 ·exact H F8 h8 L a b' c d w (p.trans j) H8 (aa.trans K) (by rw[hR,i];exact he)
 ·refine ⟨BM,by omega,?_⟩;rw[T];have ai:t<u.blocks.length:=by
   rcases Te t u.blocks.length with h|h
   ·exact h
   ·exact absurd (VM h) ag
  exact⟨F8,{j with steps:=j.steps+1},some b,t,rfl,by show fuel<BM+(j.steps+1);omega,by show j.steps+1<=fuel;omega,by show j.polls<=j.steps+1;omega,ai,p.trans ab,ac,ae.trans K,by rw[hR,i,ah],H8⟩
end
