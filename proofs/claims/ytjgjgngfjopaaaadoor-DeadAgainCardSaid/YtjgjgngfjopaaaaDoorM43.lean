/- Parts. -/
import Derived.Test.YtjgjgngfjopaaaaDoorM42
namespace Go.Proofs.YtjgjgngfjopaaaaDoor.Hx
open Un Dm
section
variable{F F':Nat->Prop}{h h':Hp}{cs ds:List Pc}{Q:fy}{u:U}{vv vb vs mS u0 rm lT bv bn bp BS:V}{ef hp locals:List Int}{lu lr lh lb Th:Nat}{fS:LP}{gS:Int}{fuel Eu steps polls b:Nat}{oA:Option Nat}{B:Bk}
theorem zbW(g:Good u){s:Rs}{N:Nat}(H0:en F h (ev lb 50 (kr B bv bn bp)::Rn s.val mS lr lu u vv vb vs lh Th rm lT s.heap ds))(hu:A0 F h u vv vb vs)(aE:s.val.length=u.ef.length)(aX:s.heap.length<1000000000)(hB:u.blocks[b]? =some B)(iv:iC eN F h B.ef bv)(iN:iC eN F h B.next bn)
  (aY:N<=B.ef.length) (aF:∀v∈B.ef.drop N,gR u v=false) (hs:s.steps<=fuel+3000) (aG:s.polls<=s.steps) (aZ:fuel<=1000000)
  (HQ:∀F' h' aj a b' c d w,Sn F h F' h'->en F' h' (ev lh Th [rm,lT]::eR (eI .u64) zu aj lT::ds)->aj.length=s.heap.length->ExR F' h' (SB u locals gS fuel Eu b B (pB u gS fuel (B.ef.drop N) s)) aj a d w->Q (.agg [.I a,.I b',.I c,w,.I d]) h')
  (HN:∀(F':Nat->Prop) (h':Hp) (s':Rs) (t:Nat),Sn F h F' h'->en F' h' (Rn s'.val mS lr lu u vv vb vs lh Th rm lT s'.heap ds)->s'.val.length=u.ef.length->s'.heap.length=s.heap.length->s'.polls<=s'.steps->s.steps<=s'.steps->¬fuel<=s'.steps->u.blocks[t]?≠none->SB u locals gS fuel Eu b B (pB u gS fuel (B.ef.drop N) s)=runM u locals gS fuel Eu (some b) t {s' with steps:=s'.steps+1}->
   fS [.ptr lh 0,u0,.I gS,.I fuel,.ptr lu 0,.ptr lr 0,mS,.I ((s'.steps+1:Nat):Int),.I s'.polls,.I t,.I b] h') :
  lJ CS Q fS [.ptr lh 0,u0,.I gS,.I fuel,.ptr lu 0,.ptr lr 0,mS,.I s.steps,.I s.polls,.I b,.ptr lb 0,.I N] h:=by
 have nv:=g.nv;have pf:∀{l o k:Nat},fH k (.ptr l o)=some (.ptr l (o+k)):=eJ _ _ _;have a5:B.ef.length<=u.ef.length:=jK _ B.ef (BR g hB) λv hv=>by
  obtain⟨k,hk⟩:=mK.1 hv;exact g.mb v b k ⟨B,hB,hk⟩
 obtain ⟨J,hJ⟩:∃J:Nat->LP,J=λk l h'=>∃(F':Nat->Prop) (i:Nat) (s':Rs),l=[.ptr lh 0,u0,.I gS,.I fuel,.ptr lu 0,.ptr lr 0,mS,.I s'.steps,.I s'.polls,.I b,.ptr lb 0,.I i]/\i+k=B.ef.length/\N<=i/\Sn F h F' h'/\s'.val.length=u.ef.length/\s'.heap.length=s.heap.length/\
   s'.steps<=fuel+3000/\s'.polls<=s'.steps/\s.steps<=s'.steps/\pB u gS fuel (B.ef.drop N) s=pB u gS fuel (B.ef.drop i) s'/\en F' h' (ev lb 50 (kr B bv bn bp)::Rn s'.val mS lr lu u vv vb vs lh Th rm lT s'.heap ds):=⟨_,rfl⟩
 refine BQ J (λk x1 x2 x3 x4 x5 a6 a7 a8 a9 ba bb bc h1 hi=>?_) (k:=B.ef.length-N) ?_;rotate_left
 ·rw[hJ];exact⟨F,N,s,rfl,by omega,jj _,Sn.refl _ _,aE,rfl,hs,aG,jj _,rfl,H0⟩
 clear H0;rw[hJ]at hi;obtain⟨F1,i,s',⟨⟩,hk,bd,s1,f,m,be,ap,aH,Y,L⟩:=hi;rw[Y]at HQ HN;unfold uc;have aq:=iv.since s1;have u1:=hu.since s1;have c0:ez (.ptr lb (0+0)) h1=some bv:=L.ld 0 rfl rfl;refine oF c0 (ed aq.len ?_);have zK:fuel<=s'.steps->SB u locals gS fuel Eu b B (pB u gS fuel (B.ef.drop i) s') = .zK->fm (gK 5 (.ptr lr 0) (.agg [.I 0,.I (-1),.I (-1),.ee,.I s'.steps]) h1) λ_ h2=>oP (gg 5 (.ptr lr 0) h2) λr=>Q r h2:=λ_ he=>by
  refine SL L rfl rfl λh2 s2 H2=>HQ F1 h2 s'.heap _ _ _ _ _ (s1.trans s2) H2 m ?_;rw[he];exact .inl ⟨rfl,rfl,rfl⟩
 by_cases hi:i<B.ef.length;rotate_left
 ·have hi:i=B.ef.length:=by omega
  subst hi;have er:pB u gS fuel (B.ef.drop B.ef.length) s' = .inr s':=by rw[List.drop_length];rfl
  rw[er]at HQ HN zK;refine iI (TN ?_);by_cases cf:fuel<=s'.steps
  ·refine gw (by omega) (ed (show _=some (.agg [.I 0,.I (-1),.I (-1),.ee,.I s'.steps]) from rfl) (zK cf ?_));show(if fuel<=s'.steps then Ex.zK else _)=_;rw[if_pos cf]
  refine gi (by omega) (fN (oF (L.ld 0 rfl rfl) (gj ?_)))
  have e1:SB u locals gS fuel Eu b B (.inr s')=if B.fin=3 then vh u {s' with steps:=s'.steps+1} B.state else match D1 B s' with
    |none=> .stuck
    |some t=>runM u locals gS fuel Eu (some b) t {s' with steps:=s'.steps+1}:=by
   show(if fuel<=s'.steps then Ex.zK else _)=_;rw[if_neg cf];rfl
  have go:∀t,B.fin≠3->t∈B.next->D1 B s' = some t->fS [.ptr lh 0,u0,.I gS,.I fuel,.ptr lu 0,.ptr lr 0,mS,.I ((s'.steps+1:Nat):Int),.I s'.polls,.I (t:Nat),.I b] h1:=λt hf hm hn=>by
   refine HN F1 h1 s' t s1 L.tail f m ap aH cf ?_ ?_
   ·have:=g.nx b t (by unfold next;rw[hB];exact hm);rw[gP this];simp
   ·rw[e1,if_neg hf,hn]
  have ak:=iN.since s1;rcases g.fin b B hB with⟨f1,fl⟩|⟨f2,fl,fc⟩|⟨f3,_,aI⟩
  ·have ht:=gP (l:=B.next) (i:=0) (by omega);have Z:=zq (l:=B.next) (n:=0) (by omega);generalize B.next[0]=t at*;obtain⟨l2,o2,_,p1,p2⟩:=ak.nat ht .i64;refine gw (by omega) (oF (L.ld 0 rfl rfl) (ed p1 (ed p2 (go t (by omega) Z ?_))));unfold D1;rw[if_pos f1,ht]
  ·refine gi (by omega) (gj (gw (by omega) ?_));have aJ:B.cond<s'.val.length:=by rw[f];exact vD fc
   obtain ⟨l3,o3,q1,q2,q3,_⟩:=L.Kj 1 rfl (IK aJ) .i64;refine oF (L.ld 0 rfl rfl) (ed q1 (ed q2 (zN ?_)));have ar:D1 B s' = if Cl s'.val B.cond=0 then B.next[1]? else B.next[0]?:=by
    unfold D1;rw[if_neg (by omega),if_pos f2];rfl
   by_cases cz:Cl s'.val B.cond=0
   ·have ht:=gP (l:=B.next) (i:=1) (by omega);have Z:=zq (l:=B.next) (n:=1) (by omega);generalize B.next[1]=t at*;obtain⟨l2,o2,_,p1,p2⟩:=ak.nat ht .i64;refine gw cz (oF (L.ld 0 rfl rfl) (ed p1 (ed p2 (go t (by omega) Z ?_))));rw[ar,if_pos cz,ht]
   ·have ht:=gP (l:=B.next) (i:=0) (by omega);have Z:=zq (l:=B.next) (n:=0) (by omega);generalize B.next[0]=t at*;obtain⟨l2,o2,_,p1,p2⟩:=ak.nat ht .i64;refine gi cz (oF (L.ld 0 rfl rfl) (ed p1 (ed p2 (go t (by omega) Z ?_))));rw[ar,if_neg cz,ht]
  ·refine gi (by omega) (gj (gi (by omega) ?_));have I:=gP aI;generalize u.eh[B.state]=fs at*;refine ed (L.wS 3 rfl rfl) (oF (L.ld 0 rfl rfl) ?_);refine QZ g L u1 (j:=1) rfl f I λF2 h2 w s2 H2 q=>?_;refine SL H2 rfl (by simp only[eQ,q.one];rfl) λO s3 C=>HQ F2 O s'.heap _ _ _ _ _ ((s1.trans s2).trans s3) C m ?_;rw[e1,if_pos f3,Nn I];exact .inr ⟨s'.steps+1,_,rfl,rfl,rfl,q.since s3,Tu g I⟩
 refine gG (TN ?_);have hv:=gP hi;have au:=XU hi;have aK:B.ef[i]∈B.ef.drop N:=by
  rw[mK];exact⟨i-N,by rw[Vr,show N+(i-N)=i by omega];exact hv⟩
 have P:=aF _ aK;generalize B.ef[i]=v at*;rw[au]at HQ HN zK;by_cases cf:fuel<=s'.steps
 ·refine gw (by omega) (ed (show _=some (.agg [.I 0,.I (-1),.I (-1),.ee,.I s'.steps]) from rfl) (zK cf ?_));rw[Q6 cf];rfl
 refine gi (by omega) (fN ?_);have aL:At u v b i:=⟨B,hB,hv⟩
 have aM:=g.mb v b i aL;have hx:=gP aM;generalize u.ef[v]=x at*;have aN:v<s'.val.length:=by omega
 obtain⟨l1,o1,_,p1,p2⟩:=aq.nat hv .i64;obtain⟨l2,o2,xa,_,q1,q2,xr,_⟩:=u1.val hx;have c2:ez (.ptr lu (0+2)) h1=some vv:=L.ld 3 rfl rfl;refine oF c0 (ed p1 (ed p2 (oF c2 (ed q1 (ed q2 ?_)))));refine iG L rfl rfl (by simp only[mz,eQ,xr.one];rfl) λO C s3=>?_;generalize h1.next=lc at*;have R:=s1.trans s3
 have aa:∀{F4:Nat->Prop} {h4:Hp} {s4:Rs},Sn F h F4 h4->zk u gS v x s' = .inr s4->s4.val.length=u.ef.length->s4.heap.length=s.heap.length->s4.steps=s'.steps+1->s4.polls<=s'.polls+1->en F4 h4 (ev lb 50 (kr B bv bn bp)::Rn s4.val mS lr lu u vv vb vs lh Th rm lT s4.heap ds)->
   fY CS Q fS (CE J k) [.ptr lh 0,u0,.I gS,.I fuel,.ptr lu 0,.ptr lr 0,mS,.I ((s'.steps+1:Nat):Int),.I (s4.polls:Nat),.I b,.ptr lb 0,.I i] h4:=λ{F4 h4 s4} st he aO aP aQ bf H4=>by
  refine BJ ?_;unfold sS;refine fN ⟨k-1,by omega,?_⟩;rw[hJ,<-aQ];exact⟨F4,i+1,s4,rfl,by omega,by omega,st,aO,aP,by omega,by omega,by omega,by rw[Y,au];exact So cf hx he,H4⟩
 have M:∀a,a<u.ef.length->∃l o,gD 1 mS (.I (a:Nat))=some (.ptr l o)/\ez (.ptr l o) O=some (.int .u64 (Cl s'.val a))/\tH .u64 (Cl s'.val a):=λa ha=>by
  obtain⟨l,o,r1,q,r3,_⟩:=C.Kj 2 rfl (IK (v:=a) (by omega)) .i64;exact⟨l,o,r1,q,r3⟩
 have al:∀w∈je x,w<u.ef.length:=λw S=>vD (g.use v x hx w S)
 have A:∀{w:Int},x.op≠19/\x.op≠20/\x.op≠22/\x.op≠23->tH .u64 w->w=Fs x (Cl s'.val) s'.heap->∃p W,gD 1 mS (.I v)=some p/\gK 1 p (.int .u64 w) O=some (.val .undef W)/\O.next<=W.next/\
   fY CS Q fS (CE J k) [.ptr lh 0,u0,.I gS,.I fuel,.ptr lu 0,.ptr lr 0,mS,.I ((s'.steps+1:Nat):Int),.I s'.polls,.I b,.ptr lb 0,.I i] W:=λ{w} aR S he=>by
  obtain⟨l,o,W,r1,q,X,H5,s5⟩:=C.Ig 2 rfl (k:=v) (y:=w) (u:= .int .u64 w) aN rfl rfl ⟨rfl,S⟩;simp only[iY,lj]at H5;refine⟨_,W,r1,q,X,aa (s4:={s' with val:=s'.val.set v w,steps:=s'.steps+1}) (R.trans s5) ?_ (by rw[Mi];exact f) m rfl (Nk _) H5.tail⟩;rw[U6 aR,he];rfl
 have x0:ez (.ptr lc (0+0)) O=some (.I x.op):=C.ld 0 rfl rfl;have G:ez (.ptr lc (0+1)) O=some (.I x.a):=C.ld 0 rfl rfl;have ac:ez (.ptr lc (0+2)) O=some (.I x.b):=C.ld 0 rfl rfl;have am:ez (.ptr lc (0+3)) O=some (.I x.n):=C.ld 0 rfl rfl;have aS:ez (.ptr lc (0+4)) O=some xa:=C.ld 0 rfl rfl;have aw:ez (.ptr lc (0+5)) O=some (.I x.state):=C.ld 0 rfl rfl;have ae:x.op≠21:=λe=>by
  unfold gR at P;simp only[hx,e]at P;cases P
 have bg:x.op≠1:=λe=>by
  unfold gR at P;simp only[hx,e]at P;cases P
 obtain⟨ax,aT⟩:=Ld (x:=x);have hA:two x.op=true\/pg x.op=true->x.a<u.ef.length:=λhh=>al _ (hh.elim (λh=>(ax h ae).1) λh=>aT h ae);have ag:two x.op=true->x.b<u.ef.length:=λhh=>al _ (ax hh ae).2;have E:s'.heap.length<1000000000:=by omega
 have vW:∀{w:Int},Fs x (Cl s'.val) s'.heap=w->w=Fs x (Cl s'.val) s'.heap:=λh=>h.symm;refine oF x0 (gj ?_);by_cases o2:x.op=2
 ·obtain⟨p,W,r1,q,X,T⟩:=A (w:=BM x.n) (by omega) (Fu _) (by unfold Fs;rw[if_pos o2]);refine gw (by omega) (oF am (ed (by rw[jk,ku]) (ed r1 ?_)));rw[q,ei];exact T
 refine gi (by omega) (gj ?_);by_cases U:x.op=15
 ·have D:pg x.op=true:=by rw[U];rfl
  obtain⟨l,o,a1,a2,a3⟩:=M x.a (hA (.inr D));refine gw (by omega) (oF G (ed a1 (ed a2 (YI C (i:=5) (j:=6) rfl rfl E a3 λS=>?_))));obtain⟨p,W,r1,q,X,T⟩:=A (w:=sV s'.heap (Cl s'.val x.a) / 4294967296) (by omega) S (by unfold Fs;rw[if_neg o2,if_pos U]);refine ed (by rw[jk,ku,JD S]) (ed r1 ?_);rw[q,ei];exact T
 refine gi (by omega) (gj ?_);by_cases ab:x.op=16
 ·have D:pg x.op=true:=by rw[ab];rfl
  obtain⟨l,o,a1,a2,a3⟩:=M x.a (hA (.inr D));refine gw (by omega) (oF G (ed a1 (ed a2 (Wz C (i:=5) (j:=6) rfl rfl E a3 λS=>?_))));obtain⟨p,W,r1,q,X,T⟩:=A (w:=sV s'.heap (Cl s'.val x.a) % 4294967296) (by omega) S (by unfold Fs;rw[if_neg o2,if_neg U,if_pos ab]);refine ed (by rw[jk,ku,JD S]) (ed r1 ?_);rw[q,ei];exact T
 refine gi (by omega) (gj ?_);by_cases ah:x.op=17
 ·have D:pg x.op=true:=by rw[ah];rfl
  obtain⟨l,o,a1,a2,a3⟩:=M x.a (hA (.inr D));refine gw (by omega) (oF G (ed a1 (ed a2 (oF am (ed (by rw[jk,ku]) (ed (by rw[mC,ku]) (KY C (i:=5) (j:=6) rfl rfl E (Fu _) λS=>?_)))))));obtain⟨p,W,r1,q,X,T⟩:=A (w:=sV s'.heap (BM (Cl s'.val x.a+BM x.n))) (by omega) S (by unfold Fs;rw[if_neg o2,if_neg U,if_neg ab,if_pos ah]);refine⟨jj _,ed r1 ?_⟩;rw[q,ei];exact⟨X,T⟩
 refine gi (by omega) (gj ?_);by_cases an:x.op=18
 ·have D:two x.op=true:=by rw[an];rfl
  obtain⟨l,o,a1,a2,a3⟩:=M x.a (hA (.inl D));obtain⟨l',o',b1,b2,b3⟩:=M x.b (ag D);refine gw (by omega) (oF G (ed a1 (ed a2 (ed (by rw[mC,ku]) (oF ac (ed b1 (ed b2 (ed (by rw[mC,ku]) (KY C (i:=5) (j:=6) rfl rfl E (Fu _) λS=>?_)))))))));obtain⟨p,W,r1,q,X,T⟩:=A (w:=sV s'.heap (BM (BM (Cl s'.val x.a+1)+Cl s'.val x.b))) (by omega) S (by unfold Fs;rw[if_neg o2,if_neg U,if_neg ab,if_neg ah,if_pos an]);refine⟨jj _,ed r1 ?_⟩;rw[q,ei];exact⟨X,T⟩
 refine gi (by omega) (gj ?_);by_cases K:x.op=19
 ·have D:two x.op=true:=by rw[K];rfl
  obtain⟨l,o,a1,a2,a3⟩:=M x.a (hA (.inl D));obtain⟨l',o',b1,b2,b3⟩:=M x.b (ag D);refine gw (by omega) (oF G (ed a1 (ed a2 (oF am (ed (by rw[jk,ku]) (ed (by rw[mC,ku]) (oF ac (ed b1 (ed b2 (Sr C (i:=5) (j:=6) rfl rfl E (Fu _) b3 λh4 r s4 H4=>⟨s4.next,?_⟩))))))))));simp only[iY,lj]at H4;refine aa (s4:={s' with heap:=Mn s'.heap (BM (Cl s'.val x.a+BM x.n)) (Cl s'.val x.b),steps:=s'.steps+1}) (R.trans s4) ?_ f (by rw[Mj];exact m) rfl (Nk _) H4.tail;unfold zk;rw[if_pos K];rfl
 refine gi (by omega) (gj ?_);by_cases H:x.op=20
 ·have D:two x.op=true:=by rw[H];rfl
  obtain ⟨l,o,a1,a2,a3⟩:=M x.a (hA (.inl D));obtain⟨l',o',b1,b2,b3⟩:=M x.b (ag D);have bh:=g.putAt v x hx H;have ay:=gP (l:=x.args) (i:=0) (by omega);have aU:x.args[0]<u.ef.length:=al _ (by
   unfold je;rw[if_neg ae,if_pos H];have:x.args.take 1=[x.args[0]]:=by rw[M9 (by omega)];rfl
   rw[this];simp)
  have aV:x.args.getD 0 0=x.args[0]:=by rw[BO,ay];rfl
  generalize x.args[0]=c at*;obtain⟨l6,o6,_,t1,t2⟩:=(xr.since s3).nat ay .i64;obtain⟨l7,o7,y1,y2,y3⟩:=M c aU;refine gw (by omega) (oF G (ed a1 (ed a2 (ed (by rw[mC,ku]) (oF ac (ed b1 (ed b2 (ed (by rw[mC,ku]) (oF aS (ed t1 (ed t2 (ed y1 (ed y2 (Sr C (i:=5) (j:=6) rfl rfl E (Fu _) y3 λh4 r s4 H4=>⟨s4.next,?_⟩))))))))))))));simp only[iY,lj]at H4;refine aa (s4:={s' with heap:=Mn s'.heap (BM (BM (Cl s'.val x.a+1)+Cl s'.val x.b)) (Cl s'.val c),steps:=s'.steps+1}) (R.trans s4) ?_ f (by rw[Mj];exact m) rfl (Nk _) H4.tail;unfold zk;rw[if_neg K,if_pos H,aV];rfl
 refine gi (by omega) (gj ?_)
 have lv:∀{fs:List Fm},u.eh[x.state]? =some fs->zk u gS v x s' = .inl (vh u {s' with steps:=s'.steps+1} x.state)->
   cP CS iT [.agg (uC u vv vb vs),mS,.I x.state,.I v,.I ((s'.steps+1:Nat):Int)] O λaA aW=>fm (gK 5 (.ptr lr 0) aA aW) λ_ aB=>oP (gg 5 (.ptr lr 0) aB) λr=>Q r aB:=λ{fs} I he=>by
  refine QZ g C (u1.since s3) (j:=2) rfl f I λF2 h2 w s2 H2 q=>?_;refine SL H2.tail rfl (by simp only[eQ,q.one];rfl) λh4 s4 H4=>HQ F2 h4 s'.heap _ _ _ _ _ ((R.trans s2).trans s4) H4 m ?_;rw[Um cf hx he,show SB u locals gS fuel Eu b B (.inl (vh u {s' with steps:=s'.steps+1} x.state))=vh u {s' with steps:=s'.steps+1} x.state from rfl,Nn I];exact .inr ⟨s'.steps+1,_,rfl,rfl,rfl,q.since s4,Tu g I⟩
 by_cases V:x.op=22
 ·have D:pg x.op=true:=by rw[V];rfl
  obtain⟨l,o,a1,a2,a3⟩:=M x.a (hA (.inr D));have lT:=g.leave v x hx (by rw[V];rfl);refine gw (by omega) (oF G (ed a1 (ed a2 (gj ?_))));by_cases z:Cl s'.val x.a=0
  ·refine gw z (ed (C.wS 4 rfl rfl) (oF aw (lv (gP lT) ?_)));unfold zk;rw[if_neg K,if_neg H,if_pos V,if_pos (show s'.of x.a=0 from z)]
  ·refine gi z (aa (s4:={s' with steps:=s'.steps+1}) R ?_ f m rfl (Nk _) C.tail);unfold zk;rw[if_neg K,if_neg H,if_pos V,if_neg (show ¬s'.of x.a=0 from z)]
 refine gi (by omega) (gj ?_);by_cases ao:x.op=23
 ·have lT:=g.leave v x hx (by rw[ao];rfl);refine gw (by omega) (ed (mW ..) (ed (a:= .bool (decide (0<=gS/\(s'.polls:Int)=gS))) ?_ (js ?_)))
  ·by_cases c:0<=gS
   ·rw[J6 c,mq];simp only[fj,gQ];congr 2;rw[Vw,z8,AW];exact⟨λh=>⟨c,h⟩,λh=>h.2⟩
   ·rw[La c,Dd,La λh=>c h.1]
  by_cases z:0<=gS/\(s'.polls:Int)=gS
  ·refine gw (J6 z) (ed (C.wS 4 rfl rfl) (oF aw (lv (gP lT) ?_)));unfold zk;rw[if_neg K,if_neg H,if_neg V,if_pos ao,if_pos z]
  ·refine gi (by rw[AW];exact z) (fN (aa (s4:={s' with steps:=s'.steps+1,polls:=s'.polls+1}) R ?_ f m rfl (jj _) C.tail));unfold zk;rw[if_neg K,if_neg H,if_neg V,if_pos ao,if_neg z]
 refine gi (by omega) ?_;obtain⟨g1,g2⟩:=g.op v x hx;have aC:∀c:Bool,(c=true↔x.op=8\/x.op=9)->kT CS Q fS (CE J k) [.ptr lh 0,u0,.I gS,.I fuel,.ptr lu 0,.ptr lr 0,mS,.I ((s'.steps+1:Nat):Int),.I s'.polls,.I b,.ptr lb 0,.I i,.I v,.ptr lc 0,.bool c] O:=λc hc=>by
  refine Bt ?_;unfold tJ;have aD:Fs x (Cl s'.val) s'.heap=if x.op=8\/x.op=9 then LH x.op (Cl s'.val x.a) 0 else LH x.op (Cl s'.val x.a) (Cl s'.val x.b):=by
   unfold Fs;rw[if_neg o2,if_neg U,if_neg ab,if_neg ah,if_neg an]
  cases c with
  | true=>
    have ai:=hc.1 rfl;have D:pg x.op=true:=by rcases ai with c|c <;> rw[c] <;> rfl
    obtain⟨l,o,a1,a2,a3⟩:=M x.a (hA (.inr D));obtain⟨p,W,r1,q,X,T⟩:=A (w:=LH x.op (Cl s'.val x.a) 0) (by omega) (V8 _ _ _) (by rw[aD,if_pos ai]);refine js (gw rfl (oF x0 (oF G (ed a1 (ed a2 (Pw a3 za (by omega) ⟨jj _,?_⟩))))));refine ed (show Hk 0 (.tuple [_,_])=_ from rfl) (ed (show Hk 1 (.tuple [_,_])=_ from rfl) (ed r1 ?_));rw[q,ei]
    exact⟨X,T⟩
  | false=>
    have ai:¬(x.op=8\/x.op=9):=λh=>by have:=hc.2 h;cases this
    have D:two x.op=true:=by
      unfold two;simp only[KM,uZ,AW,z8];omega
    obtain⟨l,o,a1,a2,a3⟩:=M x.a (hA (.inl D));obtain⟨l',o',b1,b2,b3⟩:=M x.b (ag D);obtain⟨p,W,r1,q,X,T⟩:=A (w:=LH x.op (Cl s'.val x.a) (Cl s'.val x.b)) (by omega) (V8 _ _ _) (by rw[aD,if_neg ai]);refine js (gi (by simp) (oF x0 (oF G (ed a1 (ed a2 (oF ac (ed b1 (ed b2 (Pw a3 b3 (by omega) ⟨jj _,?_⟩)))))))));refine ed (show Hk 0 (.tuple [_,_])=_ from rfl) (ed (show Hk 1 (.tuple [_,_])=_ from rfl) (ed r1 ?_));rw[q,ei];exact⟨X,T⟩
 refine ed (gQ ..) (js ?_);by_cases o8:x.op=8
 ·have e:((x.op:Int) == 8)=true:=z8.2 (by omega);rw[e];exact gw rfl (aC true ⟨λ_=> .inl o8,λ_=>rfl⟩)
 ·have e:((x.op:Int) == 8)=false:=MU.2 (by omega);rw[e];refine gi (by simp) (ed (gQ ..) (aC _ ?_));rw[z8];constructor
  ·intro h;exact .inr (by omega)
  ·intro h;omega
end
open Un Dm
section
variable{F F':Nat->Prop}{h h':Hp}{cs ds:List Pc}{Q:fy}{u:U}{vv vb vs u0 rm lT:V}{hp locals:List Int}{lh Th:Nat}{gS:Int}{fuel:Nat}
theorem XG(g:Good u)(H0:en F h (ev lh Th [rm,lT]::eR (eI .u64) zu hp lT::ds))(r:A0 F h u vv vb vs)(x:iC (eI .u64) F h locals u0)(ll:locals.length<1000000000)(ak:hp.length<1000000000)(P:fuel<=1000000)
  (H:∀F' h' m a b c d w,Sn F h F' h'->en F' h' (ev lh Th [rm,lT]::eR (eI .u64) zu m lT::ds)->m.length=hp.length->ExR F' h' (runM u locals gS fuel (fuel+1) none 0 (xy u hp)) m a d w->Q (.agg [.I a,.I b,.I c,w,.I d]) h') :
  cP CS jx [.agg (uC u vv vb vs),.ptr lh 0,u0,.I gS,.I fuel] h Q:=by
 refine E7 rfl rfl ?_;unfold yg;have nv:=g.nv;have OC:=g.OC;have pf:∀{l o k:Nat},fH k (.ptr l o)=some (.ptr l (o+k)):=eJ _ _ _;refine mH H0 r.one λh1 H1 s1=>zO H1 λA R s2=>?_;generalize h.next=lu at*;generalize h1.next=lr at*;refine oF (R.ld 1 rfl rfl) (ed ((r.since s1).since s2).v.len ?_);rw[jQ (z:=V.int .u64 0) rfl (by decide) (by omega),fE];obtain⟨N,S⟩:=R.make (E:=eI .u64) (ty:=zu) (y:=0) (u:=V.int .u64 0) u.ef.length ⟨rfl,za⟩ rfl;have N:en F (A.new (.cells 83 1 true false (List.replicate u.ef.length (V.int .u64 0)))) _:=N;have S:Sn F A F (A.new (.cells 83 1 true false (List.replicate u.ef.length (V.int .u64 0)))):=S;generalize A.new (.cells 83 1 true false (List.replicate u.ef.length (V.int .u64 0)))=h3 at*;generalize A.next=lv at*;have T:=(s1.trans s2).trans S
 obtain ⟨J,U⟩:∃J:Nat->LP,J=λk l h'=>∃(F':Nat->Prop) (s:Rs) (oA:Option Nat) (b:Nat),l=[.ptr lh 0,u0,.I gS,.I fuel,.ptr lu 0,.ptr lr 0,.slice lv 0 u.ef.length,.I s.steps,.I s.polls,.I b,.I (KA oA)]/\fuel<k+s.steps/\s.steps<=fuel/\s.polls<=s.steps/\b<u.blocks.length/\
   Sn F h F' h'/\s.val.length=u.ef.length/\s.heap.length=hp.length/\runM u locals gS fuel (fuel+1) none 0 (xy u hp)=runM u locals gS fuel k oA b s/\en F' h' (Rn s.val (.slice lv 0 u.ef.length) lr lu u vv vb vs lh Th rm lT s.heap ds):=⟨_,rfl⟩
 refine Cs J (λk x1 x2 x3 x4 x5 al am an ao ap aq h4 hi=>?_) (k:=fuel+1) ?_;rotate_left
 ·rw[U];exact⟨F,xy u hp,none,0,rfl,KX _,Kl _,jj _,by omega,T,Pl,rfl,rfl,N⟩
 clear N R H1;rw[U]at hi;obtain⟨F4,s,oA,b,⟨⟩,hk,ar,au,hb,s4,n,C,hR,H4⟩:=hi;obtain⟨Eu,rfl⟩:∃Eu,k=Eu+1:=⟨k-1,by omega⟩
 unfold uW;have u4:=r.since s4;have f:=gP hb;generalize u.blocks[b]=B at*;obtain⟨l1,o1,bv,bn,bp,_,x1,x2,O,iN,ip,_⟩:=u4.nW f;refine oF (H4.ld 2 rfl rfl) (ed x1 (ed x2 ?_));refine iG H4 rfl rfl (by simp only[kr,eQ,O.one,iN.one,ip.one];rfl) λh5 H5 D=>?_;generalize h4.next=lb at*;have G:=s4.trans D;refine zcs g H5 (r.since G) (x.since G) n f (O.since D) (ip.since D) ll λh6 BS s6 H6=>?_;refine zcL g H6 n f ((O.since D).since s6) (by omega) λh7 s7 W=>?_;have p:=(D.trans s6).trans s7;have q:=s4.trans p;have I:B.ef.takeWhile (gR u)++B.ef.dropWhile (gR u)=B.ef:=wBD;have K:B.ef.drop (B.ef.takeWhile (gR u)).length=B.ef.dropWhile (gR u):=by
  have e:=List.drop_left (l₁:=B.ef.takeWhile (gR u)) (l₂:=B.ef.dropWhile (gR u));rw[I]at e;exact e
 have aw:B.ef.length<=u.ef.length:=jK _ B.ef (BR g f) λv hv=>by
  obtain⟨k,hk⟩:=mK.1 hv;exact g.mb v b k ⟨B,f,hk⟩
 have X:(B.ef.takeWhile (gR u)).length<=B.ef.length:=by
  have:=congrArg List.length I;rw[y6]at this;omega
 have i:runM u locals gS fuel (Eu+1) oA b s=SB u locals gS fuel Eu b B (pB u gS fuel (B.ef.drop (B.ef.takeWhile (gR u)).length) (oi u locals oA B s)):=by rw[Yr f,K]
 have Y:(oi u locals oA B s).steps=s.steps+(B.ef.takeWhile (gR u)).length:=rfl;have Z:(oi u locals oA B s).polls=s.polls:=rfl;have aa:(oi u locals oA B s).val.length=u.ef.length:=(Dx _ _).trans n;have L:(oi u locals oA B s).heap.length=hp.length:=C;have W:en F4 h7 (ev lb 50 (kr B bv bn bp)::Rn (oi u locals oA B s).val (.slice lv 0 u.ef.length) lr lu u vv vb vs lh Th rm lT (oi u locals oA B s).heap ds):=W;rw[<-Y,<-Z];generalize oi u locals oA B s=sm at*;refine zbW (Eu:=Eu) (locals:=locals) g W (r.since q) aa (by omega) f (O.since p) (iN.since p) X (λv hv=>Ho g f v (by rw[<-K];exact hv)) (by omega) (by omega) P (λF8 h8 M a b' c d w j H8 ab he=>?_) λF8 h8 j t ac H8 ae ag M ax ay ah ai=>?_
 ·exact H F8 h8 M a b' c d w (q.trans j) H8 (ab.trans L) (by rw[hR,i];exact he)
 ·refine ⟨Eu,by omega,?_⟩;rw[U];have aj:t<u.blocks.length:=by
   rcases Pm t u.blocks.length with h|h
   ·exact h
   ·exact absurd (KT h) ah
  exact⟨F8,{j with steps:=j.steps+1},some b,t,rfl,by show fuel<Eu+(j.steps+1);omega,by show j.steps+1<=fuel;omega,by show j.polls<=j.steps+1;omega,aj,q.trans ac,ae,ag.trans L,by rw[hR,i,ai],H8⟩
end
