/- Parts. -/
import Derived.Test.YtkpicojjjifmgaaGreatDoorM42
namespace Go.Proofs.YtkpicojjjifmgaaGreatDoor.Hx
open Un Dm
section
variable{F F':Nat->Prop}{h h':Hp}{cs ds:List Pc}{Q:fy}{u:U}{vv vb vs oh vN rm mM bv bn bp CR:V}{eh hp locals:List Int}{lu lr lh lb Th:Nat}{fT:LP}{gW:Int}{fuel EN steps polls b:Nat}{pg:Option Nat}{B:Bk}
theorem zdd(g:Good u){s:Rs}{N:Nat}(H0:eo F h (ez lb 43 (kE B bv bn bp)::Rn s.val oh lr lu u vv vb vs lh Th rm mM s.heap ds))(hu:ym F h u vv vb vs)(aE:s.val.length=u.eh.length)(aX:s.heap.length<1000000000)(hB:u.blocks[b]? =some B)(iv:iq eN F h B.eh bv)(iN:iq eN F h B.next bn)
  (aY:N<=B.eh.length) (aF:∀v∈B.eh.drop N,gU u v=false) (hs:s.steps<=fuel+3000) (aG:s.polls<=s.steps) (aZ:fuel<=1000000)
  (HQ:∀F' h' aj a b' c d w,Sn F h F' h'->eo F' h' (ez lh Th [rm,mM]::eR (eI .u64) zT aj mM::ds)->aj.length=s.heap.length->ExR F' h' (Sa u locals gW fuel EN b B (p9 u gW fuel (B.eh.drop N) s)) aj a d w->Q (.agg [.I a,.I b',.I c,w,.I d]) h')
  (HN:∀(F':Nat->Prop) (h':Hp) (s':Rs) (t:Nat),Sn F h F' h'->eo F' h' (Rn s'.val oh lr lu u vv vb vs lh Th rm mM s'.heap ds)->s'.val.length=u.eh.length->s'.heap.length=s.heap.length->s'.polls<=s'.steps->s.steps<=s'.steps->¬fuel<=s'.steps->u.blocks[t]?≠none->Sa u locals gW fuel EN b B (p9 u gW fuel (B.eh.drop N) s)=runM u locals gW fuel EN (some b) t {s' with steps:=s'.steps+1}->
   fT [.ptr lh 0,vN,.I gW,.I fuel,.ptr lu 0,.ptr lr 0,oh,.I ((s'.steps+1:Nat):Int),.I s'.polls,.I t,.I b] h') :
  mm CS Q fT [.ptr lh 0,vN,.I gW,.I fuel,.ptr lu 0,.ptr lr 0,oh,.I s.steps,.I s.polls,.I b,.ptr lb 0,.I N] h:=by
 have nv:=g.nv;have a5:B.eh.length<=u.eh.length:=kj _ B.eh (Cf g hB) λv hv=>by
  obtain⟨k,hk⟩:=oD.1 hv;exact g.mH v b k ⟨B,hB,hk⟩
 obtain ⟨J,hJ⟩:∃J:Nat->LP,J=λk l h'=>∃(F':Nat->Prop) (i:Nat) (s':Rs),l=[.ptr lh 0,vN,.I gW,.I fuel,.ptr lu 0,.ptr lr 0,oh,.I s'.steps,.I s'.polls,.I b,.ptr lb 0,.I i]/\i+k=B.eh.length/\N<=i/\Sn F h F' h'/\s'.val.length=u.eh.length/\s'.heap.length=s.heap.length/\
   s'.steps<=fuel+3000/\s'.polls<=s'.steps/\s.steps<=s'.steps/\p9 u gW fuel (B.eh.drop N) s=p9 u gW fuel (B.eh.drop i) s'/\eo F' h' (ez lb 43 (kE B bv bn bp)::Rn s'.val oh lr lu u vv vb vs lh Th rm mM s'.heap ds):=⟨_,rfl⟩
 refine C8 J (λk x1 x2 x3 x4 x5 a6 a7 a8 a9 ba bb bc h1 hi=>?_) (k:=B.eh.length-N) ?_;rotate_left
 ·rw[hJ];exact⟨F,N,s,rfl,by omega,jK _,Sn.refl _ _,aE,rfl,hs,aG,jK _,rfl,H0⟩
 clear H0;rw[hJ]at hi;obtain⟨F1,i,s',⟨⟩,hk,bd,s1,f,m,be,ap,aH,Y,L⟩:=hi;rw[Y]at HQ HN;unfold vK;have aq:=iv.since s1;have u1:=hu.since s1;have c0:eQ (.ptr lb (0+0)) h1=some bv:=L.ld 0 rfl rfl;refine oF c0 (ee aq.len ?_);have zW:fuel<=s'.steps->Sa u locals gW fuel EN b B (p9 u gW fuel (B.eh.drop i) s') = .zW->fk (gM 5 (.ptr lr 0) (.agg [.I 0,.I (-1),.I (-1),.ef,.I s'.steps]) h1) λ_ h2=>oP (fY 5 (.ptr lr 0) h2) λr=>Q r h2:=λ_ he=>by
  refine SX L rfl rfl λh2 s2 H2=>HQ F1 h2 s'.heap _ _ _ _ _ (s1.trans s2) H2 m ?_;rw[he];exact .inl ⟨rfl,rfl,rfl⟩
 by_cases hi:i<B.eh.length;rotate_left
 ·have hi:i=B.eh.length:=by omega
  subst hi;have er:p9 u gW fuel (B.eh.drop B.eh.length) s' = .inr s':=by rw[List.drop_length];rfl
  rw[er]at HQ HN zW;refine iJ (UI ?_);by_cases cf:fuel<=s'.steps
  ·refine gv (by omega) (ee (show _=some (.agg [.I 0,.I (-1),.I (-1),.ef,.I s'.steps]) from rfl) (zW cf ?_));show(if fuel<=s'.steps then Ex.zW else _)=_;rw[if_pos cf]
  refine gg (by omega) (fM (oF (L.ld 0 rfl rfl) (gi ?_)))
  have e1:Sa u locals gW fuel EN b B (.inr s')=if B.fin=3 then yd u {s' with steps:=s'.steps+1} B.state else match En B s' with
    |none=> .stuck
    |some t=>runM u locals gW fuel EN (some b) t {s' with steps:=s'.steps+1}:=by
   show(if fuel<=s'.steps then Ex.zW else _)=_;rw[if_neg cf];rfl
  have go:∀t,B.fin≠3->t∈B.next->En B s' = some t->fT [.ptr lh 0,vN,.I gW,.I fuel,.ptr lu 0,.ptr lr 0,oh,.I ((s'.steps+1:Nat):Int),.I s'.polls,.I (t:Nat),.I b] h1:=λt hf hm hn=>by
   refine HN F1 h1 s' t s1 L.tail f m ap aH cf ?_ ?_
   ·have:=g.nx b t (by unfold next;rw[hB];exact hm);rw[hO this];simp
   ·rw[e1,if_neg hf,hn]
  have ak:=iN.since s1;rcases g.fin b B hB with⟨f1,fl⟩|⟨f2,fl,fc⟩|⟨f3,_,aI⟩
  ·have ht:=hO (l:=B.next) (i:=0) (by omega);have Z:=zd (l:=B.next) (n:=0) (by omega);generalize B.next[0]=t at*;obtain⟨l2,o2,_,p1,p2⟩:=ak.nat ht .i64;refine gv (by omega) (oF (L.ld 0 rfl rfl) (ee p1 (ee p2 (go t (by omega) Z ?_))));unfold En;rw[if_pos f1,ht]
  ·refine gg (by omega) (gi (gv (by omega) ?_));have aJ:B.cond<s'.val.length:=by rw[f];exact xj fc
   obtain ⟨l3,o3,q1,q2,q3,_⟩:=L.KJ 1 rfl (I3 aJ) .i64;refine oF (L.ld 0 rfl rfl) (ee q1 (ee q2 (xe ?_)));have ar:En B s' = if CE s'.val B.cond=0 then B.next[1]? else B.next[0]?:=by
    unfold En;rw[if_neg (by omega),if_pos f2];rfl
   by_cases cz:CE s'.val B.cond=0
   ·have ht:=hO (l:=B.next) (i:=1) (by omega);have Z:=zd (l:=B.next) (n:=1) (by omega);generalize B.next[1]=t at*;obtain⟨l2,o2,_,p1,p2⟩:=ak.nat ht .i64;refine gv cz (oF (L.ld 0 rfl rfl) (ee p1 (ee p2 (go t (by omega) Z ?_))));rw[ar,if_pos cz,ht]
   ·have ht:=hO (l:=B.next) (i:=0) (by omega);have Z:=zd (l:=B.next) (n:=0) (by omega);generalize B.next[0]=t at*;obtain⟨l2,o2,_,p1,p2⟩:=ak.nat ht .i64;refine gg cz (oF (L.ld 0 rfl rfl) (ee p1 (ee p2 (go t (by omega) Z ?_))));rw[ar,if_neg cz,ht]
  ·refine gg (by omega) (gi (gg (by omega) ?_));have I:=hO aI;generalize u.en[B.state]=fs at*;refine ee (L.rh 3 rfl rfl) (oF (L.ld 0 rfl rfl) ?_);refine Rz g L u1 (j:=1) rfl f I λF2 h2 w s2 H2 q=>?_;refine SX H2 rfl (by simp only[ey,q.one];rfl) λO s3 C=>HQ F2 O s'.heap _ _ _ _ _ ((s1.trans s2).trans s3) C m ?_;rw[e1,if_pos f3,Ov I];exact .inr ⟨s'.steps+1,_,rfl,rfl,rfl,q.since s3,Um g I⟩
 refine gB (UI ?_);have hv:=hO hi;have au:=Ys hi;have aK:B.eh[i]∈B.eh.drop N:=by
  rw[oD];exact⟨i-N,by rw[wBN,show N+(i-N)=i by omega];exact hv⟩
 have P:=aF _ aK;generalize B.eh[i]=v at*;rw[au]at HQ HN zW;by_cases cf:fuel<=s'.steps
 ·refine gv (by omega) (ee (show _=some (.agg [.I 0,.I (-1),.I (-1),.ef,.I s'.steps]) from rfl) (zW cf ?_));rw[Qp cf];rfl
 refine gg (by omega) (fM ?_);have aL:At u v b i:=⟨B,hB,hv⟩
 have aM:=g.mH v b i aL;have hx:=hO aM;generalize u.eh[v]=x at*;have aN:v<s'.val.length:=by omega
 obtain⟨l1,o1,_,p1,p2⟩:=aq.nat hv .i64;obtain⟨l2,o2,xa,_,q1,q2,xr,_⟩:=u1.val hx;have c2:eQ (.ptr lu (0+2)) h1=some vv:=L.ld 3 rfl rfl;refine oF c0 (ee p1 (ee p2 (oF c2 (ee q1 (ee q2 ?_)))));refine gY L rfl rfl (by simp only[mI,ey,xr.one];rfl) λO C s3=>?_;generalize h1.next=lc at*;have R:=s1.trans s3
 have aa:∀{F4:Nat->Prop} {h4:Hp} {s4:Rs},Sn F h F4 h4->yE u gW v x s' = .inr s4->s4.val.length=u.eh.length->s4.heap.length=s.heap.length->s4.steps=s'.steps+1->s4.polls<=s'.polls+1->eo F4 h4 (ez lb 43 (kE B bv bn bp)::Rn s4.val oh lr lu u vv vb vs lh Th rm mM s4.heap ds)->
   fZ CS Q fT (Db J k) [.ptr lh 0,vN,.I gW,.I fuel,.ptr lu 0,.ptr lr 0,oh,.I ((s'.steps+1:Nat):Int),.I (s4.polls:Nat),.I b,.ptr lb 0,.I i] h4:=λ{F4 h4 s4} st he aO aP aQ bf H4=>by
  refine B4 ?_;unfold tQ;refine fM ⟨k-1,by omega,?_⟩;rw[hJ,<-aQ];exact⟨F4,i+1,s4,rfl,by omega,by omega,st,aO,aP,by omega,by omega,by omega,by rw[Y,au];exact Sq cf hx he,H4⟩
 have M:∀a,a<u.eh.length->∃l o,gJ 1 oh (.I (a:Nat))=some (.ptr l o)/\eQ (.ptr l o) O=some (.int .u64 (CE s'.val a))/\tI .u64 (CE s'.val a):=λa ha=>by
  obtain⟨l,o,r1,q,r3,_⟩:=C.KJ 2 rfl (I3 (v:=a) (by omega)) .i64;exact⟨l,o,r1,q,r3⟩
 have al:∀w∈jk x,w<u.eh.length:=λw S=>xj (g.use v x hx w S)
 have A:∀{w:Int},x.op≠19/\x.op≠20/\x.op≠22/\x.op≠23->tI .u64 w->w=Fq x (CE s'.val) s'.heap->∃p W,gJ 1 oh (.I v)=some p/\gM 1 p (.int .u64 w) O=some (.val .undef W)/\O.next<=W.next/\
   fZ CS Q fT (Db J k) [.ptr lh 0,vN,.I gW,.I fuel,.ptr lu 0,.ptr lr 0,oh,.I ((s'.steps+1:Nat):Int),.I s'.polls,.I b,.ptr lb 0,.I i] W:=λ{w} aR S he=>by
  obtain⟨l,o,W,r1,q,X,H5,s5⟩:=C.IG 2 rfl (k:=v) (y:=w) (u:= .int .u64 w) aN rfl rfl ⟨rfl,S⟩;simp only[jo,l0]at H5;refine⟨_,W,r1,q,X,aa (s4:={s' with val:=s'.val.set v w,steps:=s'.steps+1}) (R.trans s5) ?_ (by rw[Nd];exact f) m rfl (OH _) H5.tail⟩;rw[VW aR,he];rfl
 have x0:eQ (.ptr lc (0+0)) O=some (.I x.op):=C.ld 0 rfl rfl;have G:eQ (.ptr lc (0+1)) O=some (.I x.a):=C.ld 0 rfl rfl;have ac:eQ (.ptr lc (0+2)) O=some (.I x.b):=C.ld 0 rfl rfl;have am:eQ (.ptr lc (0+3)) O=some (.I x.n):=C.ld 0 rfl rfl;have aS:eQ (.ptr lc (0+4)) O=some xa:=C.ld 0 rfl rfl;have aw:eQ (.ptr lc (0+5)) O=some (.I x.state):=C.ld 0 rfl rfl;have ae:x.op≠21:=λe=>by
  unfold gU at P;simp only[hx,e]at P;cases P
 have bg:x.op≠1:=λe=>by
  unfold gU at P;simp only[hx,e]at P;cases P
 obtain⟨ax,aT⟩:=Pz (x:=x);have hA:two x.op=true\/pY x.op=true->x.a<u.eh.length:=λhh=>al _ (hh.elim (λh=>(ax h ae).1) λh=>aT h ae);have ag:two x.op=true->x.b<u.eh.length:=λhh=>al _ (ax hh ae).2;have E:s'.heap.length<1000000000:=by omega
 have vW:∀{w:Int},Fq x (CE s'.val) s'.heap=w->w=Fq x (CE s'.val) s'.heap:=λh=>h.symm;refine oF x0 (gi ?_);by_cases o2:x.op=2
 ·obtain⟨p,W,r1,q,X,T⟩:=A (w:=Cc x.n) (by omega) (E4 _) (by unfold Fq;rw[if_pos o2]);refine gv (by omega) (oF am (ee (by rw[jz,kU]) (ee r1 ?_)));rw[q,ei];exact T
 refine gg (by omega) (gi ?_);by_cases U:x.op=15
 ·have D:pY x.op=true:=by rw[U];rfl
  obtain⟨l,o,a1,a2,a3⟩:=M x.a (hA (.inr D));refine gv (by omega) (oF G (ee a1 (ee a2 (Zd C (i:=5) (j:=6) rfl rfl E a3 λS=>?_))));obtain⟨p,W,r1,q,X,T⟩:=A (w:=ug s'.heap (CE s'.val x.a) / 4294967296) (by omega) S (by unfold Fq;rw[if_neg o2,if_pos U]);refine ee (by rw[jz,kU,Ko S]) (ee r1 ?_);rw[q,ei];exact T
 refine gg (by omega) (gi ?_);by_cases ab:x.op=16
 ·have D:pY x.op=true:=by rw[ab];rfl
  obtain⟨l,o,a1,a2,a3⟩:=M x.a (hA (.inr D));refine gv (by omega) (oF G (ee a1 (ee a2 (X0 C (i:=5) (j:=6) rfl rfl E a3 λS=>?_))));obtain⟨p,W,r1,q,X,T⟩:=A (w:=ug s'.heap (CE s'.val x.a) % 4294967296) (by omega) S (by unfold Fq;rw[if_neg o2,if_neg U,if_pos ab]);refine ee (by rw[jz,kU,Ko S]) (ee r1 ?_);rw[q,ei];exact T
 refine gg (by omega) (gi ?_);by_cases ah:x.op=17
 ·have D:pY x.op=true:=by rw[ah];rfl
  obtain⟨l,o,a1,a2,a3⟩:=M x.a (hA (.inr D));refine gv (by omega) (oF G (ee a1 (ee a2 (oF am (ee (by rw[jz,kU]) (ee (by rw[mZ,kU]) (LB C (i:=5) (j:=6) rfl rfl E (E4 _) λS=>?_)))))));obtain⟨p,W,r1,q,X,T⟩:=A (w:=ug s'.heap (Cc (CE s'.val x.a+Cc x.n))) (by omega) S (by unfold Fq;rw[if_neg o2,if_neg U,if_neg ab,if_pos ah]);refine⟨jK _,ee r1 ?_⟩;rw[q,ei];exact⟨X,T⟩
 refine gg (by omega) (gi ?_);by_cases an:x.op=18
 ·have D:two x.op=true:=by rw[an];rfl
  obtain⟨l,o,a1,a2,a3⟩:=M x.a (hA (.inl D));obtain⟨l',o',b1,b2,b3⟩:=M x.b (ag D);refine gv (by omega) (oF G (ee a1 (ee a2 (ee (by rw[mZ,kU]) (oF ac (ee b1 (ee b2 (ee (by rw[mZ,kU]) (LB C (i:=5) (j:=6) rfl rfl E (E4 _) λS=>?_)))))))));obtain⟨p,W,r1,q,X,T⟩:=A (w:=ug s'.heap (Cc (Cc (CE s'.val x.a+1)+CE s'.val x.b))) (by omega) S (by unfold Fq;rw[if_neg o2,if_neg U,if_neg ab,if_neg ah,if_pos an]);refine⟨jK _,ee r1 ?_⟩;rw[q,ei];exact⟨X,T⟩
 refine gg (by omega) (gi ?_);by_cases K:x.op=19
 ·have D:two x.op=true:=by rw[K];rfl
  obtain⟨l,o,a1,a2,a3⟩:=M x.a (hA (.inl D));obtain⟨l',o',b1,b2,b3⟩:=M x.b (ag D);refine gv (by omega) (oF G (ee a1 (ee a2 (oF am (ee (by rw[jz,kU]) (ee (by rw[mZ,kU]) (oF ac (ee b1 (ee b2 (SR C (i:=5) (j:=6) rfl rfl E (E4 _) b3 λh4 r s4 H4=>⟨s4.next,?_⟩))))))))));simp only[jo,l0]at H4;refine aa (s4:={s' with heap:=Mt s'.heap (Cc (CE s'.val x.a+Cc x.n)) (CE s'.val x.b),steps:=s'.steps+1}) (R.trans s4) ?_ f (by rw[LJ];exact m) rfl (OH _) H4.tail;unfold yE;rw[if_pos K];rfl
 refine gg (by omega) (gi ?_);by_cases H:x.op=20
 ·have D:two x.op=true:=by rw[H];rfl
  obtain ⟨l,o,a1,a2,a3⟩:=M x.a (hA (.inl D));obtain⟨l',o',b1,b2,b3⟩:=M x.b (ag D);have bh:=g.putAt v x hx H;have ay:=hO (l:=x.args) (i:=0) (by omega);have aU:x.args[0]<u.eh.length:=al _ (by
   unfold jk;rw[if_neg ae,if_pos H];have:x.args.take 1=[x.args[0]]:=by rw[NG (by omega)];rfl
   rw[this];simp)
  have aV:x.args.getD 0 0=x.args[0]:=by rw[G2,ay];rfl
  generalize x.args[0]=c at*;obtain⟨l6,o6,_,t1,t2⟩:=(xr.since s3).nat ay .i64;obtain⟨l7,o7,y1,y2,y3⟩:=M c aU;refine gv (by omega) (oF G (ee a1 (ee a2 (ee (by rw[mZ,kU]) (oF ac (ee b1 (ee b2 (ee (by rw[mZ,kU]) (oF aS (ee t1 (ee t2 (ee y1 (ee y2 (SR C (i:=5) (j:=6) rfl rfl E (E4 _) y3 λh4 r s4 H4=>⟨s4.next,?_⟩))))))))))))));simp only[jo,l0]at H4;refine aa (s4:={s' with heap:=Mt s'.heap (Cc (Cc (CE s'.val x.a+1)+CE s'.val x.b)) (CE s'.val c),steps:=s'.steps+1}) (R.trans s4) ?_ f (by rw[LJ];exact m) rfl (OH _) H4.tail;unfold yE;rw[if_neg K,if_pos H,aV];rfl
 refine gg (by omega) (gi ?_)
 have lv:∀{fs:List Fm},u.en[x.state]? =some fs->yE u gW v x s' = .inl (yd u {s' with steps:=s'.steps+1} x.state)->
   cP CS jh [.agg (uC u vv vb vs),oh,.I x.state,.I v,.I ((s'.steps+1:Nat):Int)] O λaA aW=>fk (gM 5 (.ptr lr 0) aA aW) λ_ aB=>oP (fY 5 (.ptr lr 0) aB) λr=>Q r aB:=λ{fs} I he=>by
  refine Rz g C (u1.since s3) (j:=2) rfl f I λF2 h2 w s2 H2 q=>?_;refine SX H2.tail rfl (by simp only[ey,q.one];rfl) λh4 s4 H4=>HQ F2 h4 s'.heap _ _ _ _ _ ((R.trans s2).trans s4) H4 m ?_;rw[VT cf hx he,show Sa u locals gW fuel EN b B (.inl (yd u {s' with steps:=s'.steps+1} x.state))=yd u {s' with steps:=s'.steps+1} x.state from rfl,Ov I];exact .inr ⟨s'.steps+1,_,rfl,rfl,rfl,q.since s4,Um g I⟩
 by_cases V:x.op=22
 ·have D:pY x.op=true:=by rw[V];rfl
  obtain⟨l,o,a1,a2,a3⟩:=M x.a (hA (.inr D));have mM:=g.leave v x hx (by rw[V];rfl);refine gv (by omega) (oF G (ee a1 (ee a2 (gi ?_))));by_cases z:CE s'.val x.a=0
  ·refine gv z (ee (C.rh 4 rfl rfl) (oF aw (lv (hO mM) ?_)));unfold yE;rw[if_neg K,if_neg H,if_pos V,if_pos (show s'.of x.a=0 from z)]
  ·refine gg z (aa (s4:={s' with steps:=s'.steps+1}) R ?_ f m rfl (OH _) C.tail);unfold yE;rw[if_neg K,if_neg H,if_pos V,if_neg (show ¬s'.of x.a=0 from z)]
 refine gg (by omega) (gi ?_);by_cases ao:x.op=23
 ·have mM:=g.leave v x hx (by rw[ao];rfl);refine gv (by omega) (ee (nW ..) (ee (a:= .bool (decide (0<=gW/\(s'.polls:Int)=gW))) ?_ (jd ?_)))
  ·by_cases c:0<=gW
   ·rw[Ke c,mf];simp only[fi,gI];congr 2;rw[V4,C9,BP];exact⟨λh=>⟨c,h⟩,λh=>h.2⟩
   ·rw[Lh c,Dk,Lh λh=>c h.1]
  by_cases z:0<=gW/\(s'.polls:Int)=gW
  ·refine gv (Ke z) (ee (C.rh 4 rfl rfl) (oF aw (lv (hO mM) ?_)));unfold yE;rw[if_neg K,if_neg H,if_neg V,if_pos ao,if_pos z]
  ·refine gg (by rw[BP];exact z) (fM (aa (s4:={s' with steps:=s'.steps+1,polls:=s'.polls+1}) R ?_ f m rfl (jK _) C.tail));unfold yE;rw[if_neg K,if_neg H,if_neg V,if_pos ao,if_neg z]
 refine gg (by omega) ?_;obtain⟨g1,g2⟩:=g.op v x hx;have aC:∀c:Bool,(c=true↔x.op=8\/x.op=9)->lN CS Q fT (Db J k) [.ptr lh 0,vN,.I gW,.I fuel,.ptr lu 0,.ptr lr 0,oh,.I ((s'.steps+1:Nat):Int),.I s'.polls,.I b,.ptr lb 0,.I i,.I v,.ptr lc 0,.bool c] O:=λc hc=>by
  refine BJ ?_;unfold ue;have aD:Fq x (CE s'.val) s'.heap=if x.op=8\/x.op=9 then MH x.op (CE s'.val x.a) 0 else MH x.op (CE s'.val x.a) (CE s'.val x.b):=by
   unfold Fq;rw[if_neg o2,if_neg U,if_neg ab,if_neg ah,if_neg an]
  cases c with
  | true=>
    have ai:=hc.1 rfl;have D:pY x.op=true:=by rcases ai with c|c <;> rw[c] <;> rfl
    obtain⟨l,o,a1,a2,a3⟩:=M x.a (hA (.inr D));obtain⟨p,W,r1,q,X,T⟩:=A (w:=MH x.op (CE s'.val x.a) 0) (by omega) (X2 _ _ _) (by rw[aD,if_pos ai]);refine jd (gv rfl (oF x0 (oF G (ee a1 (ee a2 (RK a3 zJ (by omega) ⟨jK _,?_⟩))))));refine ee (show HO 0 (.tuple [_,_])=_ from rfl) (ee (show HO 1 (.tuple [_,_])=_ from rfl) (ee r1 ?_));rw[q,ei]
    exact⟨X,T⟩
  | false=>
    have ai:¬(x.op=8\/x.op=9):=λh=>by have:=hc.2 h;cases this
    have D:two x.op=true:=by
      unfold two;simp only[Nc,vR,BP,C9];omega
    obtain⟨l,o,a1,a2,a3⟩:=M x.a (hA (.inl D));obtain⟨l',o',b1,b2,b3⟩:=M x.b (ag D);obtain⟨p,W,r1,q,X,T⟩:=A (w:=MH x.op (CE s'.val x.a) (CE s'.val x.b)) (by omega) (X2 _ _ _) (by rw[aD,if_neg ai]);refine jd (gg (by simp) (oF x0 (oF G (ee a1 (ee a2 (oF ac (ee b1 (ee b2 (RK a3 b3 (by omega) ⟨jK _,?_⟩)))))))));refine ee (show HO 0 (.tuple [_,_])=_ from rfl) (ee (show HO 1 (.tuple [_,_])=_ from rfl) (ee r1 ?_));rw[q,ei];exact⟨X,T⟩
 refine ee (gI ..) (jd ?_);by_cases o8:x.op=8
 ·have e:((x.op:Int) == 8)=true:=C9.2 (by omega);rw[e];exact gv rfl (aC true ⟨λ_=> .inl o8,λ_=>rfl⟩)
 ·have e:((x.op:Int) == 8)=false:=Nj.2 (by omega);rw[e];refine gg (by simp) (ee (gI ..) (aC _ ?_));rw[C9];constructor
  ·intro h;exact .inr (by omega)
  ·intro h;omega
end
open Un Dm
section
variable{F F':Nat->Prop}{h h':Hp}{cs ds:List Pc}{Q:fy}{u:U}{vv vb vs vN rm mM:V}{hp locals:List Int}{lh Th:Nat}{gW:Int}{fuel:Nat}
theorem WK(g:Good u)(H0:eo F h (ez lh Th [rm,mM]::eR (eI .u64) zT hp mM::ds))(q:ym F h u vv vb vs)(r:iq (eI .u64) F h locals vN)(ll:locals.length<1000000000)(aj:hp.length<1000000000)(O:fuel<=1000000)
  (H:∀F' h' m a b c d w,Sn F h F' h'->eo F' h' (ez lh Th [rm,mM]::eR (eI .u64) zT m mM::ds)->m.length=hp.length->ExR F' h' (runM u locals gW fuel (fuel+1) none 0 (xX u hp)) m a d w->Q (.agg [.I a,.I b,.I c,w,.I d]) h') :
  cP CS jF [.agg (uC u vv vb vs),.ptr lh 0,vN,.I gW,.I fuel] h Q:=by
 refine EP rfl rfl ?_;unfold yq;have nv:=g.nv;have OV:=g.OV;refine jS H0 q.one λh1 H1 s1=>Aa H1 λx P s2=>?_;generalize h.next=lu at*;generalize h1.next=lr at*;refine oF (P.ld 1 rfl rfl) (ee ((q.since s1).since s2).v.len ?_);rw[ka (z:=V.int .u64 0) rfl (by decide) (by omega),fG];obtain⟨M,R⟩:=P.make (E:=eI .u64) (ty:=zT) (y:=0) (u:=V.int .u64 0) u.eh.length ⟨rfl,zJ⟩ rfl;have M:eo F (x.new (.cells 90 1 true false (List.replicate u.eh.length (V.int .u64 0)))) _:=M;have R:Sn F x F (x.new (.cells 90 1 true false (List.replicate u.eh.length (V.int .u64 0)))):=R;generalize x.new (.cells 90 1 true false (List.replicate u.eh.length (V.int .u64 0)))=h3 at*;generalize x.next=lv at*;have S:=(s1.trans s2).trans R
 obtain ⟨J,T⟩:∃J:Nat->LP,J=λk l h'=>∃(F':Nat->Prop) (s:Rs) (pg:Option Nat) (b:Nat),l=[.ptr lh 0,vN,.I gW,.I fuel,.ptr lu 0,.ptr lr 0,.slice lv 0 u.eh.length,.I s.steps,.I s.polls,.I b,.I (KQ pg)]/\fuel<k+s.steps/\s.steps<=fuel/\s.polls<=s.steps/\b<u.blocks.length/\
   Sn F h F' h'/\s.val.length=u.eh.length/\s.heap.length=hp.length/\runM u locals gW fuel (fuel+1) none 0 (xX u hp)=runM u locals gW fuel k pg b s/\eo F' h' (Rn s.val (.slice lv 0 u.eh.length) lr lu u vv vb vs lh Th rm mM s.heap ds):=⟨_,rfl⟩
 refine CN J (λk x1 x2 x3 x4 x5 ak al am an ao ap h4 hi=>?_) (k:=fuel+1) ?_;rotate_left
 ·rw[T];exact⟨F,xX u hp,none,0,rfl,Mm _,Na _,jK _,by omega,S,PV,rfl,rfl,M⟩
 clear M P H1;rw[T]at hi;obtain⟨F4,s,pg,b,⟨⟩,hk,aq,ar,hb,s4,n,A,hR,H4⟩:=hi;obtain⟨EN,rfl⟩:∃EN,k=EN+1:=⟨k-1,by omega⟩
 unfold ve;have u4:=q.since s4;have f:=hO hb;generalize u.blocks[b]=B at*;obtain⟨l1,o1,bv,bn,bp,_,x1,x2,N,iN,ip,_⟩:=u4.oW f;refine oF (H4.ld 2 rfl rfl) (ee x1 (ee x2 ?_));refine gY H4 rfl rfl (by simp only[kE,ey,N.one,iN.one,ip.one];rfl) λh5 H5 C=>?_;generalize h4.next=lb at*;have D:=s4.trans C;refine zcD g H5 (q.since D) (r.since D) n f (N.since C) (ip.since C) ll λh6 CR s6 H6=>?_;refine zcK g H6 n f ((N.since C).since s6) (by omega) λh7 s7 U=>?_;have o:=(C.trans s6).trans s7;have p:=s4.trans o;have G:B.eh.takeWhile (gU u)++B.eh.dropWhile (gU u)=B.eh:=wA9;have I:B.eh.drop (B.eh.takeWhile (gU u)).length=B.eh.dropWhile (gU u):=by
  have e:=List.drop_left (l₁:=B.eh.takeWhile (gU u)) (l₂:=B.eh.dropWhile (gU u));rw[G]at e;exact e
 have au:B.eh.length<=u.eh.length:=kj _ B.eh (Cf g f) λv hv=>by
  obtain⟨k,hk⟩:=oD.1 hv;exact g.mH v b k ⟨B,f,hk⟩
 have W:(B.eh.takeWhile (gU u)).length<=B.eh.length:=by
  have:=congrArg List.length G;rw[Ec]at this;omega
 have i:runM u locals gW fuel (EN+1) pg b s=Sa u locals gW fuel EN b B (p9 u gW fuel (B.eh.drop (B.eh.takeWhile (gU u)).length) (oY u locals pg B s)):=by rw[Y6 f,I]
 have X:(oY u locals pg B s).steps=s.steps+(B.eh.takeWhile (gU u)).length:=rfl;have Y:(oY u locals pg B s).polls=s.polls:=rfl;have Z:(oY u locals pg B s).val.length=u.eh.length:=(DA _ _).trans n;have K:(oY u locals pg B s).heap.length=hp.length:=A;have U:eo F4 h7 (ez lb 43 (kE B bv bn bp)::Rn (oY u locals pg B s).val (.slice lv 0 u.eh.length) lr lu u vv vb vs lh Th rm mM (oY u locals pg B s).heap ds):=U;rw[<-X,<-Y];generalize oY u locals pg B s=sm at*;refine zdd (EN:=EN) (locals:=locals) g U (q.since p) Z (by omega) f (N.since o) (iN.since o) W (λv hv=>IE g f v (by rw[<-I];exact hv)) (by omega) (by omega) O (λF8 h8 L a b' c d w j H8 aa he=>?_) λF8 h8 j t ab H8 ac ae L aw ax ag ah=>?_
 ·exact H F8 h8 L a b' c d w (p.trans j) H8 (aa.trans K) (by rw[hR,i];exact he)
 ·refine ⟨EN,by omega,?_⟩;rw[T];have ai:t<u.blocks.length:=by
   rcases P9 t u.blocks.length with h|h
   ·exact h
   ·exact absurd (NT h) ag
  exact⟨F8,{j with steps:=j.steps+1},some b,t,rfl,by show fuel<EN+(j.steps+1);omega,by show j.steps+1<=fuel;omega,by show j.polls<=j.steps+1;omega,ai,p.trans ab,ac,ae.trans K,by rw[hR,i,ah],H8⟩
end
