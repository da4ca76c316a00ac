/- Parts. -/
import Derived.Test.YtkpicojjjifmgabGreatDoorM42
set_option maxHeartbeats 4000000
namespace Go.Proofs.YtkpicojjjifmgabGreatDoor.Hx
open Un Dm
section
variable{F F':Nat->Prop}{h h':Hp}{cs ds:List Pc}{Q:fD}{u:U}{vv vb vs oQ rZ rm oh bv bn bp DV:V}{ej hp locals:List Int}{lu lr lh lb Th:Nat}{fU:LP}{gY:Int}{fuel Gj steps polls b:Nat}{pG:Option Nat}{B:Bk}
theorem zdK(g:Good u){s:Rs}{M:Nat}(H0:eo F h (eQ lb 45 (km B bv bn bp)::Rn s.val oQ lr lu u vv vb vs lh Th rm oh s.heap ds))(hu:wW F h u vv vb vs)(aD:s.val.length=u.ej.length)(aW:s.heap.length<1000000000)(hB:u.blocks[b]? =some B)(iv:im eN F h B.ej bv)(iN:im eN F h B.next bn)
  (aX:M<=B.ej.length) (aE:∀v∈B.ej.drop M,gM u v=false) (hs:s.steps<=fuel+3000) (aF:s.polls<=s.steps) (aY:fuel<=1000000)
  (HQ:∀F' h' ai a b' c d w,Sn F h F' h'->eo F' h' (eQ lh Th [rm,oh]::fg (eI .u64) AI ai oh::ds)->ai.length=s.heap.length->ExR F' h' (UH u locals gY fuel Gj b B (qy u gY fuel (B.ej.drop M) s)) ai a d w->Q (.agg [.I a,.I b',.I c,w,.I d]) h')
  (HN:∀(F':Nat->Prop) (h':Hp) (s':Rs) (t:Nat),Sn F h F' h'->eo F' h' (Rn s'.val oQ lr lu u vv vb vs lh Th rm oh s'.heap ds)->s'.val.length=u.ej.length->s'.heap.length=s.heap.length->s'.polls<=s'.steps->s.steps<=s'.steps->¬fuel<=s'.steps->u.blocks[t]?≠none->UH u locals gY fuel Gj b B (qy u gY fuel (B.ej.drop M) s)=runM u locals gY fuel Gj (some b) t {s' with steps:=s'.steps+1}->
   fU [.ptr lh 0,rZ,.I gY,.I fuel,.ptr lu 0,.ptr lr 0,oQ,.I ((s'.steps+1:Nat):Int),.I s'.polls,.I t,.I b] h') :
  mC CS Q fU [.ptr lh 0,rZ,.I gY,.I fuel,.ptr lu 0,.ptr lr 0,oQ,.I s.steps,.I s.polls,.I b,.ptr lb 0,.I M] h:=by
 have nv:=g.nv;have aZ:B.ej.length<=u.ej.length:=jM _ B.ej (yX g hB) λv hv=>by
  obtain⟨k,hk⟩:=oY.1 hv;exact g.ko v b k ⟨B,hB,hk⟩
 obtain ⟨J,hJ⟩:∃J:Nat->LP,J=λk l h'=>∃(F':Nat->Prop) (i:Nat) (s':Rs),l=[.ptr lh 0,rZ,.I gY,.I fuel,.ptr lu 0,.ptr lr 0,oQ,.I s'.steps,.I s'.polls,.I b,.ptr lb 0,.I i]/\i+k=B.ej.length/\M<=i/\Sn F h F' h'/\s'.val.length=u.ej.length/\s'.heap.length=s.heap.length/\
   s'.steps<=fuel+3000/\s'.polls<=s'.steps/\s.steps<=s'.steps/\qy u gY fuel (B.ej.drop M) s=qy u gY fuel (B.ej.drop i) s'/\eo F' h' (eQ lb 45 (km B bv bn bp)::Rn s'.val oQ lr lu u vv vb vs lh Th rm oh s'.heap ds):=⟨_,rfl⟩
 refine DN J (λk x1 x2 x3 x4 x5 a4 a5 a6 a7 a8 a9 ba h1 hi=>?_) (k:=B.ej.length-M) ?_;rotate_left
 ·rw[hJ];exact⟨F,M,s,rfl,by omega,jO _,Sn.refl _ _,aD,rfl,hs,aF,jO _,rfl,H0⟩
 clear H0;rw[hJ]at hi;obtain⟨F1,i,s',⟨⟩,hk,bb,s1,f,m,bc,ao,aG,X,K⟩:=hi;rw[X]at HQ HN;unfold wk;have ap:=iv.since s1;have u1:=hu.since s1;have c0:fe (.ptr lb (0+0)) h1=some bv:=K.ld 0 rfl rfl;refine oF c0 (eh ap.len ?_);have AX:fuel<=s'.steps->UH u locals gY fuel Gj b B (qy u gY fuel (B.ej.drop i) s') = .AX->fm (gJ 5 (.ptr lr 0) (.agg [.I 0,.I (-1),.I (-1),.ei,.I s'.steps]) h1) λ_ h2=>oP (fW 5 (.ptr lr 0) h2) λr=>Q r h2:=λ_ he=>by
  refine TU K rfl rfl λh2 s2 H2=>HQ F1 h2 s'.heap _ _ _ _ _ (s1.trans s2) H2 m ?_;rw[he];exact .inl ⟨rfl,rfl,rfl⟩
 by_cases hi:i<B.ej.length;rotate_left
 ·have hi:i=B.ej.length:=by omega
  subst hi;have er:qy u gY fuel (B.ej.drop B.ej.length) s' = .inr s':=by rw[List.drop_length];rfl
  rw[er]at HQ HN AX;refine iQ (Pe ?_);by_cases cf:fuel<=s'.steps
  ·refine gz (by omega) (eh (show _=some (.agg [.I 0,.I (-1),.I (-1),.ei,.I s'.steps]) from rfl) (AX cf ?_));show(if fuel<=s'.steps then Ex.AX else _)=_;rw[if_pos cf]
  refine gh (by omega) (fL (oF (K.ld 0 rfl rfl) (gy ?_)))
  have e1:UH u locals gY fuel Gj b B (.inr s')=if B.fin=3 then yU u {s' with steps:=s'.steps+1} B.state else match FE B s' with
    |none=> .stuck
    |some t=>runM u locals gY fuel Gj (some b) t {s' with steps:=s'.steps+1}:=by
   show(if fuel<=s'.steps then Ex.AX else _)=_;rw[if_neg cf];rfl
  have go:∀t,B.fin≠3->t∈B.next->FE B s' = some t->fU [.ptr lh 0,rZ,.I gY,.I fuel,.ptr lu 0,.ptr lr 0,oQ,.I ((s'.steps+1:Nat):Int),.I s'.polls,.I (t:Nat),.I b] h1:=λt hf hm hn=>by
   refine HN F1 h1 s' t s1 K.tail f m ao aG cf ?_ ?_
   ·have:=g.nx b t (by unfold next;rw[hB];exact hm);rw[iy this];simp
   ·rw[e1,if_neg hf,hn]
  have aj:=iN.since s1;rcases g.fin b B hB with⟨f1,fl⟩|⟨f2,fl,fc⟩|⟨f3,_,aH⟩
  ·have ht:=iy (l:=B.next) (i:=0) (by omega);have Y:=AY (l:=B.next) (n:=0) (by omega);generalize B.next[0]=t at*;obtain⟨l2,o2,_,p1,p2⟩:=aj.nat ht .i64;refine gz (by omega) (oF (K.ld 0 rfl rfl) (eh p1 (eh p2 (go t (by omega) Y ?_))));unfold FE;rw[if_pos f1,ht]
  ·refine gh (by omega) (gy (gz (by omega) ?_));have aI:B.cond<s'.val.length:=by rw[f];exact zK fc
   obtain ⟨l3,o3,q1,q2,q3,_⟩:=K.L5 1 rfl (Kv aI) .i64;refine oF (K.ld 0 rfl rfl) (eh q1 (eh q2 (yj ?_)));have aq:FE B s' = if Ec s'.val B.cond=0 then B.next[1]? else B.next[0]?:=by
    unfold FE;rw[if_neg (by omega),if_pos f2];rfl
   by_cases cz:Ec s'.val B.cond=0
   ·have ht:=iy (l:=B.next) (i:=1) (by omega);have Y:=AY (l:=B.next) (n:=1) (by omega);generalize B.next[1]=t at*;obtain⟨l2,o2,_,p1,p2⟩:=aj.nat ht .i64;refine gz cz (oF (K.ld 0 rfl rfl) (eh p1 (eh p2 (go t (by omega) Y ?_))));rw[aq,if_pos cz,ht]
   ·have ht:=iy (l:=B.next) (i:=0) (by omega);have Y:=AY (l:=B.next) (n:=0) (by omega);generalize B.next[0]=t at*;obtain⟨l2,o2,_,p1,p2⟩:=aj.nat ht .i64;refine gh cz (oF (K.ld 0 rfl rfl) (eh p1 (eh p2 (go t (by omega) Y ?_))));rw[aq,if_neg cz,ht]
  ·refine gh (by omega) (gy (gh (by omega) ?_));have H:=iy aH;generalize u.ev[B.state]=fs at*;refine eh (K.pC 3 rfl rfl) (oF (K.ld 0 rfl rfl) ?_);refine SR g K u1 (j:=1) rfl f H λF2 h2 w s2 H2 r2=>?_;refine TU H2 rfl (by simp only[eJ,r2.one];rfl) λN s3 A=>HQ F2 N s'.heap _ _ _ _ _ ((s1.trans s2).trans s3) A m ?_;rw[e1,if_pos f3,PH H];exact .inr ⟨s'.steps+1,_,rfl,rfl,rfl,r2.since s3,Va g H⟩
 refine gK (Pe ?_);have hv:=iy hi;have ar:=ZH hi;have aJ:B.ej[i]∈B.ej.drop M:=by
  rw[oY];exact⟨i-M,by rw[wBL,show M+(i-M)=i by omega];exact hv⟩
 have O:=aE _ aJ;generalize B.ej[i]=v at*;rw[ar]at HQ HN AX;by_cases cf:fuel<=s'.steps
 ·refine gz (by omega) (eh (show _=some (.agg [.I 0,.I (-1),.I (-1),.ei,.I s'.steps]) from rfl) (AX cf ?_));rw[RP cf];rfl
 refine gh (by omega) (fL ?_);have aK:At u v b i:=⟨B,hB,hv⟩
 have aL:=g.ko v b i aK;have hx:=iy aL;generalize u.ej[v]=x at*;have aM:v<s'.val.length:=by omega
 obtain⟨l1,o1,_,p1,p2⟩:=ap.nat hv .i64;obtain⟨l2,o2,xa,_,q1,q2,xr,_⟩:=u1.val hx;have c2:fe (.ptr lu (0+2)) h1=some vv:=K.ld 3 rfl rfl;refine oF c0 (eh p1 (eh p2 (oF c2 (eh q1 (eh q2 ?_)))));refine gZ K rfl rfl (by simp only[mF,eJ,xr.one];rfl) λN A s3=>?_;generalize h1.next=lc at*;have P:=s1.trans s3
 have Z:∀{F4:Nat->Prop} {h4:Hp} {s4:Rs},Sn F h F4 h4->ym u gY v x s' = .inr s4->s4.val.length=u.ej.length->s4.heap.length=s.heap.length->s4.steps=s'.steps+1->s4.polls<=s'.polls+1->eo F4 h4 (eQ lb 45 (km B bv bn bp)::Rn s4.val oQ lr lu u vv vb vs lh Th rm oh s4.heap ds)->
   gi CS Q fU (Ey J k) [.ptr lh 0,rZ,.I gY,.I fuel,.ptr lu 0,.ptr lr 0,oQ,.I ((s'.steps+1:Nat):Int),.I (s4.polls:Nat),.I b,.ptr lb 0,.I i] h4:=λ{F4 h4 s4} st he aN aO aP bd H4=>by
  refine CQ ?_;unfold uK;refine fL ⟨k-1,by omega,?_⟩;rw[hJ,<-aP];exact⟨F4,i+1,s4,rfl,by omega,by omega,st,aN,aO,by omega,by omega,by omega,by rw[X,ar];exact Ug cf hx he,H4⟩
 have L:∀a,a<u.ej.length->∃l o,gB 1 oQ (.I (a:Nat))=some (.ptr l o)/\fe (.ptr l o) N=some (.int .u64 (Ec s'.val a))/\uO .u64 (Ec s'.val a):=λa ha=>by
  obtain⟨l,o,r1,r2,r3,_⟩:=A.L5 2 rfl (Kv (v:=a) (by omega)) .i64;exact⟨l,o,r1,r2,r3⟩
 have ak:∀w∈hK x,w<u.ej.length:=λw R=>zK (g.use v x hx w R)
 have q:∀{w:Int},x.op≠19/\x.op≠20/\x.op≠22/\x.op≠23->uO .u64 w->w=Au x (Ec s'.val) s'.heap->∃p V,gB 1 oQ (.I v)=some p/\gJ 1 p (.int .u64 w) N=some (.val .undef V)/\N.next<=V.next/\
   gi CS Q fU (Ey J k) [.ptr lh 0,rZ,.I gY,.I fuel,.ptr lu 0,.ptr lr 0,oQ,.I ((s'.steps+1:Nat):Int),.I s'.polls,.I b,.ptr lb 0,.I i] V:=λ{w} aQ R he=>by
  obtain⟨l,o,V,r1,r2,W,H5,s5⟩:=A.Kh 2 rfl (k:=v) (y:=w) (u:= .int .u64 w) aM rfl rfl ⟨rfl,R⟩;simp only[ji,lO]at H5;refine⟨_,V,r1,r2,W,Z (s4:={s' with val:=s'.val.set v w,steps:=s'.steps+1}) (P.trans s5) ?_ (by rw[TH];exact f) m rfl (OK _) H5.tail⟩;rw[Wq aQ,he];rfl
 have x0:fe (.ptr lc (0+0)) N=some (.I x.op):=A.ld 0 rfl rfl;have E:fe (.ptr lc (0+1)) N=some (.I x.a):=A.ld 0 rfl rfl;have ab:fe (.ptr lc (0+2)) N=some (.I x.b):=A.ld 0 rfl rfl;have al:fe (.ptr lc (0+3)) N=some (.I x.n):=A.ld 0 rfl rfl;have aR:fe (.ptr lc (0+4)) N=some xa:=A.ld 0 rfl rfl;have au:fe (.ptr lc (0+5)) N=some (.I x.state):=A.ld 0 rfl rfl;have ac:x.op≠21:=λe=>by
  unfold gM at O;simp only[hx,e]at O;cases O
 have be:x.op≠1:=λe=>by
  unfold gM at O;simp only[hx,e]at O;cases O
 obtain⟨aw,aS⟩:=Hw (x:=x);have hA:two x.op=true\/nq x.op=true->x.a<u.ej.length:=λhh=>ak _ (hh.elim (λh=>(aw h ac).1) λh=>aS h ac);have ae:two x.op=true->x.b<u.ej.length:=λhh=>ak _ (aw hh ac).2;have D:s'.heap.length<1000000000:=by omega
 have vW:∀{w:Int},Au x (Ec s'.val) s'.heap=w->w=Au x (Ec s'.val) s'.heap:=λh=>h.symm;refine oF x0 (gy ?_);by_cases o2:x.op=2
 ·obtain⟨p,V,r1,r2,W,S⟩:=q (w:=Dl x.n) (by omega) (G3 _) (by unfold Au;rw[if_pos o2]);refine gz (by omega) (oF al (eh (by rw[jC,lB]) (eh r1 ?_)));rw[r2,en];exact S
 refine gh (by omega) (gy ?_);by_cases T:x.op=15
 ·have C:nq x.op=true:=by rw[T];rfl
  obtain⟨l,o,a1,a2,a3⟩:=L x.a (hA (.inr C));refine gz (by omega) (oF E (eh a1 (eh a2 (zaG A (i:=5) (j:=6) rfl rfl D a3 λR=>?_))));obtain⟨p,V,r1,r2,W,S⟩:=q (w:=uA s'.heap (Ec s'.val x.a) / 4294967296) (by omega) R (by unfold Au;rw[if_neg o2,if_pos T]);refine eh (by rw[jC,lB,LK R]) (eh r1 ?_);rw[r2,en];exact S
 refine gh (by omega) (gy ?_);by_cases aa:x.op=16
 ·have C:nq x.op=true:=by rw[aa];rfl
  obtain⟨l,o,a1,a2,a3⟩:=L x.a (hA (.inr C));refine gz (by omega) (oF E (eh a1 (eh a2 (Y7 A (i:=5) (j:=6) rfl rfl D a3 λR=>?_))));obtain⟨p,V,r1,r2,W,S⟩:=q (w:=uA s'.heap (Ec s'.val x.a) % 4294967296) (by omega) R (by unfold Au;rw[if_neg o2,if_neg T,if_pos aa]);refine eh (by rw[jC,lB,LK R]) (eh r1 ?_);rw[r2,en];exact S
 refine gh (by omega) (gy ?_);by_cases ag:x.op=17
 ·have C:nq x.op=true:=by rw[ag];rfl
  obtain⟨l,o,a1,a2,a3⟩:=L x.a (hA (.inr C));refine gz (by omega) (oF E (eh a1 (eh a2 (oF al (eh (by rw[jC,lB]) (eh (by rw[nJ,lB]) (MF A (i:=5) (j:=6) rfl rfl D (G3 _) λR=>?_)))))));obtain⟨p,V,r1,r2,W,S⟩:=q (w:=uA s'.heap (Dl (Ec s'.val x.a+Dl x.n))) (by omega) R (by unfold Au;rw[if_neg o2,if_neg T,if_neg aa,if_pos ag]);refine⟨jO _,eh r1 ?_⟩;rw[r2,en];exact⟨W,S⟩
 refine gh (by omega) (gy ?_);by_cases am:x.op=18
 ·have C:two x.op=true:=by rw[am];rfl
  obtain⟨l,o,a1,a2,a3⟩:=L x.a (hA (.inl C));obtain⟨l',o',b1,b2,b3⟩:=L x.b (ae C);refine gz (by omega) (oF E (eh a1 (eh a2 (eh (by rw[nJ,lB]) (oF ab (eh b1 (eh b2 (eh (by rw[nJ,lB]) (MF A (i:=5) (j:=6) rfl rfl D (G3 _) λR=>?_)))))))));obtain⟨p,V,r1,r2,W,S⟩:=q (w:=uA s'.heap (Dl (Dl (Ec s'.val x.a+1)+Ec s'.val x.b))) (by omega) R (by unfold Au;rw[if_neg o2,if_neg T,if_neg aa,if_neg ag,if_pos am]);refine⟨jO _,eh r1 ?_⟩;rw[r2,en];exact⟨W,S⟩
 refine gh (by omega) (gy ?_);by_cases I:x.op=19
 ·have C:two x.op=true:=by rw[I];rfl
  obtain⟨l,o,a1,a2,a3⟩:=L x.a (hA (.inl C));obtain⟨l',o',b1,b2,b3⟩:=L x.b (ae C);refine gz (by omega) (oF E (eh a1 (eh a2 (oF al (eh (by rw[jC,lB]) (eh (by rw[nJ,lB]) (oF ab (eh b1 (eh b2 (Ue A (i:=5) (j:=6) rfl rfl D (G3 _) b3 λh4 r s4 H4=>⟨s4.next,?_⟩))))))))));simp only[ji,lO]at H4;refine Z (s4:={s' with heap:=Ox s'.heap (Dl (Ec s'.val x.a+Dl x.n)) (Ec s'.val x.b),steps:=s'.steps+1}) (P.trans s4) ?_ f (by rw[M4];exact m) rfl (OK _) H4.tail;unfold ym;rw[if_pos I];rfl
 refine gh (by omega) (gy ?_);by_cases G:x.op=20
 ·have C:two x.op=true:=by rw[G];rfl
  obtain ⟨l,o,a1,a2,a3⟩:=L x.a (hA (.inl C));obtain⟨l',o',b1,b2,b3⟩:=L x.b (ae C);have bf:=g.putAt v x hx G;have ax:=iy (l:=x.args) (i:=0) (by omega);have aT:x.args[0]<u.ej.length:=ak _ (by
   unfold hK;rw[if_neg ac,if_pos G];have:x.args.take 1=[x.args[0]]:=by rw[MU (by omega)];rfl
   rw[this];simp)
  have aU:x.args.getD 0 0=x.args[0]:=by rw[Je,ax];rfl
  generalize x.args[0]=c at*;obtain⟨l6,o6,_,t1,t2⟩:=(xr.since s3).nat ax .i64;obtain⟨l7,o7,y1,y2,y3⟩:=L c aT;refine gz (by omega) (oF E (eh a1 (eh a2 (eh (by rw[nJ,lB]) (oF ab (eh b1 (eh b2 (eh (by rw[nJ,lB]) (oF aR (eh t1 (eh t2 (eh y1 (eh y2 (Ue A (i:=5) (j:=6) rfl rfl D (G3 _) y3 λh4 r s4 H4=>⟨s4.next,?_⟩))))))))))))));simp only[ji,lO]at H4;refine Z (s4:={s' with heap:=Ox s'.heap (Dl (Dl (Ec s'.val x.a+1)+Ec s'.val x.b)) (Ec s'.val c),steps:=s'.steps+1}) (P.trans s4) ?_ f (by rw[M4];exact m) rfl (OK _) H4.tail;unfold ym;rw[if_neg I,if_pos G,aU];rfl
 refine gh (by omega) (gy ?_)
 have lv:∀{fs:List Fm},u.ev[x.state]? =some fs->ym u gY v x s' = .inl (yU u {s' with steps:=s'.steps+1} x.state)->
   cP CS jm [.agg (uC u vv vb vs),oQ,.I x.state,.I v,.I ((s'.steps+1:Nat):Int)] N λay aV=>fm (gJ 5 (.ptr lr 0) ay aV) λ_ aA=>oP (fW 5 (.ptr lr 0) aA) λr=>Q r aA:=λ{fs} H he=>by
  refine SR g A (u1.since s3) (j:=2) rfl f H λF2 h2 w s2 H2 r2=>?_;refine TU H2.tail rfl (by simp only[eJ,r2.one];rfl) λh4 s4 H4=>HQ F2 h4 s'.heap _ _ _ _ _ ((P.trans s2).trans s4) H4 m ?_;rw[W2 cf hx he,show UH u locals gY fuel Gj b B (.inl (yU u {s' with steps:=s'.steps+1} x.state))=yU u {s' with steps:=s'.steps+1} x.state from rfl,PH H];exact .inr ⟨s'.steps+1,_,rfl,rfl,rfl,r2.since s4,Va g H⟩
 by_cases U:x.op=22
 ·have C:nq x.op=true:=by rw[U];rfl
  obtain⟨l,o,a1,a2,a3⟩:=L x.a (hA (.inr C));have oh:=g.leave v x hx (by rw[U];rfl);refine gz (by omega) (oF E (eh a1 (eh a2 (gy ?_))));by_cases z:Ec s'.val x.a=0
  ·refine gz z (eh (A.pC 4 rfl rfl) (oF au (lv (iy oh) ?_)));unfold ym;rw[if_neg I,if_neg G,if_pos U,if_pos (show s'.of x.a=0 from z)]
  ·refine gh z (Z (s4:={s' with steps:=s'.steps+1}) P ?_ f m rfl (OK _) A.tail);unfold ym;rw[if_neg I,if_neg G,if_pos U,if_neg (show ¬s'.of x.a=0 from z)]
 refine gh (by omega) (gy ?_);by_cases an:x.op=23
 ·have oh:=g.leave v x hx (by rw[an];rfl);refine gz (by omega) (eh (pP ..) (eh (a:= .bool (decide (0<=gY/\(s'.polls:Int)=gY))) ?_ (jj ?_)))
  ·by_cases c:0<=gY
   ·rw[JM c,mH];simp only[fo,g0];congr 2;rw[Xz,Cw,CU];exact⟨λh=>⟨c,h⟩,λh=>h.2⟩
   ·rw[KM c,Fo,KM λh=>c h.1]
  by_cases z:0<=gY/\(s'.polls:Int)=gY
  ·refine gz (JM z) (eh (A.pC 4 rfl rfl) (oF au (lv (iy oh) ?_)));unfold ym;rw[if_neg I,if_neg G,if_neg U,if_pos an,if_pos z]
  ·refine gh (by rw[CU];exact z) (fL (Z (s4:={s' with steps:=s'.steps+1,polls:=s'.polls+1}) P ?_ f m rfl (jO _) A.tail));unfold ym;rw[if_neg I,if_neg G,if_neg U,if_pos an,if_neg z]
 refine gh (by omega) ?_;obtain⟨g1,g2⟩:=g.op v x hx;have aB:∀c:Bool,(c=true↔x.op=8\/x.op=9)->me CS Q fU (Ey J k) [.ptr lh 0,rZ,.I gY,.I fuel,.ptr lu 0,.ptr lr 0,oQ,.I ((s'.steps+1:Nat):Int),.I s'.polls,.I b,.ptr lb 0,.I i,.I v,.ptr lc 0,.bool c] N:=λc hc=>by
  refine Dh ?_;unfold uI;have aC:Au x (Ec s'.val) s'.heap=if x.op=8\/x.op=9 then M1 x.op (Ec s'.val x.a) 0 else M1 x.op (Ec s'.val x.a) (Ec s'.val x.b):=by
   unfold Au;rw[if_neg o2,if_neg T,if_neg aa,if_neg ag,if_neg am]
  cases c with
  | true=>
    have ah:=hc.1 rfl;have C:nq x.op=true:=by rcases ah with c|c <;> rw[c] <;> rfl
    obtain⟨l,o,a1,a2,a3⟩:=L x.a (hA (.inr C));obtain⟨p,V,r1,r2,W,S⟩:=q (w:=M1 x.op (Ec s'.val x.a) 0) (by omega) (Yr _ _ _) (by rw[aC,if_pos ah]);refine jj (gz rfl (oF x0 (oF E (eh a1 (eh a2 (SV a3 AA (by omega) ⟨jO _,?_⟩))))));refine eh (show CN 0 (.tuple [_,_])=_ from rfl) (eh (show CN 1 (.tuple [_,_])=_ from rfl) (eh r1 ?_));rw[r2,en]
    exact⟨W,S⟩
  | false=>
    have ah:¬(x.op=8\/x.op=9):=λh=>by have:=hc.2 h;cases this
    have C:two x.op=true:=by
      unfold two;simp only[KO,vH,CU,Cw];omega
    obtain⟨l,o,a1,a2,a3⟩:=L x.a (hA (.inl C));obtain⟨l',o',b1,b2,b3⟩:=L x.b (ae C);obtain⟨p,V,r1,r2,W,S⟩:=q (w:=M1 x.op (Ec s'.val x.a) (Ec s'.val x.b)) (by omega) (Yr _ _ _) (by rw[aC,if_neg ah]);refine jj (gh (by simp) (oF x0 (oF E (eh a1 (eh a2 (oF ab (eh b1 (eh b2 (SV a3 b3 (by omega) ⟨jO _,?_⟩)))))))));refine eh (show CN 0 (.tuple [_,_])=_ from rfl) (eh (show CN 1 (.tuple [_,_])=_ from rfl) (eh r1 ?_));rw[r2,en];exact⟨W,S⟩
 refine eh (g0 ..) (jj ?_);by_cases o8:x.op=8
 ·have e:((x.op:Int) == 8)=true:=Cw.2 (by omega);rw[e];exact gz rfl (aB true ⟨λ_=> .inl o8,λ_=>rfl⟩)
 ·have e:((x.op:Int) == 8)=false:=Wc.2 (by omega);rw[e];refine gh (by simp) (eh (g0 ..) (aB _ ?_));rw[Cw];constructor
  ·intro h;exact .inr (by omega)
  ·intro h;omega
end
open Un Dm
section
variable{F F':Nat->Prop}{h h':Hp}{cs ds:List Pc}{Q:fD}{u:U}{vv vb vs rZ rm oh:V}{hp locals:List Int}{lh Th:Nat}{gY:Int}{fuel:Nat}
theorem XR(g:Good u)(H0:eo F h (eQ lh Th [rm,oh]::fg (eI .u64) AI hp oh::ds))(q:wW F h u vv vb vs)(r:im (eI .u64) F h locals rZ)(ll:locals.length<1000000000)(aj:hp.length<1000000000)(O:fuel<=1000000)
  (H:∀F' h' m a b c d w,Sn F h F' h'->eo F' h' (eQ lh Th [rm,oh]::fg (eI .u64) AI m oh::ds)->m.length=hp.length->ExR F' h' (runM u locals gY fuel (fuel+1) none 0 (yT u hp)) m a d w->Q (.agg [.I a,.I b,.I c,w,.I d]) h') :
  cP CS jN [.agg (uC u vv vb vs),.ptr lh 0,rZ,.I gY,.I fuel] h Q:=by
 refine G4 rfl rfl ?_;unfold zq;have nv:=g.nv;have MH:=g.MH;refine jH H0 q.one λh1 H1 s1=>xz H1 λx P s2=>?_;generalize h.next=lu at*;generalize h1.next=lr at*;refine oF (P.ld 1 rfl rfl) (eh ((q.since s1).since s2).v.len ?_);rw[ku (z:=V.int .u64 0) rfl (by decide) (by omega),fE];obtain⟨M,R⟩:=P.make (E:=eI .u64) (ty:=AI) (y:=0) (u:=V.int .u64 0) u.ej.length ⟨rfl,AA⟩ rfl;have M:eo F (x.new (.cells 89 1 true false (List.replicate u.ej.length (V.int .u64 0)))) _:=M;have R:Sn F x F (x.new (.cells 89 1 true false (List.replicate u.ej.length (V.int .u64 0)))):=R;generalize x.new (.cells 89 1 true false (List.replicate u.ej.length (V.int .u64 0)))=h3 at*;generalize x.next=lv at*;have S:=(s1.trans s2).trans R
 obtain ⟨J,T⟩:∃J:Nat->LP,J=λk l h'=>∃(F':Nat->Prop) (s:Rs) (pG:Option Nat) (b:Nat),l=[.ptr lh 0,rZ,.I gY,.I fuel,.ptr lu 0,.ptr lr 0,.slice lv 0 u.ej.length,.I s.steps,.I s.polls,.I b,.I (LV pG)]/\fuel<k+s.steps/\s.steps<=fuel/\s.polls<=s.steps/\b<u.blocks.length/\
   Sn F h F' h'/\s.val.length=u.ej.length/\s.heap.length=hp.length/\runM u locals gY fuel (fuel+1) none 0 (yT u hp)=runM u locals gY fuel k pG b s/\eo F' h' (Rn s.val (.slice lv 0 u.ej.length) lr lu u vv vb vs lh Th rm oh s.heap ds):=⟨_,rfl⟩
 refine Ek J (λk x1 x2 x3 x4 x5 ak al am an ao ap h4 hi=>?_) (k:=fuel+1) ?_;rotate_left
 ·rw[T];exact⟨F,yT u hp,none,0,rfl,OF _,Mj _,jO _,by omega,S,WI,rfl,rfl,M⟩
 clear M P H1;rw[T]at hi;obtain⟨F4,s,pG,b,⟨⟩,hk,aq,ar,hb,s4,n,A,hR,H4⟩:=hi;obtain⟨Gj,rfl⟩:∃Gj,k=Gj+1:=⟨k-1,by omega⟩
 unfold vI;have u4:=q.since s4;have f:=iy hb;generalize u.blocks[b]=B at*;obtain⟨l1,o1,bv,bn,bp,_,x1,x2,N,iN,ip,_⟩:=u4.pE f;refine oF (H4.ld 2 rfl rfl) (eh x1 (eh x2 ?_));refine gZ H4 rfl rfl (by simp only[km,eJ,N.one,iN.one,ip.one];rfl) λh5 H5 C=>?_;generalize h4.next=lb at*;have D:=s4.trans C;refine zeJ g H5 (q.since D) (r.since D) n f (N.since C) (ip.since C) ll λh6 DV s6 H6=>?_;refine zd3 g H6 n f ((N.since C).since s6) (by omega) λh7 s7 U=>?_;have o:=(C.trans s6).trans s7;have p:=s4.trans o;have G:B.ej.takeWhile (gM u)++B.ej.dropWhile (gM u)=B.ej:=wA6;have I:B.ej.drop (B.ej.takeWhile (gM u)).length=B.ej.dropWhile (gM u):=by
  have e:=List.drop_left (l₁:=B.ej.takeWhile (gM u)) (l₂:=B.ej.dropWhile (gM u));rw[G]at e;exact e
 have au:B.ej.length<=u.ej.length:=jM _ B.ej (yX g f) λv hv=>by
  obtain⟨k,hk⟩:=oY.1 hv;exact g.ko v b k ⟨B,f,hk⟩
 have W:(B.ej.takeWhile (gM u)).length<=B.ej.length:=by
  have:=congrArg List.length G;rw[KC]at this;omega
 have i:runM u locals gY fuel (Gj+1) pG b s=UH u locals gY fuel Gj b B (qy u gY fuel (B.ej.drop (B.ej.takeWhile (gM u)).length) (ou u locals pG B s)):=by rw[zbq f,I]
 have X:(ou u locals pG B s).steps=s.steps+(B.ej.takeWhile (gM u)).length:=rfl;have Y:(ou u locals pG B s).polls=s.polls:=rfl;have Z:(ou u locals pG B s).val.length=u.ej.length:=(FB _ _).trans n;have K:(ou u locals pG B s).heap.length=hp.length:=A;have U:eo F4 h7 (eQ lb 45 (km B bv bn bp)::Rn (ou u locals pG B s).val (.slice lv 0 u.ej.length) lr lu u vv vb vs lh Th rm oh (ou u locals pG B s).heap ds):=U;rw[<-X,<-Y];generalize ou u locals pG B s=sm at*;refine zdK (Gj:=Gj) (locals:=locals) g U (q.since p) Z (by omega) f (N.since o) (iN.since o) W (λv hv=>Jl g f v (by rw[<-I];exact hv)) (by omega) (by omega) O (λF8 h8 L a b' c d w j H8 aa he=>?_) λF8 h8 j t ab H8 ac ae L aw ax ag ah=>?_
 ·exact H F8 h8 L a b' c d w (p.trans j) H8 (aa.trans K) (by rw[hR,i];exact he)
 ·refine ⟨Gj,by omega,?_⟩;rw[T];have ai:t<u.blocks.length:=by
   rcases Tj t u.blocks.length with h|h
   ·exact h
   ·exact absurd (OE h) ag
  exact⟨F8,{j with steps:=j.steps+1},some b,t,rfl,by show fuel<Gj+(j.steps+1);omega,by show j.steps+1<=fuel;omega,by show j.polls<=j.steps+1;omega,ai,p.trans ab,ac,ae.trans K,by rw[hR,i,ah],H8⟩
end
