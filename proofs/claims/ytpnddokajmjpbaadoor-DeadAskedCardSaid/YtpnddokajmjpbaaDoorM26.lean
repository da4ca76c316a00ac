/- Parts. -/
import Derived.Test.YtpnddokajmjpbaaDoorM25
namespace Go.Proofs.YtpnddokajmjpbaaDoor.Hx
open Go.Proofs.YtpnddokajmjpbaaDoor.Un Go.Proofs.YtpnddokajmjpbaaDoor.Dm
theorem knownName (h:Hp):∀op:Nat,1<=op->op<=23->∃s,s≠[]/\CS.K vF [.int .i64 (op:Nat)] h=some (.str s)
 |0,h,_=>by omega
 |1,_,_=>⟨_,by decide,rfl⟩
 |2,_,_=>⟨_,by decide,rfl⟩
 |3,_,_=>⟨_,by decide,rfl⟩
 |4,_,_=>⟨_,by decide,rfl⟩
 |5,_,_=>⟨_,by decide,rfl⟩
 |6,_,_=>⟨_,by decide,rfl⟩
 |7,_,_=>⟨_,by decide,rfl⟩
 |8,_,_=>⟨_,by decide,rfl⟩
 |9,_,_=>⟨_,by decide,rfl⟩
 |10,_,_=>⟨_,by decide,rfl⟩
 |11,_,_=>⟨_,by decide,rfl⟩
 |12,_,_=>⟨_,by decide,rfl⟩
 |13,_,_=>⟨_,by decide,rfl⟩
 |14,_,_=>⟨_,by decide,rfl⟩
 |15,_,_=>⟨_,by decide,rfl⟩
 |16,_,_=>⟨_,by decide,rfl⟩
 |17,_,_=>⟨_,by decide,rfl⟩
 |18,_,_=>⟨_,by decide,rfl⟩
 |19,_,_=>⟨_,by decide,rfl⟩
 |20,_,_=>⟨_,by decide,rfl⟩
 |21,_,_=>⟨_,by decide,rfl⟩
 |22,_,_=>⟨_,by decide,rfl⟩
 |23,_,_=>⟨_,by decide,rfl⟩
 |n+24,_,h=>by omega
theorem Ks{h:Hp}{X:Option (V×Hp)}{K:QP1}(H:oP X λy=>K y.1 y.2):oP (pGd true (.bool true)) λb=>ghP b h X K:=H
section
variable{F F':Nat->Prop}{h h':Hp}{cs:List Pc}{Q:QP1}{u:U}{vv vb vs:V}{lc:Nat}{bl pl idm:V}
theorem Jr {op:Nat}(a:1<=op)(b:op<=23)(H:∀s,s≠[]->Q (.str s) h):cP CS vF [.int .i64 op] h Q:=by
 obtain⟨fn,c,d,e⟩:=bodyName;obtain⟨s,hs,f⟩:=knownName h op a b;exact cP.known d e f rfl rfl (H s hs)
theorem Ef {lv:Nat}{x:Vl}{w v:V}{ys:List Vl}(A:Hold F h (cellP lv tyVal (vlC x w)::cs))(p:SlR eV F h ys v)(J:ys.length<1000000)(f:∀y∈ys,¬(y.op=1/\y.n=x.n))
  (H:∀h',Sn F h F h'->Hold F h' (cellP lv tyVal (vlC x w)::cs)->Q (.bool false) h'):cP CS fo [v,.func gc [] [.ptr lv 0]] h Q:=by
 refine lB rfl rfl ?_;unfold il;refine nB rfl rfl ?_;unfold iI;refine d9 p.len ?_
 refine lw (λk q r s t h'=>∃i:Nat,q=v/\r = .func gc [] [.ptr lv 0]/\s = .int .i64 ys.length/\t = .int .i64 (i:Nat)/\i+k=ys.length/\Sn F h F h'/\Hold F h' (cellP lv tyVal (vlC x w)::cs)) ?_ (k:=ys.length)
  ⟨0,rfl,rfl,rfl,rfl,by omega,Sn.refl _ _,A⟩
 rintro k q r s t h' ⟨i,rfl,rfl,rfl,rfl,K,g,u⟩;unfold im;by_cases hi:i<ys.length;rotate_left
 ·refine ltNo ?_;refine d9 (kX _ _ _ _) ?_;exact H h' g u
 refine ltYes ?_;obtain⟨l,o,c,_,B,C,⟨a,rfl,D⟩,_⟩:=(p.since g).ix hi .i64;refine d9 B (d9 C ?_);show cP CS gc [.agg (vlC ys[i] a),.ptr lv 0] h' _;refine yd rfl rfl ?_;unfold rF;refine kh u (by simp only[vlC,ee,D.one];rfl) λb d E=>?_;refine oF (d.ld 0 rfl rfl) (d9 (fF _ _ _ _) ?_);have e:pAnd (.bool (((ys[i].op:Nat):Int) == 1)) (oB (pFA 3 (.ptr h'.next 0)) λG=>oB (pLd G b) λI=>oB (pFA 3 (.ptr lv 0)) λj=>oB (pLd j b) λm=>hbin .eql 2 I m)=some (.bool false):=by
  have l1:pLd (.ptr h'.next (0+3)) b=some (.int .i64 ys[i].n):=d.ld 0 rfl rfl;have l2:pLd (.ptr lv (0+3)) b=some (.int .i64 x.n):=d.ld 1 rfl rfl;simp only[ed,en,l1,l2,fF,gv];congr 2;rw[wBt];intro z;simp only[wAJ,wAt]at z;exact f _ (wAR hi) ⟨by omega,z.2⟩
 refine d9 e (st_b (if_f (by simp) ?_));exact addOne ⟨k-1,by omega,i+1,rfl,rfl,rfl,rfl,by omega,g.trans E,d.tail⟩
theorem Ih {lv:Nat}{x:Vl}{w:V}{a0:V}(a:a0 = .ptr lc 0)(C:Ck F h (cellP lv tyVal (vlC x w)::cs) lc u vv vb vs bl pl idm)(G:leaves x.op=true->x.state<u.states.length)(hc:lv≠lc)(H:pLd (.ptr lv 5) h=some (.int .i64 x.state)){K:QP1}(D:K (.bool false) h) :
  oP (pGd true (.bool (leaves x.op))) λb=>
  oP (gV b (pFA 5 (.ptr lv 0))) λc=>
  oP (pGd true (.bool (leaves x.op))) λd=>
  oP (gV d (pLd c h)) λe=>
  oP (pGd true (.bool (leaves x.op))) λf=>
  oP (gV f (some a0)) λg=>
  oP (pGd true (.bool (leaves x.op))) λi=>
  oP (gV i (pNil g)) λj=>
  oP (pGd true (.bool (leaves x.op))) λk=>
  oP (gV k (pFA 0 j)) λl=>
  oP (pGd true (.bool (leaves x.op))) λm=>
  oP (gV m (pFA 4 l)) λn=>
  oP (pGd true (.bool (leaves x.op))) λo=>
  oP (gV o (pLd n h)) λp=>
  oP (pGd true (.bool (leaves x.op))) λq=>
  oP (gV q (pLen p)) λr=>
  oP (pGd true (.bool (leaves x.op))) λt=>
  oP (gC t (some (gJ,[e,r]))) λv=>cgP CS v h λy E=>
  (h.next<=E.next/\
  oP (pGd true (.bool (leaves x.op))) λz=>
  oP (gV z (hun .not y)) λA=>
  oP (pOr (.bool false) (pPick (.bool (leaves x.op)) A (V.bool false))) λB=>K B E):=by
 subst a
 cases hq:leaves x.op with
 | true=>
   have:=G hq;refine fi (d9 (ed _ _ _) (fi (d9 H (fi (d9 rfl (fi (d9 (fc _ _) (fi (d9 (ed _ _ _) (fi (d9 (ed _ _ _) (fi (d9 (C.ld 4 rfl) (fi (d9 C.u.s.len (uU ?_))))))))))))))));refine r0 ⟨wAF _,fi ?_⟩;rw[wBF this]
   exact d9 rfl (d9 rfl D)
 |false=>exact ft (ft (ft (ft (ft (ft (ft (ft (wZ ⟨wAF _,ft (d9 rfl D)⟩))))))))
theorem JD (g:Good u)(C:Ck F h cs lc u vv vb vs bl pl idm){xs ys:List Int}(A:SlR eZ F h xs bl)(S:Std u u.blocks.length 0 xs ys){i:Nat}(hi:i<u.vals.length)(U:lc<h.next)
  (H:∀F' h',Sn F h F' h'->Hold F' h' cs->Q (.bool true) h'):cP CS gD [.ptr lc 0,.int .i64 i] h Q:=by
 refine yZ rfl rfl ?_;unfold pK;have nv:=g.nv;have nb:=g.nb;obtain⟨x,f⟩:∃x,u.vals[i]? =some x:=⟨_,wAA hi⟩
 obtain ⟨b,k,l⟩:=g.at1 i hi;obtain⟨B,p,hk⟩:=id l;have q:=g.op i x f;have r:=g.use i x f;have D:B.preds.length<=700:=by
  rw[g.preds b B p,<-jO];have:=jR g (i:=u.blocks.length) (j:=0) (b:=b) (wAF _) (by omega);omega
 have c:x.op=21\/x.op=20->x.args.length<=700:=by
  rintro(E|E)
  ·rw[(g.phi _ _ _ _ _ l f E p).2];exact D
  ·rw[g.putAt i x f E];omega
 obtain⟨l1,o1,w,_,W,X,P,_⟩:=C.u.val f;refine d9 (fc _ _) (d9 (ed _ _ _) (oF (C.ld 2 rfl) (d9 W (d9 X ?_))));refine fU C.H rfl rfl (by simp only[vlC,ee,P.one];rfl) λh2 z G=>?_;have C2:=C.cons G z;have o:=P.since G;refine oF (z.ld 0 rfl rfl) ?_;refine Jr q.1 q.2 λs hs=>⟨wAF _,?_⟩
 refine d9 (FZ _ _ _) ?_;rw[show(s == [])=false from wAz.2 hs];refine ez (d9 rfl (ez (d9 (z.ldA 0 rfl rfl) (rr ?_))));refine Do z o (λh=>by have:=c h.symm.symm;omega) λF3 R v t a r3=>⟨t.next,?_⟩
 have C3:=C2.since t a;have d:=G.trans t;refine rr (zq C3 r3 (by have:=w9 c;omega) r ⟨wAF _,d9 rfl ?_⟩);refine ez (d9 (ed _ _ _) (ez (d9 (a.ld 0 rfl rfl) (rr ?_))));refine zX ⟨wAF _,ez (d9 rfl ?_)⟩;refine Ih rfl C3 (g.leave i x f) (by omega) (a.ld 0 rfl rfl) ?_;refine st_b (if_f (by simp) ?_);refine oF (a.ld 0 rfl rfl) ?_;by_cases I:x.op=20
 ·refine fk (if_t (by omega) ?_);refine oF (a.ld 0 rfl rfl) (d9 (o.since t).len (fu ?_));rw[g.putAt i x f I];exact H _ _ d a.tail
 refine fk (if_f (by omega) ?_);by_cases J:x.op=21
 ·refine fk (if_t (by omega) ?_);obtain⟨lb,ob,_,b1,b2⟩:=(A.since d).int ((S.yes i b k l (.inl (wAB.1 p).1)).1) .i64;obtain⟨l7,o7,bv,bn,bp,_,K,_,_,_,ip,Y⟩:=C3.u.blk p;refine oF (a.ld 0 rfl rfl) (d9 (o.since t).len ?_);refine d9 (fc _ _) (d9 (ed _ _ _) (oF (C3.ld 3 rfl) (oN (C3.ld 5 rfl) (d9 b1 (d9 b2 (d9 K ?_))))));refine oF Y.preds (d9 ip.len (fu ?_));rw[(g.phi _ _ _ _ _ l f J p).2,wBF rfl];exact H _ _ d a.tail
 refine fk (if_f (by omega) ?_);by_cases Z:x.op=1
 ·refine fk (if_t (by omega) ?_);obtain⟨p1,p2,p3⟩:=g.param i x f Z;refine oF (a.ld 0 rfl rfl) (d9 (kX _ _ _ _) ?_);have e:pAnd (.bool (decide ((0:Int)<=x.n))) (oB (pFA 3 (.ptr h.next 0)) λL=>oB (pLd L R) λM=>hbin .lss 2 M (V.int .i64 40))=some (.bool true):=by
   have l1:pLd (.ptr h.next (0+3)) R=some (.int .i64 x.n):=a.ld 0 rfl rfl;simp only[ed,en,l1,j4,gv];simp[p1,p2]
  refine d9 e ?_;obtain⟨vc,e1,r1⟩:=C3.u.v.cut (lo:=none) (hi:=some (.int .i64 i)) (m:=0) (n:=i) rfl (xI _ _ _) (wA5 _) (by omega);rw[wBT]at r1;refine fi (d9 rfl (fi (d9 (fc _ _) (fi (d9 (ed _ _ _) (fi (d9 (ed _ _ _) (fi (d9 (C3.ld 2 rfl) (fi (d9 rfl (fi (d9 e1 (fi (d9 rfl (uU ?_))))))))))))))));refine Ef a r1 (by rw[wAc];omega) (λy hy T=>?_) λh4 s4 H4=>d9 rfl (H _ _ (d.trans s4) H4.tail);obtain⟨j,N⟩:=wAD.1 hy;have O:j<i:=by
   have:=(wAB.1 N).1;rw[wAc]at this;omega
  rw[wBA O]at N;have:=p3 j y N T.1 T.2;omega
 ·refine fk (if_f (by omega) ?_);exact H _ _ d a.tail
theorem IT (g:Good u)(C:Ck F h cs lc u vv vb vs bl pl idm){i:Nat}{B:Bk}(p:u.blocks[i]? =some B)(H:∀F' h',Sn F h F' h'->Hold F' h' cs->Q (.bool true) h'):cP CS iF [.ptr lc 0,.int .i64 i] h Q:=by
 refine yK rfl rfl ?_;unfold sq;have c:=g.fin i B p;have nv:=g.nv;have nb:=g.nb;obtain⟨l7,O,P,A,R,_,D,G,I,d,ip,_⟩:=C.u.blk p;refine d9 (fc _ _) (d9 (ed _ _ _) (oF (C.ld 3 rfl) (d9 D (d9 G ?_))));refine fU C.H rfl rfl (by simp only[bkC,ee,I.one,d.one,ip.one];rfl) λJ a e=>?_;have C2:=C.cons e a;have d:=d.since e;refine oF (a.ld 0 rfl rfl) (d9 d.len ?_);have K:B.next.length<=2:=by
  rcases c with⟨_,h⟩|⟨_,h,_⟩|⟨_,h,_⟩
  ·omega
  ·omega
  ·rw[h];simp
 refine wm (λk t v f l m h'=>∃j:Nat,t = .ptr lc 0/\v = .ptr h.next 0/\f=A/\l = .int .i64 B.next.length/\m = .int .i64 (j:Nat)/\j+k=B.next.length/\h' = J) ?_ (k:=B.next.length) ⟨0,rfl,rfl,rfl,rfl,rfl,by omega,rfl⟩;rintro k t v f l m h' ⟨j,rfl,rfl,rfl,rfl,rfl,S,rfl⟩;unfold p9;by_cases hj:j<B.next.length
 ·refine ltYes ?_;obtain⟨l8,T,_,L,M⟩:=d.nat (wAA hj) .i64;have q:B.next[j]<u.blocks.length:=g.nx i _ (by unfold next;rw[p];exact wAR hj);refine d9 L (d9 M (d9 (fc _ _) (d9 (ed _ _ _) (oF (C2.ld 3 rfl) (d9 C2.u.b.len ?_)))));refine r0 (jE (if_t (by simpa using q) ?_));exact addOne ⟨k-1,by omega,j+1,rfl,rfl,rfl,rfl,rfl,by omega,rfl⟩
 refine ltNo ?_;refine oF (a.ld 0 rfl rfl) ?_;rcases c with⟨x,o⟩|⟨x,o,r⟩|⟨x,o,r⟩
 ·refine fk (if_t (by omega) ?_);refine oF (a.ld 0 rfl rfl) (d9 d.len (fu ?_));rw[o];exact H _ _ e a.tail
 ·refine fk (if_f (by omega) ?_);refine fk (if_t (by omega) ?_);refine oF (a.ld 0 rfl rfl) (d9 d.len (fu ?_));rw[o,show decide (((2:Nat):Int)=2)=true from rfl];refine fi (d9 rfl (fi (d9 (ed _ _ _) (fi (d9 (a.ld 0 rfl rfl) (Ks ?_))))));rw[iY,en];obtain⟨y,z,r3⟩:=a.newF (E:=eN) (xs:=[B.cond]) (n:=1) tyInt rfl (qB F h' [B.cond]) false;have C3:=C2.since z y;refine d9 rfl (uU ?_);refine zq C3 r3 (by simp) (λw N=>by obtain rfl:=wAW.1 N;exact r) (d9 rfl ?_);exact H _ _ (e.trans z) y.tail
 ·refine fk (if_f (by omega) ?_);refine fk (if_f (by omega) ?_);refine fk (if_t (by omega) ?_);refine oF (a.ld 0 rfl rfl) (d9 d.len (fu ?_));rw[o,show decide ((([]:List Nat).length:Int)=0)=true from rfl];refine fi (d9 (ed _ _ _) (fi (d9 (a.ld 0 rfl rfl) (fi (d9 rfl (fi (d9 (fc _ _) (fi (d9 (ed _ _ _) (fi (d9 (ed _ _ _) (fi (d9 (C2.ld 4 rfl) (fi (d9 C2.u.s.len (uU ?_))))))))))))))));refine r0 ⟨wAF _,?_⟩;rw[wBF r];exact d9 rfl (H _ _ e a.tail)
theorem JW (g:Good u)(C:Ck F h cs lc u vv vb vs bl pl idm){i:Nat}{B:Bk}(I:u.blocks[i]? =some B)(H:∀F' h',Sn F h F' h'->Hold F' h' cs->Q (.bool true) h'):cP CS iW [.ptr lc 0,.int .i64 i] h Q:=by
 refine zA rfl rfl ?_;unfold tQ;have nv:=g.nv;have nb:=g.nb;have r2:∀p d,Sn F h p d->Hold p d cs->i0 CS Q (.ptr lc 0) (.int .i64 i) d:=by
  intro p d q J;have C1:=C.since q J;refine wA ?_;unfold qT;obtain⟨l7,o7,bv,bn,bp,_,i1,i2,iv,r,ip,_⟩:=C1.u.blk I;refine d9 (fc _ _) (d9 (ed _ _ _) (oF (C1.ld 3 rfl) (d9 i1 (d9 i2 ?_))));refine fU C1.H rfl rfl (by simp only[bkC,ee,iv.one,r.one,ip.one];rfl) λK L M=>?_;have C2:=C1.cons M L;have r:=r.since M;refine oF (L.ld 0 rfl rfl) (d9 r.len ?_);have am:B.next.length<=2:=by
   rcases g.fin i B I with⟨_,h⟩|⟨_,h,_⟩|⟨_,h,_⟩
   ·omega
   ·omega
   ·rw[h];simp
  refine wO (λk s x7 t w y h'=>∃j:Nat,s = .ptr lc 0/\x7 = .ptr d.next 0/\t=bn/\w = .int .i64 B.next.length/\y = .int .i64 (j:Nat)/\j+k=B.next.length/\h' = K) ?_ (k:=B.next.length) ⟨0,rfl,rfl,rfl,rfl,rfl,by omega,rfl⟩;rintro k s x7 t w y h' ⟨j,rfl,rfl,rfl,rfl,rfl,hk,rfl⟩;unfold qL;by_cases hj:j<B.next.length;rotate_left
  ·exact ltNo (H _ _ (q.trans M) L.tail)
  refine ltYes ?_;obtain⟨l8,o8,_,N,O⟩:=r.nat (wAA hj) .i64;have z:B.next[j]∈next u i:=by unfold next;rw[I];exact wAR hj
  have P:B.next[j]<u.blocks.length:=g.nx i _ z;obtain⟨n,a⟩:∃n,u.blocks[B.next[j]]? =some n:=⟨_,wAA P⟩
  obtain ⟨l9,o9,R,S,A,_,l,_,_,_,f,m⟩:=C2.u.blk a;refine d9 N (d9 O (oF (L.ld 0 rfl rfl) (d9 (fF _ _ _ _) ?_)));have e:pAnd (.bool (((B.fin:Nat):Int) == 2)) (oB (some (V.ptr lc 0)) λT=>oB (pNil T) λU=>oB (pFA 0 U) λW=>oB (pFA 3 W) λX=>oB (pLd X h') λY=>oB (some (V.int .i64 (B.next[j]:Nat))) λZ=>oB (pIx 6 Y Z) λaa=>oB (pFA 4 aa) λab=>oB (pLd ab h') λac=>oB (pLen ac) λae=>hbin .neq 3 ae (V.int .i64 1))=some (.bool false):=by
   have l1:pLd (.ptr lc (0+0+3)) h' = some vb:=C2.ld 3 rfl;have l2:pLd (.ptr l9 (o9+4)) h' = some A:=m.preds;simp only[en,fc,ed,l1,l,l2,f.len,ut,gv];congr 2;rw[wBt];intro o;simp only[wAJ,wAt,wCJ]at o;have d:=g.crit i B I (by omega) (B.next[j]) (wAR hj);rw[g.preds _ _ a,d]at o;exact o.2 rfl
  refine d9 e (st_b (if_f (by simp) ?_));exact addOne ⟨k-1,by omega,j+1,rfl,rfl,rfl,rfl,rfl,by omega,rfl⟩
 by_cases hi:i=0;rotate_left
 ·exact fk (if_f (by omega) (r2 F h (Sn.refl _ _) C.H))
 refine fk (if_t (by omega) ?_);have lA:pLdA 5 (.ptr lc 0) h=some (.agg (uC u vv vb vs)):=by
  obtain⟨j,ty,hc⟩:=C.c;rw[wK (C.H.get j hc),ve (by simp)];rfl
 refine d9 (fc _ _) (d9 (ed _ _ _) (d9 lA ?_));refine DM g C.H C.u λp d v q J r1=>?_;have lr:=r1.len;rw[wAb,wBY]at lr;refine d9 lr ?_;have C1:=C.since q J;refine wM (λk s x1 D E G h'=>∃j:Nat,s = .ptr lc 0/\x1 = .int .i64 i/\D=v/\E = .int .i64 u.blocks.length/\G = .int .i64 (j:Nat)/\j+k=u.blocks.length/\h' = d) ?_ (k:=u.blocks.length) ⟨0,rfl,rfl,rfl,rfl,rfl,by omega,rfl⟩;rintro k s x1 D E G h' ⟨j,rfl,rfl,rfl,rfl,rfl,hk,rfl⟩;unfold qw;by_cases hj:j<u.blocks.length;rotate_left
 ·exact ltNo (r2 p h' q J)
 refine ltYes ?_;obtain⟨n,a⟩:∃n,u.blocks[j]? =some n:=⟨_,wAA hj⟩
 obtain ⟨l8,o8,w8,_,N,O,j3⟩:=r1.list (i:=j) (x:=Un.ahead u j) (by simp[hj]) .i64;obtain⟨l9,o9,R,S,A,_,l,_,_,_,f,m⟩:=C1.u.blk a;have an:(Un.ahead u j).length<=700:=by
  rw[<-jO];have:=jR g (i:=u.blocks.length) (j:=0) (b:=j) (wAF _) (by omega);omega
 rw [g.preds j n a]at f;refine d9 N (d9 O (d9 (fc _ _) (d9 (ed _ _ _) (oF (C1.ld 3 rfl) (d9 l (oF m.preds ?_))))));refine Im j3 f (by omega) (d9 rfl ?_);have e:pOr (.bool (!true)) (oB (some (V.int .i64 j)) λag=>oB (hbin .eql 3 ag (V.int .i64 0)) λah=>oB (some ah) λai=>pAnd ai (oB (some w8) λaj=>oB (pLen aj) λal=>hbin .gtr 3 al (V.int .i64 0)))=some (.bool false):=by
  simp only[wCC,jC,en,fF,j3.len,kK,gv];congr 2;rw[wBt];intro o;simp only[wAJ,wAt,wAe]at o;obtain⟨d,K⟩:=o;obtain rfl:j=0:=by omega
  rw[g.preds0]at K;simp at K
 refine d9 e (st_b (if_f (by simp) ?_));exact addOne ⟨k-1,by omega,j+1,rfl,rfl,rfl,rfl,rfl,by omega,rfl⟩
end
open Go.Proofs.YtpnddokajmjpbaaDoor.Un Go.Proofs.YtpnddokajmjpbaaDoor.Dm
section
variable{F F':Nat->Prop}{h h':Hp}{cs:List Pc}{Q:QP1}{u:U}{vv vb vs:V}
theorem Hold.stF {α:Type}{E:Enc α}{ty:Nat}{xs:List α}{v:V}(H:Hold F h cs)(i:Nat)(hi:cs[i]? =some (rowP E ty xs v)){k j:Nat}{y:α}{a:V}(c:k<xs.length)(d:j<E.sz)(e:a.one=true)(f:∀w,E.rel F h xs[k] w->E.rel F h y (w.set j a)) :
  ∃l h',pIx E.sz v (.int .i64 k)=some (.ptr l (k*E.sz))/\pSt 1 (.ptr l (k*E.sz+j)) a h=some (.val .undef h')/\h.next<=h'.next/\Hold F h' (cs.set i (rowP E ty (xs.set k y) v))/\Sn F h F h':=by
 obtain⟨t,h',o,g,m,n,b⟩:=(H.row i hi).store (k:=j) (y:=y) (u:=a) c d e f;exact⟨t,h',g,m,b.next,H.turn' hi b n λ_ h=> .inl h⟩
theorem Hold.natR {ty:Nat}{xs:List Nat}{v:V}(H:Hold F h cs)(i:Nat)(hi:cs[i]? =some (rowP eN ty xs v)){k x:Nat}(a:xs[k]? =some x)(kd:IntKind):∃l o,pIx 1 v (.int kd (k:Nat))=some (.ptr l o)/\pLd (.ptr l o) h=some (.int .i64 x):=by
 obtain⟨l,o,_,b,c⟩:=(H.row i hi).read.nat a kd;exact⟨l,o,b,c⟩
theorem Hold.intR {ty:Nat}{xs:List Int}{v:V}(H:Hold F h cs)(i:Nat)(hi:cs[i]? =some (rowP eZ ty xs v)){k:Nat}{x:Int}(a:xs[k]? =some x)(kd:IntKind):∃l o,pIx 1 v (.int kd (k:Nat))=some (.ptr l o)/\pLd (.ptr l o) h=some (.int .i64 x):=by
 obtain⟨l,o,_,b,c⟩:=(H.row i hi).read.int a kd;exact⟨l,o,b,c⟩
theorem Hold.boolR {ty:Nat}{xs:List Bool}{v:V}(H:Hold F h cs)(i:Nat)(hi:cs[i]? =some (rowP eB ty xs v)){k:Nat}{x:Bool}(a:xs[k]? =some x)(kd:IntKind):∃l o,pIx 1 v (.int kd (k:Nat))=some (.ptr l o)/\pLd (.ptr l o) h=some (.bool x):=by
 obtain⟨l,o,_,b,c⟩:=(H.row i hi).read.bool a kd;exact⟨l,o,b,c⟩
theorem ET {ty:Nat}{xs:List Nat}{v:V}(m:Hold F h (rowP eN ty xs v::cs))(h0:0<xs.length)(R:xs.length<1000000)(H:∀h',Sn F h F h'->Hold F h' (rowP eN ty xs.reverse v::cs)->Q (.tuple []) h') :
  cP CS gY [v] h Q:=by
 refine uf rfl rfl ?_;unfold mO;refine d9 (m.len 0 rfl) (qt (by omega) h0 ?_)
 refine rU (λk n o q h'=>∃(i:Nat) (ys:List Nat),n=v/\o = .int .i64 i/\q = .int .i64 ((xs.length-1-i:Nat):Int)/\i+k=xs.length/\2*i<=xs.length/\ys.length=xs.length/\
  (∀p,p<xs.length->ys[p]? =if p<i\/xs.length-i<=p then xs[xs.length-1-p]? else xs[p]?)/\Sn F h F h'/\Hold F h' (rowP eN ty ys v::cs)) ?_ (k:=xs.length)
  ⟨0,xs,rfl,rfl,by rw[Nat.sub_zero],by omega,by omega,rfl,λp f=>by rw[if_neg (by omega)],Sn.refl _ _,m⟩
 rintro k n o q B ⟨i,ys,rfl,rfl,rfl,S,C,D,f,r,g⟩;unfold kE;by_cases hij:i<xs.length-1-i
 ·refine ltYes ?_;obtain⟨a,s⟩:∃a,ys[i]? =some a:=⟨_,wAA (by omega)⟩
  obtain⟨b,t⟩:∃b,ys[xs.length-1-i]? =some b:=⟨_,wAA (by omega)⟩
  obtain⟨l1,T,E,G⟩:=g.natR 0 rfl t .i64;obtain⟨l2,U,I,J⟩:=g.natR 0 rfl s .i64;refine d9 E (d9 G (d9 I (d9 J ?_)));obtain⟨l3,W,X,j,l,K,w,L⟩:=g.stR 0 rfl (k:=i) (y:=b) (u:=V.int .i64 b) (by omega) rfl rfl rfl;refine d9 j ?_;rw[l,ec];simp only[wAC]at w;obtain⟨l4,Y,Z,M,N,O,x,P⟩:=w.stR 0 rfl (k:=xs.length-1-i) (y:=a) (u:=V.int .i64 a) (by simp;omega) rfl rfl rfl;refine⟨K,d9 M ?_⟩;rw[N,ec];simp only[wAC]at x;refine⟨O,addOne (qt (by omega) (by omega) ?_)⟩;refine⟨k-1,by omega,i+1,(ys.set i b).set (xs.length-1-i) a,rfl,rfl,by rw[show xs.length-1-(i+1)=xs.length-1-i-1 by omega],by omega,by omega,by simp[D],λp d=>?_,(r.trans L).trans P,x⟩;have z:=f i (by omega);rw[if_neg (by omega),s]at z;have A:=f (xs.length-1-i) (by omega);rw[if_neg (by omega),t]at A;by_cases j:p=xs.length-1-i
  ·subst j;rw[wAK (by simp;omega),if_pos (by omega),show xs.length-1-(xs.length-1-i)=i by omega];exact z
  ·rw [wAN λh=>j h.symm];by_cases l:p=i
   ·subst l;rw[wAK (by omega),if_pos (by omega)];exact A
   ·rw[wAN λh=>l h.symm,f p d];by_cases c:p<i\/xs.length-i<=p
    ·rw[if_pos c,if_pos (by omega)]
    ·rw[if_neg c,if_neg (by omega)]
 ·refine ltNo ?_;have e:ys=xs.reverse:=by
   refine wBs λp=>?_;by_cases d:p<xs.length
   ·rw[f p d,List.getElem?_reverse d];by_cases c:p<i\/xs.length-i<=p
    ·rw[if_pos c]
    ·rw[if_neg c,show xs.length-1-p=p by omega]
   ·rw[wAh (by omega),wAh (by simp;omega)]
  subst e;exact H B r g
theorem Hm{α:Type}(s:List α)(x y:α):(s++[x]).set s.length y=s++[y]:=by simp
structure Walk (u:U):Prop where
 nb0:1<=u.blocks.length
 nb:u.blocks.length<=300
 nx:∀(b:Nat),∀t∈next u b,t<u.blocks.length
 two:∀(b:Nat) (B:Bk),u.blocks[b]? =some B->B.next.length<=2
theorem Co (g:Good u):Walk u:=⟨g.nb0,g.nb,g.nx,λb B a=>by
 rcases g.fin b B a with⟨_,h⟩|⟨_,h,_⟩|⟨_,h,_⟩
 ·omega
 ·omega
 ·rw[h];simp⟩
theorem SlR.blk {bs:List Bk}(a:SlR eK F h bs vb){i:Nat}{x:Bk}(c:bs[i]? =some x) :
  ∃l o v n p,F l/\pIx 6 vb (.int .i64 i)=some (.ptr l o)/\pLdA 6 (.ptr l o) h=some (.agg (bkC x v n p))/\SlR eN F h x.vals v/\SlR eN F h x.next n/\SlR eN F h x.preds p/\BkAt h l o x v n p:=by
 obtain⟨hi,rfl⟩:=wAB.1 c;obtain⟨l,o,w,d,e,f,⟨v,n,p,rfl,g,j,k⟩,b⟩:=a.ix hi .i64;exact⟨l,o,v,n,p,d,e,f,g,j,k,⟨b 0 _ rfl,b 1 _ rfl,b 2 _ rfl,b 3 _ rfl,b 4 _ rfl,b 5 _ rfl⟩⟩
theorem Ce (g:Walk u)(H0:Hold F h cs)(ho:allOne (uC u vv vb vs)=true)(Z:SlR eK F h u.blocks vb)(H:∀h' v seen post,Sn F h F h'->Hold F h' (rowP eN tyInt post.reverse v::cs)->Go_ u.blocks.length (next u) seen post []->Q v h') :
  cP CS kI [.agg (uC u vv vb vs)] h Q:=by
 refine DG rfl rfl ?_;unfold Ax;have nb:=g.nb;have nb0:=g.nb0;have C:∀b,b<u.blocks.length->∀t∈next u b,t<u.blocks.length:=λb _ t A=>g.nx b t A
 refine kh H0 ho λD H1 s1=>?_;refine oF (H1.ld 0 rfl rfl) (d9 (Z.since s1).len ?_);rw[gh (z:=V.bool false) rfl (by decide) (by omega),ev];obtain⟨H2,s2⟩:=H1.make (E:=eB) (ty:=tyBool) (y:=false) (u:=V.bool false) u.blocks.length rfl rfl;have I:=s1.trans s2;refine oF (H2.ld 1 rfl rfl) (d9 (Z.since I).len ?_);refine tS (if_t (by omega) ?_);refine d9 (show _=some (V.agg [.int .i64 0,.int .i64 0]) from rfl) ?_;generalize D.new (.cells tyBool 1 true false (List.replicate u.blocks.length (V.bool false)))=h2 at*;have J:∀a b:Nat,pBS tyVisit 2 1 (V.agg [(V.int .i64 0),(V.int .i64 0)]) [(0,V.agg [.int .i64 (a:Nat),.int .i64 (b:Nat)])]=some (.cells tyVisit 2 true false [.int .i64 (a:Nat),.int .i64 (b:Nat)],λl=> .slice l 0 1):=λa b=>lD rfl rfl rfl;have aa:pBS tyVisit 2 1 (V.agg [(V.int .i64 0),(V.int .i64 0)]) [(0,V.agg [.int .i64 0,.int .i64 0])]=some (.cells tyVisit 2 true false [.int .i64 ((0:Nat):Int),.int .i64 ((0:Nat):Int)],λl=> .slice l 0 1):=J 0 0;rw[aa,ev]
 have H3:Hold F h2 (rowP eW tyVisit [] .nilSlice::rowP eN tyInt [] .nilSlice::rowP eB tyBool (List.replicate u.blocks.length false) (.slice D.next 0 u.blocks.length)::cellP h.next 30 (uC u vv vb vs)::cs):=
  (H2.add (p:=rowP eN tyInt [] .nilSlice) .nil λ_ h=>h).add (p:=rowP eW tyVisit [] .nilSlice) .nil λ_ h=>h
 obtain⟨v4,h4,e4,n4,H4,s4⟩:=H3.app1 0 rfl (by_:=16) (ety:=tyVisit) (y:=(0,0)) (w:=[.int .i64 ((0:Nat):Int),.int .i64 ((0:Nat):Int)]) (ro:=false) rfl (by decide) (by decide) (by simp);have ab:happend 144 2 16 V.nilSlice (.slice h2.next 0 1) (h2.new (.cells tyVisit 2 true false [.int .i64 ((0:Nat):Int),.int .i64 ((0:Nat):Int)]))=some (.val v4 h4):=e4;rw[ab,ec];simp only[wAC,wAl]at H4;obtain⟨l5,o5,h5,e5,e6,n5,H5,s5⟩:=H4.stR 2 rfl (k:=0) (y:=true) (u:=V.bool true) (by simp;omega) rfl rfl rfl;refine d9 e5 ?_;rw[e6,ec];simp only[wAE,wAC]at H5;refine AW ?_;unfold xi;have ac:=(I.trans s4).trans s5
 refine A7 (λk x1 x3 x4 K h'=>∃(seen:List Bool) (post:List Nat) (stack:List (Nat×Nat)),x1 = .ptr h.next 0/\x3 = .slice D.next 0 u.blocks.length/\k=mu u.blocks.length (next u) seen stack/\Go_ u.blocks.length (next u) seen post stack/\Sn F h F h'/\
  Hold F h' (rowP eW tyVisit stack K::rowP eN tyInt post x4::rowP eB tyBool seen (.slice D.next 0 u.blocks.length)::cellP h.next 30 (uC u vv vb vs)::cs)) ?_ (k:=mu u.blocks.length (next u) ((List.replicate u.blocks.length false).set 0 true) [(0,0)])
  ⟨_,[],[(0,0)],rfl,rfl,rfl,Go_.start (by omega) C,ac,H5⟩
 rintro k x1 x3 x4 K h6 ⟨seen,post,stack,rfl,rfl,hk,G,L,e⟩;unfold wJ;have M:=G.nodup;have aC:post.length<=u.blocks.length:=iy _ _ (wBM.1 M).1 G.pre;have ae:stack.length<=u.blocks.length:=by
  have:=iy u.blocks.length _ (wBM.1 M).2.1 λx hx=>by
   obtain⟨y,hy,rfl⟩:=wBH.1 hx;exact(G.range y hy).1
  simpa using this
 refine d9 (e.len 0 rfl) ?_;rcases hX stack with rfl|⟨s,⟨b,i⟩,rfl⟩
 ·refine tS (if_f (by simp) ?_);have ag:0<post.length:=by
   obtain⟨p,hp⟩:=G.last rfl;rw[hp];simp
  refine ET e.tail ag (by omega) λh7 U f=>?_;exact H _ _ seen post (L.trans U) f.drop1.drop1 G
 have aB:s.length+1<=u.blocks.length:=by simpa using ae
 refine tS (if_t (by simp <;> omega) ?_);have hlen:(s++[(b,i)]).length-1=s.length:=by simp
 have m:s.length<(s++[(b,i)]).length:=by simp
 have N:(s++[(b,i)])[s.length]'m=(b,i):=by simp
 obtain⟨ah,ai⟩:=G.range (b,i) (by simp);obtain⟨B,hB⟩:∃B,u.blocks[b]? =some B:=⟨_,wAA ah⟩
 have d:next u b=B.next:=by unfold next;rw[hB]
 simp only[d]at ai;refine d9 (e.len 0 rfl) (qt (by omega) (by simp) ?_);rw[hlen];obtain⟨l7,h7,W,e8,n7,f,U⟩:=e.stF 0 rfl (k:=s.length) (j:=1) (y:=(b,i+1)) (a:= .int .i64 ((i+1:Nat):Int)) m (by decide) rfl (λw X=>by
  rw[N]at X;have X:w=[.int .i64 b,.int .i64 i]:=X;subst X;rfl)
 have W:pIx 2 K (.int .i64 s.length)=some (.ptr l7 (s.length*2)):=W;obtain⟨l8,o8,w8,Y,i2,i3,i4⟩:=e.ix 0 rfl m .i64;rw[N]at i3;obtain rfl:w8=[.int .i64 b,.int .i64 i]:=i3;have Y:pIx 2 K (.int .i64 s.length)=some (.ptr l8 o8):=Y;rw[W]at Y;obtain⟨rfl,rfl⟩:l7=l8/\s.length*2=o8:=by
  have:=Option.some.inj Y;cases this;exact⟨rfl,rfl⟩
 have ib:=i4 0 _ rfl;have ii:=i4 1 _ rfl;obtain⟨lb,ob,bv,bn,bp,_,b1,b2,iv,iN,ip,ba⟩:=(Z.since L).blk hB;refine d9 W (oF (e.ld 3 rfl rfl) (oN ib (d9 b1 (oF ba.next ?_))));refine oN ii (d9 iN.len ?_);by_cases hi:i=B.next.length
 ·refine fk (if_t (by omega) ?_);refine oN ib ?_;rw[iY,ev];obtain⟨v9,h9,e9,n9,H9,s9⟩:=e.app1 1 rfl (by_:=8) (ety:=3) (y:=b) (w:=nats [b]) (ro:=false) rfl (by decide) (by decide) (by omega);have aj:happend 3 1 8 x4 (.slice h6.next 0 1) (h6.new (.cells 3 1 true false (nats [b])))=some (.val v9 h9):=e9;rw[aj,ec];simp only[wAE,wAC]at H9;refine d9 (H9.len 0 rfl) (qt (by omega) (by simp) ?_);rw[hlen];obtain⟨aD,o,c⟩:=H9.cutR 0 rfl (n:=s.length) (by simp);refine d9 o ?_;simp only[wAC]at c;have et:(s++[(b,i)]).take s.length=s:=by simp
  rw[et]at c;exact⟨_,by rw[hk];exact JS,seen,post++[b],s,rfl,rfl,rfl,G.pop (by rw[d];exact hi),L.trans s9,c⟩
 refine fk (if_f (by omega) ?_);have r:i<B.next.length:=by omega
 have aE:B.next.length<=2:=g.two b B hB;have A:(next u b)[i]? =some B.next[i]:=by rw[d];exact wAA r
 have al:B.next[i]<u.blocks.length:=g.nx b _ (by rw[d];exact wAR r);obtain⟨l9,o9,_,j1,j2⟩:=iN.nat (wAA r) .i64;refine oN ii (d9 j1 (d9 j2 ?_));refine oN ii (addOne ?_);refine d9 (fc _ _) (d9 (ed _ _ _) ?_);have e8:pSt 1 (.ptr l7 (s.length*2+1)) (.int .i64 ((i+1:Nat):Int)) h6=some (.val .undef h7):=e8;rw[e8,ec];simp only[wAC,Hm]at f;have am:seen.length=u.blocks.length:=G.len;have O:=f.len 2 (xs:=seen) rfl;rw[am]at O;refine d9 O (r0 ?_);rw[wBF al];obtain⟨q,hq⟩:∃q,seen[B.next[i]]? =some q:=⟨_,wAA (show B.next[i]<seen.length by omega)⟩
 obtain ⟨lq,oq,q1,q2⟩:=f.boolR 2 rfl hq .i64;have ea:pAnd (.bool true) (oB (some (V.slice D.next 0 u.blocks.length)) λan=>oB (some (V.int .i64 (B.next[i]:Nat))) λao=>oB (pIx 1 an ao) λap=>oB (pLd ap h7) λaq=>hun .not aq)=some (.bool (!q)):=by
  simp only[rX,en,q1,q2,Jd]
 refine d9 ea (st_b ?_)
 cases q with
 | true=>
   refine if_f (by simp) ?_
   exact⟨_,by rw[hk];exact Js A,seen,post,s++[(b,i+1)],rfl,rfl,rfl,G.skip A hq,L.trans U,f⟩
 | false=>
   refine if_t rfl ?_;have P:¬isSeen seen B.next[i]:=by unfold isSeen;rw[hq];simp
   obtain⟨l10,aF,R,o,ar,aG,c,au⟩:=f.stR 2 rfl (k:=B.next[i]) (y:=true) (u:=V.bool true) (by omega) rfl rfl rfl;refine d9 o ?_;rw[ar,ec];simp only[wAE,wAC]at c;refine d9 (show _=some (V.agg [.int .i64 (B.next[i]:Nat),.int .i64 ((0:Nat):Int)]) from rfl) ?_;rw[J,ev];obtain⟨aw,ax,ay,aH,S,aA⟩:=c.app1 0 rfl (by_:=16) (ety:=tyVisit) (y:=(B.next[i],0)) (w:=[.int .i64 (B.next[i]:Nat),.int .i64 ((0:Nat):Int)]) (ro:=false) rfl (by decide) (by decide) (by simp;omega);have T:happend 144 2 16 K (.slice R.next 0 1) (R.new (.cells tyVisit 2 true false [.int .i64 (B.next[i]:Nat),.int .i64 ((0:Nat):Int)]))=some (.val aw ax):=ay;rw[T,ec];simp only[wAC]at S;exact⟨_,by rw[hk];exact IX G A P,_,post,s++[(b,i+1)]++[(B.next[i],0)],rfl,rfl,rfl,G.push A P,((L.trans U).trans au).trans aA,S⟩
theorem DT (g:Good u)(c:Hold F h cs)(a:URd F h u vv vb vs)(H:∀F' h' v seen post,Sn F h F' h'->Hold F' h' cs->Go_ u.blocks.length (next u) seen post []->SlR eN F' h' post.reverse v->Q v h') :
  cP CS kI [.agg (uC u vv vb vs)] h Q:=
 Ce (Co g) c a.one a.b λh' v seen post d e G=>by
  obtain⟨f,i,r2⟩:=e.freezeR 0 rfl;exact H _ _ v seen post (d.trans i) f.tail G r2
end
