/- Parts. -/
import Derived.Test.YtpnddokajmjpbaaDoorM25
namespace Go.Proofs.YtpnddokajmjpbaaDoor.Hx
open Go.Proofs.YtpnddokajmjpbaaDoor.Un Go.Proofs.YtpnddokajmjpbaaDoor.Dm
theorem SI (h:Hp):∀op:Nat,1<=op->op<=23->∃s,s≠[]/\CS.K Ci [.int .i64 (op:Nat)] h=some (.str s)
 |0,h,_=>by omega
 |1,_,_=>⟨_,by decide,rfl⟩
 |2,_,_=>⟨_,by decide,rfl⟩
 |3,_,_=>⟨_,by decide,rfl⟩
 |4,_,_=>⟨_,by decide,rfl⟩
 |5,_,_=>⟨_,by decide,rfl⟩
 |6,_,_=>⟨_,by decide,rfl⟩
 |7,_,_=>⟨_,by decide,rfl⟩
 |8,_,_=>⟨_,by decide,rfl⟩
 |9,_,_=>⟨_,by decide,rfl⟩
 |10,_,_=>⟨_,by decide,rfl⟩
 |11,_,_=>⟨_,by decide,rfl⟩
 |12,_,_=>⟨_,by decide,rfl⟩
 |13,_,_=>⟨_,by decide,rfl⟩
 |14,_,_=>⟨_,by decide,rfl⟩
 |15,_,_=>⟨_,by decide,rfl⟩
 |16,_,_=>⟨_,by decide,rfl⟩
 |17,_,_=>⟨_,by decide,rfl⟩
 |18,_,_=>⟨_,by decide,rfl⟩
 |19,_,_=>⟨_,by decide,rfl⟩
 |20,_,_=>⟨_,by decide,rfl⟩
 |21,_,_=>⟨_,by decide,rfl⟩
 |22,_,_=>⟨_,by decide,rfl⟩
 |23,_,_=>⟨_,by decide,rfl⟩
 |n+24,_,h=>by omega
theorem zau{h:Hp}{X:Option (V×Hp)}{K:fx}(H:oP X λy=>K y.1 y.2):oP (fO true (.bool true)) λb=>ghP b h X K:=H
section
variable{F F':Nat->Prop}{h h':Hp}{cs:List Pc}{Q:fx}{u:U}{vv vb vs:V}{lc:Nat}{bl pl DD:V}
theorem V5 {op:Nat}(a:1<=op)(b:op<=23)(H:∀s,s≠[]->Q (.str s) h):cP CS Ci [.int .i64 op] h Q:=by
 obtain⟨fn,c,d,hb⟩:=Oh;obtain⟨s,hs,e⟩:=SI h op a b;exact cP.known d hb e rfl rfl (H s hs)
theorem NM {b:Nat}{x:Vl}{w v:V}{ys:List Vl}(B:ei F h (eo b gy (ll x w)::cs))(q:ik eV F h ys v)(K:ys.length<1000000)(g:∀y∈ys,¬(y.op=1/\y.n=x.n))
  (H:∀h',Sn F h F h'->ei F h' (eo b gy (ll x w)::cs)->Q (.bool false) h'):cP CS gP [v,.func je [] [.ptr b 0]] h Q:=by
 refine pY rfl rfl ?_;unfold kN;refine sN rfl rfl ?_;unfold lM;refine ed q.len ?_
 refine pZ (λk r s t u h'=>∃i:Nat,r=v/\s = .func je [] [.ptr b 0]/\t = .int .i64 ys.length/\u = .int .i64 (i:Nat)/\i+k=ys.length/\Sn F h F h'/\ei F h' (eo b gy (ll x w)::cs)) ?_ (k:=ys.length)
  ⟨0,rfl,rfl,rfl,rfl,by omega,Sn.refl _ _,B⟩
 rintro k r s t u h' ⟨i,rfl,rfl,rfl,rfl,L,j,z⟩;unfold kO;by_cases hi:i<ys.length;rotate_left
 ·refine iC ?_;refine ed (mY _ _ _ _) ?_;exact H h' j z
 refine gw ?_;obtain⟨l,o,c,_,C,D,⟨a,rfl,E⟩,_⟩:=(q.since j).ix hi .i64;refine ed C (ed D ?_);show cP CS je [.agg (ll ys[i] a),.ptr b 0] h' _;refine Es rfl rfl ?_;unfold xo;refine mf z (by simp only[ll,eJ,E.one];rfl) λd f G=>?_;refine oF (f.ld 0 rfl rfl) (ed (iA _ _ _ _) ?_);have e:jK (.bool (((ys[i].op:Nat):Int) == 1)) (oB (fH 3 (.ptr h'.next 0)) λI=>oB (ev I d) λJ=>oB (fH 3 (.ptr b 0)) λm=>oB (ev m d) λp=>er .eql 2 J p)=some (.bool false):=by
  have l1:ev (.ptr h'.next (0+3)) d=some (.int .i64 ys[i].n):=f.ld 0 rfl rfl;have l2:ev (.ptr b (0+3)) d=some (.int .i64 x.n):=f.ld 1 rfl rfl;simp only[ez,fh,l1,l2,iA,ji];congr 2;rw[Y1];intro A;simp only[tN,CN]at A;exact g _ (AO hi) ⟨by omega,A.2⟩
 refine ed e (jH (gG (by simp) ?_));exact fM ⟨k-1,by omega,i+1,rfl,rfl,rfl,rfl,by omega,j.trans G,f.tail⟩
theorem Va {a:Nat}{x:Vl}{w:V}{a0:V}(b:a0 = .ptr lc 0)(C:Ck F h (eo a gy (ll x w)::cs) lc u vv vb vs bl pl DD)(H:leaves x.op=true->x.state<u.eh.length)(hc:a≠lc)(I:ev (.ptr a 5) h=some (.int .i64 x.state)){K:fx}(E:K (.bool false) h) :
  oP (fO true (.bool (leaves x.op))) λc=>
  oP (gV c (fH 5 (.ptr a 0))) λd=>
  oP (fO true (.bool (leaves x.op))) λe=>
  oP (gV e (ev d h)) λf=>
  oP (fO true (.bool (leaves x.op))) λg=>
  oP (gV g (some a0)) λi=>
  oP (fO true (.bool (leaves x.op))) λj=>
  oP (gV j (iq i)) λk=>
  oP (fO true (.bool (leaves x.op))) λl=>
  oP (gV l (fH 0 k)) λm=>
  oP (fO true (.bool (leaves x.op))) λn=>
  oP (gV n (fH 4 m)) λo=>
  oP (fO true (.bool (leaves x.op))) λp=>
  oP (gV p (ev o h)) λq=>
  oP (fO true (.bool (leaves x.op))) λr=>
  oP (gV r (fD q)) λt=>
  oP (fO true (.bool (leaves x.op))) λv=>
  oP (gC v (some (jJ,[f,t]))) λy=>wR CS y h λz G=>
  (h.next<=G.next/\
  oP (fO true (.bool (leaves x.op))) λA=>
  oP (gV A (sr .not z)) λB=>
  oP (pN (.bool false) (lJ (.bool (leaves x.op)) B (V.bool false))) λD=>K D G):=by
 subst b
 cases hq:leaves x.op with
 | true=>
   have:=H hq;refine fY (ed (ez _ _ _) (fY (ed I (fY (ed rfl (fY (ed (fT _ _) (fY (ed (ez _ _ _) (fY (ed (ez _ _ _) (fY (ed (C.ld 4 rfl) (fY (ed C.u.s.len (zR ?_))))))))))))))));refine yH ⟨iW _,fY ?_⟩;rw[I9 this]
   exact ed rfl (ed rfl E)
 |false=>exact gz (gz (gz (gz (gz (gz (gz (gz (Cr ⟨iW _,gz (ed rfl E)⟩))))))))
theorem Yv (g:Good u)(C:Ck F h cs lc u vv vb vs bl pl DD){xs ys:List Int}(z:ik eZ F h xs bl)(S:Std u u.blocks.length 0 xs ys){i:Nat}(hi:i<u.ee.length)(T:lc<h.next)
  (H:∀F' h',Sn F h F' h'->ei F' h' cs->Q (.bool true) h'):cP CS jG [.ptr lc 0,.int .i64 i] h Q:=by
 refine Gu rfl rfl ?_;unfold uQ;have nv:=g.nv;have nb:=g.nb;obtain⟨x,hx⟩:∃x,u.ee[i]? =some x:=⟨_,gQ hi⟩
 obtain ⟨b,k,f⟩:=g.AB i hi;obtain⟨B,o,hk⟩:=id f;have p:=g.op i x hx;have q:=g.use i x hx;have A:B.fe.length<=700:=by
  rw[g.fe b B o,<-nM];have:=nK g (i:=u.blocks.length) (j:=0) (b:=b) (iW _) (by omega);omega
 have c:x.op=21\/x.op=20->x.args.length<=700:=by
  rintro(D|D)
  ·rw[(g.IE _ _ _ _ _ f hx D o).2];exact A
  ·rw[g.putAt i x hx D];omega
 obtain⟨l1,o1,w,_,U,W,O,_⟩:=C.u.val hx;refine ed (fT _ _) (ed (ez _ _ _) (oF (C.ld 2 rfl) (ed U (ed W ?_))));refine iK C.H rfl rfl (by simp only[ll,eJ,O.one];rfl) λh2 t E=>?_;have C2:=C.cons E t;have l:=O.since E;refine oF (t.ld 0 rfl rfl) ?_;refine V5 p.1 p.2 λs hs=>⟨iW _,?_⟩
 refine ed (Tg _ _ _) ?_;rw[show(s == [])=false from Tw.2 hs];refine fK (ed rfl (fK (ed (t.wH 0 rfl rfl) (xi ?_))));refine Nb t l (λh=>by have:=c h.symm.symm;omega) λF3 P v r a r3=>⟨r.next,?_⟩
 have C3:=C2.since r a;have d:=E.trans r;refine xi (Ga C3 r3 (by have:=GM c;omega) q ⟨iW _,ed rfl ?_⟩);refine fK (ed (ez _ _ _) (fK (ed (a.ld 0 rfl rfl) (xi ?_))));refine HP ⟨iW _,fK (ed rfl ?_)⟩;refine Va rfl C3 (g.leave i x hx) (by omega) (a.ld 0 rfl rfl) ?_;refine jH (gG (by simp) ?_);refine oF (a.ld 0 rfl rfl) ?_;by_cases G:x.op=20
 ·refine gO (ig (by omega) ?_);refine oF (a.ld 0 rfl rfl) (ed (l.since r).len (gX ?_));rw[g.putAt i x hx G];exact H _ _ d a.tail
 refine gO (gG (by omega) ?_);by_cases I:x.op=21
 ·refine gO (ig (by omega) ?_);obtain⟨lb,ob,_,b1,b2⟩:=(z.since d).int ((S.yes i b k f (.inl (iB.1 o).1)).1) .i64;obtain⟨l7,o7,bv,bn,bp,_,J,_,_,_,ip,X⟩:=C3.u.mS o;refine oF (a.ld 0 rfl rfl) (ed (l.since r).len ?_);refine ed (fT _ _) (ed (ez _ _ _) (oF (C3.ld 3 rfl) (oN (C3.ld 5 rfl) (ed b1 (ed b2 (ed J ?_))))));refine oF X.fe (ed ip.len (gX ?_));rw[(g.IE _ _ _ _ _ f hx I o).2,I9 rfl];exact H _ _ d a.tail
 refine gO (gG (by omega) ?_);by_cases Y:x.op=1
 ·refine gO (ig (by omega) ?_);obtain⟨Z,p2,p3⟩:=g.param i x hx Y;refine oF (a.ld 0 rfl rfl) (ed (mY _ _ _ _) ?_);have e:jK (.bool (decide ((0:Int)<=x.n))) (oB (fH 3 (.ptr h.next 0)) λK=>oB (ev K P) λL=>er .lss 2 L (V.int .i64 40))=some (.bool true):=by
   have l1:ev (.ptr h.next (0+3)) P=some (.int .i64 x.n):=a.ld 0 rfl rfl;simp only[ez,fh,l1,om,ji];simp[Z,p2]
  refine ed e ?_;obtain⟨vc,e1,r1⟩:=C3.u.v.cut (lo:=none) (hi:=some (.int .i64 i)) (m:=0) (n:=i) rfl (Eg _ _ _) (Gl _) (by omega);rw[Ss]at r1;refine fY (ed rfl (fY (ed (fT _ _) (fY (ed (ez _ _ _) (fY (ed (ez _ _ _) (fY (ed (C3.ld 2 rfl) (fY (ed rfl (fY (ed e1 (fY (ed rfl (zR ?_))))))))))))))));refine NM a r1 (by rw[FY];omega) (λy hy R=>?_) λh4 s4 H4=>ed rfl (H _ _ (d.trans s4) H4.tail);obtain⟨j,M⟩:=mA.1 hy;have N:j<i:=by
   have:=(iB.1 M).1;rw[FY]at this;omega
  rw[VF N]at M;have:=p3 j y M R.1 R.2;omega
 ·refine gO (gG (by omega) ?_);exact H _ _ d a.tail
theorem W1 (g:Good u)(C:Ck F h cs lc u vv vb vs bl pl DD){i:Nat}{B:Bk}(p:u.blocks[i]? =some B)(H:∀F' h',Sn F h F' h'->ei F' h' cs->Q (.bool true) h'):cP CS lU [.ptr lc 0,.int .i64 i] h Q:=by
 refine Fc rfl rfl ?_;unfold yF;have c:=g.fin i B p;have nv:=g.nv;have nb:=g.nb;obtain⟨l7,O,P,A,R,_,D,G,I,d,ip,_⟩:=C.u.mS p;refine ed (fT _ _) (ed (ez _ _ _) (oF (C.ld 3 rfl) (ed D (ed G ?_))));refine iK C.H rfl rfl (by simp only[kM,eJ,I.one,d.one,ip.one];rfl) λJ a e=>?_;have C2:=C.cons e a;have d:=d.since e;refine oF (a.ld 0 rfl rfl) (ed d.len ?_);have K:B.next.length<=2:=by
  rcases c with⟨_,h⟩|⟨_,h,_⟩|⟨_,h,_⟩
  ·omega
  ·omega
  ·rw[h];simp
 refine CG (λk t v f l m h'=>∃j:Nat,t = .ptr lc 0/\v = .ptr h.next 0/\f=A/\l = .int .i64 B.next.length/\m = .int .i64 (j:Nat)/\j+k=B.next.length/\h' = J) ?_ (k:=B.next.length) ⟨0,rfl,rfl,rfl,rfl,rfl,by omega,rfl⟩;rintro k t v f l m h' ⟨j,rfl,rfl,rfl,rfl,rfl,S,rfl⟩;unfold uV;by_cases hj:j<B.next.length
 ·refine gw ?_;obtain⟨l8,T,_,L,M⟩:=d.nat (gQ hj) .i64;have q:B.next[j]<u.blocks.length:=g.nx i _ (by unfold next;rw[p];exact AO hj);refine ed L (ed M (ed (fT _ _) (ed (ez _ _ _) (oF (C2.ld 3 rfl) (ed C2.u.b.len ?_)))));refine yH (pj (ig (by simpa using q) ?_));exact fM ⟨k-1,by omega,j+1,rfl,rfl,rfl,rfl,rfl,by omega,rfl⟩
 refine iC ?_;refine oF (a.ld 0 rfl rfl) ?_;rcases c with⟨x,o⟩|⟨x,o,r⟩|⟨x,o,r⟩
 ·refine gO (ig (by omega) ?_);refine oF (a.ld 0 rfl rfl) (ed d.len (gX ?_));rw[o];exact H _ _ e a.tail
 ·refine gO (gG (by omega) ?_);refine gO (ig (by omega) ?_);refine oF (a.ld 0 rfl rfl) (ed d.len (gX ?_));rw[o,show decide (((2:Nat):Int)=2)=true from rfl];refine fY (ed rfl (fY (ed (ez _ _ _) (fY (ed (a.ld 0 rfl rfl) (zau ?_))))));rw[oI,fh];obtain⟨y,z,r3⟩:=a.Wz (E:=eN) (xs:=[B.cond]) (n:=1) en rfl (wo F h' [B.cond]) false;have C3:=C2.since z y;refine ed rfl (zR ?_);refine Ga C3 r3 (by simp) (λw N=>by obtain rfl:=EB.1 N;exact r) (ed rfl ?_);exact H _ _ (e.trans z) y.tail
 ·refine gO (gG (by omega) ?_);refine gO (gG (by omega) ?_);refine gO (ig (by omega) ?_);refine oF (a.ld 0 rfl rfl) (ed d.len (gX ?_));rw[o,show decide ((([]:List Nat).length:Int)=0)=true from rfl];refine fY (ed (ez _ _ _) (fY (ed (a.ld 0 rfl rfl) (fY (ed rfl (fY (ed (fT _ _) (fY (ed (ez _ _ _) (fY (ed (ez _ _ _) (fY (ed (C2.ld 4 rfl) (fY (ed C2.u.s.len (zR ?_))))))))))))))));refine yH ⟨iW _,?_⟩;rw[I9 r];exact ed rfl (H _ _ e a.tail)
theorem Zx (g:Good u)(C:Ck F h cs lc u vv vb vs bl pl DD){i:Nat}{B:Bk}(I:u.blocks[i]? =some B)(H:∀F' h',Sn F h F' h'->ei F' h' cs->Q (.bool true) h'):cP CS mn [.ptr lc 0,.int .i64 i] h Q:=by
 refine GA rfl rfl ?_;unfold z8;have nv:=g.nv;have nb:=g.nb;have r2:∀p d,Sn F h p d->ei p d cs->my CS Q (.ptr lc 0) (.int .i64 i) d:=by
  intro p d q J;have C1:=C.since q J;refine DJ ?_;unfold wC;obtain⟨l7,o7,bv,bn,bp,_,i1,i2,iv,r,ip,_⟩:=C1.u.mS I;refine ed (fT _ _) (ed (ez _ _ _) (oF (C1.ld 3 rfl) (ed i1 (ed i2 ?_))));refine iK C1.H rfl rfl (by simp only[kM,eJ,iv.one,r.one,ip.one];rfl) λK L M=>?_;have C2:=C1.cons M L;have r:=r.since M;refine oF (L.ld 0 rfl rfl) (ed r.len ?_);have al:B.next.length<=2:=by
   rcases g.fin i B I with⟨_,h⟩|⟨_,h,_⟩|⟨_,h,_⟩
   ·omega
   ·omega
   ·rw[h];simp
  refine Dc (λk s x7 t w y h'=>∃j:Nat,s = .ptr lc 0/\x7 = .ptr d.next 0/\t=bn/\w = .int .i64 B.next.length/\y = .int .i64 (j:Nat)/\j+k=B.next.length/\h' = K) ?_ (k:=B.next.length) ⟨0,rfl,rfl,rfl,rfl,rfl,by omega,rfl⟩;rintro k s x7 t w y h' ⟨j,rfl,rfl,rfl,rfl,rfl,hk,rfl⟩;unfold wK;by_cases hj:j<B.next.length;rotate_left
  ·exact iC (H _ _ (q.trans M) L.tail)
  refine gw ?_;obtain⟨l8,o8,_,N,O⟩:=r.nat (gQ hj) .i64;have z:B.next[j]∈next u i:=by unfold next;rw[I];exact AO hj
  have P:B.next[j]<u.blocks.length:=g.nx i _ z;obtain⟨n,a⟩:∃n,u.blocks[B.next[j]]? =some n:=⟨_,gQ P⟩
  obtain ⟨l9,o9,R,S,A,_,l,_,_,_,f,m⟩:=C2.u.mS a;refine ed N (ed O (oF (L.ld 0 rfl rfl) (ed (iA _ _ _ _) ?_)));have e:jK (.bool (((B.fin:Nat):Int) == 2)) (oB (some (V.ptr lc 0)) λT=>oB (iq T) λU=>oB (fH 0 U) λW=>oB (fH 3 W) λX=>oB (ev X h') λY=>oB (some (V.int .i64 (B.next[j]:Nat))) λZ=>oB (gD 6 Y Z) λaa=>oB (fH 4 aa) λab=>oB (ev ab h') λac=>oB (fD ac) λae=>er .neq 3 ae (V.int .i64 1))=some (.bool false):=by
   have l1:ev (.ptr lc (0+0+3)) h' = some vb:=C2.ld 3 rfl;have l2:ev (.ptr l9 (o9+4)) h' = some A:=m.fe;simp only[fh,fT,ez,l1,l,l2,f.len,tX,ji];congr 2;rw[Y1];intro o;simp only[tN,CN,Pk]at o;have d:=g.Hg i B I (by omega) (B.next[j]) (AO hj);rw[g.fe _ _ a,d]at o;exact o.2 rfl
  refine ed e (jH (gG (by simp) ?_));exact fM ⟨k-1,by omega,j+1,rfl,rfl,rfl,rfl,rfl,by omega,rfl⟩
 by_cases hi:i=0;rotate_left
 ·exact gO (gG (by omega) (r2 F h (Sn.refl _ _) C.H))
 refine gO (ig (by omega) ?_);have lA:gg 5 (.ptr lc 0) h=some (.agg (uC u vv vb vs)):=by
  obtain⟨j,ty,hc⟩:=C.c;rw[yW (C.H.get j hc),AE (by simp)];rfl
 refine ed (fT _ _) (ed (ez _ _ _) (ed lA ?_));refine NX g C.H C.u λp d v q J r1=>?_;have lr:=r1.len;rw[Fk,VO]at lr;refine ed lr ?_;have C1:=C.since q J;refine DE (λk s x1 D E G h'=>∃j:Nat,s = .ptr lc 0/\x1 = .int .i64 i/\D=v/\E = .int .i64 u.blocks.length/\G = .int .i64 (j:Nat)/\j+k=u.blocks.length/\h' = d) ?_ (k:=u.blocks.length) ⟨0,rfl,rfl,rfl,rfl,rfl,by omega,rfl⟩;rintro k s x1 D E G h' ⟨j,rfl,rfl,rfl,rfl,rfl,hk,rfl⟩;unfold wO;by_cases hj:j<u.blocks.length;rotate_left
 ·exact iC (r2 p h' q J)
 refine gw ?_;obtain⟨n,a⟩:∃n,u.blocks[j]? =some n:=⟨_,gQ hj⟩
 obtain ⟨l8,o8,w8,_,N,O,j3⟩:=r1.list (i:=j) (x:=Un.ahead u j) (by simp[hj]) .i64;obtain⟨l9,o9,R,S,A,_,l,_,_,_,f,m⟩:=C1.u.mS a;have am:(Un.ahead u j).length<=700:=by
  rw[<-nM];have:=nK g (i:=u.blocks.length) (j:=0) (b:=j) (iW _) (by omega);omega
 rw [g.fe j n a]at f;refine ed N (ed O (ed (fT _ _) (ed (ez _ _ _) (oF (C1.ld 3 rfl) (ed l (oF m.fe ?_))))));refine Vv j3 f (by omega) (ed rfl ?_);have e:pN (.bool (!true)) (oB (some (V.int .i64 j)) λag=>oB (er .eql 3 ag (V.int .i64 0)) λah=>oB (some ah) λai=>jK ai (oB (some w8) λaj=>oB (fD aj) λak=>er .gtr 3 ak (V.int .i64 0)))=some (.bool false):=by
  simp only[X6,nq,fh,iA,j3.len,pU,ji];congr 2;rw[Y1];intro o;simp only[tN,CN,DY]at o;obtain⟨d,K⟩:=o;obtain rfl:j=0:=by omega
  rw[g.Dj]at K;simp at K
 refine ed e (jH (gG (by simp) ?_));exact fM ⟨k-1,by omega,j+1,rfl,rfl,rfl,rfl,rfl,by omega,rfl⟩
end
open Go.Proofs.YtpnddokajmjpbaaDoor.Un Go.Proofs.YtpnddokajmjpbaaDoor.Dm
section
variable{F F':Nat->Prop}{h h':Hp}{cs:List Pc}{Q:fx}{u:U}{vv vb vs:V}
theorem ei.stF {α:Type}{E:nQ α}{ty:Nat}{xs:List α}{v:V}(H:ei F h cs)(i:Nat)(hi:cs[i]? =some (eQ E ty xs v)){k j:Nat}{y:α}{a:V}(c:k<xs.length)(d:j<E.sz)(e:a.one=true)(f:∀w,E.rel F h xs[k] w->E.rel F h y (w.set j a)) :
  ∃l h',gD E.sz v (.int .i64 k)=some (.ptr l (k*E.sz))/\gB 1 (.ptr l (k*E.sz+j)) a h=some (.val .undef h')/\h.next<=h'.next/\ei F h' (cs.set i (eQ E ty (xs.set k y) v))/\Sn F h F h':=by
 obtain⟨t,h',o,g,m,n,b⟩:=(H.row i hi).store (k:=j) (y:=y) (u:=a) c d e f;exact⟨t,h',g,m,b.next,H.Ad hi b n λ_ h=> .inl h⟩
theorem ei.HX {ty:Nat}{xs:List Nat}{v:V}(H:ei F h cs)(i:Nat)(hi:cs[i]? =some (eQ eN ty xs v)){k x:Nat}(hx:xs[k]? =some x)(kd:IntKind):∃l o,gD 1 v (.int kd (k:Nat))=some (.ptr l o)/\ev (.ptr l o) h=some (.int .i64 x):=by
 obtain⟨l,o,_,a,b⟩:=(H.row i hi).read.nat hx kd;exact⟨l,o,a,b⟩
theorem ei.M9 {ty:Nat}{xs:List Int}{v:V}(H:ei F h cs)(i:Nat)(hi:cs[i]? =some (eQ eZ ty xs v)){k:Nat}{x:Int}(hx:xs[k]? =some x)(kd:IntKind):∃l o,gD 1 v (.int kd (k:Nat))=some (.ptr l o)/\ev (.ptr l o) h=some (.int .i64 x):=by
 obtain⟨l,o,_,a,b⟩:=(H.row i hi).read.int hx kd;exact⟨l,o,a,b⟩
theorem ei.ID {ty:Nat}{xs:List Bool}{v:V}(H:ei F h cs)(i:Nat)(hi:cs[i]? =some (eQ eB ty xs v)){k:Nat}{x:Bool}(hx:xs[k]? =some x)(kd:IntKind):∃l o,gD 1 v (.int kd (k:Nat))=some (.ptr l o)/\ev (.ptr l o) h=some (.bool x):=by
 obtain⟨l,o,_,a,b⟩:=(H.row i hi).read.bool hx kd;exact⟨l,o,a,b⟩
theorem Pz {ty:Nat}{xs:List Nat}{v:V}(m:ei F h (eQ eN ty xs v::cs))(h0:0<xs.length)(P:xs.length<1000000)(H:∀h',Sn F h F h'->ei F h' (eQ eN ty xs.reverse v::cs)->Q (.tuple []) h') :
  cP CS ko [v] h Q:=by
 refine Ap rfl rfl ?_;unfold rG;refine ed (m.len 0 rfl) (vU (by omega) h0 ?_)
 refine xU (λk n o q h'=>∃(i:Nat) (ys:List Nat),n=v/\o = .int .i64 i/\q = .int .i64 ((xs.length-1-i:Nat):Int)/\i+k=xs.length/\2*i<=xs.length/\ys.length=xs.length/\
  (∀p,p<xs.length->ys[p]? =if p<i\/xs.length-i<=p then xs[xs.length-1-p]? else xs[p]?)/\Sn F h F h'/\ei F h' (eQ eN ty ys v::cs)) ?_ (k:=xs.length)
  ⟨0,xs,rfl,rfl,by rw[Nat.sub_zero],by omega,by omega,rfl,λp f=>by rw[if_neg (by omega)],Sn.refl _ _,m⟩
 rintro k n o q A ⟨i,ys,rfl,rfl,rfl,R,B,C,f,r,g⟩;unfold oS;by_cases hij:i<xs.length-1-i
 ·refine gw ?_;obtain⟨a,s⟩:∃a,ys[i]? =some a:=⟨_,gQ (by omega)⟩
  obtain⟨b,hb⟩:∃b,ys[xs.length-1-i]? =some b:=⟨_,gQ (by omega)⟩
  obtain⟨l1,S,D,E⟩:=g.HX 0 rfl hb .i64;obtain⟨l2,T,G,I⟩:=g.HX 0 rfl s .i64;refine ed D (ed E (ed G (ed I ?_)));obtain⟨l3,U,W,j,l,J,t,K⟩:=g.G7 0 rfl (k:=i) (y:=b) (u:=V.int .i64 b) (by omega) rfl rfl rfl;refine ed j ?_;rw[l,ef];simp only[iO]at t;obtain⟨l4,X,Y,L,M,N,w,O⟩:=t.G7 0 rfl (k:=xs.length-1-i) (y:=a) (u:=V.int .i64 a) (by simp;omega) rfl rfl rfl;refine⟨J,ed L ?_⟩;rw[M,ef];simp only[iO]at w;refine⟨N,fM (vU (by omega) (by omega) ?_)⟩;refine⟨k-1,by omega,i+1,(ys.set i b).set (xs.length-1-i) a,rfl,rfl,by rw[show xs.length-1-(i+1)=xs.length-1-i-1 by omega],by omega,by omega,by simp[C],λp d=>?_,(r.trans K).trans O,w⟩;have x:=f i (by omega);rw[if_neg (by omega),s]at x;have z:=f (xs.length-1-i) (by omega);rw[if_neg (by omega),hb]at z;by_cases j:p=xs.length-1-i
  ·subst j;rw[Ct (by simp;omega),if_pos (by omega),show xs.length-1-(xs.length-1-i)=i by omega];exact x
  ·rw [AR λh=>j h.symm];by_cases l:p=i
   ·subst l;rw[Ct (by omega),if_pos (by omega)];exact z
   ·rw[AR λh=>l h.symm,f p d];by_cases c:p<i\/xs.length-i<=p
    ·rw[if_pos c,if_pos (by omega)]
    ·rw[if_neg c,if_neg (by omega)]
 ·refine iC ?_;have e:ys=xs.reverse:=by
   refine Wv λp=>?_;by_cases d:p<xs.length
   ·rw[f p d,List.getElem?_reverse d];by_cases c:p<i\/xs.length-i<=p
    ·rw[if_pos c]
    ·rw[if_neg c,show xs.length-1-p=p by omega]
   ·rw[Jp (by omega),Jp (by simp;omega)]
  subst e;exact H A r g
theorem TG{α:Type}(s:List α)(x y:α):(s++[x]).set s.length y=s++[y]:=by simp
structure Yx (u:U):Prop where
 Ju:1<=u.blocks.length
 nb:u.blocks.length<=300
 nx:∀(b:Nat),∀t∈next u b,t<u.blocks.length
 two:∀(b:Nat) (B:Bk),u.blocks[b]? =some B->B.next.length<=2
theorem LL (g:Good u):Yx u:=⟨g.Ju,g.nb,g.nx,λb B a=>by
 rcases g.fin b B a with⟨_,h⟩|⟨_,h,_⟩|⟨_,h,_⟩
 ·omega
 ·omega
 ·rw[h];simp⟩
theorem ik.mS {bs:List Bk}(a:ik eK F h bs vb){i:Nat}{x:Bk}(hx:bs[i]? =some x) :
  ∃l o v n p,F l/\gD 6 vb (.int .i64 i)=some (.ptr l o)/\gg 6 (.ptr l o) h=some (.agg (kM x v n p))/\ik eN F h x.ee v/\ik eN F h x.next n/\ik eN F h x.fe p/\Z7 h l o x v n p:=by
 obtain⟨hi,rfl⟩:=iB.1 hx;obtain⟨l,o,w,c,d,e,⟨v,n,p,rfl,f,g,j⟩,b⟩:=a.ix hi .i64;exact⟨l,o,v,n,p,c,d,e,f,g,j,⟨b 0 _ rfl,b 1 _ rfl,b 2 _ rfl,b 3 _ rfl,b 4 _ rfl,b 5 _ rfl⟩⟩
theorem Mi (g:Yx u)(H0:ei F h cs)(ho:fV (uC u vv vb vs)=true)(Y:ik eK F h u.blocks vb)(H:∀h' v seen post,Sn F h F h'->ei F h' (eQ eN en post.reverse v::cs)->FX u.blocks.length (next u) seen post []->Q v h') :
  cP CS pK [.agg (uC u vv vb vs)] h Q:=by
 refine NY rfl rfl ?_;unfold IN;have nb:=g.nb;have Ju:=g.Ju;have A:∀b,b<u.blocks.length->∀t∈next u b,t<u.blocks.length:=λb _ t ht=>g.nx b t ht
 refine mf H0 ho λC H1 s1=>?_;refine oF (H1.ld 0 rfl rfl) (ed (Y.since s1).len ?_);rw[jk (z:=V.bool false) rfl (by decide) (by omega),fq];obtain⟨H2,s2⟩:=H1.make (E:=eB) (ty:=jf) (y:=false) (u:=V.bool false) u.blocks.length rfl rfl;have D:=s1.trans s2;refine oF (H2.ld 1 rfl rfl) (ed (Y.since D).len ?_);refine AM (ig (by omega) ?_);refine ed (show _=some (V.agg [.int .i64 0,.int .i64 0]) from rfl) ?_;generalize C.new (.cells jf 1 true false (List.replicate u.blocks.length (V.bool false)))=Z at*;have I:∀a b:Nat,iZ ur 2 1 (V.agg [(V.int .i64 0),(V.int .i64 0)]) [(0,V.agg [.int .i64 (a:Nat),.int .i64 (b:Nat)])]=some (.cells ur 2 true false [.int .i64 (a:Nat),.int .i64 (b:Nat)],λl=> .slice l 0 1):=λa b=>mq rfl rfl rfl;have aa:iZ ur 2 1 (V.agg [(V.int .i64 0),(V.int .i64 0)]) [(0,V.agg [.int .i64 0,.int .i64 0])]=some (.cells ur 2 true false [.int .i64 ((0:Nat):Int),.int .i64 ((0:Nat):Int)],λl=> .slice l 0 1):=I 0 0;rw[aa,fq]
 have H3:ei F Z (eQ eW ur [] .ec::eQ eN en [] .ec::eQ eB jf (List.replicate u.blocks.length false) (.slice C.next 0 u.blocks.length)::eo h.next 30 (uC u vv vb vs)::cs):=
  (H2.add (p:=eQ eN en [] .ec) .nil λ_ h=>h).add (p:=eQ eW ur [] .ec) .nil λ_ h=>h
 obtain⟨v4,h4,e4,n4,H4,s4⟩:=H3.vF 0 rfl (jr:=16) (zF:=ur) (y:=(0,0)) (w:=[.int .i64 ((0:Nat):Int),.int .i64 ((0:Nat):Int)]) (ro:=false) rfl (by decide) (by decide) (by simp);have ab:eR 144 2 16 V.ec (.slice Z.next 0 1) (Z.new (.cells ur 2 true false [.int .i64 ((0:Nat):Int),.int .i64 ((0:Nat):Int)]))=some (.val v4 h4):=e4;rw[ab,ef];simp only[iO,LG]at H4;obtain⟨l5,o5,h5,e5,e6,n5,H5,s5⟩:=H4.G7 2 rfl (k:=0) (y:=true) (u:=V.bool true) (by simp;omega) rfl rfl rfl;refine ed e5 ?_;rw[e6,ef];simp only[kZ,iO]at H5;refine KB ?_;unfold DH;have ac:=(D.trans s4).trans s5
 refine KP (λk x1 x3 x4 J h'=>∃(seen:List Bool) (post:List Nat) (stack:List (Nat×Nat)),x1 = .ptr h.next 0/\x3 = .slice C.next 0 u.blocks.length/\k=mu u.blocks.length (next u) seen stack/\FX u.blocks.length (next u) seen post stack/\Sn F h F h'/\
  ei F h' (eQ eW ur stack J::eQ eN en post x4::eQ eB jf seen (.slice C.next 0 u.blocks.length)::eo h.next 30 (uC u vv vb vs)::cs)) ?_ (k:=mu u.blocks.length (next u) ((List.replicate u.blocks.length false).set 0 true) [(0,0)])
  ⟨_,[],[(0,0)],rfl,rfl,rfl,FX.start (by omega) A,ac,H5⟩
 rintro k x1 x3 x4 J h6 ⟨seen,post,stack,rfl,rfl,hk,G,K,e⟩;unfold Dr;have L:=G.nodup;have aB:post.length<=u.blocks.length:=jy _ _ (Qh.1 L).1 G.pre;have ae:stack.length<=u.blocks.length:=by
  have:=jy u.blocks.length _ (Qh.1 L).2.1 λx hx=>by
   obtain⟨y,hy,rfl⟩:=K2.1 hx;exact(G.range y hy).1
  simpa using this
 refine ed (e.len 0 rfl) ?_;rcases lR stack with rfl|⟨s,⟨b,i⟩,rfl⟩
 ·refine AM (gG (by simp) ?_);have ag:0<post.length:=by
   obtain⟨p,hp⟩:=G.last rfl;rw[hp];simp
  refine Pz e.tail ag (by omega) λh7 T f=>?_;exact H _ _ seen post (K.trans T) f.GI.GI G
 have aA:s.length+1<=u.blocks.length:=by simpa using ae
 refine AM (ig (by simp <;> omega) ?_);have hlen:(s++[(b,i)]).length-1=s.length:=by simp
 have m:s.length<(s++[(b,i)]).length:=by simp
 have M:(s++[(b,i)])[s.length]'m=(b,i):=by simp
 obtain⟨ah,ai⟩:=G.range (b,i) (by simp);obtain⟨B,hB⟩:∃B,u.blocks[b]? =some B:=⟨_,gQ ah⟩
 have d:next u b=B.next:=by unfold next;rw[hB]
 simp only[d]at ai;refine ed (e.len 0 rfl) (vU (by omega) (by simp) ?_);rw[hlen];obtain⟨l7,h7,U,e8,n7,f,T⟩:=e.stF 0 rfl (k:=s.length) (j:=1) (y:=(b,i+1)) (a:= .int .i64 ((i+1:Nat):Int)) m (by decide) rfl (λw W=>by
  rw[M]at W;have W:w=[.int .i64 b,.int .i64 i]:=W;subst W;rfl)
 have U:gD 2 J (.int .i64 s.length)=some (.ptr l7 (s.length*2)):=U;obtain⟨l8,o8,w8,X,i2,i3,i4⟩:=e.ix 0 rfl m .i64;rw[M]at i3;obtain rfl:w8=[.int .i64 b,.int .i64 i]:=i3;have X:gD 2 J (.int .i64 s.length)=some (.ptr l8 o8):=X;rw[U]at X;obtain⟨rfl,rfl⟩:l7=l8/\s.length*2=o8:=by
  have:=Option.some.inj X;cases this;exact⟨rfl,rfl⟩
 have ib:=i4 0 _ rfl;have ii:=i4 1 _ rfl;obtain⟨lb,ob,bv,bn,bp,_,b1,b2,iv,iN,ip,ba⟩:=(Y.since K).mS hB;refine ed U (oF (e.ld 3 rfl rfl) (oN ib (ed b1 (oF ba.next ?_))));refine oN ii (ed iN.len ?_);by_cases hi:i=B.next.length
 ·refine gO (ig (by omega) ?_);refine oN ib ?_;rw[oI,fq];obtain⟨v9,h9,e9,n9,H9,s9⟩:=e.vF 1 rfl (jr:=8) (zF:=3) (y:=b) (w:=gN [b]) (ro:=false) rfl (by decide) (by decide) (by omega);have aj:eR 3 1 8 x4 (.slice h6.next 0 1) (h6.new (.cells 3 1 true false (gN [b])))=some (.val v9 h9):=e9;rw[aj,ef];simp only[kZ,iO]at H9;refine ed (H9.len 0 rfl) (vU (by omega) (by simp) ?_);rw[hlen];obtain⟨aC,o,c⟩:=H9.YQ 0 rfl (n:=s.length) (by simp);refine ed o ?_;simp only[iO]at c;have et:(s++[(b,i)]).take s.length=s:=by simp
  rw[et]at c;exact⟨_,by rw[hk];exact YG,seen,post++[b],s,rfl,rfl,rfl,G.pop (by rw[d];exact hi),K.trans s9,c⟩
 refine gO (gG (by omega) ?_);have r:i<B.next.length:=by omega
 have aD:B.next.length<=2:=g.two b B hB;have ht:(next u b)[i]? =some B.next[i]:=by rw[d];exact gQ r
 have ak:B.next[i]<u.blocks.length:=g.nx b _ (by rw[d];exact AO r);obtain⟨l9,o9,_,j1,j2⟩:=iN.nat (gQ r) .i64;refine oN ii (ed j1 (ed j2 ?_));refine oN ii (fM ?_);refine ed (fT _ _) (ed (ez _ _ _) ?_);have e8:gB 1 (.ptr l7 (s.length*2+1)) (.int .i64 ((i+1:Nat):Int)) h6=some (.val .undef h7):=e8;rw[e8,ef];simp only[iO,TG]at f;have al:seen.length=u.blocks.length:=G.len;have N:=f.len 2 (xs:=seen) rfl;rw[al]at N;refine ed N (yH ?_);rw[I9 ak];obtain⟨q,hq⟩:∃q,seen[B.next[i]]? =some q:=⟨_,gQ (show B.next[i]<seen.length by omega)⟩
 obtain ⟨lq,oq,q1,q2⟩:=f.ID 2 rfl hq .i64;have ea:jK (.bool true) (oB (some (V.slice C.next 0 u.blocks.length)) λam=>oB (some (V.int .i64 (B.next[i]:Nat))) λan=>oB (gD 1 am an) λao=>oB (ev ao h7) λap=>sr .not ap)=some (.bool (!q)):=by
  simp only[vD,fh,q1,q2,Wd]
 refine ed ea (jH ?_)
 cases q with
 | true=>
   refine gG (by simp) ?_
   exact⟨_,by rw[hk];exact WX ht,seen,post,s++[(b,i+1)],rfl,rfl,rfl,G.skip ht hq,K.trans T,f⟩
 | false=>
   refine ig rfl ?_;have O:¬oZ seen B.next[i]:=by unfold oZ;rw[hq];simp
   obtain⟨Zl,aE,P,o,aq,aF,c,ar⟩:=f.G7 2 rfl (k:=B.next[i]) (y:=true) (u:=V.bool true) (by omega) rfl rfl rfl;refine ed o ?_;rw[aq,ef];simp only[kZ,iO]at c;refine ed (show _=some (V.agg [.int .i64 (B.next[i]:Nat),.int .i64 ((0:Nat):Int)]) from rfl) ?_;rw[I,fq];obtain⟨au,aw,ax,aG,R,ay⟩:=c.vF 0 rfl (jr:=16) (zF:=ur) (y:=(B.next[i],0)) (w:=[.int .i64 (B.next[i]:Nat),.int .i64 ((0:Nat):Int)]) (ro:=false) rfl (by decide) (by decide) (by simp;omega);have S:eR 144 2 16 J (.slice P.next 0 1) (P.new (.cells ur 2 true false [.int .i64 (B.next[i]:Nat),.int .i64 ((0:Nat):Int)]))=some (.val au aw):=ax;rw[S,ef];simp only[iO]at R;exact⟨_,by rw[hk];exact Xi G ht O,_,post,s++[(b,i+1)]++[(B.next[i],0)],rfl,rfl,rfl,G.push ht O,((K.trans T).trans ar).trans ay,R⟩
theorem ND (g:Good u)(c:ei F h cs)(a:zf F h u vv vb vs)(H:∀F' h' v seen post,Sn F h F' h'->ei F' h' cs->FX u.blocks.length (next u) seen post []->ik eN F' h' post.reverse v->Q v h') :
  cP CS pK [.agg (uC u vv vb vs)] h Q:=
 Mi (LL g) c a.one a.b λh' v seen post d e G=>by
  obtain⟨f,i,r2⟩:=e.kE 0 rfl;exact H _ _ v seen post (d.trans i) f.tail G r2
end
