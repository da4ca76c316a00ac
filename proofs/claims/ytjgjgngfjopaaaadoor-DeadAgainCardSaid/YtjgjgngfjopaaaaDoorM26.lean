/- Parts. -/
import Derived.Test.YtjgjgngfjopaaaaDoorM25
namespace Go.Proofs.YtjgjgngfjopaaaaDoor.Hx
open Un Dm
theorem U9(h:Hp):∀op:Nat,1<=op->op<=23->∃s,s≠[]/\CS.K Dg [.I (op:Nat)] h=some (.str s)
 |0,h,_=>by omega
 |1,_,_=>⟨_,by decide,rfl⟩
 |2,_,_=>⟨_,by decide,rfl⟩
 |3,_,_=>⟨_,by decide,rfl⟩
 |4,_,_=>⟨_,by decide,rfl⟩
 |5,_,_=>⟨_,by decide,rfl⟩
 |6,_,_=>⟨_,by decide,rfl⟩
 |7,_,_=>⟨_,by decide,rfl⟩
 |8,_,_=>⟨_,by decide,rfl⟩
 |9,_,_=>⟨_,by decide,rfl⟩
 |10,_,_=>⟨_,by decide,rfl⟩
 |11,_,_=>⟨_,by decide,rfl⟩
 |12,_,_=>⟨_,by decide,rfl⟩
 |13,_,_=>⟨_,by decide,rfl⟩
 |14,_,_=>⟨_,by decide,rfl⟩
 |15,_,_=>⟨_,by decide,rfl⟩
 |16,_,_=>⟨_,by decide,rfl⟩
 |17,_,_=>⟨_,by decide,rfl⟩
 |18,_,_=>⟨_,by decide,rfl⟩
 |19,_,_=>⟨_,by decide,rfl⟩
 |20,_,_=>⟨_,by decide,rfl⟩
 |21,_,_=>⟨_,by decide,rfl⟩
 |22,_,_=>⟨_,by decide,rfl⟩
 |23,_,_=>⟨_,by decide,rfl⟩
 |n+24,_,h=>by omega
theorem zci{h:Hp}{X:Option (V×Hp)}{K:fy}(H:oP X λy=>K y.1 y.2):oP (fx true (.bool true)) λb=>ghP b h X K:=H
section
variable{F F':Nat->Prop}{h h':Hp}{cs:List Pc}{Q:fy}{u:U}{vv vb vs:V}{lc:Nat}{bl pl Fo:V}
theorem Zu{op:Nat}(a:1<=op)(b:op<=23)(H:∀s,s≠[]->Q (.str s) h):cP CS Dg [.I op] h Q:=by
 obtain⟨fn,c,d,e⟩:=Qi;obtain⟨s,hs,f⟩:=U9 h op a b;exact cP.known d e f rfl rfl (H s hs)
theorem PQ{lv:Nat}{x:Vl}{w v:V}{ys:List Vl}(A:en F h (ev lv hH (mz x w)::cs))(p:iC eV F h ys v)(J:ys.length<1000000)(f:∀y∈ys,¬(y.op=1/\y.n=x.n))
  (H:∀h',Sn F h F h'->en F h' (ev lv hH (mz x w)::cs)->Q (.bool false) h'):cP CS hV [v,.func jE [] [.ptr lv 0]] h Q:=by
 refine qF rfl rfl ?_;unfold lP;refine tT rfl rfl ?_;unfold mD;refine ed p.len ?_
 refine qI (λk q r s t h'=>∃i:Nat,q=v/\r = .func jE [] [.ptr lv 0]/\s = .I ys.length/\t = .I (i:Nat)/\i+k=ys.length/\Sn F h F h'/\en F h' (ev lv hH (mz x w)::cs)) ?_ (k:=ys.length)
  ⟨0,rfl,rfl,rfl,rfl,by omega,Sn.refl _ _,A⟩
 rintro k q r s t h' ⟨i,rfl,rfl,rfl,rfl,K,g,u⟩;unfold lQ;by_cases hi:i<ys.length;rotate_left
 ·refine iI ?_;refine ed (mW _ _ _ _) ?_;exact H h' g u
 refine gG ?_;obtain⟨l,o,c,_,B,C,⟨a,rfl,D⟩,_⟩:=(p.since g).ix hi .i64;refine ed B (ed C ?_);show cP CS jE [.agg (mz ys[i] a),.ptr lv 0] h' _;refine Gz rfl rfl ?_;unfold yK;refine mH u (by simp only[mz,eQ,D.one];rfl) λb d E=>?_;refine oF (d.ld 0 rfl rfl) (ed (gQ _ _ _ _) ?_);have e:jZ (.bool (((ys[i].op:Nat):Int) == 1)) (oB (fH 3 (.ptr h'.next 0)) λG=>oB (ez G b) λI=>oB (fH 3 (.ptr lv 0)) λj=>oB (ez j b) λm=>eo .eql 2 I m)=some (.bool false):=by
  have l1:ez (.ptr h'.next (0+3)) b=some (.I ys[i].n):=d.ld 0 rfl rfl;have l2:ez (.ptr lv (0+3)) b=some (.I x.n):=d.ld 1 rfl rfl;simp only[eJ,fj,l1,l2,gQ,jU];congr 2;rw[wBw];intro z;simp only[uZ,z8]at z;exact f _ (zq hi) ⟨by omega,z.2⟩
 refine ed e (js (gi (by simp) ?_));exact fN ⟨k-1,by omega,i+1,rfl,rfl,rfl,rfl,by omega,g.trans E,d.tail⟩
theorem Xl{lv:Nat}{x:Vl}{w:V}{a0:V}(a:a0 = .ptr lc 0)(C:Ck F h (ev lv hH (mz x w)::cs) lc u vv vb vs bl pl Fo)(G:leaves x.op=true->x.state<u.eh.length)(hc:lv≠lc)(H:ez (.ptr lv 5) h=some (.I x.state)){K:fy}(D:K (.bool false) h) :
  oP (fx true (.bool (leaves x.op))) λb=>
  oP (gV b (fH 5 (.ptr lv 0))) λc=>
  oP (fx true (.bool (leaves x.op))) λd=>
  oP (gV d (ez c h)) λe=>
  oP (fx true (.bool (leaves x.op))) λf=>
  oP (gV f (some a0)) λg=>
  oP (fx true (.bool (leaves x.op))) λi=>
  oP (gV i (ij g)) λj=>
  oP (fx true (.bool (leaves x.op))) λk=>
  oP (gV k (fH 0 j)) λl=>
  oP (fx true (.bool (leaves x.op))) λm=>
  oP (gV m (fH 4 l)) λn=>
  oP (fx true (.bool (leaves x.op))) λo=>
  oP (gV o (ez n h)) λp=>
  oP (fx true (.bool (leaves x.op))) λq=>
  oP (gV q (fF p)) λr=>
  oP (fx true (.bool (leaves x.op))) λt=>
  oP (gC t (some (km,[e,r]))) λv=>qB CS v h λy E=>
  (h.next<=E.next/\
  oP (fx true (.bool (leaves x.op))) λz=>
  oP (gV z (qz .not y)) λA=>
  oP (oD (.bool false) (iO (.bool (leaves x.op)) A (V.bool false))) λB=>K B E):=by
 subst a
 cases hq:leaves x.op with
 | true=>
   have:=G hq;refine fU (ed (eJ _ _ _) (fU (ed H (fU (ed rfl (fU (ed (fX _ _) (fU (ed (eJ _ _ _) (fU (ed (eJ _ _ _) (fU (ed (C.ld 4 rfl) (fU (ed C.u.s.len (uS ?_))))))))))))))));refine zy ⟨jj _,fU ?_⟩;rw[J6 this]
   exact ed rfl (ed rfl D)
 |false=>exact hY (hY (hY (hY (hY (hY (hY (hY (E0 ⟨jj _,hY (ed rfl D)⟩))))))))
theorem zbh(g:Good u)(C:Ck F h cs lc u vv vb vs bl pl Fo){xs ys:List Int}(A:iC eZ F h xs bl)(S:Std u u.blocks.length 0 xs ys){i:Nat}(hi:i<u.ef.length)(U:lc<h.next)
  (H:∀F' h',Sn F h F' h'->en F' h' cs->Q (.bool true) h'):cP CS j9 [.ptr lc 0,.I i] h Q:=by
 refine IZ rfl rfl ?_;unfold vT;have nv:=g.nv;have nb:=g.nb;obtain⟨x,f⟩:∃x,u.ef[i]? =some x:=⟨_,gP hi⟩
 obtain ⟨b,k,l⟩:=g.HW i hi;obtain⟨B,p,hk⟩:=id l;have q:=g.op i x f;have r:=g.use i x f;have D:B.fg.length<=700:=by
  rw[g.fg b B p,<-oE];have:=oG g (i:=u.blocks.length) (j:=0) (b:=b) (jj _) (by omega);omega
 have c:x.op=21\/x.op=20->x.args.length<=700:=by
  rintro(E|E)
  ·rw[(g.Ko _ _ _ _ _ l f E p).2];exact D
  ·rw[g.putAt i x f E];omega
 obtain⟨l1,o1,w,_,W,X,P,_⟩:=C.u.val f;refine ed (fX _ _) (ed (eJ _ _ _) (oF (C.ld 2 rfl) (ed W (ed X ?_))));refine iG C.H rfl rfl (by simp only[mz,eQ,P.one];rfl) λh2 z G=>?_;have C2:=C.cons G z;have o:=P.since G;refine oF (z.ld 0 rfl rfl) ?_;refine Zu q.1 q.2 λs hs=>⟨jj _,?_⟩
 refine ed (U3 _ _ _) ?_;rw[show(s == [])=false from MU.2 hs];refine fG (ed rfl (fG (ed (z.wS 0 rfl rfl) (wW ?_))));refine Ou z o (λh=>by have:=c h.symm.symm;omega) λF3 R v t a Y=>⟨t.next,?_⟩
 have C3:=C2.since t a;have d:=G.trans t;refine wW (IB C3 Y (by have:=Ij c;omega) r ⟨jj _,ed rfl ?_⟩);refine fG (ed (eJ _ _ _) (fG (ed (a.ld 0 rfl rfl) (wW ?_))));refine J5 ⟨jj _,fG (ed rfl ?_)⟩;refine Xl rfl C3 (g.leave i x f) (by omega) (a.ld 0 rfl rfl) ?_;refine js (gi (by simp) ?_);refine oF (a.ld 0 rfl rfl) ?_;by_cases I:x.op=20
 ·refine gj (gw (by omega) ?_);refine oF (a.ld 0 rfl rfl) (ed (o.since t).len (hZ ?_));rw[g.putAt i x f I];exact H _ _ d a.tail
 refine gj (gi (by omega) ?_);by_cases J:x.op=21
 ·refine gj (gw (by omega) ?_);obtain⟨lb,ob,_,b1,b2⟩:=(A.since d).int ((S.yes i b k l (.inl (iR.1 p).1)).1) .i64;obtain⟨l7,o7,bv,bn,bp,_,K,_,_,_,ip,Z⟩:=C3.u.nW p;refine oF (a.ld 0 rfl rfl) (ed (o.since t).len ?_);refine ed (fX _ _) (ed (eJ _ _ _) (oF (C3.ld 3 rfl) (oN (C3.ld 5 rfl) (ed b1 (ed b2 (ed K ?_))))));refine oF Z.fg (ed ip.len (hZ ?_));rw[(g.Ko _ _ _ _ _ l f J p).2,J6 rfl];exact H _ _ d a.tail
 refine gj (gi (by omega) ?_);by_cases c1:x.op=1
 ·refine gj (gw (by omega) ?_);obtain⟨p1,p2,p3⟩:=g.param i x f c1;refine oF (a.ld 0 rfl rfl) (ed (mW _ _ _ _) ?_);have e:jZ (.bool (decide ((0:Int)<=x.n))) (oB (fH 3 (.ptr h.next 0)) λL=>oB (ez L R) λM=>eo .lss 2 M (V.I 40))=some (.bool true):=by
   have l1:ez (.ptr h.next (0+3)) R=some (.I x.n):=a.ld 0 rfl rfl;simp only[eJ,fj,l1,jD,jU];simp[p1,p2]
  refine ed e ?_;obtain⟨vc,e1,r1⟩:=C3.u.v.cut (lo:=none) (hi:=some (.I i)) (m:=0) (n:=i) rfl (Gn _ _ _) (Kl _) (by omega);rw[Vt]at r1;refine fU (ed rfl (fU (ed (fX _ _) (fU (ed (eJ _ _ _) (fU (ed (eJ _ _ _) (fU (ed (C3.ld 2 rfl) (fU (ed rfl (fU (ed e1 (fU (ed rfl (uS ?_))))))))))))))));refine PQ a r1 (by rw[GX];omega) (λy hy T=>?_) λh4 s4 H4=>ed rfl (H _ _ (d.trans s4) H4.tail);obtain⟨j,N⟩:=mK.1 hy;have O:j<i:=by
   have:=(iR.1 N).1;rw[GX]at this;omega
  rw[Y0 O]at N;have:=p3 j y N T.1 T.2;omega
 ·refine gj (gi (by omega) ?_);exact H _ _ d a.tail
theorem Yw(g:Good u)(C:Ck F h cs lc u vv vb vs bl pl Fo){i:Nat}{B:Bk}(p:u.blocks[i]? =some B)(H:∀F' h',Sn F h F' h'->en F' h' cs->Q (.bool true) h'):cP CS mB [.ptr lc 0,.I i] h Q:=by
 refine HV rfl rfl ?_;unfold zM;have c:=g.fin i B p;have nv:=g.nv;have nb:=g.nb;obtain⟨l7,O,bv,bn,bp,_,A,D,G,d,ip,_⟩:=C.u.nW p;refine ed (fX _ _) (ed (eJ _ _ _) (oF (C.ld 3 rfl) (ed A (ed D ?_))));refine iG C.H rfl rfl (by simp only[kr,eQ,G.one,d.one,ip.one];rfl) λI a e=>?_;have C2:=C.cons e a;have d:=d.since e;refine oF (a.ld 0 rfl rfl) (ed d.len ?_);have J:B.next.length<=2:=by
  rcases c with⟨_,h⟩|⟨_,h,_⟩|⟨_,h,_⟩
  ·omega
  ·omega
  ·rw[h];simp
 refine Es (λk t v f l m h'=>∃j:Nat,t = .ptr lc 0/\v = .ptr h.next 0/\f=bn/\l = .I B.next.length/\m = .I (j:Nat)/\j+k=B.next.length/\h' = I) ?_ (k:=B.next.length) ⟨0,rfl,rfl,rfl,rfl,rfl,by omega,rfl⟩;rintro k t v f l m h' ⟨j,rfl,rfl,rfl,rfl,rfl,P,rfl⟩;unfold wO;by_cases hj:j<B.next.length
 ·refine gG ?_;obtain⟨l8,R,_,K,L⟩:=d.nat (gP hj) .i64;have q:B.next[j]<u.blocks.length:=g.nx i _ (by unfold next;rw[p];exact zq hj);refine ed K (ed L (ed (fX _ _) (ed (eJ _ _ _) (oF (C2.ld 3 rfl) (ed C2.u.b.len ?_)))));refine zy (qi (gw (by simpa using q) ?_));exact fN ⟨k-1,by omega,j+1,rfl,rfl,rfl,rfl,rfl,by omega,rfl⟩
 refine iI ?_;refine oF (a.ld 0 rfl rfl) ?_;rcases c with⟨x,o⟩|⟨x,o,r⟩|⟨x,o,r⟩
 ·refine gj (gw (by omega) ?_);refine oF (a.ld 0 rfl rfl) (ed d.len (hZ ?_));rw[o];exact H _ _ e a.tail
 ·refine gj (gi (by omega) ?_);refine gj (gw (by omega) ?_);refine oF (a.ld 0 rfl rfl) (ed d.len (hZ ?_));rw[o,show decide (((2:Nat):Int)=2)=true from rfl];refine fU (ed rfl (fU (ed (eJ _ _ _) (fU (ed (a.ld 0 rfl rfl) (zci ?_))))));rw[nR,fj];obtain⟨y,z,M⟩:=a.ZS (E:=eN) (xs:=[B.cond]) (n:=1) ey rfl (xU F h' [B.cond]) false;have C3:=C2.since z y;refine ed rfl (uS ?_);refine IB C3 M (by simp) (λw N=>by obtain rfl:=Jd.1 N;exact r) (ed rfl ?_);exact H _ _ (e.trans z) y.tail
 ·refine gj (gi (by omega) ?_);refine gj (gi (by omega) ?_);refine gj (gw (by omega) ?_);refine oF (a.ld 0 rfl rfl) (ed d.len (hZ ?_));rw[o,show decide ((([]:List Nat).length:Int)=0)=true from rfl];refine fU (ed (eJ _ _ _) (fU (ed (a.ld 0 rfl rfl) (fU (ed rfl (fU (ed (fX _ _) (fU (ed (eJ _ _ _) (fU (ed (eJ _ _ _) (fU (ed (C2.ld 4 rfl) (fU (ed C2.u.s.len (uS ?_))))))))))))))));refine zy ⟨jj _,?_⟩;rw[J6 r];exact ed rfl (H _ _ e a.tail)
theorem zbn(g:Good u)(C:Ck F h cs lc u vv vb vs bl pl Fo){i:Nat}{B:Bk}(I:u.blocks[i]? =some B)(H:∀F' h',Sn F h F' h'->en F' h' cs->Q (.bool true) h'):cP CS mY [.ptr lc 0,.I i] h Q:=by
 refine IG rfl rfl ?_;unfold Bb;have nv:=g.nv;have nb:=g.nb;have r2:∀p d,Sn F h p d->en p d cs->mZ CS Q (.ptr lc 0) (.I i) d:=by
  intro p d q J;have C1:=C.since q J;refine Fy ?_;unfold yn;obtain⟨l7,o7,bv,bn,bp,_,i1,i2,iv,r,ip,_⟩:=C1.u.nW I;refine ed (fX _ _) (ed (eJ _ _ _) (oF (C1.ld 3 rfl) (ed i1 (ed i2 ?_))));refine iG C1.H rfl rfl (by simp only[kr,eQ,iv.one,r.one,ip.one];rfl) λK L M=>?_;have C2:=C1.cons M L;have r:=r.since M;refine oF (L.ld 0 rfl rfl) (ed r.len ?_);have al:B.next.length<=2:=by
   rcases g.fin i B I with⟨_,h⟩|⟨_,h,_⟩|⟨_,h,_⟩
   ·omega
   ·omega
   ·rw[h];simp
  refine ES (λk s x7 t w y h'=>∃j:Nat,s = .ptr lc 0/\x7 = .ptr d.next 0/\t=bn/\w = .I B.next.length/\y = .I (j:Nat)/\j+k=B.next.length/\h' = K) ?_ (k:=B.next.length) ⟨0,rfl,rfl,rfl,rfl,rfl,by omega,rfl⟩;rintro k s x7 t w y h' ⟨j,rfl,rfl,rfl,rfl,rfl,hk,rfl⟩;unfold yd;by_cases hj:j<B.next.length;rotate_left
  ·exact iI (H _ _ (q.trans M) L.tail)
  refine gG ?_;obtain⟨l8,o8,_,N,O⟩:=r.nat (gP hj) .i64;have z:B.next[j]∈next u i:=by unfold next;rw[I];exact zq hj
  have P:B.next[j]<u.blocks.length:=g.nx i _ z;obtain⟨n,a⟩:∃n,u.blocks[B.next[j]]? =some n:=⟨_,gP P⟩
  obtain ⟨l9,o9,R,S,A,_,l,_,_,_,f,m⟩:=C2.u.nW a;refine ed N (ed O (oF (L.ld 0 rfl rfl) (ed (gQ _ _ _ _) ?_)));have e:jZ (.bool (((B.fin:Nat):Int) == 2)) (oB (some (V.ptr lc 0)) λT=>oB (ij T) λU=>oB (fH 0 U) λW=>oB (fH 3 W) λX=>oB (ez X h') λY=>oB (some (V.I (B.next[j]:Nat))) λZ=>oB (gD 6 Y Z) λaa=>oB (fH 4 aa) λab=>oB (ez ab h') λac=>oB (fF ac) λae=>eo .neq 3 ae (V.I 1))=some (.bool false):=by
   have l1:ez (.ptr lc (0+0+3)) h' = some vb:=C2.ld 3 rfl;have l2:ez (.ptr l9 (o9+4)) h' = some A:=m.fg;simp only[fj,fX,eJ,l1,l,l2,f.len,tu,jU];congr 2;rw[wBw];intro o;simp only[uZ,z8,X1]at o;have d:=g.Mr i B I (by omega) (B.next[j]) (zq hj);rw[g.fg _ _ a,d]at o;exact o.2 rfl
  refine ed e (js (gi (by simp) ?_));exact fN ⟨k-1,by omega,j+1,rfl,rfl,rfl,rfl,rfl,by omega,rfl⟩
 by_cases hi:i=0;rotate_left
 ·exact gj (gi (by omega) (r2 F h (Sn.refl _ _) C.H))
 refine gj (gw (by omega) ?_);have lA:gg 5 (.ptr lc 0) h=some (.agg (uC u vv vb vs)):=by
  obtain⟨j,ty,hc⟩:=C.c;rw[ET (C.H.get j hc),Fz (by simp)];rfl
 refine ed (fX _ _) (ed (eJ _ _ _) (ed lA ?_));refine Qg g C.H C.u λp d v q J r1=>?_;have lr:=r1.len;rw[CD,Xe]at lr;refine ed lr ?_;have C1:=C.since q J;refine Ez (λk s x1 D E G h'=>∃j:Nat,s = .ptr lc 0/\x1 = .I i/\D=v/\E = .I u.blocks.length/\G = .I (j:Nat)/\j+k=u.blocks.length/\h' = d) ?_ (k:=u.blocks.length) ⟨0,rfl,rfl,rfl,rfl,rfl,by omega,rfl⟩;rintro k s x1 D E G h' ⟨j,rfl,rfl,rfl,rfl,rfl,hk,rfl⟩;unfold xN;by_cases hj:j<u.blocks.length;rotate_left
 ·exact iI (r2 p h' q J)
 refine gG ?_;obtain⟨n,a⟩:∃n,u.blocks[j]? =some n:=⟨_,gP hj⟩
 obtain ⟨l8,o8,w8,_,N,O,j3⟩:=r1.list (i:=j) (x:=Un.ahead u j) (by simp[hj]) .i64;obtain⟨l9,o9,R,S,A,_,l,_,_,_,f,m⟩:=C1.u.nW a;have am:(Un.ahead u j).length<=700:=by
  rw[<-oE];have:=oG g (i:=u.blocks.length) (j:=0) (b:=j) (jj _) (by omega);omega
 rw [g.fg j n a]at f;refine ed N (ed O (ed (fX _ _) (ed (eJ _ _ _) (oF (C1.ld 3 rfl) (ed l (oF m.fg ?_))))));refine VV j3 f (by omega) (ed rfl ?_);have e:oD (.bool (!true)) (oB (some (V.I j)) λag=>oB (eo .eql 3 ag (V.I 0)) λah=>oB (some ah) λai=>jZ ai (oB (some w8) λaj=>oB (fF aj) λak=>eo .gtr 3 ak (V.I 0)))=some (.bool false):=by
  simp only[wCG,mn,fj,gQ,j3.len,nf,jU];congr 2;rw[wBw];intro o;simp only[uZ,z8,AW]at o;obtain⟨d,K⟩:=o;obtain rfl:j=0:=by omega
  rw[g.JZ]at K;simp at K
 refine ed e (js (gi (by simp) ?_));exact fN ⟨k-1,by omega,j+1,rfl,rfl,rfl,rfl,rfl,by omega,rfl⟩
end
open Un Dm
section
variable{F F':Nat->Prop}{h h':Hp}{cs:List Pc}{Q:fy}{u:U}{vv vb vs:V}
theorem en.stF{α:Type}{E:qA α}{ty:Nat}{xs:List α}{v:V}(H:en F h cs)(i:Nat)(hi:cs[i]? =some (eR E ty xs v)){k j:Nat}{y:α}{a:V}(c:k<xs.length)(d:j<E.sz)(e:a.one=true)(f:∀w,E.rel F h xs[k] w->E.rel F h y (w.set j a)) :
  ∃l h',gD E.sz v (.I k)=some (.ptr l (k*E.sz))/\gK 1 (.ptr l (k*E.sz+j)) a h=some (.val .undef h')/\h.next<=h'.next/\en F h' (cs.set i (eR E ty (xs.set k y) v))/\Sn F h F h':=by
 obtain⟨t,h',o,g,m,n,b⟩:=(H.row i hi).store (k:=j) (y:=y) (u:=a) c d e f;exact⟨t,h',g,m,b.next,H.G9 hi b n λ_ h=> .inl h⟩
theorem en.KO{ty:Nat}{xs:List Nat}{v:V}(H:en F h cs)(i:Nat)(hi:cs[i]? =some (eR eN ty xs v)){k x:Nat}(a:xs[k]? =some x)(kd:IntKind):∃l o,gD 1 v (.int kd (k:Nat))=some (.ptr l o)/\ez (.ptr l o) h=some (.I x):=by
 obtain⟨l,o,_,b,c⟩:=(H.row i hi).read.nat a kd;exact⟨l,o,b,c⟩
theorem en.RD{ty:Nat}{xs:List Int}{v:V}(H:en F h cs)(i:Nat)(hi:cs[i]? =some (eR eZ ty xs v)){k:Nat}{x:Int}(a:xs[k]? =some x)(kd:IntKind):∃l o,gD 1 v (.int kd (k:Nat))=some (.ptr l o)/\ez (.ptr l o) h=some (.I x):=by
 obtain⟨l,o,_,b,c⟩:=(H.row i hi).read.int a kd;exact⟨l,o,b,c⟩
theorem en.GV{ty:Nat}{xs:List Bool}{v:V}(H:en F h cs)(i:Nat)(hi:cs[i]? =some (eR eB ty xs v)){k:Nat}{x:Bool}(a:xs[k]? =some x)(kd:IntKind):∃l o,gD 1 v (.int kd (k:Nat))=some (.ptr l o)/\ez (.ptr l o) h=some (.bool x):=by
 obtain⟨l,o,_,b,c⟩:=(H.row i hi).read.bool a kd;exact⟨l,o,b,c⟩
theorem Si{ty:Nat}{xs:List Nat}{v:V}(l:en F h (eR eN ty xs v::cs))(h0:0<xs.length)(N:xs.length<1000000)(H:∀h',Sn F h F h'->en F h' (eR eN ty xs.reverse v::cs)->Q (.tuple []) h') :
  cP CS kV [v] h Q:=by
 refine Bs rfl rfl ?_;unfold tG;refine ed (l.len 0 rfl) (xK (by omega) h0 ?_)
 refine ze (λk m n o h'=>∃(i:Nat) (ys:List Nat),m=v/\n = .I i/\o = .I ((xs.length-1-i:Nat):Int)/\i+k=xs.length/\2*i<=xs.length/\ys.length=xs.length/\
  (∀p,p<xs.length->ys[p]? =if p<i\/xs.length-i<=p then xs[xs.length-1-p]? else xs[p]?)/\Sn F h F h'/\en F h' (eR eN ty ys v::cs)) ?_ (k:=xs.length)
  ⟨0,xs,rfl,rfl,by rw[Nat.sub_zero],by omega,by omega,rfl,λp hp=>by rw[if_neg (by omega)],Sn.refl _ _,l⟩
 rintro k m n o A ⟨i,ys,rfl,rfl,rfl,O,B,C,hp,q,f⟩;unfold pI;by_cases hij:i<xs.length-1-i
 ·refine gG ?_;obtain⟨a,r⟩:∃a,ys[i]? =some a:=⟨_,gP (by omega)⟩
  obtain⟨b,s⟩:∃b,ys[xs.length-1-i]? =some b:=⟨_,gP (by omega)⟩
  obtain⟨l1,P,D,E⟩:=f.KO 0 rfl s .i64;obtain⟨l2,R,G,I⟩:=f.KO 0 rfl r .i64;refine ed D (ed E (ed G (ed I ?_)));obtain⟨l3,S,T,g,j,e3,t,J⟩:=f.Ig 0 rfl (k:=i) (y:=b) (u:=V.I b) (by omega) rfl rfl rfl;refine ed g ?_;rw[j,ei];simp only[iY]at t;obtain⟨l4,U,W,K,L,M,w,s4⟩:=t.Ig 0 rfl (k:=xs.length-1-i) (y:=a) (u:=V.I a) (by simp;omega) rfl rfl rfl;refine⟨e3,ed K ?_⟩;rw[L,ei];simp only[iY]at w;refine⟨M,fN (xK (by omega) (by omega) ?_)⟩;refine⟨k-1,by omega,i+1,(ys.set i b).set (xs.length-1-i) a,rfl,rfl,by rw[show xs.length-1-(i+1)=xs.length-1-i-1 by omega],by omega,by omega,by simp[C],λp d=>?_,(q.trans J).trans s4,w⟩;have x:=hp i (by omega);rw[if_neg (by omega),r]at x;have z:=hp (xs.length-1-i) (by omega);rw[if_neg (by omega),s]at z;by_cases g:p=xs.length-1-i
  ·subst g;rw[EK (by simp;omega),if_pos (by omega),show xs.length-1-(xs.length-1-i)=i by omega];exact x
  ·rw [C8 λh=>g h.symm];by_cases j:p=i
   ·subst j;rw[EK (by omega),if_pos (by omega)];exact z
   ·rw[C8 λh=>j h.symm,hp p d];by_cases c:p<i\/xs.length-i<=p
    ·rw[if_pos c,if_pos (by omega)]
    ·rw[if_neg c,if_neg (by omega)]
 ·refine iI ?_;have e:ys=xs.reverse:=by
   refine wBv λp=>?_;by_cases d:p<xs.length
   ·rw[hp p d,List.getElem?_reverse d];by_cases c:p<i\/xs.length-i<=p
    ·rw[if_pos c]
    ·rw[if_neg c,show xs.length-1-p=p by omega]
   ·rw[KT (by omega),KT (by simp;omega)]
  subst e;exact H A q f
theorem W0{α:Type}(s:List α)(x y:α):(s++[x]).set s.length y=s++[y]:=by simp
structure zbf (u:U):Prop where
 OC:1<=u.blocks.length
 nb:u.blocks.length<=300
 nx:∀(b:Nat),∀t∈next u b,t<u.blocks.length
 two:∀(b:Nat) (B:Bk),u.blocks[b]? =some B->B.next.length<=2
theorem NM(g:Good u):zbf u:=⟨g.OC,g.nb,g.nx,λb B a=>by
 rcases g.fin b B a with⟨_,h⟩|⟨_,h,_⟩|⟨_,h,_⟩
 ·omega
 ·omega
 ·rw[h];simp⟩
theorem iC.nW{bs:List Bk}(a:iC eK F h bs vb){i:Nat}{x:Bk}(c:bs[i]? =some x) :
  ∃l o v n p,F l/\gD 6 vb (.I i)=some (.ptr l o)/\gg 6 (.ptr l o) h=some (.agg (kr x v n p))/\iC eN F h x.ef v/\iC eN F h x.next n/\iC eN F h x.fg p/\zcU h l o x v n p:=by
 obtain⟨hi,rfl⟩:=iR.1 c;obtain⟨l,o,w,d,e,f,⟨v,n,p,rfl,g,j,k⟩,b⟩:=a.ix hi .i64;exact⟨l,o,v,n,p,d,e,f,g,j,k,⟨b 0 _ rfl,b 1 _ rfl,b 2 _ rfl,b 3 _ rfl,b 4 _ rfl,b 5 _ rfl⟩⟩
theorem NR(g:zbf u)(H0:en F h cs)(ho:gv (uC u vv vb vs)=true)(Z:iC eK F h u.blocks vb)(H:∀h' v seen post,Sn F h F h'->en F h' (eR eN ey post.reverse v::cs)->Ie u.blocks.length (next u) seen post []->Q v h') :
  cP CS qe [.agg (uC u vv vb vs)] h Q:=by
 refine QD rfl rfl ?_;unfold Kx;have nb:=g.nb;have OC:=g.OC;have C:∀b,b<u.blocks.length->∀t∈next u b,t<u.blocks.length:=λb _ t A=>g.nx b t A
 refine mH H0 ho λD H1 s1=>?_;refine oF (H1.ld 0 rfl rfl) (ed (Z.since s1).len ?_);rw[jQ (z:=V.bool false) rfl (by decide) (by omega),fE];obtain⟨H2,s2⟩:=H1.make (E:=eB) (ty:=jd) (y:=false) (u:=V.bool false) u.blocks.length rfl rfl;have I:=s1.trans s2;refine oF (H2.ld 1 rfl rfl) (ed (Z.since I).len ?_);refine DY (gw (by omega) ?_);refine ed (show _=some (V.agg [.I 0,.I 0]) from rfl) ?_;generalize D.new (.cells jd 1 true false (List.replicate u.blocks.length (V.bool false)))=h2 at*;have J:∀a b:Nat,jt wI 2 1 (V.agg [(V.I 0),(V.I 0)]) [(0,V.agg [.I (a:Nat),.I (b:Nat)])]=some (.cells wI 2 true false [.I (a:Nat),.I (b:Nat)],λl=> .slice l 0 1):=λa b=>pP rfl rfl rfl;have aa:jt wI 2 1 (V.agg [(V.I 0),(V.I 0)]) [(0,V.agg [.I 0,.I 0])]=some (.cells wI 2 true false [.I ((0:Nat):Int),.I ((0:Nat):Int)],λl=> .slice l 0 1):=J 0 0;rw[aa,fE]
 have H3:en F h2 (eR eW wI [] .ee::eR eN ey [] .ee::eR eB jd (List.replicate u.blocks.length false) (.slice D.next 0 u.blocks.length)::ev h.next 30 (uC u vv vb vs)::cs):=
  (H2.add (p:=eR eN ey [] .ee) .nil λ_ h=>h).add (p:=eR eW wI [] .ee) .nil λ_ h=>h
 obtain⟨v4,h4,e4,n4,H4,s4⟩:=H3.tU 0 rfl (jM:=16) (BN:=wI) (y:=(0,0)) (w:=[.I ((0:Nat):Int),.I ((0:Nat):Int)]) (ro:=false) rfl (by decide) (by decide) (by simp);have ab:fe 123 2 16 V.ee (.slice h2.next 0 1) (h2.new (.cells wI 2 true false [.I ((0:Nat):Int),.I ((0:Nat):Int)]))=some (.val v4 h4):=e4;rw[ab,ei];simp only[iY,OO]at H4;obtain⟨l5,o5,h5,e5,e6,n5,H5,s5⟩:=H4.Ig 2 rfl (k:=0) (y:=true) (u:=V.bool true) (by simp;omega) rfl rfl rfl;refine ed e5 ?_;rw[e6,ei];simp only[lj,iY]at H5;refine Lk ?_;unfold FA;have ac:=(I.trans s4).trans s5
 refine L8 (λk x1 x3 x4 K h'=>∃(seen:List Bool) (post:List Nat) (stack:List (Nat×Nat)),x1 = .ptr h.next 0/\x3 = .slice D.next 0 u.blocks.length/\k=mu u.blocks.length (next u) seen stack/\Ie u.blocks.length (next u) seen post stack/\Sn F h F h'/\
  en F h' (eR eW wI stack K::eR eN ey post x4::eR eB jd seen (.slice D.next 0 u.blocks.length)::ev h.next 30 (uC u vv vb vs)::cs)) ?_ (k:=mu u.blocks.length (next u) ((List.replicate u.blocks.length false).set 0 true) [(0,0)])
  ⟨_,[],[(0,0)],rfl,rfl,rfl,Ie.start (by omega) C,ac,H5⟩
 rintro k x1 x3 x4 K h6 ⟨seen,post,stack,rfl,rfl,hk,G,L,e⟩;unfold Fk;have M:=G.nodup;have aA:post.length<=u.blocks.length:=jK _ _ (WO.1 M).1 G.pre;have lT:stack.length<=u.blocks.length:=by
  have:=jK u.blocks.length _ (WO.1 M).2.1 λx hx=>by
   obtain⟨y,hy,rfl⟩:=K4.1 hx;exact(G.range y hy).1
  simpa using this
 refine ed (e.len 0 rfl) ?_;rcases lB stack with rfl|⟨s,⟨b,i⟩,rfl⟩
 ·refine DY (gi (by simp) ?_);have ae:0<post.length:=by
   obtain⟨p,hp⟩:=G.last rfl;rw[hp];simp
  refine Si e.tail ae (by omega) λh7 U f=>?_;exact H _ _ seen post (L.trans U) f.IF.IF G
 have ay:s.length+1<=u.blocks.length:=by simpa using lT
 refine DY (gw (by simp <;> omega) ?_);have hlen:(s++[(b,i)]).length-1=s.length:=by simp
 have m:s.length<(s++[(b,i)]).length:=by simp
 have N:(s++[(b,i)])[s.length]'m=(b,i):=by simp
 obtain⟨ag,ah⟩:=G.range (b,i) (by simp);obtain⟨B,hB⟩:∃B,u.blocks[b]? =some B:=⟨_,gP ag⟩
 have d:next u b=B.next:=by unfold next;rw[hB]
 simp only[d]at ah;refine ed (e.len 0 rfl) (xK (by omega) (by simp) ?_);rw[hlen];obtain⟨l7,h7,W,e8,n7,f,U⟩:=e.stF 0 rfl (k:=s.length) (j:=1) (y:=(b,i+1)) (a:= .I ((i+1:Nat):Int)) m (by decide) rfl (λw X=>by
  rw[N]at X;have X:w=[.I b,.I i]:=X;subst X;rfl)
 have W:gD 2 K (.I s.length)=some (.ptr l7 (s.length*2)):=W;obtain⟨l8,o8,w8,Y,i2,i3,i4⟩:=e.ix 0 rfl m .i64;rw[N]at i3;obtain rfl:w8=[.I b,.I i]:=i3;have Y:gD 2 K (.I s.length)=some (.ptr l8 o8):=Y;rw[W]at Y;obtain⟨rfl,rfl⟩:l7=l8/\s.length*2=o8:=by
  have:=Option.some.inj Y;cases this;exact⟨rfl,rfl⟩
 have ib:=i4 0 _ rfl;have ii:=i4 1 _ rfl;obtain⟨lb,ob,bv,bn,bp,_,b1,b2,iv,iN,ip,ba⟩:=(Z.since L).nW hB;refine ed W (oF (e.ld 3 rfl rfl) (oN ib (ed b1 (oF ba.next ?_))));refine oN ii (ed iN.len ?_);by_cases hi:i=B.next.length
 ·refine gj (gw (by omega) ?_);refine oN ib ?_;rw[nR,fE];obtain⟨v9,h9,e9,n9,H9,s9⟩:=e.tU 1 rfl (jM:=8) (BN:=3) (y:=b) (w:=hO [b]) (ro:=false) rfl (by decide) (by decide) (by omega);have ai:fe 3 1 8 x4 (.slice h6.next 0 1) (h6.new (.cells 3 1 true false (hO [b])))=some (.val v9 h9):=e9;rw[ai,ei];simp only[lj,iY]at H9;refine ed (H9.len 0 rfl) (xK (by omega) (by simp) ?_);rw[hlen];obtain⟨aB,o,c⟩:=H9.zaV 0 rfl (n:=s.length) (by simp);refine ed o ?_;simp only[iY]at c;have et:(s++[(b,i)]).take s.length=s:=by simp
  rw[et]at c;exact⟨_,by rw[hk];exact zaE,seen,post++[b],s,rfl,rfl,rfl,G.pop (by rw[d];exact hi),L.trans s9,c⟩
 refine gj (gi (by omega) ?_);have r:i<B.next.length:=by omega
 have aC:B.next.length<=2:=g.two b B hB;have A:(next u b)[i]? =some B.next[i]:=by rw[d];exact gP r
 have aj:B.next[i]<u.blocks.length:=g.nx b _ (by rw[d];exact zq r);obtain⟨l9,o9,_,j1,j2⟩:=iN.nat (gP r) .i64;refine oN ii (ed j1 (ed j2 ?_));refine oN ii (fN ?_);refine ed (fX _ _) (ed (eJ _ _ _) ?_);have e8:gK 1 (.ptr l7 (s.length*2+1)) (.I ((i+1:Nat):Int)) h6=some (.val .undef h7):=e8;rw[e8,ei];simp only[iY,W0]at f;have ak:seen.length=u.blocks.length:=G.len;have O:=f.len 2 (xs:=seen) rfl;rw[ak]at O;refine ed O (zy ?_);rw[J6 aj];obtain⟨q,hq⟩:∃q,seen[B.next[i]]? =some q:=⟨_,gP (show B.next[i]<seen.length by omega)⟩
 obtain ⟨lq,oq,q1,q2⟩:=f.GV 2 rfl hq .i64;have ea:jZ (.bool true) (oB (some (V.slice D.next 0 u.blocks.length)) λal=>oB (some (V.I (B.next[i]:Nat))) λam=>oB (gD 1 al am) λan=>oB (ez an h7) λao=>qz .not ao)=some (.bool (!q)):=by
  simp only[mq,fj,q1,q2,Y5]
 refine ed ea (js ?_)
 cases q with
 | true=>
   refine gi (by simp) ?_
   exact⟨_,by rw[hk];exact ZM A,seen,post,s++[(b,i+1)],rfl,rfl,rfl,G.skip A hq,L.trans U,f⟩
 | false=>
   refine gw rfl ?_;have P:¬pW seen B.next[i]:=by unfold pW;rw[hq];simp
   obtain⟨l10,aD,R,o,ap,aE,c,aq⟩:=f.Ig 2 rfl (k:=B.next[i]) (y:=true) (u:=V.bool true) (by omega) rfl rfl rfl;refine ed o ?_;rw[ap,ei];simp only[lj,iY]at c;refine ed (show _=some (V.agg [.I (B.next[i]:Nat),.I ((0:Nat):Int)]) from rfl) ?_;rw[J,fE];obtain⟨ar,au,aw,aF,S,ax⟩:=c.tU 0 rfl (jM:=16) (BN:=wI) (y:=(B.next[i],0)) (w:=[.I (B.next[i]:Nat),.I ((0:Nat):Int)]) (ro:=false) rfl (by decide) (by decide) (by simp;omega);have T:fe 123 2 16 K (.slice R.next 0 1) (R.new (.cells wI 2 true false [.I (B.next[i]:Nat),.I ((0:Nat):Int)]))=some (.val ar au):=aw;rw[T,ei];simp only[iY]at S;exact⟨_,by rw[hk];exact YH G A P,_,post,s++[(b,i+1)]++[(B.next[i],0)],rfl,rfl,rfl,G.push A P,((L.trans U).trans aq).trans ax,S⟩
theorem PI(g:Good u)(c:en F h cs)(a:A0 F h u vv vb vs)(H:∀F' h' v seen post,Sn F h F' h'->en F' h' cs->Ie u.blocks.length (next u) seen post []->iC eN F' h' post.reverse v->Q v h') :
  cP CS qe [.agg (uC u vv vb vs)] h Q:=
 NR (NM g) c a.one a.b λh' v seen post d e G=>by
  obtain⟨f,i,j⟩:=e.lO 0 rfl;exact H _ _ v seen post (d.trans i) f.tail G j
end
