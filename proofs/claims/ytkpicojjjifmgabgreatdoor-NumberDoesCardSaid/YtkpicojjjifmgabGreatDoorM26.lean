/- Parts. -/
import Derived.Test.YtkpicojjjifmgabGreatDoorM25
set_option maxHeartbeats 4000000
namespace Go.Proofs.YtkpicojjjifmgabGreatDoor.Hx
open Un Dm
theorem WO(h:Hp):∀op:Nat,1<=op->op<=23->∃s,s≠[]/\CS.K EW [.I (op:Nat)] h=some (.str s)
 |0,h,_=>by omega
 |1,_,_=>⟨_,by decide,rfl⟩
 |2,_,_=>⟨_,by decide,rfl⟩
 |3,_,_=>⟨_,by decide,rfl⟩
 |4,_,_=>⟨_,by decide,rfl⟩
 |5,_,_=>⟨_,by decide,rfl⟩
 |6,_,_=>⟨_,by decide,rfl⟩
 |7,_,_=>⟨_,by decide,rfl⟩
 |8,_,_=>⟨_,by decide,rfl⟩
 |9,_,_=>⟨_,by decide,rfl⟩
 |10,_,_=>⟨_,by decide,rfl⟩
 |11,_,_=>⟨_,by decide,rfl⟩
 |12,_,_=>⟨_,by decide,rfl⟩
 |13,_,_=>⟨_,by decide,rfl⟩
 |14,_,_=>⟨_,by decide,rfl⟩
 |15,_,_=>⟨_,by decide,rfl⟩
 |16,_,_=>⟨_,by decide,rfl⟩
 |17,_,_=>⟨_,by decide,rfl⟩
 |18,_,_=>⟨_,by decide,rfl⟩
 |19,_,_=>⟨_,by decide,rfl⟩
 |20,_,_=>⟨_,by decide,rfl⟩
 |21,_,_=>⟨_,by decide,rfl⟩
 |22,_,_=>⟨_,by decide,rfl⟩
 |23,_,_=>⟨_,by decide,rfl⟩
 |n+24,_,h=>by omega
theorem zej{h:Hp}{X:Option (V×Hp)}{K:fD}(H:oP X λy=>K y.1 y.2):oP (fF true (.bool true)) λb=>ghP b h X K:=H
section
variable{F F':Nat->Prop}{h h':Hp}{cs:List Pc}{Q:fD}{u:U}{vv vb vs:V}{lc:Nat}{bl pl GD:V}
theorem zaS{op:Nat}(a:1<=op)(b:op<=23)(H:∀s,s≠[]->Q (.str s) h):cP CS EW [.I op] h Q:=by
 obtain⟨fn,c,d,hb⟩:=Sg;obtain⟨s,hs,e⟩:=WO h op a b;exact cP.known d hb e rfl rfl (H s hs)
theorem Rx{lv:Nat}{x:Vl}{w v:V}{ys:List Vl}(u:eo F h (eQ lv hH (mF x w)::cs))(m:im eV F h ys v)(J:ys.length<1000000)(z:∀y∈ys,¬(y.op=1/\y.n=x.n))
  (H:∀h',Sn F h F h'->eo F h' (eQ lv hH (mF x w)::cs)->Q (.bool false) h'):cP CS ig [v,.func jY [] [.ptr lv 0]] h Q:=by
 refine rX rfl rfl ?_;unfold mM;refine vy rfl rfl ?_;unfold nP;refine eh m.len ?_
 refine rV (λk p q r s h'=>∃i:Nat,p=v/\q = .func jY [] [.ptr lv 0]/\r = .I ys.length/\s = .I (i:Nat)/\i+k=ys.length/\Sn F h F h'/\eo F h' (eQ lv hH (mF x w)::cs)) ?_ (k:=ys.length)
  ⟨0,rfl,rfl,rfl,rfl,by omega,Sn.refl _ _,u⟩
 rintro k p q r s h' ⟨i,rfl,rfl,rfl,rfl,K,f,t⟩;unfold mG;by_cases hi:i<ys.length;rotate_left
 ·refine iQ ?_;refine eh (pP _ _ _ _) ?_;exact H h' f t
 refine gK ?_;obtain⟨l,o,c,_,A,B,⟨a,rfl,C⟩,_⟩:=(m.since f).ix hi .i64;refine eh A (eh B ?_);show cP CS jY [.agg (mF ys[i] a),.ptr lv 0] h' _;refine Iv rfl rfl ?_;unfold z9;refine jH t (by simp only[mF,eJ,C.one];rfl) λb d D=>?_;refine eh (by rfl) (eh (d.ld 0 rfl rfl) (eh (by rfl) ?_));have e:kE (.bool (((ys[i].op:Nat):Int) == 1)) (oB (fJ 3 (.ptr h'.next 0)) λE=>oB (fe E b) λG=>oB (fJ 3 (.ptr lv 0)) λg=>oB (fe g b) λj=>ez .eql 2 G j)=some (.bool false):=by
  have l1:fe (.ptr h'.next (0+3)) b=some (.I ys[i].n):=d.ld 0 rfl rfl;have l2:fe (.ptr lv (0+3)) b=some (.I x.n):=d.ld 1 rfl rfl;simp only[fM,fo,l1,l2,g0,j8];congr 2;rw[wBj];intro I;simp only[vH,Cw]at I;exact by grind
 refine eh e (jj (gh (by simp) ?_));exact fL ⟨k-1,by omega,i+1,rfl,rfl,rfl,rfl,by omega,f.trans D,d.tail⟩
theorem Zg{lv:Nat}{x:Vl}{w:V}{a0:V}(a:a0 = .ptr lc 0)(C:Ck F h (eQ lv hH (mF x w)::cs) lc u vv vb vs bl pl GD)(G:leaves x.op=true->x.state<u.ev.length)(hc:lv≠lc)(H:fe (.ptr lv 5) h=some (.I x.state)){K:fD}(D:K (.bool false) h) :
  oP (fF true (.bool (leaves x.op))) λb=>
  oP (gV b (fJ 5 (.ptr lv 0))) λc=>
  oP (fF true (.bool (leaves x.op))) λd=>
  oP (gV d (fe c h)) λe=>
  oP (fF true (.bool (leaves x.op))) λf=>
  oP (gV f (some a0)) λg=>
  oP (fF true (.bool (leaves x.op))) λi=>
  oP (gV i (iL g)) λj=>
  oP (fF true (.bool (leaves x.op))) λk=>
  oP (gV k (fJ 0 j)) λl=>
  oP (fF true (.bool (leaves x.op))) λm=>
  oP (gV m (fJ 4 l)) λn=>
  oP (fF true (.bool (leaves x.op))) λo=>
  oP (gV o (fe n h)) λp=>
  oP (fF true (.bool (leaves x.op))) λq=>
  oP (gV q (fI p)) λr=>
  oP (fF true (.bool (leaves x.op))) λt=>
  oP (gC t (some (lj,[e,r]))) λv=>qP CS v h λy E=>
  (h.next<=E.next/\
  oP (fF true (.bool (leaves x.op))) λz=>
  oP (gV z (qf .not y)) λA=>
  oP (og (.bool false) (jB (.bool (leaves x.op)) A (V.bool false))) λB=>K B E):=by
 subst a
 cases hq:leaves x.op with
 | true=>
   have:=G hq;refine fY (eh (by rfl) (fY (eh H (fY (eh rfl (fY (eh (fZ _ _) (fY (eh (by rfl) (fY (eh (by rfl) (fY (eh (C.ld 4 rfl) (fY (eh C.u.s.len (vS ?_))))))))))))))));refine A6 ⟨jO _,fY ?_⟩;rw[JM this]
   exact eh rfl (eh rfl D)
 |false=>exact iu (iu (iu (iu (iu (iu (iu (iu (GL ⟨jO _,iu (eh rfl D)⟩))))))))
theorem zc9(g:Good u)(C:Ck F h cs lc u vv vb vs bl pl GD){xs ys:List Int}(t:im eZ F h xs bl)(S:Std u u.blocks.length 0 xs ys){i:Nat}(hi:i<u.ej.length)(O:lc<h.next)
  (H:∀F' h',Sn F h F' h'->eo F' h' cs->Q (.bool true) h'):cP CS kQ [.ptr lc 0,.I i] h Q:=by
 refine J6 rfl rfl ?_;unfold xH;have nv:=g.nv;have nb:=g.nb;obtain⟨x,hx⟩:∃x,u.ej[i]? =some x:=by simp_all
 obtain ⟨b,k,d⟩:=g.Ef i hi trivial;obtain⟨B,q,Y⟩:=id d;have l:=g.op i x hx;have o:=g.use i x hx;have z:B.fi.length<=700:=by
  rw[g.fi b B q,<-pY];have:=pZ g (i:=u.blocks.length) (j:=0) (b:=b) (jO _) (by omega);omega
 have A:x.op=21\/x.op=20->x.args.length<=700:=by
  rintro(D|D)
  ·rw[(g.KN _ _ _ _ _ d hx D q).2];exact z
  ·rw[g.putAt i x hx D];omega
 obtain⟨l1,Z,w,_,P,R,M,_⟩:=C.u.val hx;refine eh (fZ _ _) (eh (by rfl) (eh (by rfl) (eh (C.ld 2 rfl) (eh P (eh R ?_)))));refine gZ C.H rfl rfl (by simp only[mF,eJ,M.one];rfl) λh2 r E=>?_;have C2:=C.cons E r;have f:=M.since E;refine eh (by rfl) (eh (r.ld 0 rfl rfl) ?_);refine zaS l.1 l.2 λs hs=>⟨jO _,?_⟩
 refine eh (by rfl) ?_;rw[show(s == [])=false from Wc.2 hs];refine fG (eh rfl (fG (eh (r.pC 0 rfl rfl) (pW ?_))));refine KA r f (by omega) λF3 N v p a r3=>⟨p.next,?_⟩
 have C3:=C2.since p a;have c:=E.trans p;refine pW (Ka C3 r3 (by grind[KI]) o ⟨jO _,eh rfl ?_⟩);refine fG (eh (by rfl) (fG (eh (a.ld 0 rfl rfl) (pW ?_))));refine Hm ⟨jO _,fG (eh rfl ?_)⟩;refine Zg rfl C3 (g.leave i x hx) (by omega) (a.ld 0 rfl rfl) ?_;refine jj (gh (by simp) ?_);refine eh (by rfl) (eh (a.ld 0 rfl rfl) ?_);by_cases G:x.op=20
 ·refine gy (gz (by omega) ?_);refine eh (by rfl) (eh (a.ld 0 rfl rfl) (eh (f.since p).len (ir ?_)));rw[g.putAt i x hx G];exact H _ _ c a.tail
 refine gy (gh (by omega) ?_);by_cases I:x.op=21
 ·refine gy (gz (by omega) ?_);obtain⟨lb,ob,_,b1,b2⟩:=(t.since c).int ((S.yes i b k d (by grind)).1) .i64;obtain⟨l7,o7,bv,bn,bp,_,J,_,_,_,ip,T⟩:=C3.u.pE q;refine eh (by rfl) (eh (a.ld 0 rfl rfl) (eh (f.since p).len ?_));refine eh (fZ _ _) (eh (by rfl) (eh (by rfl) (eh (C3.ld 3 rfl) (eh (fZ _ _) (eh (by rfl) (eh (C3.ld 5 rfl) (eh b1 (eh b2 (eh J ?_)))))))));refine eh (by rfl) (eh T.fi (eh ip.len (ir ?_)));rw[(g.KN _ _ _ _ _ d hx I q).2,JM rfl];exact H _ _ c a.tail
 refine gy (gh (by omega) ?_);by_cases U:x.op=1
 ·refine gy (gz (by omega) ?_);obtain⟨p1,p2,p3⟩:=g.param i x hx U;refine eh (by rfl) (eh (a.ld 0 rfl rfl) (eh (by rfl) ?_));have e:kE (.bool (decide ((0:Int)<=x.n))) (oB (fJ 3 (.ptr h.next 0)) λK=>oB (fe K N) λL=>ez .lss 2 L (V.I 40))=some (.bool true):=by
   have l1:fe (.ptr h.next (0+3)) N=some (.I x.n):=a.ld 0 rfl rfl;simp only[fM,fo,l1,kX,j8];simp[p1,p2]
  refine eh e ?_;obtain⟨vc,W,r1⟩:=C3.u.v.cut (lo:=none) (hi:=some (.I i)) (m:=0) (n:=i) rfl (by rfl) (Mj _) (by omega);rw[ZT]at r1;refine fY (eh rfl (fY (eh (fZ _ _) (fY (eh (by rfl) (fY (eh (by rfl) (fY (eh (C3.ld 2 rfl) (fY (eh rfl (fY (eh W (fY (eh rfl (vS ?_))))))))))))))));refine Rx a r1 (by grind) (λy hy hh=>?_) λh4 s4 X=>eh rfl (H _ _ (c.trans s4) X.tail)
  grind[oY,ki,Mq,wBB]
 ·refine gy (gh (by omega) ?_);exact H _ _ c a.tail
theorem zaz(g:Good u)(C:Ck F h cs lc u vv vb vs bl pl GD){i:Nat}{B:Bk}(p:u.blocks[i]? =some B)(H:∀F' h',Sn F h F' h'->eo F' h' cs->Q (.bool true) h'):cP CS ny [.ptr lc 0,.I i] h Q:=by
 refine Jy rfl rfl ?_;unfold A4;have c:=g.fin i B p;have nv:=g.nv;have nb:=g.nb;obtain⟨l7,L,bv,bn,bp,_,y,z,A,d,ip,_⟩:=C.u.pE p;refine eh (fZ _ _) (eh (by rfl) (eh (by rfl) (eh (C.ld 3 rfl) (eh y (eh z ?_)))));refine gZ C.H rfl rfl (by simp only[km,eJ,A.one,d.one,ip.one];rfl) λD a e=>?_;have C2:=C.cons e a;have d:=d.since e;refine eh (by rfl) (eh (a.ld 0 rfl rfl) (eh d.len ?_));have G:B.next.length<=2:=by
  rcases c with⟨_,h⟩|⟨_,h,_⟩|⟨_,h,_⟩
  ·omega
  ·omega
  ·simp_all
 refine Gf (λk q r f l m h'=>∃j:Nat,q = .ptr lc 0/\r = .ptr h.next 0/\f=bn/\l = .I B.next.length/\m = .I (j:Nat)/\j+k=B.next.length/\h' = D) ?_ (k:=B.next.length) (by simp_all);rintro k q r f l m h' ⟨j,rfl,rfl,rfl,rfl,rfl,M,rfl⟩;unfold yw;by_cases hj:j<B.next.length
 ·refine gK ?_;obtain⟨l8,N,_,I,J⟩:=d.nat (iy hj) .i64;have K:B.next[j]<u.blocks.length:=g.nx i _ (by grind[next,AY]);refine eh I (eh J (eh (fZ _ _) (eh (by rfl) (eh (by rfl) (eh (C2.ld 3 rfl) (eh C2.u.b.len ?_))))));refine A6 (rP (gz (by simp_all) ?_));exact fL ⟨k-1,by omega,j+1,rfl,rfl,rfl,rfl,rfl,by omega,rfl⟩
 refine iQ ?_;refine eh (by rfl) (eh (a.ld 0 rfl rfl) ?_);rcases c with⟨t,o⟩|⟨t,o,v⟩|⟨t,o,v⟩
 ·refine gy (gz (by omega) ?_);refine eh (by rfl) (eh (a.ld 0 rfl rfl) (eh d.len (ir ?_)));rw[o];exact H _ _ e a.tail
 ·refine gy (gh (by omega) ?_);refine gy (gz (by omega) ?_);refine eh (by rfl) (eh (a.ld 0 rfl rfl) (eh d.len (ir ?_)));rw[o,show decide (((2:Nat):Int)=2)=true from rfl];refine fY (eh rfl (fY (eh (by rfl) (fY (eh (a.ld 0 rfl rfl) (zej ?_))))));rw[qB,fo];obtain⟨w,x,r3⟩:=a.za4 (E:=eN) (xs:=[B.cond]) (n:=1) eR rfl (zI F h' [B.cond]) false;have C3:=C2.since x w;refine eh rfl (vS ?_);refine Ka C3 r3 (by simp) (by simp_all) (eh rfl ?_);exact H _ _ (e.trans x) w.tail
 ·refine gy (gh (by omega) ?_);refine gy (gh (by omega) ?_);refine gy (gz (by omega) ?_);refine eh (by rfl) (eh (a.ld 0 rfl rfl) (eh d.len (ir ?_)));rw[o,show decide ((([]:List Nat).length:Int)=0)=true from rfl];refine fY (eh (by rfl) (fY (eh (a.ld 0 rfl rfl) (fY (eh rfl (fY (eh (fZ _ _) (fY (eh (by rfl) (fY (eh (by rfl) (fY (eh (C2.ld 4 rfl) (fY (eh C2.u.s.len (vS ?_))))))))))))))));refine A6 ⟨jO _,?_⟩;rw[JM v];exact eh rfl (H _ _ e a.tail)
theorem zcj(g:Good u)(C:Ck F h cs lc u vv vb vs bl pl GD){i:Nat}{B:Bk}(I:u.blocks[i]? =some B)(H:∀F' h',Sn F h F' h'->eo F' h' cs->Q (.bool true) h'):cP CS oW [.ptr lc 0,.I i] h Q:=by
 refine JZ rfl rfl ?_;unfold Cj;have nv:=g.nv;have nb:=g.nb;have r2:∀p d,Sn F h p d->eo p d cs->oL CS Q (.ptr lc 0) (.I i) d:=by
  intro p d q J;have C1:=C.since q J;refine GB ?_;unfold zp;obtain⟨l7,o7,bv,bn,bp,_,i1,i2,iv,r,ip,_⟩:=C1.u.pE I;refine eh (fZ _ _) (eh (by rfl) (eh (by rfl) (eh (C1.ld 3 rfl) (eh i1 (eh i2 ?_)))));refine gZ C1.H rfl rfl (by simp only[km,eJ,iv.one,r.one,ip.one];rfl) λK L M=>?_;have C2:=C1.cons M L;have r:=r.since M;refine eh (by rfl) (eh (L.ld 0 rfl rfl) (eh r.len ?_));have ak:B.next.length<=2:=by
   rcases g.fin i B I with⟨_,h⟩|⟨_,h,_⟩|⟨_,h,_⟩
   ·omega
   ·omega
   ·simp_all
  refine GY (λk s x7 t w y h'=>∃j:Nat,s = .ptr lc 0/\x7 = .ptr d.next 0/\t=bn/\w = .I B.next.length/\y = .I (j:Nat)/\j+k=B.next.length/\h' = K) ?_ (k:=B.next.length) (by simp_all);rintro k s x7 t w y h' ⟨j,rfl,rfl,rfl,rfl,rfl,hk,rfl⟩;unfold zB;by_cases hj:j<B.next.length;rotate_left
  ·exact iQ (H _ _ (q.trans M) L.tail)
  refine gK ?_;obtain⟨l8,o8,_,N,O⟩:=r.nat (iy hj) .i64;have z:B.next[j]∈next u i:=by unfold next;rw[I];exact AY hj
  have al:B.next[j]<u.blocks.length:=g.nx i _ z;obtain⟨n,a⟩:∃n,u.blocks[B.next[j]]? =some n:=by simp_all
  obtain ⟨l9,o9,P,R,A,_,l,_,_,_,f,m⟩:=C2.u.pE a;refine eh N (eh O (eh (by rfl) (eh (L.ld 0 rfl rfl) (eh (by rfl) ?_))));have e:kE (.bool (((B.fin:Nat):Int) == 2)) (oB (some (V.ptr lc 0)) λS=>oB (iL S) λT=>oB (fJ 0 T) λU=>oB (fJ 3 U) λW=>oB (fe W h') λX=>oB (some (V.I (B.next[j]:Nat))) λY=>oB (gB 6 X Y) λZ=>oB (fJ 4 Z) λaa=>oB (fe aa h') λab=>oB (fI ab) λac=>ez .neq 3 ac (V.I 1))=some (.bool false):=by
   have l1:fe (.ptr lc (0+0+3)) h' = some vb:=C2.ld 3 rfl;have l2:fe (.ptr l9 (o9+4)) h' = some A:=m.fi;simp only[fo,fZ,fM,l1,l,l2,f.len,rN,j8];congr 2;rw[wBj];intro o;simp only[vH,Cw,wB6]at o;have d:=g.Lz i B I (by omega) (B.next[j]) (AY hj);rw[g.fi _ _ a,d]at o;exact o.2 rfl
  refine eh e (jj (gh (by simp) ?_));exact fL ⟨k-1,by omega,j+1,rfl,rfl,rfl,rfl,rfl,by omega,rfl⟩
 by_cases hi:i=0;rotate_left
 ·exact gy (gh (by omega) (r2 F h (Sn.refl _ _) C.H))
 refine gy (gz (by omega) ?_);have lA:fW 5 (.ptr lc 0) h=some (.agg (uC u vv vb vs)):=by
  obtain⟨j,ty,hc⟩:=C.c;rw[AV (C.H.get j hc),EO (by simp)];rfl
 refine eh (fZ _ _) (eh (by rfl) (eh lA ?_));refine RI g C.H C.u λp d v q J r1=>?_;have lr:=r1.len;rw[Ik,wBQ]at lr;refine eh lr ?_;have C1:=C.since q J;refine G5 (λk s x1 D E G h'=>∃j:Nat,s = .ptr lc 0/\x1 = .I i/\D=v/\E = .I u.blocks.length/\G = .I (j:Nat)/\j+k=u.blocks.length/\h' = d) ?_ (k:=u.blocks.length) (by simp_all);rintro k s x1 D E G h' ⟨j,rfl,rfl,rfl,rfl,rfl,hk,rfl⟩;unfold zD;by_cases hj:j<u.blocks.length;rotate_left
 ·exact iQ (r2 p h' q J)
 refine gK ?_;obtain⟨n,a⟩:∃n,u.blocks[j]? =some n:=by simp_all
 obtain ⟨l8,o8,w8,_,N,O,j3⟩:=r1.list (i:=j) (x:=Un.ahead u j) (by simp[hj]) .i64;obtain⟨l9,o9,P,R,A,_,l,_,_,_,f,m⟩:=C1.u.pE a;have am:(Un.ahead u j).length<=700:=by
  rw[<-pY];have:=pZ g (i:=u.blocks.length) (j:=0) (b:=j) (jO _) (by omega);omega
 rw [g.fi j n a]at f;refine eh N (eh O (eh (fZ _ _) (eh (by rfl) (eh (by rfl) (eh (C1.ld 3 rfl) (eh l (eh (by rfl) (eh m.fi ?_))))))));refine A5 j3 f (by omega) (eh rfl ?_);have e:og (.bool (!true)) (oB (some (V.I j)) λae=>oB (ez .eql 3 ae (V.I 0)) λag=>oB (some ag) λah=>kE ah (oB (some w8) λai=>oB (fI ai) λaj=>ez .gtr 3 aj (V.I 0)))=some (.bool false):=by
  simp only[wB3,oH,fo,g0,j3.len,qn,j8];congr 2;rw[wBj];intro o;simp only[vH,Cw,CU]at o;obtain⟨d,K⟩:=o;obtain rfl:j=0:=by omega
  rw[g.Hf]at K;simp at K
 refine eh e (jj (gh (by simp) ?_));exact fL ⟨k-1,by omega,j+1,rfl,rfl,rfl,rfl,rfl,by omega,rfl⟩
end
open Un Dm
section
variable{F F':Nat->Prop}{h h':Hp}{cs:List Pc}{Q:fD}{u:U}{vv vb vs:V}
theorem eo.stF{α:Type}{E:qp α}{ty:Nat}{xs:List α}{v:V}(H:eo F h cs)(i:Nat)(hi:cs[i]? =some (fg E ty xs v)){k j:Nat}{y:α}{a:V}(c:k<xs.length)(d:j<E.sz)(e:a.one=true)(f:∀w,E.rel F h xs[k] w->E.rel F h y (w.set j a)) :
  ∃l h',gB E.sz v (.I k)=some (.ptr l (k*E.sz))/\gJ 1 (.ptr l (k*E.sz+j)) a h=some (.val .undef h')/\h.next<=h'.next/\eo F h' (cs.set i (fg E ty (xs.set k y) v))/\Sn F h F h':=by
 obtain⟨t,h',o,g,m,n,b⟩:=(H.row i hi).store (k:=j) (y:=y) (u:=a) c d e f;exact⟨t,h',g,m,b.next,H.Cq hi b n λ_ h=> .inl h⟩
theorem eo.Ng{ty:Nat}{xs:List Nat}{v:V}(H:eo F h cs)(i:Nat)(hi:cs[i]? =some (fg eN ty xs v)){k x:Nat}(hx:xs[k]? =some x)(kd:IntKind):∃l o,gB 1 v (.int kd (k:Nat))=some (.ptr l o)/\fe (.ptr l o) h=some (.I x):=by
 obtain⟨l,o,_,a,b⟩:=(H.row i hi).read.nat hx kd;exact⟨l,o,a,b⟩
theorem eo.Qd{ty:Nat}{xs:List Int}{v:V}(H:eo F h cs)(i:Nat)(hi:cs[i]? =some (fg eZ ty xs v)){k:Nat}{x:Int}(hx:xs[k]? =some x)(kd:IntKind):∃l o,gB 1 v (.int kd (k:Nat))=some (.ptr l o)/\fe (.ptr l o) h=some (.I x):=by
 obtain⟨l,o,_,a,b⟩:=(H.row i hi).read.int hx kd;exact⟨l,o,a,b⟩
theorem eo.Mf{ty:Nat}{xs:List Bool}{v:V}(H:eo F h cs)(i:Nat)(hi:cs[i]? =some (fg eB ty xs v)){k:Nat}{x:Bool}(hx:xs[k]? =some x)(kd:IntKind):∃l o,gB 1 v (.int kd (k:Nat))=some (.ptr l o)/\fe (.ptr l o) h=some (.bool x):=by
 obtain⟨l,o,_,a,b⟩:=(H.row i hi).read.bool hx kd;exact⟨l,o,a,b⟩
theorem UB{ty:Nat}{xs:List Nat}{v:V}(l:eo F h (fg eN ty xs v::cs))(h0:0<xs.length)(N:xs.length<1000000)(H:∀h',Sn F h F h'->eo F h' (fg eN ty xs.reverse v::cs)->Q (.tuple []) h') :
  cP CS ma [v] h Q:=by
 refine Di rfl rfl ?_;unfold uz;refine eh (l.len 0 rfl) (ze (by omega) h0 ?_)
 refine Ap (λk m n o h'=>∃(i:Nat) (ys:List Nat),m=v/\n = .I i/\o = .I ((xs.length-1-i:Nat):Int)/\i+k=xs.length/\2*i<=xs.length/\ys.length=xs.length/\
  (∀p,p<xs.length->ys[p]? =if p<i\/xs.length-i<=p then xs[xs.length-1-p]? else xs[p]?)/\Sn F h F h'/\eo F h' (fg eN ty ys v::cs)) ?_ (k:=xs.length)
  ⟨0,xs,rfl,rfl,by rw[Nat.sub_zero],by omega,by omega,rfl,λp hp=>by rw[if_neg (by omega)],Sn.refl _ _,l⟩
 rintro k m n o z ⟨i,ys,rfl,rfl,rfl,O,A,B,hp,q,f⟩;unfold qO;by_cases hij:i<xs.length-1-i
 ·refine gK ?_;obtain⟨a,r⟩:∃a,ys[i]? =some a:=⟨_,iy (by omega)⟩
  obtain⟨b,hb⟩:∃b,ys[xs.length-1-i]? =some b:=⟨_,iy (by omega)⟩
  obtain⟨l1,P,C,D⟩:=f.Ng 0 rfl hb .i64;obtain⟨l2,R,E,G⟩:=f.Ng 0 rfl r .i64;refine eh C (eh D (eh E (eh G ?_)));obtain⟨l3,S,T,g,j,I,s,J⟩:=f.Kh 0 rfl (k:=i) (y:=b) (u:=V.I b) (by omega) rfl rfl rfl;refine eh g ?_;rw[j,en];simp only[ji]at s;obtain⟨l4,U,W,K,L,M,t,s4⟩:=s.Kh 0 rfl (k:=xs.length-1-i) (y:=a) (u:=V.I a) (by simp;omega) rfl rfl rfl;refine⟨I,eh K ?_⟩;rw[L,en];simp only[ji]at t;refine⟨M,fL (ze (by omega) (by omega) ?_)⟩;refine⟨k-1,by omega,i+1,(ys.set i b).set (xs.length-1-i) a,rfl,rfl,by rw[show xs.length-1-(i+1)=xs.length-1-i-1 by omega],by omega,by omega,by simp[B],λp d=>?_,(q.trans J).trans s4,t⟩;have w:=hp i (by omega);rw[if_neg (by omega),r]at w;have x:=hp (xs.length-1-i) (by omega);rw[if_neg (by omega),hb]at x;by_cases g:p=xs.length-1-i
  ·subst g;rw[NZ (by simp;omega),if_pos (by omega),show xs.length-1-(xs.length-1-i)=i by omega];exact w
  ·rw [KP λh=>g h.symm];by_cases j:p=i
   ·subst j;rw[NZ (by omega),if_pos (by omega)];exact x
   ·rw[KP λh=>j h.symm,hp p d];by_cases c:p<i\/xs.length-i<=p
    ·rw[if_pos c,if_pos (by omega)]
    ·rw[if_neg c,if_neg (by omega)]
 ·refine iQ ?_;have e:ys=xs.reverse:=by
   refine wBZ λp=>?_;by_cases d:p<xs.length
   ·rw[hp p d,List.getElem?_reverse d];by_cases c:p<i\/xs.length-i<=p
    ·rw[if_pos c]
    ·rw[if_neg c,show xs.length-1-p=p by omega]
   ·rw[OE (by omega),OE (by simp;omega)]
  subst e;exact H z q f
theorem YK{α:Type}(s:List α)(x y:α):(s++[x]).set s.length y=s++[y]:=by simp
structure zcn (u:U):Prop where
 MH:1<=u.blocks.length
 nb:u.blocks.length<=300
 nx:∀(b:Nat),∀t∈next u b,t<u.blocks.length
 two:∀(b:Nat) (B:Bk),u.blocks[b]? =some B->B.next.length<=2
theorem Po(g:Good u):zcn u:=⟨g.MH,g.nb,g.nx,λb B a=>by
 rcases g.fin b B a with⟨_,h⟩|⟨_,h,_⟩|⟨_,h,_⟩
 ·omega
 ·omega
 ·rw[h];simp⟩
theorem im.pE{bs:List Bk}(a:im eK F h bs vb){i:Nat}{x:Bk}(hx:bs[i]? =some x) :
  ∃l o v n p,F l/\gB 6 vb (.I i)=some (.ptr l o)/\fW 6 (.ptr l o) h=some (.agg (km x v n p))/\im eN F h x.ej v/\im eN F h x.next n/\im eN F h x.fi p/\zeH h l o x v n p:=by
 obtain⟨hi,rfl⟩:=ki.1 hx;obtain⟨l,o,w,c,d,e,⟨v,n,p,rfl,f,g,j⟩,b⟩:=a.ix hi .i64;exact⟨l,o,v,n,p,c,d,e,f,g,j,⟨b 0 _ rfl,b 1 _ rfl,b 2 _ rfl,b 3 _ rfl,b 4 _ rfl,b 5 _ rfl⟩⟩
theorem PN(g:zcn u)(H0:eo F h cs)(ho:gw (uC u vv vb vs)=true)(Y:im eK F h u.blocks vb)(H:∀h' v seen post,Sn F h F h'->eo F h' (fg eN eR post.reverse v::cs)->JN u.blocks.length (next u) seen post []->Q v h') :
  cP CS rh [.agg (uC u vv vb vs)] h Q:=by
 refine RY rfl rfl ?_;unfold LS;have nb:=g.nb;have MH:=g.MH;have A:∀b,b<u.blocks.length->∀t∈next u b,t<u.blocks.length:=λb _ t ht=>g.nx b t ht
 refine jH H0 ho λC H1 s1=>?_;refine oF (H1.ld 0 rfl rfl) (eh (Y.since s1).len ?_);rw[ku (z:=V.bool false) rfl (by decide) (by omega),fE];obtain⟨H2,s2⟩:=H1.make (E:=eB) (ty:=jZ) (y:=false) (u:=V.bool false) u.blocks.length rfl rfl;have D:=s1.trans s2;refine oF (H2.ld 1 rfl rfl) (eh (Y.since D).len ?_);refine DT (gz (by omega) ?_);refine eh (show _=some (V.agg [.I 0,.I 0]) from rfl) ?_;generalize C.new (.cells jZ 1 true false (List.replicate u.blocks.length (V.bool false)))=Z at*;have I:∀a b:Nat,jz yc 2 1 (V.agg [(V.I 0),(V.I 0)]) [(0,V.agg [.I (a:Nat),.I (b:Nat)])]=some (.cells yc 2 true false [.I (a:Nat),.I (b:Nat)],λl=> .slice l 0 1):=λa b=>nW rfl rfl rfl;have aa:jz yc 2 1 (V.agg [(V.I 0),(V.I 0)]) [(0,V.agg [.I 0,.I 0])]=some (.cells yc 2 true false [.I ((0:Nat):Int),.I ((0:Nat):Int)],λl=> .slice l 0 1):=I 0 0;rw[aa,fE]
 have H3:eo F Z (fg eW yc [] .ei::fg eN eR [] .ei::fg eB jZ (List.replicate u.blocks.length false) (.slice C.next 0 u.blocks.length)::eQ h.next 30 (uC u vv vb vs)::cs):=
  (H2.add (p:=fg eN eR [] .ei) .nil λ_ h=>h).add (p:=fg eW yc [] .ei) .nil λ_ h=>h
 obtain⟨v4,h4,e4,n4,H4,s4⟩:=H3.rU 0 rfl (jP:=16) (zL:=yc) (y:=(0,0)) (w:=[.I ((0:Nat):Int),.I ((0:Nat):Int)]) (ro:=false) rfl (by decide) (by decide) (by simp);have ab:fh 130 2 16 V.ei (.slice Z.next 0 1) (Z.new (.cells yc 2 true false [.I ((0:Nat):Int),.I ((0:Nat):Int)]))=some (.val v4 h4):=e4;rw[ab,en];simp only[ji,OG]at H4;obtain⟨l5,o5,h5,e5,e6,n5,H5,s5⟩:=H4.Kh 2 rfl (k:=0) (y:=true) (u:=V.bool true) (by simp;omega) rfl rfl rfl;refine eh e5 ?_;rw[e6,en];simp only[lO,ji]at H5;refine OA ?_;unfold Hb;have ac:=(D.trans s4).trans s5
 refine Nr (λk x1 x3 x4 J h'=>∃(seen:List Bool) (post:List Nat) (stack:List (Nat×Nat)),x1 = .ptr h.next 0/\x3 = .slice C.next 0 u.blocks.length/\k=mu u.blocks.length (next u) seen stack/\JN u.blocks.length (next u) seen post stack/\Sn F h F h'/\
  eo F h' (fg eW yc stack J::fg eN eR post x4::fg eB jZ seen (.slice C.next 0 u.blocks.length)::eQ h.next 30 (uC u vv vb vs)::cs)) ?_ (k:=mu u.blocks.length (next u) ((List.replicate u.blocks.length false).set 0 true) [(0,0)])
  ⟨_,[],[(0,0)],rfl,rfl,rfl,JN.start (by omega) A,ac,H5⟩
 rintro k x1 x3 x4 J h6 ⟨seen,post,stack,rfl,rfl,hk,G,K,e⟩;unfold GQ;have L:=G.nodup;have ay:post.length<=u.blocks.length:=jM _ _ (ZL.1 L).1 G.pre;have oh:stack.length<=u.blocks.length:=by
  have:=jM u.blocks.length _ (ZL.1 L).2.1 λx hx=>by
   obtain⟨y,hy,rfl⟩:=MI.1 hx;exact(G.range y hy).1
  simpa using this
 refine eh (e.len 0 rfl) ?_;rcases nM stack with rfl|⟨s,⟨b,i⟩,rfl⟩
 ·refine DT (gh (by simp) ?_);have ae:0<post.length:=by
   obtain⟨p,hp⟩:=G.last rfl;rw[hp];simp
  refine UB e.tail ae (by omega) λh7 T f=>?_;exact H _ _ seen post (K.trans T) f.Kk.Kk G
 have ax:s.length+1<=u.blocks.length:=by simpa using oh
 refine DT (gz (by simp <;> omega) ?_);have hlen:(s++[(b,i)]).length-1=s.length:=by simp
 have m:s.length<(s++[(b,i)]).length:=by simp
 have M:(s++[(b,i)])[s.length]'m=(b,i):=by simp
 obtain⟨ag,ah⟩:=G.range (b,i) (by simp);obtain⟨B,hB⟩:∃B,u.blocks[b]? =some B:=⟨_,iy ag⟩
 have d:next u b=B.next:=by unfold next;rw[hB]
 simp only[d]at ah;refine eh (e.len 0 rfl) (ze (by omega) (by simp) ?_);rw[hlen];obtain⟨l7,h7,U,e8,n7,f,T⟩:=e.stF 0 rfl (k:=s.length) (j:=1) (y:=(b,i+1)) (a:= .I ((i+1:Nat):Int)) m (by decide) rfl (λw W=>by
  rw[M]at W;have W:w=[.I b,.I i]:=W;subst W;rfl)
 have U:gB 2 J (.I s.length)=some (.ptr l7 (s.length*2)):=U;obtain⟨l8,o8,w8,X,i2,i3,i4⟩:=e.ix 0 rfl m .i64;rw[M]at i3;obtain rfl:w8=[.I b,.I i]:=i3;have X:gB 2 J (.I s.length)=some (.ptr l8 o8):=X;rw[U]at X;obtain⟨rfl,rfl⟩:l7=l8/\s.length*2=o8:=by
  have:=Option.some.inj X;cases this;exact⟨rfl,rfl⟩
 have ib:=i4 0 _ rfl;have ii:=i4 1 _ rfl;obtain⟨lb,ob,bv,bn,bp,_,b1,b2,iv,iN,ip,ba⟩:=(Y.since K).pE hB;refine eh U (oF (e.ld 3 rfl rfl) (oN ib (eh b1 (oF ba.next ?_))));refine oN ii (eh iN.len ?_);by_cases hi:i=B.next.length
 ·refine gy (gz (by omega) ?_);refine oN ib ?_;rw[qB,fE];obtain⟨v9,h9,e9,n9,H9,s9⟩:=e.rU 1 rfl (jP:=8) (zL:=3) (y:=b) (w:=ic [b]) (ro:=false) rfl (by decide) (by decide) (by omega);have ai:fh 3 1 8 x4 (.slice h6.next 0 1) (h6.new (.cells 3 1 true false (ic [b])))=some (.val v9 h9):=e9;rw[ai,en];simp only[lO,ji]at H9;refine eh (H9.len 0 rfl) (ze (by omega) (by simp) ?_);rw[hlen];obtain⟨aA,o,c⟩:=H9.zcr 0 rfl (n:=s.length) (by simp);refine eh o ?_;simp only[ji]at c;have et:(s++[(b,i)]).take s.length=s:=by simp
  rw[et]at c;exact⟨_,by rw[hk];exact zc7,seen,post++[b],s,rfl,rfl,rfl,G.pop (by rw[d];exact hi),K.trans s9,c⟩
 refine gy (gh (by omega) ?_);have r:i<B.next.length:=by omega
 have aB:B.next.length<=2:=g.two b B hB;have ht:(next u b)[i]? =some B.next[i]:=by rw[d];exact iy r
 have aj:B.next[i]<u.blocks.length:=g.nx b _ (by rw[d];exact AY r);obtain⟨l9,o9,_,j1,j2⟩:=iN.nat (iy r) .i64;refine oN ii (eh j1 (eh j2 ?_));refine oN ii (fL ?_);refine eh (fZ _ _) (eh (fM _ _ _) ?_);have e8:gJ 1 (.ptr l7 (s.length*2+1)) (.I ((i+1:Nat):Int)) h6=some (.val .undef h7):=e8;rw[e8,en];simp only[ji,YK]at f;have ak:seen.length=u.blocks.length:=G.len;have N:=f.len 2 (xs:=seen) rfl;rw[ak]at N;refine eh N (A6 ?_);rw[JM aj];obtain⟨q,hq⟩:∃q,seen[B.next[i]]? =some q:=⟨_,iy (show B.next[i]<seen.length by omega)⟩
 obtain ⟨lq,oq,q1,q2⟩:=f.Mf 2 rfl hq .i64;have ea:kE (.bool true) (oB (some (V.slice C.next 0 u.blocks.length)) λal=>oB (some (V.I (B.next[i]:Nat))) λam=>oB (gB 1 al am) λan=>oB (fe an h7) λao=>qf .not ao)=some (.bool (!q)):=by
  simp only[mH,fo,q1,q2,za2]
 refine eh ea (jj ?_)
 cases q with
 | true=>
   refine gh (by simp) ?_
   exact⟨_,by rw[hk];exact zab ht,seen,post,s++[(b,i+1)],rfl,rfl,rfl,G.skip ht hq,K.trans T,f⟩
 | false=>
   refine gz rfl ?_;have O:¬rq seen B.next[i]:=by unfold rq;rw[hq];simp
   obtain⟨l10,aC,P,o,Wh,aD,c,ap⟩:=f.Kh 2 rfl (k:=B.next[i]) (y:=true) (u:=V.bool true) (by omega) rfl rfl rfl;refine eh o ?_;rw[Wh,en];simp only[lO,ji]at c;refine eh (show _=some (V.agg [.I (B.next[i]:Nat),.I ((0:Nat):Int)]) from rfl) ?_;rw[I,fE];obtain⟨aq,ar,au,aE,R,aw⟩:=c.rU 0 rfl (jP:=16) (zL:=yc) (y:=(B.next[i],0)) (w:=[.I (B.next[i]:Nat),.I ((0:Nat):Int)]) (ro:=false) rfl (by decide) (by decide) (by simp;omega);have S:fh 130 2 16 J (.slice P.next 0 1) (P.new (.cells yc 2 true false [.I (B.next[i]:Nat),.I ((0:Nat):Int)]))=some (.val aq ar):=au;rw[S,en];simp only[ji]at R;exact⟨_,by rw[hk];exact zaj G ht O,_,post,s++[(b,i+1)]++[(B.next[i],0)],rfl,rfl,rfl,G.push ht O,((K.trans T).trans ap).trans aw,R⟩
theorem SK(g:Good u)(c:eo F h cs)(a:wW F h u vv vb vs)(H:∀F' h' v seen post,Sn F h F' h'->eo F' h' cs->JN u.blocks.length (next u) seen post []->im eN F' h' post.reverse v->Q v h') :
  cP CS rh [.agg (uC u vv vb vs)] h Q:=
 PN (Po g) c a.one a.b λh' v seen post d e G=>by
  obtain⟨f,i,r2⟩:=e.kL 0 rfl;exact H _ _ v seen post (d.trans i) f.tail G r2
end
