/- Parts. -/
import Derived.Test.YtflkbfabonggkaaGreatDoorM25
set_option maxHeartbeats 4000000
namespace Go.Proofs.YtflkbfabonggkaaGreatDoor.Hx
open Un Dm
theorem W2(h:Hp):∀op:Nat,1<=op->op<=23->∃s,s≠[]/\CS.K EP [.I (op:Nat)] h=some (.str s)
 |0,h,_=>by omega
 |1,_,_=>⟨_,by decide,rfl⟩
 |2,_,_=>⟨_,by decide,rfl⟩
 |3,_,_=>⟨_,by decide,rfl⟩
 |4,_,_=>⟨_,by decide,rfl⟩
 |5,_,_=>⟨_,by decide,rfl⟩
 |6,_,_=>⟨_,by decide,rfl⟩
 |7,_,_=>⟨_,by decide,rfl⟩
 |8,_,_=>⟨_,by decide,rfl⟩
 |9,_,_=>⟨_,by decide,rfl⟩
 |10,_,_=>⟨_,by decide,rfl⟩
 |11,_,_=>⟨_,by decide,rfl⟩
 |12,_,_=>⟨_,by decide,rfl⟩
 |13,_,_=>⟨_,by decide,rfl⟩
 |14,_,_=>⟨_,by decide,rfl⟩
 |15,_,_=>⟨_,by decide,rfl⟩
 |16,_,_=>⟨_,by decide,rfl⟩
 |17,_,_=>⟨_,by decide,rfl⟩
 |18,_,_=>⟨_,by decide,rfl⟩
 |19,_,_=>⟨_,by decide,rfl⟩
 |20,_,_=>⟨_,by decide,rfl⟩
 |21,_,_=>⟨_,by decide,rfl⟩
 |22,_,_=>⟨_,by decide,rfl⟩
 |23,_,_=>⟨_,by decide,rfl⟩
 |n+24,_,h=>by omega
theorem zeF{h:Hp}{X:Option (V×Hp)}{K:ft}(H:oP X λy=>K y.1 y.2):oP (fy true (.bool true)) λb=>ghP b h X K:=H
section
variable{F F':Nat->Prop}{h h':Hp}{cs:List Pc}{Q:ft}{u:U}{vv vb vs:V}{lc:Nat}{bl pl GL:V}
theorem za9{op:Nat}(a:1<=op)(b:op<=23)(H:∀s,s≠[]->Q (.str s) h):cP CS EP [.I op] h Q:=by
 obtain⟨fn,c,d,e⟩:=RX;obtain⟨s,hs,hk⟩:=W2 h op a b;exact cP.known d e hk rfl rfl (H s hs)
theorem Sa{lv:Nat}{x:Vl}{w v:V}{ys:List Vl}(u:ej F h (ev lv gL (my x w)::cs))(m:iy eV F h ys v)(J:ys.length<1000000)(z:∀y∈ys,¬(y.op=1/\y.n=x.n))
  (H:∀h',Sn F h F h'->ej F h' (ev lv gL (my x w)::cs)->Q (.bool false) h'):cP CS gU [v,.func jC [] [.ptr lv 0]] h Q:=by
 refine qS rfl rfl ?_;unfold lQ;refine uo rfl rfl ?_;unfold mO;refine ed m.len ?_
 refine ri (λk p q r s h'=>∃i:Nat,p=v/\q = .func jC [] [.ptr lv 0]/\r = .I ys.length/\s = .I (i:Nat)/\i+k=ys.length/\Sn F h F h'/\ej F h' (ev lv gL (my x w)::cs)) ?_ (k:=ys.length)
  ⟨0,rfl,rfl,rfl,rfl,by omega,Sn.refl _ _,u⟩
 rintro k p q r s h' ⟨i,rfl,rfl,rfl,rfl,hk,f,t⟩;unfold lY;by_cases hi:i<ys.length;rotate_left
 ·refine iJ ?_;refine ed (nM _ _ _ _) ?_;exact H h' f t
 refine gG ?_;obtain⟨l,o,c,_,A,B,⟨a,rfl,C⟩,_⟩:=(m.since f).ix hi .i64;refine ed A (ed B ?_);show cP CS jC [.agg (my ys[i] a),.ptr lv 0] h' _;refine Hs rfl rfl ?_;unfold zy;refine ml t (by simp only[my,ey,C.one];rfl) λb d D=>?_;refine ed (by rfl) (ed (d.ld 0 rfl rfl) (ed (by rfl) ?_));have e:jO (.bool (((ys[i].op:Nat):Int) == 1)) (oB (fH 3 (.ptr h'.next 0)) λE=>oB (ez E b) λG=>oB (fH 3 (.ptr lv 0)) λg=>oB (ez g b) λj=>en .eql 2 G j)=some (.bool false):=by
  have l1:ez (.ptr h'.next (0+3)) b=some (.I ys[i].n):=d.ld 0 rfl rfl;have l2:ez (.ptr lv (0+3)) b=some (.I x.n):=d.ld 1 rfl rfl;simp only[fT,fe,l1,l2,ik,jc];congr 2;rw[wBk];intro I;simp only[xg,HR]at I;exact by grind
 refine ed e (iO (fU (by simp) ?_));exact fL ⟨k-1,by omega,i+1,rfl,rfl,rfl,rfl,by omega,f.trans D,d.tail⟩
theorem YG{lv:Nat}{x:Vl}{w:V}{a0:V}(a:a0 = .ptr lc 0)(C:Ck F h (ev lv gL (my x w)::cs) lc u vv vb vs bl pl GL)(G:leaves x.op=true->x.state<u.eh.length)(hc:lv≠lc)(H:ez (.ptr lv 5) h=some (.I x.state)){K:ft}(D:K (.bool false) h) :
  oP (fy true (.bool (leaves x.op))) λb=>
  oP (gV b (fH 5 (.ptr lv 0))) λc=>
  oP (fy true (.bool (leaves x.op))) λd=>
  oP (gV d (ez c h)) λe=>
  oP (fy true (.bool (leaves x.op))) λf=>
  oP (gV f (some a0)) λg=>
  oP (fy true (.bool (leaves x.op))) λi=>
  oP (gV i (gY g)) λj=>
  oP (fy true (.bool (leaves x.op))) λk=>
  oP (gV k (fH 0 j)) λl=>
  oP (fy true (.bool (leaves x.op))) λm=>
  oP (gV m (fH 4 l)) λn=>
  oP (fy true (.bool (leaves x.op))) λo=>
  oP (gV o (ez n h)) λp=>
  oP (fy true (.bool (leaves x.op))) λq=>
  oP (gV q (fE p)) λr=>
  oP (fy true (.bool (leaves x.op))) λt=>
  oP (gC t (some (kH,[e,r]))) λv=>uj CS v h λy E=>
  (h.next<=E.next/\
  oP (fy true (.bool (leaves x.op))) λz=>
  oP (gV z (pt .not y)) λA=>
  oP (nP (.bool false) (jt (.bool (leaves x.op)) A (V.bool false))) λB=>K B E):=by
 subst a
 cases hq:leaves x.op with
 | true=>
   have:=G hq;refine gq (ed (by rfl) (gq (ed H (gq (ed rfl (gq (ed (fQ _ _) (gq (ed (by rfl) (gq (ed (by rfl) (gq (ed (C.ld 4 rfl) (gq (ed C.u.s.len (wS ?_))))))))))))))));refine AS ⟨iZ _,gq ?_⟩;rw[Kt this]
   exact ed rfl (ed rfl D)
 |false=>exact g0 (g0 (g0 (g0 (g0 (g0 (g0 (g0 (GP ⟨iZ _,g0 (ed rfl D)⟩))))))))
theorem zc8(g:Good u)(C:Ck F h cs lc u vv vb vs bl pl GL){xs ys:List Int}(z:iy eZ F h xs bl)(S:Std u u.blocks.length 0 xs ys){i:Nat}(hi:i<u.ef.length)(P:lc<h.next)
  (H:∀F' h',Sn F h F' h'->ej F' h' cs->Q (.bool true) h'):cP CS ke [.ptr lc 0,.I i] h Q:=by
 refine Kg rfl rfl ?_;unfold wh;have nv:=g.nv;have nb:=g.nb;obtain⟨x,d⟩:∃x,u.ef[i]? =some x:=by simp_all
 obtain ⟨b,k,f⟩:=g.Fi i hi trivial;obtain⟨B,r,hk⟩:=id f;have o:=g.op i x d;have p:=g.use i x d;have A:B.eQ.length<=700:=by
  rw[g.eQ b B r,<-oZ];have:=oW g (i:=u.blocks.length) (j:=0) (b:=b) (iZ _) (by omega);omega
 have D:x.op=21\/x.op=20->x.args.length<=700:=by
  rintro(E|E)
  ·rw[(g.CJ _ _ _ _ _ f d E r).2];exact A
  ·rw[g.putAt i x d E];omega
 obtain⟨l1,Z,w,_,R,T,N,_⟩:=C.u.val d;refine ed (fQ _ _) (ed (by rfl) (ed (by rfl) (ed (C.ld 2 rfl) (ed R (ed T ?_)))));refine ir C.H rfl rfl (by simp only[my,ey,N.one];rfl) λh2 t G=>?_;have C2:=C.cons G t;have l:=N.since G;refine ed (by rfl) (ed (t.ld 0 rfl rfl) ?_);refine za9 o.1 o.2 λs hs=>⟨iZ _,?_⟩
 refine ed (by rfl) ?_;rw[show(s == [])=false from Ti.2 hs];refine fD (ed rfl (fD (ed (t.zb 0 rfl rfl) (yd ?_))));refine Qy t l (by omega) λF3 O v q a r3=>⟨q.next,?_⟩
 have C3:=C2.since q a;have c:=G.trans q;refine yd (JW C3 r3 (by grind[Jx]) p ⟨iZ _,ed rfl ?_⟩);refine fD (ed (by rfl) (fD (ed (a.ld 0 rfl rfl) (yd ?_))));refine Ld ⟨iZ _,fD (ed rfl ?_)⟩;refine YG rfl C3 (g.leave i x d) (by omega) (a.ld 0 rfl rfl) ?_;refine iO (fU (by simp) ?_);refine ed (by rfl) (ed (a.ld 0 rfl rfl) ?_);by_cases I:x.op=20
 ·refine fX (gi (by omega) ?_);refine ed (by rfl) (ed (a.ld 0 rfl rfl) (ed (l.since q).len (gZ ?_)));rw[g.putAt i x d I];exact H _ _ c a.tail
 refine fX (fU (by omega) ?_);by_cases J:x.op=21
 ·refine fX (gi (by omega) ?_);obtain⟨lb,ob,_,b1,b2⟩:=(z.since c).int ((S.yes i b k f (by grind)).1) .i64;obtain⟨l7,o7,bv,bn,bp,_,K,_,_,_,ip,U⟩:=C3.u.nf r;refine ed (by rfl) (ed (a.ld 0 rfl rfl) (ed (l.since q).len ?_));refine ed (fQ _ _) (ed (by rfl) (ed (by rfl) (ed (C3.ld 3 rfl) (ed (fQ _ _) (ed (by rfl) (ed (C3.ld 5 rfl) (ed b1 (ed b2 (ed K ?_)))))))));refine ed (by rfl) (ed U.eQ (ed ip.len (gZ ?_)));rw[(g.CJ _ _ _ _ _ f d J r).2,Kt rfl];exact H _ _ c a.tail
 refine fX (fU (by omega) ?_);by_cases W:x.op=1
 ·refine fX (gi (by omega) ?_);obtain⟨p1,p2,p3⟩:=g.param i x d W;refine ed (by rfl) (ed (a.ld 0 rfl rfl) (ed (by rfl) ?_));have e:jO (.bool (decide ((0:Int)<=x.n))) (oB (fH 3 (.ptr h.next 0)) λL=>oB (ez L O) λM=>en .lss 2 M (V.I 40))=some (.bool true):=by
   have l1:ez (.ptr h.next (0+3)) O=some (.I x.n):=a.ld 0 rfl rfl;simp only[fT,fe,l1,jB,jc];simp[p1,p2]
  refine ed e ?_;obtain⟨vc,X,r1⟩:=C3.u.v.cut (lo:=none) (hi:=some (.I i)) (m:=0) (n:=i) rfl (by rfl) (NJ _) (by omega);rw[ZV]at r1;refine gq (ed rfl (gq (ed (fQ _ _) (gq (ed (by rfl) (gq (ed (by rfl) (gq (ed (C3.ld 2 rfl) (gq (ed rfl (gq (ed X (gq (ed rfl (wS ?_))))))))))))))));refine Sa a r1 (by grind) (λy hy hh=>?_) λh4 s4 Y=>ed rfl (H _ _ (c.trans s4) Y.tail)
  grind[mQ,jP,Mo,wBY]
 ·refine fX (fU (by omega) ?_);exact H _ _ c a.tail
theorem zaX(g:Good u)(C:Ck F h cs lc u vv vb vs bl pl GL){i:Nat}{B:Bk}(p:u.blocks[i]? =some B)(H:∀F' h',Sn F h F' h'->ej F' h' cs->Q (.bool true) h'):cP CS mH [.ptr lc 0,.I i] h Q:=by
 refine II rfl rfl ?_;unfold An;have c:=g.fin i B p;have nv:=g.nv;have nb:=g.nb;obtain⟨l7,L,bv,bn,bp,_,y,z,A,d,ip,_⟩:=C.u.nf p;refine ed (fQ _ _) (ed (by rfl) (ed (by rfl) (ed (C.ld 3 rfl) (ed y (ed z ?_)))));refine ir C.H rfl rfl (by simp only[kI,ey,A.one,d.one,ip.one];rfl) λD a e=>?_;have C2:=C.cons e a;have d:=d.since e;refine ed (by rfl) (ed (a.ld 0 rfl rfl) (ed d.len ?_));have G:B.next.length<=2:=by
  rcases c with⟨_,h⟩|⟨_,h,_⟩|⟨_,h,_⟩
  ·omega
  ·omega
  ·simp_all
 refine Fu (λk q r f l m h'=>∃j:Nat,q = .ptr lc 0/\r = .ptr h.next 0/\f=bn/\l = .I B.next.length/\m = .I (j:Nat)/\j+k=B.next.length/\h' = D) ?_ (k:=B.next.length) (by simp_all);rintro k q r f l m h' ⟨j,rfl,rfl,rfl,rfl,rfl,hk,rfl⟩;unfold yf;by_cases hj:j<B.next.length
 ·refine gG ?_;obtain⟨l8,M,_,I,J⟩:=d.nat (gW hj) .i64;have K:B.next[j]<u.blocks.length:=g.nx i _ (by grind[next,AW]);refine ed I (ed J (ed (fQ _ _) (ed (by rfl) (ed (by rfl) (ed (C2.ld 3 rfl) (ed C2.u.b.len ?_))))));refine AS (w5 (gi (by simp_all) ?_));exact fL ⟨k-1,by omega,j+1,rfl,rfl,rfl,rfl,rfl,by omega,rfl⟩
 refine iJ ?_;refine ed (by rfl) (ed (a.ld 0 rfl rfl) ?_);rcases c with⟨t,o⟩|⟨t,o,v⟩|⟨t,o,v⟩
 ·refine fX (gi (by omega) ?_);refine ed (by rfl) (ed (a.ld 0 rfl rfl) (ed d.len (gZ ?_)));rw[o];exact H _ _ e a.tail
 ·refine fX (fU (by omega) ?_);refine fX (gi (by omega) ?_);refine ed (by rfl) (ed (a.ld 0 rfl rfl) (ed d.len (gZ ?_)));rw[o,show decide (((2:Nat):Int)=2)=true from rfl];refine gq (ed rfl (gq (ed (by rfl) (gq (ed (a.ld 0 rfl rfl) (zeF ?_))))));rw[qZ,fe];obtain⟨w,x,r3⟩:=a.ZF (E:=eN) (xs:=[B.cond]) (n:=1) eo rfl (wF F h' [B.cond]) false;have C3:=C2.since x w;refine ed rfl (wS ?_);refine JW C3 r3 (by simp) (by simp_all) (ed rfl ?_);exact H _ _ (e.trans x) w.tail
 ·refine fX (fU (by omega) ?_);refine fX (fU (by omega) ?_);refine fX (gi (by omega) ?_);refine ed (by rfl) (ed (a.ld 0 rfl rfl) (ed d.len (gZ ?_)));rw[o,show decide ((([]:List Nat).length:Int)=0)=true from rfl];refine gq (ed (by rfl) (gq (ed (a.ld 0 rfl rfl) (gq (ed rfl (gq (ed (fQ _ _) (gq (ed (by rfl) (gq (ed (by rfl) (gq (ed (C2.ld 4 rfl) (gq (ed C2.u.s.len (wS ?_))))))))))))))));refine AS ⟨iZ _,?_⟩;rw[Kt v];exact ed rfl (H _ _ e a.tail)
theorem zco(g:Good u)(C:Ck F h cs lc u vv vb vs bl pl GL){i:Nat}{B:Bk}(I:u.blocks[i]? =some B)(H:∀F' h',Sn F h F' h'->ej F' h' cs->Q (.bool true) h'):cP CS nJ [.ptr lc 0,.I i] h Q:=by
 refine JA rfl rfl ?_;unfold B5;have nv:=g.nv;have nb:=g.nb;have r2:∀p d,Sn F h p d->ej p d cs->nK CS Q (.ptr lc 0) (.I i) d:=by
  intro p d q J;have C1:=C.since q J;refine Gi ?_;unfold yT;obtain⟨l7,o7,bv,bn,bp,_,i1,i2,iv,r,ip,_⟩:=C1.u.nf I;refine ed (fQ _ _) (ed (by rfl) (ed (by rfl) (ed (C1.ld 3 rfl) (ed i1 (ed i2 ?_)))));refine ir C1.H rfl rfl (by simp only[kI,ey,iv.one,r.one,ip.one];rfl) λK L M=>?_;have C2:=C1.cons M L;have r:=r.since M;refine ed (by rfl) (ed (L.ld 0 rfl rfl) (ed r.len ?_));have ak:B.next.length<=2:=by
   rcases g.fin i B I with⟨_,h⟩|⟨_,h,_⟩|⟨_,h,_⟩
   ·omega
   ·omega
   ·simp_all
  refine Gy (λk s x7 t w y h'=>∃j:Nat,s = .ptr lc 0/\x7 = .ptr d.next 0/\t=bn/\w = .I B.next.length/\y = .I (j:Nat)/\j+k=B.next.length/\h' = K) ?_ (k:=B.next.length) (by simp_all);rintro k s x7 t w y h' ⟨j,rfl,rfl,rfl,rfl,rfl,hk,rfl⟩;unfold yX;by_cases hj:j<B.next.length;rotate_left
  ·exact iJ (H _ _ (q.trans M) L.tail)
  refine gG ?_;obtain⟨l8,o8,_,N,O⟩:=r.nat (gW hj) .i64;have z:B.next[j]∈next u i:=by unfold next;rw[I];exact AW hj
  have al:B.next[j]<u.blocks.length:=g.nx i _ z;obtain⟨n,a⟩:∃n,u.blocks[B.next[j]]? =some n:=by simp_all
  obtain ⟨l9,o9,P,R,A,_,l,_,_,_,f,m⟩:=C2.u.nf a;refine ed N (ed O (ed (by rfl) (ed (L.ld 0 rfl rfl) (ed (by rfl) ?_))));have e:jO (.bool (((B.fin:Nat):Int) == 2)) (oB (some (V.ptr lc 0)) λS=>oB (gY S) λT=>oB (fH 0 T) λU=>oB (fH 3 U) λW=>oB (ez W h') λX=>oB (some (V.I (B.next[j]:Nat))) λY=>oB (gz 6 X Y) λZ=>oB (fH 4 Z) λaa=>oB (ez aa h') λab=>oB (fE ab) λac=>en .neq 3 ac (V.I 1))=some (.bool false):=by
   have l1:ez (.ptr lc (0+0+3)) h' = some vb:=C2.ld 3 rfl;have l2:ez (.ptr l9 (o9+4)) h' = some A:=m.eQ;simp only[fe,fQ,fT,l1,l,l2,f.len,tP,jc];congr 2;rw[wBk];intro o;simp only[xg,HR,bne_iff_ne]at o;have d:=g.HC i B I (by omega) (B.next[j]) (AW hj);rw[g.eQ _ _ a,d]at o;exact o.2 rfl
  refine ed e (iO (fU (by simp) ?_));exact fL ⟨k-1,by omega,j+1,rfl,rfl,rfl,rfl,rfl,by omega,rfl⟩
 by_cases hi:i=0;rotate_left
 ·exact fX (fU (by omega) (r2 F h (Sn.refl _ _) C.H))
 refine fX (gi (by omega) ?_);have lA:gv 5 (.ptr lc 0) h=some (.agg (uC u vv vb vs)):=by
  obtain⟨j,ty,hc⟩:=C.c;rw[DU (C.H.get j hc),Er (by simp)];rfl
 refine ed (fQ _ _) (ed (by rfl) (ed lA ?_));refine Rl g C.H C.u λp d v q J r1=>?_;have lr:=r1.len;rw[DL,Tz]at lr;refine ed lr ?_;have C1:=C.since q J;refine Gk (λk s x1 D E G h'=>∃j:Nat,s = .ptr lc 0/\x1 = .I i/\D=v/\E = .I u.blocks.length/\G = .I (j:Nat)/\j+k=u.blocks.length/\h' = d) ?_ (k:=u.blocks.length) (by simp_all);rintro k s x1 D E G h' ⟨j,rfl,rfl,rfl,rfl,rfl,hk,rfl⟩;unfold yE;by_cases hj:j<u.blocks.length;rotate_left
 ·exact iJ (r2 p h' q J)
 refine gG ?_;obtain⟨n,a⟩:∃n,u.blocks[j]? =some n:=by simp_all
 obtain ⟨l8,o8,w8,_,N,O,j3⟩:=r1.list (i:=j) (x:=Un.ahead u j) (by simp[hj]) .i64;obtain⟨l9,o9,P,R,A,_,l,_,_,_,f,m⟩:=C1.u.nf a;have am:(Un.ahead u j).length<=700:=by
  rw[<-oZ];have:=oW g (i:=u.blocks.length) (j:=0) (b:=j) (iZ _) (by omega);omega
 rw [g.eQ j n a]at f;refine ed N (ed O (ed (fQ _ _) (ed (by rfl) (ed (by rfl) (ed (C1.ld 3 rfl) (ed l (ed (by rfl) (ed m.eQ ?_))))))));refine YD j3 f (by omega) (ed rfl ?_);have e:nP (.bool (!true)) (oB (some (V.I j)) λae=>oB (en .eql 3 ae (V.I 0)) λag=>oB (some ag) λah=>jO ah (oB (some w8) λai=>oB (fE ai) λaj=>en .gtr 3 aj (V.I 0)))=some (.bool false):=by
  simp only[wB5,mF,fe,ik,j3.len,nw,jc];congr 2;rw[wBk];intro o;simp only[xg,HR,AQ]at o;obtain⟨d,K⟩:=o;obtain rfl:j=0:=by omega
  rw[g.Cl]at K;simp at K
 refine ed e (iO (fU (by simp) ?_));exact fL ⟨k-1,by omega,j+1,rfl,rfl,rfl,rfl,rfl,by omega,rfl⟩
end
open Un Dm
section
variable{F F':Nat->Prop}{h h':Hp}{cs:List Pc}{Q:ft}{u:U}{vv vb vs:V}
theorem ej.stF{α:Type}{E:p8 α}{ty:Nat}{xs:List α}{v:V}(H:ej F h cs)(i:Nat)(hi:cs[i]? =some (eJ E ty xs v)){k j:Nat}{y:α}{a:V}(hk:k<xs.length)(c:j<E.sz)(d:a.one=true)(e:∀w,E.rel F h xs[k] w->E.rel F h y (w.set j a)) :
  ∃l h',gz E.sz v (.I k)=some (.ptr l (k*E.sz))/\gI 1 (.ptr l (k*E.sz+j)) a h=some (.val .undef h')/\h.next<=h'.next/\ej F h' (cs.set i (eJ E ty (xs.set k y) v))/\Sn F h F h':=by
 obtain⟨t,h',n,f,g,m,b⟩:=(H.row i hi).store (k:=j) (y:=y) (u:=a) hk c d e;exact⟨t,h',f,g,b.next,H.DG hi b m λ_ h=> .inl h⟩
theorem ej.LW{ty:Nat}{xs:List Nat}{v:V}(H:ej F h cs)(i:Nat)(hi:cs[i]? =some (eJ eN ty xs v)){k x:Nat}(a:xs[k]? =some x)(kd:IntKind):∃l o,gz 1 v (.int kd (k:Nat))=some (.ptr l o)/\ez (.ptr l o) h=some (.I x):=by
 obtain⟨l,o,_,b,c⟩:=(H.row i hi).read.nat a kd
 grind
theorem ej.Uh{ty:Nat}{xs:List Int}{v:V}(H:ej F h cs)(i:Nat)(hi:cs[i]? =some (eJ eZ ty xs v)){k:Nat}{x:Int}(a:xs[k]? =some x)(kd:IntKind):∃l o,gz 1 v (.int kd (k:Nat))=some (.ptr l o)/\ez (.ptr l o) h=some (.I x):=by
 obtain⟨l,o,_,b,c⟩:=(H.row i hi).read.int a kd
 grind
theorem ej.LO{ty:Nat}{xs:List Bool}{v:V}(H:ej F h cs)(i:Nat)(hi:cs[i]? =some (eJ eB ty xs v)){k:Nat}{x:Bool}(a:xs[k]? =some x)(kd:IntKind):∃l o,gz 1 v (.int kd (k:Nat))=some (.ptr l o)/\ez (.ptr l o) h=some (.bool x):=by
 obtain⟨l,o,_,b,c⟩:=(H.row i hi).read.bool a kd
 grind
theorem Uw{ty:Nat}{xs:List Nat}{v:V}(f:ej F h (eJ eN ty xs v::cs))(h0:0<xs.length)(M:xs.length<1000000)(H:∀h',Sn F h F h'->ej F h' (eJ eN ty xs.reverse v::cs)->Q (.tuple []) h') :
  cP CS lG [v] h Q:=by
 refine B8 rfl rfl ?_;unfold tD;refine ed (f.len 0 rfl) (Aa (by omega) h0 ?_)
 refine zY (λk g j l h'=>∃(i:Nat) (ys:List Nat),g=v/\j = .I i/\l = .I ((xs.length-1-i:Nat):Int)/\i+k=xs.length/\2*i<=xs.length/\ys.length=xs.length/\
  (∀p,p<xs.length->ys[p]? =if p<i\/xs.length-i<=p then xs[xs.length-1-p]? else xs[p]?)/\Sn F h F h'/\ej F h' (eJ eN ty ys v::cs)) ?_ (k:=xs.length)
  ⟨0,xs,rfl,rfl,by rw[Nat.sub_zero],by omega,by omega,rfl,by grind,Sn.refl _ _,f⟩
 rintro k g j l N ⟨i,ys,rfl,rfl,rfl,hk,t,w,hp,x,c⟩;unfold pR;by_cases hij:i<xs.length-1-i
 ·refine gG ?_;obtain⟨a,m⟩:∃a,ys[i]? =some a:=by grind
  obtain⟨b,n⟩:∃b,ys[xs.length-1-i]? =some b:=by grind
  obtain⟨l1,O,z,A⟩:=c.LW 0 rfl n .i64;obtain⟨l2,P,B,C⟩:=c.LW 0 rfl m .i64;refine ed z (ed A (ed B (ed C ?_)));obtain⟨l3,R,S,o,q,D,r,E⟩:=c.Jj 0 rfl (k:=i) (y:=b) (u:=V.I b) (by omega) rfl rfl rfl;refine ed o ?_;rw[q,ei];simp only[je]at r;obtain⟨l4,T,U,G,I,J,s,s4⟩:=r.Jj 0 rfl (k:=xs.length-1-i) (y:=a) (u:=V.I a) (by simp;omega) rfl rfl rfl;refine⟨D,ed G ?_⟩;rw[I,ei];simp only[je]at s;refine⟨J,fL (Aa (by omega) (by omega) ?_)⟩;refine⟨k-1,by omega,i+1,(ys.set i b).set (xs.length-1-i) a,rfl,rfl,by rfl,by omega,by omega,by simp[w],λp d=>?_,(x.trans E).trans s4,s⟩;have K:=hp i (by omega);rw[if_neg (by omega),m]at K;have L:=hp (xs.length-1-i) (by omega);rw[if_neg (by omega),n]at L;by_cases o:p=xs.length-1-i
  ·grind
  ·rw[Kk (by omega)];by_cases q:p=i
   ·simp_all
   grind
 ·refine iJ ?_;have e:ys=xs.reverse:=by
   refine wBR λp=>?_;by_cases d:p<xs.length
   ·grind
   ·simp_all
  simp_all
theorem ZK{α:Type}(s:List α)(x y:α):(s++[x]).set s.length y=s++[y]:=by simp
structure zcp (u:U):Prop where
 KC:1<=u.blocks.length
 nb:u.blocks.length<=300
 nx:∀(b:Nat),∀t∈next u b,t<u.blocks.length
 two:∀(b:Nat) (B:Bk),u.blocks[b]? =some B->B.next.length<=2
theorem Kl(g:Good u):zcp u:=⟨g.KC,g.nb,g.nx,λb B a=>by
 rcases g.fin b B a with⟨_,h⟩|⟨_,h,_⟩|⟨_,h,_⟩
 ·omega
 ·omega
 simp_all⟩
theorem iy.nf{bs:List Bk}(a:iy eK F h bs vb){i:Nat}{x:Bk}(c:bs[i]? =some x) :
  ∃l o v n p,F l/\gz 6 vb (.I i)=some (.ptr l o)/\gv 6 (.ptr l o) h=some (.agg (kI x v n p))/\iy eN F h x.ef v/\iy eN F h x.next n/\iy eN F h x.eQ p/\zeJ h l o x v n p:=by
 obtain⟨hi,rfl⟩:=jP.1 c;obtain⟨l,o,w,d,e,f,⟨v,n,p,rfl,g,j,k⟩,b⟩:=a.ix hi .i64;exact⟨l,o,v,n,p,d,e,f,g,j,k,⟨b 0 _ rfl,b 1 _ rfl,b 2 _ rfl,b 3 _ rfl,b 4 _ rfl,b 5 _ rfl⟩⟩
theorem Ku(g:zcp u)(H0:ej F h cs)(ho:gj (uC u vv vb vs)=true)(W:iy eK F h u.blocks vb)(H:∀h' v seen post,Sn F h F h'->ej F h' (eJ eN eo post.reverse v::cs)->HS u.blocks.length (next u) seen post []->Q v h') :
  cP CS oV [.agg (uC u vv vb vs)] h Q:=by
 refine Q8 rfl rfl ?_;unfold LQ;have nb:=g.nb;have KC:=g.KC;have o:∀b,b<u.blocks.length->∀t∈next u b,t<u.blocks.length:=λb _ t r=>g.nx b t r
 refine ml H0 ho λA H1 s1=>?_;refine ed (by rfl) (ed (H1.ld 0 rfl rfl) (ed (W.since s1).len ?_));rw[kr (z:=V.bool false) rfl (by decide) (by omega),fx];obtain⟨H2,s2⟩:=H1.make (E:=eB) (ty:=jD) (y:=false) (u:=V.bool false) u.blocks.length rfl rfl;have C:=s1.trans s2;refine ed (by rfl) (ed (H2.ld 1 rfl rfl) (ed (W.since C).len ?_));refine Ik (gi (by omega) ?_);refine ed (by rfl) ?_;generalize A.new (.cells jD 1 true false (List.replicate u.blocks.length (V.bool false)))=X at*;have D:∀a b:Nat,jr xu 2 1 (V.agg [(V.I 0),(V.I 0)]) [(0,V.agg [.I (a:Nat),.I (b:Nat)])]=some (.cells xu 2 true false [.I (a:Nat),.I (b:Nat)],λl=> .slice l 0 1):=λa b=>by rfl
 have Y:jr xu 2 1 (V.agg [(V.I 0),(V.I 0)]) [(0,V.agg [.I 0,.I 0])]=some (.cells xu 2 true false [.I ((0:Nat):Int),.I ((0:Nat):Int)],λl=> .slice l 0 1):=D 0 0;rw[Y,fx]
 have H3:ej F X (eJ eW xu [] .ee::eJ eN eo [] .ee::eJ eB jD (List.replicate u.blocks.length false) (.slice A.next 0 u.blocks.length)::ev h.next 30 (uC u vv vb vs)::cs):=
  (H2.add (p:=eJ eN eo [] .ee) .nil λ_ h=>h).add (p:=eJ eW xu [] .ee) .nil λ_ h=>h
 obtain⟨v4,h4,e4,n4,H4,s4⟩:=H3.vR 0 rfl (jW:=16) (DP:=xu) (y:=(0,0)) (w:=[.I ((0:Nat):Int),.I ((0:Nat):Int)]) (ro:=false) rfl (by decide) (by decide) (by simp);have Z:eR 126 2 16 V.ee (.slice X.next 0 1) (X.new (.cells xu 2 true false [.I ((0:Nat):Int),.I ((0:Nat):Int)]))=some (.val v4 h4):=e4;rw[Z,ei];simp only[je,SO]at H4;obtain⟨l5,o5,h5,e5,e6,n5,H5,s5⟩:=H4.Jj 2 rfl (k:=0) (y:=true) (u:=V.bool true) (by simp;omega) rfl rfl rfl;refine ed e5 ?_;rw[e6,ei];simp only[mA,je]at H5;refine M6 ?_;unfold Gl;have aa:=(C.trans s4).trans s5
 refine Nl (λk x1 x3 x4 I h'=>∃(seen:List Bool) (post:List Nat) (stack:List (Nat×Nat)),x1 = .ptr h.next 0/\x3 = .slice A.next 0 u.blocks.length/\k=mu u.blocks.length (next u) seen stack/\HS u.blocks.length (next u) seen post stack/\Sn F h F h'/\
  ej F h' (eJ eW xu stack I::eJ eN eo post x4::eJ eB jD seen (.slice A.next 0 u.blocks.length)::ev h.next 30 (uC u vv vb vs)::cs)) ?_ (k:=mu u.blocks.length (next u) ((List.replicate u.blocks.length false).set 0 true) [(0,0)])
  ⟨_,[],[(0,0)],rfl,rfl,rfl,HS.start (by omega) o,aa,H5⟩
 rintro k x1 x3 x4 I h6 ⟨seen,post,stack,rfl,rfl,hk,G,J,d⟩;unfold GW;have ab:=G.nodup;have ay:post.length<=u.blocks.length:=jj _ _ (by grind) G.pre;have ng:stack.length<=u.blocks.length:=by
  have:=jj u.blocks.length _ (wBv.1 ab).2.1 λx hx=>by
   obtain⟨y,hy,rfl⟩:=LB.1 hx;exact(G.range y hy).1
  simpa using this
 refine ed (d.len 0 rfl) ?_;rcases mG stack with rfl|⟨s,⟨b,i⟩,rfl⟩
 ·refine Ik (fU (by simp) ?_);have ac:0<post.length:=by
   obtain⟨p,hp⟩:=G.last rfl;rw[hp];simp
  refine Uw d.tail ac (by omega) λh7 S e=>?_;exact H _ _ seen post (J.trans S) e.JS.JS G
 have ax:s.length+1<=u.blocks.length:=by simpa using ng
 refine Ik (gi (by simp_all) ?_);have hlen:(s++[(b,i)]).length-1=s.length:=by simp
 have f:s.length<(s++[(b,i)]).length:=by simp
 have K:(s++[(b,i)])[s.length]'f=(b,i):=by simp
 obtain⟨aA,ae⟩:=G.range (b,i) (by simp);obtain⟨B,hB⟩:∃B,u.blocks[b]? =some B:=by simp_all
 have L:next u b=B.next:=by unfold next;rw[hB]
 simp only[L]at ae;refine ed (d.len 0 rfl) (Aa (by omega) (by simp) ?_);rw[hlen];obtain⟨l7,h7,T,e8,n7,e,S⟩:=d.stF 0 rfl (k:=s.length) (j:=1) (y:=(b,i+1)) (a:= .I ((i+1:Nat):Int)) f (by decide) rfl (λw U=>by
  rw[K]at U;have U:w=[.I b,.I i]:=U;subst U;rfl)
 have T:gz 2 I (.I s.length)=some (.ptr l7 (s.length*2)):=T;obtain⟨l8,o8,w8,i1,i2,i3,i4⟩:=d.ix 0 rfl f .i64;rw[K]at i3;obtain rfl:w8=[.I b,.I i]:=i3;have i1:gz 2 I (.I s.length)=some (.ptr l8 o8):=i1;rw[T]at i1;obtain⟨rfl,rfl⟩:l7=l8/\s.length*2=o8:=by
  simp_all
 have ib:=i4 0 _ rfl;have ii:=i4 1 _ rfl;obtain⟨lb,ob,bv,bn,bp,_,b1,b2,iv,iN,ip,ba⟩:=(W.since J).nf hB;refine ed T (ed (by rfl) (ed (d.ld 3 rfl rfl) (ed (fQ _ _) (ed (by rfl) (ed ib (ed b1 (ed (by rfl) (ed ba.next ?_))))))));refine ed (fQ _ _) (ed (by rfl) (ed ii (ed iN.len ?_)));by_cases hi:i=B.next.length
 ·refine fX (gi (by omega) ?_);refine ed (fQ _ _) (ed (by rfl) (ed ib ?_));rw[qZ,fx];obtain⟨v9,h9,e9,n9,H9,s9⟩:=d.vR 1 rfl (jW:=8) (DP:=3) (y:=b) (w:=gP [b]) (ro:=false) rfl (by decide) (by decide) (by omega);have ag:eR 3 1 8 x4 (.slice h6.next 0 1) (h6.new (.cells 3 1 true false (gP [b])))=some (.val v9 h9):=e9;rw[ag,ei];simp only[mA,je]at H9;refine ed (H9.len 0 rfl) (Aa (by omega) (by simp) ?_);rw[hlen];obtain⟨aB,m,c⟩:=H9.zd1 0 rfl (n:=s.length) (by simp);refine ed m ?_;simp only[je]at c;have et:(s++[(b,i)]).take s.length=s:=by simp
  rw[et]at c;exact⟨_,by grind[zcg],seen,post++[b],s,rfl,rfl,rfl,G.pop (by simp_all),J.trans s9,c⟩
 refine fX (fU (by omega) ?_);have ah:i<B.next.length:=by omega
 have aC:B.next.length<=2:=g.two b B hB;have r:(next u b)[i]? =some B.next[i]:=by rw[L];exact by simp_all
 have ai:B.next[i]<u.blocks.length:=by grind[AW]
 obtain⟨l9,o9,_,j1,j2⟩:=iN.nat (gW ah) .i64;refine ed (fQ _ _) (ed (by rfl) (ed ii (ed j1 (ed j2 ?_))));refine ed (fQ _ _) (ed (by rfl) (ed ii (fL ?_)));refine ed (fQ _ _) (ed (by rfl) ?_);have e8:gI 1 (.ptr l7 (s.length*2+1)) (.I ((i+1:Nat):Int)) h6=some (.val .undef h7):=e8;rw[e8,ei];simp only[je,ZK]at e;have aj:seen.length=u.blocks.length:=G.len;have M:=e.len 2 (xs:=seen) rfl;rw[aj]at M;refine ed M (AS ?_);rw[Kt ai];obtain⟨q,hq⟩:∃q,seen[B.next[i]]? =some q:=by simp_all
 obtain ⟨lq,oq,q1,q2⟩:=e.LO 2 rfl hq .i64;have ea:jO (.bool true) (oB (some (V.slice A.next 0 u.blocks.length)) λak=>oB (some (V.I (B.next[i]:Nat))) λal=>oB (gz 1 ak al) λam=>oB (ez am h7) λan=>pt .not an)=some (.bool (!q)):=by
  simp only[oS,fe,q1,q2,Va]
 refine ed ea (iO ?_)
 cases q with
 | true=>
   refine fU (by simp) ?_
   exact⟨_,by grind[Z8],seen,post,s++[(b,i+1)],rfl,rfl,rfl,G.skip r hq,J.trans S,e⟩
 | false=>
   refine gi rfl ?_;have N:¬qu seen B.next[i]:=by unfold qu;rw[hq];simp
   obtain⟨l10,aD,O,m,ao,aE,c,ap⟩:=e.Jj 2 rfl (k:=B.next[i]) (y:=true) (u:=V.bool true) (by omega) rfl rfl rfl;refine ed m ?_;rw[ao,ei];simp only[mA,je]at c;refine ed (show _=some (V.agg [.I (B.next[i]:Nat),.I ((0:Nat):Int)]) from rfl) ?_;rw[D,fx];obtain⟨aq,ar,au,aF,P,aw⟩:=c.vR 0 rfl (jW:=16) (DP:=xu) (y:=(B.next[i],0)) (w:=[.I (B.next[i]:Nat),.I ((0:Nat):Int)]) (ro:=false) rfl (by decide) (by decide) (by simp;omega);have R:eR 126 2 16 I (.slice O.next 0 1) (O.new (.cells xu 2 true false [.I (B.next[i]:Nat),.I ((0:Nat):Int)]))=some (.val aq ar):=au;rw[R,ei];simp only[je]at P;exact⟨_,by rw[hk];exact zax G r N,_,post,s++[(b,i+1)]++[(B.next[i],0)],rfl,rfl,rfl,G.push r N,((J.trans S).trans ap).trans aw,P⟩
theorem Sr(g:Good u)(c:ej F h cs)(a:DA F h u vv vb vs)(H:∀F' h' v seen post,Sn F h F' h'->ej F' h' cs->HS u.blocks.length (next u) seen post []->iy eN F' h' post.reverse v->Q v h') :
  cP CS oV [.agg (uC u vv vb vs)] h Q:=
 Ku (Kl g) c a.one a.b λh' v seen post d e G=>by
  obtain⟨f,i,j⟩:=e.jI 0 rfl;exact H _ _ v seen post (d.trans i) f.tail G j
end
