/- Parts. -/
import Derived.Test.YtcoaokdoecgcbaaGreatDoorM25
import Derived.Test.YtcoaokdoecgcbaaGreatDoorM19
set_option maxHeartbeats 4000000
namespace Go.Proofs.YtcoaokdoecgcbaaGreatDoor.Hx
open Un Dm
variable{ty:Nat}{v:V}
theorem zah(h:Hp):∀op,1<=op->op<=23->∃s,s≠[]/\CS.K K7 [.I (op:Nat)] h=some (.str s)
 |0,h,_=>by omega
 |1,_,_=>⟨_,by decide,rfl⟩
 |2,_,_=>⟨_,by decide,rfl⟩
 |3,_,_=>⟨_,by decide,rfl⟩
 |4,_,_=>⟨_,by decide,rfl⟩
 |5,_,_=>⟨_,by decide,rfl⟩
 |6,_,_=>⟨_,by decide,rfl⟩
 |7,_,_=>⟨_,by decide,rfl⟩
 |8,_,_=>⟨_,by decide,rfl⟩
 |9,_,_=>⟨_,by decide,rfl⟩
 |10,_,_=>⟨_,by decide,rfl⟩
 |11,_,_=>⟨_,by decide,rfl⟩
 |12,_,_=>⟨_,by decide,rfl⟩
 |13,_,_=>⟨_,by decide,rfl⟩
 |14,_,_=>⟨_,by decide,rfl⟩
 |15,_,_=>⟨_,by decide,rfl⟩
 |16,_,_=>⟨_,by decide,rfl⟩
 |17,_,_=>⟨_,by decide,rfl⟩
 |18,_,_=>⟨_,by decide,rfl⟩
 |19,_,_=>⟨_,by decide,rfl⟩
 |20,_,_=>⟨_,by decide,rfl⟩
 |21,_,_=>⟨_,by decide,rfl⟩
 |22,_,_=>⟨_,by decide,rfl⟩
 |23,_,_=>⟨_,by decide,rfl⟩
 |n+24,_,h=>by omega
theorem zgD{h:Hp}{X:Option (V×Hp)}{K:fj}(H:oP X λy=>K y.1 y.2):oP (gD true (.bool true)) λb=>ghP b h X K:=H
section
variable{F F':Nat->Prop}{h h':Hp}{cs:List Pc}{Q:fj}{u:U}{vv vb vs:V}{lc:Nat}{bl pl Jf:V}
theorem zeb{op:Nat}(a:1<=op)(b:op<=23)(H:∀s,s≠[]->Q (.str s) h):cP CS K7 [.I op] h Q:=by
 let⟨fn,c,hf,hb⟩:=Vg
 let⟨s,hs,hk⟩:=zah h op a b
 exact cP.known hf hb hk rfl rfl (H s hs)
theorem UZ{lv:Nat}{x:Vl}{w:V}{ys:List Vl}(s:ej F h (eD lv Ay (yM x w)::cs))(hl:hD eV F h ys v)(J:ys.length<1000000)(t:∀y∈ys,¬(y.op=1/\y.n=x.n))
  (H:∀h',Sn F h F h'->ej F h' (eD lv Ay (yM x w)::cs)->Q (.bool false) h'):cP CS jG [v,.func mj [] [.ptr lv 0]] h Q:=by
 refine tz ?_;refine vC ?_;refine ec hl.len ?_
 refine tE (λk j m p q h'=>∃i,j=v/\m = .func mj [] [.ptr lv 0]/\p = .I ys.length/\q = .I (i:Nat)/\i+k=ys.length/\Sn F h F h'/\ej F h' (eD lv Ay (yM x w)::cs)) ?_ (k:=ys.length)
  ⟨0,rfl,rfl,rfl,rfl,by omega,Sn.refl _ _,s⟩
 rintro k j m p q h' ⟨i,rfl,rfl,rfl,rfl,K,s1,r⟩;unfold jH;by_cases hi:i<ys.length;rotate_left
 ·refine iA ?_;refine ec (jK _ _ _ _) ?_;exact H h' s1 r
 refine gy ?_;obtain⟨l,o,c,_,u,z,⟨a,rfl,A⟩,_⟩:=(hl.since s1).ix hi .i64;refine ec u (ec z ?_);show cP CS mj [.agg (yM ys[i] a),.ptr lv 0] h' _;refine JU ?_;refine oC r (by simp only[yM,fe,A.one];rfl) λb d B=>?_;refine ec (by rfl) (ec (d.ld 0 rfl rfl) (ec (by rfl) ?_));have e:iM (.bool (((ys[i].op:Nat):Int) == 1)) (oB (fJ 3 (.ptr h'.next 0)) λC=>oB (ez C b) λD=>oB (fJ 3 (.ptr lv 0)) λf=>oB (ez f b) λg=>ef .eql 2 D g)=some (.bool false):=by
  have E:ez (.ptr h'.next (0+3)) b=some (.I ys[i].n):=d.ld 0 rfl rfl;have G:ez (.ptr lv (0+3)) b=some (.I x.n):=d.ld 1 rfl rfl;simp only[fo,eQ,E,G,gS,iT];congr 2;rw[wB0];intro I;simp[yF,Ey]at I;exact by grind
 refine ec e (fX (fH (by simp) ?_));exact fG ⟨k-1,by omega,i+1,rfl,rfl,rfl,rfl,by omega,s1.trans B,d.tail⟩
theorem zcw{lv:Nat}{x:Vl}{w:V}{D:V}(a:D = .ptr lc 0)(C:Ck F h (eD lv Ay (yM x w)::cs) lc u vv vb vs bl pl Jf)(hl:leaves x.op=true->x.state<u.eE.length)(hc:lv≠lc)(H:ez (.ptr lv 5) h=some (.I x.state)){K:fj}(E:K (.bool false) h) :
  oP (gD true (.bool (leaves x.op))) λb=>
  oP (gV b (fJ 5 (.ptr lv 0))) λc=>
  oP (gD true (.bool (leaves x.op))) λd=>
  oP (gV d (ez c h)) λe=>
  oP (gD true (.bool (leaves x.op))) λf=>
  oP (gV f (some D)) λg=>
  oP (gD true (.bool (leaves x.op))) λi=>
  oP (gV i (fR g)) λj=>
  oP (gD true (.bool (leaves x.op))) λk=>
  oP (gV k (fJ 0 j)) λl=>
  oP (gD true (.bool (leaves x.op))) λm=>
  oP (gV m (fJ 4 l)) λn=>
  oP (gD true (.bool (leaves x.op))) λo=>
  oP (gV o (ez n h)) λp=>
  oP (gD true (.bool (leaves x.op))) λq=>
  oP (gV q (fE p)) λr=>
  oP (gD true (.bool (leaves x.op))) λt=>
  oP (gC t (some (mH,[e,r]))) λv=>zL CS v h λy G=>
  (h.next<=G.next/\
  oP (gD true (.bool (leaves x.op))) λz=>
  oP (gV z (wI .not y)) λA=>
  oP (mi (.bool false) (yP (.bool (leaves x.op)) A (V.bool false))) λB=>K B G):=by
 subst a
 cases hq:leaves x.op with
 | true=>
   have:=hl hq;refine gY (ec (by rfl) (gY (ec H (gY (ec rfl (gY (ec (eC _ _) (gY (ec (by rfl) (gY (ec (by rfl) (gY (ec (C.ld 4 rfl) (gY (ec C.u.s.len (Ci ?_))))))))))))))));refine BI ⟨jJ _,gY ?_⟩;rw[Ov this]
   exact ec rfl (ec rfl E)
 |false=>exact sX (sX (sX (sX (sX (sX (sX (sX (zb6 ⟨jJ _,sX (ec rfl E)⟩))))))))
theorem zgi(g:Good u)(C:Ck F h cs lc u vv vb vs bl pl Jf){xs ys:List Int}(q:hD eZ F h xs bl)(S:Std u u.blocks.length 0 xs ys){i:Nat}(hi:i<u.ee.length)(M:lc<h.next)
  (H:∀F' h',Sn F h F' h'->ej F' h' cs->Q (.bool true) h'):cP CS rj [.ptr lc 0,.I i] h Q:=by
 refine L6 ?_;have nv:=g.nv;have nb:=g.nb;obtain⟨x,d⟩:∃x,u.ee[i]? =some x:=by simp_all
 let⟨b,k,hat⟩:=g.NN i hi trivial
 let⟨B,hB,hk⟩:=id hat
 have l:=g.op i x d;have m:=g.use i x d;have r:B.fk.length<=700:=by
  rw[g.fk b B hB,<-sI];have:=sM g (j:=0) (b:=b) (jJ _) (by omega);omega
 have t:x.op=21\/x.op=20->x.args.length<=700:=by
  rintro(z|z)
  ·rw[(g.XS _ _ _ _ _ hat d z hB).2];exact r
  ·rw[g.putAt i x d z];omega
 let⟨K,X,w,_,N,O,iw,_⟩:=C.u.val d
 refine ec (eC _ _) (ec (by rfl) (ec (by rfl) (ec (C.ld 2 rfl) (ec N (ec O ?_)))));refine jX C.H rfl rfl (by simp only[yM,fe,iw.one];rfl) λY p A=>?_;have C2:=C.cons A p;have f:=iw.since A;refine ec (by rfl) (ec (p.ld 0 rfl rfl) ?_);refine zeb l.1 l.2 λs hs=>⟨jJ _,?_⟩
 refine ec (by rfl) ?_;rw[show(s == [])=false from Ym.2 hs];refine fY (ec rfl (fY (ec (p.tj 0 rfl rfl) (qC ?_))));refine Uk p f (by omega) λZ L v o a P=>⟨o.next,?_⟩
 have C3:=C2.since o a;have c:=A.trans o;refine qC (MZ C3 P (by grind[QZ]) m ⟨jJ _,fY (ec rfl (ec rfl ?_))⟩);refine fY (ec (by rfl) (fY (ec (a.ld 0 rfl rfl) (qC ?_))));refine RT ⟨jJ _,fY (ec rfl ?_)⟩;refine zcw rfl C3 (g.leave i x d) (by omega) (a.ld 0 rfl rfl) ?_;refine fX (fH (by simp) ?_);refine ec (by rfl) (ec (a.ld 0 rfl rfl) ?_);by_cases D:x.op=20
 ·refine fx (io ?_);refine ec (by rfl) (ec (a.ld 0 rfl rfl) (ec (f.since o).len (fM ?_)));rw[g.putAt i x d D];exact H _ _ c a.tail
 refine fx (kw ?_);by_cases E:x.op=21
 ·refine fx (io ?_)
  let⟨lb,ob,_,R,T⟩:=(q.since c).int ((S.yes i b k hat (by grind)).1) .i64
  let⟨l7,o7,bv,bn,bp,_,G,_,_,_,ip,ba⟩:=C3.u.B8 hB
  refine ec (by rfl) (ec (a.ld 0 rfl rfl) (ec (f.since o).len ?_));refine ec (eC _ _) (ec (by rfl) (ec (by rfl) (ec (C3.ld 3 rfl) (ec (eC _ _) (ec (by rfl) (ec (C3.ld 5 rfl) (ec R (ec T (ec G ?_)))))))));refine ec (by rfl) (ec ba.fk (ec ip.len (fM ?_)));rw[(g.XS _ _ _ _ _ hat d E hB).2,Ov rfl];exact H _ _ c a.tail
 refine fx (kw ?_);by_cases U:x.op=1
 ·refine fx (io ?_)
  let⟨p1,p2,p3⟩:=g.param i x d U
  refine ec (by rfl) (ec (a.ld 0 rfl rfl) (ec (by rfl) ?_));have e:iM (.bool (decide ((0:Int)<=x.n))) (oB (fJ 3 (.ptr h.next 0)) λI=>oB (ez I L) λJ=>ef .lss 2 J (V.I 40))=some (.bool true):=by
   have K:ez (.ptr h.next (0+3)) L=some (.I x.n):=a.ld 0 rfl rfl;simp[ eQ,K];simp[p1,p2]
  refine ec e ?_
  let⟨vc,e1,r1⟩:=C3.u.v.cut (lo:=none) (hi:=some (.I i)) (n:=i) rfl (by rfl) (PM _) (by omega)
  rw[wBT]at r1;refine gY (ec rfl (gY (ec (eC _ _) (gY (ec (by rfl) (gY (ec (by rfl) (gY (ec (C3.ld 2 rfl) (gY (ec rfl (gY (ec e1 (gY (ec rfl (Ci ?_))))))))))))))));refine UZ a r1 (by grind) (λy hy hh=>?_) λh4 s4 W=>ec rfl (H _ _ (c.trans s4) W.tail)
  grind[mz,ke]
 ·refine fx (kw ?_);exact H _ _ c a.tail
theorem zeT(g:Good u)(C:Ck F h cs lc u vv vb vs bl pl Jf){i:Nat}{B:Bk}(o:u.blocks[i]? =some B)(H:∀F' h',Sn F h F' h'->ej F' h' cs->Q (.bool true) h'):cP CS qa [.ptr lc 0,.I i] h Q:=by
 refine K8 ?_;have c:=g.fin i B o
 let⟨l7,J,bv,bn,bp,_,x,y,iv,d,ip,_⟩:=C.u.B8 o
 refine ec (eC _ _) (ec (by rfl) (ec (by rfl) (ec (C.ld 3 rfl) (ec x (ec y ?_)))));refine jX C.H rfl rfl (by simp only[pR,fe,iv.one,d.one,ip.one];rfl) λz a e=>?_;have C2:=C.cons e a;have d:=d.since e;refine ec (by rfl) (ec (a.ld 0 rfl rfl) (ec d.len ?_));have A:B.next.length<=2:=by
  rcases c with⟨_,h⟩|⟨_,h,_⟩|⟨_,h,_⟩
  ·omega
  ·omega
  ·simp_all
 refine GX (λk p q f l m h'=>∃j,p = .ptr lc 0/\q = .ptr h.next 0/\f=bn/\l = .I B.next.length/\m = .I (j:Nat)/\j+k=B.next.length/\h' = z) ?_ (k:=B.next.length) (by simp_all);rintro k p q f l m h' ⟨j,rfl,rfl,rfl,rfl,rfl,K,rfl⟩;unfold qW;by_cases hj:j<B.next.length
 ·refine gy ?_
  let⟨L,M,_,D,E⟩:=d.nat (hZ hj) .i64
  have G:B.next[j]<u.blocks.length:=g.nx i _ (by grind[next,AL]);refine ec D (ec E (ec (eC _ _) (ec (by rfl) (ec (by rfl) (ec (C2.ld 3 rfl) (ec C2.u.b.len ?_))))));refine BI (py (fO (by simp_all) ?_));exact fG ⟨k-1,by omega,j+1,rfl,rfl,rfl,rfl,rfl,by omega,rfl⟩
 refine iA ?_;refine ec (by rfl) (ec (a.ld 0 rfl rfl) ?_);rcases c with⟨r,n⟩|⟨r,n,t⟩|⟨r,n,t⟩
 ·refine fx (io ?_);refine ec (by rfl) (ec (a.ld 0 rfl rfl) (ec d.len (fM ?_)));rw[n];exact H _ _ e a.tail
 ·refine fx (kw ?_);refine fx (io ?_);refine ec (by rfl) (ec (a.ld 0 rfl rfl) (ec d.len (fM ?_)));rw[n,show decide (((2:Nat):Int)=2)=true from rfl];refine gY (ec rfl (gY (ec (by rfl) (gY (ec (a.ld 0 rfl rfl) (zgD ?_))))));rw[F0,eQ]
  let⟨v,w,I⟩:=a.zaU fN rfl (BB F h' [B.cond]) false
  have C3:=C2.since w v;refine ec rfl (Ci ?_);refine MZ C3 I (by simp) (by simp_all) (ec rfl ?_);exact H _ _ (e.trans w) v.tail
 ·refine fx (kw ?_);refine fx (kw ?_);refine fx (io ?_);refine ec (by rfl) (ec (a.ld 0 rfl rfl) (ec d.len (fM ?_)));rw[n,show decide ((([]:List Nat).length:Int)=0)=true from rfl];refine gY (ec (by rfl) (gY (ec (a.ld 0 rfl rfl) (gY (ec rfl (gY (ec (eC _ _) (gY (ec (by rfl) (gY (ec (by rfl) (gY (ec (C2.ld 4 rfl) (gY (ec C2.u.s.len (Ci ?_))))))))))))))));refine BI ⟨jJ _,?_⟩;rw[Ov t];exact ec rfl (H _ _ e a.tail)
theorem zfK(g:Good u)(C:Ck F h cs lc u vv vb vs bl pl Jf){i:Nat}{B:Bk}(A:u.blocks[i]? =some B)(H:∀F' h',Sn F h F' h'->ej F' h' cs->Q (.bool true) h'):cP CS rJ [.ptr lc 0,.I i] h Q:=by
 refine Mf ?_;have nb:=g.nb;have r2:∀n d,Sn F h n d->ej n d cs->nP Q (.ptr lc 0) (.I i) d:=by
  intro n d s1 D;have C1:=C.since s1 D;refine Jc ?_;unfold sH
  let⟨l7,o7,bv,bn,bp,_,i1,i2,iv,o,ip,_⟩:=C1.u.B8 A
  refine ec (eC _ _) (ec (by rfl) (ec (by rfl) (ec (C1.ld 3 rfl) (ec i1 (ec i2 ?_)))));refine jX C1.H rfl rfl (by simp only[pR,fe,iv.one,o.one,ip.one];rfl) λE G I=>?_;have C2:=C1.cons I G;have o:=o.since I;refine ec (by rfl) (ec (G.ld 0 rfl rfl) (ec o.len ?_));have ac:B.next.length<=2:=by
   rcases g.fin i B A with⟨_,h⟩|⟨_,h,_⟩|⟨_,h,_⟩
   ·omega
   ·omega
   ·simp_all
  refine HS (λk p x7 q r s h'=>∃j,p = .ptr lc 0/\x7 = .ptr d.next 0/\q=bn/\r = .I B.next.length/\s = .I (j:Nat)/\j+k=B.next.length/\h' = E) ?_ (k:=B.next.length) (by simp_all);rintro k p x7 q r s h' ⟨j,rfl,rfl,rfl,rfl,rfl,hk,rfl⟩;unfold rU;by_cases hj:j<B.next.length;rotate_left
  ·exact iA (H _ _ (s1.trans I) G.tail)
  refine gy ?_
  let⟨l8,o8,_,J,K⟩:=o.nat (hZ hj) .i64
  have t:B.next[j]∈next u i:=by unfold next;rw[A];exact AL hj
  have ad:=g.nx i _ t;obtain⟨l,a⟩:∃l,u.blocks[B.next[j]]? =some l:=by simp_all
  let⟨l9,o9,bv',bn',bp',_,f,_,_,_,ip',ba'⟩:=C2.u.B8 a
  refine ec J (ec K (ec (by rfl) (ec (G.ld 0 rfl rfl) (ec (by rfl) ?_))));have e:iM (.bool (((B.fin:Nat):Int) == 2)) (oB (some (V.ptr lc 0)) λL=>oB (fR L) λM=>oB (fJ 0 M) λN=>oB (fJ 3 N) λO=>oB (ez O h') λP=>oB (some (V.I (B.next[j]:Nat))) λR=>oB (gM 6 P R) λS=>oB (fJ 4 S) λT=>oB (ez T h') λU=>oB (fE U) λW=>ef .neq 3 W (V.I 1))=some (.bool false):=by
   have l1:=C2.ld 3 rfl;have l2:=ba'.fk;simp only[eQ,eC,fo,l1,f,l2,ip'.len,rZ,iT];congr 2;rw[wB0];intro m;simp[yF,Ey,bne_iff_ne]at m;have d:=g.RI i B A (by omega) (B.next[j]) (AL hj);rw[g.fk _ _ a,d]at m;exact m.2 rfl
  refine ec e (fX (fH (by simp) ?_));exact fG ⟨k-1,by omega,j+1,rfl,rfl,rfl,rfl,rfl,by omega,rfl⟩
 by_cases hi:i=0;rotate_left
 ·exact fx (kw (r2 F h (Sn.refl _ _) C.H))
 refine fx (io ?_);have lA:fZ 5 (.ptr lc 0) h=some (.agg (uC u vv vb vs)):=by
  let⟨j,ty,hc⟩:=C.c
  rw[zy (C.H.get j hc),I4 (by simp)];rfl
 refine ec (eC _ _) (ec (by rfl) (ec lA ?_));refine US g C.H C.u λn d v s1 D r1=>?_;have lr:=r1.len;rw[RC,List.length_range]at lr;refine ec lr ?_;have C1:=C.since s1 D;refine Hy (λk p x1 w y z h'=>∃j,p = .ptr lc 0/\x1 = .I i/\w=v/\y = .I u.blocks.length/\z = .I (j:Nat)/\j+k=u.blocks.length/\h' = d) ?_ (k:=u.blocks.length) (by simp_all);rintro k p x1 w y z h' ⟨j,rfl,rfl,rfl,rfl,rfl,hk,rfl⟩;unfold rW;by_cases hj:j<u.blocks.length;rotate_left
 ·exact iA (r2 n h' s1 D)
 refine gy ?_;obtain⟨l,a⟩:∃l,u.blocks[j]? =some l:=by simp_all
 let⟨l8,o8,w8,_,J,K,j3⟩:=r1.list (i:=j) (x:=Un.ahead u j) (by simp[hj]) .i64
 let⟨l9,o9,bv',bn',bp',_,f,_,_,_,ip',ba'⟩:=C1.u.B8 a
 have ae:(Un.ahead u j).length<=700:=by
  rw[<-sI];have:=sM g (j:=0) (b:=j) (jJ _) (by omega);omega
 rw [g.fk j l a]at ip';refine ec J (ec K (ec (eC _ _) (ec (by rfl) (ec (by rfl) (ec (C1.ld 3 rfl) (ec f (ec (by rfl) (ec ba'.fk ?_))))))));refine zbX j3 ip' (by omega) (ec rfl ?_);have e:mi (.bool (!true)) (oB (some (V.I j)) λX=>oB (ef .eql 3 X (V.I 0)) λY=>oB (some Y) λZ=>iM Z (oB (some w8) λaa=>oB (fE aa) λab=>ef .gtr 3 ab (V.I 0)))=some (.bool false):=by
  simp only[Bool.not_true,qK,eQ,gS,j3.len,jr,iT];congr 2;rw[wB0];intro m;simp[yF,Ey,yU]at m
  let⟨d,E⟩:=m
  obtain rfl:j=0:=by omega
  rw[g.Tk]at E;simp at E
 refine ec e (fX (fH (by simp) ?_));exact fG ⟨k-1,by omega,j+1,rfl,rfl,rfl,rfl,rfl,by omega,rfl⟩
theorem ej.stF{α:Type}{E:tq α}{xs:List α}(H:ej F h cs)(i:Nat)(hi:cs[i]? =some (ft E ty xs v)){k j:Nat}{y:α}{a:V}(c:k<xs.length)(d:j<E.sz)(e:a.one=true)(f:∀w,E.rel F h xs[k] w->E.rel F h y (w.set j a)) :
  ∃l h',gM E.sz v (.I k)=some (.ptr l (k*E.sz))/\gj 1 (.ptr l (k*E.sz+j)) a h=some (.val .undef h')/\h.next<=h'.next/\ej F h' (cs.set i (ft E ty (xs.set k y) v))/\Sn F h F h':=by
 let⟨t,h',o,g,m,n,b⟩:=(H.row i hi).store c d e f
 exact⟨t,h',g,m,b.next,H.z8 hi b n λ_ h=> .inl h⟩
theorem ej.Z5{xs:List Nat}(H:ej F h cs)(i:Nat)(hi:cs[i]? =some (ft eN ty xs v)){k x:Nat}(b:xs[k]? =some x)(a:IntKind):∃l o,gM 1 v (.int a (k:Nat))=some (.ptr l o)/\ez (.ptr l o) h=some (.I x):=by
 let⟨l,o,_,c,d⟩:=(H.row i hi).read.nat b a
 grind
theorem ej.BY{xs:List Int}(H:ej F h cs)(i:Nat)(hi:cs[i]? =some (ft eZ ty xs v)){k:Nat}{x:Int}(b:xs[k]? =some x)(a:IntKind):∃l o,gM 1 v (.int a (k:Nat))=some (.ptr l o)/\ez (.ptr l o) h=some (.I x):=by
 let⟨l,o,_,c,d⟩:=(H.row i hi).read.int b a
 grind
theorem ej.Yw{xs:List Bool}(H:ej F h cs)(i:Nat)(hi:cs[i]? =some (ft eB ty xs v)){k:Nat}{x:Bool}(b:xs[k]? =some x)(a:IntKind):∃l o,gM 1 v (.int a (k:Nat))=some (.ptr l o)/\ez (.ptr l o) h=some (.bool x):=by
 let⟨l,o,_,c,d⟩:=(H.row i hi).read.bool b a
 grind
theorem W0{xs:List Nat}(f:ej F h (ft eN ty xs v::cs))(h0:0<xs.length)(hl:xs.length<1000000)(H:∀h',Sn F h F h'->ej F h' (ft eN ty xs.reverse v::cs)->Q (.tuple []) h') :
  cP CS oy [v] h Q:=by
 refine DI ?_;refine ec (f.len 0 rfl) (vz (by omega) h0 ?_)
 refine AM (λk g j l h'=>∃i ys,g=v/\j = .I (i:Nat)/\l = .I ((xs.length-1-i:Nat):Int)/\i+k=xs.length/\2*i<=xs.length/\ys.length=xs.length/\
  (∀p,p<xs.length->ys[p]? =if p<i\/xs.length-i<=p then xs[xs.length-1-p]? else xs[p]?)/\Sn F h F h'/\ej F h' (ft eN ty ys v::cs)) ?_ (k:=xs.length)
  ⟨0,xs,rfl,rfl,by rw[Nat.sub_zero],by omega,by omega,rfl,by grind,Sn.refl _ _,f⟩
 rintro k g j l G ⟨i,ys,rfl,rfl,rfl,I,o,q,hp,s1,c⟩;unfold mE;by_cases hij:i<xs.length-1-i
 ·refine gy ?_;obtain⟨a,m⟩:∃a,ys[i]? =some a:=by grind
  obtain⟨b,n⟩:∃b,ys[xs.length-1-i]? =some b:=by grind
  let⟨J,K,r,s⟩:=c.Z5 0 rfl n .i64
  let⟨L,o2,t,u⟩:=c.Z5 0 rfl m .i64
  refine ec r (ec s (ec t (ec u ?_)));obtain⟨M,N,O,e1,e2,w,x,y⟩:=c.M7 0 rfl (k:=i) (by omega) rfl rfl rfl;refine ec e1 ?_;rw[e2,eh];obtain⟨P,R,S,z,A,B,C,s4⟩:=x.M7 0 rfl (k:=xs.length-1-i) (by simp;omega) rfl rfl rfl;refine⟨w,ec z ?_⟩;rw[A,eh];refine⟨B,fG (vz (by omega) (by omega) ?_)⟩;refine⟨k-1,by omega,i+1,(ys.set i b).set (xs.length-1-i) a,rfl,rfl,by rfl,by omega,by omega,by simp[q],λp d=>?_,(s1.trans y).trans s4,C⟩;have D:=hp i (by omega);rw[ m]at D;have E:=hp (xs.length-1-i) (by omega);rw[if_neg (by omega),n]at E;by_cases e1:p=xs.length-1-i
  ·grind
  ·rw[VL (by omega)];by_cases e2:p=i
   ·simp_all
   grind
 ·refine iA ?_;have e:ys=xs.reverse:=by
   refine wBw λp=>?_;by_cases d:p<xs.length
   ·grind
   ·simp_all
  simp_all
theorem zcv{α:Type}(s:List α)(x y:α):(s++[x]).set s.length y=s++[y]:=by simp
structure zg0 (u:U):Prop where
 Xi:1<=u.blocks.length
 nb:u.blocks.length<=300
 nx:∀b,∀t∈next u b,t<u.blocks.length
 two:∀(b:Nat) B,u.blocks[b]? =some B->B.next.length<=2
theorem ZT(g:Good u):zg0 u:=⟨g.Xi,g.nb,g.nx,λb B a=>by
 rcases g.fin b B a with⟨_,h⟩|⟨_,h,_⟩|⟨_,h,_⟩
 ·omega
 ·omega
 simp_all⟩
theorem hD.B8{bs:List Bk}(a:hD eK F h bs vb){i:Nat}{x:Bk}(c:bs[i]? =some x) :
  ∃l o v n p,F l/\gM 6 vb (.I i)=some (.ptr l o)/\fZ 6 (.ptr l o) h=some (.agg (pR x v n p))/\hD eN F h x.ee v/\hD eN F h x.next n/\hD eN F h x.fk p/\zgQ h l o x v n p:=by
 obtain⟨hi,rfl⟩:=ke.1 c;obtain⟨l,o,w,d,e,f,⟨v,n,p,rfl,g,j,k⟩,b⟩:=a.ix hi .i64;exact⟨l,o,v,n,p,d,e,f,g,j,k,⟨b 0 _ rfl,b 1 _ rfl,b 2 _ rfl,b 3 _ rfl,b 4 _ rfl,b 5 _ rfl⟩⟩
theorem Z0(g:zg0 u)(H0:ej F h cs)(ho:gi (uC u vv vb vs)=true)(T:hD eK F h u.blocks vb)(H:∀h' v seen post,Sn F h F h'->ej F h' (ft eN fN post.reverse v::cs)->No u.blocks.length (next u) seen post []->Q v h') :
  cP CS sL [.agg (uC u vv vb vs)] h Q:=by
 refine Wk ?_;have nb:=g.nb;have Xi:=g.Xi;have o:∀b,b<u.blocks.length->∀t∈next u b,t<u.blocks.length:=λb _ t r=>g.nx b t r
 refine oC H0 ho λO H1 s1=>?_;refine ec (by rfl) (ec (H1.ld 0 rfl rfl) (ec (T.since s1).len ?_));rw[pG rfl (by decide) (by omega),fK];obtain⟨H2,s2⟩:=H1.make (E:=eB) u.blocks.length rfl rfl;have z:=s1.trans s2;refine ec (by rfl) (ec (H2.ld 1 rfl rfl) (ec (T.since z).len ?_));refine PT (io ?_);refine ec (by rfl) ?_;generalize O.new (.cells hV 1 true false (List.replicate u.blocks.length (V.bool false)))=h2 at*;have A:∀a b,iO CC 2 1 (V.agg [(V.I 0),(V.I 0)]) [(0,V.agg [.I (a:Nat),.I (b:Nat)])]=some (.cells CC 2 true false [.I (a:Nat),.I (b:Nat)],λl=> .slice l 0 1):=λa b=>by rfl
 have U:iO CC 2 1 (V.agg [(V.I 0),(V.I 0)]) [(0,V.agg [.I 0,.I 0])]=some (.cells CC 2 true false [.I ((0:Nat):Int),.I ((0:Nat):Int)],λl=> .slice l 0 1):=A 0 0;rw[U,fK]
 have H3:=
  (H2.add (p:=ft eN fN [] .ed) .nil λ_ h=>h).add (p:=ft eW CC [] .ed) .nil λ_ h=>h
 obtain⟨v4,h4,e4,n4,H4,s4⟩:=H3.pT 0 rfl (iU:=16) (y:=(0,0)) rfl (by decide) (by decide) (by simp);have W:fg 157 2 16 V.ed (.slice h2.next 0 1) (h2.new (.cells CC 2 true false [.I ((0:Nat):Int),.I ((0:Nat):Int)]))=some (.val v4 h4):=e4;rw[W,eh];simp[ RL]at H4;obtain⟨l5,o5,h5,e5,e6,n5,H5,s5⟩:=H4.M7 2 rfl (k:=0) (by simp;omega) rfl rfl rfl;refine ec e5 ?_;rw[e6,eh];simp[ DR]at H5;refine PW ?_;unfold A3;have X:=(z.trans s4).trans s5
 refine Q7 (λk x1 x3 x4 C h'=>∃seen post stack,x1 = .ptr h.next 0/\x3 = .slice O.next 0 u.blocks.length/\k=mu u.blocks.length (next u) seen stack/\No u.blocks.length (next u) seen post stack/\Sn F h F h'/\
  ej F h' (ft eW CC stack C::ft eN fN post x4::ft eB hV seen (.slice O.next 0 u.blocks.length)::eD h.next 34 (uC u vv vb vs)::cs)) ?_
  ⟨_,[],[(0,0)],rfl,rfl,rfl,No.start (by omega) o,X,H5⟩
 rintro k x1 x3 x4 C Y ⟨seen,post,stack,rfl,rfl,hk,G,D,d⟩;unfold Bi;have Z:=G.nodup;have au:=qG _ _ (by grind) G.pre;have pO:stack.length<=u.blocks.length:=by
  have:=qG u.blocks.length _ (wBk.1 Z).2.1 λx hx=>by
   obtain⟨y,hy,rfl⟩:=V7.1 hx;exact(G.range y hy).1
  simpa using this
 refine ec (d.len 0 rfl) ?_;rcases jh stack with rfl|⟨s,⟨b,i⟩,rfl⟩
 ·refine PT (fH (by simp) ?_);have aa:0<post.length:=by
   let⟨p,hp⟩:=G.last rfl
   rw[hp];simp
  refine W0 d.tail aa (by omega) λh7 P e=>?_;exact H _ _ seen post (D.trans P) e.Eu.Eu G
 refine PT (fO (by simp_all) ?_);have hlen:(s++[(b,i)]).length-1=s.length:=by simp
 have f:s.length<(s++[(b,i)]).length:=by simp
 have I:(s++[(b,i)])[s.length]'f=(b,i):=by simp
 let⟨hbn,hin⟩:=G.range (b,i) (by simp)
 obtain⟨B,hB⟩:∃B,u.blocks[b]? =some B:=by simp_all
 have J:next u b=B.next:=by unfold next;rw[hB]
 simp [J]at hin;refine ec (d.len 0 rfl) (vz (by omega) (by simp) ?_);rw[hlen];obtain⟨l7,h7,R,e8,n7,e,P⟩:=d.stF 0 rfl (j:=1) (y:=(b,i+1)) f (by decide) rfl (λw S=>by
  rw[I]at S;have S:=S;subst S;rfl)
 have R:gM 2 C (.I s.length)=some (.ptr l7 (s.length*2)):=R
 let⟨l8,o8,w8,i1,i2,i3,i4⟩:=d.ix 0 rfl f .i64
 rw [I]at i3;obtain rfl:w8=[.I b,.I i]:=i3;have i1:gM 2 C (.I s.length)=some (.ptr l8 o8):=i1;rw[R]at i1;obtain⟨rfl,rfl⟩:l7=l8/\s.length*2=o8:=by
  simp_all
 have ib:=i4 0 _ rfl;have ii:=i4 1 _ rfl
 let⟨lb,ob,bv,bn,bp,_,b1,b2,iv,iN,ip,ba⟩:=(T.since D).B8 hB
 refine ec R (ec (by rfl) (ec (d.ld 3 rfl rfl) (ec (eC _ _) (ec (by rfl) (ec ib (ec b1 (ec (by rfl) (ec ba.next ?_))))))));refine ec (eC _ _) (ec (by rfl) (ec ii (ec iN.len ?_)));by_cases hi:i=B.next.length
 ·refine fx (io ?_);refine ec (eC _ _) (ec (by rfl) (ec ib ?_));rw[F0,fK];obtain⟨v9,h9,e9,n9,H9,s9⟩:=d.pT 1 rfl (iU:=8) rfl (by decide) (by decide) (by omega);have ab:fg 3 1 8 x4 (.slice Y.next 0 1) (Y.new (.cells 3 1 true false (oY [b])))=some (.val v9 h9):=e9;rw[ab,eh];refine ec (H9.len 0 rfl) (vz (by omega) (by simp) ?_);rw[hlen]
  let⟨aw,m,c⟩:=H9.zd0 0 rfl (n:=s.length) (by simp)
  refine ec m ?_;have et:(s++[(b,i)]).take s.length=s:=by simp
  rw[et]at c;exact⟨_,by grind[zfN],seen,post++[b],s,rfl,rfl,rfl,G.pop (by simp_all),D.trans s9,c⟩
 refine fx (kw ?_);have ac:i<B.next.length:=by omega
 have ax:=g.two b B hB;have r:(next u b)[i]? =some B.next[i]:=by rw[J];exact by simp_all
 have ad:B.next[i]<u.blocks.length:=by grind[AL]
 let⟨l9,o9,_,j1,j2⟩:=iN.nat (hZ ac) .i64
 refine ec (eC _ _) (ec (by rfl) (ec ii (ec j1 (ec j2 ?_))));refine ec (eC _ _) (ec (by rfl) (ec ii (fG ?_)));refine ec (eC _ _) (ec (by rfl) ?_);have e8:gj 1 (.ptr l7 (s.length*2+1)) (.I ((i+1:Nat):Int)) Y=some (.val .undef h7):=e8;rw[e8,eh];simp[DR,zcv]at e;have ae:=G.len;have K:=e.len 2 rfl;rw[ae]at K;refine ec K (BI ?_);rw[Ov ad];obtain⟨q,hq⟩:∃q,seen[B.next[i]]? =some q:=by simp_all
 let⟨lq,oq,q1,q2⟩:=e.Yw 2 rfl hq .i64
 have ea:iM (.bool true) (oB (some (V.slice O.next 0 u.blocks.length)) λag=>oB (some (V.I (B.next[i]:Nat))) λah=>oB (gM 1 ag ah) λai=>oB (ez ai h7) λaj=>wI .not aj)=some (.bool (!q)):=by
  simp[yo,eQ,q1,q2,zdB]
 refine ec ea (fX ?_)
 cases q with
 | true=>
   refine fH (by simp) ?_
   exact⟨_,by grind[zdX],seen,post,s++[(b,i+1)],rfl,rfl,rfl,G.skip r hq,D.trans P,e⟩
 | false=>
   refine fO rfl ?_;have L:¬rT seen B.next[i]:=by unfold rT;rw[hq];simp
   obtain⟨ay,az,M,m,ak,aA,c,al⟩:=e.M7 2 rfl (k:=B.next[i]) (by omega) rfl rfl rfl;refine ec m ?_;rw[ak,eh];refine ec (show _=some (V.agg [.I (B.next[i]:Nat),.I ((0:Nat):Int)]) from rfl) ?_;rw[A,fK];obtain⟨am,an,ao,aB,aq,ar⟩:=c.pT 0 rfl (iU:=16) (y:=(B.next[i],0)) rfl (by decide) (by decide) (by simp;omega);have N:fg 157 2 16 C (.slice M.next 0 1) (M.new (.cells CC 2 true false [.I (B.next[i]:Nat),.I ((0:Nat):Int)]))=some (.val am an):=ao;rw[N,eh];exact⟨_,by rw[hk];exact zdF G r L,_,post,s++[(b,i+1)]++[(B.next[i],0)],rfl,rfl,rfl,G.push r L,((D.trans P).trans al).trans ar,aq⟩
theorem M3(g:Good u)(c:ej F h cs)(a:EZ F h u vv vb vs)(H:∀F' h' v seen post,Sn F h F' h'->ej F' h' cs->No u.blocks.length (next u) seen post []->hD eN F' h' post.reverse v->Q v h') :
  cP CS sL [.agg (uC u vv vb vs)] h Q:=
 Z0 (ZT g) c a.one a.b λh' v seen post s1 d G=>by
  let⟨e,f,r2⟩:=d.hY 0 rfl
  exact H _ _ v seen post (s1.trans f) e.tail G r2
