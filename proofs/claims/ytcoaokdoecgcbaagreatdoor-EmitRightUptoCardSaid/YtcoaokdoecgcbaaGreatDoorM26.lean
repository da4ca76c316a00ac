/- Parts. -/
import Derived.Test.YtcoaokdoecgcbaaGreatDoorM25
set_option maxHeartbeats 4000000
namespace Go.Proofs.YtcoaokdoecgcbaaGreatDoor.Hx
open Un Dm
theorem Wx(h:Hp):∀op,1<=op->op<=23->∃s,s≠[]/\CS.K DH [.I (op:Nat)] h=some (.str s)
 |0,h,_=>by omega
 |1,_,_=>⟨_,by decide,rfl⟩
 |2,_,_=>⟨_,by decide,rfl⟩
 |3,_,_=>⟨_,by decide,rfl⟩
 |4,_,_=>⟨_,by decide,rfl⟩
 |5,_,_=>⟨_,by decide,rfl⟩
 |6,_,_=>⟨_,by decide,rfl⟩
 |7,_,_=>⟨_,by decide,rfl⟩
 |8,_,_=>⟨_,by decide,rfl⟩
 |9,_,_=>⟨_,by decide,rfl⟩
 |10,_,_=>⟨_,by decide,rfl⟩
 |11,_,_=>⟨_,by decide,rfl⟩
 |12,_,_=>⟨_,by decide,rfl⟩
 |13,_,_=>⟨_,by decide,rfl⟩
 |14,_,_=>⟨_,by decide,rfl⟩
 |15,_,_=>⟨_,by decide,rfl⟩
 |16,_,_=>⟨_,by decide,rfl⟩
 |17,_,_=>⟨_,by decide,rfl⟩
 |18,_,_=>⟨_,by decide,rfl⟩
 |19,_,_=>⟨_,by decide,rfl⟩
 |20,_,_=>⟨_,by decide,rfl⟩
 |21,_,_=>⟨_,by decide,rfl⟩
 |22,_,_=>⟨_,by decide,rfl⟩
 |23,_,_=>⟨_,by decide,rfl⟩
 |n+24,_,h=>by omega
theorem zeF{h:Hp}{X:Option (V×Hp)}{K:fo}(H:oP X λy=>K y.1 y.2):oP (gW true (.bool true)) λb=>ghP b h X K:=H
section
variable{F F':Nat->Prop}{h h':Hp}{cs:List Pc}{Q:fo}{u:U}{vv vb vs:V}{lc:Nat}{bl pl GC:V}
theorem zaX{op:Nat}(a:1<=op)(b:op<=23)(H:∀s,s≠[]->Q (.str s) h):cP CS DH [.I op] h Q:=by
 let⟨fn,c,hf,hb⟩:=Sx
 let⟨s,hs,hk⟩:=Wx h op a b
 exact cP.known hf hb hk rfl rfl (H s hs)
theorem Sw{lv:Nat}{x:Vl}{w v:V}{ys:List Vl}(s:ej F h (ft lv zT (yH x w)::cs))(hl:iH eV F h ys v)(G:ys.length<1000000)(t:∀y∈ys,¬(y.op=1/\y.n=x.n))
  (H:∀h',Sn F h F h'->ej F h' (ft lv zT (yH x w)::cs)->Q (.bool false) h'):cP CS gX [v,.func jt [] [.ptr lv 0]] h Q:=by
 refine qQ rfl rfl ?_;unfold lO;refine sM rfl rfl ?_;unfold mw;refine ec hl.len ?_
 refine qN (λk j m p q h'=>∃i,j=v/\m = .func jt [] [.ptr lv 0]/\p = .I ys.length/\q = .I (i:Nat)/\i+k=ys.length/\Sn F h F h'/\ej F h' (ft lv zT (yH x w)::cs)) ?_ (k:=ys.length)
  ⟨0,rfl,rfl,rfl,rfl,by omega,Sn.refl _ _,s⟩
 rintro k j m p q h' ⟨i,rfl,rfl,rfl,rfl,I,s1,r⟩;unfold lN;by_cases hi:i<ys.length;rotate_left
 ·refine iY ?_;refine ec (jc _ _ _ _) ?_;exact H h' s1 r
 refine gU ?_;obtain⟨l,o,c,_,u,z,⟨a,rfl,A⟩,_⟩:=(hl.since s1).ix hi .i64;refine ec u (ec z ?_);show cP CS jt [.agg (yH ys[i] a),.ptr lv 0] h' _;refine HC rfl rfl ?_;unfold yQ;refine rL r (by simp only[yH,fe,A.one];rfl) λb d B=>?_;refine ec (by rfl) (ec (d.ld 0 rfl rfl) (ec (by rfl) ?_));have e:iM (.bool (((ys[i].op:Nat):Int) == 1)) (oB (fK 3 (.ptr h'.next 0)) λC=>oB (eC C b) λD=>oB (fK 3 (.ptr lv 0)) λf=>oB (eC f b) λg=>ef .eql 2 D g)=some (.bool false):=by
  have l1:eC (.ptr h'.next (0+3)) b=some (.I ys[i].n):=d.ld 0 rfl rfl;have l2:eC (.ptr lv (0+3)) b=some (.I x.n):=d.ld 1 rfl rfl;simp only[fN,eD,l1,l2,iE,gQ];congr 2;rw[wB2];intro E;simp[sJ,KC]at E;exact by grind
 refine ec e (gh (gD (by simp) ?_));exact gf ⟨k-1,by omega,i+1,rfl,rfl,rfl,rfl,by omega,s1.trans B,d.tail⟩
theorem Y3{lv:Nat}{x:Vl}{w:V}{D:V}(a:D = .ptr lc 0)(C:Ck F h (ft lv zT (yH x w)::cs) lc u vv vb vs bl pl GC)(hl:leaves x.op=true->x.state<u.ez.length)(hc:lv≠lc)(H:eC (.ptr lv 5) h=some (.I x.state)){K:fo}(E:K (.bool false) h) :
  oP (gW true (.bool (leaves x.op))) λb=>
  oP (gV b (fK 5 (.ptr lv 0))) λc=>
  oP (gW true (.bool (leaves x.op))) λd=>
  oP (gV d (eC c h)) λe=>
  oP (gW true (.bool (leaves x.op))) λf=>
  oP (gV f (some D)) λg=>
  oP (gW true (.bool (leaves x.op))) λi=>
  oP (gV i (gq g)) λj=>
  oP (gW true (.bool (leaves x.op))) λk=>
  oP (gV k (fK 0 j)) λl=>
  oP (gW true (.bool (leaves x.op))) λm=>
  oP (gV m (fK 4 l)) λn=>
  oP (gW true (.bool (leaves x.op))) λo=>
  oP (gV o (eC n h)) λp=>
  oP (gW true (.bool (leaves x.op))) λq=>
  oP (gV q (fD p)) λr=>
  oP (gW true (.bool (leaves x.op))) λt=>
  oP (gC t (some (ka,[e,r]))) λv=>AS CS v h λy G=>
  (h.next<=G.next/\
  oP (gW true (.bool (leaves x.op))) λz=>
  oP (gV z (qH .not y)) λA=>
  oP (mm (.bool false) (tA (.bool (leaves x.op)) A (V.bool false))) λB=>K B G):=by
 subst a
 cases hq:leaves x.op with
 | true=>
   have:=hl hq;refine jH (ec (by rfl) (jH (ec H (jH (ec rfl (jH (ec (fi _ _) (jH (ec (by rfl) (jH (ec (by rfl) (jH (ec (C.ld 4 rfl) (jH (ec C.u.s.len (NQ ?_))))))))))))))));refine Ax ⟨jv _,jH ?_⟩;rw[XJ this]
   exact ec rfl (ec rfl E)
 |false=>exact qx (qx (qx (qx (qx (qx (qx (qx (YJ ⟨jv _,qx (ec rfl E)⟩))))))))
theorem zea(g:Good u)(C:Ck F h cs lc u vv vb vs bl pl GC){xs ys:List Int}(q:iH eZ F h xs bl)(S:Std u u.blocks.length 0 xs ys){i:Nat}(hi:i<u.ee.length)(L:lc<h.next)
  (H:∀F' h',Sn F h F' h'->ej F' h' cs->Q (.bool true) h'):cP CS j6 [.ptr lc 0,.I i] h Q:=by
 refine JY rfl rfl ?_;unfold tX;have nv:=g.nv;have nb:=g.nb;obtain⟨x,d⟩:∃x,u.ee[i]? =some x:=by simp_all
 let⟨b,k,hat⟩:=g.Jm i hi trivial
 let⟨B,hB,hk⟩:=id hat
 have l:=g.op i x d;have m:=g.use i x d;have r:B.fu.length<=700:=by
  rw[g.fu b B hB,<-qq];have:=ql g (j:=0) (b:=b) (jv _) (by omega);omega
 have t:x.op=21\/x.op=20->x.args.length<=700:=by
  rintro(z|z)
  ·rw[(g.Yb _ _ _ _ _ hat d z hB).2];exact r
  ·rw[g.putAt i x d z];omega
 let⟨l1,W,w,_,M,N,iw,_⟩:=C.u.val d
 refine ec (fi _ _) (ec (by rfl) (ec (by rfl) (ec (C.ld 2 rfl) (ec M (ec N ?_)))));refine lM C.H rfl rfl (by simp only[yH,fe,iw.one];rfl) λX p A=>?_;have C2:=C.cons A p;have f:=iw.since A;refine ec (by rfl) (ec (p.ld 0 rfl rfl) ?_);refine zaX l.1 l.2 λs hs=>⟨jv _,?_⟩
 refine ec (by rfl) ?_;rw[show(s == [])=false from wBA.2 hs];refine gZ (ec rfl (gZ (ec (p.zB 0 rfl rfl) (vh ?_))));refine Qs p f (by omega) λY K v o a r3=>⟨o.next,?_⟩
 have C3:=C2.since o a;have c:=A.trans o;refine vh (Ks C3 r3 (by grind[Nc]) m ⟨jv _,ec rfl ?_⟩);refine gZ (ec (by rfl) (gZ (ec (a.ld 0 rfl rfl) (vh ?_))));refine Px ⟨jv _,gZ (ec rfl ?_)⟩;refine Y3 rfl C3 (g.leave i x d) (by omega) (a.ld 0 rfl rfl) ?_;refine gh (gD (by simp) ?_);refine ec (by rfl) (ec (a.ld 0 rfl rfl) ?_);by_cases D:x.op=20
 ·refine gw (gN (by omega) ?_);refine ec (by rfl) (ec (a.ld 0 rfl rfl) (ec (f.since o).len (fH ?_)));rw[g.putAt i x d D];exact H _ _ c a.tail
 refine gw (gD (by omega) ?_);by_cases E:x.op=21
 ·refine gw (gN (by omega) ?_)
  let⟨lb,ob,_,O,P⟩:=(q.since c).int ((S.yes i b k hat (by grind)).1) .i64
  let⟨l7,Z,bv,bn,bp,_,G,_,_,_,ip,ba⟩:=C3.u.AA hB
  refine ec (by rfl) (ec (a.ld 0 rfl rfl) (ec (f.since o).len ?_));refine ec (fi _ _) (ec (by rfl) (ec (by rfl) (ec (C3.ld 3 rfl) (ec (fi _ _) (ec (by rfl) (ec (C3.ld 5 rfl) (ec O (ec P (ec G ?_)))))))));refine ec (by rfl) (ec ba.fu (ec ip.len (fH ?_)));rw[(g.Yb _ _ _ _ _ hat d E hB).2,XJ rfl];exact H _ _ c a.tail
 refine gw (gD (by omega) ?_);by_cases R:x.op=1
 ·refine gw (gN (by omega) ?_)
  let⟨p1,p2,p3⟩:=g.param i x d R
  refine ec (by rfl) (ec (a.ld 0 rfl rfl) (ec (by rfl) ?_));have e:iM (.bool (decide ((0:Int)<=x.n))) (oB (fK 3 (.ptr h.next 0)) λI=>oB (eC I K) λJ=>ef .lss 2 J (V.I 40))=some (.bool true):=by
   have l1:eC (.ptr h.next (0+3)) K=some (.I x.n):=a.ld 0 rfl rfl;simp[ eD,l1];simp[p1,p2]
  refine ec e ?_
  let⟨vc,e1,r1⟩:=C3.u.v.cut (lo:=none) (hi:=some (.I i)) (n:=i) rfl (by rfl) (Ll _) (by omega)
  rw[wBL]at r1;refine jH (ec rfl (jH (ec (fi _ _) (jH (ec (by rfl) (jH (ec (by rfl) (jH (ec (C3.ld 2 rfl) (jH (ec rfl (jH (ec e1 (jH (ec rfl (NQ ?_))))))))))))))));refine Sw a r1 (by grind) (λy hy hh=>?_) λh4 T U=>ec rfl (H _ _ (c.trans T) U.tail)
  grind[oR,kE]
 ·refine gw (gD (by omega) ?_);exact H _ _ c a.tail
theorem zbp(g:Good u)(C:Ck F h cs lc u vv vb vs bl pl GC){i:Nat}{B:Bk}(o:u.blocks[i]? =some B)(H:∀F' h',Sn F h F' h'->ej F' h' cs->Q (.bool true) h'):cP CS mB [.ptr lc 0,.I i] h Q:=by
 refine Iy rfl rfl ?_;unfold zR;have c:=g.fin i B o
 let⟨l7,I,bv,bn,bp,_,x,y,iv,d,ip,_⟩:=C.u.AA o
 refine ec (fi _ _) (ec (by rfl) (ec (by rfl) (ec (C.ld 3 rfl) (ec x (ec y ?_)))));refine lM C.H rfl rfl (by simp only[rr,fe,iv.one,d.one,ip.one];rfl) λz a e=>?_;have C2:=C.cons e a;have d:=d.since e;refine ec (by rfl) (ec (a.ld 0 rfl rfl) (ec d.len ?_));have A:B.next.length<=2:=by
  rcases c with⟨_,h⟩|⟨_,h,_⟩|⟨_,h,_⟩
  ·omega
  ·omega
  ·simp_all
 refine ED (λk p q f l m h'=>∃j,p = .ptr lc 0/\q = .ptr h.next 0/\f=bn/\l = .I B.next.length/\m = .I (j:Nat)/\j+k=B.next.length/\h' = z) ?_ (k:=B.next.length) (by simp_all);rintro k p q f l m h' ⟨j,rfl,rfl,rfl,rfl,rfl,J,rfl⟩;unfold vR;by_cases hj:j<B.next.length
 ·refine gU ?_
  let⟨l8,K,_,D,E⟩:=d.nat (iz hj) .i64
  have G:B.next[j]<u.blocks.length:=g.nx i _ (by grind[next,Dg]);refine ec D (ec E (ec (fi _ _) (ec (by rfl) (ec (by rfl) (ec (C2.ld 3 rfl) (ec C2.u.b.len ?_))))));refine Ax (po (gN (by simp_all) ?_));exact gf ⟨k-1,by omega,j+1,rfl,rfl,rfl,rfl,rfl,by omega,rfl⟩
 refine iY ?_;refine ec (by rfl) (ec (a.ld 0 rfl rfl) ?_);rcases c with⟨r,n⟩|⟨r,n,t⟩|⟨r,n,t⟩
 ·refine gw (gN (by omega) ?_);refine ec (by rfl) (ec (a.ld 0 rfl rfl) (ec d.len (fH ?_)));rw[n];exact H _ _ e a.tail
 ·refine gw (gD (by omega) ?_);refine gw (gN (by omega) ?_);refine ec (by rfl) (ec (a.ld 0 rfl rfl) (ec d.len (fH ?_)));rw[n,show decide (((2:Nat):Int)=2)=true from rfl];refine jH (ec rfl (jH (ec (by rfl) (jH (ec (a.ld 0 rfl rfl) (zeF ?_))))));rw[DG,eD]
  let⟨v,w,r3⟩:=a.Xu fw rfl (zY F h' [B.cond]) false
  have C3:=C2.since w v;refine ec rfl (NQ ?_);refine Ks C3 r3 (by simp) (by simp_all) (ec rfl ?_);exact H _ _ (e.trans w) v.tail
 ·refine gw (gD (by omega) ?_);refine gw (gD (by omega) ?_);refine gw (gN (by omega) ?_);refine ec (by rfl) (ec (a.ld 0 rfl rfl) (ec d.len (fH ?_)));rw[n,show decide ((([]:List Nat).length:Int)=0)=true from rfl];refine jH (ec (by rfl) (jH (ec (a.ld 0 rfl rfl) (jH (ec rfl (jH (ec (fi _ _) (jH (ec (by rfl) (jH (ec (by rfl) (jH (ec (C2.ld 4 rfl) (jH (ec C2.u.s.len (NQ ?_))))))))))))))));refine Ax ⟨jv _,?_⟩;rw[XJ t];exact ec rfl (H _ _ e a.tail)
theorem zdF(g:Good u)(C:Ck F h cs lc u vv vb vs bl pl GC){i:Nat}{B:Bk}(A:u.blocks[i]? =some B)(H:∀F' h',Sn F h F' h'->ej F' h' cs->Q (.bool true) h'):cP CS mV [.ptr lc 0,.I i] h Q:=by
 refine Ju rfl rfl ?_;unfold Ba;have nb:=g.nb;have r2:∀n d,Sn F h n d->ej n d cs->mX CS Q (.ptr lc 0) (.I i) d:=by
  intro n d s1 D;have C1:=C.since s1 D;refine Fb ?_;unfold xB
  let⟨l7,o7,bv,bn,bp,_,i1,i2,iv,o,ip,_⟩:=C1.u.AA A
  refine ec (fi _ _) (ec (by rfl) (ec (by rfl) (ec (C1.ld 3 rfl) (ec i1 (ec i2 ?_)))));refine lM C1.H rfl rfl (by simp only[rr,fe,iv.one,o.one,ip.one];rfl) λE G I=>?_;have C2:=C1.cons I G;have o:=o.since I;refine ec (by rfl) (ec (G.ld 0 rfl rfl) (ec o.len ?_));have ac:B.next.length<=2:=by
   rcases g.fin i B A with⟨_,h⟩|⟨_,h,_⟩|⟨_,h,_⟩
   ·omega
   ·omega
   ·simp_all
  refine Gp (λk p x7 q r s h'=>∃j,p = .ptr lc 0/\x7 = .ptr d.next 0/\q=bn/\r = .I B.next.length/\s = .I (j:Nat)/\j+k=B.next.length/\h' = E) ?_ (k:=B.next.length) (by simp_all);rintro k p x7 q r s h' ⟨j,rfl,rfl,rfl,rfl,rfl,hk,rfl⟩;unfold yg;by_cases hj:j<B.next.length;rotate_left
  ·exact iY (H _ _ (s1.trans I) G.tail)
  refine gU ?_
  let⟨l8,o8,_,J,K⟩:=o.nat (iz hj) .i64
  have t:B.next[j]∈next u i:=by unfold next;rw[A];exact Dg hj
  have ae:=g.nx i _ t;obtain⟨l,a⟩:∃l,u.blocks[B.next[j]]? =some l:=by simp_all
  let⟨l9,o9,bv',bn',bp',_,f,_,_,_,ip',ba'⟩:=C2.u.AA a
  refine ec J (ec K (ec (by rfl) (ec (G.ld 0 rfl rfl) (ec (by rfl) ?_))));have e:iM (.bool (((B.fin:Nat):Int) == 2)) (oB (some (V.ptr lc 0)) λL=>oB (gq L) λM=>oB (fK 0 M) λN=>oB (fK 3 N) λO=>oB (eC O h') λP=>oB (some (V.I (B.next[j]:Nat))) λR=>oB (gP 6 P R) λS=>oB (fK 4 S) λT=>oB (eC T h') λU=>oB (fD U) λW=>ef .neq 3 W (V.I 1))=some (.bool false):=by
   have l1:=C2.ld 3 rfl;have l2:=ba'.fu;simp only[eD,fi,fN,l1,f,l2,ip'.len,vB,gQ];congr 2;rw[wB2];intro m;simp[sJ,KC,wB3]at m;have d:=g.Tk i B A (by omega) (B.next[j]) (Dg hj);rw[g.fu _ _ a,d]at m;exact m.2 rfl
  refine ec e (gh (gD (by simp) ?_));exact gf ⟨k-1,by omega,j+1,rfl,rfl,rfl,rfl,rfl,by omega,rfl⟩
 by_cases hi:i=0;rotate_left
 ·exact gw (gD (by omega) (r2 F h (Sn.refl _ _) C.H))
 refine gw (gN (by omega) ?_);have lA:gy 5 (.ptr lc 0) h=some (.agg (uC u vv vb vs)):=by
  let⟨j,ty,hc⟩:=C.c
  rw[xn (C.H.get j hc),Gk (by simp)];rfl
 refine ec (fi _ _) (ec (by rfl) (ec lA ?_));refine TW g C.H C.u λn d v s1 D r1=>?_;have lr:=r1.len;rw[XS,List.length_range]at lr;refine ec lr ?_;have C1:=C.since s1 D;refine Gy (λk p x1 w y z h'=>∃j,p = .ptr lc 0/\x1 = .I i/\w=v/\y = .I u.blocks.length/\z = .I (j:Nat)/\j+k=u.blocks.length/\h' = d) ?_ (k:=u.blocks.length) (by simp_all);rintro k p x1 w y z h' ⟨j,rfl,rfl,rfl,rfl,rfl,hk,rfl⟩;unfold xV;by_cases hj:j<u.blocks.length;rotate_left
 ·exact iY (r2 n h' s1 D)
 refine gU ?_;obtain⟨l,a⟩:∃l,u.blocks[j]? =some l:=by simp_all
 let⟨l8,o8,w8,_,J,K,j3⟩:=r1.list (i:=j) (x:=Un.ahead u j) (by simp[hj]) .i64
 let⟨l9,o9,bv',bn',bp',_,f,_,_,_,ip',ba'⟩:=C1.u.AA a
 have ag:(Un.ahead u j).length<=700:=by
  rw[<-qq];have:=ql g (j:=0) (b:=j) (jv _) (by omega);omega
 rw [g.fu j l a]at ip';refine ec J (ec K (ec (fi _ _) (ec (by rfl) (ec (by rfl) (ec (C1.ld 3 rfl) (ec f (ec (by rfl) (ec ba'.fu ?_))))))));refine ZX j3 ip' (by omega) (ec rfl ?_);have e:mm (.bool (!true)) (oB (some (V.I j)) λX=>oB (ef .eql 3 X (V.I 0)) λY=>oB (some Y) λZ=>iM Z (oB (some w8) λaa=>oB (fD aa) λab=>ef .gtr 3 ab (V.I 0)))=some (.bool false):=by
  simp only[wBc,ta,eD,iE,j3.len,iG,gQ];congr 2;rw[wB2];intro m;simp[sJ,KC,AL]at m
  let⟨d,E⟩:=m
  obtain rfl:j=0:=by omega
  rw[g.T4]at E;simp at E
 refine ec e (gh (gD (by simp) ?_));exact gf ⟨k-1,by omega,j+1,rfl,rfl,rfl,rfl,rfl,by omega,rfl⟩
end
open Un Dm
section
variable{F F':Nat->Prop}{h h':Hp}{cs:List Pc}{Q:fo}{u:U}{vv vb vs:V}
theorem ej.stF{α:Type}{E:rG α}{ty:Nat}{xs:List α}{v:V}(H:ej F h cs)(i:Nat)(hi:cs[i]? =some (fE E ty xs v)){k j:Nat}{y:α}{a:V}(c:k<xs.length)(d:j<E.sz)(e:a.one=true)(f:∀w,E.rel F h xs[k] w->E.rel F h y (w.set j a)) :
  ∃l h',gP E.sz v (.I k)=some (.ptr l (k*E.sz))/\gL 1 (.ptr l (k*E.sz+j)) a h=some (.val .undef h')/\h.next<=h'.next/\ej F h' (cs.set i (fE E ty (xs.set k y) v))/\Sn F h F h':=by
 let⟨t,h',o,g,m,n,b⟩:=(H.row i hi).store c d e f
 exact⟨t,h',g,m,b.next,H.Bm hi b n λ_ h=> .inl h⟩
theorem ej.Xx{ty:Nat}{xs:List Nat}{v:V}(H:ej F h cs)(i:Nat)(hi:cs[i]? =some (fE eN ty xs v)){k x:Nat}(b:xs[k]? =some x)(a:IntKind):∃l o,gP 1 v (.int a (k:Nat))=some (.ptr l o)/\eC (.ptr l o) h=some (.I x):=by
 let⟨l,o,_,c,d⟩:=(H.row i hi).read.nat b a
 grind
theorem ej.AI{ty:Nat}{xs:List Int}{v:V}(H:ej F h cs)(i:Nat)(hi:cs[i]? =some (fE eZ ty xs v)){k:Nat}{x:Int}(b:xs[k]? =some x)(a:IntKind):∃l o,gP 1 v (.int a (k:Nat))=some (.ptr l o)/\eC (.ptr l o) h=some (.I x):=by
 let⟨l,o,_,c,d⟩:=(H.row i hi).read.int b a
 grind
theorem ej.VH{ty:Nat}{xs:List Bool}{v:V}(H:ej F h cs)(i:Nat)(hi:cs[i]? =some (fE eB ty xs v)){k:Nat}{x:Bool}(b:xs[k]? =some x)(a:IntKind):∃l o,gP 1 v (.int a (k:Nat))=some (.ptr l o)/\eC (.ptr l o) h=some (.bool x):=by
 let⟨l,o,_,c,d⟩:=(H.row i hi).read.bool b a
 grind
theorem Ug{ty:Nat}{xs:List Nat}{v:V}(f:ej F h (fE eN ty xs v::cs))(h0:0<xs.length)(hl:xs.length<1000000)(H:∀h',Sn F h F h'->ej F h' (fE eN ty xs.reverse v::cs)->Q (.tuple []) h') :
  cP CS kO [v] h Q:=by
 refine BA rfl rfl ?_;unfold rP;refine ec (f.len 0 rfl) (zr (by omega) h0 ?_)
 refine zz (λk g j l h'=>∃i ys,g=v/\j = .I (i:Nat)/\l = .I ((xs.length-1-i:Nat):Int)/\i+k=xs.length/\2*i<=xs.length/\ys.length=xs.length/\
  (∀p,p<xs.length->ys[p]? =if p<i\/xs.length-i<=p then xs[xs.length-1-p]? else xs[p]?)/\Sn F h F h'/\ej F h' (fE eN ty ys v::cs)) ?_ (k:=xs.length)
  ⟨0,xs,rfl,rfl,by rw[Nat.sub_zero],by omega,by omega,rfl,by grind,Sn.refl _ _,f⟩
 rintro k g j l J ⟨i,ys,rfl,rfl,rfl,K,q,r,m,s1,c⟩;unfold pR;by_cases hij:i<xs.length-1-i
 ·refine gU ?_;obtain⟨a,n⟩:∃a,ys[i]? =some a:=by grind
  obtain⟨b,o⟩:∃b,ys[xs.length-1-i]? =some b:=by grind
  let⟨l1,L,s,t⟩:=c.Xx 0 rfl o .i64
  let⟨l2,o2,u,w⟩:=c.Xx 0 rfl n .i64
  refine ec s (ec t (ec u (ec w ?_)));obtain⟨l3,M,N,e1,e2,x,y,z⟩:=c.L9 0 rfl (k:=i) (by omega) rfl rfl rfl;refine ec e1 ?_;rw[e2,eh];obtain⟨l4,O,P,A,B,C,D,E⟩:=y.L9 0 rfl (k:=xs.length-1-i) (by simp;omega) rfl rfl rfl;refine⟨x,ec A ?_⟩;rw[B,eh];refine⟨C,gf (zr (by omega) (by omega) ?_)⟩;refine⟨k-1,by omega,i+1,(ys.set i b).set (xs.length-1-i) a,rfl,rfl,by rfl,by omega,by omega,by simp[r],λp d=>?_,(s1.trans z).trans E,D⟩;have G:=m i (by omega);rw[ n]at G;have I:=m (xs.length-1-i) (by omega);rw[if_neg (by omega),o]at I;by_cases e1:p=xs.length-1-i
  ·grind
  ·rw[QI (by omega)];by_cases e2:p=i
   ·simp_all
   grind
 ·refine iY ?_;have e:ys=xs.reverse:=by
   refine wB1 λp=>?_;by_cases d:p<xs.length
   ·grind
   ·simp_all
  simp_all
theorem zac{α:Type}(s:List α)(x y:α):(s++[x]).set s.length y=s++[y]:=by simp
structure ze0 (u:U):Prop where
 XW:1<=u.blocks.length
 nb:u.blocks.length<=300
 nx:∀b,∀t∈next u b,t<u.blocks.length
 two:∀(b:Nat) B,u.blocks[b]? =some B->B.next.length<=2
theorem Wu(g:Good u):ze0 u:=⟨g.XW,g.nb,g.nx,λb B a=>by
 rcases g.fin b B a with⟨_,h⟩|⟨_,h,_⟩|⟨_,h,_⟩
 ·omega
 ·omega
 simp_all⟩
theorem iH.AA{bs:List Bk}(a:iH eK F h bs vb){i:Nat}{x:Bk}(c:bs[i]? =some x) :
  ∃l o v n p,F l/\gP 6 vb (.I i)=some (.ptr l o)/\gy 6 (.ptr l o) h=some (.agg (rr x v n p))/\iH eN F h x.ee v/\iH eN F h x.next n/\iH eN F h x.fu p/\zfj h l o x v n p:=by
 obtain⟨hi,rfl⟩:=kE.1 c;obtain⟨l,o,w,d,e,f,⟨v,n,p,rfl,g,j,k⟩,b⟩:=a.ix hi .i64;exact⟨l,o,v,n,p,d,e,f,g,j,k,⟨b 0 _ rfl,b 1 _ rfl,b 2 _ rfl,b 3 _ rfl,b 4 _ rfl,b 5 _ rfl⟩⟩
theorem W1(g:ze0 u)(H0:ej F h cs)(ho:gz (uC u vv vb vs)=true)(T:iH eK F h u.blocks vb)(H:∀h' v seen post,Sn F h F h'->ej F h' (fE eN fw post.reverse v::cs)->LK u.blocks.length (next u) seen post []->Q v h') :
  cP CS pb [.agg (uC u vv vb vs)] h Q:=by
 refine RS rfl rfl ?_;unfold L3;have nb:=g.nb;have XW:=g.XW;have o:∀b,b<u.blocks.length->∀t∈next u b,t<u.blocks.length:=λb _ t r=>g.nx b t r
 refine rL H0 ho λO H1 s1=>?_;refine ec (by rfl) (ec (H1.ld 0 rfl rfl) (ec (T.since s1).len ?_));rw[pC rfl (by decide) (by omega),fI];obtain⟨H2,s2⟩:=H1.make (E:=eB) u.blocks.length rfl rfl;have z:=s1.trans s2;refine ec (by rfl) (ec (H2.ld 1 rfl rfl) (ec (T.since z).len ?_));refine SH (gN (by omega) ?_);refine ec (by rfl) ?_;generalize O.new (.cells hC 1 true false (List.replicate u.blocks.length (V.bool false)))=h2 at*;have A:∀a b,iK A0 2 1 (V.agg [(V.I 0),(V.I 0)]) [(0,V.agg [.I (a:Nat),.I (b:Nat)])]=some (.cells A0 2 true false [.I (a:Nat),.I (b:Nat)],λl=> .slice l 0 1):=λa b=>by rfl
 have U:iK A0 2 1 (V.agg [(V.I 0),(V.I 0)]) [(0,V.agg [.I 0,.I 0])]=some (.cells A0 2 true false [.I ((0:Nat):Int),.I ((0:Nat):Int)],λl=> .slice l 0 1):=A 0 0;rw[U,fI]
 have H3:=
  (H2.add (p:=fE eN fw [] .ed) .nil λ_ h=>h).add (p:=fE eW A0 [] .ed) .nil λ_ h=>h
 obtain⟨v4,h4,e4,n4,H4,s4⟩:=H3.wi 0 rfl (lE:=16) (y:=(0,0)) rfl (by decide) (by decide) (by simp);have W:eQ 157 2 16 V.ed (.slice h2.next 0 1) (h2.new (.cells A0 2 true false [.I ((0:Nat):Int),.I ((0:Nat):Int)]))=some (.val v4 h4):=e4;rw[W,eh];simp[ OJ]at H4;obtain⟨l5,o5,h5,e5,e6,n5,H5,s5⟩:=H4.L9 2 rfl (k:=0) (by simp;omega) rfl rfl rfl;refine ec e5 ?_;rw[e6,eh];simp[ AD]at H5;refine Oq ?_;unfold Gz;have X:=(z.trans s4).trans s5
 refine NV (λk x1 x3 Y C h'=>∃seen post stack,x1 = .ptr h.next 0/\x3 = .slice O.next 0 u.blocks.length/\k=mu u.blocks.length (next u) seen stack/\LK u.blocks.length (next u) seen post stack/\Sn F h F h'/\
  ej F h' (fE eW A0 stack C::fE eN fw post Y::fE eB hC seen (.slice O.next 0 u.blocks.length)::ft h.next 34 (uC u vv vb vs)::cs)) ?_
  ⟨_,[],[(0,0)],rfl,rfl,rfl,LK.start (by omega) o,X,H5⟩
 rintro k x1 x3 Y C Z ⟨seen,post,stack,rfl,rfl,hk,G,D,d⟩;unfold Gg;have aa:=G.nodup;have ax:=wZ _ _ (by grind) G.pre;have ay:stack.length<=u.blocks.length:=by
  have:=wZ u.blocks.length _ (wB0.1 aa).2.1 λx hx=>by
   obtain⟨y,hy,rfl⟩:=Q1.1 hx;exact(G.range y hy).1
  simpa using this
 refine ec (d.len 0 rfl) ?_;rcases iQ stack with rfl|⟨s,⟨b,i⟩,rfl⟩
 ·refine SH (gD (by simp) ?_);have ab:0<post.length:=by
   let⟨p,hp⟩:=G.last rfl
   rw[hp];simp
  refine Ug d.tail ab (by omega) λh7 P e=>?_;exact H _ _ seen post (D.trans P) e.Fk.Fk G
 refine SH (gN (by simp_all) ?_);have hlen:(s++[(b,i)]).length-1=s.length:=by simp
 have f:s.length<(s++[(b,i)]).length:=by simp
 have I:(s++[(b,i)])[s.length]'f=(b,i):=by simp
 let⟨hbn,hin⟩:=G.range (b,i) (by simp)
 obtain⟨B,hB⟩:∃B,u.blocks[b]? =some B:=by simp_all
 have J:next u b=B.next:=by unfold next;rw[hB]
 simp [J]at hin;refine ec (d.len 0 rfl) (zr (by omega) (by simp) ?_);rw[hlen];obtain⟨l7,h7,R,e8,n7,e,P⟩:=d.stF 0 rfl (j:=1) (y:=(b,i+1)) f (by decide) rfl (λw S=>by
  rw[I]at S;have S:=S;subst S;rfl)
 have R:gP 2 C (.I s.length)=some (.ptr l7 (s.length*2)):=R
 let⟨l8,o8,w8,i1,i2,i3,i4⟩:=d.ix 0 rfl f .i64
 rw [I]at i3;obtain rfl:w8=[.I b,.I i]:=i3;have i1:gP 2 C (.I s.length)=some (.ptr l8 o8):=i1;rw[R]at i1;obtain⟨rfl,rfl⟩:l7=l8/\s.length*2=o8:=by
  simp_all
 have ib:=i4 0 _ rfl;have ii:=i4 1 _ rfl
 let⟨lb,ob,bv,bn,bp,_,b1,b2,iv,iN,ip,ba⟩:=(T.since D).AA hB
 refine ec R (ec (by rfl) (ec (d.ld 3 rfl rfl) (ec (fi _ _) (ec (by rfl) (ec ib (ec b1 (ec (by rfl) (ec ba.next ?_))))))));refine ec (fi _ _) (ec (by rfl) (ec ii (ec iN.len ?_)));by_cases hi:i=B.next.length
 ·refine gw (gN (by omega) ?_);refine ec (fi _ _) (ec (by rfl) (ec ib ?_));rw[DG,fI];obtain⟨v9,h9,e9,n9,H9,s9⟩:=d.wi 1 rfl (lE:=8) rfl (by decide) (by decide) (by omega);have ac:eQ 3 1 8 Y (.slice Z.next 0 1) (Z.new (.cells 3 1 true false (nD [b])))=some (.val v9 h9):=e9;rw[ac,eh];refine ec (H9.len 0 rfl) (zr (by omega) (by simp) ?_);rw[hlen]
  let⟨az,m,c⟩:=H9.zdK 0 rfl (n:=s.length) (by simp)
  refine ec m ?_;have et:(s++[(b,i)]).take s.length=s:=by simp
  rw[et]at c;exact⟨_,by grind[zc2],seen,post++[b],s,rfl,rfl,rfl,G.pop (by simp_all),D.trans s9,c⟩
 refine gw (gD (by omega) ?_);have ae:i<B.next.length:=by omega
 have aA:=g.two b B hB;have r:(next u b)[i]? =some B.next[i]:=by rw[J];exact by simp_all
 have ag:B.next[i]<u.blocks.length:=by grind[Dg]
 let⟨l9,o9,_,j1,j2⟩:=iN.nat (iz ae) .i64
 refine ec (fi _ _) (ec (by rfl) (ec ii (ec j1 (ec j2 ?_))));refine ec (fi _ _) (ec (by rfl) (ec ii (gf ?_)));refine ec (fi _ _) (ec (by rfl) ?_);have e8:gL 1 (.ptr l7 (s.length*2+1)) (.I ((i+1:Nat):Int)) Z=some (.val .undef h7):=e8;rw[e8,eh];simp[AD,zac]at e;have ah:=G.len;have K:=e.len 2 rfl;rw[ah]at K;refine ec K (Ax ?_);rw[XJ ag];obtain⟨q,hq⟩:∃q,seen[B.next[i]]? =some q:=by simp_all
 let⟨lq,oq,q1,q2⟩:=e.VH 2 rfl hq .i64
 have ea:iM (.bool true) (oB (some (V.slice O.next 0 u.blocks.length)) λai=>oB (some (V.I (B.next[i]:Nat))) λaj=>oB (gP 1 ai aj) λak=>oB (eC ak h7) λal=>qH .not al)=some (.bool (!q)):=by
  simp[Xe,eD,q1,q2,zbr]
 refine ec ea (gh ?_)
 cases q with
 | true=>
   refine gD (by simp) ?_
   exact⟨_,by grind[zbZ],seen,post,s++[(b,i+1)],rfl,rfl,rfl,G.skip r hq,D.trans P,e⟩
 | false=>
   refine gN rfl ?_;have L:¬qh seen B.next[i]:=by unfold qh;rw[hq];simp
   obtain⟨l10,aB,M,m,am,aC,c,an⟩:=e.L9 2 rfl (k:=B.next[i]) (by omega) rfl rfl rfl;refine ec m ?_;rw[am,eh];refine ec (show _=some (V.agg [.I (B.next[i]:Nat),.I ((0:Nat):Int)]) from rfl) ?_;rw[A,fI];obtain⟨ao,aq,ar,aD,au,aw⟩:=c.wi 0 rfl (lE:=16) (y:=(B.next[i],0)) rfl (by decide) (by decide) (by simp;omega);have N:eQ 157 2 16 C (.slice M.next 0 1) (M.new (.cells A0 2 true false [.I (B.next[i]:Nat),.I ((0:Nat):Int)]))=some (.val ao aq):=ar;rw[N,eh];exact⟨_,by rw[hk];exact zaT G r L,_,post,s++[(b,i+1)]++[(B.next[i],0)],rfl,rfl,rfl,G.push r L,((D.trans P).trans an).trans aw,au⟩
theorem JG(g:Good u)(c:ej F h cs)(a:Is F h u vv vb vs)(H:∀F' h' v seen post,Sn F h F' h'->ej F' h' cs->LK u.blocks.length (next u) seen post []->iH eN F' h' post.reverse v->Q v h') :
  cP CS pb [.agg (uC u vv vb vs)] h Q:=
 W1 (Wu g) c a.one a.b λh' v seen post s1 d G=>by
  let⟨e,f,r2⟩:=d.ji 0 rfl
  exact H _ _ v seen post (s1.trans f) e.tail G r2
end
