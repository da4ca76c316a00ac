/- Parts. -/
import Derived.Test.YtbdcpiokodljaaaGreatDoorM25
set_option maxHeartbeats 4000000
namespace Go.Proofs.YtbdcpiokodljaaaGreatDoor.Hx
open Un Dm
theorem Yb(h:Hp):∀op,1<=op->op<=23->∃s,s≠[]/\CS.K ER [.I (op:Nat)] h=some (.str s)
 |0,h,_=>by omega
 |1,_,_=>⟨_,by decide,rfl⟩
 |2,_,_=>⟨_,by decide,rfl⟩
 |3,_,_=>⟨_,by decide,rfl⟩
 |4,_,_=>⟨_,by decide,rfl⟩
 |5,_,_=>⟨_,by decide,rfl⟩
 |6,_,_=>⟨_,by decide,rfl⟩
 |7,_,_=>⟨_,by decide,rfl⟩
 |8,_,_=>⟨_,by decide,rfl⟩
 |9,_,_=>⟨_,by decide,rfl⟩
 |10,_,_=>⟨_,by decide,rfl⟩
 |11,_,_=>⟨_,by decide,rfl⟩
 |12,_,_=>⟨_,by decide,rfl⟩
 |13,_,_=>⟨_,by decide,rfl⟩
 |14,_,_=>⟨_,by decide,rfl⟩
 |15,_,_=>⟨_,by decide,rfl⟩
 |16,_,_=>⟨_,by decide,rfl⟩
 |17,_,_=>⟨_,by decide,rfl⟩
 |18,_,_=>⟨_,by decide,rfl⟩
 |19,_,_=>⟨_,by decide,rfl⟩
 |20,_,_=>⟨_,by decide,rfl⟩
 |21,_,_=>⟨_,by decide,rfl⟩
 |22,_,_=>⟨_,by decide,rfl⟩
 |23,_,_=>⟨_,by decide,rfl⟩
 |n+24,_,h=>by omega
theorem zef{h:Hp}{X:Option (V×Hp)}{K:fo}(H:oP X λy=>K y.1 y.2):oP (fu true (.bool true)) λb=>ghP b h X K:=H
section
variable{F F':Nat->Prop}{h h':Hp}{cs:List Pc}{Q:fo}{u:U}{vv vb vs:V}{lc:Nat}{bl pl GJ:V}
theorem zbH{op:Nat}(a:1<=op)(b:op<=23)(H:∀s,s≠[]->Q (.str s) h):cP CS ER [.I op] h Q:=by
 let⟨fn,c,hf,hb⟩:=SB
 let⟨s,hs,hk⟩:=Yb h op a b
 exact cP.known hf hb hk rfl rfl (H s hs)
theorem TM{lv:Nat}{x:Vl}{w v:V}{ys:List Vl}(u:ej F h (ey lv gP (mW x w)::cs))(m:ie eV F h ys v)(J:ys.length<1000000)(z:∀y∈ys,¬(y.op=1/\y.n=x.n))
  (H:∀h',Sn F h F h'->ej F h' (ey lv gP (mW x w)::cs)->Q (.bool false) h'):cP CS hX [v,.func jY [] [.ptr lv 0]] h Q:=by
 refine rT rfl rfl ?_;unfold mI;refine vy rfl rfl ?_;unfold nN;refine ed m.len ?_
 refine rQ (λk p q r s h'=>∃i,p=v/\q = .func jY [] [.ptr lv 0]/\r = .I ys.length/\s = .I (i:Nat)/\i+k=ys.length/\Sn F h F h'/\ej F h' (ey lv gP (mW x w)::cs)) ?_ (k:=ys.length)
  ⟨0,rfl,rfl,rfl,rfl,by omega,Sn.refl _ _,u⟩
 rintro k p q r s h' ⟨i,rfl,rfl,rfl,rfl,hk,f,t⟩;unfold mC;by_cases hi:i<ys.length;rotate_left
 ·refine iI ?_;refine ed (oS _ _ _ _) ?_;exact H h' f t
 refine gy ?_;obtain⟨l,o,c,_,A,B,⟨a,rfl,C⟩,_⟩:=(m.since f).ix hi .i64;refine ed A (ed B ?_);show cP CS jY [.agg (mW ys[i] a),.ptr lv 0] h' _;refine IG rfl rfl ?_;unfold zX;refine jM t (by simp only[mW,eo,C.one];rfl) λb d D=>?_;refine ed (by rfl) (ed (d.ld 0 rfl rfl) (ed (by rfl) ?_));have e:jX (.bool (((ys[i].op:Nat):Int) == 1)) (oB (fF 3 (.ptr h'.next 0)) λE=>oB (ez E b) λG=>oB (fF 3 (.ptr lv 0)) λg=>oB (ez g b) λj=>en .eql 2 G j)=some (.bool false):=by
  have l1:ez (.ptr h'.next (0+3)) b=some (.I ys[i].n):=d.ld 0 rfl rfl;have l2:ez (.ptr lv (0+3)) b=some (.I x.n):=d.ld 1 rfl rfl;simp only[fS,fe,l1,l2,gO,j6];congr 2;rw[wBj];intro I;simp[yl,IE]at I;exact by grind
 refine ed e (iJ (fU (by simp) ?_));exact fI ⟨k-1,by omega,i+1,rfl,rfl,rfl,rfl,by omega,f.trans D,d.tail⟩
theorem Zw{lv:Nat}{x:Vl}{w:V}{a0:V}(a:a0 = .ptr lc 0)(C:Ck F h (ey lv gP (mW x w)::cs) lc u vv vb vs bl pl GJ)(G:leaves x.op=true->x.state<u.eh.length)(hc:lv≠lc)(H:ez (.ptr lv 5) h=some (.I x.state)){K:fo}(D:K (.bool false) h) :
  oP (fu true (.bool (leaves x.op))) λb=>
  oP (gV b (fF 5 (.ptr lv 0))) λc=>
  oP (fu true (.bool (leaves x.op))) λd=>
  oP (gV d (ez c h)) λe=>
  oP (fu true (.bool (leaves x.op))) λf=>
  oP (gV f (some a0)) λg=>
  oP (fu true (.bool (leaves x.op))) λi=>
  oP (gV i (hZ g)) λj=>
  oP (fu true (.bool (leaves x.op))) λk=>
  oP (gV k (fF 0 j)) λl=>
  oP (fu true (.bool (leaves x.op))) λm=>
  oP (gV m (fF 4 l)) λn=>
  oP (fu true (.bool (leaves x.op))) λo=>
  oP (gV o (ez n h)) λp=>
  oP (fu true (.bool (leaves x.op))) λq=>
  oP (gV q (fD p)) λr=>
  oP (fu true (.bool (leaves x.op))) λt=>
  oP (gC t (some (lj,[e,r]))) λv=>qN CS v h λy E=>
  (h.next<=E.next/\
  oP (fu true (.bool (leaves x.op))) λz=>
  oP (gV z (pA .not y)) λA=>
  oP (nt (.bool false) (jw (.bool (leaves x.op)) A (V.bool false))) λB=>K B E):=by
 subst a
 cases hq:leaves x.op with
 | true=>
   have:=G hq;refine fV (ed (by rfl) (fV (ed H (fV (ed rfl (fV (ed (fP _ _) (fV (ed (by rfl) (fV (ed (by rfl) (fV (ed (C.ld 4 rfl) (fV (ed C.u.s.len (vI ?_))))))))))))))));refine A9 ⟨ju _,fV ?_⟩;rw[Ml this]
   exact ed rfl (ed rfl D)
 |false=>exact ik (ik (ik (ik (ik (ik (ik (ik (GY ⟨ju _,ik (ed rfl D)⟩))))))))
theorem zdk(g:Good u)(C:Ck F h cs lc u vv vb vs bl pl GJ){xs ys:List Int}(q:ie eZ F h xs bl)(S:Std u u.blocks.length 0 xs ys){i:Nat}(hi:i<u.ef.length)(L:lc<h.next)
  (H:∀F' h',Sn F h F' h'->ej F' h' cs->Q (.bool true) h'):cP CS kO [.ptr lc 0,.I i] h Q:=by
 refine J4 rfl rfl ?_;unfold xO;have nv:=g.nv;have nb:=g.nb;obtain⟨x,d⟩:∃x,u.ef[i]? =some x:=by simp_all
 let⟨b,k,Kj⟩:=g.FU i hi trivial
 let⟨B,hB,hk⟩:=id Kj
 have l:=g.op i x d;have m:=g.use i x d;have r:B.eQ.length<=700:=by
  rw[g.eQ b B hB,<-pR];have:=pS g (j:=0) (b:=b) (ju _) (by omega);omega
 have t:x.op=21\/x.op=20->x.args.length<=700:=by
  rintro(z|z)
  ·rw[(g.Dz _ _ _ _ _ Kj d z hB).2];exact r
  ·rw[g.putAt i x d z];omega
 let⟨l1,T,w,_,M,N,iw,_⟩:=C.u.val d
 refine ed (fP _ _) (ed (by rfl) (ed (by rfl) (ed (C.ld 2 rfl) (ed M (ed N ?_)))));refine gW C.H rfl rfl (by simp only[mW,eo,iw.one];rfl) λU p A=>?_;have C2:=C.cons A p;have f:=iw.since A;refine ed (by rfl) (ed (p.ld 0 rfl rfl) ?_);refine zbH l.1 l.2 λs hs=>⟨ju _,?_⟩
 refine ed (by rfl) ?_;rw[show(s == [])=false from Uf.2 hs];refine fx (ed rfl (fx (ed (p.tK 0 rfl rfl) (pY ?_))));refine KT p f (by omega) λW K v o a r3=>⟨o.next,?_⟩
 have C3:=C2.since o a;have c:=A.trans o;refine pY (KL C3 r3 (by grind[J0]) m ⟨ju _,ed rfl ?_⟩);refine fx (ed (by rfl) (fx (ed (a.ld 0 rfl rfl) (pY ?_))));refine HV ⟨ju _,fx (ed rfl ?_)⟩;refine Zw rfl C3 (g.leave i x d) (by omega) (a.ld 0 rfl rfl) ?_;refine iJ (fU (by simp) ?_);refine ed (by rfl) (ed (a.ld 0 rfl rfl) ?_);by_cases D:x.op=20
 ·refine fZ (gj (by omega) ?_);refine ed (by rfl) (ed (a.ld 0 rfl rfl) (ed (f.since o).len (ij ?_)));rw[g.putAt i x d D];exact H _ _ c a.tail
 refine fZ (fU (by omega) ?_);by_cases E:x.op=21
 ·refine fZ (gj (by omega) ?_)
  let⟨lb,ob,_,b1,b2⟩:=(q.since c).int ((S.yes i b k Kj (by grind)).1) .i64
  let⟨l7,X,bv,bn,bp,_,G,_,_,_,ip,ba⟩:=C3.u.nV hB
  refine ed (by rfl) (ed (a.ld 0 rfl rfl) (ed (f.since o).len ?_));refine ed (fP _ _) (ed (by rfl) (ed (by rfl) (ed (C3.ld 3 rfl) (ed (fP _ _) (ed (by rfl) (ed (C3.ld 5 rfl) (ed b1 (ed b2 (ed G ?_)))))))));refine ed (by rfl) (ed ba.eQ (ed ip.len (ij ?_)));rw[(g.Dz _ _ _ _ _ Kj d E hB).2,Ml rfl];exact H _ _ c a.tail
 refine fZ (fU (by omega) ?_);by_cases O:x.op=1
 ·refine fZ (gj (by omega) ?_)
  let⟨p1,p2,p3⟩:=g.param i x d O
  refine ed (by rfl) (ed (a.ld 0 rfl rfl) (ed (by rfl) ?_));have e:jX (.bool (decide ((0:Int)<=x.n))) (oB (fF 3 (.ptr h.next 0)) λI=>oB (ez I K) λJ=>en .lss 2 J (V.I 40))=some (.bool true):=by
   have l1:ez (.ptr h.next (0+3)) K=some (.I x.n):=a.ld 0 rfl rfl;simp[fS,fe,l1,jT,j6];simp[p1,p2]
  refine ed e ?_
  let⟨vc,P,r1⟩:=C3.u.v.cut (lo:=none) (hi:=some (.I i)) (n:=i) rfl (by rfl) (Ol _) (by omega)
  rw[wBS]at r1;refine fV (ed rfl (fV (ed (fP _ _) (fV (ed (by rfl) (fV (ed (by rfl) (fV (ed (C3.ld 2 rfl) (fV (ed rfl (fV (ed P (fV (ed rfl (vI ?_))))))))))))))));refine TM a r1 (by grind) (λy Y Z=>?_) λh4 s4 R=>ed rfl (H _ _ (c.trans s4) R.tail)
  grind[nT,kj,NM,wBv]
 ·refine fZ (fU (by omega) ?_);exact H _ _ c a.tail
theorem za3(g:Good u)(C:Ck F h cs lc u vv vb vs bl pl GJ){i:Nat}{B:Bk}(o:u.blocks[i]? =some B)(H:∀F' h',Sn F h F' h'->ej F' h' cs->Q (.bool true) h'):cP CS nw [.ptr lc 0,.I i] h Q:=by
 refine JL rfl rfl ?_;unfold Bf;have c:=g.fin i B o
 let⟨l7,I,bv,bn,bp,_,x,y,iv,d,ip,_⟩:=C.u.nV o
 refine ed (fP _ _) (ed (by rfl) (ed (by rfl) (ed (C.ld 3 rfl) (ed x (ed y ?_)))));refine gW C.H rfl rfl (by simp only[lB,eo,iv.one,d.one,ip.one];rfl) λz a e=>?_;have C2:=C.cons e a;have d:=d.since e;refine ed (by rfl) (ed (a.ld 0 rfl rfl) (ed d.len ?_));have A:B.next.length<=2:=by
  rcases c with⟨_,h⟩|⟨_,h,_⟩|⟨_,h,_⟩
  ·omega
  ·omega
  ·simp_all
 refine Gp (λk p q f l m h'=>∃j,p = .ptr lc 0/\q = .ptr h.next 0/\f=bn/\l = .I B.next.length/\m = .I (j:Nat)/\j+k=B.next.length/\h' = z) ?_ (k:=B.next.length) (by simp_all);rintro k p q f l m h' ⟨j,rfl,rfl,rfl,rfl,rfl,hk,rfl⟩;unfold yQ;by_cases hj:j<B.next.length
 ·refine gy ?_
  let⟨l8,J,_,D,E⟩:=d.nat (hO hj) .i64
  have G:B.next[j]<u.blocks.length:=g.nx i _ (by grind[next,AU]);refine ed D (ed E (ed (fP _ _) (ed (by rfl) (ed (by rfl) (ed (C2.ld 3 rfl) (ed C2.u.b.len ?_))))));refine A9 (xM (gj (by simp_all) ?_));exact fI ⟨k-1,by omega,j+1,rfl,rfl,rfl,rfl,rfl,by omega,rfl⟩
 refine iI ?_;refine ed (by rfl) (ed (a.ld 0 rfl rfl) ?_);rcases c with⟨r,n⟩|⟨r,n,t⟩|⟨r,n,t⟩
 ·refine fZ (gj (by omega) ?_);refine ed (by rfl) (ed (a.ld 0 rfl rfl) (ed d.len (ij ?_)));rw[n];exact H _ _ e a.tail
 ·refine fZ (fU (by omega) ?_);refine fZ (gj (by omega) ?_);refine ed (by rfl) (ed (a.ld 0 rfl rfl) (ed d.len (ij ?_)));rw[n,show decide (((2:Nat):Int)=2)=true from rfl];refine fV (ed rfl (fV (ed (by rfl) (fV (ed (a.ld 0 rfl rfl) (zef ?_))))));rw[rS,fe]
  let⟨v,w,r3⟩:=a.ZY ev rfl (yd F h' [B.cond]) false
  have C3:=C2.since w v;refine ed rfl (vI ?_);refine KL C3 r3 (by simp) (by simp_all) (ed rfl ?_);exact H _ _ (e.trans w) v.tail
 ·refine fZ (fU (by omega) ?_);refine fZ (fU (by omega) ?_);refine fZ (gj (by omega) ?_);refine ed (by rfl) (ed (a.ld 0 rfl rfl) (ed d.len (ij ?_)));rw[n,show decide ((([]:List Nat).length:Int)=0)=true from rfl];refine fV (ed (by rfl) (fV (ed (a.ld 0 rfl rfl) (fV (ed rfl (fV (ed (fP _ _) (fV (ed (by rfl) (fV (ed (by rfl) (fV (ed (C2.ld 4 rfl) (fV (ed C2.u.s.len (vI ?_))))))))))))))));refine A9 ⟨ju _,?_⟩;rw[Ml t];exact ed rfl (H _ _ e a.tail)
theorem zc9(g:Good u)(C:Ck F h cs lc u vv vb vs bl pl GJ){i:Nat}{B:Bk}(D:u.blocks[i]? =some B)(H:∀F' h',Sn F h F' h'->ej F' h' cs->Q (.bool true) h'):cP CS oR [.ptr lc 0,.I i] h Q:=by
 refine KR rfl rfl ?_;unfold CG;have nb:=g.nb;have r2:∀n d,Sn F h n d->ej n d cs->oQ CS Q (.ptr lc 0) (.I i) d:=by
  intro n d o E;have C1:=C.since o E;refine GK ?_;unfold zu
  let⟨l7,o7,bv,bn,bp,_,i1,i2,iv,p,ip,_⟩:=C1.u.nV D
  refine ed (fP _ _) (ed (by rfl) (ed (by rfl) (ed (C1.ld 3 rfl) (ed i1 (ed i2 ?_)))));refine gW C1.H rfl rfl (by simp only[lB,eo,iv.one,p.one,ip.one];rfl) λG I J=>?_;have C2:=C1.cons J I;have p:=p.since J;refine ed (by rfl) (ed (I.ld 0 rfl rfl) (ed p.len ?_));have ae:B.next.length<=2:=by
   rcases g.fin i B D with⟨_,h⟩|⟨_,h,_⟩|⟨_,h,_⟩
   ·omega
   ·omega
   ·simp_all
  refine GI (λk q x7 r s t h'=>∃j,q = .ptr lc 0/\x7 = .ptr d.next 0/\r=bn/\s = .I B.next.length/\t = .I (j:Nat)/\j+k=B.next.length/\h' = G) ?_ (k:=B.next.length) (by simp_all);rintro k q x7 r s t h' ⟨j,rfl,rfl,rfl,rfl,rfl,hk,rfl⟩;unfold zA;by_cases hj:j<B.next.length;rotate_left
  ·exact iI (H _ _ (o.trans J) I.tail)
  refine gy ?_
  let⟨l8,o8,_,K,L⟩:=p.nat (hO hj) .i64
  have w:B.next[j]∈next u i:=by unfold next;rw[D];exact AU hj
  have ag:=g.nx i _ w;obtain⟨l,a⟩:∃l,u.blocks[B.next[j]]? =some l:=by simp_all
  let⟨l9,o9,bv',bn',bp',_,f,_,_,_,ip',ba'⟩:=C2.u.nV a
  refine ed K (ed L (ed (by rfl) (ed (I.ld 0 rfl rfl) (ed (by rfl) ?_))));have e:jX (.bool (((B.fin:Nat):Int) == 2)) (oB (some (V.ptr lc 0)) λM=>oB (hZ M) λN=>oB (fF 0 N) λO=>oB (fF 3 O) λP=>oB (ez P h') λR=>oB (some (V.I (B.next[j]:Nat))) λS=>oB (gG 6 R S) λT=>oB (fF 4 T) λU=>oB (ez U h') λW=>oB (fD W) λX=>en .neq 3 X (V.I 1))=some (.bool false):=by
   have l1:=C2.ld 3 rfl;have l2:=ba'.eQ;simp only[fe,fP,fS,l1,f,l2,ip'.len,oU,j6];congr 2;rw[wBj];intro m;simp[yl,IE,bne_iff_ne]at m;have d:=g.IB i B D (by omega) (B.next[j]) (AU hj);rw[g.eQ _ _ a,d]at m;exact m.2 rfl
  refine ed e (iJ (fU (by simp) ?_));exact fI ⟨k-1,by omega,j+1,rfl,rfl,rfl,rfl,rfl,by omega,rfl⟩
 by_cases hi:i=0;rotate_left
 ·exact fZ (fU (by omega) (r2 F h (Sn.refl _ _) C.H))
 refine fZ (gj (by omega) ?_);have lA:fX 5 (.ptr lc 0) h=some (.agg (uC u vv vb vs)):=by
  let⟨j,ty,hc⟩:=C.c
  rw[Eo (C.H.get j hc),EI (by simp)];rfl
 refine ed (fP _ _) (ed (by rfl) (ed lA ?_));refine T5 g C.H C.u λn d v o E r1=>?_;have lr:=r1.len;rw[EN,UB]at lr;refine ed lr ?_;have C1:=C.since o E;refine Hu (λk q x1 y z A h'=>∃j,q = .ptr lc 0/\x1 = .I i/\y=v/\z = .I u.blocks.length/\A = .I (j:Nat)/\j+k=u.blocks.length/\h' = d) ?_ (k:=u.blocks.length) (by simp_all);rintro k q x1 y z A h' ⟨j,rfl,rfl,rfl,rfl,rfl,hk,rfl⟩;unfold zm;by_cases hj:j<u.blocks.length;rotate_left
 ·exact iI (r2 n h' o E)
 refine gy ?_;obtain⟨l,a⟩:∃l,u.blocks[j]? =some l:=by simp_all
 let⟨l8,o8,w8,_,K,L,j3⟩:=r1.list (i:=j) (x:=Un.ahead u j) (by simp[hj]) .i64
 let⟨l9,o9,bv',bn',bp',_,f,_,_,_,ip',ba'⟩:=C1.u.nV a
 have ah:(Un.ahead u j).length<=700:=by
  rw[<-pR];have:=pS g (j:=0) (b:=j) (ju _) (by omega);omega
 rw [g.eQ j l a]at ip';refine ed K (ed L (ed (fP _ _) (ed (by rfl) (ed (by rfl) (ed (C1.ld 3 rfl) (ed f (ed (by rfl) (ed ba'.eQ ?_))))))));refine Bs j3 ip' (by omega) (ed rfl ?_);have e:nt (.bool (!true)) (oB (some (V.I j)) λY=>oB (en .eql 3 Y (V.I 0)) λZ=>oB (some Z) λaa=>jX aa (oB (some w8) λab=>oB (fD ab) λac=>en .gtr 3 ac (V.I 0)))=some (.bool false):=by
  simp only[wB6,nr,fe,gO,j3.len,oT,j6];congr 2;rw[wBj];intro m;simp[yl,IE,A4]at m
  let⟨d,G⟩:=m
  obtain rfl:j=0:=by omega
  rw[g.Di]at G;simp at G
 refine ed e (iJ (fU (by simp) ?_));exact fI ⟨k-1,by omega,j+1,rfl,rfl,rfl,rfl,rfl,by omega,rfl⟩
end
open Un Dm
section
variable{F F':Nat->Prop}{h h':Hp}{cs:List Pc}{Q:fo}{u:U}{vv vb vs:V}
theorem ej.stF{α:Type}{E:qH α}{ty:Nat}{xs:List α}{v:V}(H:ej F h cs)(i:Nat)(hi:cs[i]? =some (eJ E ty xs v)){k j:Nat}{y:α}{a:V}(hk:k<xs.length)(c:j<E.sz)(d:a.one=true)(e:∀w,E.rel F h xs[k] w->E.rel F h y (w.set j a)) :
  ∃l h',gG E.sz v (.I k)=some (.ptr l (k*E.sz))/\gJ 1 (.ptr l (k*E.sz+j)) a h=some (.val .undef h')/\h.next<=h'.next/\ej F h' (cs.set i (eJ E ty (xs.set k y) v))/\Sn F h F h':=by
 let⟨t,h',n,f,g,m,b⟩:=(H.row i hi).store hk c d e
 exact⟨t,h',f,g,b.next,H.DV hi b m λ_ h=> .inl h⟩
theorem ej.MK{ty:Nat}{xs:List Nat}{v:V}(H:ej F h cs)(i:Nat)(hi:cs[i]? =some (eJ eN ty xs v)){k x:Nat}(a:xs[k]? =some x)(kd:IntKind):∃l o,gG 1 v (.int kd (k:Nat))=some (.ptr l o)/\ez (.ptr l o) h=some (.I x):=by
 let⟨l,o,_,b,c⟩:=(H.row i hi).read.nat a kd
 grind
theorem ej.UT{ty:Nat}{xs:List Int}{v:V}(H:ej F h cs)(i:Nat)(hi:cs[i]? =some (eJ eZ ty xs v)){k:Nat}{x:Int}(a:xs[k]? =some x)(kd:IntKind):∃l o,gG 1 v (.int kd (k:Nat))=some (.ptr l o)/\ez (.ptr l o) h=some (.I x):=by
 let⟨l,o,_,b,c⟩:=(H.row i hi).read.int a kd
 grind
theorem ej.Mr{ty:Nat}{xs:List Bool}{v:V}(H:ej F h cs)(i:Nat)(hi:cs[i]? =some (eJ eB ty xs v)){k:Nat}{x:Bool}(a:xs[k]? =some x)(kd:IntKind):∃l o,gG 1 v (.int kd (k:Nat))=some (.ptr l o)/\ez (.ptr l o) h=some (.bool x):=by
 let⟨l,o,_,b,c⟩:=(H.row i hi).read.bool a kd
 grind
theorem VG{ty:Nat}{xs:List Nat}{v:V}(f:ej F h (eJ eN ty xs v::cs))(h0:0<xs.length)(K:xs.length<1000000)(H:∀h',Sn F h F h'->ej F h' (eJ eN ty xs.reverse v::cs)->Q (.tuple []) h') :
  cP CS mc [v] h Q:=by
 refine CV rfl rfl ?_;unfold uN;refine ed (f.len 0 rfl) (Av (by omega) h0 ?_)
 refine Ax (λk g j l h'=>∃i ys,g=v/\j = .I (i:Nat)/\l = .I ((xs.length-1-i:Nat):Int)/\i+k=xs.length/\2*i<=xs.length/\ys.length=xs.length/\
  (∀p,p<xs.length->ys[p]? =if p<i\/xs.length-i<=p then xs[xs.length-1-p]? else xs[p]?)/\Sn F h F h'/\ej F h' (eJ eN ty ys v::cs)) ?_ (k:=xs.length)
  ⟨0,xs,rfl,rfl,by rw[Nat.sub_zero],by omega,by omega,rfl,by grind,Sn.refl _ _,f⟩
 rintro k g j l L ⟨i,ys,rfl,rfl,rfl,hk,r,s,hp,t,c⟩;unfold qJ;by_cases hij:i<xs.length-1-i
 ·refine gy ?_;obtain⟨a,m⟩:∃a,ys[i]? =some a:=by grind
  obtain⟨b,n⟩:∃b,ys[xs.length-1-i]? =some b:=by grind
  let⟨l1,M,u,w⟩:=c.MK 0 rfl n .i64
  let⟨l2,N,x,y⟩:=c.MK 0 rfl m .i64
  refine ed u (ed w (ed x (ed y ?_)));obtain⟨l3,O,P,o,q,z,A,B⟩:=c.JZ 0 rfl (k:=i) (by omega) rfl rfl rfl;refine ed o ?_;rw[q,ei];obtain⟨l4,R,S,C,D,E,G,s4⟩:=A.JZ 0 rfl (k:=xs.length-1-i) (by simp;omega) rfl rfl rfl;refine⟨z,ed C ?_⟩;rw[D,ei];refine⟨E,fI (Av (by omega) (by omega) ?_)⟩;refine⟨k-1,by omega,i+1,(ys.set i b).set (xs.length-1-i) a,rfl,rfl,by rfl,by omega,by omega,by simp[s],λp d=>?_,(t.trans B).trans s4,G⟩;have I:=hp i (by omega);rw[ m]at I;have J:=hp (xs.length-1-i) (by omega);rw[if_neg (by omega),n]at J;by_cases o:p=xs.length-1-i
  ·grind
  ·rw[K6 (by omega)];by_cases q:p=i
   ·simp_all
   grind
 ·refine iI ?_;have e:ys=xs.reverse:=by
   refine wBR λp=>?_;by_cases d:p<xs.length
   ·grind
   ·simp_all
  simp_all
theorem Zf{α:Type}(s:List α)(x y:α):(s++[x]).set s.length y=s++[y]:=by simp
structure zc7 (u:U):Prop where
 L2:1<=u.blocks.length
 nb:u.blocks.length<=300
 nx:∀b,∀t∈next u b,t<u.blocks.length
 two:∀(b:Nat) B,u.blocks[b]? =some B->B.next.length<=2
theorem Ln(g:Good u):zc7 u:=⟨g.L2,g.nb,g.nx,λb B a=>by
 rcases g.fin b B a with⟨_,h⟩|⟨_,h,_⟩|⟨_,h,_⟩
 ·omega
 ·omega
 simp_all⟩
theorem ie.nV{bs:List Bk}(a:ie eK F h bs vb){i:Nat}{x:Bk}(c:bs[i]? =some x) :
  ∃l o v n p,F l/\gG 6 vb (.I i)=some (.ptr l o)/\fX 6 (.ptr l o) h=some (.agg (lB x v n p))/\ie eN F h x.ef v/\ie eN F h x.next n/\ie eN F h x.eQ p/\zfs h l o x v n p:=by
 obtain⟨hi,rfl⟩:=kj.1 c;obtain⟨l,o,w,d,e,f,⟨v,n,p,rfl,g,j,k⟩,b⟩:=a.ix hi .i64;exact⟨l,o,v,n,p,d,e,f,g,j,k,⟨b 0 _ rfl,b 1 _ rfl,b 2 _ rfl,b 3 _ rfl,b 4 _ rfl,b 5 _ rfl⟩⟩
theorem L4(g:zc7 u)(H0:ej F h cs)(ho:gv (uC u vv vb vs)=true)(S:ie eK F h u.blocks vb)(H:∀h' v seen post,Sn F h F h'->ej F h' (eJ eN ev post.reverse v::cs)->Iy u.blocks.length (next u) seen post []->Q v h') :
  cP CS pU [.agg (uC u vv vb vs)] h Q:=by
 refine TO rfl rfl ?_;unfold Me;have nb:=g.nb;have L2:=g.L2;have m:∀b,b<u.blocks.length->∀t∈next u b,t<u.blocks.length:=λb _ t o=>g.nx b t o
 refine jM H0 ho λN H1 s1=>?_;refine ed (by rfl) (ed (H1.ld 0 rfl rfl) (ed (S.since s1).len ?_));rw[kW rfl (by decide) (by omega),fE];obtain⟨H2,s2⟩:=H1.make (E:=eB) u.blocks.length rfl rfl;have r:=s1.trans s2;refine ed (by rfl) (ed (H2.ld 1 rfl rfl) (ed (S.since r).len ?_));refine IY (gj (by omega) ?_);refine ed (by rfl) ?_;generalize N.new (.cells kr 1 true false (List.replicate u.blocks.length (V.bool false)))=h2 at*;have z:∀a b,jK CM 2 1 (V.agg [(V.I 0),(V.I 0)]) [(0,V.agg [.I (a:Nat),.I (b:Nat)])]=some (.cells CM 2 true false [.I (a:Nat),.I (b:Nat)],λl=> .slice l 0 1):=λa b=>by rfl
 have T:jK CM 2 1 (V.agg [(V.I 0),(V.I 0)]) [(0,V.agg [.I 0,.I 0])]=some (.cells CM 2 true false [.I ((0:Nat):Int),.I ((0:Nat):Int)],λl=> .slice l 0 1):=z 0 0;rw[T,fE]
 have H3:=
  (H2.add (p:=eJ eN ev [] .ee) .nil λ_ h=>h).add (p:=eJ eW CM [] .ee) .nil λ_ h=>h
 obtain⟨v4,h4,e4,n4,H4,s4⟩:=H3.wR 0 rfl (kL:=16) (y:=(0,0)) rfl (by decide) (by decide) (by simp);have U:eR 135 2 16 V.ee (.slice h2.next 0 1) (h2.new (.cells CM 2 true false [.I ((0:Nat):Int),.I ((0:Nat):Int)]))=some (.val v4 h4):=e4;rw[U,ei];simp[ O7]at H4;obtain⟨l5,o5,h5,e5,e6,n5,H5,s5⟩:=H4.JZ 2 rfl (k:=0) (by simp;omega) rfl rfl rfl;refine ed e5 ?_;rw[e6,ei];simp[ mP]at H5;refine Nf ?_;unfold GQ;have W:=(r.trans s4).trans s5
 refine N6 (λk x1 x3 X A h'=>∃seen post stack,x1 = .ptr h.next 0/\x3 = .slice N.next 0 u.blocks.length/\k=mu u.blocks.length (next u) seen stack/\Iy u.blocks.length (next u) seen post stack/\Sn F h F h'/\
  ej F h' (eJ eW CM stack A::eJ eN ev post X::eJ eB kr seen (.slice N.next 0 u.blocks.length)::ey h.next 30 (uC u vv vb vs)::cs)) ?_
  ⟨_,[],[(0,0)],rfl,rfl,rfl,Iy.start (by omega) m,W,H5⟩
 rintro k x1 x3 X A Y ⟨seen,post,stack,rfl,rfl,hk,G,C,d⟩;unfold Hw;have Z:=G.nodup;have au:=jA _ _ (by grind) G.pre;have oV:stack.length<=u.blocks.length:=by
  have:=jA u.blocks.length _ (wBu.1 Z).2.1 λx hx=>by
   obtain⟨y,hy,rfl⟩:=Mv.1 hx;exact(G.range y hy).1
  simpa using this
 refine ed (d.len 0 rfl) ?_;rcases nB stack with rfl|⟨s,⟨b,i⟩,rfl⟩
 ·refine IY (fU (by simp) ?_);have aa:0<post.length:=by
   let⟨p,hp⟩:=G.last rfl
   rw[hp];simp
  refine VG d.tail aa (by omega) λh7 O e=>?_;exact H _ _ seen post (C.trans O) e.Kc.Kc G
 refine IY (gj (by simp_all) ?_);have hlen:(s++[(b,i)]).length-1=s.length:=by simp
 have f:s.length<(s++[(b,i)]).length:=by simp
 have D:(s++[(b,i)])[s.length]'f=(b,i):=by simp
 let⟨hbn,hin⟩:=G.range (b,i) (by simp)
 obtain⟨B,hB⟩:∃B,u.blocks[b]? =some B:=by simp_all
 have I:next u b=B.next:=by unfold next;rw[hB]
 simp [I]at hin;refine ed (d.len 0 rfl) (Av (by omega) (by simp) ?_);rw[hlen];obtain⟨l7,h7,P,e8,n7,e,O⟩:=d.stF 0 rfl (j:=1) (y:=(b,i+1)) f (by decide) rfl (λw R=>by
  rw[D]at R;have R:=R;subst R;rfl)
 have P:gG 2 A (.I s.length)=some (.ptr l7 (s.length*2)):=P
 let⟨l8,o8,w8,i1,i2,i3,i4⟩:=d.ix 0 rfl f .i64
 rw [D]at i3;obtain rfl:w8=[.I b,.I i]:=i3;have i1:gG 2 A (.I s.length)=some (.ptr l8 o8):=i1;rw[P]at i1;obtain⟨rfl,rfl⟩:l7=l8/\s.length*2=o8:=by
  simp_all
 have ib:=i4 0 _ rfl;have ii:=i4 1 _ rfl
 let⟨lb,ob,bv,bn,bp,_,b1,b2,iv,iN,ip,ba⟩:=(S.since C).nV hB
 refine ed P (ed (by rfl) (ed (d.ld 3 rfl rfl) (ed (fP _ _) (ed (by rfl) (ed ib (ed b1 (ed (by rfl) (ed ba.next ?_))))))));refine ed (fP _ _) (ed (by rfl) (ed ii (ed iN.len ?_)));by_cases hi:i=B.next.length
 ·refine fZ (gj (by omega) ?_);refine ed (fP _ _) (ed (by rfl) (ed ib ?_));rw[rS,fE];obtain⟨v9,h9,e9,n9,H9,s9⟩:=d.wR 1 rfl (kL:=8) rfl (by decide) (by decide) (by omega);have ab:eR 3 1 8 X (.slice Y.next 0 1) (Y.new (.cells 3 1 true false (gZ [b])))=some (.val v9 h9):=e9;rw[ab,ei];refine ed (H9.len 0 rfl) (Av (by omega) (by simp) ?_);rw[hlen]
  let⟨aw,Nj,c⟩:=H9.zeT 0 rfl (n:=s.length) (by simp)
  refine ed Nj ?_;have et:(s++[(b,i)]).take s.length=s:=by simp
  rw[et]at c;exact⟨_,by grind[zdi],seen,post++[b],s,rfl,rfl,rfl,G.pop (by simp_all),C.trans s9,c⟩
 refine fZ (fU (by omega) ?_);have ac:i<B.next.length:=by omega
 have ax:=g.two b B hB;have o:(next u b)[i]? =some B.next[i]:=by rw[I];exact by simp_all
 have ae:B.next[i]<u.blocks.length:=by grind[AU]
 let⟨l9,o9,_,j1,j2⟩:=iN.nat (hO ac) .i64
 refine ed (fP _ _) (ed (by rfl) (ed ii (ed j1 (ed j2 ?_))));refine ed (fP _ _) (ed (by rfl) (ed ii (fI ?_)));refine ed (fP _ _) (ed (by rfl) ?_);have e8:gJ 1 (.ptr l7 (s.length*2+1)) (.I ((i+1:Nat):Int)) Y=some (.val .undef h7):=e8;rw[e8,ei];simp[mP,Zf]at e;have ag:=G.len;have J:=e.len 2 rfl;rw[ag]at J;refine ed J (A9 ?_);rw[Ml ae];obtain⟨q,hq⟩:∃q,seen[B.next[i]]? =some q:=by simp_all
 let⟨lq,oq,q1,q2⟩:=e.Mr 2 rfl hq .i64
 have ea:jX (.bool true) (oB (some (V.slice N.next 0 u.blocks.length)) λah=>oB (some (V.I (B.next[i]:Nat))) λai=>oB (gG 1 ah ai) λaj=>oB (ez aj h7) λak=>pA .not ak)=some (.bool (!q)):=by
  simp[mA,fe,q1,q2,zaM]
 refine ed ea (iJ ?_)
 cases q with
 | true=>
   refine fU (by simp) ?_
   exact⟨_,by grind[zaG],seen,post,s++[(b,i+1)],rfl,rfl,rfl,G.skip o hq,C.trans O,e⟩
 | false=>
   refine gj rfl ?_;have K:¬ry seen B.next[i]:=by unfold ry;rw[hq];simp
   obtain⟨l10,ay,L,Nj,al,aA,c,am⟩:=e.JZ 2 rfl (k:=B.next[i]) (by omega) rfl rfl rfl;refine ed Nj ?_;rw[al,ei];refine ed (show _=some (V.agg [.I (B.next[i]:Nat),.I ((0:Nat):Int)]) from rfl) ?_;rw[z,fE];obtain⟨an,ao,ap,aB,aq,ar⟩:=c.wR 0 rfl (kL:=16) (y:=(B.next[i],0)) rfl (by decide) (by decide) (by simp;omega);have M:eR 135 2 16 A (.slice L.next 0 1) (L.new (.cells CM 2 true false [.I (B.next[i]:Nat),.I ((0:Nat):Int)]))=some (.val an ao):=ap;rw[M,ei];exact⟨_,by rw[hk];exact zbY G o K,_,post,s++[(b,i+1)]++[(B.next[i],0)],rfl,rfl,rfl,G.push o K,((C.trans O).trans am).trans ar,aq⟩
theorem Tu(g:Good u)(c:ej F h cs)(a:zQ F h u vv vb vs)(H:∀F' h' v seen post,Sn F h F' h'->ej F' h' cs->Iy u.blocks.length (next u) seen post []->ie eN F' h' post.reverse v->Q v h') :
  cP CS pU [.agg (uC u vv vb vs)] h Q:=
 L4 (Ln g) c a.one a.b λh' v seen post d e G=>by
  let⟨f,i,j⟩:=e.jZ 0 rfl
  exact H _ _ v seen post (d.trans i) f.tail G j
end
