/- Parts. -/
import Derived.Test.YtloecllhljfidaaGreatDoorM25
import Derived.Test.YtloecllhljfidaaGreatDoorM19
set_option maxHeartbeats 4000000
namespace Go.Proofs.YtloecllhljfidaaGreatDoor.Hx
open Un Dm
variable{ty:Nat}{v:V}
theorem X3(h:Hp):∀op,1<=op->op<=23->∃s,s≠[]/\CS.K EP [.I (op:Nat)] h=some (.str s)
 |0,h,_=>by omega
 |1,_,_=>⟨_,by decide,rfl⟩
 |2,_,_=>⟨_,by decide,rfl⟩
 |3,_,_=>⟨_,by decide,rfl⟩
 |4,_,_=>⟨_,by decide,rfl⟩
 |5,_,_=>⟨_,by decide,rfl⟩
 |6,_,_=>⟨_,by decide,rfl⟩
 |7,_,_=>⟨_,by decide,rfl⟩
 |8,_,_=>⟨_,by decide,rfl⟩
 |9,_,_=>⟨_,by decide,rfl⟩
 |10,_,_=>⟨_,by decide,rfl⟩
 |11,_,_=>⟨_,by decide,rfl⟩
 |12,_,_=>⟨_,by decide,rfl⟩
 |13,_,_=>⟨_,by decide,rfl⟩
 |14,_,_=>⟨_,by decide,rfl⟩
 |15,_,_=>⟨_,by decide,rfl⟩
 |16,_,_=>⟨_,by decide,rfl⟩
 |17,_,_=>⟨_,by decide,rfl⟩
 |18,_,_=>⟨_,by decide,rfl⟩
 |19,_,_=>⟨_,by decide,rfl⟩
 |20,_,_=>⟨_,by decide,rfl⟩
 |21,_,_=>⟨_,by decide,rfl⟩
 |22,_,_=>⟨_,by decide,rfl⟩
 |23,_,_=>⟨_,by decide,rfl⟩
 |n+24,_,h=>by omega
theorem zf5{h:Hp}{X:Option (V×Hp)}{K:fq}(H:oP X λy=>K y.1 y.2):oP (fH true (.bool true)) λb=>ghP b h X K:=H
section
variable{F F':Nat->Prop}{h h':Hp}{cs:List Pc}{Q:fq}{u:U}{vv vb vs:V}{lc:Nat}{bl pl Hf:V}
theorem zbI{op:Nat}(a:1<=op)(b:op<=23)(H:∀s,s≠[]->Q (.str s) h):cP CS EP [.I op] h Q:=by
 let⟨fn,c,hf,hb⟩:=Sp
 let⟨s,hs,hk⟩:=X3 h op a b
 exact cP.known hf hb hk rfl rfl (H s hs)
theorem TQ{lv:Nat}{x:Vl}{w:V}{ys:List Vl}(u:ev F h (eJ lv gK (mh x w)::cs))(m:il eV F h ys v)(J:ys.length<1000000)(z:∀y∈ys,¬(y.op=1/\y.n=x.n))
  (H:∀h',Sn F h F h'->ev F h' (eJ lv gK (mh x w)::cs)->Q (.bool false) h'):cP CS iF [v,.func kH [] [.ptr lv 0]] h Q:=by
 refine sS ?_;refine vP ?_;refine eh m.len ?_
 refine sV (λk p q r s h'=>∃i,p=v/\q = .func kH [] [.ptr lv 0]/\r = .I ys.length/\s = .I (i:Nat)/\i+k=ys.length/\Sn F h F h'/\ev F h' (eJ lv gK (mh x w)::cs)) ?_ (k:=ys.length)
  ⟨0,rfl,rfl,rfl,rfl,by omega,Sn.refl _ _,u⟩
 rintro k p q r s h' ⟨i,rfl,rfl,rfl,rfl,hk,f,t⟩;unfold js;by_cases hi:i<ys.length;rotate_left
 ·refine hY ?_;refine eh (nW _ _ _ _) ?_;exact H h' f t
 refine gy ?_;obtain⟨l,o,c,_,A,B,⟨a,rfl,C⟩,_⟩:=(m.since f).ix hi .i64;refine eh A (eh B ?_);show cP CS kH [.agg (mh ys[i] a),.ptr lv 0] h' _;refine IK ?_;refine j4 t (by simp only[mh,eQ,C.one];rfl) λb d D=>?_;refine eh (by rfl) (eh (d.ld 0 rfl rfl) (eh (by rfl) ?_));have e:jI (.bool (((ys[i].op:Nat):Int) == 1)) (oB (fI 3 (.ptr h'.next 0)) λE=>oB (fe E b) λG=>oB (fI 3 (.ptr lv 0)) λg=>oB (fe g b) λj=>ez .eql 2 G j)=some (.bool false):=by
  have l1:fe (.ptr h'.next (0+3)) b=some (.I ys[i].n):=d.ld 0 rfl rfl;have l2:fe (.ptr lv (0+3)) b=some (.I x.n):=d.ld 1 rfl rfl;simp only[gf,ft,l1,l2,gR,mb];congr 2;rw[wBg];intro I;simp[vU,Bg]at I;exact by grind
 refine eh e (iB (fP (by simp) ?_));exact fF ⟨k-1,by omega,i+1,rfl,rfl,rfl,rfl,by omega,f.trans D,d.tail⟩
theorem Zj{lv:Nat}{x:Vl}{w:V}{a0:V}(a:a0 = .ptr lc 0)(C:Ck F h (eJ lv gK (mh x w)::cs) lc u vv vb vs bl pl Hf)(G:leaves x.op=true->x.state<u.eo.length)(hc:lv≠lc)(H:fe (.ptr lv 5) h=some (.I x.state)){K:fq}(D:K (.bool false) h) :
  oP (fH true (.bool (leaves x.op))) λb=>
  oP (gV b (fI 5 (.ptr lv 0))) λc=>
  oP (fH true (.bool (leaves x.op))) λd=>
  oP (gV d (fe c h)) λe=>
  oP (fH true (.bool (leaves x.op))) λf=>
  oP (gV f (some a0)) λg=>
  oP (fH true (.bool (leaves x.op))) λi=>
  oP (gV i (gP g)) λj=>
  oP (fH true (.bool (leaves x.op))) λk=>
  oP (gV k (fI 0 j)) λl=>
  oP (fH true (.bool (leaves x.op))) λm=>
  oP (gV m (fI 4 l)) λn=>
  oP (fH true (.bool (leaves x.op))) λo=>
  oP (gV o (fe n h)) λp=>
  oP (fH true (.bool (leaves x.op))) λq=>
  oP (gV q (fE p)) λr=>
  oP (fH true (.bool (leaves x.op))) λt=>
  oP (gC t (some (lR,[e,r]))) λv=>vB CS v h λy E=>
  (h.next<=E.next/\
  oP (fH true (.bool (leaves x.op))) λz=>
  oP (gV z (pK .not y)) λA=>
  oP (nY (.bool false) (jA (.bool (leaves x.op)) A (V.bool false))) λB=>K B E):=by
 subst a
 cases hq:leaves x.op with
 | true=>
   have:=G hq;refine gw (eh (by rfl) (gw (eh H (gw (eh rfl (gw (eh (fS _ _) (gw (eh (by rfl) (gw (eh (by rfl) (gw (eh (C.ld 4 rfl) (gw (eh C.u.s.len (yF ?_))))))))))))))));refine AB ⟨iZ _,gw ?_⟩;rw[JO this]
   exact eh rfl (eh rfl D)
 |false=>exact hV (hV (hV (hV (hV (hV (hV (hV (Hg ⟨iZ _,hV (eh rfl D)⟩))))))))
theorem zdo(g:Good u)(C:Ck F h cs lc u vv vb vs bl pl Hf){xs ys:List Int}(p:il eZ F h xs bl)(S:Std u u.blocks.length 0 xs ys){i:Nat}(hi:i<u.ej.length)(L:lc<h.next)
  (H:∀F' h',Sn F h F' h'->ev F' h' cs->Q (.bool true) h'):cP CS kh [.ptr lc 0,.I i] h Q:=by
 refine La rfl rfl ?_;unfold xX;have nv:=g.nv;have nb:=g.nb;obtain⟨x,hx⟩:∃x,u.ej[i]? =some x:=by simp_all
 let⟨b,k,AE⟩:=g.B6 i hi trivial
 let⟨B,hB,hk⟩:=id AE
 have f:=g.op i x hx;have l:=g.use i x hx;have q:B.fh.length<=700:=by
  rw[g.fh b B hB,<-pM];have:=pP g (j:=0) (b:=b) (iZ _) (by omega);omega
 have r:x.op=21\/x.op=20->x.args.length<=700:=by
  rintro(t|t)
  ·rw[(g.Cd _ _ _ _ _ AE hx t hB).2];exact q
  ·rw[g.putAt i x hx t];omega
 let⟨l1,U,w,_,M,N,iw,_⟩:=C.u.val hx
 refine eh (fS _ _) (eh (by rfl) (eh (by rfl) (eh (C.ld 2 rfl) (eh M (eh N ?_)))));refine gQ C.H rfl rfl (by simp only[mh,eQ,iw.one];rfl) λW o z=>?_;have C2:=C.cons z o;have d:=iw.since z;refine eh (by rfl) (eh (o.ld 0 rfl rfl) ?_);refine zbI f.1 f.2 λs hs=>⟨iZ _,?_⟩
 refine eh (by rfl) ?_;rw[show(s == [])=false from PG.2 hs];refine fG (eh rfl (fG (eh (o.mY 0 rfl rfl) (xx ?_))));refine KV o d (by omega) λX J v m a O=>⟨m.next,?_⟩
 have C3:=C2.since m a;have c:=z.trans m;refine xx (K1 C3 O (by grind[Lb]) l ⟨iZ _,eh rfl ?_⟩);refine fG (eh (by rfl) (fG (eh (a.ld 0 rfl rfl) (xx ?_))));refine L9 ⟨iZ _,fG (eh rfl ?_)⟩;refine Zj rfl C3 (g.leave i x hx) (by omega) (a.ld 0 rfl rfl) ?_;refine iB (fP (by simp) ?_);refine eh (by rfl) (eh (a.ld 0 rfl rfl) ?_);by_cases A:x.op=20
 ·refine fX (fW (by omega) ?_);refine eh (by rfl) (eh (a.ld 0 rfl rfl) (eh (d.since m).len (hX ?_)));rw[g.putAt i x hx A];exact H _ _ c a.tail
 refine fX (fP (by omega) ?_);by_cases D:x.op=21
 ·refine fX (fW (by omega) ?_)
  let⟨lb,ob,_,b1,b2⟩:=(p.since c).int ((S.yes i b k AE (by grind)).1) .i64
  let⟨Y,Z,bv,bn,bp,_,E,_,_,_,ip,ba⟩:=C3.u.nJ hB
  refine eh (by rfl) (eh (a.ld 0 rfl rfl) (eh (d.since m).len ?_));refine eh (fS _ _) (eh (by rfl) (eh (by rfl) (eh (C3.ld 3 rfl) (eh (fS _ _) (eh (by rfl) (eh (C3.ld 5 rfl) (eh b1 (eh b2 (eh E ?_)))))))));refine eh (by rfl) (eh ba.fh (eh ip.len (hX ?_)));rw[(g.Cd _ _ _ _ _ AE hx D hB).2,JO rfl];exact H _ _ c a.tail
 refine fX (fP (by omega) ?_);by_cases P:x.op=1
 ·refine fX (fW (by omega) ?_)
  let⟨p1,p2,p3⟩:=g.param i x hx P
  refine eh (by rfl) (eh (a.ld 0 rfl rfl) (eh (by rfl) ?_));have e:jI (.bool (decide ((0:Int)<=x.n))) (oB (fI 3 (.ptr h.next 0)) λG=>oB (fe G J) λI=>ez .lss 2 I (V.I 40))=some (.bool true):=by
   have l1:fe (.ptr h.next (0+3)) J=some (.I x.n):=a.ld 0 rfl rfl;simp[ ft,l1];simp[p1,p2]
  refine eh e ?_
  let⟨vc,R,K⟩:=C3.u.v.cut (lo:=none) (hi:=some (.I i)) (n:=i) rfl (by rfl) (Mr _) (by omega)
  rw[wBP]at K;refine gw (eh rfl (gw (eh (fS _ _) (gw (eh (by rfl) (gw (eh (by rfl) (gw (eh (C3.ld 2 rfl) (gw (eh rfl (gw (eh R (gw (eh rfl (yF ?_))))))))))))))));refine TQ a K (by grind) (λy hy hh=>?_) λh4 s4 T=>eh rfl (H _ _ (c.trans s4) T.tail)
  grind[mn,jo]
 ·refine fX (fP (by omega) ?_);exact H _ _ c a.tail
theorem zch(g:Good u)(C:Ck F h cs lc u vv vb vs bl pl Hf){i:Nat}{B:Bk}(o:u.blocks[i]? =some B)(H:∀F' h',Sn F h F' h'->ev F' h' cs->Q (.bool true) h'):cP CS p7 [.ptr lc 0,.I i] h Q:=by
 refine Kg ?_;have c:=g.fin i B o
 let⟨J,K,bv,bn,bp,_,x,y,iv,d,ip,_⟩:=C.u.nJ o
 refine eh (fS _ _) (eh (by rfl) (eh (by rfl) (eh (C.ld 3 rfl) (eh x (eh y ?_)))));refine gQ C.H rfl rfl (by simp only[ku,eQ,iv.one,d.one,ip.one];rfl) λz a e=>?_;have C2:=C.cons e a;have d:=d.since e;refine eh (by rfl) (eh (a.ld 0 rfl rfl) (eh d.len ?_));have A:B.next.length<=2:=by
  rcases c with⟨_,h⟩|⟨_,h,_⟩|⟨_,h,_⟩
  ·omega
  ·omega
  ·simp_all
 refine Gv (λk p q f l m h'=>∃j,p = .ptr lc 0/\q = .ptr h.next 0/\f=bn/\l = .I B.next.length/\m = .I (j:Nat)/\j+k=B.next.length/\h' = z) ?_ (k:=B.next.length) (by simp_all);rintro k p q f l m h' ⟨j,rfl,rfl,rfl,rfl,rfl,hk,rfl⟩;unfold qz;by_cases hj:j<B.next.length
 ·refine gy ?_
  let⟨L,M,_,D,E⟩:=d.nat (gN hj) .i64
  have G:B.next[j]<u.blocks.length:=g.nx i _ (by grind[next,zI]);refine eh D (eh E (eh (fS _ _) (eh (by rfl) (eh (by rfl) (eh (C2.ld 3 rfl) (eh C2.u.b.len ?_))))));refine AB (pY (fW (by simp_all) ?_));exact fF ⟨k-1,by omega,j+1,rfl,rfl,rfl,rfl,rfl,by omega,rfl⟩
 refine hY ?_;refine eh (by rfl) (eh (a.ld 0 rfl rfl) ?_);rcases c with⟨r,n⟩|⟨r,n,t⟩|⟨r,n,t⟩
 ·refine fX (fW (by omega) ?_);refine eh (by rfl) (eh (a.ld 0 rfl rfl) (eh d.len (hX ?_)));rw[n];exact H _ _ e a.tail
 ·refine fX (fP (by omega) ?_);refine fX (fW (by omega) ?_);refine eh (by rfl) (eh (a.ld 0 rfl rfl) (eh d.len (hX ?_)));rw[n,show decide (((2:Nat):Int)=2)=true from rfl];refine gw (eh rfl (gw (eh (by rfl) (gw (eh (a.ld 0 rfl rfl) (zf5 ?_))))));rw[mH,ft]
  let⟨v,w,I⟩:=a.zaa eR rfl (xC F h' [B.cond]) false
  have C3:=C2.since w v;refine eh rfl (yF ?_);refine K1 C3 I (by simp) (by simp_all) (eh rfl ?_);exact H _ _ (e.trans w) v.tail
 ·refine fX (fP (by omega) ?_);refine fX (fP (by omega) ?_);refine fX (fW (by omega) ?_);refine eh (by rfl) (eh (a.ld 0 rfl rfl) (eh d.len (hX ?_)));rw[n,show decide ((([]:List Nat).length:Int)=0)=true from rfl];refine gw (eh (by rfl) (gw (eh (a.ld 0 rfl rfl) (gw (eh rfl (gw (eh (fS _ _) (gw (eh (by rfl) (gw (eh (by rfl) (gw (eh (C2.ld 4 rfl) (gw (eh C2.u.s.len (yF ?_))))))))))))))));refine AB ⟨iZ _,?_⟩;rw[JO t];exact eh rfl (H _ _ e a.tail)
theorem zdG(g:Good u)(C:Ck F h cs lc u vv vb vs bl pl Hf){i:Nat}{B:Bk}(D:u.blocks[i]? =some B)(H:∀F' h',Sn F h F' h'->ev F' h' cs->Q (.bool true) h'):cP CS qT [.ptr lc 0,.I i] h Q:=by
 refine Kl ?_;have nb:=g.nb;have r2:∀n d,Sn F h n d->ev n d cs->nU Q (.ptr lc 0) (.I i) d:=by
  intro n d o E;have C1:=C.since o E;refine GP ?_;unfold rL
  let⟨l7,o7,bv,bn,bp,_,i1,i2,iv,p,ip,_⟩:=C1.u.nJ D
  refine eh (fS _ _) (eh (by rfl) (eh (by rfl) (eh (C1.ld 3 rfl) (eh i1 (eh i2 ?_)))));refine gQ C1.H rfl rfl (by simp only[ku,eQ,iv.one,p.one,ip.one];rfl) λG I J=>?_;have C2:=C1.cons J I;have p:=p.since J;refine eh (by rfl) (eh (I.ld 0 rfl rfl) (eh p.len ?_));have ad:B.next.length<=2:=by
   rcases g.fin i B D with⟨_,h⟩|⟨_,h,_⟩|⟨_,h,_⟩
   ·omega
   ·omega
   ·simp_all
  refine G0 (λk q x7 r s t h'=>∃j,q = .ptr lc 0/\x7 = .ptr d.next 0/\r=bn/\s = .I B.next.length/\t = .I (j:Nat)/\j+k=B.next.length/\h' = G) ?_ (k:=B.next.length) (by simp_all);rintro k q x7 r s t h' ⟨j,rfl,rfl,rfl,rfl,rfl,hk,rfl⟩;unfold rA;by_cases hj:j<B.next.length;rotate_left
  ·exact hY (H _ _ (o.trans J) I.tail)
  refine gy ?_
  let⟨l8,o8,_,K,L⟩:=p.nat (gN hj) .i64
  have w:B.next[j]∈next u i:=by unfold next;rw[D];exact zI hj
  have ae:=g.nx i _ w;obtain⟨l,a⟩:∃l,u.blocks[B.next[j]]? =some l:=by simp_all
  let⟨l9,o9,bv',bn',bp',_,f,_,_,_,ip',ba'⟩:=C2.u.nJ a
  refine eh K (eh L (eh (by rfl) (eh (I.ld 0 rfl rfl) (eh (by rfl) ?_))));have e:jI (.bool (((B.fin:Nat):Int) == 2)) (oB (some (V.ptr lc 0)) λM=>oB (gP M) λN=>oB (fI 0 N) λO=>oB (fI 3 O) λP=>oB (fe P h') λR=>oB (some (V.I (B.next[j]:Nat))) λS=>oB (gB 6 R S) λT=>oB (fI 4 T) λU=>oB (fe U h') λW=>oB (fE W) λX=>ez .neq 3 X (V.I 1))=some (.bool false):=by
   have l1:=C2.ld 3 rfl;have l2:=ba'.fh;simp only[ft,fS,gf,l1,f,l2,ip'.len,vf,mb];congr 2;rw[wBg];intro m;simp[vU,Bg,wB2]at m;have d:=g.FY i B D (by omega) (B.next[j]) (zI hj);rw[g.fh _ _ a,d]at m;exact m.2 rfl
  refine eh e (iB (fP (by simp) ?_));exact fF ⟨k-1,by omega,j+1,rfl,rfl,rfl,rfl,rfl,by omega,rfl⟩
 by_cases hi:i=0;rotate_left
 ·exact fX (fP (by omega) (r2 F h (Sn.refl _ _) C.H))
 refine fX (fW (by omega) ?_);have lA:fO 5 (.ptr lc 0) h=some (.agg (uC u vv vb vs)):=by
  let⟨j,ty,hc⟩:=C.c
  rw[Bf (C.H.get j hc),EN (by simp)];rfl
 refine eh (fS _ _) (eh (by rfl) (eh lA ?_));refine Uv g C.H C.u λn d v o E r1=>?_;have lr:=r1.len;rw[Er,UW]at lr;refine eh lr ?_;have C1:=C.since o E;refine G5 (λk q x1 y z A h'=>∃j,q = .ptr lc 0/\x1 = .I i/\y=v/\z = .I u.blocks.length/\A = .I (j:Nat)/\j+k=u.blocks.length/\h' = d) ?_ (k:=u.blocks.length) (by simp_all);rintro k q x1 y z A h' ⟨j,rfl,rfl,rfl,rfl,rfl,hk,rfl⟩;unfold rr;by_cases hj:j<u.blocks.length;rotate_left
 ·exact hY (r2 n h' o E)
 refine gy ?_;obtain⟨l,a⟩:∃l,u.blocks[j]? =some l:=by simp_all
 let⟨l8,o8,w8,_,K,L,j3⟩:=r1.list (i:=j) (x:=Un.ahead u j) (by simp[hj]) .i64
 let⟨l9,o9,bv',bn',bp',_,f,_,_,_,ip',ba'⟩:=C1.u.nJ a
 have ag:(Un.ahead u j).length<=700:=by
  rw[<-pM];have:=pP g (j:=0) (b:=j) (iZ _) (by omega);omega
 rw [g.fh j l a]at ip';refine eh K (eh L (eh (fS _ _) (eh (by rfl) (eh (by rfl) (eh (C1.ld 3 rfl) (eh f (eh (by rfl) (eh ba'.fh ?_))))))));refine Zc j3 ip' (by omega) (eh rfl ?_);have e:nY (.bool (!true)) (oB (some (V.I j)) λY=>oB (ez .eql 3 Y (V.I 0)) λZ=>oB (some Z) λaa=>jI aa (oB (some w8) λab=>oB (fE ab) λac=>ez .gtr 3 ac (V.I 0)))=some (.bool false):=by
  simp only[Bool.not_true,mK,ft,gR,j3.len,nN,mb];congr 2;rw[wBg];intro m;simp[vU,Bg,zX]at m
  let⟨d,G⟩:=m
  obtain rfl:j=0:=by omega
  rw[g.zG]at G;simp at G
 refine eh e (iB (fP (by simp) ?_));exact fF ⟨k-1,by omega,j+1,rfl,rfl,rfl,rfl,rfl,by omega,rfl⟩
end
open Un Dm
section
variable{F F':Nat->Prop}{h h':Hp}{cs:List Pc}{Q:fq}{u:U}{vv vb vs:V}
theorem ev.stF{α:Type}{E:qf α}{xs:List α}(H:ev F h cs)(i:Nat)(hi:cs[i]? =some (fg E ty xs v)){k j:Nat}{y:α}{a:V}(hk:k<xs.length)(c:j<E.sz)(d:a.one=true)(e:∀w,E.rel F h xs[k] w->E.rel F h y (w.set j a)) :
  ∃l h',gB E.sz v (.I k)=some (.ptr l (k*E.sz))/\gq 1 (.ptr l (k*E.sz+j)) a h=some (.val .undef h')/\h.next<=h'.next/\ev F h' (cs.set i (fg E ty (xs.set k y) v))/\Sn F h F h':=by
 let⟨t,h',n,f,g,m,b⟩:=(H.row i hi).store hk c d e
 exact⟨t,h',f,g,b.next,H.Au hi b m λ_ h=> .inl h⟩
theorem ev.L6{xs:List Nat}(H:ev F h cs)(i:Nat)(hi:cs[i]? =some (fg eN ty xs v)){k x:Nat}(hx:xs[k]? =some x)(kd:IntKind):∃l o,gB 1 v (.int kd (k:Nat))=some (.ptr l o)/\fe (.ptr l o) h=some (.I x):=by
 let⟨l,o,_,a,b⟩:=(H.row i hi).read.nat hx kd
 grind
theorem ev.Sh{xs:List Int}(H:ev F h cs)(i:Nat)(hi:cs[i]? =some (fg eZ ty xs v)){k:Nat}{x:Int}(hx:xs[k]? =some x)(kd:IntKind):∃l o,gB 1 v (.int kd (k:Nat))=some (.ptr l o)/\fe (.ptr l o) h=some (.I x):=by
 let⟨l,o,_,a,b⟩:=(H.row i hi).read.int hx kd
 grind
theorem ev.Jr{xs:List Bool}(H:ev F h cs)(i:Nat)(hi:cs[i]? =some (fg eB ty xs v)){k:Nat}{x:Bool}(hx:xs[k]? =some x)(kd:IntKind):∃l o,gB 1 v (.int kd (k:Nat))=some (.ptr l o)/\fe (.ptr l o) h=some (.bool x):=by
 let⟨l,o,_,a,b⟩:=(H.row i hi).read.bool hx kd
 grind
theorem V3{xs:List Nat}(f:ev F h (fg eN ty xs v::cs))(h0:0<xs.length)(J:xs.length<1000000)(H:∀h',Sn F h F h'->ev F h' (fg eN ty xs.reverse v::cs)->Q (.tuple []) h') :
  cP CS oR [v] h Q:=by
 refine CT ?_;refine eh (f.len 0 rfl) (sR (by omega) h0 ?_)
 refine z8 (λk g j l h'=>∃i ys,g=v/\j = .I (i:Nat)/\l = .I ((xs.length-1-i:Nat):Int)/\i+k=xs.length/\2*i<=xs.length/\ys.length=xs.length/\
  (∀p,p<xs.length->ys[p]? =if p<i\/xs.length-i<=p then xs[xs.length-1-p]? else xs[p]?)/\Sn F h F h'/\ev F h' (fg eN ty ys v::cs)) ?_ (k:=xs.length)
  ⟨0,xs,rfl,rfl,by rw[Nat.sub_zero],by omega,by omega,rfl,by grind,Sn.refl _ _,f⟩
 rintro k g j l K ⟨i,ys,rfl,rfl,rfl,hk,q,r,hp,s,c⟩;unfold mC;by_cases hij:i<xs.length-1-i
 ·refine gy ?_;obtain⟨a,m⟩:∃a,ys[i]? =some a:=by grind
  obtain⟨b,hb⟩:∃b,ys[xs.length-1-i]? =some b:=by grind
  let⟨l1,L,t,u⟩:=c.L6 0 rfl hb .i64
  let⟨l2,M,w,x⟩:=c.L6 0 rfl m .i64
  refine eh t (eh u (eh w (eh x ?_)));obtain⟨l3,N,O,n,o,y,z,A⟩:=c.IH 0 rfl (k:=i) (by omega) rfl rfl rfl;refine eh n ?_;rw[o,en];obtain⟨l4,P,R,B,C,D,E,s4⟩:=z.IH 0 rfl (k:=xs.length-1-i) (by simp;omega) rfl rfl rfl;refine⟨y,eh B ?_⟩;rw[C,en];refine⟨D,fF (sR (by omega) (by omega) ?_)⟩;refine⟨k-1,by omega,i+1,(ys.set i b).set (xs.length-1-i) a,rfl,rfl,by rfl,by omega,by omega,by simp[r],λp d=>?_,(s.trans A).trans s4,E⟩;have G:=hp i (by omega);rw[ m]at G;have I:=hp (xs.length-1-i) (by omega);rw[if_neg (by omega),hb]at I;by_cases n:p=xs.length-1-i
  ·grind
  ·rw[I9 (by omega)];by_cases o:p=i
   ·simp_all
   grind
 ·refine hY ?_;have e:ys=xs.reverse:=by
   refine wBL λp=>?_;by_cases d:p<xs.length
   ·grind
   ·simp_all
  simp_all
theorem ZE{α:Type}(s:List α)(x y:α):(s++[x]).set s.length y=s++[y]:=by simp
structure zdP (u:U):Prop where
 I5:1<=u.blocks.length
 nb:u.blocks.length<=300
 nx:∀b,∀t∈next u b,t<u.blocks.length
 two:∀(b:Nat) B,u.blocks[b]? =some B->B.next.length<=2
theorem L5(g:Good u):zdP u:=⟨g.I5,g.nb,g.nx,λb B a=>by
 rcases g.fin b B a with⟨_,h⟩|⟨_,h,_⟩|⟨_,h,_⟩
 ·omega
 ·omega
 simp_all⟩
theorem il.nJ{bs:List Bk}(a:il eK F h bs vb){i:Nat}{x:Bk}(hx:bs[i]? =some x) :
  ∃l o v n p,F l/\gB 6 vb (.I i)=some (.ptr l o)/\fO 6 (.ptr l o) h=some (.agg (ku x v n p))/\il eN F h x.ej v/\il eN F h x.next n/\il eN F h x.fh p/\zfy h l o x v n p:=by
 obtain⟨hi,rfl⟩:=jo.1 hx;obtain⟨l,o,w,c,d,e,⟨v,n,p,rfl,f,g,j⟩,b⟩:=a.ix hi .i64;exact⟨l,o,v,n,p,c,d,e,f,g,j,⟨b 0 _ rfl,b 1 _ rfl,b 2 _ rfl,b 3 _ rfl,b 4 _ rfl,b 5 _ rfl⟩⟩
theorem Mb(g:zdP u)(H0:ev F h cs)(ho:gj (uC u vv vb vs)=true)(S:il eK F h u.blocks vb)(H:∀h' v seen post,Sn F h F h'->ev F h' (fg eN eR post.reverse v::cs)->Iq u.blocks.length (next u) seen post []->Q v h') :
  cP CS rV [.agg (uC u vv vb vs)] h Q:=by
 refine SB ?_;have nb:=g.nb;have I5:=g.I5;have o:∀b,b<u.blocks.length->∀t∈next u b,t<u.blocks.length:=λb _ t ht=>g.nx b t ht
 refine j4 H0 ho λN H1 s1=>?_;refine eh (by rfl) (eh (H1.ld 0 rfl rfl) (eh (S.since s1).len ?_));rw[jE rfl (by decide) (by omega),fu];obtain⟨H2,s2⟩:=H1.make (E:=eB) u.blocks.length rfl rfl;have r:=s1.trans s2;refine eh (by rfl) (eh (H2.ld 1 rfl rfl) (eh (S.since r).len ?_));refine AQ (fW (by omega) ?_);refine eh (by rfl) ?_;generalize N.new (.cells jZ 1 true false (List.replicate u.blocks.length (V.bool false)))=h2 at*;have z:∀a b,iS BZ 2 1 (V.agg [(V.I 0),(V.I 0)]) [(0,V.agg [.I (a:Nat),.I (b:Nat)])]=some (.cells BZ 2 true false [.I (a:Nat),.I (b:Nat)],λl=> .slice l 0 1):=λa b=>by rfl
 have T:iS BZ 2 1 (V.agg [(V.I 0),(V.I 0)]) [(0,V.agg [.I 0,.I 0])]=some (.cells BZ 2 true false [.I ((0:Nat):Int),.I ((0:Nat):Int)],λl=> .slice l 0 1):=z 0 0;rw[T,fu]
 have H3:=
  (H2.add (p:=fg eN eR [] .ei) .nil λ_ h=>h).add (p:=fg eW BZ [] .ei) .nil λ_ h=>h
 obtain⟨v4,h4,e4,n4,H4,s4⟩:=H3.rZ 0 rfl (jL:=16) (y:=(0,0)) rfl (by decide) (by decide) (by simp);have U:fi 149 2 16 V.ei (.slice h2.next 0 1) (h2.new (.cells BZ 2 true false [.I ((0:Nat):Int),.I ((0:Nat):Int)]))=some (.val v4 h4):=e4;rw[U,en];simp[ UA]at H4;obtain⟨l5,o5,h5,e5,e6,n5,H5,s5⟩:=H4.IH 2 rfl (k:=0) (by simp;omega) rfl rfl rfl;refine eh e5 ?_;rw[e6,en];simp[ oU]at H5;refine O2 ?_;unfold Bb;have W:=(r.trans s4).trans s5
 refine O7 (λk x1 x3 X A h'=>∃seen post stack,x1 = .ptr h.next 0/\x3 = .slice N.next 0 u.blocks.length/\k=mu u.blocks.length (next u) seen stack/\Iq u.blocks.length (next u) seen post stack/\Sn F h F h'/\
  ev F h' (fg eW BZ stack A::fg eN eR post X::fg eB jZ seen (.slice N.next 0 u.blocks.length)::eJ h.next 30 (uC u vv vb vs)::cs)) ?_
  ⟨_,[],[(0,0)],rfl,rfl,rfl,Iq.start (by omega) o,W,H5⟩
 rintro k x1 x3 X A Y ⟨seen,post,stack,rfl,rfl,hk,G,C,d⟩;unfold Bd;have Z:=G.nodup;have aq:=iP _ _ (by grind) G.pre;have oS:stack.length<=u.blocks.length:=by
  have:=iP u.blocks.length _ (wBO.1 Z).2.1 λx hx=>by
   obtain⟨y,hy,rfl⟩:=Kj.1 hx;exact(G.range y hy).1
  simpa using this
 refine eh (d.len 0 rfl) ?_;rcases lL stack with rfl|⟨s,⟨b,i⟩,rfl⟩
 ·refine AQ (fP (by simp) ?_);have aa:0<post.length:=by
   let⟨p,hp⟩:=G.last rfl
   rw[hp];simp
  refine V3 d.tail aa (by omega) λh7 O e=>?_;exact H _ _ seen post (C.trans O) e.KW.KW G
 refine AQ (fW (by simp_all) ?_);have hlen:(s++[(b,i)]).length-1=s.length:=by simp
 have f:s.length<(s++[(b,i)]).length:=by simp
 have D:(s++[(b,i)])[s.length]'f=(b,i):=by simp
 let⟨hbn,hin⟩:=G.range (b,i) (by simp)
 obtain⟨B,hB⟩:∃B,u.blocks[b]? =some B:=by simp_all
 have I:next u b=B.next:=by unfold next;rw[hB]
 simp [I]at hin;refine eh (d.len 0 rfl) (sR (by omega) (by simp) ?_);rw[hlen];obtain⟨l7,h7,P,e8,n7,e,O⟩:=d.stF 0 rfl (j:=1) (y:=(b,i+1)) f (by decide) rfl (λw R=>by
  rw[D]at R;have R:=R;subst R;rfl)
 have P:gB 2 A (.I s.length)=some (.ptr l7 (s.length*2)):=P
 let⟨l8,o8,w8,i1,i2,i3,i4⟩:=d.ix 0 rfl f .i64
 rw [D]at i3;obtain rfl:w8=[.I b,.I i]:=i3;have i1:gB 2 A (.I s.length)=some (.ptr l8 o8):=i1;rw[P]at i1;obtain⟨rfl,rfl⟩:l7=l8/\s.length*2=o8:=by
  simp_all
 have ib:=i4 0 _ rfl;have ii:=i4 1 _ rfl
 let⟨lb,ob,bv,bn,bp,_,b1,b2,iv,iN,ip,ba⟩:=(S.since C).nJ hB
 refine eh P (eh (by rfl) (eh (d.ld 3 rfl rfl) (eh (fS _ _) (eh (by rfl) (eh ib (eh b1 (eh (by rfl) (eh ba.next ?_))))))));refine eh (fS _ _) (eh (by rfl) (eh ii (eh iN.len ?_)));by_cases hi:i=B.next.length
 ·refine fX (fW (by omega) ?_);refine eh (fS _ _) (eh (by rfl) (eh ib ?_));rw[mH,fu];obtain⟨v9,h9,e9,n9,H9,s9⟩:=d.rZ 1 rfl (jL:=8) rfl (by decide) (by decide) (by omega);have ab:fi 3 1 8 X (.slice Y.next 0 1) (Y.new (.cells 3 1 true false (ig [b])))=some (.val v9 h9):=e9;rw[ab,en];refine eh (H9.len 0 rfl) (sR (by omega) (by simp) ?_);rw[hlen]
  let⟨ar,m,c⟩:=H9.za8 0 rfl (n:=s.length) (by simp)
  refine eh m ?_;have et:(s++[(b,i)]).take s.length=s:=by simp
  rw[et]at c;exact⟨_,by grind[zej],seen,post++[b],s,rfl,rfl,rfl,G.pop (by simp_all),C.trans s9,c⟩
 refine fX (fP (by omega) ?_);have ac:i<B.next.length:=by omega
 have au:=g.two b B hB;have ht:(next u b)[i]? =some B.next[i]:=by rw[I];exact by simp_all
 have ad:B.next[i]<u.blocks.length:=by grind[zI]
 let⟨l9,o9,_,j1,j2⟩:=iN.nat (gN ac) .i64
 refine eh (fS _ _) (eh (by rfl) (eh ii (eh j1 (eh j2 ?_))));refine eh (fS _ _) (eh (by rfl) (eh ii (fF ?_)));refine eh (fS _ _) (eh (by rfl) ?_);have e8:gq 1 (.ptr l7 (s.length*2+1)) (.I ((i+1:Nat):Int)) Y=some (.val .undef h7):=e8;rw[e8,en];simp[oU,ZE]at e;have ae:=G.len;have J:=e.len 2 rfl;rw[ae]at J;refine eh J (AB ?_);rw[JO ad];obtain⟨q,hq⟩:∃q,seen[B.next[i]]? =some q:=by simp_all
 let⟨lq,oq,q1,q2⟩:=e.Jr 2 rfl hq .i64
 have ea:jI (.bool true) (oB (some (V.slice N.next 0 u.blocks.length)) λag=>oB (some (V.I (B.next[i]:Nat))) λah=>oB (gB 1 ag ah) λai=>oB (fe ai h7) λaj=>pK .not aj)=some (.bool (!q)):=by
  simp[pt,ft,q1,q2,zbh]
 refine eh ea (iB ?_)
 cases q with
 | true=>
   refine fP (by simp) ?_
   exact⟨_,by grind[zbD],seen,post,s++[(b,i+1)],rfl,rfl,rfl,G.skip ht hq,C.trans O,e⟩
 | false=>
   refine fW rfl ?_;have K:¬rJ seen B.next[i]:=by unfold rJ;rw[hq];simp
   obtain⟨aw,ax,L,m,Yr,ay,c,ak⟩:=e.IH 2 rfl (k:=B.next[i]) (by omega) rfl rfl rfl;refine eh m ?_;rw[Yr,en];refine eh (show _=some (V.agg [.I (B.next[i]:Nat),.I ((0:Nat):Int)]) from rfl) ?_;rw[z,fu];obtain⟨al,am,an,aA,ao,ap⟩:=c.rZ 0 rfl (jL:=16) (y:=(B.next[i],0)) rfl (by decide) (by decide) (by simp;omega);have M:fi 149 2 16 A (.slice L.next 0 1) (L.new (.cells BZ 2 true false [.I (B.next[i]:Nat),.I ((0:Nat):Int)]))=some (.val al am):=an;rw[M,en];exact⟨_,by rw[hk];exact zbp G ht K,_,post,s++[(b,i+1)]++[(B.next[i],0)],rfl,rfl,rfl,G.push ht K,((C.trans O).trans ak).trans ap,ao⟩
theorem SM(g:Good u)(c:ev F h cs)(a:tL F h u vv vb vs)(H:∀F' h' v seen post,Sn F h F' h'->ev F' h' cs->Iq u.blocks.length (next u) seen post []->il eN F' h' post.reverse v->Q v h') :
  cP CS rV [.agg (uC u vv vb vs)] h Q:=
 Mb (L5 g) c a.one a.b λh' v seen post d e G=>by
  let⟨f,i,j⟩:=e.jc 0 rfl
  exact H _ _ v seen post (d.trans i) f.tail G j
end
