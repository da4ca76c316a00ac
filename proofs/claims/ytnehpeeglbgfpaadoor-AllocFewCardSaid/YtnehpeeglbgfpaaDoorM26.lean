/- Parts. -/
import Derived.Test.YtnehpeeglbgfpaaDoorM25
set_option maxHeartbeats 4000000
namespace Go.Proofs.YtnehpeeglbgfpaaDoor.Hx
open Un Dm
theorem Om(h:Hp):∀op,1<=op->op<=23->∃s,s≠[]/\CS.K yT [.I (op:Nat)] h=some (.str s)
 |0,h,_=>by omega
 |1,_,_=>⟨_,by decide,rfl⟩
 |2,_,_=>⟨_,by decide,rfl⟩
 |3,_,_=>⟨_,by decide,rfl⟩
 |4,_,_=>⟨_,by decide,rfl⟩
 |5,_,_=>⟨_,by decide,rfl⟩
 |6,_,_=>⟨_,by decide,rfl⟩
 |7,_,_=>⟨_,by decide,rfl⟩
 |8,_,_=>⟨_,by decide,rfl⟩
 |9,_,_=>⟨_,by decide,rfl⟩
 |10,_,_=>⟨_,by decide,rfl⟩
 |11,_,_=>⟨_,by decide,rfl⟩
 |12,_,_=>⟨_,by decide,rfl⟩
 |13,_,_=>⟨_,by decide,rfl⟩
 |14,_,_=>⟨_,by decide,rfl⟩
 |15,_,_=>⟨_,by decide,rfl⟩
 |16,_,_=>⟨_,by decide,rfl⟩
 |17,_,_=>⟨_,by decide,rfl⟩
 |18,_,_=>⟨_,by decide,rfl⟩
 |19,_,_=>⟨_,by decide,rfl⟩
 |20,_,_=>⟨_,by decide,rfl⟩
 |21,_,_=>⟨_,by decide,rfl⟩
 |22,_,_=>⟨_,by decide,rfl⟩
 |23,_,_=>⟨_,by decide,rfl⟩
 |n+24,_,h=>by omega
theorem Vx{h:Hp}{X:Option (V×Hp)}{K:fu}(H:oP X λy=>K y.1 y.2):oP (gB true (.bool true)) λb=>Xz b h X K:=H
section
variable{F F':Nat->Prop}{h h':Hp}{cs:List Pc}{Q:fu}{u:U}{vv vb vs:V}{lc:Nat}{bl pl Ad:V}
theorem Q1{op:Nat}(a:1<=op)(b:op<=23)(H:∀s,s≠[]->Q (.str s) h):cP CS yT [.I op] h Q:=by
 let⟨fn,c,hf,hb⟩:=JR
 let⟨s,hs,hk⟩:=Om h op a b
 exact cP.known hf hb hk rfl rfl (H s hs)
theorem Kz{lv:Nat}{x:Vl}{w v:V}{ys:List Vl}(t:en F h (eE lv tj (qq x w)::cs))(j:iB eV F h ys v)(J:ys.length<1000000)(u:∀y∈ys,¬(y.op=1/\y.n=x.n))
  (H:∀h',Sn F h F h'->en F h' (eE lv tj (qq x w)::cs)->Q (.bool false) h'):cP CS gi [v,.func iJ [] [.ptr lv 0]] h Q:=by
 refine nH rfl rfl ?_;unfold jP;refine p7 rfl rfl ?_;unfold kr;refine ec j.len ?_
 refine nI (λk m p q r h'=>∃i,m=v/\p = .func iJ [] [.ptr lv 0]/\q = .I ys.length/\r = .I (i:Nat)/\i+k=ys.length/\Sn F h F h'/\en F h' (eE lv tj (qq x w)::cs)) ?_ (k:=ys.length)
  ⟨0,rfl,rfl,rfl,rfl,by omega,Sn.refl _ _,t⟩
 rintro k m p q r h' ⟨i,rfl,rfl,rfl,rfl,K,s1,s⟩;unfold jQ;by_cases hi:i<ys.length;rotate_left
 ·refine jZ ?_;refine ec (yd _ _ _ _) ?_;exact H h' s1 s
 refine ij ?_;obtain⟨l,o,c,_,z,A,⟨a,rfl,B⟩,_⟩:=(j.since s1).ix hi .i64;refine ec z (ec A ?_);show cP CS iJ [.agg (qq ys[i] a),.ptr lv 0] h' _;refine Bb rfl rfl ?_;unfold uu;refine su s (by simp only[qq,eR,B.one];rfl) λb d C=>?_;refine ec (by rfl) (ec (d.ld 0 rfl rfl) (ec (by rfl) ?_));have e:kH (.bool (((ys[i].op:Nat):Int) == 1)) (oB (fP 3 (.ptr h'.next 0)) λD=>oB (er D b) λE=>oB (fP 3 (.ptr lv 0)) λf=>oB (er f b) λg=>ej .eql 2 E g)=some (.bool false):=by
  have G:er (.ptr h'.next (0+3)) b=some (.I ys[i].n):=d.ld 0 rfl rfl;have l2:er (.ptr lv (0+3)) b=some (.I x.n):=d.ld 1 rfl rfl;simp only[fM,fg,G,l2,hD,jR];congr 2;rw[VI];intro I;simp[te,I8]at I;exact by grind
 refine ec e (jL (gJ (by simp) ?_));exact gv ⟨k-1,by omega,i+1,rfl,rfl,rfl,rfl,by omega,s1.trans C,d.tail⟩
theorem QD{lv:Nat}{x:Vl}{w:V}{D:V}(a:D = .ptr lc 0)(C:Ck F h (eE lv tj (qq x w)::cs) lc u vv vb vs bl pl Ad)(H:leaves x.op=true->x.state<u.ef.length)(hc:lv≠lc)(I:er (.ptr lv 5) h=some (.I x.state)){K:fu}(E:K (.bool false) h) :
  oP (gB true (.bool (leaves x.op))) λb=>
  oP (gV b (fP 5 (.ptr lv 0))) λc=>
  oP (gB true (.bool (leaves x.op))) λd=>
  oP (gV d (er c h)) λe=>
  oP (gB true (.bool (leaves x.op))) λf=>
  oP (gV f (some D)) λg=>
  oP (gB true (.bool (leaves x.op))) λi=>
  oP (gV i (hJ g)) λj=>
  oP (gB true (.bool (leaves x.op))) λk=>
  oP (gV k (fP 0 j)) λl=>
  oP (gB true (.bool (leaves x.op))) λm=>
  oP (gV m (fP 4 l)) λn=>
  oP (gB true (.bool (leaves x.op))) λo=>
  oP (gV o (er n h)) λp=>
  oP (gB true (.bool (leaves x.op))) λq=>
  oP (gV q (fJ p)) λr=>
  oP (gB true (.bool (leaves x.op))) λt=>
  oP (gC t (some (jo,[e,r]))) λv=>yv CS v h λy G=>
  (h.next<=G.next/\
  oP (gB true (.bool (leaves x.op))) λz=>
  oP (gV z (xF .not y)) λA=>
  oP (qe (.bool false) (rJ (.bool (leaves x.op)) A (V.bool false))) λB=>K B G):=by
 subst a
 cases hq:leaves x.op with
 | true=>
   have:=H hq;refine iV (ec (by rfl) (iV (ec I (iV (ec rfl (iV (ec (fc _ _) (iV (ec (by rfl) (iV (ec (by rfl) (iV (ec (C.ld 4 rfl) (iV (ec C.u.s.len (EG ?_))))))))))))))));refine vM ⟨je _,iV ?_⟩;rw[OH this]
   exact ec rfl (ec rfl E)
 |false=>exact mV (mV (mV (mV (mV (mV (mV (mV (PJ ⟨je _,mV (ec rfl E)⟩))))))))
theorem Uk(g:Good u)(C:Ck F h cs lc u vv vb vs bl pl Ad){xs ys:List Int}(q:iB eZ F h xs bl)(S:Std u u.blocks.length 0 xs ys){i:Nat}(hi:i<u.ee.length)(M:lc<h.next)
  (H:∀F' h',Sn F h F' h'->en F' h' cs->Q (.bool true) h'):cP CS jj [.ptr lc 0,.I i] h Q:=by
 refine CJ rfl rfl ?_;unfold rA;have nv:=g.nv;have nb:=g.nb;obtain⟨x,d⟩:∃x,u.ee[i]? =some x:=by simp_all
 let⟨b,k,hat⟩:=g.Cf i hi trivial
 let⟨B,hB,hk⟩:=id hat
 have l:=g.op i x d;have m:=g.use i x d;have r:B.fk.length<=700:=by
  rw[g.fk b B hB,<-nt];have:=mW g (j:=0) (b:=b) (je _) (by omega);omega
 have t:x.op=21\/x.op=20->x.args.length<=700:=by
  rintro(z|z)
  ·rw[(g.Rm _ _ _ _ _ hat d z hB).2];exact r
  ·rw[g.putAt i x d z];omega
 let⟨K,o1,w,_,N,O,iw,_⟩:=C.u.val d
 refine ec (fc _ _) (ec (by rfl) (ec (by rfl) (ec (C.ld 2 rfl) (ec N (ec O ?_)))));refine jH C.H rfl rfl (by simp only[qq,eR,iw.one];rfl) λh2 p A=>?_;have C2:=C.cons A p;have f:=iw.since A;refine ec (by rfl) (ec (p.ld 0 rfl rfl) ?_);refine Q1 l.1 l.2 λs P=>⟨je _,?_⟩
 refine ec (by rfl) ?_;rw[show(s == [])=false from VW.2 P];refine ig (ec rfl (ig (ec (p.HY 0 rfl rfl) (ye ?_))));refine Js p f (by omega) λF3 L v o a r3=>⟨o.next,?_⟩
 have C3:=C2.since o a;have c:=A.trans o;refine ye (CY C3 r3 (by grind[zI]) m ⟨je _,ec rfl ?_⟩);refine ig (ec (by rfl) (ig (ec (a.ld 0 rfl rfl) (ye ?_))));refine Ij ⟨je _,ig (ec rfl ?_)⟩;refine QD rfl C3 (g.leave i x d) (by omega) (a.ld 0 rfl rfl) ?_;refine jL (gJ (by simp) ?_);refine ec (by rfl) (ec (a.ld 0 rfl rfl) ?_);by_cases D:x.op=20
 ·refine gP (hV (by omega) ?_);refine ec (by rfl) (ec (a.ld 0 rfl rfl) (ec (f.since o).len (gj ?_)));rw[g.putAt i x d D];exact H _ _ c a.tail
 refine gP (gJ (by omega) ?_);by_cases E:x.op=21
 ·refine gP (hV (by omega) ?_)
  let⟨lb,ob,_,R,T⟩:=(q.since c).int ((S.yes i b k hat (by grind)).1) .i64
  let⟨l7,o7,bv,bn,bp,_,G,_,_,_,ip,ba⟩:=C3.u.vT hB
  refine ec (by rfl) (ec (a.ld 0 rfl rfl) (ec (f.since o).len ?_));refine ec (fc _ _) (ec (by rfl) (ec (by rfl) (ec (C3.ld 3 rfl) (ec (fc _ _) (ec (by rfl) (ec (C3.ld 5 rfl) (ec R (ec T (ec G ?_)))))))));refine ec (by rfl) (ec ba.fk (ec ip.len (gj ?_)));rw[(g.Rm _ _ _ _ _ hat d E hB).2,OH rfl];exact H _ _ c a.tail
 refine gP (gJ (by omega) ?_);by_cases U:x.op=1
 ·refine gP (hV (by omega) ?_)
  let⟨W,X,p3⟩:=g.param i x d U
  refine ec (by rfl) (ec (a.ld 0 rfl rfl) (ec (by rfl) ?_));have e:kH (.bool (decide ((0:Int)<=x.n))) (oB (fP 3 (.ptr h.next 0)) λI=>oB (er I L) λJ=>ej .lss 2 J (V.I 40))=some (.bool true):=by
   have K:er (.ptr h.next (0+3)) L=some (.I x.n):=a.ld 0 rfl rfl;simp[fM,fg,K,mU,jR];simp[W,X]
  refine ec e ?_
  let⟨vc,e1,r1⟩:=C3.u.v.cut (lo:=none) (hi:=some (.I i)) (n:=i) rfl (by rfl) (EL _) (by omega)
  rw[OK]at r1;refine iV (ec rfl (iV (ec (fc _ _) (iV (ec (by rfl) (iV (ec (by rfl) (iV (ec (C3.ld 2 rfl) (iV (ec rfl (iV (ec e1 (iV (ec rfl (EG ?_))))))))))))))));refine Kz a r1 (by grind) (λy hy hh=>?_) λh4 Y Z=>ec rfl (H _ _ (c.trans Y) Z.tail)
  grind[mq,jv,JN,TD]
 ·refine gP (gJ (by omega) ?_);exact H _ _ c a.tail
theorem Ry(g:Good u)(C:Ck F h cs lc u vv vb vs bl pl Ad){i:Nat}{B:Bk}(o:u.blocks[i]? =some B)(H:∀F' h',Sn F h F' h'->en F' h' cs->Q (.bool true) h'):cP CS kj [.ptr lc 0,.I i] h Q:=by
 refine B5 rfl rfl ?_;unfold vh;have c:=g.fin i B o
 let⟨l7,I,bv,bn,bp,_,x,y,iv,d,ip,_⟩:=C.u.vT o
 refine ec (fc _ _) (ec (by rfl) (ec (by rfl) (ec (C.ld 3 rfl) (ec x (ec y ?_)))));refine jH C.H rfl rfl (by simp only[kJ,eR,iv.one,d.one,ip.one];rfl) λz a e=>?_;have C2:=C.cons e a;have d:=d.since e;refine ec (by rfl) (ec (a.ld 0 rfl rfl) (ec d.len ?_));have A:B.next.length<=2:=by
  rcases c with⟨_,h⟩|⟨_,h,_⟩|⟨_,h,_⟩
  ·omega
  ·omega
  ·simp_all
 refine zp (λk p q f l m h'=>∃j,p = .ptr lc 0/\q = .ptr h.next 0/\f=bn/\l = .I B.next.length/\m = .I (j:Nat)/\j+k=B.next.length/\h' = z) ?_ (k:=B.next.length) (by simp_all);rintro k p q f l m h' ⟨j,rfl,rfl,rfl,rfl,rfl,J,rfl⟩;unfold se;by_cases hj:j<B.next.length
 ·refine ij ?_
  let⟨l8,K,_,D,E⟩:=d.nat (iQ hj) .i64
  have G:B.next[j]<u.blocks.length:=g.nx i _ (by grind[next,B9]);refine ec D (ec E (ec (fc _ _) (ec (by rfl) (ec (by rfl) (ec (C2.ld 3 rfl) (ec C2.u.b.len ?_))))));refine vM (yS (hV (by simp_all) ?_));exact gv ⟨k-1,by omega,j+1,rfl,rfl,rfl,rfl,rfl,by omega,rfl⟩
 refine jZ ?_;refine ec (by rfl) (ec (a.ld 0 rfl rfl) ?_);rcases c with⟨r,n⟩|⟨r,n,t⟩|⟨r,n,t⟩
 ·refine gP (hV (by omega) ?_);refine ec (by rfl) (ec (a.ld 0 rfl rfl) (ec d.len (gj ?_)));rw[n];exact H _ _ e a.tail
 ·refine gP (gJ (by omega) ?_);refine gP (hV (by omega) ?_);refine ec (by rfl) (ec (a.ld 0 rfl rfl) (ec d.len (gj ?_)));rw[n,show decide (((2:Nat):Int)=2)=true from rfl];refine iV (ec rfl (iV (ec (by rfl) (iV (ec (a.ld 0 rfl rfl) (Vx ?_))))));rw[CB,fg]
  let⟨v,w,r3⟩:=a.Pu fI rfl (sS F h' [B.cond]) false
  have C3:=C2.since w v;refine ec rfl (EG ?_);refine CY C3 r3 (by simp) (by simp_all) (ec rfl ?_);exact H _ _ (e.trans w) v.tail
 ·refine gP (gJ (by omega) ?_);refine gP (gJ (by omega) ?_);refine gP (hV (by omega) ?_);refine ec (by rfl) (ec (a.ld 0 rfl rfl) (ec d.len (gj ?_)));rw[n,show decide ((([]:List Nat).length:Int)=0)=true from rfl];refine iV (ec (by rfl) (iV (ec (a.ld 0 rfl rfl) (iV (ec rfl (iV (ec (fc _ _) (iV (ec (by rfl) (iV (ec (by rfl) (iV (ec (C2.ld 4 rfl) (iV (ec C2.u.s.len (EG ?_))))))))))))))));refine vM ⟨je _,?_⟩;rw[OH t];exact ec rfl (H _ _ e a.tail)
theorem TU(g:Good u)(C:Ck F h cs lc u vv vb vs bl pl Ad){i:Nat}{B:Bk}(A:u.blocks[i]? =some B)(H:∀F' h',Sn F h F' h'->en F' h' cs->Q (.bool true) h'):cP CS kR [.ptr lc 0,.I i] h Q:=by
 refine Dj rfl rfl ?_;unfold wS;have nb:=g.nb;have r2:∀n d,Sn F h n d->en n d cs->kV CS Q (.ptr lc 0) (.I i) d:=by
  intro n d s1 D;have C1:=C.since s1 D;refine Ap ?_;unfold tc
  let⟨l7,o7,bv,bn,bp,_,i1,i2,iv,o,ip,_⟩:=C1.u.vT A
  refine ec (fc _ _) (ec (by rfl) (ec (by rfl) (ec (C1.ld 3 rfl) (ec i1 (ec i2 ?_)))));refine jH C1.H rfl rfl (by simp only[kJ,eR,iv.one,o.one,ip.one];rfl) λE G I=>?_;have C2:=C1.cons I G;have o:=o.since I;refine ec (by rfl) (ec (G.ld 0 rfl rfl) (ec o.len ?_));have ac:B.next.length<=2:=by
   rcases g.fin i B A with⟨_,h⟩|⟨_,h,_⟩|⟨_,h,_⟩
   ·omega
   ·omega
   ·simp_all
  refine zL (λk p x7 q r s h'=>∃j,p = .ptr lc 0/\x7 = .ptr d.next 0/\q=bn/\r = .I B.next.length/\s = .I (j:Nat)/\j+k=B.next.length/\h' = E) ?_ (k:=B.next.length) (by simp_all);rintro k p x7 q r s h' ⟨j,rfl,rfl,rfl,rfl,rfl,hk,rfl⟩;unfold tI;by_cases hj:j<B.next.length;rotate_left
  ·exact jZ (H _ _ (s1.trans I) G.tail)
  refine ij ?_
  let⟨l8,o8,_,J,K⟩:=o.nat (iQ hj) .i64
  have t:B.next[j]∈next u i:=by unfold next;rw[A];exact B9 hj
  have ae:=g.nx i _ t;obtain⟨l,a⟩:∃l,u.blocks[B.next[j]]? =some l:=by simp_all
  let⟨l9,o9,bv',bn',bp',_,f,_,_,_,ip',ba'⟩:=C2.u.vT a
  refine ec J (ec K (ec (by rfl) (ec (G.ld 0 rfl rfl) (ec (by rfl) ?_))));have e:kH (.bool (((B.fin:Nat):Int) == 2)) (oB (some (V.ptr lc 0)) λL=>oB (hJ L) λM=>oB (fP 0 M) λN=>oB (fP 3 N) λO=>oB (er O h') λP=>oB (some (V.I (B.next[j]:Nat))) λR=>oB (gM 6 P R) λS=>oB (fP 4 S) λT=>oB (er T h') λU=>oB (fJ U) λW=>ej .neq 3 W (V.I 1))=some (.bool false):=by
   have l1:=C2.ld 3 rfl;have l2:=ba'.fk;simp only[fg,fc,fM,l1,f,l2,ip'.len,Kq,jR];congr 2;rw[VI];intro m;simp[te,I8,bne_iff_ne]at m;have d:=g.Ke i B A (by omega) (B.next[j]) (B9 hj);rw[g.fk _ _ a,d]at m;exact m.2 rfl
  refine ec e (jL (gJ (by simp) ?_));exact gv ⟨k-1,by omega,j+1,rfl,rfl,rfl,rfl,rfl,by omega,rfl⟩
 by_cases hi:i=0;rotate_left
 ·exact gP (gJ (by omega) (r2 F h (Sn.refl _ _) C.H))
 refine gP (hV (by omega) ?_);have lA:hH 5 (.ptr lc 0) h=some (.agg (uC u vv vb vs)):=by
  let⟨j,ty,hc⟩:=C.c
  rw[Di (C.H.get j hc),Cd (by simp)];rfl
 refine ec (fc _ _) (ec (by rfl) (ec lA ?_));refine J3 g C.H C.u λn d v s1 D r1=>?_;have lr:=r1.len;rw[List.length_map,VB]at lr;refine ec lr ?_;have C1:=C.since s1 D;refine As (λk p x1 w y z h'=>∃j,p = .ptr lc 0/\x1 = .I i/\w=v/\y = .I u.blocks.length/\z = .I (j:Nat)/\j+k=u.blocks.length/\h' = d) ?_ (k:=u.blocks.length) (by simp_all);rintro k p x1 w y z h' ⟨j,rfl,rfl,rfl,rfl,rfl,hk,rfl⟩;unfold tN;by_cases hj:j<u.blocks.length;rotate_left
 ·exact jZ (r2 n h' s1 D)
 refine ij ?_;obtain⟨l,a⟩:∃l,u.blocks[j]? =some l:=by simp_all
 let⟨l8,o8,w8,_,J,K,j3⟩:=r1.list (i:=j) (x:=Un.ahead u j) (by simp[hj]) .i64
 let⟨l9,o9,bv',bn',bp',_,f,_,_,_,ip',ba'⟩:=C1.u.vT a
 have ag:(Un.ahead u j).length<=700:=by
  rw[<-nt];have:=mW g (j:=0) (b:=j) (je _) (by omega);omega
 rw [g.fk j l a]at ip';refine ec J (ec K (ec (fc _ _) (ec (by rfl) (ec (by rfl) (ec (C1.ld 3 rfl) (ec f (ec (by rfl) (ec ba'.fk ?_))))))));refine OQ j3 ip' (by omega) (ec rfl ?_);have e:qe (.bool (!true)) (oB (some (V.I j)) λX=>oB (ej .eql 3 X (V.I 0)) λY=>oB (some Y) λZ=>kH Z (oB (some w8) λaa=>oB (fJ aa) λab=>ej .gtr 3 ab (V.I 0)))=some (.bool false):=by
  simp only[Uf,qd,fg,hD,j3.len,ml,jR];congr 2;rw[VI];intro m;simp[te,I8,MR]at m
  let⟨d,E⟩:=m
  obtain rfl:j=0:=by omega
  rw[g.IY]at E;simp at E
 refine ec e (jL (gJ (by simp) ?_));exact gv ⟨k-1,by omega,j+1,rfl,rfl,rfl,rfl,rfl,by omega,rfl⟩
end
open Un Dm
section
variable{F F':Nat->Prop}{h h':Hp}{cs:List Pc}{Q:fu}{u:U}{vv vb vs:V}
theorem en.YD{α:Type}{E:sO α}{ty:Nat}{xs:List α}{v:V}(H:en F h cs)(i:Nat)(hi:cs[i]? =some (ft E ty xs v)){k j:Nat}{y:α}{a:V}(c:k<xs.length)(d:j<E.sz)(e:a.one=true)(f:∀w,E.rel F h xs[k] w->E.rel F h y (w.set j a)) :
  ∃l h',gM E.sz v (.I k)=some (.ptr l (k*E.sz))/\gU 1 (.ptr l (k*E.sz+j)) a h=some (.val .undef h')/\h.next<=h'.next/\en F h' (cs.set i (ft E ty (xs.set k y) v))/\Sn F h F h':=by
 let⟨t,h',o,g,m,n,b⟩:=(H.row i hi).store c d e f
 exact⟨t,h',g,m,b.next,H.BE hi b n λ_ h=> .inl h⟩
theorem en.RV{ty:Nat}{xs:List Nat}{v:V}(H:en F h cs)(i:Nat)(hi:cs[i]? =some (ft eN ty xs v)){k x:Nat}(b:xs[k]? =some x)(a:IntKind):∃l o,gM 1 v (.int a (k:Nat))=some (.ptr l o)/\er (.ptr l o) h=some (.I x):=by
 let⟨l,o,_,c,d⟩:=(H.row i hi).read.nat b a
 grind
theorem en.Cg{ty:Nat}{xs:List Int}{v:V}(H:en F h cs)(i:Nat)(hi:cs[i]? =some (ft eZ ty xs v)){k:Nat}{x:Int}(b:xs[k]? =some x)(a:IntKind):∃l o,gM 1 v (.int a (k:Nat))=some (.ptr l o)/\er (.ptr l o) h=some (.I x):=by
 let⟨l,o,_,c,d⟩:=(H.row i hi).read.int b a
 grind
theorem en.E0{ty:Nat}{xs:List Bool}{v:V}(H:en F h cs)(i:Nat)(hi:cs[i]? =some (ft eB ty xs v)){k:Nat}{x:Bool}(b:xs[k]? =some x)(a:IntKind):∃l o,gM 1 v (.int a (k:Nat))=some (.ptr l o)/\er (.ptr l o) h=some (.bool x):=by
 let⟨l,o,_,c,d⟩:=(H.row i hi).read.bool b a
 grind
theorem LO{ty:Nat}{xs:List Nat}{v:V}(f:en F h (ft eN ty xs v::cs))(h0:0<xs.length)(J:xs.length<1000000)(H:∀h',Sn F h F h'->en F h' (ft eN ty xs.reverse v::cs)->Q (.tuple []) h') :
  cP CS jI [v] h Q:=by
 refine xx rfl rfl ?_;unfold oW;refine ec (f.len 0 rfl) (sL (by omega) h0 ?_)
 refine uR (λk g j l h'=>∃i ys,g=v/\j = .I (i:Nat)/\l = .I ((xs.length-1-i:Nat):Int)/\i+k=xs.length/\2*i<=xs.length/\ys.length=xs.length/\
  (∀p,p<xs.length->ys[p]? =if p<i\/xs.length-i<=p then xs[xs.length-1-p]? else xs[p]?)/\Sn F h F h'/\en F h' (ft eN ty ys v::cs)) ?_ (k:=xs.length)
  ⟨0,xs,rfl,rfl,by rw[Nat.sub_zero],by omega,by omega,rfl,by grind,Sn.refl _ _,f⟩
 rintro k g j l K ⟨i,ys,rfl,rfl,rfl,L,q,r,m,s1,c⟩;unfold mJ;by_cases hij:i<xs.length-1-i
 ·refine ij ?_;obtain⟨a,n⟩:∃a,ys[i]? =some a:=by grind
  obtain⟨b,o⟩:∃b,ys[xs.length-1-i]? =some b:=by grind
  let⟨M,o1,s,t⟩:=c.RV 0 rfl o .i64
  let⟨l2,o2,u,w⟩:=c.RV 0 rfl n .i64
  refine ec s (ec t (ec u (ec w ?_)));obtain⟨l3,N,O,e1,e2,x,y,z⟩:=c.zm 0 rfl (k:=i) (by omega) rfl rfl rfl;refine ec e1 ?_;rw[e2,eh];obtain⟨l4,P,R,A,B,C,D,E⟩:=y.zm 0 rfl (k:=xs.length-1-i) (by simp;omega) rfl rfl rfl;refine⟨x,ec A ?_⟩;rw[B,eh];refine⟨C,gv (sL (by omega) (by omega) ?_)⟩;refine⟨k-1,by omega,i+1,(ys.set i b).set (xs.length-1-i) a,rfl,rfl,by rfl,by omega,by omega,by simp[r],λp d=>?_,(s1.trans z).trans E,D⟩;have G:=m i (by omega);rw[ n]at G;have I:=m (xs.length-1-i) (by omega);rw[if_neg (by omega),o]at I;by_cases e1:p=xs.length-1-i
  ·grind
  ·rw[GI (by omega)];by_cases e2:p=i
   ·simp_all
   grind
 ·refine jZ ?_;have e:ys=xs.reverse:=by
   refine UN λp=>?_;by_cases d:p<xs.length
   ·grind
   ·simp_all
  simp_all
theorem P2{α:Type}(s:List α)(x y:α):(s++[x]).set s.length y=s++[y]:=by simp
structure U8 (u:U):Prop where
 Mn:1<=u.blocks.length
 nb:u.blocks.length<=300
 nx:∀b,∀t∈next u b,t<u.blocks.length
 two:∀(b:Nat) B,u.blocks[b]? =some B->B.next.length<=2
theorem NC(g:Good u):U8 u:=⟨g.Mn,g.nb,g.nx,λb B a=>by
 rcases g.fin b B a with⟨_,h⟩|⟨_,h,_⟩|⟨_,h,_⟩
 ·omega
 ·omega
 simp_all⟩
theorem iB.vT{bs:List Bk}(a:iB eK F h bs vb){i:Nat}{x:Bk}(c:bs[i]? =some x) :
  ∃l o v n p,F l/\gM 6 vb (.I i)=some (.ptr l o)/\hH 6 (.ptr l o) h=some (.agg (kJ x v n p))/\iB eN F h x.ee v/\iB eN F h x.next n/\iB eN F h x.fk p/\VO h l o x v n p:=by
 obtain⟨hi,rfl⟩:=jv.1 c;obtain⟨l,o,w,d,e,f,⟨v,n,p,rfl,g,j,k⟩,b⟩:=a.ix hi .i64;exact⟨l,o,v,n,p,d,e,f,g,j,k,⟨b 0 _ rfl,b 1 _ rfl,b 2 _ rfl,b 3 _ rfl,b 4 _ rfl,b 5 _ rfl⟩⟩
theorem N9(g:U8 u)(H0:en F h cs)(ho:fZ (uC u vv vb vs)=true)(T:iB eK F h u.blocks vb)(H:∀h' v seen post,Sn F h F h'->en F h' (ft eN fI post.reverse v::cs)->DP u.blocks.length (next u) seen post []->Q v h') :
  cP CS lV [.agg (uC u vv vb vs)] h Q:=by
 refine K6 rfl rfl ?_;unfold EJ;have nb:=g.nb;have Mn:=g.Mn;have o:∀b,b<u.blocks.length->∀t∈next u b,t<u.blocks.length:=λb _ t r=>g.nx b t r
 refine su H0 ho λO H1 s1=>?_;refine ec (by rfl) (ec (H1.ld 0 rfl rfl) (ec (T.since s1).len ?_));rw[jY rfl (by decide) (by omega),fF];obtain⟨H2,s2⟩:=H1.make (E:=eB) u.blocks.length rfl rfl;have z:=s1.trans s2;refine ec (by rfl) (ec (H2.ld 1 rfl rfl) (ec (T.since z).len ?_));refine Ky (hV (by omega) ?_);refine ec (by rfl) ?_;generalize O.new (.cells fo 1 true false (List.replicate u.blocks.length (V.bool false)))=h2 at*;have A:∀a b,jm wD 2 1 (V.agg [(V.I 0),(V.I 0)]) [(0,V.agg [.I (a:Nat),.I (b:Nat)])]=some (.cells wD 2 true false [.I (a:Nat),.I (b:Nat)],λl=> .slice l 0 1):=λa b=>by rfl
 have U:jm wD 2 1 (V.agg [(V.I 0),(V.I 0)]) [(0,V.agg [.I 0,.I 0])]=some (.cells wD 2 true false [.I ((0:Nat):Int),.I ((0:Nat):Int)],λl=> .slice l 0 1):=A 0 0;rw[U,fF]
 have H3:=
  (H2.add (p:=ft eN fI [] .ed) .nil λ_ h=>h).add (p:=ft eW wD [] .ed) .nil λ_ h=>h
 obtain⟨v4,h4,e4,n4,H4,s4⟩:=H3.En 0 rfl (lD:=16) (y:=(0,0)) rfl (by decide) (by decide) (by simp);have W:fh 83 2 16 V.ed (.slice h2.next 0 1) (h2.new (.cells wD 2 true false [.I ((0:Nat):Int),.I ((0:Nat):Int)]))=some (.val v4 h4):=e4;rw[W,eh];simp[ Lg]at H4;obtain⟨l5,o5,h5,e5,e6,n5,H5,s5⟩:=H4.zm 2 rfl (k:=0) (by simp;omega) rfl rfl rfl;refine ec e5 ?_;rw[e6,eh];simp[ pP]at H5;refine GR ?_;unfold zT;have X:=(z.trans s4).trans s5
 refine G3 (λk x1 x3 Y C h'=>∃seen post stack,x1 = .ptr h.next 0/\x3 = .slice O.next 0 u.blocks.length/\k=mu u.blocks.length (next u) seen stack/\DP u.blocks.length (next u) seen post stack/\Sn F h F h'/\
  en F h' (ft eW wD stack C::ft eN fI post Y::ft eB fo seen (.slice O.next 0 u.blocks.length)::eE h.next 29 (uC u vv vb vs)::cs)) ?_
  ⟨_,[],[(0,0)],rfl,rfl,rfl,DP.start (by omega) o,X,H5⟩
 rintro k x1 x3 Y C Z ⟨seen,post,stack,rfl,rfl,hk,G,D,d⟩;unfold AG;have aa:=G.nodup;have ax:=vx _ _ (by grind) G.pre;have ay:stack.length<=u.blocks.length:=by
  have:=vx u.blocks.length _ (List.nodup_append.1 aa).2.1 λx hx=>by
   obtain⟨y,hy,rfl⟩:=OF.1 hx;exact(G.range y hy).1
  simpa using this
 refine ec (d.len 0 rfl) ?_;rcases gO stack with rfl|⟨s,⟨b,i⟩,rfl⟩
 ·refine Ky (gJ (by simp) ?_);have ab:0<post.length:=by
   let⟨p,hp⟩:=G.last rfl
   rw[hp];simp
  refine LO d.tail ab (by omega) λh7 P e=>?_;exact H _ _ seen post (D.trans P) e.uf.uf G
 refine Ky (hV (by simp_all) ?_);have hlen:(s++[(b,i)]).length-1=s.length:=by simp
 have f:s.length<(s++[(b,i)]).length:=by simp
 have I:(s++[(b,i)])[s.length]'f=(b,i):=by simp
 let⟨hbn,hin⟩:=G.range (b,i) (by simp)
 obtain⟨B,hB⟩:∃B,u.blocks[b]? =some B:=by simp_all
 have J:next u b=B.next:=by unfold next;rw[hB]
 simp [J]at hin;refine ec (d.len 0 rfl) (sL (by omega) (by simp) ?_);rw[hlen];obtain⟨l7,h7,R,e8,n7,e,P⟩:=d.YD 0 rfl (j:=1) (y:=(b,i+1)) f (by decide) rfl (λw S=>by
  rw[I]at S;have S:=S;subst S;rfl)
 have R:gM 2 C (.I s.length)=some (.ptr l7 (s.length*2)):=R
 let⟨l8,o8,w8,i1,i2,i3,i4⟩:=d.ix 0 rfl f .i64
 rw [I]at i3;obtain rfl:w8=[.I b,.I i]:=i3;have i1:gM 2 C (.I s.length)=some (.ptr l8 o8):=i1;rw[R]at i1;obtain⟨rfl,rfl⟩:l7=l8/\s.length*2=o8:=by
  simp_all
 have ib:=i4 0 _ rfl;have ii:=i4 1 _ rfl
 let⟨lb,ob,bv,bn,bp,_,b1,b2,iv,iN,ip,ba⟩:=(T.since D).vT hB
 refine ec R (ec (by rfl) (ec (d.ld 3 rfl rfl) (ec (fc _ _) (ec (by rfl) (ec ib (ec b1 (ec (by rfl) (ec ba.next ?_))))))));refine ec (fc _ _) (ec (by rfl) (ec ii (ec iN.len ?_)));by_cases hi:i=B.next.length
 ·refine gP (hV (by omega) ?_);refine ec (fc _ _) (ec (by rfl) (ec ib ?_));rw[CB,fF];obtain⟨v9,h9,e9,n9,H9,s9⟩:=d.En 1 rfl (lD:=8) rfl (by decide) (by decide) (by omega);have ac:fh 3 1 8 Y (.slice Z.next 0 1) (Z.new (.cells 3 1 true false (lF [b])))=some (.val v9 h9):=e9;rw[ac,eh];refine ec (H9.len 0 rfl) (sL (by omega) (by simp) ?_);rw[hlen]
  let⟨az,m,c⟩:=H9.TN 0 rfl (n:=s.length) (by simp)
  refine ec m ?_;have et:(s++[(b,i)]).take s.length=s:=by simp
  rw[et]at c;exact⟨_,by grind[Ur],seen,post++[b],s,rfl,rfl,rfl,G.pop (by simp_all),D.trans s9,c⟩
 refine gP (gJ (by omega) ?_);have ae:i<B.next.length:=by omega
 have aA:=g.two b B hB;have r:(next u b)[i]? =some B.next[i]:=by rw[J];exact by simp_all
 have ag:B.next[i]<u.blocks.length:=by grind[B9]
 let⟨l9,o9,_,j1,j2⟩:=iN.nat (iQ ae) .i64
 refine ec (fc _ _) (ec (by rfl) (ec ii (ec j1 (ec j2 ?_))));refine ec (fc _ _) (ec (by rfl) (ec ii (gv ?_)));refine ec (fc _ _) (ec (by rfl) ?_);have e8:gU 1 (.ptr l7 (s.length*2+1)) (.I ((i+1:Nat):Int)) Z=some (.val .undef h7):=e8;rw[e8,eh];simp[pP,P2]at e;have ah:=G.len;have K:=e.len 2 rfl;rw[ah]at K;refine ec K (vM ?_);rw[OH ag];obtain⟨q,hq⟩:∃q,seen[B.next[i]]? =some q:=by simp_all
 let⟨lq,oq,q1,q2⟩:=e.E0 2 rfl hq .i64
 have ea:kH (.bool true) (oB (some (V.slice O.next 0 u.blocks.length)) λai=>oB (some (V.I (B.next[i]:Nat))) λaj=>oB (gM 1 ai aj) λak=>oB (er ak h7) λal=>xF .not al)=some (.bool (!q)):=by
  simp[DM,fg,q1,q2,RL]
 refine ec ea (jL ?_)
 cases q with
 | true=>
   refine gJ (by simp) ?_
   exact⟨_,by grind[Sw],seen,post,s++[(b,i+1)],rfl,rfl,rfl,G.skip r hq,D.trans P,e⟩
 | false=>
   refine hV rfl ?_;have L:¬ny seen B.next[i]:=by unfold ny;rw[hq];simp
   obtain⟨M5,aB,M,m,am,aC,c,an⟩:=e.zm 2 rfl (k:=B.next[i]) (by omega) rfl rfl rfl;refine ec m ?_;rw[am,eh];refine ec (show _=some (V.agg [.I (B.next[i]:Nat),.I ((0:Nat):Int)]) from rfl) ?_;rw[A,fF];obtain⟨ao,aq,ar,aD,au,aw⟩:=c.En 0 rfl (lD:=16) (y:=(B.next[i],0)) rfl (by decide) (by decide) (by simp;omega);have N:fh 83 2 16 C (.slice M.next 0 1) (M.new (.cells wD 2 true false [.I (B.next[i]:Nat),.I ((0:Nat):Int)]))=some (.val ao aq):=ar;rw[N,eh];exact⟨_,by rw[hk];exact Ra G r L,_,post,s++[(b,i+1)]++[(B.next[i],0)],rfl,rfl,rfl,G.push r L,((D.trans P).trans an).trans aw,au⟩
theorem CE(g:Good u)(c:en F h cs)(a:zr F h u vv vb vs)(H:∀F' h' v seen post,Sn F h F' h'->en F' h' cs->DP u.blocks.length (next u) seen post []->iB eN F' h' post.reverse v->Q v h') :
  cP CS lV [.agg (uC u vv vb vs)] h Q:=
 N9 (NC g) c a.one a.b λh' v seen post s1 d G=>by
  let⟨e,f,r2⟩:=d.mO 0 rfl
  exact H _ _ v seen post (s1.trans f) e.tail G r2
end
