/- Parts. -/
import Derived.Test.YtnehpeeglbgfpaaDoorM25
set_option maxHeartbeats 4000000
namespace Go.Proofs.YtnehpeeglbgfpaaDoor.Hx
open Un Dm
theorem O3(h:Hp):∀op,1<=op->op<=23->∃s,s≠[]/\CS.K z9 [.I (op:Nat)] h=some (.str s)
 |0,h,_=>by omega
 |1,_,_=>⟨_,by decide,rfl⟩
 |2,_,_=>⟨_,by decide,rfl⟩
 |3,_,_=>⟨_,by decide,rfl⟩
 |4,_,_=>⟨_,by decide,rfl⟩
 |5,_,_=>⟨_,by decide,rfl⟩
 |6,_,_=>⟨_,by decide,rfl⟩
 |7,_,_=>⟨_,by decide,rfl⟩
 |8,_,_=>⟨_,by decide,rfl⟩
 |9,_,_=>⟨_,by decide,rfl⟩
 |10,_,_=>⟨_,by decide,rfl⟩
 |11,_,_=>⟨_,by decide,rfl⟩
 |12,_,_=>⟨_,by decide,rfl⟩
 |13,_,_=>⟨_,by decide,rfl⟩
 |14,_,_=>⟨_,by decide,rfl⟩
 |15,_,_=>⟨_,by decide,rfl⟩
 |16,_,_=>⟨_,by decide,rfl⟩
 |17,_,_=>⟨_,by decide,rfl⟩
 |18,_,_=>⟨_,by decide,rfl⟩
 |19,_,_=>⟨_,by decide,rfl⟩
 |20,_,_=>⟨_,by decide,rfl⟩
 |21,_,_=>⟨_,by decide,rfl⟩
 |22,_,_=>⟨_,by decide,rfl⟩
 |23,_,_=>⟨_,by decide,rfl⟩
 |n+24,_,h=>by omega
theorem WX{h:Hp}{X:Option (V×Hp)}{K:fm}(H:oP X λy=>K y.1 y.2):oP (gg true (.bool true)) λb=>ZW b h X K:=H
section
variable{F F':Nat->Prop}{h h':Hp}{cs:List Pc}{Q:fm}{u:U}{vv vb vs:V}{lc:Nat}{bl pl AZ:V}
theorem SP{op:Nat}(a:1<=op)(b:op<=23)(H:∀s,s≠[]->Q (.str s) h):cP CS z9 [.I op] h Q:=by
 let⟨fn,c,hf,hb⟩:=Ls
 let⟨s,hs,hk⟩:=O3 h op a b
 exact cP.known hf hb hk rfl rfl (H s hs)
theorem Lp{lv:Nat}{x:Vl}{w v:V}{ys:List Vl}(t:er F h (ey lv uf (qT x w)::cs))(j:iL eV F h ys v)(J:ys.length<1000000)(u:∀y∈ys,¬(y.op=1/\y.n=x.n))
  (H:∀h',Sn F h F h'->er F h' (ey lv uf (qT x w)::cs)->Q (.bool false) h'):cP CS gz [v,.func iY [] [.ptr lv 0]] h Q:=by
 refine oA rfl rfl ?_;unfold kE;refine qC rfl rfl ?_;unfold ll;refine ec j.len ?_
 refine oC (λk m p q r h'=>∃i,m=v/\p = .func iY [] [.ptr lv 0]/\q = .I ys.length/\r = .I (i:Nat)/\i+k=ys.length/\Sn F h F h'/\er F h' (ey lv uf (qT x w)::cs)) ?_ (k:=ys.length)
  ⟨0,rfl,rfl,rfl,rfl,by omega,Sn.refl _ _,t⟩
 rintro k m p q r h' ⟨i,rfl,rfl,rfl,rfl,K,s1,s⟩;unfold ku;by_cases hi:i<ys.length;rotate_left
 ·refine jG ?_;refine ec (nU _ _ _ _) ?_;exact H h' s1 s
 refine hV ?_;obtain⟨l,o,c,_,z,A,⟨a,rfl,B⟩,_⟩:=(j.since s1).ix hi .i64;refine ec z (ec A ?_);show cP CS iY [.agg (qT ys[i] a),.ptr lv 0] h' _;refine Cm rfl rfl ?_;unfold vn;refine qx s (by simp only[qT,fc,B.one];rfl) λb d C=>?_;refine ec (by rfl) (ec (d.ld 0 rfl rfl) (ec (by rfl) ?_));have e:jq (.bool (((ys[i].op:Nat):Int) == 1)) (oB (fI 3 (.ptr h'.next 0)) λD=>oB (en D b) λE=>oB (fI 3 (.ptr lv 0)) λf=>oB (en f b) λg=>ef .eql 2 E g)=some (.bool false):=by
  have G:en (.ptr h'.next (0+3)) b=some (.I ys[i].n):=d.ld 0 rfl rfl;have l2:en (.ptr lv (0+3)) b=some (.I x.n):=d.ld 1 rfl rfl;simp only[fH,eQ,G,l2,ig,ir];congr 2;rw[Xh];intro I;simp[qU,Jg]at I;exact by grind
 refine ec e (je (gB (by simp) ?_));exact gq ⟨k-1,by omega,i+1,rfl,rfl,rfl,rfl,by omega,s1.trans C,d.tail⟩
theorem RS{lv:Nat}{x:Vl}{w:V}{D:V}(a:D = .ptr lc 0)(C:Ck F h (ey lv uf (qT x w)::cs) lc u vv vb vs bl pl AZ)(H:leaves x.op=true->x.state<u.eh.length)(hc:lv≠lc)(I:en (.ptr lv 5) h=some (.I x.state)){K:fm}(E:K (.bool false) h) :
  oP (gg true (.bool (leaves x.op))) λb=>
  oP (gV b (fI 5 (.ptr lv 0))) λc=>
  oP (gg true (.bool (leaves x.op))) λd=>
  oP (gV d (en c h)) λe=>
  oP (gg true (.bool (leaves x.op))) λf=>
  oP (gV f (some D)) λg=>
  oP (gg true (.bool (leaves x.op))) λi=>
  oP (gV i (iu g)) λj=>
  oP (gg true (.bool (leaves x.op))) λk=>
  oP (gV k (fI 0 j)) λl=>
  oP (gg true (.bool (leaves x.op))) λm=>
  oP (gV m (fI 4 l)) λn=>
  oP (gg true (.bool (leaves x.op))) λo=>
  oP (gV o (en n h)) λp=>
  oP (gg true (.bool (leaves x.op))) λq=>
  oP (gV q (fF p)) λr=>
  oP (gg true (.bool (leaves x.op))) λt=>
  oP (gC t (some (jH,[e,r]))) λv=>xa CS v h λy G=>
  (h.next<=G.next/\
  oP (gg true (.bool (leaves x.op))) λz=>
  oP (gV z (tk .not y)) λA=>
  oP (mh (.bool false) (ma (.bool (leaves x.op)) A (V.bool false))) λB=>K B G):=by
 subst a
 cases hq:leaves x.op with
 | true=>
   have:=H hq;refine jl (ec (by rfl) (jl (ec I (jl (ec rfl (jl (ec (fj _ _) (jl (ec (by rfl) (jl (ec (by rfl) (jl (ec (C.ld 4 rfl) (jl (ec C.u.s.len (Hj ?_))))))))))))))));refine wi ⟨jn _,jl ?_⟩;rw[Qy this]
   exact ec rfl (ec rfl E)
 |false=>exact nR (nR (nR (nR (nR (nR (nR (nR (Rz ⟨jn _,nR (ec rfl E)⟩))))))))
theorem Wb(g:Good u)(C:Ck F h cs lc u vv vb vs bl pl AZ){xs ys:List Int}(q:iL eZ F h xs bl)(S:Std u u.blocks.length 0 xs ys){i:Nat}(hi:i<u.ee.length)(M:lc<h.next)
  (H:∀F' h',Sn F h F' h'->er F' h' cs->Q (.bool true) h'):cP CS jD [.ptr lc 0,.I i] h Q:=by
 refine DS rfl rfl ?_;unfold qY;have nv:=g.nv;have nb:=g.nb;obtain⟨x,d⟩:∃x,u.ee[i]? =some x:=by simp_all
 let⟨b,k,hat⟩:=g.DB i hi trivial
 let⟨B,hB,hk⟩:=id hat
 have l:=g.op i x d;have m:=g.use i x d;have r:B.ft.length<=700:=by
  rw[g.ft b B hB,<-nP];have:=od g (j:=0) (b:=b) (jn _) (by omega);omega
 have t:x.op=21\/x.op=20->x.args.length<=700:=by
  rintro(z|z)
  ·rw[(g.T3 _ _ _ _ _ hat d z hB).2];exact r
  ·rw[g.putAt i x d z];omega
 let⟨K,o1,w,_,N,O,iw,_⟩:=C.u.val d
 refine ec (fj _ _) (ec (by rfl) (ec (by rfl) (ec (C.ld 2 rfl) (ec N (ec O ?_)))));refine jy C.H rfl rfl (by simp only[qT,fc,iw.one];rfl) λY p A=>?_;have C2:=C.cons A p;have f:=iw.since A;refine ec (by rfl) (ec (p.ld 0 rfl rfl) ?_);refine SP l.1 l.2 λs P=>⟨jn _,?_⟩
 refine ec (by rfl) ?_;rw[show(s == [])=false from W5.2 P];refine gM (ec rfl (gM (ec (p.CI 0 rfl rfl) (tN ?_))));refine Kl p f (by omega) λZ L v o a r3=>⟨o.next,?_⟩
 have C3:=C2.since o a;have c:=A.trans o;refine tN (Ei C3 r3 (by grind[AR]) m ⟨jn _,ec rfl ?_⟩);refine gM (ec (by rfl) (gM (ec (a.ld 0 rfl rfl) (tN ?_))));refine JZ ⟨jn _,gM (ec rfl ?_)⟩;refine RS rfl C3 (g.leave i x d) (by omega) (a.ld 0 rfl rfl) ?_;refine je (gB (by simp) ?_);refine ec (by rfl) (ec (a.ld 0 rfl rfl) ?_);by_cases D:x.op=20
 ·refine hH (gU (by omega) ?_);refine ec (by rfl) (ec (a.ld 0 rfl rfl) (ec (f.since o).len (gG ?_)));rw[g.putAt i x d D];exact H _ _ c a.tail
 refine hH (gB (by omega) ?_);by_cases E:x.op=21
 ·refine hH (gU (by omega) ?_)
  let⟨lb,ob,_,R,T⟩:=(q.since c).int ((S.yes i b k hat (by grind)).1) .i64
  let⟨l7,o7,bv,bn,bp,_,G,_,_,_,ip,ba⟩:=C3.u.wh hB
  refine ec (by rfl) (ec (a.ld 0 rfl rfl) (ec (f.since o).len ?_));refine ec (fj _ _) (ec (by rfl) (ec (by rfl) (ec (C3.ld 3 rfl) (ec (fj _ _) (ec (by rfl) (ec (C3.ld 5 rfl) (ec R (ec T (ec G ?_)))))))));refine ec (by rfl) (ec ba.ft (ec ip.len (gG ?_)));rw[(g.T3 _ _ _ _ _ hat d E hB).2,Qy rfl];exact H _ _ c a.tail
 refine hH (gB (by omega) ?_);by_cases U:x.op=1
 ·refine hH (gU (by omega) ?_)
  let⟨p1,p2,p3⟩:=g.param i x d U
  refine ec (by rfl) (ec (a.ld 0 rfl rfl) (ec (by rfl) ?_));have e:jq (.bool (decide ((0:Int)<=x.n))) (oB (fI 3 (.ptr h.next 0)) λI=>oB (en I L) λJ=>ef .lss 2 J (V.I 40))=some (.bool true):=by
   have K:en (.ptr h.next (0+3)) L=some (.I x.n):=a.ld 0 rfl rfl;simp[fH,eQ,K,jo,ir];simp[p1,p2]
  refine ec e ?_
  let⟨vc,e1,r1⟩:=C3.u.v.cut (lo:=none) (hi:=some (.I i)) (n:=i) rfl (by rfl) (GM _) (by omega)
  rw[SE]at r1;refine jl (ec rfl (jl (ec (fj _ _) (jl (ec (by rfl) (jl (ec (by rfl) (jl (ec (C3.ld 2 rfl) (jl (ec rfl (jl (ec e1 (jl (ec rfl (Hj ?_))))))))))))))));refine Lp a r1 (by grind) (λy hy hh=>?_) λh4 W X=>ec rfl (H _ _ (c.trans W) X.tail)
  grind[mM,jw,MI,Vo]
 ·refine hH (gB (by omega) ?_);exact H _ _ c a.tail
theorem TB(g:Good u)(C:Ck F h cs lc u vv vb vs bl pl AZ){i:Nat}{B:Bk}(o:u.blocks[i]? =some B)(H:∀F' h',Sn F h F' h'->er F' h' cs->Q (.bool true) h'):cP CS lg [.ptr lc 0,.I i] h Q:=by
 refine C8 rfl rfl ?_;unfold wI;have c:=g.fin i B o
 let⟨l7,I,bv,bn,bp,_,x,y,iv,d,ip,_⟩:=C.u.wh o
 refine ec (fj _ _) (ec (by rfl) (ec (by rfl) (ec (C.ld 3 rfl) (ec x (ec y ?_)))));refine jy C.H rfl rfl (by simp only[lC,fc,iv.one,d.one,ip.one];rfl) λz a e=>?_;have C2:=C.cons e a;have d:=d.since e;refine ec (by rfl) (ec (a.ld 0 rfl rfl) (ec d.len ?_));have A:B.next.length<=2:=by
  rcases c with⟨_,h⟩|⟨_,h,_⟩|⟨_,h,_⟩
  ·omega
  ·omega
  ·simp_all
 refine AG (λk p q f l m h'=>∃j,p = .ptr lc 0/\q = .ptr h.next 0/\f=bn/\l = .I B.next.length/\m = .I (j:Nat)/\j+k=B.next.length/\h' = z) ?_ (k:=B.next.length) (by simp_all);rintro k p q f l m h' ⟨j,rfl,rfl,rfl,rfl,rfl,J,rfl⟩;unfold th;by_cases hj:j<B.next.length
 ·refine hV ?_
  let⟨l8,K,_,D,E⟩:=d.nat (iH hj) .i64
  have G:B.next[j]<u.blocks.length:=g.nx i _ (by grind[next,Cj]);refine ec D (ec E (ec (fj _ _) (ec (by rfl) (ec (by rfl) (ec (C2.ld 3 rfl) (ec C2.u.b.len ?_))))));refine wi (yz (gU (by simp_all) ?_));exact gq ⟨k-1,by omega,j+1,rfl,rfl,rfl,rfl,rfl,by omega,rfl⟩
 refine jG ?_;refine ec (by rfl) (ec (a.ld 0 rfl rfl) ?_);rcases c with⟨r,n⟩|⟨r,n,t⟩|⟨r,n,t⟩
 ·refine hH (gU (by omega) ?_);refine ec (by rfl) (ec (a.ld 0 rfl rfl) (ec d.len (gG ?_)));rw[n];exact H _ _ e a.tail
 ·refine hH (gB (by omega) ?_);refine hH (gU (by omega) ?_);refine ec (by rfl) (ec (a.ld 0 rfl rfl) (ec d.len (gG ?_)));rw[n,show decide (((2:Nat):Int)=2)=true from rfl];refine jl (ec rfl (jl (ec (by rfl) (jl (ec (a.ld 0 rfl rfl) (WX ?_))))));rw[Eh,eQ]
  let⟨v,w,r3⟩:=a.Sr fy rfl (ux F h' [B.cond]) false
  have C3:=C2.since w v;refine ec rfl (Hj ?_);refine Ei C3 r3 (by simp) (by simp_all) (ec rfl ?_);exact H _ _ (e.trans w) v.tail
 ·refine hH (gB (by omega) ?_);refine hH (gB (by omega) ?_);refine hH (gU (by omega) ?_);refine ec (by rfl) (ec (a.ld 0 rfl rfl) (ec d.len (gG ?_)));rw[n,show decide ((([]:List Nat).length:Int)=0)=true from rfl];refine jl (ec (by rfl) (jl (ec (a.ld 0 rfl rfl) (jl (ec rfl (jl (ec (fj _ _) (jl (ec (by rfl) (jl (ec (by rfl) (jl (ec (C2.ld 4 rfl) (jl (ec C2.u.s.len (Hj ?_))))))))))))))));refine wi ⟨jn _,?_⟩;rw[Qy t];exact ec rfl (H _ _ e a.tail)
theorem Vx(g:Good u)(C:Ck F h cs lc u vv vb vs bl pl AZ){i:Nat}{B:Bk}(A:u.blocks[i]? =some B)(H:∀F' h',Sn F h F' h'->er F' h' cs->Q (.bool true) h'):cP CS lN [.ptr lc 0,.I i] h Q:=by
 refine Ez rfl rfl ?_;unfold xC;have nb:=g.nb;have r2:∀n d,Sn F h n d->er n d cs->lL CS Q (.ptr lc 0) (.I i) d:=by
  intro n d s1 D;have C1:=C.since s1 D;refine BF ?_;unfold tP
  let⟨l7,o7,bv,bn,bp,_,i1,i2,iv,o,ip,_⟩:=C1.u.wh A
  refine ec (fj _ _) (ec (by rfl) (ec (by rfl) (ec (C1.ld 3 rfl) (ec i1 (ec i2 ?_)))));refine jy C1.H rfl rfl (by simp only[lC,fc,iv.one,o.one,ip.one];rfl) λE G I=>?_;have C2:=C1.cons I G;have o:=o.since I;refine ec (by rfl) (ec (G.ld 0 rfl rfl) (ec o.len ?_));have ac:B.next.length<=2:=by
   rcases g.fin i B A with⟨_,h⟩|⟨_,h,_⟩|⟨_,h,_⟩
   ·omega
   ·omega
   ·simp_all
  refine Bi (λk p x7 q r s h'=>∃j,p = .ptr lc 0/\x7 = .ptr d.next 0/\q=bn/\r = .I B.next.length/\s = .I (j:Nat)/\j+k=B.next.length/\h' = E) ?_ (k:=B.next.length) (by simp_all);rintro k p x7 q r s h' ⟨j,rfl,rfl,rfl,rfl,rfl,hk,rfl⟩;unfold tO;by_cases hj:j<B.next.length;rotate_left
  ·exact jG (H _ _ (s1.trans I) G.tail)
  refine hV ?_
  let⟨l8,o8,_,J,K⟩:=o.nat (iH hj) .i64
  have t:B.next[j]∈next u i:=by unfold next;rw[A];exact Cj hj
  have ae:=g.nx i _ t;obtain⟨l,a⟩:∃l,u.blocks[B.next[j]]? =some l:=by simp_all
  let⟨l9,o9,bv',bn',bp',_,f,_,_,_,ip',ba'⟩:=C2.u.wh a
  refine ec J (ec K (ec (by rfl) (ec (G.ld 0 rfl rfl) (ec (by rfl) ?_))));have e:jq (.bool (((B.fin:Nat):Int) == 2)) (oB (some (V.ptr lc 0)) λL=>oB (iu L) λM=>oB (fI 0 M) λN=>oB (fI 3 N) λO=>oB (en O h') λP=>oB (some (V.I (B.next[j]:Nat))) λR=>oB (gy 6 P R) λS=>oB (fI 4 S) λT=>oB (en T h') λU=>oB (fF U) λW=>ef .neq 3 W (V.I 1))=some (.bool false):=by
   have l1:=C2.ld 3 rfl;have l2:=ba'.ft;simp only[eQ,fj,fH,l1,f,l2,ip'.len,yI,ir];congr 2;rw[Xh];intro m;simp[qU,Jg,Su]at m;have d:=g.MC i B A (by omega) (B.next[j]) (Cj hj);rw[g.ft _ _ a,d]at m;exact m.2 rfl
  refine ec e (je (gB (by simp) ?_));exact gq ⟨k-1,by omega,j+1,rfl,rfl,rfl,rfl,rfl,by omega,rfl⟩
 by_cases hi:i=0;rotate_left
 ·exact hH (gB (by omega) (r2 F h (Sn.refl _ _) C.H))
 refine hH (gU (by omega) ?_);have lA:fZ 5 (.ptr lc 0) h=some (.agg (uC u vv vb vs)):=by
  let⟨j,ty,hc⟩:=C.c
  rw[Ew (C.H.get j hc),Dl (by simp)];rfl
 refine ec (fj _ _) (ec (by rfl) (ec lA ?_));refine Mg g C.H C.u λn d v s1 D r1=>?_;have lr:=r1.len;rw[List.length_map,YG]at lr;refine ec lr ?_;have C1:=C.since s1 D;refine Bm (λk p x1 w y z h'=>∃j,p = .ptr lc 0/\x1 = .I i/\w=v/\y = .I u.blocks.length/\z = .I (j:Nat)/\j+k=u.blocks.length/\h' = d) ?_ (k:=u.blocks.length) (by simp_all);rintro k p x1 w y z h' ⟨j,rfl,rfl,rfl,rfl,rfl,hk,rfl⟩;unfold uu;by_cases hj:j<u.blocks.length;rotate_left
 ·exact jG (r2 n h' s1 D)
 refine hV ?_;obtain⟨l,a⟩:∃l,u.blocks[j]? =some l:=by simp_all
 let⟨l8,o8,w8,_,J,K,j3⟩:=r1.list (i:=j) (x:=Un.ahead u j) (by simp[hj]) .i64
 let⟨l9,o9,bv',bn',bp',_,f,_,_,_,ip',ba'⟩:=C1.u.wh a
 have ag:(Un.ahead u j).length<=700:=by
  rw[<-nP];have:=od g (j:=0) (b:=j) (jn _) (by omega);omega
 rw [g.ft j l a]at ip';refine ec J (ec K (ec (fj _ _) (ec (by rfl) (ec (by rfl) (ec (C1.ld 3 rfl) (ec f (ec (by rfl) (ec ba'.ft ?_))))))));refine Qs j3 ip' (by omega) (ec rfl ?_);have e:mh (.bool (!true)) (oB (some (V.I j)) λX=>oB (ef .eql 3 X (V.I 0)) λY=>oB (some Y) λZ=>jq Z (oB (some w8) λaa=>oB (fF aa) λab=>ef .gtr 3 ab (V.I 0)))=some (.bool false):=by
  simp only[Ug,qJ,eQ,ig,j3.len,my,ir];congr 2;rw[Xh];intro m;simp[qU,Jg,IM]at m
  let⟨d,E⟩:=m
  obtain rfl:j=0:=by omega
  rw[g.KD]at E;simp at E
 refine ec e (je (gB (by simp) ?_));exact gq ⟨k-1,by omega,j+1,rfl,rfl,rfl,rfl,rfl,by omega,rfl⟩
end
open Un Dm
section
variable{F F':Nat->Prop}{h h':Hp}{cs:List Pc}{Q:fm}{u:U}{vv vb vs:V}
theorem er.stF{α:Type}{E:sQ α}{ty:Nat}{xs:List α}{v:V}(H:er F h cs)(i:Nat)(hi:cs[i]? =some (fo E ty xs v)){k j:Nat}{y:α}{a:V}(c:k<xs.length)(d:j<E.sz)(e:a.one=true)(f:∀w,E.rel F h xs[k] w->E.rel F h y (w.set j a)) :
  ∃l h',gy E.sz v (.I k)=some (.ptr l (k*E.sz))/\gW 1 (.ptr l (k*E.sz+j)) a h=some (.val .undef h')/\h.next<=h'.next/\er F h' (cs.set i (fo E ty (xs.set k y) v))/\Sn F h F h':=by
 let⟨t,h',o,g,m,n,b⟩:=(H.row i hi).store c d e f
 exact⟨t,h',g,m,b.next,H.CN hi b n λ_ h=> .inl h⟩
theorem er.T7{ty:Nat}{xs:List Nat}{v:V}(H:er F h cs)(i:Nat)(hi:cs[i]? =some (fo eN ty xs v)){k x:Nat}(b:xs[k]? =some x)(a:IntKind):∃l o,gy 1 v (.int a (k:Nat))=some (.ptr l o)/\en (.ptr l o) h=some (.I x):=by
 let⟨l,o,_,c,d⟩:=(H.row i hi).read.nat b a
 grind
theorem er.wQ{ty:Nat}{xs:List Int}{v:V}(H:er F h cs)(i:Nat)(hi:cs[i]? =some (fo eZ ty xs v)){k:Nat}{x:Int}(b:xs[k]? =some x)(a:IntKind):∃l o,gy 1 v (.int a (k:Nat))=some (.ptr l o)/\en (.ptr l o) h=some (.I x):=by
 let⟨l,o,_,c,d⟩:=(H.row i hi).read.int b a
 grind
theorem er.Gf{ty:Nat}{xs:List Bool}{v:V}(H:er F h cs)(i:Nat)(hi:cs[i]? =some (fo eB ty xs v)){k:Nat}{x:Bool}(b:xs[k]? =some x)(a:IntKind):∃l o,gy 1 v (.int a (k:Nat))=some (.ptr l o)/\en (.ptr l o) h=some (.bool x):=by
 let⟨l,o,_,c,d⟩:=(H.row i hi).read.bool b a
 grind
theorem MO{ty:Nat}{xs:List Nat}{v:V}(f:er F h (fo eN ty xs v::cs))(h0:0<xs.length)(J:xs.length<1000000)(H:∀h',Sn F h F h'->er F h' (fo eN ty xs.reverse v::cs)->Q (.tuple []) h') :
  cP CS j4 [v] h Q:=by
 refine yl rfl rfl ?_;unfold pS;refine ec (f.len 0 rfl) (tM (by omega) h0 ?_)
 refine vP (λk g j l h'=>∃i ys,g=v/\j = .I (i:Nat)/\l = .I ((xs.length-1-i:Nat):Int)/\i+k=xs.length/\2*i<=xs.length/\ys.length=xs.length/\
  (∀p,p<xs.length->ys[p]? =if p<i\/xs.length-i<=p then xs[xs.length-1-p]? else xs[p]?)/\Sn F h F h'/\er F h' (fo eN ty ys v::cs)) ?_ (k:=xs.length)
  ⟨0,xs,rfl,rfl,by rw[Nat.sub_zero],by omega,by omega,rfl,by grind,Sn.refl _ _,f⟩
 rintro k g j l K ⟨i,ys,rfl,rfl,rfl,L,q,r,m,s1,c⟩;unfold nj;by_cases hij:i<xs.length-1-i
 ·refine hV ?_;obtain⟨a,n⟩:∃a,ys[i]? =some a:=by grind
  obtain⟨b,o⟩:∃b,ys[xs.length-1-i]? =some b:=by grind
  let⟨M,o1,s,t⟩:=c.T7 0 rfl o .i64
  let⟨l2,o2,u,w⟩:=c.T7 0 rfl n .i64
  refine ec s (ec t (ec u (ec w ?_)));obtain⟨l3,N,O,e1,e2,x,y,z⟩:=c.AD 0 rfl (k:=i) (by omega) rfl rfl rfl;refine ec e1 ?_;rw[e2,ej];obtain⟨l4,P,R,A,B,C,D,E⟩:=y.AD 0 rfl (k:=xs.length-1-i) (by simp;omega) rfl rfl rfl;refine⟨x,ec A ?_⟩;rw[B,ej];refine⟨C,gq (tM (by omega) (by omega) ?_)⟩;refine⟨k-1,by omega,i+1,(ys.set i b).set (xs.length-1-i) a,rfl,rfl,by rfl,by omega,by omega,by simp[r],λp d=>?_,(s1.trans z).trans E,D⟩;have G:=m i (by omega);rw[ n]at G;have I:=m (xs.length-1-i) (by omega);rw[if_neg (by omega),o]at I;by_cases e1:p=xs.length-1-i
  ·grind
  ·rw[Iv (by omega)];by_cases e2:p=i
   ·simp_all
   grind
 ·refine jG ?_;have e:ys=xs.reverse:=by
   refine Wd λp=>?_;by_cases d:p<xs.length
   ·grind
   ·simp_all
  simp_all
theorem Rh{α:Type}(s:List α)(x y:α):(s++[x]).set s.length y=s++[y]:=by simp
structure W2 (u:U):Prop where
 Oz:1<=u.blocks.length
 nb:u.blocks.length<=300
 nx:∀b,∀t∈next u b,t<u.blocks.length
 two:∀(b:Nat) B,u.blocks[b]? =some B->B.next.length<=2
theorem PT(g:Good u):W2 u:=⟨g.Oz,g.nb,g.nx,λb B a=>by
 rcases g.fin b B a with⟨_,h⟩|⟨_,h,_⟩|⟨_,h,_⟩
 ·omega
 ·omega
 simp_all⟩
theorem iL.wh{bs:List Bk}(a:iL eK F h bs vb){i:Nat}{x:Bk}(c:bs[i]? =some x) :
  ∃l o v n p,F l/\gy 6 vb (.I i)=some (.ptr l o)/\fZ 6 (.ptr l o) h=some (.agg (lC x v n p))/\iL eN F h x.ee v/\iL eN F h x.next n/\iL eN F h x.ft p/\Yo h l o x v n p:=by
 obtain⟨hi,rfl⟩:=jw.1 c;obtain⟨l,o,w,d,e,f,⟨v,n,p,rfl,g,j,k⟩,b⟩:=a.ix hi .i64;exact⟨l,o,v,n,p,d,e,f,g,j,k,⟨b 0 _ rfl,b 1 _ rfl,b 2 _ rfl,b 3 _ rfl,b 4 _ rfl,b 5 _ rfl⟩⟩
theorem Pg(g:W2 u)(H0:er F h cs)(ho:gh (uC u vv vb vs)=true)(T:iL eK F h u.blocks vb)(H:∀h' v seen post,Sn F h F h'->er F h' (fo eN fy post.reverse v::cs)->Fz u.blocks.length (next u) seen post []->Q v h') :
  cP CS mF [.agg (uC u vv vb vs)] h Q:=by
 refine LQ rfl rfl ?_;unfold Gk;have nb:=g.nb;have Oz:=g.Oz;have o:∀b,b<u.blocks.length->∀t∈next u b,t<u.blocks.length:=λb _ t r=>g.nx b t r
 refine qx H0 ho λO H1 s1=>?_;refine ec (by rfl) (ec (H1.ld 0 rfl rfl) (ec (T.since s1).len ?_));rw[kM rfl (by decide) (by omega),fJ];obtain⟨H2,s2⟩:=H1.make (E:=eB) u.blocks.length rfl rfl;have z:=s1.trans s2;refine ec (by rfl) (ec (H2.ld 1 rfl rfl) (ec (T.since z).len ?_));refine Mk (gU (by omega) ?_);refine ec (by rfl) ?_;generalize O.new (.cells fx 1 true false (List.replicate u.blocks.length (V.bool false)))=h2 at*;have A:∀a b,ju xI 2 1 (V.agg [(V.I 0),(V.I 0)]) [(0,V.agg [.I (a:Nat),.I (b:Nat)])]=some (.cells xI 2 true false [.I (a:Nat),.I (b:Nat)],λl=> .slice l 0 1):=λa b=>by rfl
 have U:ju xI 2 1 (V.agg [(V.I 0),(V.I 0)]) [(0,V.agg [.I 0,.I 0])]=some (.cells xI 2 true false [.I ((0:Nat):Int),.I ((0:Nat):Int)],λl=> .slice l 0 1):=A 0 0;rw[U,fJ]
 have H3:=
  (H2.add (p:=fo eN fy [] .ed) .nil λ_ h=>h).add (p:=fo eW xI [] .ed) .nil λ_ h=>h
 obtain⟨v4,h4,e4,n4,H4,s4⟩:=H3.DD 0 rfl (lV:=16) (y:=(0,0)) rfl (by decide) (by decide) (by simp);have W:fh 83 2 16 V.ed (.slice h2.next 0 1) (h2.new (.cells xI 2 true false [.I ((0:Nat):Int),.I ((0:Nat):Int)]))=some (.val v4 h4):=e4;rw[W,ej];simp[ LR]at H4;obtain⟨l5,o5,h5,e5,e6,n5,H5,s5⟩:=H4.AD 2 rfl (k:=0) (by simp;omega) rfl rfl rfl;refine ec e5 ?_;rw[e6,ej];simp[ ot]at H5;refine Hu ?_;unfold Bb;have X:=(z.trans s4).trans s5
 refine Ic (λk x1 x3 Y C h'=>∃seen post stack,x1 = .ptr h.next 0/\x3 = .slice O.next 0 u.blocks.length/\k=mu u.blocks.length (next u) seen stack/\Fz u.blocks.length (next u) seen post stack/\Sn F h F h'/\
  er F h' (fo eW xI stack C::fo eN fy post Y::fo eB fx seen (.slice O.next 0 u.blocks.length)::ey h.next 29 (uC u vv vb vs)::cs)) ?_
  ⟨_,[],[(0,0)],rfl,rfl,rfl,Fz.start (by omega) o,X,H5⟩
 rintro k x1 x3 Y C Z ⟨seen,post,stack,rfl,rfl,hk,G,D,d⟩;unfold Bf;have aa:=G.nodup;have ax:=wx _ _ (by grind) G.pre;have ay:stack.length<=u.blocks.length:=by
  have:=wx u.blocks.length _ (List.nodup_append.1 aa).2.1 λx hx=>by
   obtain⟨y,hy,rfl⟩:=Sy.1 hx;exact(G.range y hy).1
  simpa using this
 refine ec (d.len 0 rfl) ?_;rcases gY stack with rfl|⟨s,⟨b,i⟩,rfl⟩
 ·refine Mk (gB (by simp) ?_);have ab:0<post.length:=by
   let⟨p,hp⟩:=G.last rfl
   rw[hp];simp
  refine MO d.tail ab (by omega) λh7 P e=>?_;exact H _ _ seen post (D.trans P) e.vL.vL G
 refine Mk (gU (by simp_all) ?_);have hlen:(s++[(b,i)]).length-1=s.length:=by simp
 have f:s.length<(s++[(b,i)]).length:=by simp
 have I:(s++[(b,i)])[s.length]'f=(b,i):=by simp
 let⟨hbn,hin⟩:=G.range (b,i) (by simp)
 obtain⟨B,hB⟩:∃B,u.blocks[b]? =some B:=by simp_all
 have J:next u b=B.next:=by unfold next;rw[hB]
 simp [J]at hin;refine ec (d.len 0 rfl) (tM (by omega) (by simp) ?_);rw[hlen];obtain⟨l7,h7,R,e8,n7,e,P⟩:=d.stF 0 rfl (j:=1) (y:=(b,i+1)) f (by decide) rfl (λw S=>by
  rw[I]at S;have S:=S;subst S;rfl)
 have R:gy 2 C (.I s.length)=some (.ptr l7 (s.length*2)):=R
 let⟨l8,o8,w8,i1,i2,i3,i4⟩:=d.ix 0 rfl f .i64
 rw [I]at i3;obtain rfl:w8=[.I b,.I i]:=i3;have i1:gy 2 C (.I s.length)=some (.ptr l8 o8):=i1;rw[R]at i1;obtain⟨rfl,rfl⟩:l7=l8/\s.length*2=o8:=by
  simp_all
 have ib:=i4 0 _ rfl;have ii:=i4 1 _ rfl
 let⟨lb,ob,bv,bn,bp,_,b1,b2,iv,iN,ip,ba⟩:=(T.since D).wh hB
 refine ec R (ec (by rfl) (ec (d.ld 3 rfl rfl) (ec (fj _ _) (ec (by rfl) (ec ib (ec b1 (ec (by rfl) (ec ba.next ?_))))))));refine ec (fj _ _) (ec (by rfl) (ec ii (ec iN.len ?_)));by_cases hi:i=B.next.length
 ·refine hH (gU (by omega) ?_);refine ec (fj _ _) (ec (by rfl) (ec ib ?_));rw[Eh,fJ];obtain⟨v9,h9,e9,n9,H9,s9⟩:=d.DD 1 rfl (lV:=8) rfl (by decide) (by decide) (by omega);have ac:fh 3 1 8 Y (.slice Z.next 0 1) (Z.new (.cells 3 1 true false (mc [b])))=some (.val v9 h9):=e9;rw[ac,ej];refine ec (H9.len 0 rfl) (tM (by omega) (by simp) ?_);rw[hlen]
  let⟨az,m,c⟩:=H9.Vd 0 rfl (n:=s.length) (by simp)
  refine ec m ?_;have et:(s++[(b,i)]).take s.length=s:=by simp
  rw[et]at c;exact⟨_,by grind[V5],seen,post++[b],s,rfl,rfl,rfl,G.pop (by simp_all),D.trans s9,c⟩
 refine hH (gB (by omega) ?_);have ae:i<B.next.length:=by omega
 have aA:=g.two b B hB;have r:(next u b)[i]? =some B.next[i]:=by rw[J];exact by simp_all
 have ag:B.next[i]<u.blocks.length:=by grind[Cj]
 let⟨l9,o9,_,j1,j2⟩:=iN.nat (iH ae) .i64
 refine ec (fj _ _) (ec (by rfl) (ec ii (ec j1 (ec j2 ?_))));refine ec (fj _ _) (ec (by rfl) (ec ii (gq ?_)));refine ec (fj _ _) (ec (by rfl) ?_);have e8:gW 1 (.ptr l7 (s.length*2+1)) (.I ((i+1:Nat):Int)) Z=some (.val .undef h7):=e8;rw[e8,ej];simp[ot,Rh]at e;have ah:=G.len;have K:=e.len 2 rfl;rw[ah]at K;refine ec K (wi ?_);rw[Qy ag];obtain⟨q,hq⟩:∃q,seen[B.next[i]]? =some q:=by simp_all
 let⟨lq,oq,q1,q2⟩:=e.Gf 2 rfl hq .i64
 have ea:jq (.bool true) (oB (some (V.slice O.next 0 u.blocks.length)) λai=>oB (some (V.I (B.next[i]:Nat))) λaj=>oB (gy 1 ai aj) λak=>oB (en ak h7) λal=>tk .not al)=some (.bool (!q)):=by
  simp[EU,eQ,q1,q2,TM]
 refine ec ea (je ?_)
 cases q with
 | true=>
   refine gB (by simp) ?_
   exact⟨_,by grind[SW],seen,post,s++[(b,i+1)],rfl,rfl,rfl,G.skip r hq,D.trans P,e⟩
 | false=>
   refine gU rfl ?_;have L:¬nt seen B.next[i]:=by unfold nt;rw[hq];simp
   obtain⟨MK,aB,M,m,am,aC,c,an⟩:=e.AD 2 rfl (k:=B.next[i]) (by omega) rfl rfl rfl;refine ec m ?_;rw[am,ej];refine ec (show _=some (V.agg [.I (B.next[i]:Nat),.I ((0:Nat):Int)]) from rfl) ?_;rw[A,fJ];obtain⟨ao,aq,ar,aD,au,aw⟩:=c.DD 0 rfl (lV:=16) (y:=(B.next[i],0)) rfl (by decide) (by decide) (by simp;omega);have N:fh 83 2 16 C (.slice M.next 0 1) (M.new (.cells xI 2 true false [.I (B.next[i]:Nat),.I ((0:Nat):Int)]))=some (.val ao aq):=ar;rw[N,ej];exact⟨_,by rw[hk];exact Tt G r L,_,post,s++[(b,i+1)]++[(B.next[i],0)],rfl,rfl,rfl,G.push r L,((D.trans P).trans an).trans aw,au⟩
theorem DP(g:Good u)(c:er F h cs)(a:Af F h u vv vb vs)(H:∀F' h' v seen post,Sn F h F' h'->er F' h' cs->Fz u.blocks.length (next u) seen post []->iL eN F' h' post.reverse v->Q v h') :
  cP CS mF [.agg (uC u vv vb vs)] h Q:=
 Pg (PT g) c a.one a.b λh' v seen post s1 d G=>by
  let⟨e,f,r2⟩:=d.mi 0 rfl
  exact H _ _ v seen post (s1.trans f) e.tail G r2
end
