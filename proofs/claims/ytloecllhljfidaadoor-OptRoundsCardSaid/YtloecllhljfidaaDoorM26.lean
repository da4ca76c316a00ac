/- Parts. -/
import Derived.Test.YtloecllhljfidaaDoorM25
set_option maxHeartbeats 4000000
namespace Go.Proofs.YtloecllhljfidaaDoor.Hx
open Un Dm
theorem Vm(h:Hp):∀op:Nat,1<=op->op<=23->∃s,s≠[]/\CS.K BG [.I (op:Nat)] h=some (.str s)
 |0,h,_=>by omega
 |1,_,_=>⟨_,by decide,rfl⟩
 |2,_,_=>⟨_,by decide,rfl⟩
 |3,_,_=>⟨_,by decide,rfl⟩
 |4,_,_=>⟨_,by decide,rfl⟩
 |5,_,_=>⟨_,by decide,rfl⟩
 |6,_,_=>⟨_,by decide,rfl⟩
 |7,_,_=>⟨_,by decide,rfl⟩
 |8,_,_=>⟨_,by decide,rfl⟩
 |9,_,_=>⟨_,by decide,rfl⟩
 |10,_,_=>⟨_,by decide,rfl⟩
 |11,_,_=>⟨_,by decide,rfl⟩
 |12,_,_=>⟨_,by decide,rfl⟩
 |13,_,_=>⟨_,by decide,rfl⟩
 |14,_,_=>⟨_,by decide,rfl⟩
 |15,_,_=>⟨_,by decide,rfl⟩
 |16,_,_=>⟨_,by decide,rfl⟩
 |17,_,_=>⟨_,by decide,rfl⟩
 |18,_,_=>⟨_,by decide,rfl⟩
 |19,_,_=>⟨_,by decide,rfl⟩
 |20,_,_=>⟨_,by decide,rfl⟩
 |21,_,_=>⟨_,by decide,rfl⟩
 |22,_,_=>⟨_,by decide,rfl⟩
 |23,_,_=>⟨_,by decide,rfl⟩
 |n+24,_,h=>by omega
theorem zbZ{h:Hp}{X:Option (V×Hp)}{K:fq}(H:oP X λy=>K y.1 y.2):oP (gq true (.bool true)) λb=>ghP b h X K:=H
section
variable{F F':Nat->Prop}{h h':Hp}{cs:List Pc}{Q:fq}{u:U}{vv vb vs:V}{lc:Nat}{bl pl CZ:V}
theorem Zl{op:Nat}(a:1<=op)(b:op<=23)(H:∀s,s≠[]->Q (.str s) h):cP CS BG [.I op] h Q:=by
 obtain⟨fn,c,d,hb⟩:=QZ;obtain⟨s,hs,hk⟩:=Vm h op a b;exact cP.known d hb hk rfl rfl (H s hs)
theorem Pk{b:Nat}{x:Vl}{w v:V}{ys:List Vl}(z:ej F h (er b gi (lW x w)::cs))(p:iG eV F h ys v)(K:ys.length<1000000)(A:∀y∈ys,¬(y.op=1/\y.n=x.n))
  (H:∀h',Sn F h F h'->ej F h' (er b gi (lW x w)::cs)->Q (.bool false) h'):cP CS gS [v,.func jl [] [.ptr b 0]] h Q:=by
 refine qb rfl rfl ?_;unfold lB;refine rM rfl rfl ?_;unfold lY;refine ed p.len ?_
 refine p9 (λk q r s t h'=>∃i:Nat,q=v/\r = .func jl [] [.ptr b 0]/\s = .I ys.length/\t = .I (i:Nat)/\i+k=ys.length/\Sn F h F h'/\ej F h' (er b gi (lW x w)::cs)) ?_ (k:=ys.length)
  ⟨0,rfl,rfl,rfl,rfl,by omega,Sn.refl _ _,z⟩
 rintro k q r s t h' ⟨i,rfl,rfl,rfl,rfl,hk,g,u⟩;unfold lp;by_cases hi:i<ys.length;rotate_left
 ·refine jf ?_;refine ed (pq _ _ _ _) ?_;exact H h' g u
 refine gR ?_;obtain⟨l,o,c,_,B,C,⟨a,rfl,D⟩,_⟩:=(p.since g).ix hi .i64;refine ed B (ed C ?_);show cP CS jl [.agg (lW ys[i] a),.ptr b 0] h' _;refine EX rfl rfl ?_;unfold xh;refine jP u (by simp only[lW,eo,D.one];rfl) λd f E=>?_;refine ed (by rfl) (ed (f.ld 0 rfl rfl) (ed (by rfl) ?_));have e:mn (.bool (((ys[i].op:Nat):Int) == 1)) (oB (fQ 3 (.ptr h'.next 0)) λG=>oB (eQ G d) λI=>oB (fQ 3 (.ptr b 0)) λj=>oB (eQ j d) λm=>eJ .eql 2 I m)=some (.bool false):=by
  have l1:eQ (.ptr h'.next (0+3)) d=some (.I ys[i].n):=f.ld 0 rfl rfl;have l2:eQ (.ptr b (0+3)) d=some (.I x.n):=f.ld 1 rfl rfl;simp only[fR,fy,l1,l2,ie,jD];congr 2;rw[wB0];intro J;simp only[uF,EE]at J;exact by grind
 refine ed e (jF (gv (by simp) ?_));exact fS ⟨k-1,by omega,i+1,rfl,rfl,rfl,rfl,by omega,g.trans E,f.tail⟩
theorem Wi{a:Nat}{x:Vl}{w:V}{a0:V}(b:a0 = .ptr lc 0)(C:Ck F h (er a gi (lW x w)::cs) lc u vv vb vs bl pl CZ)(H:leaves x.op=true->x.state<u.eh.length)(hc:a≠lc)(I:eQ (.ptr a 5) h=some (.I x.state)){K:fq}(E:K (.bool false) h) :
  oP (gq true (.bool (leaves x.op))) λc=>
  oP (gV c (fQ 5 (.ptr a 0))) λd=>
  oP (gq true (.bool (leaves x.op))) λe=>
  oP (gV e (eQ d h)) λf=>
  oP (gq true (.bool (leaves x.op))) λg=>
  oP (gV g (some a0)) λi=>
  oP (gq true (.bool (leaves x.op))) λj=>
  oP (gV j (gU i)) λk=>
  oP (gq true (.bool (leaves x.op))) λl=>
  oP (gV l (fQ 0 k)) λm=>
  oP (gq true (.bool (leaves x.op))) λn=>
  oP (gV n (fQ 4 m)) λo=>
  oP (gq true (.bool (leaves x.op))) λp=>
  oP (gV p (eQ o h)) λq=>
  oP (gq true (.bool (leaves x.op))) λr=>
  oP (gV r (fD q)) λt=>
  oP (gq true (.bool (leaves x.op))) λv=>
  oP (gC v (some (jX,[f,t]))) λy=>vD CS y h λz G=>
  (h.next<=G.next/\
  oP (gq true (.bool (leaves x.op))) λA=>
  oP (gV A (vC .not z)) λB=>
  oP (uP (.bool false) (nM (.bool (leaves x.op)) B (V.bool false))) λD=>K D G):=by
 subst b
 cases hq:leaves x.op with
 | true=>
   have:=H hq;refine gL (ed (by rfl) (gL (ed I (gL (ed rfl (gL (ed (fI _ _) (gL (ed (by rfl) (gL (ed (by rfl) (gL (ed (C.ld 4 rfl) (gL (ed C.u.s.len (uj ?_))))))))))))))));refine yi ⟨jb _,gL ?_⟩;rw[O7 this]
   exact ed rfl (ed rfl E)
 |false=>exact oe (oe (oe (oe (oe (oe (oe (oe (Xe ⟨jb _,oe (ed rfl E)⟩))))))))
theorem zbn(g:Good u)(C:Ck F h cs lc u vv vb vs bl pl CZ){xs ys:List Int}(t:iG eZ F h xs bl)(S:Std u u.blocks.length 0 xs ys){i:Nat}(hi:i<u.ef.length)(O:lc<h.next)
  (H:∀F' h',Sn F h F' h'->ej F' h' cs->Q (.bool true) h'):cP CS jQ [.ptr lc 0,.I i] h Q:=by
 refine HP rfl rfl ?_;unfold ue;have nv:=g.nv;have nb:=g.nb;obtain⟨x,hx⟩:∃x,u.ef[i]? =some x:=by simp_all
 obtain ⟨b,k,d⟩:=g.xM i hi trivial;obtain⟨B,q,hk⟩:=id d;have l:=g.op i x hx;have o:=g.use i x hx;have z:B.ez.length<=700:=by
  rw[g.ez b B q,<-pG];have:=pU g (i:=u.blocks.length) (j:=0) (b:=b) (jb _) (by omega);omega
 have A:x.op=21\/x.op=20->x.args.length<=700:=by
  rintro(D|D)
  ·rw[(g.Ae _ _ _ _ _ d hx D q).2];exact z
  ·rw[g.putAt i x hx D];omega
 obtain⟨l1,o1,w,_,P,R,M,_⟩:=C.u.val hx;refine ed (fI _ _) (ed (by rfl) (ed (by rfl) (ed (C.ld 2 rfl) (ed P (ed R ?_)))));refine gQ C.H rfl rfl (by simp only[lW,eo,M.one];rfl) λh2 r E=>?_;have C2:=C.cons E r;have f:=M.since E;refine ed (by rfl) (ed (r.ld 0 rfl rfl) ?_);refine Zl l.1 l.2 λs hs=>⟨jb _,?_⟩
 refine ed (by rfl) ?_;rw[show(s == [])=false from SJ.2 hs];refine hZ (ed rfl (hZ (ed (r.oL 0 rfl rfl) (vw ?_))));refine BI r f (by omega) λF3 N v p a r3=>⟨p.next,?_⟩
 have C3:=C2.since p a;have c:=E.trans p;refine vw (GS C3 r3 (by grind[Py]) o ⟨jb _,ed rfl ?_⟩);refine hZ (ed (by rfl) (hZ (ed (a.ld 0 rfl rfl) (vw ?_))));refine Ek ⟨jb _,hZ (ed rfl ?_)⟩;refine Wi rfl C3 (g.leave i x hx) (by omega) (a.ld 0 rfl rfl) ?_;refine jF (gv (by simp) ?_);refine ed (by rfl) (ed (a.ld 0 rfl rfl) ?_);by_cases G:x.op=20
 ·refine gM (gI (by omega) ?_);refine ed (by rfl) (ed (a.ld 0 rfl rfl) (ed (f.since p).len (ju ?_)));rw[g.putAt i x hx G];exact H _ _ c a.tail
 refine gM (gv (by omega) ?_);by_cases I:x.op=21
 ·refine gM (gI (by omega) ?_);obtain⟨lb,ob,_,b1,b2⟩:=(t.since c).int ((S.yes i b k d (by grind)).1) .i64;obtain⟨l7,o7,bv,bn,bp,_,J,_,_,_,ip,T⟩:=C3.u.vf q;refine ed (by rfl) (ed (a.ld 0 rfl rfl) (ed (f.since p).len ?_));refine ed (fI _ _) (ed (by rfl) (ed (by rfl) (ed (C3.ld 3 rfl) (ed (fI _ _) (ed (by rfl) (ed (C3.ld 5 rfl) (ed b1 (ed b2 (ed J ?_)))))))));refine ed (by rfl) (ed T.ez (ed ip.len (ju ?_)));rw[(g.Ae _ _ _ _ _ d hx I q).2,O7 rfl];exact H _ _ c a.tail
 refine gM (gv (by omega) ?_);by_cases U:x.op=1
 ·refine gM (gI (by omega) ?_);obtain⟨p1,W,p3⟩:=g.param i x hx U;refine ed (by rfl) (ed (a.ld 0 rfl rfl) (ed (by rfl) ?_));have e:mn (.bool (decide ((0:Int)<=x.n))) (oB (fQ 3 (.ptr h.next 0)) λK=>oB (eQ K N) λL=>eJ .lss 2 L (V.I 40))=some (.bool true):=by
   have l1:eQ (.ptr h.next (0+3)) N=some (.I x.n):=a.ld 0 rfl rfl;simp only[fR,fy,l1,qO,jD];simp[p1,W]
  refine ed e ?_;obtain⟨vc,X,r1⟩:=C3.u.v.cut (lo:=none) (hi:=some (.I i)) (m:=0) (n:=i) rfl (by rfl) (Jw _) (by omega);rw[X9]at r1;refine gL (ed rfl (gL (ed (fI _ _) (gL (ed (by rfl) (gL (ed (by rfl) (gL (ed (C3.ld 2 rfl) (gL (ed rfl (gL (ed X (gL (ed rfl (uj ?_))))))))))))))));refine Pk a r1 (by grind) (λy hy hh=>?_) λh4 Y Z=>ed rfl (H _ _ (c.trans Y) Z.tail)
  grind[mr,jk,JT,wBZ]
 ·refine gM (gv (by omega) ?_);exact H _ _ c a.tail
theorem Zz(g:Good u)(C:Ck F h cs lc u vv vb vs bl pl CZ){i:Nat}{B:Bk}(p:u.blocks[i]? =some B)(H:∀F' h',Sn F h F' h'->ej F' h' cs->Q (.bool true) h'):cP CS lX [.ptr lc 0,.I i] h Q:=by
 refine FO rfl rfl ?_;unfold yx;have c:=g.fin i B p;have nv:=g.nv;have nb:=g.nb;obtain⟨l7,M,N,y,O,_,z,A,D,d,ip,_⟩:=C.u.vf p;refine ed (fI _ _) (ed (by rfl) (ed (by rfl) (ed (C.ld 3 rfl) (ed z (ed A ?_)))));refine gQ C.H rfl rfl (by simp only[kS,eo,D.one,d.one,ip.one];rfl) λG a e=>?_;have C2:=C.cons e a;have d:=d.since e;refine ed (by rfl) (ed (a.ld 0 rfl rfl) (ed d.len ?_));have I:B.next.length<=2:=by
  rcases c with⟨_,h⟩|⟨_,h,_⟩|⟨_,h,_⟩
  ·omega
  ·omega
  ·simp_all
 refine CH (λk q r f l m h'=>∃j:Nat,q = .ptr lc 0/\r = .ptr h.next 0/\f=y/\l = .I B.next.length/\m = .I (j:Nat)/\j+k=B.next.length/\h' = G) ?_ (k:=B.next.length) (by simp_all);rintro k q r f l m h' ⟨j,rfl,rfl,rfl,rfl,rfl,hk,rfl⟩;unfold uX;by_cases hj:j<B.next.length
 ·refine gR ?_;obtain⟨l8,P,_,J,K⟩:=d.nat (g0 hj) .i64;have L:B.next[j]<u.blocks.length:=g.nx i _ (by grind[next,EA]);refine ed J (ed K (ed (fI _ _) (ed (by rfl) (ed (by rfl) (ed (C2.ld 3 rfl) (ed C2.u.b.len ?_))))));refine yi (wW (gI (by simp_all) ?_));exact fS ⟨k-1,by omega,j+1,rfl,rfl,rfl,rfl,rfl,by omega,rfl⟩
 refine jf ?_;refine ed (by rfl) (ed (a.ld 0 rfl rfl) ?_);rcases c with⟨t,o⟩|⟨t,o,v⟩|⟨t,o,v⟩
 ·refine gM (gI (by omega) ?_);refine ed (by rfl) (ed (a.ld 0 rfl rfl) (ed d.len (ju ?_)));rw[o];exact H _ _ e a.tail
 ·refine gM (gv (by omega) ?_);refine gM (gI (by omega) ?_);refine ed (by rfl) (ed (a.ld 0 rfl rfl) (ed d.len (ju ?_)));rw[o,show decide (((2:Nat):Int)=2)=true from rfl];refine gL (ed rfl (gL (ed (by rfl) (gL (ed (a.ld 0 rfl rfl) (zbZ ?_))))));rw[mN,fy];obtain⟨w,x,r3⟩:=a.Y3 (E:=eN) (xs:=[B.cond]) (n:=1) en rfl (wh F h' [B.cond]) false;have C3:=C2.since x w;refine ed rfl (uj ?_);refine GS C3 r3 (by simp) (by simp_all) (ed rfl ?_);exact H _ _ (e.trans x) w.tail
 ·refine gM (gv (by omega) ?_);refine gM (gv (by omega) ?_);refine gM (gI (by omega) ?_);refine ed (by rfl) (ed (a.ld 0 rfl rfl) (ed d.len (ju ?_)));rw[o,show decide ((([]:List Nat).length:Int)=0)=true from rfl];refine gL (ed (by rfl) (gL (ed (a.ld 0 rfl rfl) (gL (ed rfl (gL (ed (fI _ _) (gL (ed (by rfl) (gL (ed (by rfl) (gL (ed (C2.ld 4 rfl) (gL (ed C2.u.s.len (uj ?_))))))))))))))));refine yi ⟨jb _,?_⟩;rw[O7 v];exact ed rfl (H _ _ e a.tail)
theorem zaP(g:Good u)(C:Ck F h cs lc u vv vb vs bl pl CZ){i:Nat}{B:Bk}(I:u.blocks[i]? =some B)(H:∀F' h',Sn F h F' h'->ej F' h' cs->Q (.bool true) h'):cP CS mL [.ptr lc 0,.I i] h Q:=by
 refine He rfl rfl ?_;unfold zJ;have nv:=g.nv;have nb:=g.nb;have r2:∀p d,Sn F h p d->ej p d cs->mD CS Q (.ptr lc 0) (.I i) d:=by
  intro p d q J;have C1:=C.since q J;refine Du ?_;unfold vX;obtain⟨l7,o7,bv,bn,bp,_,i1,i2,iv,r,ip,_⟩:=C1.u.vf I;refine ed (fI _ _) (ed (by rfl) (ed (by rfl) (ed (C1.ld 3 rfl) (ed i1 (ed i2 ?_)))));refine gQ C1.H rfl rfl (by simp only[kS,eo,iv.one,r.one,ip.one];rfl) λK L M=>?_;have C2:=C1.cons M L;have r:=r.since M;refine ed (by rfl) (ed (L.ld 0 rfl rfl) (ed r.len ?_));have ak:B.next.length<=2:=by
   rcases g.fin i B I with⟨_,h⟩|⟨_,h,_⟩|⟨_,h,_⟩
   ·omega
   ·omega
   ·simp_all
  refine D0 (λk s x7 t w y h'=>∃j:Nat,s = .ptr lc 0/\x7 = .ptr d.next 0/\t=bn/\w = .I B.next.length/\y = .I (j:Nat)/\j+k=B.next.length/\h' = K) ?_ (k:=B.next.length) (by simp_all);rintro k s x7 t w y h' ⟨j,rfl,rfl,rfl,rfl,rfl,hk,rfl⟩;unfold wE;by_cases hj:j<B.next.length;rotate_left
  ·exact jf (H _ _ (q.trans M) L.tail)
  refine gR ?_;obtain⟨l8,o8,_,N,O⟩:=r.nat (g0 hj) .i64;have z:B.next[j]∈next u i:=by unfold next;rw[I];exact EA hj
  have al:B.next[j]<u.blocks.length:=g.nx i _ z;obtain⟨n,a⟩:∃n,u.blocks[B.next[j]]? =some n:=by simp_all
  obtain ⟨l9,o9,P,R,A,_,l,_,_,_,f,m⟩:=C2.u.vf a;refine ed N (ed O (ed (by rfl) (ed (L.ld 0 rfl rfl) (ed (by rfl) ?_))));have e:mn (.bool (((B.fin:Nat):Int) == 2)) (oB (some (V.ptr lc 0)) λS=>oB (gU S) λT=>oB (fQ 0 T) λU=>oB (fQ 3 U) λW=>oB (eQ W h') λX=>oB (some (V.I (B.next[j]:Nat))) λY=>oB (hV 6 X Y) λZ=>oB (fQ 4 Z) λaa=>oB (eQ aa h') λab=>oB (fD ab) λac=>eJ .neq 3 ac (V.I 1))=some (.bool false):=by
   have l1:eQ (.ptr lc (0+0+3)) h' = some vb:=C2.ld 3 rfl;have l2:eQ (.ptr l9 (o9+4)) h' = some A:=m.ez;simp only[fy,fI,fR,l1,l,l2,f.len,uD,jD];congr 2;rw[wB0];intro o;simp only[uF,EE,wB5]at o;have d:=g.DN i B I (by omega) (B.next[j]) (EA hj);rw[g.ez _ _ a,d]at o;exact o.2 rfl
  refine ed e (jF (gv (by simp) ?_));exact fS ⟨k-1,by omega,j+1,rfl,rfl,rfl,rfl,rfl,by omega,rfl⟩
 by_cases hi:i=0;rotate_left
 ·exact gM (gv (by omega) (r2 F h (Sn.refl _ _) C.H))
 refine gM (gI (by omega) ?_);have lA:fM 5 (.ptr lc 0) h=some (.agg (uC u vv vb vs)):=by
  obtain⟨j,ty,hc⟩:=C.c;rw[yL (C.H.get j hc),DZ (by simp)];rfl
 refine ed (fI _ _) (ed (by rfl) (ed lA ?_));refine Rb g C.H C.u λp d v q J r1=>?_;have lr:=r1.len;rw[B5,SB]at lr;refine ed lr ?_;have C1:=C.since q J;refine DB (λk s x1 D E G h'=>∃j:Nat,s = .ptr lc 0/\x1 = .I i/\D=v/\E = .I u.blocks.length/\G = .I (j:Nat)/\j+k=u.blocks.length/\h' = d) ?_ (k:=u.blocks.length) (by simp_all);rintro k s x1 D E G h' ⟨j,rfl,rfl,rfl,rfl,rfl,hk,rfl⟩;unfold wi;by_cases hj:j<u.blocks.length;rotate_left
 ·exact jf (r2 p h' q J)
 refine gR ?_;obtain⟨n,a⟩:∃n,u.blocks[j]? =some n:=by simp_all
 obtain ⟨l8,o8,w8,_,N,O,j3⟩:=r1.list (i:=j) (x:=Un.ahead u j) (by simp[hj]) .i64;obtain⟨l9,o9,P,R,A,_,l,_,_,_,f,m⟩:=C1.u.vf a;have am:(Un.ahead u j).length<=700:=by
  rw[<-pG];have:=pU g (i:=u.blocks.length) (j:=0) (b:=j) (jb _) (by omega);omega
 rw [g.ez j n a]at f;refine ed N (ed O (ed (fI _ _) (ed (by rfl) (ed (by rfl) (ed (C1.ld 3 rfl) (ed l (ed (by rfl) (ed m.ez ?_))))))));refine yQ j3 f (by omega) (ed rfl ?_);have e:uP (.bool (!true)) (oB (some (V.I j)) λae=>oB (eJ .eql 3 ae (V.I 0)) λag=>oB (some ag) λah=>mn ah (oB (some w8) λai=>oB (fD ai) λaj=>eJ .gtr 3 aj (V.I 0)))=some (.bool false):=by
  simp only[wCA,qd,fy,ie,j3.len,pS,jD];congr 2;rw[wB0];intro o;simp only[uF,EE,D1]at o;obtain⟨d,K⟩:=o;obtain rfl:j=0:=by omega
  rw[g.yA]at K;simp at K
 refine ed e (jF (gv (by simp) ?_));exact fS ⟨k-1,by omega,j+1,rfl,rfl,rfl,rfl,rfl,by omega,rfl⟩
end
open Un Dm
section
variable{F F':Nat->Prop}{h h':Hp}{cs:List Pc}{Q:fq}{u:U}{vv vb vs:V}
theorem ej.stF{α:Type}{E:o0 α}{ty:Nat}{xs:List α}{v:V}(H:ej F h cs)(i:Nat)(hi:cs[i]? =some (ev E ty xs v)){k j:Nat}{y:α}{a:V}(hk:k<xs.length)(c:j<E.sz)(d:a.one=true)(e:∀w,E.rel F h xs[k] w->E.rel F h y (w.set j a)) :
  ∃l h',hV E.sz v (.I k)=some (.ptr l (k*E.sz))/\gh 1 (.ptr l (k*E.sz+j)) a h=some (.val .undef h')/\h.next<=h'.next/\ej F h' (cs.set i (ev E ty (xs.set k y) v))/\Sn F h F h':=by
 obtain⟨t,h',n,f,g,m,b⟩:=(H.row i hi).store (k:=j) (y:=y) (u:=a) hk c d e;exact⟨t,h',f,g,b.next,H.zL hi b m λ_ h=> .inl h⟩
theorem ej.Ia{ty:Nat}{xs:List Nat}{v:V}(H:ej F h cs)(i:Nat)(hi:cs[i]? =some (ev eN ty xs v)){k x:Nat}(hx:xs[k]? =some x)(kd:IntKind):∃l o,hV 1 v (.int kd (k:Nat))=some (.ptr l o)/\eQ (.ptr l o) h=some (.I x):=by
 obtain⟨l,o,_,a,b⟩:=(H.row i hi).read.nat hx kd
 grind
theorem ej.NJ{ty:Nat}{xs:List Int}{v:V}(H:ej F h cs)(i:Nat)(hi:cs[i]? =some (ev eZ ty xs v)){k:Nat}{x:Int}(hx:xs[k]? =some x)(kd:IntKind):∃l o,hV 1 v (.int kd (k:Nat))=some (.ptr l o)/\eQ (.ptr l o) h=some (.I x):=by
 obtain⟨l,o,_,a,b⟩:=(H.row i hi).read.int hx kd
 grind
theorem ej.Nc{ty:Nat}{xs:List Bool}{v:V}(H:ej F h cs)(i:Nat)(hi:cs[i]? =some (ev eB ty xs v)){k:Nat}{x:Bool}(hx:xs[k]? =some x)(kd:IntKind):∃l o,hV 1 v (.int kd (k:Nat))=some (.ptr l o)/\eQ (.ptr l o) h=some (.bool x):=by
 obtain⟨l,o,_,a,b⟩:=(H.row i hi).read.bool hx kd
 grind
theorem RY{ty:Nat}{xs:List Nat}{v:V}(f:ej F h (ev eN ty xs v::cs))(h0:0<xs.length)(N:xs.length<1000000)(H:∀h',Sn F h F h'->ej F h' (ev eN ty xs.reverse v::cs)->Q (.tuple []) h') :
  cP CS kP [v] h Q:=by
 refine zP rfl rfl ?_;unfold rj;refine ed (f.len 0 rfl) (qa (by omega) h0 ?_)
 refine xZ (λk g j l h'=>∃(i:Nat) (ys:List Nat),g=v/\j = .I i/\l = .I ((xs.length-1-i:Nat):Int)/\i+k=xs.length/\2*i<=xs.length/\ys.length=xs.length/\
  (∀p,p<xs.length->ys[p]? =if p<i\/xs.length-i<=p then xs[xs.length-1-p]? else xs[p]?)/\Sn F h F h'/\ej F h' (ev eN ty ys v::cs)) ?_ (k:=xs.length)
  ⟨0,xs,rfl,rfl,by rw[Nat.sub_zero],by omega,by omega,rfl,by grind,Sn.refl _ _,f⟩
 rintro k g j l O ⟨i,ys,rfl,rfl,rfl,hk,t,w,m,x,c⟩;unfold oS;by_cases hij:i<xs.length-1-i
 ·refine gR ?_;obtain⟨a,n⟩:∃a,ys[i]? =some a:=by grind
  obtain⟨b,hb⟩:∃b,ys[xs.length-1-i]? =some b:=by grind
  obtain⟨l1,P,z,A⟩:=c.Ia 0 rfl hb .i64;obtain⟨l2,R,B,C⟩:=c.Ia 0 rfl n .i64;refine ed z (ed A (ed B (ed C ?_)));obtain⟨l3,S,T,o,q,D,r,E⟩:=c.Ma 0 rfl (k:=i) (y:=b) (u:=V.I b) (by omega) rfl rfl rfl;refine ed o ?_;rw[q,ei];simp only[jx]at r;obtain⟨l4,U,W,G,I,J,s,K⟩:=r.Ma 0 rfl (k:=xs.length-1-i) (y:=a) (u:=V.I a) (by simp;omega) rfl rfl rfl;refine⟨D,ed G ?_⟩;rw[I,ei];simp only[jx]at s;refine⟨J,fS (qa (by omega) (by omega) ?_)⟩;refine⟨k-1,by omega,i+1,(ys.set i b).set (xs.length-1-i) a,rfl,rfl,by rfl,by omega,by omega,by simp[w],λp d=>?_,(x.trans E).trans K,s⟩;have L:=m i (by omega);rw[if_neg (by omega),n]at L;have M:=m (xs.length-1-i) (by omega);rw[if_neg (by omega),hb]at M;by_cases o:p=xs.length-1-i
  ·grind
  ·rw[IB (by omega)];by_cases q:p=i
   ·simp_all
   grind
 ·refine jf ?_;have e:ys=xs.reverse:=by
   refine So λp=>?_;by_cases d:p<xs.length
   ·grind
   ·simp_all
  simp_all
theorem XB{α:Type}(s:List α)(x y:α):(s++[x]).set s.length y=s++[y]:=by simp
structure zaC (u:U):Prop where
 JN:1<=u.blocks.length
 nb:u.blocks.length<=300
 nx:∀(b:Nat),∀t∈next u b,t<u.blocks.length
 two:∀(b:Nat) (B:Bk),u.blocks[b]? =some B->B.next.length<=2
theorem IL(g:Good u):zaC u:=⟨g.JN,g.nb,g.nx,λb B a=>by
 rcases g.fin b B a with⟨_,h⟩|⟨_,h,_⟩|⟨_,h,_⟩
 ·omega
 ·omega
 simp_all⟩
theorem iG.vf{bs:List Bk}(a:iG eK F h bs vb){i:Nat}{x:Bk}(hx:bs[i]? =some x) :
  ∃l o v n p,F l/\hV 6 vb (.I i)=some (.ptr l o)/\fM 6 (.ptr l o) h=some (.agg (kS x v n p))/\iG eN F h x.ef v/\iG eN F h x.next n/\iG eN F h x.ez p/\zcJ h l o x v n p:=by
 obtain⟨hi,rfl⟩:=jk.1 hx;obtain⟨l,o,w,c,d,e,⟨v,n,p,rfl,f,g,j⟩,b⟩:=a.ix hi .i64;exact⟨l,o,v,n,p,c,d,e,f,g,j,⟨b 0 _ rfl,b 1 _ rfl,b 2 _ rfl,b 3 _ rfl,b 4 _ rfl,b 5 _ rfl⟩⟩
theorem Ig(g:zaC u)(H0:ej F h cs)(ho:fZ (uC u vv vb vs)=true)(U:iG eK F h u.blocks vb)(H:∀h' v seen post,Sn F h F h'->ej F h' (ev eN en post.reverse v::cs)->CL u.blocks.length (next u) seen post []->Q v h') :
  cP CS nN [.agg (uC u vv vb vs)] h Q:=by
 refine QW rfl rfl ?_;unfold I9;have nb:=g.nb;have JN:=g.JN;have o:∀b,b<u.blocks.length->∀t∈next u b,t<u.blocks.length:=λb _ t ht=>g.nx b t ht
 refine jP H0 ho λr H1 s1=>?_;refine ed (by rfl) (ed (H1.ld 0 rfl rfl) (ed (U.since s1).len ?_));rw[oC (z:=V.bool false) rfl (by decide) (by omega),fF];obtain⟨H2,s2⟩:=H1.make (E:=eB) (ty:=mg) (y:=false) (u:=V.bool false) u.blocks.length rfl rfl;have A:=s1.trans s2;refine ed (by rfl) (ed (H2.ld 1 rfl rfl) (ed (U.since A).len ?_));refine Co (gI (by omega) ?_);refine ed (by rfl) ?_;generalize r.new (.cells mg 1 true false (List.replicate u.blocks.length (V.bool false)))=W at*;have C:∀a b:Nat,jd tK 2 1 (V.agg [(V.I 0),(V.I 0)]) [(0,V.agg [.I (a:Nat),.I (b:Nat)])]=some (.cells tK 2 true false [.I (a:Nat),.I (b:Nat)],λl=> .slice l 0 1):=λa b=>by rfl
 have X:jd tK 2 1 (V.agg [(V.I 0),(V.I 0)]) [(0,V.agg [.I 0,.I 0])]=some (.cells tK 2 true false [.I ((0:Nat):Int),.I ((0:Nat):Int)],λl=> .slice l 0 1):=C 0 0;rw[X,fF]
 have H3:ej F W (ev eW tK [] .ee::ev eN en [] .ee::ev eB mg (List.replicate u.blocks.length false) (.slice r.next 0 u.blocks.length)::er h.next 29 (uC u vv vb vs)::cs):=
  (H2.add (p:=ev eN en [] .ee) .nil λ_ h=>h).add (p:=ev eW tK [] .ee) .nil λ_ h=>h
 obtain⟨v4,h4,e4,n4,H4,s4⟩:=H3.uI 0 rfl (kj:=16) (B2:=tK) (y:=(0,0)) (w:=[.I ((0:Nat):Int),.I ((0:Nat):Int)]) (ro:=false) rfl (by decide) (by decide) (by simp);have Y:eR 114 2 16 V.ee (.slice W.next 0 1) (W.new (.cells tK 2 true false [.I ((0:Nat):Int),.I ((0:Nat):Int)]))=some (.val v4 h4):=e4;rw[Y,ei];simp only[jx,MR]at H4;obtain⟨l5,o5,h5,e5,e6,n5,H5,s5⟩:=H4.Ma 2 rfl (k:=0) (y:=true) (u:=V.bool true) (by simp;omega) rfl rfl rfl;refine ed e5 ?_;rw[e6,ei];simp only[lU,jx]at H5;refine LH ?_;unfold De;have Z:=(A.trans s4).trans s5
 refine Kh (λk x1 x3 x4 D h'=>∃(seen:List Bool) (post:List Nat) (stack:List (Nat×Nat)),x1 = .ptr h.next 0/\x3 = .slice r.next 0 u.blocks.length/\k=mu u.blocks.length (next u) seen stack/\CL u.blocks.length (next u) seen post stack/\Sn F h F h'/\
  ej F h' (ev eW tK stack D::ev eN en post x4::ev eB mg seen (.slice r.next 0 u.blocks.length)::er h.next 29 (uC u vv vb vs)::cs)) ?_ (k:=mu u.blocks.length (next u) ((List.replicate u.blocks.length false).set 0 true) [(0,0)])
  ⟨_,[],[(0,0)],rfl,rfl,rfl,CL.start (by omega) o,Z,H5⟩
 rintro k x1 x3 x4 D h6 ⟨seen,post,stack,rfl,rfl,hk,G,I,d⟩;unfold D2;have aa:=G.nodup;have ay:post.length<=u.blocks.length:=jr _ _ (by grind) G.pre;have ab:stack.length<=u.blocks.length:=by
  have:=jr u.blocks.length _ (Zq.1 aa).2.1 λx hx=>by
   obtain⟨y,hy,rfl⟩:=GL.1 hx;exact(G.range y hy).1
  simpa using this
 refine ed (d.len 0 rfl) ?_;rcases kY stack with rfl|⟨s,⟨b,i⟩,rfl⟩
 ·refine Co (gv (by simp) ?_);have ac:0<post.length:=by
   obtain⟨p,hp⟩:=G.last rfl;rw[hp];simp
  refine RY d.tail ac (by omega) λh7 R e=>?_;exact H _ _ seen post (I.trans R) e.Hz.Hz G
 have ax:s.length+1<=u.blocks.length:=by simpa using ab
 refine Co (gI (by simp_all) ?_);have hlen:(s++[(b,i)]).length-1=s.length:=by simp
 have f:s.length<(s++[(b,i)]).length:=by simp
 have J:(s++[(b,i)])[s.length]'f=(b,i):=by simp
 obtain⟨aA,ae⟩:=G.range (b,i) (by simp);obtain⟨B,hB⟩:∃B,u.blocks[b]? =some B:=by simp_all
 have K:next u b=B.next:=by unfold next;rw[hB]
 simp only[K]at ae;refine ed (d.len 0 rfl) (qa (by omega) (by simp) ?_);rw[hlen];obtain⟨l7,h7,S,e8,n7,e,R⟩:=d.stF 0 rfl (k:=s.length) (j:=1) (y:=(b,i+1)) (a:= .I ((i+1:Nat):Int)) f (by decide) rfl (λw T=>by
  rw[J]at T;have T:w=[.I b,.I i]:=T;subst T;rfl)
 have S:hV 2 D (.I s.length)=some (.ptr l7 (s.length*2)):=S;obtain⟨l8,o8,w8,i1,i2,i3,i4⟩:=d.ix 0 rfl f .i64;rw[J]at i3;obtain rfl:w8=[.I b,.I i]:=i3;have i1:hV 2 D (.I s.length)=some (.ptr l8 o8):=i1;rw[S]at i1;obtain⟨rfl,rfl⟩:l7=l8/\s.length*2=o8:=by
  simp_all
 have ib:=i4 0 _ rfl;have ii:=i4 1 _ rfl;obtain⟨lb,ob,bv,bn,bp,_,b1,b2,iv,iN,ip,ba⟩:=(U.since I).vf hB;refine ed S (ed (by rfl) (ed (d.ld 3 rfl rfl) (ed (fI _ _) (ed (by rfl) (ed ib (ed b1 (ed (by rfl) (ed ba.next ?_))))))));refine ed (fI _ _) (ed (by rfl) (ed ii (ed iN.len ?_)));by_cases hi:i=B.next.length
 ·refine gM (gI (by omega) ?_);refine ed (fI _ _) (ed (by rfl) (ed ib ?_));rw[mN,fF];obtain⟨v9,h9,e9,n9,H9,s9⟩:=d.uI 1 rfl (kj:=8) (B2:=3) (y:=b) (w:=iT [b]) (ro:=false) rfl (by decide) (by decide) (by omega);have ag:eR 3 1 8 x4 (.slice h6.next 0 1) (h6.new (.cells 3 1 true false (iT [b])))=some (.val v9 h9):=e9;rw[ag,ei];simp only[lU,jx]at H9;refine ed (H9.len 0 rfl) (qa (by omega) (by simp) ?_);rw[hlen];obtain⟨aB,m,c⟩:=H9.ZN 0 rfl (n:=s.length) (by simp);refine ed m ?_;simp only[jx]at c;have et:(s++[(b,i)]).take s.length=s:=by simp
  rw[et]at c;exact⟨_,by grind[zaZ],seen,post++[b],s,rfl,rfl,rfl,G.pop (by simp_all),I.trans s9,c⟩
 refine gM (gv (by omega) ?_);have ah:i<B.next.length:=by omega
 have aC:B.next.length<=2:=g.two b B hB;have ht:(next u b)[i]? =some B.next[i]:=by rw[K];exact by simp_all
 have ai:B.next[i]<u.blocks.length:=by grind[EA]
 obtain⟨l9,o9,_,j1,j2⟩:=iN.nat (g0 ah) .i64;refine ed (fI _ _) (ed (by rfl) (ed ii (ed j1 (ed j2 ?_))));refine ed (fI _ _) (ed (by rfl) (ed ii (fS ?_)));refine ed (fI _ _) (ed (by rfl) ?_);have e8:gh 1 (.ptr l7 (s.length*2+1)) (.I ((i+1:Nat):Int)) h6=some (.val .undef h7):=e8;rw[e8,ei];simp only[jx,XB]at e;have aj:seen.length=u.blocks.length:=G.len;have L:=e.len 2 (xs:=seen) rfl;rw[aj]at L;refine ed L (yi ?_);rw[O7 ai];obtain⟨q,hq⟩:∃q,seen[B.next[i]]? =some q:=by simp_all
 obtain ⟨lq,oq,q1,q2⟩:=e.Nc 2 rfl hq .i64;have ea:mn (.bool true) (oB (some (V.slice r.next 0 u.blocks.length)) λak=>oB (some (V.I (B.next[i]:Nat))) λal=>oB (hV 1 ak al) λam=>oB (eQ am h7) λan=>vC .not an)=some (.bool (!q)):=by
  simp only[Eo,fy,q1,q2,TK]
 refine ed ea (jF ?_)
 cases q with
 | true=>
   refine gv (by simp) ?_
   exact⟨_,by grind[Y0],seen,post,s++[(b,i+1)],rfl,rfl,rfl,G.skip ht hq,I.trans R,e⟩
 | false=>
   refine gI rfl ?_;have M:¬pj seen B.next[i]:=by unfold pj;rw[hq];simp
   obtain⟨l10,aD,N,m,ao,aE,c,ap⟩:=e.Ma 2 rfl (k:=B.next[i]) (y:=true) (u:=V.bool true) (by omega) rfl rfl rfl;refine ed m ?_;rw[ao,ei];simp only[lU,jx]at c;refine ed (show _=some (V.agg [.I (B.next[i]:Nat),.I ((0:Nat):Int)]) from rfl) ?_;rw[C,fF];obtain⟨aq,ar,au,aF,O,aw⟩:=c.uI 0 rfl (kj:=16) (B2:=tK) (y:=(B.next[i],0)) (w:=[.I (B.next[i]:Nat),.I ((0:Nat):Int)]) (ro:=false) rfl (by decide) (by decide) (by simp;omega);have P:eR 114 2 16 D (.slice N.next 0 1) (N.new (.cells tK 2 true false [.I (B.next[i]:Nat),.I ((0:Nat):Int)]))=some (.val aq ar):=au;rw[P,ei];simp only[jx]at O;exact⟨_,by rw[hk];exact ZX G ht M,_,post,s++[(b,i+1)]++[(B.next[i],0)],rfl,rfl,rfl,G.push ht M,((I.trans R).trans ap).trans aw,O⟩
theorem Qi(g:Good u)(c:ej F h cs)(a:tL F h u vv vb vs)(H:∀F' h' v seen post,Sn F h F' h'->ej F' h' cs->CL u.blocks.length (next u) seen post []->iG eN F' h' post.reverse v->Q v h') :
  cP CS nN [.agg (uC u vv vb vs)] h Q:=
 Ig (IL g) c a.one a.b λh' v seen post d e G=>by
  obtain⟨f,i,r2⟩:=e.lH 0 rfl;exact H _ _ v seen post (d.trans i) f.tail G r2
end
