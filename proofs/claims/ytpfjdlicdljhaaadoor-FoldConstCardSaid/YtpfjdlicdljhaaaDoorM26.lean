/- Parts. -/
import Derived.Test.YtpfjdlicdljhaaaDoorM25
set_option maxHeartbeats 4000000
namespace Go.Proofs.YtpfjdlicdljhaaaDoor.Hx
open Un Dm
theorem PG(h:Hp):∀op:Nat,1<=op->op<=23->∃s,s≠[]/\CS.K yw [.I (op:Nat)] h=some (.str s)
 |0,h,_=>by omega
 |1,_,_=>⟨_,by decide,rfl⟩
 |2,_,_=>⟨_,by decide,rfl⟩
 |3,_,_=>⟨_,by decide,rfl⟩
 |4,_,_=>⟨_,by decide,rfl⟩
 |5,_,_=>⟨_,by decide,rfl⟩
 |6,_,_=>⟨_,by decide,rfl⟩
 |7,_,_=>⟨_,by decide,rfl⟩
 |8,_,_=>⟨_,by decide,rfl⟩
 |9,_,_=>⟨_,by decide,rfl⟩
 |10,_,_=>⟨_,by decide,rfl⟩
 |11,_,_=>⟨_,by decide,rfl⟩
 |12,_,_=>⟨_,by decide,rfl⟩
 |13,_,_=>⟨_,by decide,rfl⟩
 |14,_,_=>⟨_,by decide,rfl⟩
 |15,_,_=>⟨_,by decide,rfl⟩
 |16,_,_=>⟨_,by decide,rfl⟩
 |17,_,_=>⟨_,by decide,rfl⟩
 |18,_,_=>⟨_,by decide,rfl⟩
 |19,_,_=>⟨_,by decide,rfl⟩
 |20,_,_=>⟨_,by decide,rfl⟩
 |21,_,_=>⟨_,by decide,rfl⟩
 |22,_,_=>⟨_,by decide,rfl⟩
 |23,_,_=>⟨_,by decide,rfl⟩
 |n+24,_,h=>by omega
theorem Xp{h:Hp}{X:Option (V×Hp)}{K:dg}(H:oP X λy=>K y.1 y.2):oP (dA true (.bool true)) λb=>ZL b h X K:=H
section
variable{F F':Nat->Prop}{h h':Hp}{cs:List Pc}{Q:dg}{u:U}{vv vb vs:V}{lc:Nat}{bl pl Ay:V}
theorem SU{op:Nat}(a:1<=op)(b:op<=23)(H:∀s,s≠[]->Q (.str s) h):cP CS yw [.I op] h Q:=by
 obtain⟨fn,c,d,e⟩:=KA;obtain⟨s,hs,hk⟩:=PG h op a b;exact cP.known d e hk rfl rfl (H s hs)
theorem K4{b:Nat}{x:Vl}{w v:V}{ys:List Vl}(z:cS F h (cV b dP (kN x w)::cs))(p:fJ eV F h ys v)(K:ys.length<1000000)(A:∀y∈ys,¬(y.op=1/\y.n=x.n))
  (H:∀h',Sn F h F h'->cS F h' (cV b dP (kN x w)::cs)->Q (.bool false) h'):cP CS en [v,.func fT [] [.ptr b 0]] h Q:=by
 refine mm rfl rfl ?_;unfold iB;refine po rfl rfl ?_;unfold iZ;refine cO p.len ?_
 refine mq (λk q r s t h'=>∃i:Nat,q=v/\r = .func fT [] [.ptr b 0]/\s = .I ys.length/\t = .I (i:Nat)/\i+k=ys.length/\Sn F h F h'/\cS F h' (cV b dP (kN x w)::cs)) ?_ (k:=ys.length)
  ⟨0,rfl,rfl,rfl,rfl,by omega,Sn.refl _ _,z⟩
 rintro k q r s t h' ⟨i,rfl,rfl,rfl,rfl,hk,g,u⟩;unfold iD;by_cases hi:i<ys.length;rotate_left
 ·refine fq ?_;refine cO (oD _ _ _ _) ?_;exact H h' g u
 refine dZ ?_;obtain⟨l,o,c,_,B,C,⟨a,rfl,D⟩,_⟩:=(p.since g).ix hi .i64;refine cO B (cO C ?_);show cP CS fT [.agg (kN ys[i] a),.ptr b 0] h' _;refine Bc rfl rfl ?_;unfold tC;refine kX u (by simp only[kN,cY,D.one];rfl) λd f E=>?_;refine cO (by rfl) (cO (f.ld 0 rfl rfl) (cO (by rfl) ?_));have e:il (.bool (((ys[i].op:Nat):Int) == 1)) (oB (dE 3 (.ptr h'.next 0)) λG=>oB (df G d) λI=>oB (dE 3 (.ptr b 0)) λj=>oB (df j d) λm=>cX .eql 2 I m)=some (.bool false):=by
  have l1:df (.ptr h'.next (0+3)) d=some (.I ys[i].n):=f.ld 0 rfl rfl;have l2:df (.ptr b (0+3)) d=some (.I x.n):=f.ld 1 rfl rfl;simp only[dB,c0,l1,l2,fx,fW];congr 2;rw[Vu];intro J;simp only[rm,CG]at J;exact by grind
 refine cO e (fK (dM (by simp) ?_));exact du ⟨k-1,by omega,i+1,rfl,rfl,rfl,rfl,by omega,g.trans E,f.tail⟩
theorem RB{a:Nat}{x:Vl}{w:V}{a0:V}(b:a0 = .ptr lc 0)(C:Ck F h (cV a dP (kN x w)::cs) lc u vv vb vs bl pl Ay)(H:leaves x.op=true->x.state<u.cZ.length)(hc:a≠lc)(I:df (.ptr a 5) h=some (.I x.state)){K:dg}(E:K (.bool false) h) :
  oP (dA true (.bool (leaves x.op))) λc=>
  oP (gV c (dE 5 (.ptr a 0))) λd=>
  oP (dA true (.bool (leaves x.op))) λe=>
  oP (gV e (df d h)) λf=>
  oP (dA true (.bool (leaves x.op))) λg=>
  oP (gV g (some a0)) λi=>
  oP (dA true (.bool (leaves x.op))) λj=>
  oP (gV j (fe i)) λk=>
  oP (dA true (.bool (leaves x.op))) λl=>
  oP (gV l (dE 0 k)) λm=>
  oP (dA true (.bool (leaves x.op))) λn=>
  oP (gV n (dE 4 m)) λo=>
  oP (dA true (.bool (leaves x.op))) λp=>
  oP (gV p (df o h)) λq=>
  oP (dA true (.bool (leaves x.op))) λr=>
  oP (gV r (dD q)) λt=>
  oP (dA true (.bool (leaves x.op))) λv=>
  oP (gC v (some (gU,[f,t]))) λy=>tv CS y h λz G=>
  (h.next<=G.next/\
  oP (dA true (.bool (leaves x.op))) λA=>
  oP (gV A (lB .not z)) λB=>
  oP (kI (.bool false) (js (.bool (leaves x.op)) B (V.bool false))) λD=>K D G):=by
 subst b
 cases hq:leaves x.op with
 | true=>
   have:=H hq;refine dV (cO (by rfl) (dV (cO I (dV (cO rfl (dV (cO (dq _ _) (dV (cO (by rfl) (dV (cO (by rfl) (dV (cO (C.ld 4 rfl) (dV (cO C.u.s.len (xN ?_))))))))))))))));refine uD ⟨iC _,dV ?_⟩;rw[Ka this]
   exact cO rfl (cO rfl E)
 |false=>exact er (er (er (er (er (er (er (er (Aa ⟨iC _,er (cO rfl E)⟩))))))))
theorem VW(g:Good u)(C:Ck F h cs lc u vv vb vs bl pl Ay){xs ys:List Int}(z:fJ eZ F h xs bl)(S:Std u u.blocks.length 0 xs ys){i:Nat}(hi:i<u.cR.length)(P:lc<h.next)
  (H:∀F' h',Sn F h F' h'->cS F' h' cs->Q (.bool true) h'):cP CS gP [.ptr lc 0,.I i] h Q:=by
 refine Dl rfl rfl ?_;unfold qM;have nv:=g.nv;have nb:=g.nb;obtain⟨x,d⟩:∃x,u.cR[i]? =some x:=by simp_all
 obtain ⟨b,k,f⟩:=g.yx i hi trivial;obtain⟨B,r,hk⟩:=id f;have o:=g.op i x d;have p:=g.use i x d;have A:B.c8.length<=700:=by
  rw[g.c8 b B r,<-kz];have:=kj g (i:=u.blocks.length) (j:=0) (b:=b) (iC _) (by omega);omega
 have D:x.op=21\/x.op=20->x.args.length<=700:=by
  rintro(E|E)
  ·rw[(g.xI _ _ _ _ _ f d E r).2];exact A
  ·rw[g.putAt i x d E];omega
 obtain⟨l1,o1,w,_,R,T,N,_⟩:=C.u.val d;refine cO (dq _ _) (cO (by rfl) (cO (by rfl) (cO (C.ld 2 rfl) (cO R (cO T ?_)))));refine fo C.H rfl rfl (by simp only[kN,cY,N.one];rfl) λh2 t G=>?_;have C2:=C.cons G t;have l:=N.since G;refine cO (by rfl) (cO (t.ld 0 rfl rfl) ?_);refine SU o.1 o.2 λs hs=>⟨iC _,?_⟩
 refine cO (by rfl) ?_;rw[show(s == [])=false from QO.2 hs];refine dr (cO rfl (dr (cO (t.zt 0 rfl rfl) (tD ?_))));refine I8 t l (by omega) λF3 O v q a r3=>⟨q.next,?_⟩
 have C3:=C2.since q a;have c:=G.trans q;refine tD (C0 C3 r3 (by grind[DB]) p ⟨iC _,cO rfl ?_⟩);refine dr (cO (by rfl) (dr (cO (a.ld 0 rfl rfl) (tD ?_))));refine DP ⟨iC _,dr (cO rfl ?_)⟩;refine RB rfl C3 (g.leave i x d) (by omega) (a.ld 0 rfl rfl) ?_;refine fK (dM (by simp) ?_);refine cO (by rfl) (cO (a.ld 0 rfl rfl) ?_);by_cases I:x.op=20
 ·refine eh (ei (by omega) ?_);refine cO (by rfl) (cO (a.ld 0 rfl rfl) (cO (l.since q).len (ev ?_)));rw[g.putAt i x d I];exact H _ _ c a.tail
 refine eh (dM (by omega) ?_);by_cases J:x.op=21
 ·refine eh (ei (by omega) ?_);obtain⟨lb,ob,_,b1,b2⟩:=(z.since c).int ((S.yes i b k f (by grind)).1) .i64;obtain⟨l7,o7,bv,bn,bp,_,K,_,_,_,ip,U⟩:=C3.u.jB r;refine cO (by rfl) (cO (a.ld 0 rfl rfl) (cO (l.since q).len ?_));refine cO (dq _ _) (cO (by rfl) (cO (by rfl) (cO (C3.ld 3 rfl) (cO (dq _ _) (cO (by rfl) (cO (C3.ld 5 rfl) (cO b1 (cO b2 (cO K ?_)))))))));refine cO (by rfl) (cO U.c8 (cO ip.len (ev ?_)));rw[(g.xI _ _ _ _ _ f d J r).2,Ka rfl];exact H _ _ c a.tail
 refine eh (dM (by omega) ?_);by_cases W:x.op=1
 ·refine eh (ei (by omega) ?_);obtain⟨p1,X,p3⟩:=g.param i x d W;refine cO (by rfl) (cO (a.ld 0 rfl rfl) (cO (by rfl) ?_));have e:il (.bool (decide ((0:Int)<=x.n))) (oB (dE 3 (.ptr h.next 0)) λL=>oB (df L O) λM=>cX .lss 2 M (V.I 40))=some (.bool true):=by
   have l1:df (.ptr h.next (0+3)) O=some (.I x.n):=a.ld 0 rfl rfl;simp only[dB,c0,l1,jZ,fW];simp[p1,X]
  refine cO e ?_;obtain⟨vc,Y,r1⟩:=C3.u.v.cut (lo:=none) (hi:=some (.I i)) (m:=0) (n:=i) rfl (by rfl) (J9 _) (by omega);rw[UH]at r1;refine dV (cO rfl (dV (cO (dq _ _) (dV (cO (by rfl) (dV (cO (by rfl) (dV (cO (C3.ld 2 rfl) (dV (cO rfl (dV (cO Y (dV (cO rfl (xN ?_))))))))))))))));refine K4 a r1 (by grind) (λy hy hh=>?_) λh4 Z H4=>cO rfl (H _ _ (c.trans Z) H4.tail)
  grind[kh,gL,JQ,X2]
 ·refine eh (dM (by omega) ?_);exact H _ _ c a.tail
theorem SK(g:Good u)(C:Ck F h cs lc u vv vb vs bl pl Ay){i:Nat}{B:Bk}(p:u.blocks[i]? =some B)(H:∀F' h',Sn F h F' h'->cS F' h' cs->Q (.bool true) h'):cP CS jd [.ptr lc 0,.I i] h Q:=by
 refine Ca rfl rfl ?_;unfold uK;have c:=g.fin i B p;have nv:=g.nv;have nb:=g.nb;obtain⟨l7,M,N,y,O,_,z,A,D,d,ip,_⟩:=C.u.jB p;refine cO (dq _ _) (cO (by rfl) (cO (by rfl) (cO (C.ld 3 rfl) (cO z (cO A ?_)))));refine fo C.H rfl rfl (by simp only[nV,cY,D.one,d.one,ip.one];rfl) λG a e=>?_;have C2:=C.cons e a;have d:=d.since e;refine cO (by rfl) (cO (a.ld 0 rfl rfl) (cO d.len ?_));have I:B.next.length<=2:=by
  rcases c with⟨_,h⟩|⟨_,h,_⟩|⟨_,h,_⟩
  ·omega
  ·omega
  ·simp_all
 refine zI (λk q r f l m h'=>∃j:Nat,q = .ptr lc 0/\r = .ptr h.next 0/\f=y/\l = .I B.next.length/\m = .I (j:Nat)/\j+k=B.next.length/\h' = G) ?_ (k:=B.next.length) (by simp_all);rintro k q r f l m h' ⟨j,rfl,rfl,rfl,rfl,rfl,hk,rfl⟩;unfold rN;by_cases hj:j<B.next.length
 ·refine dZ ?_;obtain⟨l8,P,_,J,K⟩:=d.nat (fg hj) .i64;have L:B.next[j]<u.blocks.length:=g.nx i _ (by grind[next,ym]);refine cO J (cO K (cO (dq _ _) (cO (by rfl) (cO (by rfl) (cO (C2.ld 3 rfl) (cO C2.u.b.len ?_))))));refine uD (qI (ei (by simp_all) ?_));exact du ⟨k-1,by omega,j+1,rfl,rfl,rfl,rfl,rfl,by omega,rfl⟩
 refine fq ?_;refine cO (by rfl) (cO (a.ld 0 rfl rfl) ?_);rcases c with⟨t,o⟩|⟨t,o,v⟩|⟨t,o,v⟩
 ·refine eh (ei (by omega) ?_);refine cO (by rfl) (cO (a.ld 0 rfl rfl) (cO d.len (ev ?_)));rw[o];exact H _ _ e a.tail
 ·refine eh (dM (by omega) ?_);refine eh (ei (by omega) ?_);refine cO (by rfl) (cO (a.ld 0 rfl rfl) (cO d.len (ev ?_)));rw[o,show decide (((2:Nat):Int)=2)=true from rfl];refine dV (cO rfl (dV (cO (by rfl) (dV (cO (a.ld 0 rfl rfl) (Xp ?_))))));rw[kH,c0];obtain⟨w,x,r3⟩:=a.Ou (E:=eN) (xs:=[B.cond]) (n:=1) cT rfl (vw F h' [B.cond]) false;have C3:=C2.since x w;refine cO rfl (xN ?_);refine C0 C3 r3 (by simp) (by simp_all) (cO rfl ?_);exact H _ _ (e.trans x) w.tail
 ·refine eh (dM (by omega) ?_);refine eh (dM (by omega) ?_);refine eh (ei (by omega) ?_);refine cO (by rfl) (cO (a.ld 0 rfl rfl) (cO d.len (ev ?_)));rw[o,show decide ((([]:List Nat).length:Int)=0)=true from rfl];refine dV (cO (by rfl) (dV (cO (a.ld 0 rfl rfl) (dV (cO rfl (dV (cO (dq _ _) (dV (cO (by rfl) (dV (cO (by rfl) (dV (cO (C2.ld 4 rfl) (dV (cO C2.u.s.len (xN ?_))))))))))))))));refine uD ⟨iC _,?_⟩;rw[Ka v];exact cO rfl (H _ _ e a.tail)
theorem U0(g:Good u)(C:Ck F h cs lc u vv vb vs bl pl Ay){i:Nat}{B:Bk}(I:u.blocks[i]? =some B)(H:∀F' h',Sn F h F' h'->cS F' h' cs->Q (.bool true) h'):cP CS jE [.ptr lc 0,.I i] h Q:=by
 refine CD rfl rfl ?_;unfold wE;have nv:=g.nv;have nb:=g.nb;have r2:∀p d,Sn F h p d->cS p d cs->jD CS Q (.ptr lc 0) (.I i) d:=by
  intro p d q J;have C1:=C.since q J;refine AG ?_;unfold tf;obtain⟨l7,o7,bv,bn,bp,_,i1,i2,iv,r,ip,_⟩:=C1.u.jB I;refine cO (dq _ _) (cO (by rfl) (cO (by rfl) (cO (C1.ld 3 rfl) (cO i1 (cO i2 ?_)))));refine fo C1.H rfl rfl (by simp only[nV,cY,iv.one,r.one,ip.one];rfl) λK L M=>?_;have C2:=C1.cons M L;have r:=r.since M;refine cO (by rfl) (cO (L.ld 0 rfl rfl) (cO r.len ?_));have ak:B.next.length<=2:=by
   rcases g.fin i B I with⟨_,h⟩|⟨_,h,_⟩|⟨_,h,_⟩
   ·omega
   ·omega
   ·simp_all
  refine AA (λk s x7 t w y h'=>∃j:Nat,s = .ptr lc 0/\x7 = .ptr d.next 0/\t=bn/\w = .I B.next.length/\y = .I (j:Nat)/\j+k=B.next.length/\h' = K) ?_ (k:=B.next.length) (by simp_all);rintro k s x7 t w y h' ⟨j,rfl,rfl,rfl,rfl,rfl,hk,rfl⟩;unfold sW;by_cases hj:j<B.next.length;rotate_left
  ·exact fq (H _ _ (q.trans M) L.tail)
  refine dZ ?_;obtain⟨l8,o8,_,N,O⟩:=r.nat (fg hj) .i64;have z:B.next[j]∈next u i:=by unfold next;rw[I];exact ym hj
  have al:B.next[j]<u.blocks.length:=g.nx i _ z;obtain⟨n,a⟩:∃n,u.blocks[B.next[j]]? =some n:=by simp_all
  obtain ⟨l9,o9,P,R,A,_,l,_,_,_,f,m⟩:=C2.u.jB a;refine cO N (cO O (cO (by rfl) (cO (L.ld 0 rfl rfl) (cO (by rfl) ?_))));have e:il (.bool (((B.fin:Nat):Int) == 2)) (oB (some (V.ptr lc 0)) λS=>oB (fe S) λT=>oB (dE 0 T) λU=>oB (dE 3 U) λW=>oB (df W h') λX=>oB (some (V.I (B.next[j]:Nat))) λY=>oB (eX 6 X Y) λZ=>oB (dE 4 Z) λaa=>oB (df aa h') λab=>oB (dD ab) λac=>cX .neq 3 ac (V.I 1))=some (.bool false):=by
   have l1:df (.ptr lc (0+0+3)) h' = some vb:=C2.ld 3 rfl;have l2:df (.ptr l9 (o9+4)) h' = some A:=m.c8;simp only[c0,dq,dB,l1,l,l2,f.len,mf,fW];congr 2;rw[Vu];intro o;simp only[rm,CG,bne_iff_ne]at o;have d:=g.GJ i B I (by omega) (B.next[j]) (ym hj);rw[g.c8 _ _ a,d]at o;exact o.2 rfl
  refine cO e (fK (dM (by simp) ?_));exact du ⟨k-1,by omega,j+1,rfl,rfl,rfl,rfl,rfl,by omega,rfl⟩
 by_cases hi:i=0;rotate_left
 ·exact eh (dM (by omega) (r2 F h (Sn.refl _ _) C.H))
 refine eh (ei (by omega) ?_);have lA:eg 5 (.ptr lc 0) h=some (.agg (uC u vv vb vs)):=by
  obtain⟨j,ty,hc⟩:=C.c;rw[xF (C.H.get j hc),yW (by simp)];rfl
 refine cO (dq _ _) (cO (by rfl) (cO lA ?_));refine Lu g C.H C.u λp d v q J r1=>?_;have lr:=r1.len;rw[yn,Kc]at lr;refine cO lr ?_;have C1:=C.since q J;refine z6 (λk s x1 D E G h'=>∃j:Nat,s = .ptr lc 0/\x1 = .I i/\D=v/\E = .I u.blocks.length/\G = .I (j:Nat)/\j+k=u.blocks.length/\h' = d) ?_ (k:=u.blocks.length) (by simp_all);rintro k s x1 D E G h' ⟨j,rfl,rfl,rfl,rfl,rfl,hk,rfl⟩;unfold tg;by_cases hj:j<u.blocks.length;rotate_left
 ·exact fq (r2 p h' q J)
 refine dZ ?_;obtain⟨n,a⟩:∃n,u.blocks[j]? =some n:=by simp_all
 obtain ⟨l8,o8,w8,_,N,O,j3⟩:=r1.list (i:=j) (x:=Un.ahead u j) (by simp[hj]) .i64;obtain⟨l9,o9,P,R,A,_,l,_,_,_,f,m⟩:=C1.u.jB a;have am:(Un.ahead u j).length<=700:=by
  rw[<-kz];have:=kj g (i:=u.blocks.length) (j:=0) (b:=j) (iC _) (by omega);omega
 rw [g.c8 j n a]at f;refine cO N (cO O (cO (dq _ _) (cO (by rfl) (cO (by rfl) (cO (C1.ld 3 rfl) (cO l (cO (by rfl) (cO m.c8 ?_))))))));refine Rk j3 f (by omega) (cO rfl ?_);have e:kI (.bool (!true)) (oB (some (V.I j)) λae=>oB (cX .eql 3 ae (V.I 0)) λag=>oB (some ag) λah=>il ah (oB (some w8) λai=>oB (dD ai) λaj=>cX .gtr 3 aj (V.I 0)))=some (.bool false):=by
  simp only[Vq,j6,c0,fx,j3.len,qR,fW];congr 2;rw[Vu];intro o;simp only[rm,CG,zv]at o;obtain⟨d,K⟩:=o;obtain rfl:j=0:=by omega
  rw[g.uG]at K;simp at K
 refine cO e (fK (dM (by simp) ?_));exact du ⟨k-1,by omega,j+1,rfl,rfl,rfl,rfl,rfl,by omega,rfl⟩
end
open Un Dm
section
variable{F F':Nat->Prop}{h h':Hp}{cs:List Pc}{Q:dg}{u:U}{vv vb vs:V}
theorem cS.YV{α:Type}{E:oY α}{ty:Nat}{xs:List α}{v:V}(H:cS F h cs)(i:Nat)(hi:cs[i]? =some (cW E ty xs v)){k j:Nat}{y:α}{a:V}(hk:k<xs.length)(c:j<E.sz)(d:a.one=true)(e:∀w,E.rel F h xs[k] w->E.rel F h y (w.set j a)) :
  ∃l h',eX E.sz v (.I k)=some (.ptr l (k*E.sz))/\fk 1 (.ptr l (k*E.sz+j)) a h=some (.val .undef h')/\h.next<=h'.next/\cS F h' (cs.set i (cW E ty (xs.set k y) v))/\Sn F h F h':=by
 obtain⟨t,h',n,f,g,m,b⟩:=(H.row i hi).store (k:=j) (y:=y) (u:=a) hk c d e;exact⟨t,h',f,g,b.next,H.xS hi b m λ_ h=> .inl h⟩
theorem cS.E2{ty:Nat}{xs:List Nat}{v:V}(H:cS F h cs)(i:Nat)(hi:cs[i]? =some (cW eN ty xs v)){k x:Nat}(a:xs[k]? =some x)(kd:IntKind):∃l o,eX 1 v (.int kd (k:Nat))=some (.ptr l o)/\df (.ptr l o) h=some (.I x):=by
 obtain⟨l,o,_,b,c⟩:=(H.row i hi).read.nat a kd
 grind
theorem cS.L9{ty:Nat}{xs:List Int}{v:V}(H:cS F h cs)(i:Nat)(hi:cs[i]? =some (cW eZ ty xs v)){k:Nat}{x:Int}(a:xs[k]? =some x)(kd:IntKind):∃l o,eX 1 v (.int kd (k:Nat))=some (.ptr l o)/\df (.ptr l o) h=some (.I x):=by
 obtain⟨l,o,_,b,c⟩:=(H.row i hi).read.int a kd
 grind
theorem cS.EF{ty:Nat}{xs:List Bool}{v:V}(H:cS F h cs)(i:Nat)(hi:cs[i]? =some (cW eB ty xs v)){k:Nat}{x:Bool}(a:xs[k]? =some x)(kd:IntKind):∃l o,eX 1 v (.int kd (k:Nat))=some (.ptr l o)/\df (.ptr l o) h=some (.bool x):=by
 obtain⟨l,o,_,b,c⟩:=(H.row i hi).read.bool a kd
 grind
theorem Mn{ty:Nat}{xs:List Nat}{v:V}(f:cS F h (cW eN ty xs v::cs))(h0:0<xs.length)(O:xs.length<1000000)(H:∀h',Sn F h F h'->cS F h' (cW eN ty xs.reverse v::cs)->Q (.tuple []) h') :
  cP CS ij [v] h Q:=by
 refine wU rfl rfl ?_;unfold nP;refine cO (f.len 0 rfl) (DC (by omega) h0 ?_)
 refine uf (λk g j l h'=>∃(i:Nat) (ys:List Nat),g=v/\j = .I i/\l = .I ((xs.length-1-i:Nat):Int)/\i+k=xs.length/\2*i<=xs.length/\ys.length=xs.length/\
  (∀p,p<xs.length->ys[p]? =if p<i\/xs.length-i<=p then xs[xs.length-1-p]? else xs[p]?)/\Sn F h F h'/\cS F h' (cW eN ty ys v::cs)) ?_ (k:=xs.length)
  ⟨0,xs,rfl,rfl,by rw[Nat.sub_zero],by omega,by omega,rfl,by grind,Sn.refl _ _,f⟩
 rintro k g j l P ⟨i,ys,rfl,rfl,rfl,hk,w,x,m,z,c⟩;unfold kY;by_cases hij:i<xs.length-1-i
 ·refine dZ ?_;obtain⟨a,n⟩:∃a,ys[i]? =some a:=by grind
  obtain⟨b,o⟩:∃b,ys[xs.length-1-i]? =some b:=by grind
  obtain⟨l1,R,A,B⟩:=c.E2 0 rfl o .i64;obtain⟨l2,S,C,D⟩:=c.E2 0 rfl n .i64;refine cO A (cO B (cO C (cO D ?_)));obtain⟨l3,T,U,q,r,E,s,G⟩:=c.D7 0 rfl (k:=i) (y:=b) (u:=V.I b) (by omega) rfl rfl rfl;refine cO q ?_;rw[r,cU];simp only[fY]at s;obtain⟨l4,W,X,I,J,K,t,L⟩:=s.D7 0 rfl (k:=xs.length-1-i) (y:=a) (u:=V.I a) (by simp;omega) rfl rfl rfl;refine⟨E,cO I ?_⟩;rw[J,cU];simp only[fY]at t;refine⟨K,du (DC (by omega) (by omega) ?_)⟩;refine⟨k-1,by omega,i+1,(ys.set i b).set (xs.length-1-i) a,rfl,rfl,by rfl,by omega,by omega,by simp[x],λp d=>?_,(z.trans G).trans L,t⟩;have M:=m i (by omega);rw[if_neg (by omega),n]at M;have N:=m (xs.length-1-i) (by omega);rw[if_neg (by omega),o]at N;by_cases q:p=xs.length-1-i
  ·grind
  ·rw[CL (by omega)];by_cases r:p=i
   ·simp_all
   grind
 ·refine fq ?_;have e:ys=xs.reverse:=by
   refine Uj λp=>?_;by_cases d:p<xs.length
   ·grind
   ·simp_all
  simp_all
theorem RT{α:Type}(s:List α)(x y:α):(s++[x]).set s.length y=s++[y]:=by simp
structure VO (u:U):Prop where
 EE:1<=u.blocks.length
 nb:u.blocks.length<=300
 nx:∀(b:Nat),∀t∈next u b,t<u.blocks.length
 two:∀(b:Nat) (B:Bk),u.blocks[b]? =some B->B.next.length<=2
theorem D5(g:Good u):VO u:=⟨g.EE,g.nb,g.nx,λb B a=>by
 rcases g.fin b B a with⟨_,h⟩|⟨_,h,_⟩|⟨_,h,_⟩
 ·omega
 ·omega
 simp_all⟩
theorem fJ.jB{bs:List Bk}(a:fJ eK F h bs vb){i:Nat}{x:Bk}(c:bs[i]? =some x) :
  ∃l o v n p,F l/\eX 6 vb (.I i)=some (.ptr l o)/\eg 6 (.ptr l o) h=some (.agg (nV x v n p))/\fJ eN F h x.cR v/\fJ eN F h x.next n/\fJ eN F h x.c8 p/\Xl h l o x v n p:=by
 obtain⟨hi,rfl⟩:=gL.1 c;obtain⟨l,o,w,d,e,f,⟨v,n,p,rfl,g,j,k⟩,b⟩:=a.ix hi .i64;exact⟨l,o,v,n,p,d,e,f,g,j,k,⟨b 0 _ rfl,b 1 _ rfl,b 2 _ rfl,b 3 _ rfl,b 4 _ rfl,b 5 _ rfl⟩⟩
theorem D2(g:VO u)(H0:cS F h cs)(ho:dU (uC u vv vb vs)=true)(W:fJ eK F h u.blocks vb)(H:∀h' v seen post,Sn F h F h'->cS F h' (cW eN cT post.reverse v::cs)->Bm u.blocks.length (next u) seen post []->Q v h') :
  cP CS ku [.agg (uC u vv vb vs)] h Q:=by
 refine Kx rfl rfl ?_;unfold EB;have nb:=g.nb;have EE:=g.EE;have o:∀b,b<u.blocks.length->∀t∈next u b,t<u.blocks.length:=λb _ t r=>g.nx b t r
 refine kX H0 ho λA H1 s1=>?_;refine cO (by rfl) (cO (H1.ld 0 rfl rfl) (cO (W.since s1).len ?_));rw[hV (z:=V.bool false) rfl (by decide) (by omega),dC];obtain⟨H2,s2⟩:=H1.make (E:=eB) (ty:=fS) (y:=false) (u:=V.bool false) u.blocks.length rfl rfl;have C:=s1.trans s2;refine cO (by rfl) (cO (H2.ld 1 rfl rfl) (cO (W.since C).len ?_));refine BM (ei (by omega) ?_);refine cO (by rfl) ?_;generalize A.new (.cells fS 1 true false (List.replicate u.blocks.length (V.bool false)))=X at*;have D:∀a b:Nat,oX qK 2 1 (V.agg [(V.I 0),(V.I 0)]) [(0,V.agg [.I (a:Nat),.I (b:Nat)])]=some (.cells qK 2 true false [.I (a:Nat),.I (b:Nat)],λl=> .slice l 0 1):=λa b=>by rfl
 have Y:oX qK 2 1 (V.agg [(V.I 0),(V.I 0)]) [(0,V.agg [.I 0,.I 0])]=some (.cells qK 2 true false [.I ((0:Nat):Int),.I ((0:Nat):Int)],λl=> .slice l 0 1):=D 0 0;rw[Y,dC]
 have H3:cS F X (cW eW qK [] .cQ::cW eN cT [] .cQ::cW eB fS (List.replicate u.blocks.length false) (.slice A.next 0 u.blocks.length)::cV h.next 29 (uC u vv vb vs)::cs):=
  (H2.add (p:=cW eN cT [] .cQ) .nil λ_ h=>h).add (p:=cW eW qK [] .cQ) .nil λ_ h=>h
 obtain⟨v4,h4,e4,n4,H4,s4⟩:=H3.Cq 0 rfl (ic:=16) (wF:=qK) (y:=(0,0)) (w:=[.I ((0:Nat):Int),.I ((0:Nat):Int)]) (ro:=false) rfl (by decide) (by decide) (by simp);have Z:c9 105 2 16 V.cQ (.slice X.next 0 1) (X.new (.cells qK 2 true false [.I ((0:Nat):Int),.I ((0:Nat):Int)]))=some (.val v4 h4):=e4;rw[Z,cU];simp only[fY,Pr]at H4;obtain⟨l5,o5,h5,e5,e6,n5,H5,s5⟩:=H4.D7 2 rfl (k:=0) (y:=true) (u:=V.bool true) (by simp;omega) rfl rfl rfl;refine cO e5 ?_;rw[e6,cU];simp only[jq,fY]at H5;refine G8 ?_;unfold AE;have aa:=(C.trans s4).trans s5
 refine Gj (λk x1 x3 x4 I h'=>∃(seen:List Bool) (post:List Nat) (stack:List (Nat×Nat)),x1 = .ptr h.next 0/\x3 = .slice A.next 0 u.blocks.length/\k=mu u.blocks.length (next u) seen stack/\Bm u.blocks.length (next u) seen post stack/\Sn F h F h'/\
  cS F h' (cW eW qK stack I::cW eN cT post x4::cW eB fS seen (.slice A.next 0 u.blocks.length)::cV h.next 29 (uC u vv vb vs)::cs)) ?_ (k:=mu u.blocks.length (next u) ((List.replicate u.blocks.length false).set 0 true) [(0,0)])
  ⟨_,[],[(0,0)],rfl,rfl,rfl,Bm.start (by omega) o,aa,H5⟩
 rintro k x1 x3 x4 I h6 ⟨seen,post,stack,rfl,rfl,hk,G,J,d⟩;unfold An;have ab:=G.nodup;have aA:post.length<=u.blocks.length:=gq _ _ (by grind) G.pre;have ac:stack.length<=u.blocks.length:=by
  have:=gq u.blocks.length _ (Wh.1 ab).2.1 λx hx=>by
   obtain⟨y,hy,rfl⟩:=E7.1 hx;exact(G.range y hy).1
  simpa using this
 refine cO (d.len 0 rfl) ?_;rcases je stack with rfl|⟨s,⟨b,i⟩,rfl⟩
 ·refine BM (dM (by simp) ?_);have ae:0<post.length:=by
   obtain⟨p,hp⟩:=G.last rfl;rw[hp];simp
  refine Mn d.tail ae (by omega) λh7 S e=>?_;exact H _ _ seen post (J.trans S) e.CZ.CZ G
 have ay:s.length+1<=u.blocks.length:=by simpa using ac
 refine BM (ei (by simp_all) ?_);have hlen:(s++[(b,i)]).length-1=s.length:=by simp
 have f:s.length<(s++[(b,i)]).length:=by simp
 have K:(s++[(b,i)])[s.length]'f=(b,i):=by simp
 obtain⟨aB,ag⟩:=G.range (b,i) (by simp);obtain⟨B,hB⟩:∃B,u.blocks[b]? =some B:=by simp_all
 have L:next u b=B.next:=by unfold next;rw[hB]
 simp only[L]at ag;refine cO (d.len 0 rfl) (DC (by omega) (by simp) ?_);rw[hlen];obtain⟨l7,h7,T,e8,n7,e,S⟩:=d.YV 0 rfl (k:=s.length) (j:=1) (y:=(b,i+1)) (a:= .I ((i+1:Nat):Int)) f (by decide) rfl (λw U=>by
  rw[K]at U;have U:w=[.I b,.I i]:=U;subst U;rfl)
 have T:eX 2 I (.I s.length)=some (.ptr l7 (s.length*2)):=T;obtain⟨l8,o8,w8,i1,i2,i3,i4⟩:=d.ix 0 rfl f .i64;rw[K]at i3;obtain rfl:w8=[.I b,.I i]:=i3;have i1:eX 2 I (.I s.length)=some (.ptr l8 o8):=i1;rw[T]at i1;obtain⟨rfl,rfl⟩:l7=l8/\s.length*2=o8:=by
  simp_all
 have ib:=i4 0 _ rfl;have ii:=i4 1 _ rfl;obtain⟨lb,ob,bv,bn,bp,_,b1,b2,iv,iN,ip,ba⟩:=(W.since J).jB hB;refine cO T (cO (by rfl) (cO (d.ld 3 rfl rfl) (cO (dq _ _) (cO (by rfl) (cO ib (cO b1 (cO (by rfl) (cO ba.next ?_))))))));refine cO (dq _ _) (cO (by rfl) (cO ii (cO iN.len ?_)));by_cases hi:i=B.next.length
 ·refine eh (ei (by omega) ?_);refine cO (dq _ _) (cO (by rfl) (cO ib ?_));rw[kH,dC];obtain⟨v9,h9,e9,n9,H9,s9⟩:=d.Cq 1 rfl (ic:=8) (wF:=3) (y:=b) (w:=fi [b]) (ro:=false) rfl (by decide) (by decide) (by omega);have ah:c9 3 1 8 x4 (.slice h6.next 0 1) (h6.new (.cells 3 1 true false (fi [b])))=some (.val v9 h9):=e9;rw[ah,cU];simp only[jq,fY]at H9;refine cO (H9.len 0 rfl) (DC (by omega) (by simp) ?_);rw[hlen];obtain⟨aC,m,c⟩:=H9.XN 0 rfl (n:=s.length) (by simp);refine cO m ?_;simp only[fY]at c;have et:(s++[(b,i)]).take s.length=s:=by simp
  rw[et]at c;exact⟨_,by grind[Vn],seen,post++[b],s,rfl,rfl,rfl,G.pop (by simp_all),J.trans s9,c⟩
 refine eh (dM (by omega) ?_);have ai:i<B.next.length:=by omega
 have aD:B.next.length<=2:=g.two b B hB;have r:(next u b)[i]? =some B.next[i]:=by rw[L];exact by simp_all
 have aj:B.next[i]<u.blocks.length:=by grind[ym]
 obtain⟨l9,o9,_,j1,j2⟩:=iN.nat (fg ai) .i64;refine cO (dq _ _) (cO (by rfl) (cO ii (cO j1 (cO j2 ?_))));refine cO (dq _ _) (cO (by rfl) (cO ii (du ?_)));refine cO (dq _ _) (cO (by rfl) ?_);have e8:fk 1 (.ptr l7 (s.length*2+1)) (.I ((i+1:Nat):Int)) h6=some (.val .undef h7):=e8;rw[e8,cU];simp only[fY,RT]at e;have ak:seen.length=u.blocks.length:=G.len;have M:=e.len 2 (xs:=seen) rfl;rw[ak]at M;refine cO M (uD ?_);rw[Ka aj];obtain⟨q,hq⟩:∃q,seen[B.next[i]]? =some q:=by simp_all
 obtain ⟨lq,oq,q1,q2⟩:=e.EF 2 rfl hq .i64;have ea:il (.bool true) (oB (some (V.slice A.next 0 u.blocks.length)) λal=>oB (some (V.I (B.next[i]:Nat))) λam=>oB (eX 1 al am) λan=>oB (df an h7) λao=>lB .not ao)=some (.bool (!q)):=by
  simp only[ur,c0,q1,q2,Ok]
 refine cO ea (fK ?_)
 cases q with
 | true=>
   refine dM (by simp) ?_
   exact⟨_,by grind[TJ],seen,post,s++[(b,i+1)],rfl,rfl,rfl,G.skip r hq,J.trans S,e⟩
 | false=>
   refine ei rfl ?_;have N:¬lU seen B.next[i]:=by unfold lU;rw[hq];simp
   obtain⟨VB,aE,O,m,ap,aF,c,aq⟩:=e.D7 2 rfl (k:=B.next[i]) (y:=true) (u:=V.bool true) (by omega) rfl rfl rfl;refine cO m ?_;rw[ap,cU];simp only[jq,fY]at c;refine cO (show _=some (V.agg [.I (B.next[i]:Nat),.I ((0:Nat):Int)]) from rfl) ?_;rw[D,dC];obtain⟨ar,au,aw,aG,P,ax⟩:=c.Cq 0 rfl (ic:=16) (wF:=qK) (y:=(B.next[i],0)) (w:=[.I (B.next[i]:Nat),.I ((0:Nat):Int)]) (ro:=false) rfl (by decide) (by decide) (by simp;omega);have R:c9 105 2 16 I (.slice O.next 0 1) (O.new (.cells qK 2 true false [.I (B.next[i]:Nat),.I ((0:Nat):Int)]))=some (.val ar au):=aw;rw[R,cU];simp only[fY]at P;exact⟨_,by rw[hk];exact Tk G r N,_,post,s++[(b,i+1)]++[(B.next[i],0)],rfl,rfl,rfl,G.push r N,((J.trans S).trans aq).trans ax,P⟩
theorem Ki(g:Good u)(c:cS F h cs)(a:zR F h u vv vb vs)(H:∀F' h' v seen post,Sn F h F' h'->cS F' h' cs->Bm u.blocks.length (next u) seen post []->fJ eN F' h' post.reverse v->Q v h') :
  cP CS ku [.agg (uC u vv vb vs)] h Q:=
 D2 (D5 g) c a.one a.b λh' v seen post d e G=>by
  obtain⟨f,i,j⟩:=e.gh 0 rfl;exact H _ _ v seen post (d.trans i) f.tail G j
end
