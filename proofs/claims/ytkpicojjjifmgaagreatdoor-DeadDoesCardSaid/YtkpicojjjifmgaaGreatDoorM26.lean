/- Parts. -/
import Derived.Test.YtkpicojjjifmgaaGreatDoorM25
namespace Go.Proofs.YtkpicojjjifmgaaGreatDoor.Hx
open Un Dm
theorem Vw(h:Hp):∀op:Nat,1<=op->op<=23->∃s,s≠[]/\CS.K Ea [.I (op:Nat)] h=some (.str s)
 |0,h,_=>by omega
 |1,_,_=>⟨_,by decide,rfl⟩
 |2,_,_=>⟨_,by decide,rfl⟩
 |3,_,_=>⟨_,by decide,rfl⟩
 |4,_,_=>⟨_,by decide,rfl⟩
 |5,_,_=>⟨_,by decide,rfl⟩
 |6,_,_=>⟨_,by decide,rfl⟩
 |7,_,_=>⟨_,by decide,rfl⟩
 |8,_,_=>⟨_,by decide,rfl⟩
 |9,_,_=>⟨_,by decide,rfl⟩
 |10,_,_=>⟨_,by decide,rfl⟩
 |11,_,_=>⟨_,by decide,rfl⟩
 |12,_,_=>⟨_,by decide,rfl⟩
 |13,_,_=>⟨_,by decide,rfl⟩
 |14,_,_=>⟨_,by decide,rfl⟩
 |15,_,_=>⟨_,by decide,rfl⟩
 |16,_,_=>⟨_,by decide,rfl⟩
 |17,_,_=>⟨_,by decide,rfl⟩
 |18,_,_=>⟨_,by decide,rfl⟩
 |19,_,_=>⟨_,by decide,rfl⟩
 |20,_,_=>⟨_,by decide,rfl⟩
 |21,_,_=>⟨_,by decide,rfl⟩
 |22,_,_=>⟨_,by decide,rfl⟩
 |23,_,_=>⟨_,by decide,rfl⟩
 |n+24,_,h=>by omega
theorem zcY{h:Hp}{X:Option (V×Hp)}{K:fy}(H:oP X λy=>K y.1 y.2):oP (fD true (.bool true)) λb=>ghP b h X K:=H
section
variable{F F':Nat->Prop}{h h':Hp}{cs:List Pc}{Q:fy}{u:U}{vv vb vs:V}{lc:Nat}{bl pl Fc:V}
theorem YH{op:Nat}(a:1<=op)(b:op<=23)(H:∀s,s≠[]->Q (.str s) h):cP CS Ea [.I op] h Q:=by
 obtain⟨fn,c,d,e⟩:=QQ;obtain⟨s,hs,f⟩:=Vw h op a b;exact cP.known d e f rfl rfl (H s hs)
theorem QS{lv:Nat}{x:Vl}{w v:V}{ys:List Vl}(A:eo F h (ez lv hK (mI x w)::cs))(p:iq eV F h ys v)(J:ys.length<1000000)(f:∀y∈ys,¬(y.op=1/\y.n=x.n))
  (H:∀h',Sn F h F h'->eo F h' (ez lv hK (mI x w)::cs)->Q (.bool false) h'):cP CS ie [v,.func jT [] [.ptr lv 0]] h Q:=by
 refine rj rfl rfl ?_;unfold mg;refine uB rfl rfl ?_;unfold ng;refine ee p.len ?_
 refine rk (λk q r s t h'=>∃i:Nat,q=v/\r = .func jT [] [.ptr lv 0]/\s = .I ys.length/\t = .I (i:Nat)/\i+k=ys.length/\Sn F h F h'/\eo F h' (ez lv hK (mI x w)::cs)) ?_ (k:=ys.length)
  ⟨0,rfl,rfl,rfl,rfl,by omega,Sn.refl _ _,A⟩
 rintro k q r s t h' ⟨i,rfl,rfl,rfl,rfl,K,g,u⟩;unfold mj;by_cases hi:i<ys.length;rotate_left
 ·refine iJ ?_;refine ee (nW _ _ _ _) ?_;exact H h' g u
 refine gB ?_;obtain⟨l,o,c,_,B,C,⟨a,rfl,D⟩,_⟩:=(p.since g).ix hi .i64;refine ee B (ee C ?_);show cP CS jT [.agg (mI ys[i] a),.ptr lv 0] h' _;refine GO rfl rfl ?_;unfold zp;refine jS u (by simp only[mI,ey,D.one];rfl) λb d E=>?_;refine oF (d.ld 0 rfl rfl) (ee (gI _ _ _ _) ?_);have e:kv (.bool (((ys[i].op:Nat):Int) == 1)) (oB (fI 3 (.ptr h'.next 0)) λG=>oB (eQ G b) λI=>oB (fI 3 (.ptr lv 0)) λj=>oB (eQ j b) λm=>ev .eql 2 I m)=some (.bool false):=by
  have l1:eQ (.ptr h'.next (0+3)) b=some (.I ys[i].n):=d.ld 0 rfl rfl;have l2:eQ (.ptr lv (0+3)) b=some (.I x.n):=d.ld 1 rfl rfl;simp only[fe,fi,l1,l2,gI,ke];congr 2;rw[wBl];intro z;simp only[vR,C9]at z;exact f _ (zd hi) ⟨by omega,z.2⟩
 refine ee e (jd (gg (by simp) ?_));exact fM ⟨k-1,by omega,i+1,rfl,rfl,rfl,rfl,by omega,g.trans E,d.tail⟩
theorem WX{lv:Nat}{x:Vl}{w:V}{a0:V}(a:a0 = .ptr lc 0)(C:Ck F h (ez lv hK (mI x w)::cs) lc u vv vb vs bl pl Fc)(G:leaves x.op=true->x.state<u.en.length)(hc:lv≠lc)(H:eQ (.ptr lv 5) h=some (.I x.state)){K:fy}(D:K (.bool false) h) :
  oP (fD true (.bool (leaves x.op))) λb=>
  oP (gV b (fI 5 (.ptr lv 0))) λc=>
  oP (fD true (.bool (leaves x.op))) λd=>
  oP (gV d (eQ c h)) λe=>
  oP (fD true (.bool (leaves x.op))) λf=>
  oP (gV f (some a0)) λg=>
  oP (fD true (.bool (leaves x.op))) λi=>
  oP (gV i (iF g)) λj=>
  oP (fD true (.bool (leaves x.op))) λk=>
  oP (gV k (fI 0 j)) λl=>
  oP (fD true (.bool (leaves x.op))) λm=>
  oP (gV m (fI 4 l)) λn=>
  oP (fD true (.bool (leaves x.op))) λo=>
  oP (gV o (eQ n h)) λp=>
  oP (fD true (.bool (leaves x.op))) λq=>
  oP (gV q (fH p)) λr=>
  oP (fD true (.bool (leaves x.op))) λt=>
  oP (gC t (some (kR,[e,r]))) λv=>qo CS v h λy E=>
  (h.next<=E.next/\
  oP (fD true (.bool (leaves x.op))) λz=>
  oP (gV z (pI .not y)) λA=>
  oP (nt (.bool false) (js (.bool (leaves x.op)) A (V.bool false))) λB=>K B E):=by
 subst a
 cases hq:leaves x.op with
 | true=>
   have:=G hq;refine fU (ee (fe _ _ _) (fU (ee H (fU (ee rfl (fU (ee (gj _ _) (fU (ee (fe _ _ _) (fU (ee (fe _ _ _) (fU (ee (C.ld 4 rfl) (fU (ee C.u.s.len (vf ?_))))))))))))))));refine Ag ⟨jK _,fU ?_⟩;rw[Ke this]
   exact ee rfl (ee rfl D)
 |false=>exact im (im (im (im (im (im (im (im (EY ⟨jK _,im (ee rfl D)⟩))))))))
theorem zbH(g:Good u)(C:Ck F h cs lc u vv vb vs bl pl Fc){xs ys:List Int}(A:iq eZ F h xs bl)(S:Std u u.blocks.length 0 xs ys){i:Nat}(hi:i<u.eh.length)(U:lc<h.next)
  (H:∀F' h',Sn F h F' h'->eo F' h' cs->Q (.bool true) h'):cP CS kM [.ptr lc 0,.I i] h Q:=by
 refine JA rfl rfl ?_;unfold wj;have nv:=g.nv;have nb:=g.nb;obtain⟨x,f⟩:∃x,u.eh[i]? =some x:=⟨_,hO hi⟩
 obtain ⟨b,k,l⟩:=g.Iw i hi trivial;obtain⟨B,p,hk⟩:=id l;have q:=g.op i x f;have r:=g.use i x f;have D:B.fh.length<=700:=by
  rw[g.fh b B p,<-pt];have:=pq g (i:=u.blocks.length) (j:=0) (b:=b) (jK _) (by omega);omega
 have c:x.op=21\/x.op=20->x.args.length<=700:=by
  rintro(E|E)
  ·rw[(g.KO _ _ _ _ _ l f E p).2];exact D
  ·rw[g.putAt i x f E];omega
 obtain⟨l1,o1,w,_,W,X,P,_⟩:=C.u.val f;refine ee (gj _ _) (ee (fe _ _ _) (oF (C.ld 2 rfl) (ee W (ee X ?_))));refine gY C.H rfl rfl (by simp only[mI,ey,P.one];rfl) λh2 z G=>?_;have C2:=C.cons G z;have o:=P.since G;refine oF (z.ld 0 rfl rfl) ?_;refine YH q.1 q.2 λs hs=>⟨jK _,?_⟩
 refine ee (VX _ _ _) ?_;rw[show(s == [])=false from Nj.2 hs];refine fE (ee rfl (fE (ee (z.rh 0 rfl rfl) (po ?_))));refine IT z o (λh=>by have:=c h.symm.symm;omega) λF3 R v t a Y=>⟨t.next,?_⟩
 have C3:=C2.since t a;have d:=G.trans t;refine po (Jt C3 Y (by have:=I0 c;omega) r ⟨jK _,ee rfl ?_⟩);refine fE (ee (fe _ _ _) (fE (ee (a.ld 0 rfl rfl) (po ?_))));refine GJ ⟨jK _,fE (ee rfl ?_)⟩;refine WX rfl C3 (g.leave i x f) (by omega) (a.ld 0 rfl rfl) ?_;refine jd (gg (by simp) ?_);refine oF (a.ld 0 rfl rfl) ?_;by_cases I:x.op=20
 ·refine gi (gv (by omega) ?_);refine oF (a.ld 0 rfl rfl) (ee (o.since t).len (il ?_));rw[g.putAt i x f I];exact H _ _ d a.tail
 refine gi (gg (by omega) ?_);by_cases J:x.op=21
 ·refine gi (gv (by omega) ?_);obtain⟨lb,ob,_,b1,b2⟩:=(A.since d).int ((S.yes i b k l (.inl (jR.1 p).1)).1) .i64;obtain⟨l7,o7,bv,bn,bp,_,K,_,_,_,ip,Z⟩:=C3.u.oW p;refine oF (a.ld 0 rfl rfl) (ee (o.since t).len ?_);refine ee (gj _ _) (ee (fe _ _ _) (oF (C3.ld 3 rfl) (oN (C3.ld 5 rfl) (ee b1 (ee b2 (ee K ?_))))));refine oF Z.fh (ee ip.len (il ?_));rw[(g.KO _ _ _ _ _ l f J p).2,Ke rfl];exact H _ _ d a.tail
 refine gi (gg (by omega) ?_);by_cases c1:x.op=1
 ·refine gi (gv (by omega) ?_);obtain⟨p1,p2,p3⟩:=g.param i x f c1;refine oF (a.ld 0 rfl rfl) (ee (nW _ _ _ _) ?_);have e:kv (.bool (decide ((0:Int)<=x.n))) (oB (fI 3 (.ptr h.next 0)) λL=>oB (eQ L R) λM=>ev .lss 2 M (V.I 40))=some (.bool true):=by
   have l1:eQ (.ptr h.next (0+3)) R=some (.I x.n):=a.ld 0 rfl rfl;simp only[fe,fi,l1,jO,ke];simp[p1,p2]
  refine ee e ?_;obtain⟨vc,e1,r1⟩:=C3.u.v.cut (lo:=none) (hi:=some (.I i)) (m:=0) (n:=i) rfl (GG _ _ _) (Na _) (by omega);rw[Yr]at r1;refine fU (ee rfl (fU (ee (gj _ _) (fU (ee (fe _ _ _) (fU (ee (fe _ _ _) (fU (ee (C3.ld 2 rfl) (fU (ee rfl (fU (ee e1 (fU (ee rfl (vf ?_))))))))))))))));refine QS a r1 (by rw[Ip];omega) (λy hy T=>?_) λh4 s4 H4=>ee rfl (H _ _ (d.trans s4) H4.tail);obtain⟨j,N⟩:=oD.1 hy;have O:j<i:=by
   have:=(jR.1 N).1;rw[Ip]at this;omega
  rw[wBI O]at N;have:=p3 j y N T.1 T.2;omega
 ·refine gi (gg (by omega) ?_);exact H _ _ d a.tail
theorem ZO(g:Good u)(C:Ck F h cs lc u vv vb vs bl pl Fc){i:Nat}{B:Bk}(p:u.blocks[i]? =some B)(H:∀F' h',Sn F h F' h'->eo F' h' cs->Q (.bool true) h'):cP CS mV [.ptr lc 0,.I i] h Q:=by
 refine HP rfl rfl ?_;unfold z8;have c:=g.fin i B p;have nv:=g.nv;have nb:=g.nb;obtain⟨l7,O,bv,bn,bp,_,A,D,G,d,ip,_⟩:=C.u.oW p;refine ee (gj _ _) (ee (fe _ _ _) (oF (C.ld 3 rfl) (ee A (ee D ?_))));refine gY C.H rfl rfl (by simp only[kE,ey,G.one,d.one,ip.one];rfl) λI a e=>?_;have C2:=C.cons e a;have d:=d.since e;refine oF (a.ld 0 rfl rfl) (ee d.len ?_);have J:B.next.length<=2:=by
  rcases c with⟨_,h⟩|⟨_,h,_⟩|⟨_,h,_⟩
  ·omega
  ·omega
  ·rw[h];simp
 refine EE (λk t v f l m h'=>∃j:Nat,t = .ptr lc 0/\v = .ptr h.next 0/\f=bn/\l = .I B.next.length/\m = .I (j:Nat)/\j+k=B.next.length/\h' = I) ?_ (k:=B.next.length) ⟨0,rfl,rfl,rfl,rfl,rfl,by omega,rfl⟩;rintro k t v f l m h' ⟨j,rfl,rfl,rfl,rfl,rfl,P,rfl⟩;unfold xz;by_cases hj:j<B.next.length
 ·refine gB ?_;obtain⟨l8,R,_,K,L⟩:=d.nat (hO hj) .i64;have q:B.next[j]<u.blocks.length:=g.nx i _ (by unfold next;rw[p];exact zd hj);refine ee K (ee L (ee (gj _ _) (ee (fe _ _ _) (oF (C2.ld 3 rfl) (ee C2.u.b.len ?_)))));refine Ag (qt (gv (by simpa using q) ?_));exact fM ⟨k-1,by omega,j+1,rfl,rfl,rfl,rfl,rfl,by omega,rfl⟩
 refine iJ ?_;refine oF (a.ld 0 rfl rfl) ?_;rcases c with⟨x,o⟩|⟨x,o,r⟩|⟨x,o,r⟩
 ·refine gi (gv (by omega) ?_);refine oF (a.ld 0 rfl rfl) (ee d.len (il ?_));rw[o];exact H _ _ e a.tail
 ·refine gi (gg (by omega) ?_);refine gi (gv (by omega) ?_);refine oF (a.ld 0 rfl rfl) (ee d.len (il ?_));rw[o,show decide (((2:Nat):Int)=2)=true from rfl];refine fU (ee rfl (fU (ee (fe _ _ _) (fU (ee (a.ld 0 rfl rfl) (zcY ?_))))));rw[oV,fi];obtain⟨y,z,M⟩:=a.ZW (E:=eN) (xs:=[B.cond]) (n:=1) eJ rfl (yy F h' [B.cond]) false;have C3:=C2.since z y;refine ee rfl (vf ?_);refine Jt C3 M (by simp) (λw N=>by obtain rfl:=Nf.1 N;exact r) (ee rfl ?_);exact H _ _ (e.trans z) y.tail
 ·refine gi (gg (by omega) ?_);refine gi (gg (by omega) ?_);refine gi (gv (by omega) ?_);refine oF (a.ld 0 rfl rfl) (ee d.len (il ?_));rw[o,show decide ((([]:List Nat).length:Int)=0)=true from rfl];refine fU (ee (fe _ _ _) (fU (ee (a.ld 0 rfl rfl) (fU (ee rfl (fU (ee (gj _ _) (fU (ee (fe _ _ _) (fU (ee (fe _ _ _) (fU (ee (C2.ld 4 rfl) (fU (ee C2.u.s.len (vf ?_))))))))))))))));refine Ag ⟨jK _,?_⟩;rw[Ke r];exact ee rfl (H _ _ e a.tail)
theorem zbk(g:Good u)(C:Ck F h cs lc u vv vb vs bl pl Fc){i:Nat}{B:Bk}(I:u.blocks[i]? =some B)(H:∀F' h',Sn F h F' h'->eo F' h' cs->Q (.bool true) h'):cP CS nN [.ptr lc 0,.I i] h Q:=by
 refine IY rfl rfl ?_;unfold BF;have nv:=g.nv;have nb:=g.nb;have r2:∀p d,Sn F h p d->eo p d cs->nV CS Q (.ptr lc 0) (.I i) d:=by
  intro p d q J;have C1:=C.since q J;refine Fz ?_;unfold yN;obtain⟨l7,o7,bv,bn,bp,_,i1,i2,iv,r,ip,_⟩:=C1.u.oW I;refine ee (gj _ _) (ee (fe _ _ _) (oF (C1.ld 3 rfl) (ee i1 (ee i2 ?_))));refine gY C1.H rfl rfl (by simp only[kE,ey,iv.one,r.one,ip.one];rfl) λK L M=>?_;have C2:=C1.cons M L;have r:=r.since M;refine oF (L.ld 0 rfl rfl) (ee r.len ?_);have al:B.next.length<=2:=by
   rcases g.fin i B I with⟨_,h⟩|⟨_,h,_⟩|⟨_,h,_⟩
   ·omega
   ·omega
   ·rw[h];simp
  refine FJ (λk s x7 t w y h'=>∃j:Nat,s = .ptr lc 0/\x7 = .ptr d.next 0/\t=bn/\w = .I B.next.length/\y = .I (j:Nat)/\j+k=B.next.length/\h' = K) ?_ (k:=B.next.length) ⟨0,rfl,rfl,rfl,rfl,rfl,by omega,rfl⟩;rintro k s x7 t w y h' ⟨j,rfl,rfl,rfl,rfl,rfl,hk,rfl⟩;unfold yK;by_cases hj:j<B.next.length;rotate_left
  ·exact iJ (H _ _ (q.trans M) L.tail)
  refine gB ?_;obtain⟨l8,o8,_,N,O⟩:=r.nat (hO hj) .i64;have z:B.next[j]∈next u i:=by unfold next;rw[I];exact zd hj
  have P:B.next[j]<u.blocks.length:=g.nx i _ z;obtain⟨n,a⟩:∃n,u.blocks[B.next[j]]? =some n:=⟨_,hO P⟩
  obtain ⟨l9,o9,R,S,A,_,l,_,_,_,f,m⟩:=C2.u.oW a;refine ee N (ee O (oF (L.ld 0 rfl rfl) (ee (gI _ _ _ _) ?_)));have e:kv (.bool (((B.fin:Nat):Int) == 2)) (oB (some (V.ptr lc 0)) λT=>oB (iF T) λU=>oB (fI 0 U) λW=>oB (fI 3 W) λX=>oB (eQ X h') λY=>oB (some (V.I (B.next[j]:Nat))) λZ=>oB (gJ 6 Y Z) λaa=>oB (fI 4 aa) λab=>oB (eQ ab h') λac=>oB (fH ac) λae=>ev .neq 3 ae (V.I 1))=some (.bool false):=by
   have l1:eQ (.ptr lc (0+0+3)) h' = some vb:=C2.ld 3 rfl;have l2:eQ (.ptr l9 (o9+4)) h' = some A:=m.fh;simp only[fi,gj,fe,l1,l,l2,f.len,nP,ke];congr 2;rw[wBl];intro o;simp only[vR,C9,wCD]at o;have d:=g.MS i B I (by omega) (B.next[j]) (zd hj);rw[g.fh _ _ a,d]at o;exact o.2 rfl
  refine ee e (jd (gg (by simp) ?_));exact fM ⟨k-1,by omega,j+1,rfl,rfl,rfl,rfl,rfl,by omega,rfl⟩
 by_cases hi:i=0;rotate_left
 ·exact gi (gg (by omega) (r2 F h (Sn.refl _ _) C.H))
 refine gi (gv (by omega) ?_);have lA:fY 5 (.ptr lc 0) h=some (.agg (uC u vv vb vs)):=by
  obtain⟨j,ty,hc⟩:=C.c;rw[FE (C.H.get j hc),FZ (by simp)];rfl
 refine ee (gj _ _) (ee (fe _ _ _) (ee lA ?_));refine Qn g C.H C.u λp d v q J r1=>?_;have lr:=r1.len;rw[GM,YR]at lr;refine ee lr ?_;have C1:=C.since q J;refine E0 (λk s x1 D E G h'=>∃j:Nat,s = .ptr lc 0/\x1 = .I i/\D=v/\E = .I u.blocks.length/\G = .I (j:Nat)/\j+k=u.blocks.length/\h' = d) ?_ (k:=u.blocks.length) ⟨0,rfl,rfl,rfl,rfl,rfl,by omega,rfl⟩;rintro k s x1 D E G h' ⟨j,rfl,rfl,rfl,rfl,rfl,hk,rfl⟩;unfold yF;by_cases hj:j<u.blocks.length;rotate_left
 ·exact iJ (r2 p h' q J)
 refine gB ?_;obtain⟨n,a⟩:∃n,u.blocks[j]? =some n:=⟨_,hO hj⟩
 obtain ⟨l8,o8,w8,_,N,O,j3⟩:=r1.list (i:=j) (x:=Un.ahead u j) (by simp[hj]) .i64;obtain⟨l9,o9,R,S,A,_,l,_,_,_,f,m⟩:=C1.u.oW a;have am:(Un.ahead u j).length<=700:=by
  rw[<-pt];have:=pq g (i:=u.blocks.length) (j:=0) (b:=j) (jK _) (by omega);omega
 rw [g.fh j n a]at f;refine ee N (ee O (ee (gj _ _) (ee (fe _ _ _) (oF (C1.ld 3 rfl) (ee l (oF m.fh ?_))))));refine Ax j3 f (by omega) (ee rfl ?_);have e:nt (.bool (!true)) (oB (some (V.I j)) λag=>oB (ev .eql 3 ag (V.I 0)) λah=>oB (some ah) λai=>kv ai (oB (some w8) λaj=>oB (fH aj) λak=>ev .gtr 3 ak (V.I 0)))=some (.bool false):=by
  simp only[wCB,mU,fi,gI,j3.len,nQ,ke];congr 2;rw[wBl];intro o;simp only[vR,C9,BP]at o;obtain⟨d,K⟩:=o;obtain rfl:j=0:=by omega
  rw[g.Kb]at K;simp at K
 refine ee e (jd (gg (by simp) ?_));exact fM ⟨k-1,by omega,j+1,rfl,rfl,rfl,rfl,rfl,by omega,rfl⟩
end
open Un Dm
section
variable{F F':Nat->Prop}{h h':Hp}{cs:List Pc}{Q:fy}{u:U}{vv vb vs:V}
theorem eo.stF{α:Type}{E:ri α}{ty:Nat}{xs:List α}{v:V}(H:eo F h cs)(i:Nat)(hi:cs[i]? =some (eR E ty xs v)){k j:Nat}{y:α}{a:V}(c:k<xs.length)(d:j<E.sz)(e:a.one=true)(f:∀w,E.rel F h xs[k] w->E.rel F h y (w.set j a)) :
  ∃l h',gJ E.sz v (.I k)=some (.ptr l (k*E.sz))/\gM 1 (.ptr l (k*E.sz+j)) a h=some (.val .undef h')/\h.next<=h'.next/\eo F h' (cs.set i (eR E ty (xs.set k y) v))/\Sn F h F h':=by
 obtain⟨t,h',o,g,m,n,b⟩:=(H.row i hi).store (k:=j) (y:=y) (u:=a) c d e f;exact⟨t,h',g,m,b.next,H.Hu hi b n λ_ h=> .inl h⟩
theorem eo.K7{ty:Nat}{xs:List Nat}{v:V}(H:eo F h cs)(i:Nat)(hi:cs[i]? =some (eR eN ty xs v)){k x:Nat}(a:xs[k]? =some x)(kd:IntKind):∃l o,gJ 1 v (.int kd (k:Nat))=some (.ptr l o)/\eQ (.ptr l o) h=some (.I x):=by
 obtain⟨l,o,_,b,c⟩:=(H.row i hi).read.nat a kd;exact⟨l,o,b,c⟩
theorem eo.SJ{ty:Nat}{xs:List Int}{v:V}(H:eo F h cs)(i:Nat)(hi:cs[i]? =some (eR eZ ty xs v)){k:Nat}{x:Int}(a:xs[k]? =some x)(kd:IntKind):∃l o,gJ 1 v (.int kd (k:Nat))=some (.ptr l o)/\eQ (.ptr l o) h=some (.I x):=by
 obtain⟨l,o,_,b,c⟩:=(H.row i hi).read.int a kd;exact⟨l,o,b,c⟩
theorem eo.G8{ty:Nat}{xs:List Bool}{v:V}(H:eo F h cs)(i:Nat)(hi:cs[i]? =some (eR eB ty xs v)){k:Nat}{x:Bool}(a:xs[k]? =some x)(kd:IntKind):∃l o,gJ 1 v (.int kd (k:Nat))=some (.ptr l o)/\eQ (.ptr l o) h=some (.bool x):=by
 obtain⟨l,o,_,b,c⟩:=(H.row i hi).read.bool a kd;exact⟨l,o,b,c⟩
theorem Sh{ty:Nat}{xs:List Nat}{v:V}(l:eo F h (eR eN ty xs v::cs))(h0:0<xs.length)(O:xs.length<1000000)(H:∀h',Sn F h F h'->eo F h' (eR eN ty xs.reverse v::cs)->Q (.tuple []) h') :
  cP CS lK [v] h Q:=by
 refine BY rfl rfl ?_;unfold tX;refine ee (l.len 0 rfl) (yl (by omega) h0 ?_)
 refine zD (λk m n o h'=>∃(i:Nat) (ys:List Nat),m=v/\n = .I i/\o = .I ((xs.length-1-i:Nat):Int)/\i+k=xs.length/\2*i<=xs.length/\ys.length=xs.length/\
  (∀p,p<xs.length->ys[p]? =if p<i\/xs.length-i<=p then xs[xs.length-1-p]? else xs[p]?)/\Sn F h F h'/\eo F h' (eR eN ty ys v::cs)) ?_ (k:=xs.length)
  ⟨0,xs,rfl,rfl,by rw[Nat.sub_zero],by omega,by omega,rfl,λp hp=>by rw[if_neg (by omega)],Sn.refl _ _,l⟩
 rintro k m n o A ⟨i,ys,rfl,rfl,rfl,P,B,C,hp,q,f⟩;unfold qj;by_cases hij:i<xs.length-1-i
 ·refine gB ?_;obtain⟨a,r⟩:∃a,ys[i]? =some a:=⟨_,hO (by omega)⟩
  obtain⟨b,s⟩:∃b,ys[xs.length-1-i]? =some b:=⟨_,hO (by omega)⟩
  obtain⟨l1,R,D,E⟩:=f.K7 0 rfl s .i64;obtain⟨l2,S,G,I⟩:=f.K7 0 rfl r .i64;refine ee D (ee E (ee G (ee I ?_)));obtain⟨l3,T,U,g,j,J,t,K⟩:=f.IG 0 rfl (k:=i) (y:=b) (u:=V.I b) (by omega) rfl rfl rfl;refine ee g ?_;rw[j,ei];simp only[jo]at t;obtain⟨l4,W,X,L,M,N,w,s4⟩:=t.IG 0 rfl (k:=xs.length-1-i) (y:=a) (u:=V.I a) (by simp;omega) rfl rfl rfl;refine⟨J,ee L ?_⟩;rw[M,ei];simp only[jo]at w;refine⟨N,fM (yl (by omega) (by omega) ?_)⟩;refine⟨k-1,by omega,i+1,(ys.set i b).set (xs.length-1-i) a,rfl,rfl,by rw[show xs.length-1-(i+1)=xs.length-1-i-1 by omega],by omega,by omega,by simp[C],λp d=>?_,(q.trans K).trans s4,w⟩;have x:=hp i (by omega);rw[if_neg (by omega),r]at x;have z:=hp (xs.length-1-i) (by omega);rw[if_neg (by omega),s]at z;by_cases g:p=xs.length-1-i
  ·subst g;rw[Hf (by simp;omega),if_pos (by omega),show xs.length-1-(xs.length-1-i)=i by omega];exact x
  ·rw [ES λh=>g h.symm];by_cases j:p=i
   ·subst j;rw[Hf (by omega),if_pos (by omega)];exact z
   ·rw[ES λh=>j h.symm,hp p d];by_cases c:p<i\/xs.length-i<=p
    ·rw[if_pos c,if_pos (by omega)]
    ·rw[if_neg c,if_neg (by omega)]
 ·refine iJ ?_;have e:ys=xs.reverse:=by
   refine wBk λp=>?_;by_cases d:p<xs.length
   ·rw[hp p d,List.getElem?_reverse d];by_cases c:p<i\/xs.length-i<=p
    ·rw[if_pos c]
    ·rw[if_neg c,show xs.length-1-p=p by omega]
   ·rw[NT (by omega),NT (by simp;omega)]
  subst e;exact H A q f
theorem W6{α:Type}(s:List α)(x y:α):(s++[x]).set s.length y=s++[y]:=by simp
structure zbF (u:U):Prop where
 OV:1<=u.blocks.length
 nb:u.blocks.length<=300
 nx:∀(b:Nat),∀t∈next u b,t<u.blocks.length
 two:∀(b:Nat) (B:Bk),u.blocks[b]? =some B->B.next.length<=2
theorem Ol(g:Good u):zbF u:=⟨g.OV,g.nb,g.nx,λb B a=>by
 rcases g.fin b B a with⟨_,h⟩|⟨_,h,_⟩|⟨_,h,_⟩
 ·omega
 ·omega
 ·rw[h];simp⟩
theorem iq.oW{bs:List Bk}(a:iq eK F h bs vb){i:Nat}{x:Bk}(c:bs[i]? =some x) :
  ∃l o v n p,F l/\gJ 6 vb (.I i)=some (.ptr l o)/\fY 6 (.ptr l o) h=some (.agg (kE x v n p))/\iq eN F h x.eh v/\iq eN F h x.next n/\iq eN F h x.fh p/\zcy h l o x v n p:=by
 obtain⟨hi,rfl⟩:=jR.1 c;obtain⟨l,o,w,d,e,f,⟨v,n,p,rfl,g,j,k⟩,b⟩:=a.ix hi .i64;exact⟨l,o,v,n,p,d,e,f,g,j,k,⟨b 0 _ rfl,b 1 _ rfl,b 2 _ rfl,b 3 _ rfl,b 4 _ rfl,b 5 _ rfl⟩⟩
theorem N1(g:zbF u)(H0:eo F h cs)(ho:gG (uC u vv vb vs)=true)(Y:iq eK F h u.blocks vb)(H:∀h' v seen post,Sn F h F h'->eo F h' (eR eN eJ post.reverse v::cs)->IH u.blocks.length (next u) seen post []->Q v h') :
  cP CS qU [.agg (uC u vv vb vs)] h Q:=by
 refine RO rfl rfl ?_;unfold Kt;have nb:=g.nb;have OV:=g.OV;have A:∀b,b<u.blocks.length->∀t∈next u b,t<u.blocks.length:=λb _ t r=>g.nx b t r
 refine jS H0 ho λC H1 s1=>?_;refine oF (H1.ld 0 rfl rfl) (ee (Y.since s1).len ?_);rw[ka (z:=V.bool false) rfl (by decide) (by omega),fG];obtain⟨H2,s2⟩:=H1.make (E:=eB) (ty:=ju) (y:=false) (u:=V.bool false) u.blocks.length rfl rfl;have D:=s1.trans s2;refine oF (H2.ld 1 rfl rfl) (ee (Y.since D).len ?_);refine El (gv (by omega) ?_);refine ee (show _=some (V.agg [.I 0,.I 0]) from rfl) ?_;generalize C.new (.cells ju 1 true false (List.replicate u.blocks.length (V.bool false)))=Z at*;have I:∀a b:Nat,jG wB 2 1 (V.agg [(V.I 0),(V.I 0)]) [(0,V.agg [.I (a:Nat),.I (b:Nat)])]=some (.cells wB 2 true false [.I (a:Nat),.I (b:Nat)],λl=> .slice l 0 1):=λa b=>qa rfl rfl rfl;have aa:jG wB 2 1 (V.agg [(V.I 0),(V.I 0)]) [(0,V.agg [.I 0,.I 0])]=some (.cells wB 2 true false [.I ((0:Nat):Int),.I ((0:Nat):Int)],λl=> .slice l 0 1):=I 0 0;rw[aa,fG]
 have H3:eo F Z (eR eW wB [] .ef::eR eN eJ [] .ef::eR eB ju (List.replicate u.blocks.length false) (.slice C.next 0 u.blocks.length)::ez h.next 30 (uC u vv vb vs)::cs):=
  (H2.add (p:=eR eN eJ [] .ef) .nil λ_ h=>h).add (p:=eR eW wB [] .ef) .nil λ_ h=>h
 obtain⟨v4,h4,e4,n4,H4,s4⟩:=H3.uD 0 rfl (j7:=16) (Ca:=wB) (y:=(0,0)) (w:=[.I ((0:Nat):Int),.I ((0:Nat):Int)]) (ro:=false) rfl (by decide) (by decide) (by simp);have ab:fg 132 2 16 V.ef (.slice Z.next 0 1) (Z.new (.cells wB 2 true false [.I ((0:Nat):Int),.I ((0:Nat):Int)]))=some (.val v4 h4):=e4;rw[ab,ei];simp only[jo,No]at H4;obtain⟨l5,o5,h5,e5,e6,n5,H5,s5⟩:=H4.IG 2 rfl (k:=0) (y:=true) (u:=V.bool true) (by simp;omega) rfl rfl rfl;refine ee e5 ?_;rw[e6,ei];simp only[l0,jo]at H5;refine Mv ?_;unfold FG;have ac:=(D.trans s4).trans s5
 refine Mj (λk x1 x3 x4 J h'=>∃(seen:List Bool) (post:List Nat) (stack:List (Nat×Nat)),x1 = .ptr h.next 0/\x3 = .slice C.next 0 u.blocks.length/\k=mu u.blocks.length (next u) seen stack/\IH u.blocks.length (next u) seen post stack/\Sn F h F h'/\
  eo F h' (eR eW wB stack J::eR eN eJ post x4::eR eB ju seen (.slice C.next 0 u.blocks.length)::ez h.next 30 (uC u vv vb vs)::cs)) ?_ (k:=mu u.blocks.length (next u) ((List.replicate u.blocks.length false).set 0 true) [(0,0)])
  ⟨_,[],[(0,0)],rfl,rfl,rfl,IH.start (by omega) A,ac,H5⟩
 rintro k x1 x3 x4 J h6 ⟨seen,post,stack,rfl,rfl,hk,G,K,e⟩;unfold E8;have L:=G.nodup;have aA:post.length<=u.blocks.length:=kj _ _ (wBj.1 L).1 G.pre;have mM:stack.length<=u.blocks.length:=by
  have:=kj u.blocks.length _ (wBj.1 L).2.1 λx hx=>by
   obtain⟨y,hy,rfl⟩:=LN.1 hx;exact(G.range y hy).1
  simpa using this
 refine ee (e.len 0 rfl) ?_;rcases lR stack with rfl|⟨s,⟨b,i⟩,rfl⟩
 ·refine El (gg (by simp) ?_);have ae:0<post.length:=by
   obtain⟨p,hp⟩:=G.last rfl;rw[hp];simp
  refine Sh e.tail ae (by omega) λh7 T f=>?_;exact H _ _ seen post (K.trans T) f.Jh.Jh G
 have ay:s.length+1<=u.blocks.length:=by simpa using mM
 refine El (gv (by simp <;> omega) ?_);have hlen:(s++[(b,i)]).length-1=s.length:=by simp
 have m:s.length<(s++[(b,i)]).length:=by simp
 have M:(s++[(b,i)])[s.length]'m=(b,i):=by simp
 obtain⟨ag,ah⟩:=G.range (b,i) (by simp);obtain⟨B,hB⟩:∃B,u.blocks[b]? =some B:=⟨_,hO ag⟩
 have d:next u b=B.next:=by unfold next;rw[hB]
 simp only[d]at ah;refine ee (e.len 0 rfl) (yl (by omega) (by simp) ?_);rw[hlen];obtain⟨l7,h7,U,e8,n7,f,T⟩:=e.stF 0 rfl (k:=s.length) (j:=1) (y:=(b,i+1)) (a:= .I ((i+1:Nat):Int)) m (by decide) rfl (λw W=>by
  rw[M]at W;have W:w=[.I b,.I i]:=W;subst W;rfl)
 have U:gJ 2 J (.I s.length)=some (.ptr l7 (s.length*2)):=U;obtain⟨l8,o8,w8,X,i2,i3,i4⟩:=e.ix 0 rfl m .i64;rw[M]at i3;obtain rfl:w8=[.I b,.I i]:=i3;have X:gJ 2 J (.I s.length)=some (.ptr l8 o8):=X;rw[U]at X;obtain⟨rfl,rfl⟩:l7=l8/\s.length*2=o8:=by
  have:=Option.some.inj X;cases this;exact⟨rfl,rfl⟩
 have ib:=i4 0 _ rfl;have ii:=i4 1 _ rfl;obtain⟨lb,ob,bv,bn,bp,_,b1,b2,iv,iN,ip,ba⟩:=(Y.since K).oW hB;refine ee U (oF (e.ld 3 rfl rfl) (oN ib (ee b1 (oF ba.next ?_))));refine oN ii (ee iN.len ?_);by_cases hi:i=B.next.length
 ·refine gi (gv (by omega) ?_);refine oN ib ?_;rw[oV,fG];obtain⟨v9,h9,e9,n9,H9,s9⟩:=e.uD 1 rfl (j7:=8) (Ca:=3) (y:=b) (w:=hZ [b]) (ro:=false) rfl (by decide) (by decide) (by omega);have ai:fg 3 1 8 x4 (.slice h6.next 0 1) (h6.new (.cells 3 1 true false (hZ [b])))=some (.val v9 h9):=e9;rw[ai,ei];simp only[l0,jo]at H9;refine ee (H9.len 0 rfl) (yl (by omega) (by simp) ?_);rw[hlen];obtain⟨aB,K6,c⟩:=H9.zbx 0 rfl (n:=s.length) (by simp);refine ee K6 ?_;simp only[jo]at c;have et:(s++[(b,i)]).take s.length=s:=by simp
  rw[et]at c;exact⟨_,by rw[hk];exact zbK,seen,post++[b],s,rfl,rfl,rfl,G.pop (by rw[d];exact hi),K.trans s9,c⟩
 refine gi (gg (by omega) ?_);have o:i<B.next.length:=by omega
 have aC:B.next.length<=2:=g.two b B hB;have r:(next u b)[i]? =some B.next[i]:=by rw[d];exact hO o
 have aj:B.next[i]<u.blocks.length:=g.nx b _ (by rw[d];exact zd o);obtain⟨l9,o9,_,j1,j2⟩:=iN.nat (hO o) .i64;refine oN ii (ee j1 (ee j2 ?_));refine oN ii (fM ?_);refine ee (gj _ _) (ee (fe _ _ _) ?_);have e8:gM 1 (.ptr l7 (s.length*2+1)) (.I ((i+1:Nat):Int)) h6=some (.val .undef h7):=e8;rw[e8,ei];simp only[jo,W6]at f;have ak:seen.length=u.blocks.length:=G.len;have N:=f.len 2 (xs:=seen) rfl;rw[ak]at N;refine ee N (Ag ?_);rw[Ke aj];obtain⟨q,hq⟩:∃q,seen[B.next[i]]? =some q:=⟨_,hO (show B.next[i]<seen.length by omega)⟩
 obtain ⟨lq,oq,q1,q2⟩:=f.G8 2 rfl hq .i64;have ea:kv (.bool true) (oB (some (V.slice C.next 0 u.blocks.length)) λal=>oB (some (V.I (B.next[i]:Nat))) λam=>oB (gJ 1 al am) λan=>oB (eQ an h7) λao=>pI .not ao)=some (.bool (!q)):=by
  simp only[mf,fi,q1,q2,YK]
 refine ee ea (jd ?_)
 cases q with
 | true=>
   refine gg (by simp) ?_
   exact⟨_,by rw[hk];exact zab r,seen,post,s++[(b,i+1)],rfl,rfl,rfl,G.skip r hq,K.trans T,f⟩
 | false=>
   refine gv rfl ?_;have O:¬qA seen B.next[i]:=by unfold qA;rw[hq];simp
   obtain⟨l10,aD,P,K6,ap,aE,c,aq⟩:=f.IG 2 rfl (k:=B.next[i]) (y:=true) (u:=V.bool true) (by omega) rfl rfl rfl;refine ee K6 ?_;rw[ap,ei];simp only[l0,jo]at c;refine ee (show _=some (V.agg [.I (B.next[i]:Nat),.I ((0:Nat):Int)]) from rfl) ?_;rw[I,fG];obtain⟨ar,au,aw,aF,R,ax⟩:=c.uD 0 rfl (j7:=16) (Ca:=wB) (y:=(B.next[i],0)) (w:=[.I (B.next[i]:Nat),.I ((0:Nat):Int)]) (ro:=false) rfl (by decide) (by decide) (by simp;omega);have S:fg 132 2 16 J (.slice P.next 0 1) (P.new (.cells wB 2 true false [.I (B.next[i]:Nat),.I ((0:Nat):Int)]))=some (.val ar au):=aw;rw[S,ei];simp only[jo]at R;exact⟨_,by rw[hk];exact YF G r O,_,post,s++[(b,i+1)]++[(B.next[i],0)],rfl,rfl,rfl,G.push r O,((K.trans T).trans aq).trans ax,R⟩
theorem QJ(g:Good u)(c:eo F h cs)(a:ym F h u vv vb vs)(H:∀F' h' v seen post,Sn F h F' h'->eo F' h' cs->IH u.blocks.length (next u) seen post []->iq eN F' h' post.reverse v->Q v h') :
  cP CS qU [.agg (uC u vv vb vs)] h Q:=
 N1 (Ol g) c a.one a.b λh' v seen post d e G=>by
  obtain⟨f,i,j⟩:=e.ma 0 rfl;exact H _ _ v seen post (d.trans i) f.tail G j
end
