/- Parts. -/
import Derived.Test.YtcoaokdoecgcbaaGreatDoorM24
import Derived.KernelRfl
set_option maxHeartbeats 4000000
namespace Go.Proofs.YtcoaokdoecgcbaaGreatDoor.Hx
open Un Dm
variable{b:Nat}{B:Bk}
def pre(u:U)(b:Nat):List Nat:=(u.blocks.take b).flatMap (·.ee)
theorem Px{u:U}(a:u.blocks[b]? =some B):pre u (b+1)=pre u b++B.ee:=by
 unfold pre;obtain⟨c,rfl⟩:=j6.1 a
 grind[JE]
theorem Sy{u:U}{v:Nat}:v∈pre u b↔∃c k,At u v c k/\c<b:=by
 unfold pre At;simp only[Rb];constructor
 ·grind[mG]
 ·rintro⟨c,k,⟨B,a,d⟩,e⟩;refine⟨B,mG.2 ⟨c,?_⟩,by grind⟩
  simp_all
theorem FH{u:U}(g:Good u){b:Nat}{B:Bk}(a:u.blocks[b]? =some B):B.ee.Nodup:=by
 rw[List.nodup_iff_pairwise_ne,wBK];intro i j hi c d e;have f:At u (B.ee[i]) b i:=⟨B,a,hN hi⟩
 have h:At u (B.ee[i]) b j:=⟨B,a,by rw[e];exact hN c⟩
 have:=(g.PD _ _ _ _ _ f h).2;omega
theorem MX{u:U}(g:Good u):∀b,(pre u b).Nodup
 |0=>by simp[pre]
 | b + 1=>by
   by_cases hb:b<u.blocks.length
   ·have a:=hN hb
    rw[Px a,wBm];refine⟨MX g b,FH g a,λv d w f e=>?_⟩;subst e
    let⟨c,k,h,i⟩:=Sy.1 d
    let⟨j,hj⟩:=mG.1 f
    have:=(g.PD _ _ _ _ _ h ⟨_,a,hj⟩).1;omega
   ·have:pre u (b+1)=pre u b:=by
      unfold pre;rw[Vz (by omega),Vz (by omega)]
    rw[this];exact MX g b
theorem RT{u:U}(g:Good u):(pre u u.blocks.length).length=u.ee.length:=by
 refine Nat.le_antisymm (qH _ _ (MX g _) λv hv=>?_) ?_
 ·let⟨c,k,a,_⟩:=Sy.1 hv
  exact g.uz _ _ _ a
 ·have a:(List.range u.ee.length).length=u.ee.length:=List.length_range;rw[<-a];refine sub_le _ _ List.nodup_range λv hv=>?_;rw[List.mem_range]at hv
  let⟨b,k,d⟩:=g.MF v hv trivial
  refine Sy.2 ⟨b,k,d,?_⟩
  let⟨B,e,_⟩:=d
  grind
structure Std (u:U) (b k:Nat) (bl pl:List Int):Prop where
 nb:bl.length=u.ee.length
 np:pl.length=u.ee.length
 yes:∀v c j,At u v c j->(c<b\/(c=b/\j<k))->bl[v]? =some (c:Int)/\pl[v]? =some (j:Int)
 no:∀v c j,At u v c j->¬(c<b\/(c=b/\j<k))->bl[v]? =some (-1)
theorem Std.step{u:U}{k:Nat}{bl pl:List Int}(g:Good u)(S:Std u b k bl pl){v:Nat}(hv:At u v b k):Std u b (k+1) (bl.set v (b:Int)) (pl.set v (k:Int)):=by
 have d:=g.uz _ _ _ hv;refine⟨by simp[S.nb],by simp[S.np],λw c j a hc=>?_,λw c j a hc=>?_⟩
 ·by_cases e:w=v
  ·subst e;obtain⟨rfl,rfl⟩:=g.PD _ _ _ _ _ a hv;rw[Qk (by rw[S.nb];exact d),Qk (by rw[S.np];exact d)]
   simp_all
  ·rw [Qp (by omega),Qp (by omega)];refine S.yes w c j a ?_;rcases hc with h|⟨rfl,h⟩
   ·omega
   ·refine .inr ⟨rfl,?_⟩;rcases Ss j k with f|f
    ·exact f
    ·exfalso;obtain rfl:j=k:=by omega
     let⟨B,i,l⟩:=a
     let⟨B',m,n⟩:=hv
     simp_all
 ·have e:w≠v:=λe=>by
   subst e;obtain⟨rfl,rfl⟩:=g.PD _ _ _ _ _ a hv;omega
  rw[Qp (by omega)];exact S.no w c j a (by omega)
theorem Std.next{u:U}{bl pl:List Int}(g:u.blocks[b]? =some B)(S:Std u b B.ee.length bl pl):Std u (b+1) 0 bl pl:=by
 have f:∀v c j,At u v c j->((c<b\/(c=b/\j<B.ee.length))↔(c<b+1\/(c=b+1/\j<0))):=by
  intro v c j hv;constructor
  ·omega
  ·intro h;by_cases e:c=b
   ·subst e
    let⟨B',a,d⟩:=hv
    grind
   ·omega
 exact⟨S.nb,S.np,λv c j a d=>S.yes v c j a (by grind),λv c j a d=>S.no v c j a (by omega)⟩
theorem zaH:P0.underlying hY=some .bool:=by kernel_rfl
theorem RC(a b:Bool):eh .neq hY (.bool a) (.bool b)=some (.bool (a != b)):=by
 show Zm hY true (.bool a) (.bool b)=_;unfold Zm zel zbg;rw[zaH];rfl
section
variable{F F':Nat->Prop}{h h':Hp}{cs:List Pc}{Q:fo}{u:U}{vv vb vs:V}{lc:Nat}{bl pl GQ:V}
theorem zbP(g:Good u){ty:Nat}(H0:ej F h (fi lc ty [.I u.func,.I u.pc,vv,vb,vs,bl,pl,GQ]::cs))(t:Ff F h u vv vb vs)
  (H:∀F' h' b' p' xs ys,Sn F h F' h'->ej F' h' (fi lc ty [.I u.func,.I u.pc,vv,vb,vs,b',p',GQ]::cs)->iD eZ F' h' xs b'->iD eZ F' h' ys p'->Std u u.blocks.length 0 xs ys->Q (.bool true) h') :
  cP CS ui [.ptr lc 0] h Q:=by
 refine IZ ?_;have nv:=g.nv;have nb:=g.nb;have aJ:=(H0.ok 0 _ rfl).2.1;refine ec (eC _ _) (ec (by rfl) (ec (by rfl) (ec (H0.ld 0 rfl rfl) (ec t.v.len ?_))));rw[pW rfl (by decide) (by omega),gU];obtain⟨H1,s1⟩:=H0.make (E:=eZ) u.ee.length rfl rfl;have n1:(h.new (.cells fJ 1 true false (List.replicate u.ee.length (V.I 0)))).next=h.next+1:=rfl;have g1:(h.new (.cells fJ 1 true false (List.replicate u.ee.length (V.I 0)))).get h.next=_:=eQ _ _;show oP (fR (.ptr lc 0)) _;generalize aK:h.new (.cells fJ 1 true false (List.replicate u.ee.length (V.I 0)))=a at*;refine ec (eC _ _) (ec (by rfl) (ec (by rfl) (ec (H1.ld 1 rfl rfl) (ec (t.since s1).v.len ?_))));rw[pW rfl (by decide) (by omega),gU];obtain⟨H2,s2⟩:=H1.make (E:=eZ) u.ee.length rfl rfl;have g2:(a.new (.cells fJ 1 true false (List.replicate u.ee.length (V.I 0)))).get a.next=_:=eQ _ _;have aL:=(eE (.cells fJ 1 true false (List.replicate u.ee.length (V.I 0))) (by omega)).trans g1;show oP (fR (.ptr lc 0)) _;generalize aM:a.new (.cells fJ 1 true false (List.replicate u.ee.length (V.I 0)))=h2 at*;refine ec (eC _ _) (ec (by rfl) ⟨by simp_all,H2.ld 2 rfl rfl,by simp_all,H2.ld 2 rfl rfl,?_⟩)
 let⟨h3,e3,n3,H3,s3,k3⟩:=H2.stk 2 (o:=5) (u:= .slice h.next 0 u.ee.length) rfl (by simp) rfl
 rw[ e3];refine⟨n3,ec (eC _ _) (ec (by rfl) ⟨by grind[O.jT],?_⟩)⟩
 let⟨h4,e4,n4,H4,s4⟩:=H3.st 2 (o:=6) (u:= .slice a.next 0 u.ee.length) rfl (by simp) rfl
 rw[ e4];refine⟨n4,?_⟩;have aN:=((s1.trans s2).trans s3).trans s4;generalize V.slice a.next 0 u.ee.length=vp at*;generalize V.slice h.next 0 u.ee.length=vq at*;have lq:=H4.len 1 rfl;rw[wBF]at lq;refine ec (eC _ _) (ec (by rfl) (ec (H4.ld 2 rfl rfl) (ec lq ?_)))
 refine Fg (λk z I J h'=>∃i xs,z = .ptr lc 0/\I = .I u.ee.length/\J = .I (i:Nat)/\i+k=u.ee.length/\xs.length=u.ee.length/\(∀j,j<i->xs[j]? =some (-1))/\Sn F h F h'/\
  ej F h' (fu eZ fJ (List.replicate u.ee.length (0:Int)) vp::fu eZ fJ xs vq::fi lc ty [.I u.func,.I u.pc,vv,vb,vs,vq,vp,GQ]::cs)) ?_ (k:=u.ee.length)
  (by grind)
 rintro k z I J h5 ⟨i,xs,rfl,rfl,rfl,hk,ae,hm,s5,H5⟩;unfold qx;by_cases hi:i<u.ee.length
 ·refine gJ ?_;obtain⟨l6,o6,h6,e6,e7,n6,K,A⟩:=H5.Mb 1 rfl (k:=i) (by omega) rfl rfl rfl;refine ec (eC _ _) (ec (by rfl) (ec (H5.ld 2 rfl rfl) (ec e6 ?_)));rw[e7,ef];refine fT ⟨k-1,by omega,i+1,xs.set i (-1),rfl,rfl,rfl,by omega,by simp_all,λj hj=>?_,s5.trans A,K⟩
  grind
 refine iY ?_;refine ec (eC _ _) (ec (by rfl) (ec (by rfl) (ec (H5.ld 2 rfl rfl) (ec (t.since s5).b.len ?_))));have S0:Std u 0 0 xs (List.replicate u.ee.length (0:Int)):=⟨ae,by simp,by omega,λv c j a _=>hm v (by have:=g.uz _ _ _ a;omega)⟩
 refine EA (λk z x4 d f m h'=>∃b xs ys,z = .ptr lc 0/\x4 = .I ((pre u b).length:Nat)/\d=vb/\f = .I u.blocks.length/\m = .I (b:Nat)/\b+k=u.blocks.length/\Std u b 0 xs ys/\Sn F h F h'/\
  ej F h' (fu eZ fJ ys vp::fu eZ fJ xs vq::fi lc ty [.I u.func,.I u.pc,vv,vb,vs,vq,vp,GQ]::cs)) ?_ (k:=u.blocks.length)
  ⟨0,xs,_,rfl,rfl,rfl,rfl,rfl,by omega,S0,s5,H5⟩
 rintro k1 z x4 d f m h6 ⟨b,ag,ah,rfl,rfl,ai,rfl,rfl,aO,S1,A,K⟩;subst d;unfold qt;by_cases hb:b<u.blocks.length;rotate_left
 ·refine iY ?_;obtain rfl:b=u.blocks.length:=by omega
  refine ec (eC _ _) (ec (by rfl) (ec (by rfl) (ec (K.ld 2 rfl rfl) (ec (t.since A).v.len (fK ?_)))));rw[RT g,No rfl]
  let⟨L,M,r7⟩:=K.jG 0 rfl
  simp[ CW]at L
  let⟨p,q,r8⟩:=L.jG 1 rfl
  exact H _ _ _ _ _ _ ((A.trans M).trans q) p.tail.tail r8 (r7.since q) S1
 refine gJ ?_;obtain⟨B,C⟩:∃B,u.blocks[b]? =some B:=by simp_all
 let⟨l7,o7,bv,bn,bp,_,i1,i2,N,iN,ip,_⟩:=(t.since A).Bt C
 refine ec i1 (ec i2 ?_);refine j5 K rfl rfl (by simp only[pY,fh,N.one,iN.one,ip.one];rfl) λh7 L M=>?_;have N:=N.since M;refine ec (by rfl) (ec (L.ld 0 rfl rfl) (ec N.len ?_));have aP:(pre u b).length<=u.ee.length:=by
  rw[<-RT g];unfold pre;have:u.blocks.take b <+: u.blocks:=List.take_prefix _ _
  let⟨r,hr⟩:=this
  conv=>rhs;rw[QQ,<-hr,WQ,nB]
  omega
 have aI:(pre u b).length+B.ee.length<=u.ee.length:=by
  rw[<-nB,<-Px C];rw[<-RT g];unfold pre;have:u.blocks.take (b+1) <+: u.blocks:=List.take_prefix _ _
  let⟨r,hr⟩:=this
  conv=>rhs;rw[QQ,<-hr,WQ,nB]
  omega
 refine Fz (λk z x4 x5 x7 d f m D P R h'=>∃j n xs ys,z = .ptr lc 0/\x4 = .I (((pre u b).length+j:Nat):Int)/\x5 = .I b/\x7 = .bool n/\d=vb/\f = .I u.blocks.length/\m = .I b/\
  D=bv/\P = .I B.ee.length/\R = .I j/\j+k=B.ee.length/\(n=true\/∃v w x,At u v b (j-1)/\0<j/\w=v/\u.ee[v]? =some x/\iX x.op=false)/\Std u b j xs ys/\Sn F h F h'/\
  ej F h' (fu eZ fJ ys vp::fu eZ fJ xs vq::fi lc ty [.I u.func,.I u.pc,vv,vb,vs,vq,vp,GQ]::cs)) ?_ (k:=B.ee.length)
  ⟨0,true,ag,ah,rfl,rfl,rfl,rfl,rfl,rfl,rfl,rfl,rfl,rfl,by omega,.inl rfl,S1,A.trans M,L.tail⟩
 rintro k2 z x4 x5 x7 d f m D P R h8 ⟨j,n,G,S,rfl,rfl,rfl,rfl,ai,rfl,rfl,aQ,rfl,rfl,aR,T,S2,q,p⟩;subst d D;unfold qp;by_cases hj:j<B.ee.length;rotate_left
 ·refine iY ?_;obtain rfl:j=B.ee.length:=by omega
  refine fT ⟨k1-1,by omega,b+1,G,S,rfl,?_,rfl,rfl,rfl,by omega,S2.next C,q,p⟩;rw[Px C,nB]
 refine gJ ?_;have e:At u (B.ee[j]) b j:=⟨B,C,hN hj⟩
 have U:=g.uz _ _ _ e;obtain⟨x,W⟩:∃x,u.ee[B.ee[j]]? =some x:=by simp_all
 have aj:iD eN F h8 B.ee bv:=by
  let⟨l7,o7,bv',bn',bp',_,aS,aT,iv',_⟩:=(t.since q).Bt C
  exact ((by omega)|> λ_=>(by
   have hk:=λl hl=>(q.fm l hl).trans ((A.trans M).fm l hl).symm;exact N.fm hk))
 let⟨l9,o9,_,j1,j2⟩:=aj.nat (hN hj) .i64
 refine ec j1 (ec j2 (ec (eC _ _) (ec (by rfl) (ec (by rfl) (ec (p.ld 2 rfl rfl) (ec (t.since q).v.len ?_))))));refine A7 ?_;rw[No U];refine ec rfl ?_;have ak:=S2.no _ _ _ e (by omega)
 let⟨hvl2,hno2⟩:=j6.1 ak
 let⟨lb,ob,ub,b1,b2,b3⟩:=p.Yk 1 rfl hvl2 .i64 rfl
 obtain rfl:ub = .I (-1):=by
  have:[ub]=[V.I G[B.ee[j]]]:=b3
  simp_all
 have eA:nr (.bool (!true)) (oB (some (V.ptr lc 0)) λal=>oB (fR al) λam=>oB (fV 5 am) λan=>oB (eD an h8) λao=>oB (some (V.I (B.ee[j]:Nat))) λaq=>oB (gQ 1 ao aq) λar=>oB (eD ar h8) λau=>eh .geq 3 au (V.I 0))=some (.bool false):=by
  have l5:eD (.ptr lc (0+5)) h8=some vq:=p.ld 2 rfl rfl;simp only[Bool.not_true,qN,fe,eC,fx,l5,b1,b2,jt];rfl
 refine ec eA (gf (fN (by simp) ?_))
 let⟨lv,ov,wv,_,c1,_,_,cv⟩:=(t.since q).val W
 refine ec (eC _ _) (ec (by rfl) (ec (by rfl) (ec (p.ld 2 rfl rfl) (ec c1 (ec (by rfl) (ec cv.op ?_))))));refine ec (by rfl) ?_;have eH:nr (.bool ((x.op:Int) == 21)) (oB (some (V.I x.op)) λaw=>eh .eql 3 aw (V.I 1))=some (.bool (iX x.op)):=by
  simp[fe,hZ,jB];unfold iX;rw[show((x.op:Int) == 21)=(x.op == 21) from ieq _ 21,show((x.op:Int) == 1)=(x.op == 1) from ieq _ 1,Bool.or_comm]
 refine ec eH ?_;have aU:iX x.op=true->n=true:=by
  intro s;rcases T with a|⟨v,w,y,a,h2,rfl,h3,h4⟩
  ·exact a
  ·exfalso;have h5:=g.zbQ (B.ee[j]) w b (j-1) x y (by grind) a W h3 s
   simp_all
 have ax:jm (.bool (iX x.op)) (oB (some (V.bool n)) λX=>za .not X)=some (.bool false):=by
  cases s:iX x.op with
  |false=>rfl
  |true=>simp_all
 refine ec ax ?_;have aV:iX x.op=true->((x.op:Int) == 1)=((b:Int) == 0):=by
  intro s;unfold iX at s;simp[Jz,Gi]at s;rw[show((x.op:Int) == 1)=(x.op == 1) from ieq _ 1,show((b:Int) == 0)=(b == 0) from ieq _ 0];rcases s with a|a
  ·rw[g.par _ _ _ _ e W a,a];rfl
  ·have:=(g.VG _ _ _ _ _ e W a C).1
   simp_all
 have eM:nr (.bool false) (oB (some (V.I x.op)) λY=>oB (eh .eql 3 Y (V.I 1)) λZ=>oB (some (V.I b)) λaa=>oB (eh .eql 3 aa (V.I 0)) λab=>oB (eh .neq 4 Z ab) λac=>oB (some ac) λad=>jm ad (some (V.bool (iX x.op))))=some (.bool false):=by
  simp[qN,fe,hZ,RC,jU]
  cases s:iX x.op with
  |false=>simp
  |true=>simp_all
 refine ec eM (gf (fN (by simp) ?_));obtain⟨aW,aX,aY,ay,az,aA,aB,aC⟩:=p.Mb 1 rfl hvl2 rfl rfl rfl;refine ec (eC _ _) (ec (by rfl) (ec (p.ld 2 rfl rfl) (ec (eC _ _) (ec (by rfl) (ec (p.ld 2 rfl rfl) (ec ay ?_))))));rw[az,ef];obtain⟨aZ,a0,a1,aD,aE,aF,aG,aH⟩:=aB.Mb 0 rfl (by rw[S2.np];exact U) rfl rfl rfl;refine⟨aA,ec aD ?_⟩;rw[aE,ef];refine⟨aF,fT (fT ?_)⟩;refine⟨k2-1,by omega,j+1,iX x.op,G.set (B.ee[j]) (b:Int),S.set (B.ee[j]) (j:Int),rfl,?_,rfl,rfl,rfl,rfl,rfl,rfl,rfl,rfl,by omega,?_,S2.step g e,(q.trans aC).trans aH,aG⟩
 ·rfl
 ·cases s:iX x.op with
  |true=>simp_all
  |false=>exact .inr ⟨_,_,x,e,by omega,rfl,W,s⟩
def KI{α:Type}(E:ue α)(VZ ty:Nat)(Oh:List (List α))(v:V)(ds:List V):Pc where
 pQ:=λl=>Loc v l\/∃d∈ds,Loc d l
 ok F h:=∃t,v = .slice t 0 Oh.length/\t<h.next/\¬F t/\h.get t=some (.cells VZ 1 true false ds)/\ds.length=Oh.length/\(∀(i:Nat) x d,Oh[i]? =some x->ds[i]? =some d->lN E ty F h x d)/\(∀d∈ds,¬Loc d t)/\
  ∀(i j:Nat) d e,i≠j->ds[i]? =some d->ds[j]? =some e->∀l,Loc d l->¬Loc e l
 Iq:=λ⟨t,b,c,m,n,f,a,g,k⟩ l hl=>by
  rcases hl with hl|⟨d,hd,hl⟩
  ·simp_all
  ·let⟨i,hi⟩:=mG.1 hd
   have r:=(j6.1 hi).1;exact((a i _ d (hN (by omega)) hi).y6 hl).2
 fm:=λ{F h h'} ⟨t,b,c,m,n,f,a,g,k⟩ o hl q=>by
  refine⟨t,b,EP c q,m,by simp_all,f,λi x d p hd=>?_,g,k⟩;exact(a i x d p hd).fm o (by grind) q
 mono:=λ{F F' h} ⟨t,b,c,m,n,f,a,g,k⟩ o hl=>by
  refine⟨t,b,c,by simp_all,n,f,λi x d p hd=>?_,g,k⟩;exact(a i x d p hd).mono o (by grind)
theorem U6{α:Type}{E:ue α}{F:Nat->Prop}{h:Hp}:∀{Oh:List (List α)}{ds:List V},ds.length=Oh.length->(∀(i:Nat) x d,Oh[i]? =some x->ds[i]? =some d->iD E F h x d)->rF (eL E) F h ds Oh
 |[],_,_,_=>trivial
 |x::Oh,[],h,_=>by simp_all
 |x::Oh,d::ds,hl,H=>⟨[d],ds,rfl,⟨d,rfl,H 0 x d rfl rfl⟩,U6 (by simp_all) λi x d a hd=>H (i+1) x d (by simp_all) (by simp_all)⟩
variable{α:Type}{E:ue α}{VZ ty:Nat}{Oh:List (List α)}{v:V}{ds:List V}
theorem ej.zc8(H:ej F h cs)(n:Nat):ej F (h.new (.cells VZ 1 true false (List.replicate n V.ed))) (KI E VZ ty (List.replicate n []) (.slice h.next 0 n) (List.replicate n V.ed)::cs)/\Sn F h F (h.new (.cells VZ 1 true false (List.replicate n V.ed))):=by
 have a:∀{i:Nat} {d:V},(List.replicate n V.ed)[i]? =some d->d = .ed:=by grind
 refine H.new _ ⟨h.next,by simp,Rz _,H.fresh,eQ _ _,by simp,λi x d b hd=>?_,λd hd=>?_,λi j d e _ hd _ l hl=>?_⟩ λl hl=>?_
 ·obtain rfl:=a hd;obtain rfl:x=[]:=by grind
  exact .nil
 ·simp_all
 ·obtain rfl:=a hd;exact hl.elim
 ·rcases hl with hl|⟨d,hd,hl⟩
  ·exact hl.symm
  simp_all
theorem ej.zdt(H:ej F h cs)(i:Nat)(hi:cs[i]? =some (KI E VZ ty Oh v ds)):fM v=some (.I Oh.length):=by
 obtain⟨t,rfl,_⟩:=H.ok i _ hi;rfl
theorem ej.zc4(H:ej F h cs)(i:Nat)(hi:cs[i]? =some (KI E VZ ty Oh v ds)){b:Nat}(W:b<Oh.length){jh NM:Nat}{y:α}{w:List V}{ro:Bool}(L:E.rel F h y w)(hz:0<E.sz)(N:jh<=1000)(hlen:Oh[b].length<1000000) :
  ∃l d n A B,ds[b]? =some d/\l<h.next/\gQ 1 v (.I b)=some (.ptr l (b*1))/\eD (.ptr l (b*1)) h=some d/\fg ty E.sz jh d (.slice h.next 0 1) (h.new (.cells NM E.sz true ro w))=some (.val n A)/\h.next+1<=A.next/\
   gw 1 (.ptr l (b*1)) n A=some (.val .undef B)/\A.next<=B.next/\ej F B (cs.set i (KI E VZ ty (Oh.set b (Oh[b]++[y])) v (ds.set b n)))/\Sn F h F B:=by
 obtain⟨t,rfl,A,B,h4,h5,O,P,M⟩:=H.ok i _ hi;obtain⟨d,hd⟩:∃d,ds[b]? =some d:=by simp_all
 have Q:=O b _ d (hN W) hd;have C:=mG.2 ⟨b,hd⟩;have R:lN E ty F (h.new (.cells NM E.sz true ro w)) Oh[b] d:=Q.fm (λl hl=>eE _ (H.fl l hl)) (λl hl=>eE _ (Q.y6 hl).2.1) (Ql _);have hx:lT (h.new (.cells NM E.sz true ro w)) E.sz (.slice h.next 0 1)=some (1,w):=oI (by rw[E.len L];simp);have aa:(Oh[b].length+1)*jh<=1000000*1000:=Nat.mul_le_mul (by omega) N
 let⟨n,c,e1,X,J,l1⟩:=R.append (jh:=jh) (ys:=[y]) hx ⟨w,[],by simp,E.fm (λl hl=>eE _ (H.fl l hl)) L,trivial⟩ (by rw[E.len L];simp) (E.one L) (by simp) hz (λl hl=>wBd (H.fl l hl)) (by simp;omega) (by simp;omega)
 have n1:(h.new (.cells NM E.sz true ro w)).next=h.next+1:=rfl;have D:∀l,Loc n l->Loc d l\/h.next<=l:=by grind
 have p:t<c.next:=by have:=J.next;omega
 have gt:c.get t=some (.cells VZ 1 true false ds):=by rw[J.fm t (by omega) (P d C),eE _ A];exact h4
 have K:=OS (o:=b*1) gt (by omega) X.one;rw[Nat.mul_one]at K;have T:¬Loc n t:=by grind
 have cg:mr (KI E VZ ty Oh (.slice t 0 Oh.length) ds).pQ h (c.put t (.cells VZ 1 true false (ds.set b n))):=by
  refine(((mr.new h _).zc3 λ_ _ h=>h).trans' (by omega) λl _ hl=> .inr ⟨d,C,hl⟩).trans' (mr.put (S:=λl=>l=t) _ rfl p) λl _ e=> .inl e.symm
 have g:∀{j:Nat} {e:V},(ds.set b n)[j]? =some e->(j=b/\e=n)\/(j≠b/\ds[j]? =some e):=by grind
 have q:∀{j:Nat} {e:V},ds[j]? =some e->∀l,Loc e l->l<h.next:=λ{j e} a l hl=>by
  have ab:=(j6.1 a).1;exact((O j _ e (hN (by omega)) a).y6 hl).2.1
 refine⟨t,d,n,c,c.put t (.cells VZ 1 true false (ds.set b n)),hd,A,?_,?_,e1,J.next,by simp_all,jj _,H.BV hi cg ?_ ?_⟩
 ·simp_all[vG,Gg]
 ·rw[Nat.mul_one];grind[kH]
 ·refine ⟨t,by simp,p,B,fY _ p,by simp[h5],λj x e r a=>?_,λe a=>?_,λj k e f Y a Z l hl s=>?_⟩
  ·rcases g a with⟨rfl,rfl⟩|⟨m,a⟩
   ·rw[Qk W]at r;obtain rfl:=Option.some.inj r;exact X.fm (by grind[gq]) (by grind[gq]) (jj _)
   ·rw[Qp λe=>m e.symm]at r;have U:=mG.2 ⟨j,a⟩;refine(O j x e r a).fm (λl hl=>?_) (λl hl=>?_) (by have:=J.next;show h.next<=c.next;omega)
    ·rw[gq _ p λe=>B (e▸hl),J.fm l (wBd (H.fl l hl)) λG=>(Q.y6 G).2.2 hl,eE _ (H.fl l hl)]
    ·have Ma:=q a l hl;rw[gq _ p λe'=>P e U (e'▸hl),J.fm l (by omega) λG=>M j b e d m a hd l hl G,eE _ Ma]
  ·let⟨j,m⟩:=mG.1 a
   rcases g m with⟨_,rfl⟩|⟨_,m⟩
   ·exact T
   ·exact P e (mG.2 ⟨j,m⟩)
  ·rcases g a with⟨e1,e2⟩|⟨m,I⟩
   ·rcases g Z with⟨K,_⟩|⟨hk,u⟩
    ·exact Y (e1.trans K.symm)
    ·subst e1 e2;rcases D l hl with z|z
     ·exact M k j f d hk u hd l s z
     ·have:=q u l s;omega
   ·rcases g Z with⟨K,e4⟩|⟨hk,u⟩
    ·subst K e4;rcases D l s with z|z
     ·exact M j k e d m I hd l hl z
     ·have:=q I l hl;omega
    ·exact M j k e f Y I u l hl s
 ·intro l hl;rcases hl with hl|⟨e,a,hl⟩
  ·exact .inl (.inl hl)
  ·let ⟨j,m⟩:=mG.1 a
   rcases g m with⟨_,rfl⟩|⟨_,m⟩
   ·rcases D l hl with z|z
    ·exact .inl (.inr ⟨d,C,z⟩)
    ·exact .inr z
   ·exact .inl (.inr ⟨e,mG.2 ⟨j,m⟩,hl⟩)
theorem ej.zcH(H:ej F h cs)(i:Nat)(hi:cs[i]? =some (KI E VZ ty Oh v ds)):∃F',ej F' h (cs.set i emp)/\Sn F h F' h/\iD (eL E) F' h Oh v:=by
 have a:=H.ok i _ hi
 let⟨b,c⟩:=H.zdg (p:=emp) (F':=λl=>F l\/(KI E VZ ty Oh v ds).pQ l) hi (mr.refl _ _) (by simp_all) (by grind) trivial λ_ h=>h.elim
 refine⟨_,b,c,?_⟩;obtain⟨t,rfl,m,n,e,f,g,o,q⟩:=a;refine .inr ⟨t,0,VZ,true,false,ds,rfl,.inr (.inl rfl),e,.inr rfl,L9 _,?_⟩;rw[wBU];exact U6 f λj x d k hd=>(g j x d k hd).slR (by simp_all) λl hl=> .inr (.inr ⟨d,mG.2 ⟨j,hd⟩,hl⟩)
def kI(u:U)(i j b:Nat):List Nat:=od (u.blocks.take i) 0 b++(match u.blocks[i]? with
 |some B=>((B.next.take j).filter (·= b)).map λ_=>i
 |none=>[])
theorem Sp(u:U)(b:Nat):kI u 0 0 b=[]:=by
 grind[kI,od]
theorem SZ{u:U}{i j t:Nat}(a:u.blocks[i]? =some B)(c:B.next[j]? =some t):kI u i (j+1) b=if b=t then kI u i j b++[i] else kI u i j b:=by
 unfold kI;rw[a];obtain⟨d,rfl⟩:=j6.1 c;simp only[JE d,List.filter_append]
 grind
theorem RP{u:U}{i:Nat}(a:u.blocks[i]? =some B):kI u (i+1) 0 b=kI u i B.next.length b:=by
 unfold kI;obtain⟨hi,rfl⟩:=j6.1 a;rw[ JE hi,AJ];have hl:(u.blocks.take i).length=i:=by rw[Sr];omega
 simp[ Gg]
 grind[od]
theorem rK(u:U)(b:Nat):kI u u.blocks.length 0 b=Un.ahead u b:=by
 simp_all[kI,Un.ahead]
theorem sK{u:U}(g:Good u){i j b:Nat}(hi:i<=u.blocks.length)(f:j<=2):(kI u i j b).length<=2*i+2:=by
 have c:∀i,i<=u.blocks.length->(od (u.blocks.take i) 0 b).length<=2*i:=by
  intro i
  induction i with
  |zero=>grind[od]
  | succ i d=>
    intro hi;have a:i<u.blocks.length:=by omega
    rw[JE a,AJ];have:=d (by omega);have e:u.blocks[i]? =some u.blocks[i]:=by simp_all
    have k:(u.blocks[i]).next.length<=2:=by
      rcases g.fin i _ e with⟨_,h⟩|⟨_,h,_⟩|⟨_,h,_⟩
      ·omega
      ·omega
      ·simp_all
    grind[od]
 grind[kI,nB]
theorem Ux(g:Good u)(P:ej F h cs)(s:Ff F h u vv vb vs)(H:∀F' h' v,Sn F h F' h'->ej F' h' cs->iD (eL eN) F' h' ((List.range u.blocks.length).map (Un.ahead u)) v->Q v h') :
  cP CS BZ [.agg (uC u vv vb vs)] h Q:=by
 refine TW ?_;have nb:=g.nb;refine pz P s.one λf G s1=>?_;refine ec (by rfl) (ec (G.ld 0 rfl rfl) (ec (s.since s1).b.len ?_));rw[pW rfl (by decide) (by omega),fH];obtain⟨w,I⟩:=G.zc8 u.blocks.length;have x:List.replicate u.blocks.length ([]:List Nat)=(List.range u.blocks.length).map (kI u 0 0):=by
  refine List.ext_getElem (by simp) λi f R=>?_;simp[Sp]
 rw[x]at w;refine ec (by rfl) (ec (w.ld 1 rfl rfl) (ec (s.since (s1.trans I)).b.len ?_))
 refine OO (λk m gI iQ ye h'=>∃i ds,m = .slice f.next 0 u.blocks.length/\gI=vb/\iQ = .I u.blocks.length/\ye = .I (i:Nat)/\i+k=u.blocks.length/\Sn F h F h'/\
  ej F h' (KI eN jX fJ ((List.range u.blocks.length).map (kI u i 0)) (.slice f.next 0 u.blocks.length) ds::cs)) ?_ (k:=u.blocks.length)
  ⟨0,_,rfl,rfl,rfl,rfl,by omega,s1.trans I,(w.forget (i:=1) rfl)|> λH=>by
    exact ⟨H.fl,λi c hc=>by
      cases i with
      |zero=>exact H.ok 0 c hc
      |succ i=>exact H.ok (i+2) c hc,λi j c d hc hd hn=>by
      cases i with
      | zero=>
        cases j with
        |zero=>omega
        |succ j=>exact H.K5 0 (j+2) c d hc hd (by omega)
      | succ i=>
        cases j with
        |zero=>exact H.K5 (i+2) 0 c d hc hd (by omega)
        |succ j=>exact H.K5 (i+2) (j+2) c d hc hd (by omega)⟩⟩
 rintro k m gI iQ ye S ⟨i,ds,rfl,y,rfl,rfl,hk,z,J⟩;subst gI;unfold AE;by_cases hi:i<u.blocks.length;rotate_left
 ·refine iY ?_;obtain rfl:i=u.blocks.length:=by omega
  let⟨T,t,s4,K⟩:=J.zcH 0 rfl
  have e:(List.range u.blocks.length).map (kI u u.blocks.length 0)=(List.range u.blocks.length).map (Un.ahead u):=by
   refine(by grind[wBe,rK])
  rw[e]at K;exact H T S _ (z.trans s4) t.tail K
 refine gJ ?_;obtain⟨B,A⟩:∃B,u.blocks[i]? =some B:=by simp_all
 let⟨l7,o7,bv,bn,bp,_,U,V,iv,n,ip,_⟩:=(s.since z).Bt A
 have W:B.next.length<=2:=by
  rcases g.fin i _ A with⟨_,h⟩|⟨_,h,_⟩|⟨_,h,_⟩
  ·omega
  ·omega
  ·simp_all
 refine ec U (ec V ?_);refine j5 J rfl rfl (by simp only[pY,fh,iv.one,n.one,ip.one];rfl) λX t s4=>?_;have n:=n.since s4;refine ec (by rfl) (ec (t.ld 0 rfl rfl) (ec n.len ?_))
 refine OL (λk m x4 gI iQ ye a o p h'=>∃j ds,m = .slice f.next 0 u.blocks.length/\x4 = .I i/\gI=vb/\iQ = .I u.blocks.length/\ye = .I i/\a=bn/\o = .I B.next.length/\p = .I (j:Nat)/\
  j+k=B.next.length/\Sn F X F h'/\ej F h' (KI eN jX fJ ((List.range u.blocks.length).map (kI u i j)) (.slice f.next 0 u.blocks.length) ds::cs)) ?_ (k:=B.next.length)
  ⟨0,ds,rfl,rfl,rfl,rfl,rfl,rfl,rfl,rfl,by omega,Sn.refl _ _,t.tail⟩
 rintro Y m x4 gI iQ ye a o p L ⟨j,q,rfl,rfl,y,rfl,rfl,Z,rfl,rfl,aa,C,M⟩;subst gI a;unfold Az;by_cases hj:j<B.next.length;rotate_left
 ·refine iY ?_;obtain rfl:j=B.next.length:=by omega
  refine fT ⟨k-1,by omega,i+1,q,rfl,rfl,rfl,rfl,by omega,(z.trans s4).trans C,?_⟩;have e:(List.range u.blocks.length).map (kI u (i+1) 0)=(List.range u.blocks.length).map (kI u i B.next.length):=by grind[wBe,RP]
  grind
 refine gJ ?_
 let⟨l8,o8,_,j1,j2⟩:=(n.since C).nat (hN hj) .i64
 have D:B.next[j]<u.blocks.length:=g.nx i _ (by grind[next,AQ]);have N:=M.zdt 0 rfl;rw[Qv,List.length_range]at N;refine ec j1 (ec j2 (ec N ?_));refine A7 (gf (fX (by simp_all) ?_));have r:B.next[j]<((List.range u.blocks.length).map (kI u i j)).length:=by simpa using D
 obtain ⟨l,d,O,h6,h7,hd,hl,e1,e2,e3,e4,e5,e6,H7,s7⟩:=M.zc4 0 rfl r (jh:=8) rfl (by decide) (by decide) (by
  grind[sK])
 refine ec e1 (ec e2 ?_);rw[FG,fH];have E:fg 3 1 8 d (.slice L.next 0 1) (L.new (.cells 3 1 true false (oJ [i])))=some (.val O h6):=e3;rw[E,ef];refine ec e1 ?_;rw[e5,ef];refine NR ?_;unfold zx;refine fT ⟨Y-1,by omega,j+1,q.set (B.next[j]) O,rfl,rfl,rfl,rfl,rfl,rfl,rfl,rfl,by omega,C.trans s7,?_⟩;have e:((List.range u.blocks.length).map (kI u i j)).set (B.next[j]) (((List.range u.blocks.length).map (kI u i j))[B.next[j]]'r++[i])=(List.range u.blocks.length).map (kI u i (j+1)):=by
  refine List.ext_getElem (by simp) λb f R=>?_;rw[List.getElem_set];simp[List.getElem_map,List.getElem_range];rw[SZ A (hN hj)];by_cases eb:B.next[j]=b
  ·simp_all
  ·grind
 simp_all
