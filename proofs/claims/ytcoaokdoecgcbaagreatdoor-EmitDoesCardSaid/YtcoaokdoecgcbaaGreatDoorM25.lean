/- Parts. -/
import Derived.Test.YtcoaokdoecgcbaaGreatDoorM24
import Derived.KernelRfl
set_option maxHeartbeats 4000000
namespace Go.Proofs.YtcoaokdoecgcbaaGreatDoor.Hx
open Un Dm
variable{b:Nat}{B:Bk}
def pre(u:U)(b:Nat):List Nat:=(u.blocks.take b).flatMap (·.ee)
theorem QS{u:U}(a:u.blocks[b]? =some B):pre u (b+1)=pre u b++B.ee:=by
 unfold pre;obtain⟨c,rfl⟩:=ke.1 a
 grind[Ho]
theorem Tq{u:U}{v:Nat}:v∈pre u b↔∃c k,At u v c k/\c<b:=by
 unfold pre At;simp only[Sg];constructor
 ·grind[mz]
 ·rintro⟨c,k,⟨B,a,d⟩,e⟩;refine⟨B,mz.2 ⟨c,?_⟩,by grind⟩
  simp_all
theorem FZ{u:U}(g:Good u){b:Nat}{B:Bk}(a:u.blocks[b]? =some B):B.ee.Nodup:=by
 rw[List.nodup_iff_pairwise_ne,wBI];intro i j hi c d e;have f:At u (B.ee[i]) b i:=⟨B,a,hZ hi⟩
 have h:At u (B.ee[i]) b j:=⟨B,a,by rw[e];exact hZ c⟩
 have:=(g.Rp _ _ _ _ _ f h).2;omega
theorem Nq{u:U}(g:Good u):∀b,(pre u b).Nodup
 |0=>by simp[pre]
 | b + 1=>by
   by_cases hb:b<u.blocks.length
   ·have a:=hZ hb
    rw[QS a,wBk];refine⟨Nq g b,FZ g a,λv d w f e=>?_⟩;subst e
    let⟨c,k,h,i⟩:=Tq.1 d
    let⟨j,hj⟩:=mz.1 f
    have:=(g.Rp _ _ _ _ _ h ⟨_,a,hj⟩).1;omega
   ·have:pre u (b+1)=pre u b:=by
      unfold pre;rw[Xb (by omega),Xb (by omega)]
    rw[this];exact Nq g b
theorem T3{u:U}(g:Good u):(pre u u.blocks.length).length=u.ee.length:=by
 refine Nat.le_antisymm (qG _ _ (Nq g _) λv hv=>?_) ?_
 ·let⟨c,k,a,_⟩:=Tq.1 hv
  exact g.uP _ _ _ a
 ·have a:(List.range u.ee.length).length=u.ee.length:=List.length_range;rw[<-a];refine sub_le _ _ List.nodup_range λv hv=>?_;rw[List.mem_range]at hv
  let⟨b,k,d⟩:=g.NN v hv trivial
  refine Tq.2 ⟨b,k,d,?_⟩
  let⟨B,e,_⟩:=d
  grind
structure Std (u:U) (b k:Nat) (bl pl:List Int):Prop where
 nb:bl.length=u.ee.length
 np:pl.length=u.ee.length
 yes:∀v c j,At u v c j->(c<b\/(c=b/\j<k))->bl[v]? =some (c:Int)/\pl[v]? =some (j:Int)
 no:∀v c j,At u v c j->¬(c<b\/(c=b/\j<k))->bl[v]? =some (-1)
theorem Std.step{u:U}{k:Nat}{bl pl:List Int}(g:Good u)(S:Std u b k bl pl){v:Nat}(hv:At u v b k):Std u b (k+1) (bl.set v (b:Int)) (pl.set v (k:Int)):=by
 have d:=g.uP _ _ _ hv;refine⟨by simp[S.nb],by simp[S.np],λw c j a hc=>?_,λw c j a hc=>?_⟩
 ·by_cases e:w=v
  ·subst e;obtain⟨rfl,rfl⟩:=g.Rp _ _ _ _ _ a hv;rw[Tt (by rw[S.nb];exact d),Tt (by rw[S.np];exact d)]
   simp_all
  ·rw [VL (by omega),VL (by omega)];refine S.yes w c j a ?_;rcases hc with h|⟨rfl,h⟩
   ·omega
   ·refine .inr ⟨rfl,?_⟩;rcases Sf j k with f|f
    ·exact f
    ·exfalso;obtain rfl:j=k:=by omega
     let⟨B,i,l⟩:=a
     let⟨B',m,n⟩:=hv
     simp_all
 ·have e:w≠v:=λe=>by
   subst e;obtain⟨rfl,rfl⟩:=g.Rp _ _ _ _ _ a hv;omega
  rw[VL (by omega)];exact S.no w c j a (by omega)
theorem Std.next{u:U}{bl pl:List Int}(g:u.blocks[b]? =some B)(S:Std u b B.ee.length bl pl):Std u (b+1) 0 bl pl:=by
 have f:∀v c j,At u v c j->((c<b\/(c=b/\j<B.ee.length))↔(c<b+1\/(c=b+1/\j<0))):=by
  intro v c j hv;constructor
  ·omega
  ·intro h;by_cases e:c=b
   ·subst e
    let⟨B',a,d⟩:=hv
    grind
   ·omega
 exact⟨S.nb,S.np,λv c j a d=>S.yes v c j a (by grind),λv c j a d=>S.no v c j a (by omega)⟩
theorem zc4:P0.underlying hV=some .bool:=by kernel_rfl
theorem R0(a b:Bool):ef .neq hV (.bool a) (.bool b)=some (.bool (a != b)):=by
 show zaL hV true (.bool a) (.bool b)=_;unfold zaL zfY zce;rw[zc4];rfl
section
variable{F F':Nat->Prop}{h h':Hp}{cs:List Pc}{Q:fj}{u:U}{vv vb vs:V}{lc:Nat}{bl pl Jf:V}
theorem zb3(g:Good u){ty:Nat}(H0:ej F h (eD lc ty [.I u.func,.I u.pc,vv,vb,vs,bl,pl,Jf]::cs))(t:EZ F h u vv vb vs)
  (H:∀F' h' b' p' xs ys,Sn F h F' h'->ej F' h' (eD lc ty [.I u.func,.I u.pc,vv,vb,vs,b',p',Jf]::cs)->hD eZ F' h' xs b'->hD eZ F' h' ys p'->Std u u.blocks.length 0 xs ys->Q (.bool true) h') :
  cP CS uq [.ptr lc 0] h Q:=by
 refine Kg ?_;have nv:=g.nv;have nb:=g.nb;have aJ:=(H0.ok 0 _ rfl).2.1;refine ec (eC _ _) (ec (by rfl) (ec (by rfl) (ec (H0.ld 0 rfl rfl) (ec t.v.len ?_))));rw[pG rfl (by decide) (by omega),gI];obtain⟨H1,s1⟩:=H0.make (E:=eZ) u.ee.length rfl rfl;have n1:(h.new (.cells fN 1 true false (List.replicate u.ee.length (V.I 0)))).next=h.next+1:=rfl;have g1:(h.new (.cells fN 1 true false (List.replicate u.ee.length (V.I 0)))).get h.next=_:=fh _ _;show oP (fR (.ptr lc 0)) _;generalize aK:h.new (.cells fN 1 true false (List.replicate u.ee.length (V.I 0)))=a at*;refine ec (eC _ _) (ec (by rfl) (ec (by rfl) (ec (H1.ld 1 rfl rfl) (ec (t.since s1).v.len ?_))));rw[pG rfl (by decide) (by omega),gI];obtain⟨H2,s2⟩:=H1.make (E:=eZ) u.ee.length rfl rfl;have g2:(a.new (.cells fN 1 true false (List.replicate u.ee.length (V.I 0)))).get a.next=_:=fh _ _;have aL:=(fi (.cells fN 1 true false (List.replicate u.ee.length (V.I 0))) (by omega)).trans g1;show oP (fR (.ptr lc 0)) _;generalize aM:a.new (.cells fN 1 true false (List.replicate u.ee.length (V.I 0)))=h2 at*;refine ec (eC _ _) (ec (by rfl) ⟨by simp_all,H2.ld 2 rfl rfl,by simp_all,H2.ld 2 rfl rfl,?_⟩)
 let⟨h3,e3,n3,H3,s3,k3⟩:=H2.stk 2 (o:=5) (u:= .slice h.next 0 u.ee.length) rfl (by simp) rfl
 rw[ e3];refine⟨n3,ec (eC _ _) (ec (by rfl) ⟨by grind[O.jS],?_⟩)⟩
 let⟨h4,e4,n4,H4,s4⟩:=H3.st 2 (o:=6) (u:= .slice a.next 0 u.ee.length) rfl (by simp) rfl
 rw[ e4];refine⟨n4,?_⟩;have aN:=((s1.trans s2).trans s3).trans s4;generalize V.slice a.next 0 u.ee.length=vp at*;generalize V.slice h.next 0 u.ee.length=vq at*;have lq:=H4.len 1 rfl;rw[wBM]at lq;refine ec (eC _ _) (ec (by rfl) (ec (H4.ld 2 rfl rfl) (ec lq ?_)))
 refine FJ (λk z I J h'=>∃i xs,z = .ptr lc 0/\I = .I u.ee.length/\J = .I (i:Nat)/\i+k=u.ee.length/\xs.length=u.ee.length/\(∀j,j<i->xs[j]? =some (-1))/\Sn F h F h'/\
  ej F h' (ft eZ fN (List.replicate u.ee.length (0:Int)) vp::ft eZ fN xs vq::eD lc ty [.I u.func,.I u.pc,vv,vb,vs,vq,vp,Jf]::cs)) ?_ (k:=u.ee.length)
  (by grind)
 rintro k z I J h5 ⟨i,xs,rfl,rfl,rfl,hk,ae,hm,s5,H5⟩;unfold qq;by_cases hi:i<u.ee.length
 ·refine gy ?_;obtain⟨l6,o6,h6,e6,e7,n6,K,A⟩:=H5.M7 1 rfl (k:=i) (by omega) rfl rfl rfl;refine ec (eC _ _) (ec (by rfl) (ec (H5.ld 2 rfl rfl) (ec e6 ?_)));rw[e7,eh];refine fG ⟨k-1,by omega,i+1,xs.set i (-1),rfl,rfl,rfl,by omega,by simp_all,λj hj=>?_,s5.trans A,K⟩
  grind
 refine iA ?_;refine ec (eC _ _) (ec (by rfl) (ec (by rfl) (ec (H5.ld 2 rfl rfl) (ec (t.since s5).b.len ?_))));have S0:Std u 0 0 xs (List.replicate u.ee.length (0:Int)):=⟨ae,by simp,by omega,λv c j a _=>hm v (by have:=g.uP _ _ _ a;omega)⟩
 refine FU (λk z x4 d f m h'=>∃b xs ys,z = .ptr lc 0/\x4 = .I ((pre u b).length:Nat)/\d=vb/\f = .I u.blocks.length/\m = .I (b:Nat)/\b+k=u.blocks.length/\Std u b 0 xs ys/\Sn F h F h'/\
  ej F h' (ft eZ fN ys vp::ft eZ fN xs vq::eD lc ty [.I u.func,.I u.pc,vv,vb,vs,vq,vp,Jf]::cs)) ?_ (k:=u.blocks.length)
  ⟨0,xs,_,rfl,rfl,rfl,rfl,rfl,by omega,S0,s5,H5⟩
 rintro k1 z x4 d f m h6 ⟨b,ag,ah,rfl,rfl,ai,rfl,rfl,aO,S1,A,K⟩;subst d;unfold qd;by_cases hb:b<u.blocks.length;rotate_left
 ·refine iA ?_;obtain rfl:b=u.blocks.length:=by omega
  refine ec (eC _ _) (ec (by rfl) (ec (by rfl) (ec (K.ld 2 rfl rfl) (ec (t.since A).v.len (fM ?_)))));rw[T3 g,Ov rfl]
  let⟨L,M,r7⟩:=K.hY 0 rfl
  simp[ DR]at L
  let⟨p,q,r8⟩:=L.hY 1 rfl
  exact H _ _ _ _ _ _ ((A.trans M).trans q) p.tail.tail r8 (r7.since q) S1
 refine gy ?_;obtain⟨B,C⟩:∃B,u.blocks[b]? =some B:=by simp_all
 let⟨l7,o7,bv,bn,bp,_,i1,i2,N,iN,ip,_⟩:=(t.since A).B8 C
 refine ec i1 (ec i2 ?_);refine jX K rfl rfl (by simp only[pR,fe,N.one,iN.one,ip.one];rfl) λh7 L M=>?_;have N:=N.since M;refine ec (by rfl) (ec (L.ld 0 rfl rfl) (ec N.len ?_));have aP:(pre u b).length<=u.ee.length:=by
  rw[<-T3 g];unfold pre;have:u.blocks.take b <+: u.blocks:=List.take_prefix _ _
  let⟨r,hr⟩:=this
  conv=>rhs;rw[PG,<-hr,wA2,qu]
  omega
 have aI:(pre u b).length+B.ee.length<=u.ee.length:=by
  rw[<-qu,<-QS C];rw[<-T3 g];unfold pre;have:u.blocks.take (b+1) <+: u.blocks:=List.take_prefix _ _
  let⟨r,hr⟩:=this
  conv=>rhs;rw[PG,<-hr,wA2,qu]
  omega
 refine Fl (λk z x4 x5 x7 d f m D P R h'=>∃j n xs ys,z = .ptr lc 0/\x4 = .I (((pre u b).length+j:Nat):Int)/\x5 = .I b/\x7 = .bool n/\d=vb/\f = .I u.blocks.length/\m = .I b/\
  D=bv/\P = .I B.ee.length/\R = .I j/\j+k=B.ee.length/\(n=true\/∃v w x,At u v b (j-1)/\0<j/\w=v/\u.ee[v]? =some x/\iV x.op=false)/\Std u b j xs ys/\Sn F h F h'/\
  ej F h' (ft eZ fN ys vp::ft eZ fN xs vq::eD lc ty [.I u.func,.I u.pc,vv,vb,vs,vq,vp,Jf]::cs)) ?_ (k:=B.ee.length)
  ⟨0,true,ag,ah,rfl,rfl,rfl,rfl,rfl,rfl,rfl,rfl,rfl,rfl,by omega,.inl rfl,S1,A.trans M,L.tail⟩
 rintro k2 z x4 x5 x7 d f m D P R h8 ⟨j,n,G,S,rfl,rfl,rfl,rfl,ai,rfl,rfl,aQ,rfl,rfl,aR,T,S2,q,p⟩;subst d D;unfold qm;by_cases hj:j<B.ee.length;rotate_left
 ·refine iA ?_;obtain rfl:j=B.ee.length:=by omega
  refine fG ⟨k1-1,by omega,b+1,G,S,rfl,?_,rfl,rfl,rfl,by omega,S2.next C,q,p⟩;rw[QS C,qu]
 refine gy ?_;have e:At u (B.ee[j]) b j:=⟨B,C,hZ hj⟩
 have U:=g.uP _ _ _ e;obtain⟨x,W⟩:∃x,u.ee[B.ee[j]]? =some x:=by simp_all
 have aj:hD eN F h8 B.ee bv:=by
  let⟨l7,o7,bv',bn',bp',_,aS,aT,iv',_⟩:=(t.since q).B8 C
  exact ((by omega)|> λ_=>(by
   have hk:=λl hl=>(q.fy l hl).trans ((A.trans M).fy l hl).symm;exact N.fy hk))
 let⟨l9,o9,_,j1,j2⟩:=aj.nat (hZ hj) .i64
 refine ec j1 (ec j2 (ec (eC _ _) (ec (by rfl) (ec (by rfl) (ec (p.ld 2 rfl rfl) (ec (t.since q).v.len ?_))))));refine BI ?_;rw[Ov U];refine ec rfl ?_;have ak:=S2.no _ _ _ e (by omega)
 let⟨hvl2,hno2⟩:=ke.1 ak
 let⟨lb,ob,ub,b1,b2,b3⟩:=p.Yt 1 rfl hvl2 .i64 rfl
 obtain rfl:ub = .I (-1):=by
  have:[ub]=[V.I G[B.ee[j]]]:=b3
  simp_all
 have eA:mi (.bool (!true)) (oB (some (V.ptr lc 0)) λal=>oB (fR al) λam=>oB (fJ 5 am) λan=>oB (ez an h8) λao=>oB (some (V.I (B.ee[j]:Nat))) λaq=>oB (gM 1 ao aq) λar=>oB (ez ar h8) λau=>ef .geq 3 au (V.I 0))=some (.bool false):=by
  have l5:ez (.ptr lc (0+5)) h8=some vq:=p.ld 2 rfl rfl;simp only[Bool.not_true,qK,eQ,eC,fo,l5,b1,b2,jK];rfl
 refine ec eA (fX (fH (by simp) ?_))
 let⟨lv,ov,wv,_,c1,_,_,cv⟩:=(t.since q).val W
 refine ec (eC _ _) (ec (by rfl) (ec (by rfl) (ec (p.ld 2 rfl rfl) (ec c1 (ec (by rfl) (ec cv.op ?_))))));refine ec (by rfl) ?_;have eH:mi (.bool ((x.op:Int) == 21)) (oB (some (V.I x.op)) λaw=>ef .eql 3 aw (V.I 1))=some (.bool (iV x.op)):=by
  simp[eQ,gS,jj];unfold iV;rw[show((x.op:Int) == 21)=(x.op == 21) from ieq _ 21,show((x.op:Int) == 1)=(x.op == 1) from ieq _ 1,Bool.or_comm]
 refine ec eH ?_;have aU:iV x.op=true->n=true:=by
  intro s;rcases T with a|⟨v,w,y,a,h2,rfl,h3,h4⟩
  ·exact a
  ·exfalso;have h5:=g.za8 (B.ee[j]) w b (j-1) x y (by grind) a W h3 s
   simp_all
 have ax:iM (.bool (iV x.op)) (oB (some (V.bool n)) λX=>wI .not X)=some (.bool false):=by
  cases s:iV x.op with
  |false=>rfl
  |true=>simp_all
 refine ec ax ?_;have aV:iV x.op=true->((x.op:Int) == 1)=((b:Int) == 0):=by
  intro s;unfold iV at s;simp[JD,Ey]at s;rw[show((x.op:Int) == 1)=(x.op == 1) from ieq _ 1,show((b:Int) == 0)=(b == 0) from ieq _ 0];rcases s with a|a
  ·rw[g.par _ _ _ _ e W a,a];rfl
  ·have:=(g.XS _ _ _ _ _ e W a C).1
   simp_all
 have eM:mi (.bool false) (oB (some (V.I x.op)) λY=>oB (ef .eql 3 Y (V.I 1)) λZ=>oB (some (V.I b)) λaa=>oB (ef .eql 3 aa (V.I 0)) λab=>oB (ef .neq 4 Z ab) λac=>oB (some ac) λad=>iM ad (some (V.bool (iV x.op))))=some (.bool false):=by
  simp[qK,eQ,gS,R0,iT]
  cases s:iV x.op with
  |false=>simp
  |true=>simp_all
 refine ec eM (fX (fH (by simp) ?_));obtain⟨aW,aX,aY,ay,az,aA,aB,aC⟩:=p.M7 1 rfl hvl2 rfl rfl rfl;refine ec (eC _ _) (ec (by rfl) (ec (p.ld 2 rfl rfl) (ec (eC _ _) (ec (by rfl) (ec (p.ld 2 rfl rfl) (ec ay ?_))))));rw[az,eh];obtain⟨aZ,a0,a1,aD,aE,aF,aG,aH⟩:=aB.M7 0 rfl (by rw[S2.np];exact U) rfl rfl rfl;refine⟨aA,ec aD ?_⟩;rw[aE,eh];refine⟨aF,fG (fG ?_)⟩;refine⟨k2-1,by omega,j+1,iV x.op,G.set (B.ee[j]) (b:Int),S.set (B.ee[j]) (j:Int),rfl,?_,rfl,rfl,rfl,rfl,rfl,rfl,rfl,rfl,by omega,?_,S2.step g e,(q.trans aC).trans aH,aG⟩
 ·rfl
 ·cases s:iV x.op with
  |true=>simp_all
  |false=>exact .inr ⟨_,_,x,e,by omega,rfl,W,s⟩
def Mt{α:Type}(E:tq α)(W3 ty:Nat)(PE:List (List α))(v:V)(ds:List V):Pc where
 pS:=λl=>Loc v l\/∃d∈ds,Loc d l
 ok F h:=∃t,v = .slice t 0 PE.length/\t<h.next/\¬F t/\h.get t=some (.cells W3 1 true false ds)/\ds.length=PE.length/\(∀(i:Nat) x d,PE[i]? =some x->ds[i]? =some d->pP E ty F h x d)/\(∀d∈ds,¬Loc d t)/\
  ∀(i j:Nat) d e,i≠j->ds[i]? =some d->ds[j]? =some e->∀l,Loc d l->¬Loc e l
 FK:=λ⟨t,b,c,m,n,f,a,g,k⟩ l hl=>by
  rcases hl with hl|⟨d,hd,hl⟩
  ·simp_all
  ·let⟨i,hi⟩:=mz.1 hd
   have r:=(ke.1 hi).1;exact((a i _ d (hZ (by omega)) hi).TZ hl).2
 fy:=λ{F h h'} ⟨t,b,c,m,n,f,a,g,k⟩ o hl q=>by
  refine⟨t,b,NY c q,m,by simp_all,f,λi x d p hd=>?_,g,k⟩;exact(a i x d p hd).fy o (by grind) q
 mono:=λ{F F' h} ⟨t,b,c,m,n,f,a,g,k⟩ o hl=>by
  refine⟨t,b,c,by simp_all,n,f,λi x d p hd=>?_,g,k⟩;exact(a i x d p hd).mono o (by grind)
theorem Wz{α:Type}{E:tq α}{F:Nat->Prop}{h:Hp}:∀{PE:List (List α)}{ds:List V},ds.length=PE.length->(∀(i:Nat) x d,PE[i]? =some x->ds[i]? =some d->hD E F h x d)->rL (eL E) F h ds PE
 |[],_,_,_=>trivial
 |x::PE,[],h,_=>by simp_all
 |x::PE,d::ds,hl,H=>⟨[d],ds,rfl,⟨d,rfl,H 0 x d rfl rfl⟩,Wz (by simp_all) λi x d a hd=>H (i+1) x d (by simp_all) (by simp_all)⟩
variable{α:Type}{E:tq α}{W3 ty:Nat}{PE:List (List α)}{v:V}{ds:List V}
theorem ej.zev(H:ej F h cs)(n:Nat):ej F (h.new (.cells W3 1 true false (List.replicate n V.ed))) (Mt E W3 ty (List.replicate n []) (.slice h.next 0 n) (List.replicate n V.ed)::cs)/\Sn F h F (h.new (.cells W3 1 true false (List.replicate n V.ed))):=by
 have a:∀{i:Nat} {d:V},(List.replicate n V.ed)[i]? =some d->d = .ed:=by grind
 refine H.new _ ⟨h.next,by simp,TU _,H.fresh,fh _ _,by simp,λi x d b hd=>?_,λd hd=>?_,λi j d e _ hd _ l hl=>?_⟩ λl hl=>?_
 ·obtain rfl:=a hd;obtain rfl:x=[]:=by grind
  exact .nil
 ·simp_all
 ·obtain rfl:=a hd;exact hl.elim
 ·rcases hl with hl|⟨d,hd,hl⟩
  ·exact hl.symm
  simp_all
theorem ej.zek(H:ej F h cs)(i:Nat)(hi:cs[i]? =some (Mt E W3 ty PE v ds)):fE v=some (.I PE.length):=by
 obtain⟨t,rfl,_⟩:=H.ok i _ hi;rfl
theorem ej.zd5(H:ej F h cs)(i:Nat)(hi:cs[i]? =some (Mt E W3 ty PE v ds)){b:Nat}(W:b<PE.length){iU MB:Nat}{y:α}{w:List V}{ro:Bool}(L:E.rel F h y w)(hz:0<E.sz)(N:iU<=1000)(hlen:PE[b].length<1000000) :
  ∃l d n A B,ds[b]? =some d/\l<h.next/\gM 1 v (.I b)=some (.ptr l (b*1))/\ez (.ptr l (b*1)) h=some d/\fg ty E.sz iU d (.slice h.next 0 1) (h.new (.cells MB E.sz true ro w))=some (.val n A)/\h.next+1<=A.next/\
   gj 1 (.ptr l (b*1)) n A=some (.val .undef B)/\A.next<=B.next/\ej F B (cs.set i (Mt E W3 ty (PE.set b (PE[b]++[y])) v (ds.set b n)))/\Sn F h F B:=by
 obtain⟨t,rfl,A,B,h4,h5,O,P,M⟩:=H.ok i _ hi;obtain⟨d,hd⟩:∃d,ds[b]? =some d:=by simp_all
 have Q:=O b _ d (hZ W) hd;have C:=mz.2 ⟨b,hd⟩;have R:pP E ty F (h.new (.cells MB E.sz true ro w)) PE[b] d:=Q.fy (λl hl=>fi _ (H.fl l hl)) (λl hl=>fi _ (Q.TZ hl).2.1) (K5 _);have hx:mV (h.new (.cells MB E.sz true ro w)) E.sz (.slice h.next 0 1)=some (1,w):=rP (by rw[E.len L];simp);have aa:(PE[b].length+1)*iU<=1000000*1000:=Nat.mul_le_mul (by omega) N
 let⟨n,c,e1,X,J,l1⟩:=R.append (iU:=iU) (ys:=[y]) hx ⟨w,[],by simp,E.fy (λl hl=>fi _ (H.fl l hl)) L,trivial⟩ (by rw[E.len L];simp) (E.one L) (by simp) hz (λl hl=>wBj (H.fl l hl)) (by simp;omega) (by simp;omega)
 have n1:(h.new (.cells MB E.sz true ro w)).next=h.next+1:=rfl;have D:∀l,Loc n l->Loc d l\/h.next<=l:=by grind
 have p:t<c.next:=by have:=J.next;omega
 have gt:c.get t=some (.cells W3 1 true false ds):=by rw[J.fy t (by omega) (P d C),fi _ A];exact h4
 have K:=PY (o:=b*1) gt (by omega) X.one;rw[Nat.mul_one]at K;have T:¬Loc n t:=by grind
 have cg:uE (Mt E W3 ty PE (.slice t 0 PE.length) ds).pS h (c.put t (.cells W3 1 true false (ds.set b n))):=by
  refine(((uE.new h _).zhP λ_ _ h=>h).trans' (by omega) λl _ hl=> .inr ⟨d,C,hl⟩).trans' (uE.put (S:=λl=>l=t) _ rfl p) λl _ e=> .inl e.symm
 have g:∀{j:Nat} {e:V},(ds.set b n)[j]? =some e->(j=b/\e=n)\/(j≠b/\ds[j]? =some e):=by grind
 have q:∀{j:Nat} {e:V},ds[j]? =some e->∀l,Loc e l->l<h.next:=λ{j e} a l hl=>by
  have ab:=(ke.1 a).1;exact((O j _ e (hZ (by omega)) a).TZ hl).2.1
 refine⟨t,d,n,c,c.put t (.cells W3 1 true false (ds.set b n)),hd,A,?_,?_,e1,J.next,by simp_all,jJ _,H.z8 hi cg ?_ ?_⟩
 ·simp_all[wz,Jn]
 ·rw[Nat.mul_one];grind[lK]
 ·refine ⟨t,by simp,p,B,iB _ p,by simp[h5],λj x e r a=>?_,λe a=>?_,λj k e f Y a Z l hl s=>?_⟩
  ·rcases g a with⟨rfl,rfl⟩|⟨m,a⟩
   ·rw[Tt W]at r;obtain rfl:=Option.some.inj r;exact X.fy (by grind[lE]) (by grind[lE]) (jJ _)
   ·rw[VL λe=>m e.symm]at r;have U:=mz.2 ⟨j,a⟩;refine(O j x e r a).fy (λl hl=>?_) (λl hl=>?_) (by have:=J.next;show h.next<=c.next;omega)
    ·rw[lE _ p λe=>B (e▸hl),J.fy l (wBj (H.fl l hl)) λG=>(Q.TZ G).2.2 hl,fi _ (H.fl l hl)]
    ·have NP:=q a l hl;rw[lE _ p λe'=>P e U (e'▸hl),J.fy l (by omega) λG=>M j b e d m a hd l hl G,fi _ NP]
  ·let⟨j,m⟩:=mz.1 a
   rcases g m with⟨_,rfl⟩|⟨_,m⟩
   ·exact T
   ·exact P e (mz.2 ⟨j,m⟩)
  ·rcases g a with⟨e1,e2⟩|⟨m,I⟩
   ·rcases g Z with⟨K,_⟩|⟨hk,u⟩
    ·exact Y (e1.trans K.symm)
    ·subst e1 e2;rcases D l hl with z|z
     ·exact M k j f d hk u hd l s z
     ·have:=q u l s;omega
   ·rcases g Z with⟨K,e4⟩|⟨hk,u⟩
    ·subst K e4;rcases D l s with z|z
     ·exact M j k e d m I hd l hl z
     ·have:=q I l hl;omega
    ·exact M j k e f Y I u l hl s
 ·intro l hl;rcases hl with hl|⟨e,a,hl⟩
  ·exact .inl (.inl hl)
  ·let ⟨j,m⟩:=mz.1 a
   rcases g m with⟨_,rfl⟩|⟨_,m⟩
   ·rcases D l hl with z|z
    ·exact .inl (.inr ⟨d,C,z⟩)
    ·exact .inr z
   ·exact .inl (.inr ⟨e,mz.2 ⟨j,m⟩,hl⟩)
theorem ej.zdt(H:ej F h cs)(i:Nat)(hi:cs[i]? =some (Mt E W3 ty PE v ds)):∃F',ej F' h (cs.set i emp)/\Sn F h F' h/\hD (eL E) F' h PE v:=by
 have a:=H.ok i _ hi
 let⟨b,c⟩:=H.zeg (p:=emp) (F':=λl=>F l\/(Mt E W3 ty PE v ds).pS l) hi (uE.refl _ _) (by simp_all) (by grind) trivial λ_ h=>h.elim
 refine⟨_,b,c,?_⟩;obtain⟨t,rfl,m,n,e,f,g,o,q⟩:=a;refine .inr ⟨t,0,W3,true,false,ds,rfl,.inr (.inl rfl),e,.inr rfl,PM _,?_⟩;rw[wBT];exact Wz f λj x d k hd=>(g j x d k hd).slR (by simp_all) λl hl=> .inr (.inr ⟨d,mz.2 ⟨j,hd⟩,hl⟩)
def kH(u:U)(i j b:Nat):List Nat:=nT (u.blocks.take i) 0 b++(match u.blocks[i]? with
 |some B=>((B.next.take j).filter (·= b)).map λ_=>i
 |none=>[])
theorem Uc(u:U)(b:Nat):kH u 0 0 b=[]:=by
 grind[kH,nT]
theorem Tl{u:U}{i j t:Nat}(a:u.blocks[i]? =some B)(c:B.next[j]? =some t):kH u i (j+1) b=if b=t then kH u i j b++[i] else kH u i j b:=by
 unfold kH;rw[a];obtain⟨d,rfl⟩:=ke.1 c;simp only[Ho d,List.filter_append]
 grind
theorem Tg{u:U}{i:Nat}(a:u.blocks[i]? =some B):kH u (i+1) 0 b=kH u i B.next.length b:=by
 unfold kH;obtain⟨hi,rfl⟩:=ke.1 a;rw[ Ho hi,Bj];have hl:(u.blocks.take i).length=i:=by rw[TV];omega
 simp[ Jn]
 grind[nT]
theorem sI(u:U)(b:Nat):kH u u.blocks.length 0 b=Un.ahead u b:=by
 simp_all[kH,Un.ahead]
theorem sM{u:U}(g:Good u){i j b:Nat}(hi:i<=u.blocks.length)(f:j<=2):(kH u i j b).length<=2*i+2:=by
 have c:∀i,i<=u.blocks.length->(nT (u.blocks.take i) 0 b).length<=2*i:=by
  intro i
  induction i with
  |zero=>grind[nT]
  | succ i d=>
    intro hi;have a:i<u.blocks.length:=by omega
    rw[Ho a,Bj];have:=d (by omega);have e:u.blocks[i]? =some u.blocks[i]:=by simp_all
    have k:(u.blocks[i]).next.length<=2:=by
      rcases g.fin i _ e with⟨_,h⟩|⟨_,h,_⟩|⟨_,h,_⟩
      ·omega
      ·omega
      ·simp_all
    grind[nT]
 grind[kH,qu]
theorem US(g:Good u)(P:ej F h cs)(s:EZ F h u vv vb vs)(H:∀F' h' v,Sn F h F' h'->ej F' h' cs->hD (eL eN) F' h' ((List.range u.blocks.length).map (Un.ahead u)) v->Q v h') :
  cP CS Cu [.agg (uC u vv vb vs)] h Q:=by
 refine UY ?_;have nb:=g.nb;refine oC P s.one λf G s1=>?_;refine ec (by rfl) (ec (G.ld 0 rfl rfl) (ec (s.since s1).b.len ?_));rw[pG rfl (by decide) (by omega),fK];obtain⟨w,I⟩:=G.zev u.blocks.length;have x:List.replicate u.blocks.length ([]:List Nat)=(List.range u.blocks.length).map (kH u 0 0):=by
  refine List.ext_getElem (by simp) λi f R=>?_;simp[Uc]
 rw[x]at w;refine ec (by rfl) (ec (w.ld 1 rfl rfl) (ec (s.since (s1.trans I)).b.len ?_))
 refine Ql (λk m gL jd ug h'=>∃i ds,m = .slice f.next 0 u.blocks.length/\gL=vb/\jd = .I u.blocks.length/\ug = .I (i:Nat)/\i+k=u.blocks.length/\Sn F h F h'/\
  ej F h' (Mt eN lF fN ((List.range u.blocks.length).map (kH u i 0)) (.slice f.next 0 u.blocks.length) ds::cs)) ?_ (k:=u.blocks.length)
  ⟨0,_,rfl,rfl,rfl,rfl,by omega,s1.trans I,(w.forget (i:=1) rfl)|> λH=>by
    exact ⟨H.fl,λi c hc=>by
      cases i with
      |zero=>exact H.ok 0 c hc
      |succ i=>exact H.ok (i+2) c hc,λi j c d hc hd hn=>by
      cases i with
      | zero=>
        cases j with
        |zero=>omega
        |succ j=>exact H.Hj 0 (j+2) c d hc hd (by omega)
      | succ i=>
        cases j with
        |zero=>exact H.Hj (i+2) 0 c d hc hd (by omega)
        |succ j=>exact H.Hj (i+2) (j+2) c d hc hd (by omega)⟩⟩
 rintro k m gL jd ug S ⟨i,ds,rfl,y,rfl,rfl,hk,z,J⟩;subst gL;unfold BH;by_cases hi:i<u.blocks.length;rotate_left
 ·refine iA ?_;obtain rfl:i=u.blocks.length:=by omega
  let⟨T,t,s4,K⟩:=J.zdt 0 rfl
  have e:(List.range u.blocks.length).map (kH u u.blocks.length 0)=(List.range u.blocks.length).map (Un.ahead u):=by
   refine(by grind[wBZ,sI])
  rw[e]at K;exact H T S _ (z.trans s4) t.tail K
 refine gy ?_;obtain⟨B,A⟩:∃B,u.blocks[i]? =some B:=by simp_all
 let⟨l7,o7,bv,bn,bp,_,U,V,iv,n,ip,_⟩:=(s.since z).B8 A
 have W:B.next.length<=2:=by
  rcases g.fin i _ A with⟨_,h⟩|⟨_,h,_⟩|⟨_,h,_⟩
  ·omega
  ·omega
  ·simp_all
 refine ec U (ec V ?_);refine jX J rfl rfl (by simp only[pR,fe,iv.one,n.one,ip.one];rfl) λX t s4=>?_;have n:=n.since s4;refine ec (by rfl) (ec (t.ld 0 rfl rfl) (ec n.len ?_))
 refine Qw (λk m x4 gL jd ug a o p h'=>∃j ds,m = .slice f.next 0 u.blocks.length/\x4 = .I i/\gL=vb/\jd = .I u.blocks.length/\ug = .I i/\a=bn/\o = .I B.next.length/\p = .I (j:Nat)/\
  j+k=B.next.length/\Sn F X F h'/\ej F h' (Mt eN lF fN ((List.range u.blocks.length).map (kH u i j)) (.slice f.next 0 u.blocks.length) ds::cs)) ?_ (k:=B.next.length)
  ⟨0,ds,rfl,rfl,rfl,rfl,rfl,rfl,rfl,rfl,by omega,Sn.refl _ _,t.tail⟩
 rintro Y m x4 gL jd ug a o p L ⟨j,q,rfl,rfl,y,rfl,rfl,Z,rfl,rfl,aa,C,M⟩;subst gL a;unfold BQ;by_cases hj:j<B.next.length;rotate_left
 ·refine iA ?_;obtain rfl:j=B.next.length:=by omega
  refine fG ⟨k-1,by omega,i+1,q,rfl,rfl,rfl,rfl,by omega,(z.trans s4).trans C,?_⟩;have e:(List.range u.blocks.length).map (kH u (i+1) 0)=(List.range u.blocks.length).map (kH u i B.next.length):=by grind[wBZ,Tg]
  grind
 refine gy ?_
 let⟨l8,o8,_,j1,j2⟩:=(n.since C).nat (hZ hj) .i64
 have D:B.next[j]<u.blocks.length:=g.nx i _ (by grind[next,AL]);have N:=M.zek 0 rfl;rw[RC,List.length_range]at N;refine ec j1 (ec j2 (ec N ?_));refine BI (fX (fO (by simp_all) ?_));have r:B.next[j]<((List.range u.blocks.length).map (kH u i j)).length:=by simpa using D
 obtain ⟨l,d,O,h6,h7,hd,hl,e1,e2,e3,e4,e5,e6,H7,s7⟩:=M.zd5 0 rfl r (iU:=8) rfl (by decide) (by decide) (by
  grind[sM])
 refine ec e1 (ec e2 ?_);rw[F0,fK];have E:fg 3 1 8 d (.slice L.next 0 1) (L.new (.cells 3 1 true false (oY [i])))=some (.val O h6):=e3;rw[E,eh];refine ec e1 ?_;rw[e5,eh];refine O0 ?_;unfold zD;refine fG ⟨Y-1,by omega,j+1,q.set (B.next[j]) O,rfl,rfl,rfl,rfl,rfl,rfl,rfl,rfl,by omega,C.trans s7,?_⟩;have e:((List.range u.blocks.length).map (kH u i j)).set (B.next[j]) (((List.range u.blocks.length).map (kH u i j))[B.next[j]]'r++[i])=(List.range u.blocks.length).map (kH u i (j+1)):=by
  refine List.ext_getElem (by simp) λb f R=>?_;rw[List.getElem_set];simp[List.getElem_map,List.getElem_range];rw[Tl A (hZ hj)];by_cases eb:B.next[j]=b
  ·simp_all
  ·grind
 simp_all
