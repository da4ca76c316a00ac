/- Parts. -/
import Derived.Test.YtbdcpiokodljaaaGreatDoorM24
import Derived.KernelRfl
set_option maxHeartbeats 4000000
namespace Go.Proofs.YtbdcpiokodljaaaGreatDoor.Hx
open Un Dm
def pre(u:U)(b:Nat):List Nat:=(u.blocks.take b).flatMap (·.ef)
theorem GN{u:U}{b:Nat}{B:Bk}(a:u.blocks[b]? =some B):pre u (b+1)=pre u b++B.ef:=by
 unfold pre;obtain⟨c,rfl⟩:=kj.1 a
 grind[OX]
theorem KC{u:U}{b v:Nat}:v∈pre u b↔∃c k,At u v c k/\c<b:=by
 unfold pre At;simp only[Yk];constructor
 ·grind[nT]
 ·rintro⟨c,k,⟨B,a,d⟩,e⟩;refine⟨B,nT.2 ⟨c,?_⟩,by grind⟩
  simp_all
theorem JI{u:U}(g:Good u){b:Nat}{B:Bk}(a:u.blocks[b]? =some B):B.ef.Nodup:=by
 rw[List.nodup_iff_pairwise_ne,wA9];intro i j hi c d e;have f:At u (B.ef[i]) b i:=⟨B,a,hO hi⟩
 have h:At u (B.ef[i]) b j:=⟨B,a,by rw[e];exact hO c⟩
 have:=(g.KZ _ _ _ _ _ f h).2;omega
theorem Is{u:U}(g:Good u):∀b,(pre u b).Nodup
 |0=>by simp[pre]
 | b + 1=>by
   by_cases hb:b<u.blocks.length
   ·have a:=hO hb
    rw[GN a,wBu];refine⟨Is g b,JI g a,λv d w f e=>?_⟩;subst e
    let⟨c,k,h,i⟩:=KC.1 d
    let⟨j,hj⟩:=nT.1 f
    have:=(g.KZ _ _ _ _ _ h ⟨_,a,hj⟩).1;omega
   ·have:pre u (b+1)=pre u b:=by
      unfold pre;rw[wA1 (by omega),wA1 (by omega)]
    rw[this];exact Is g b
theorem MT{u:U}(g:Good u):(pre u u.blocks.length).length=u.ef.length:=by
 refine Nat.le_antisymm (jA _ _ (Is g _) λv hv=>?_) ?_
 ·let⟨c,k,a,_⟩:=KC.1 hv
  exact g.jW _ _ _ a
 ·have a:(List.range u.ef.length).length=u.ef.length:=UB;rw[<-a];refine sub_le _ _ wBZ λv hv=>?_;rw[Ve]at hv
  let⟨b,k,d⟩:=g.FU v hv trivial
  refine KC.2 ⟨b,k,d,?_⟩
  let⟨B,e,_⟩:=d
  grind
structure Std (u:U) (b k:Nat) (bl pl:List Int):Prop where
 nb:bl.length=u.ef.length
 np:pl.length=u.ef.length
 yes:∀v c j,At u v c j->(c<b\/(c=b/\j<k))->bl[v]? =some (c:Int)/\pl[v]? =some (j:Int)
 no:∀v c j,At u v c j->¬(c<b\/(c=b/\j<k))->bl[v]? =some (-1)
theorem Std.step{u:U}{b k:Nat}{bl pl:List Int}(g:Good u)(S:Std u b k bl pl){v:Nat}(hv:At u v b k):Std u b (k+1) (bl.set v (b:Int)) (pl.set v (k:Int)):=by
 have d:=g.jW _ _ _ hv;refine⟨by simp[S.nb],by simp[S.np],λw c j a hc=>?_,λw c j a hc=>?_⟩
 ·by_cases e:w=v
  ·subst e;obtain⟨rfl,rfl⟩:=g.KZ _ _ _ _ _ a hv;rw[Qd (by rw[S.nb];exact d),Qd (by rw[S.np];exact d)]
   simp_all
  ·rw [K6 (by omega),K6 (by omega)];refine S.yes w c j a ?_;rcases hc with h|⟨rfl,h⟩
   ·omega
   ·refine .inr ⟨rfl,?_⟩;rcases Ud j k with f|f
    ·exact f
    ·exfalso;obtain rfl:j=k:=by omega
     let⟨B,i,l⟩:=a
     let⟨B',m,n⟩:=hv
     simp_all
 ·have e:w≠v:=λe=>by
   subst e;obtain⟨rfl,rfl⟩:=g.KZ _ _ _ _ _ a hv;omega
  rw[K6 (by omega)];exact S.no w c j a (by omega)
theorem Std.next{u:U}{b:Nat}{bl pl:List Int}{B:Bk}(g:u.blocks[b]? =some B)(S:Std u b B.ef.length bl pl):Std u (b+1) 0 bl pl:=by
 have f:∀v c j,At u v c j->((c<b\/(c=b/\j<B.ef.length))↔(c<b+1\/(c=b+1/\j<0))):=by
  intro v c j hv;constructor
  ·omega
  ·intro h;by_cases e:c=b
   ·subst e
    let⟨B',a,d⟩:=hv
    grind
   ·omega
 exact⟨S.nb,S.np,λv c j a d=>S.yes v c j a (by grind),λv c j a d=>S.no v c j a (by omega)⟩
theorem zau:P0.underlying kr=some .bool:=by kernel_rfl
theorem XS(a b:Bool):en .neq kr (.bool a) (.bool b)=some (.bool (a != b)):=by
 show XU kr true (.bool a) (.bool b)=_;unfold XU zdG Z1;rw[zau];rfl
section
variable{F F':Nat->Prop}{h h':Hp}{cs:List Pc}{Q:fo}{u:U}{vv vb vs:V}{lc:Nat}{bl pl GJ:V}
theorem zax(g:Good u){ty:Nat}(H0:ej F h (ey lc ty [.I u.func,.I u.pc,vv,vb,vs,bl,pl,GJ]::cs))(s:zQ F h u vv vb vs)
  (H:∀F' h' b' p' xs ys,Sn F h F' h'->ej F' h' (ey lc ty [.I u.func,.I u.pc,vv,vb,vs,b',p',GJ]::cs)->ie eZ F' h' xs b'->ie eZ F' h' ys p'->Std u u.blocks.length 0 xs ys->Q (.bool true) h') :
  cP CS pC [.ptr lc 0] h Q:=by
 refine II rfl rfl ?_;unfold zW;have nv:=g.nv;have nb:=g.nb;have aJ:=(H0.ok 0 _ rfl).2.1;refine ed (fP _ _) (ed (by rfl) (ed (by rfl) (ed (H0.ld 0 rfl rfl) (ed s.v.len ?_))));rw[kW rfl (by decide) (by omega),g0];obtain⟨H1,s1⟩:=H0.make (E:=eZ) u.ef.length rfl rfl;have n1:(h.new (.cells ev 1 true false (List.replicate u.ef.length (V.I 0)))).next=h.next+1:=rfl;have g1:(h.new (.cells ev 1 true false (List.replicate u.ef.length (V.I 0)))).get h.next=_:=fh _ _;show oP (hZ (.ptr lc 0)) _;generalize aK:h.new (.cells ev 1 true false (List.replicate u.ef.length (V.I 0)))=a at*;refine ed (fP _ _) (ed (by rfl) (ed (by rfl) (ed (H1.ld 1 rfl rfl) (ed (s.since s1).v.len ?_))));rw[kW rfl (by decide) (by omega),g0];obtain⟨H2,s2⟩:=H1.make (E:=eZ) u.ef.length rfl rfl;have g2:(a.new (.cells ev 1 true false (List.replicate u.ef.length (V.I 0)))).get a.next=_:=fh _ _;have aL:=(fj (.cells ev 1 true false (List.replicate u.ef.length (V.I 0))) (by omega)).trans g1;show oP (hZ (.ptr lc 0)) _;generalize aM:a.new (.cells ev 1 true false (List.replicate u.ef.length (V.I 0)))=h2 at*;refine ed (fP _ _) (ed (by rfl) ⟨by simp_all,H2.ld 2 rfl rfl,by simp_all,H2.ld 2 rfl rfl,?_⟩)
 let⟨h3,e3,n3,H3,s3,k3⟩:=H2.stk 2 (o:=5) (u:= .slice h.next 0 u.ef.length) rfl (by simp) rfl
 rw[ e3];refine⟨n3,ed (fP _ _) (ed (by rfl) ⟨by grind[O.kX],?_⟩)⟩
 let⟨h4,e4,n4,H4,s4⟩:=H3.st 2 (o:=6) (u:= .slice a.next 0 u.ef.length) rfl (by simp) rfl
 rw[ e4];refine⟨n4,?_⟩;have aN:=((s1.trans s2).trans s3).trans s4;generalize V.slice a.next 0 u.ef.length=vp at*;generalize V.slice h.next 0 u.ef.length=vq at*;have lq:=H4.len 1 rfl;rw[Xh]at lq;refine ed (fP _ _) (ed (by rfl) (ed (H4.ld 2 rfl rfl) (ed lq ?_)))
 refine Fa (λk t G I h'=>∃i xs,t = .ptr lc 0/\G = .I u.ef.length/\I = .I (i:Nat)/\i+k=u.ef.length/\xs.length=u.ef.length/\(∀j,j<i->xs[j]? =some (-1))/\Sn F h F h'/\
  ej F h' (eJ eZ ev (List.replicate u.ef.length (0:Int)) vp::eJ eZ ev xs vq::ey lc ty [.I u.func,.I u.pc,vv,vb,vs,vq,vp,GJ]::cs)) ?_ (k:=u.ef.length)
  (by grind)
 rintro k t G I h5 ⟨i,xs,rfl,rfl,rfl,hk,ag,hm,s5,H5⟩;unfold yj;by_cases hi:i<u.ef.length
 ·refine gy ?_;obtain⟨l6,o6,h6,e6,e7,n6,J,z⟩:=H5.JZ 1 rfl (k:=i) (by omega) rfl rfl rfl;refine ed (fP _ _) (ed (by rfl) (ed (H5.ld 2 rfl rfl) (ed e6 ?_)));rw[e7,ei];refine fI ⟨k-1,by omega,i+1,xs.set i (-1),rfl,rfl,rfl,by omega,by simp_all,λj hj=>?_,s5.trans z,J⟩
  grind
 refine iI ?_;refine ed (fP _ _) (ed (by rfl) (ed (by rfl) (ed (H5.ld 2 rfl rfl) (ed (s.since s5).b.len ?_))));have S0:Std u 0 0 xs (List.replicate u.ef.length (0:Int)):=⟨ag,by simp,by omega,λv c j a _=>hm v (by have:=g.jW _ _ _ a;omega)⟩
 refine Fi (λk t K d f m h'=>∃b xs ys,t = .ptr lc 0/\K = .I ((pre u b).length:Nat)/\d=vb/\f = .I u.blocks.length/\m = .I (b:Nat)/\b+k=u.blocks.length/\Std u b 0 xs ys/\Sn F h F h'/\
  ej F h' (eJ eZ ev ys vp::eJ eZ ev xs vq::ey lc ty [.I u.func,.I u.pc,vv,vb,vs,vq,vp,GJ]::cs)) ?_ (k:=u.blocks.length)
  ⟨0,xs,_,rfl,rfl,rfl,rfl,rfl,by omega,S0,s5,H5⟩
 rintro k1 t K d f m h6 ⟨b,ah,ai,rfl,rfl,aj,rfl,rfl,aO,S1,z,J⟩;subst d;unfold ym;by_cases hb:b<u.blocks.length;rotate_left
 ·refine iI ?_;obtain rfl:b=u.blocks.length:=by omega
  refine ed (fP _ _) (ed (by rfl) (ed (by rfl) (ed (J.ld 2 rfl rfl) (ed (s.since z).v.len (ij ?_)))));rw[MT g,Ml rfl]
  let⟨L,M,r7⟩:=J.jZ 0 rfl
  simp[ mP]at L
  let⟨n,p,r8⟩:=L.jZ 1 rfl
  exact H _ _ _ _ _ _ ((z.trans M).trans p) n.tail.tail r8 (r7.since p) S1
 refine gy ?_;obtain⟨B,A⟩:∃B,u.blocks[b]? =some B:=by simp_all
 let⟨l7,o7,bv,bn,bp,_,i1,i2,N,iN,ip,_⟩:=(s.since z).nV A
 refine ed i1 (ed i2 ?_);refine gW J rfl rfl (by simp only[lB,eo,N.one,iN.one,ip.one];rfl) λh7 L M=>?_;have N:=N.since M;refine ed (by rfl) (ed (L.ld 0 rfl rfl) (ed N.len ?_));have aP:(pre u b).length<=u.ef.length:=by
  rw[<-MT g];unfold pre;have:u.blocks.take b <+: u.blocks:=List.take_prefix _ _
  let⟨r,hr⟩:=this
  conv=>rhs;rw[Lp,<-hr,List.flatMap_append,K8]
  omega
 have aI:(pre u b).length+B.ef.length<=u.ef.length:=by
  rw[<-K8,<-GN A];rw[<-MT g];unfold pre;have:u.blocks.take (b+1) <+: u.blocks:=List.take_prefix _ _
  let⟨r,hr⟩:=this
  conv=>rhs;rw[Lp,<-hr,List.flatMap_append,K8]
  omega
 refine FB (λk t K x5 x7 d f m C P R h'=>∃j fst xs ys,t = .ptr lc 0/\K = .I (((pre u b).length+j:Nat):Int)/\x5 = .I b/\x7 = .bool fst/\d=vb/\f = .I u.blocks.length/\m = .I b/\
  C=bv/\P = .I B.ef.length/\R = .I j/\j+k=B.ef.length/\(fst=true\/∃v w x,At u v b (j-1)/\0<j/\w=v/\u.ef[v]? =some x/\ir x.op=false)/\Std u b j xs ys/\Sn F h F h'/\
  ej F h' (eJ eZ ev ys vp::eJ eZ ev xs vq::ey lc ty [.I u.func,.I u.pc,vv,vb,vs,vq,vp,GJ]::cs)) ?_ (k:=B.ef.length)
  ⟨0,true,ah,ai,rfl,rfl,rfl,rfl,rfl,rfl,rfl,rfl,rfl,rfl,by omega,.inl rfl,S1,z.trans M,L.tail⟩
 rintro k2 t K x5 x7 d f m C P R h8 ⟨j,fst,D,S,rfl,rfl,rfl,rfl,aj,rfl,rfl,aQ,rfl,rfl,aR,T,S2,p,n⟩;subst d C;unfold xA;by_cases hj:j<B.ef.length;rotate_left
 ·refine iI ?_;obtain rfl:j=B.ef.length:=by omega
  refine fI ⟨k1-1,by omega,b+1,D,S,rfl,?_,rfl,rfl,rfl,by omega,S2.next A,p,n⟩;rw[GN A,K8]
 refine gy ?_;have e:At u (B.ef[j]) b j:=⟨B,A,hO hj⟩
 have U:=g.jW _ _ _ e;obtain⟨x,W⟩:∃x,u.ef[B.ef[j]]? =some x:=by simp_all
 have ak:ie eN F h8 B.ef bv:=by
  let⟨l7,o7,bv',bn',bp',_,aS,aT,iv',_⟩:=(s.since p).nV A
  exact ((by omega)|> λ_=>(by
   have hk:=λl hl=>(p.fi l hl).trans ((z.trans M).fi l hl).symm;exact N.fi hk))
 let⟨l9,o9,_,j1,j2⟩:=ak.nat (hO hj) .i64
 refine ed j1 (ed j2 (ed (fP _ _) (ed (by rfl) (ed (by rfl) (ed (n.ld 2 rfl rfl) (ed (s.since p).v.len ?_))))));refine A9 ?_;rw[Ml U];refine ed rfl ?_;have al:=S2.no _ _ _ e (by omega)
 let⟨hvl2,hno2⟩:=kj.1 al
 let⟨lb,ob,ub,b1,b2,b3⟩:=n.Wd 1 rfl hvl2 .i64 rfl
 obtain rfl:ub = .I (-1):=by
  have:[ub]=[V.I D[B.ef[j]]]:=b3
  simp_all
 have eA:nt (.bool (!true)) (oB (some (V.ptr lc 0)) λam=>oB (hZ am) λan=>oB (fF 5 an) λao=>oB (ez ao h8) λap=>oB (some (V.I (B.ef[j]:Nat))) λaq=>oB (gG 1 ap aq) λar=>oB (ez ar h8) λau=>en .geq 3 au (V.I 0))=some (.bool false):=by
  have l5:ez (.ptr lc (0+5)) h8=some vq:=n.ld 2 rfl rfl;simp only[wB6,nr,fe,fP,fS,l5,b1,b2,oS];rfl
 refine ed eA (iJ (fU (by simp) ?_))
 let⟨lv,ov,wv,_,c1,_,_,cv⟩:=(s.since p).val W
 refine ed (fP _ _) (ed (by rfl) (ed (by rfl) (ed (n.ld 2 rfl rfl) (ed c1 (ed (by rfl) (ed cv.op ?_))))));refine ed (by rfl) ?_;have eH:nt (.bool ((x.op:Int) == 21)) (oB (some (V.I x.op)) λaw=>en .eql 3 aw (V.I 1))=some (.bool (ir x.op)):=by
  simp[fe,gO,pK];unfold ir;rw[show((x.op:Int) == 21)=(x.op == 21) from ieq _ 21,show((x.op:Int) == 1)=(x.op == 1) from ieq _ 1,Bool.or_comm]
 refine ed eH ?_;have aU:ir x.op=true->fst=true:=by
  intro q;rcases T with a|⟨v,w,y,a,h2,rfl,h3,h4⟩
  ·exact a
  ·exfalso;have h5:=g.Cs (B.ef[j]) w b (j-1) x y (by grind) a W h3 q
   simp_all
 have ax:jX (.bool (ir x.op)) (oB (some (V.bool fst)) λX=>pA .not X)=some (.bool false):=by
  cases q:ir x.op with
  |false=>rfl
  |true=>simp_all
 refine ed ax ?_;have aV:ir x.op=true->((x.op:Int) == 1)=((b:Int) == 0):=by
  intro q;unfold ir at q;simp[RC,IE]at q;rw[show((x.op:Int) == 1)=(x.op == 1) from ieq _ 1,show((b:Int) == 0)=(b == 0) from ieq _ 0];rcases q with a|a
  ·rw[g.par _ _ _ _ e W a,a];rfl
  ·have:=(g.Dz _ _ _ _ _ e W a A).1
   simp_all
 have eM:nt (.bool false) (oB (some (V.I x.op)) λY=>oB (en .eql 3 Y (V.I 1)) λZ=>oB (some (V.I b)) λaa=>oB (en .eql 3 aa (V.I 0)) λab=>oB (en .neq 4 Z ab) λac=>oB (some ac) λae=>jX ae (some (V.bool (ir x.op))))=some (.bool false):=by
  simp[nr,fe,gO,XS,j6]
  cases q:ir x.op with
  |false=>simp
  |true=>simp_all
 refine ed eM (iJ (fU (by simp) ?_));obtain⟨l10,aW,aX,Nj,ay,aA,aB,aC⟩:=n.JZ 1 rfl hvl2 rfl rfl rfl;refine ed (fP _ _) (ed (by rfl) (ed (n.ld 2 rfl rfl) (ed (fP _ _) (ed (by rfl) (ed (n.ld 2 rfl rfl) (ed Nj ?_))))));rw[ay,ei];obtain⟨l12,aY,aZ,aD,aE,aF,aG,aH⟩:=aB.JZ 0 rfl (by rw[S2.np];exact U) rfl rfl rfl;refine⟨aA,ed aD ?_⟩;rw[aE,ei];refine⟨aF,fI (fI ?_)⟩;refine⟨k2-1,by omega,j+1,ir x.op,D.set (B.ef[j]) (b:Int),S.set (B.ef[j]) (j:Int),rfl,?_,rfl,rfl,rfl,rfl,rfl,rfl,rfl,rfl,by omega,?_,S2.step g e,(p.trans aC).trans aH,aG⟩
 ·rfl
 ·cases q:ir x.op with
  |true=>simp_all
  |false=>exact .inr ⟨_,_,x,e,by omega,rfl,W,q⟩
end
open Un Dm
def He{α:Type}(E:qH α)(Vo ty:Nat)(Kg:List (List α))(v:V)(ds:List V):Pc where
 mM:=λl=>Loc v l\/∃d∈ds,Loc d l
 ok F h:=∃t,v = .slice t 0 Kg.length/\t<h.next/\¬F t/\h.get t=some (.cells Vo 1 true false ds)/\ds.length=Kg.length/\(∀(i:Nat) x d,Kg[i]? =some x->ds[i]? =some d->lM E ty F h x d)/\(∀d∈ds,¬Loc d t)/\
  ∀(i j:Nat) d e,i≠j->ds[i]? =some d->ds[j]? =some e->∀l,Loc d l->¬Loc e l
 Pl:=λ⟨t,f,g,o,p,k,b,m,n⟩ l a=>by
  rcases a with a|⟨d,c,a⟩
  ·simp_all
  ·let⟨i,hi⟩:=nT.1 c
   have u:=(kj.1 hi).1;exact((b i _ d (hO (by omega)) hi).xi a).2
 fi:=λ{F h h'} ⟨t,f,g,o,p,k,b,m,n⟩ q a s=>by
  refine⟨t,f,ET g s,o,by simp_all,k,λi x d r c=>?_,m,n⟩;exact(b i x d r c).fi q (by grind) s
 mono:=λ{F F' h} ⟨t,f,g,o,p,k,b,m,n⟩ q a=>by
  refine⟨t,f,g,by simp_all,p,k,λi x d r c=>?_,m,n⟩;exact(b i x d r c).mono q (by grind)
theorem Sq{α:Type}{E:qH α}{F:Nat->Prop}{h:Hp}:∀{Kg:List (List α)}{ds:List V},ds.length=Kg.length->(∀(i:Nat) x d,Kg[i]? =some x->ds[i]? =some d->ie E F h x d)->qP (eL E) F h ds Kg
 |[],_,_,_=>trivial
 |x::Kg,[],h,_=>by simp_all
 |x::Kg,d::ds,hl,H=>⟨[d],ds,rfl,⟨d,rfl,H 0 x d rfl rfl⟩,Sq (by simp_all) λi x d a b=>H (i+1) x d (by simp_all) (by simp_all)⟩
section
variable{F F':Nat->Prop}{h h':Hp}{cs:List Pc}{α:Type}{E:qH α}{Vo ty:Nat}{Kg:List (List α)}{v:V}{ds:List V}
theorem ej.WT(H:ej F h cs)(n:Nat):ej F (h.new (.cells Vo 1 true false (List.replicate n V.ee))) (He E Vo ty (List.replicate n []) (.slice h.next 0 n) (List.replicate n V.ee)::cs)/\Sn F h F (h.new (.cells Vo 1 true false (List.replicate n V.ee))):=by
 have c:∀{i:Nat} {d:V},(List.replicate n V.ee)[i]? =some d->d = .ee:=by grind
 refine H.new _ ⟨h.next,by simp,Pv _,H.fresh,fh _ _,by simp,λi x d f b=>?_,λd b=>?_,λi j d e _ b _ l a=>?_⟩ λl a=>?_
 ·obtain rfl:=c b;obtain rfl:x=[]:=by grind
  exact .nil
 ·simp_all
 ·obtain rfl:=c b;exact a.elim
 ·rcases a with a|⟨d,b,a⟩
  ·exact a.symm
  simp_all
theorem ej.zba(H:ej F h cs)(i:Nat)(hi:cs[i]? =some (He E Vo ty Kg v ds)):fD v=some (.I Kg.length):=by
 obtain⟨t,rfl,_⟩:=H.ok i _ hi;rfl
theorem ej.WJ(H:ej F h cs)(i:Nat)(hi:cs[i]? =some (He E Vo ty Kg v ds)){b:Nat}(Z:b<Kg.length){kL K9:Nat}{y:α}{w:List V}{ro:Bool}(M:E.rel F h y w)(hz:0<E.sz)(P:kL<=1000)(hlen:Kg[b].length<1000000) :
  ∃l d d' A B,ds[b]? =some d/\l<h.next/\gG 1 v (.I b)=some (.ptr l (b*1))/\ez (.ptr l (b*1)) h=some d/\eR ty E.sz kL d (.slice h.next 0 1) (h.new (.cells K9 E.sz true ro w))=some (.val d' A)/\h.next+1<=A.next/\
   gJ 1 (.ptr l (b*1)) d' A=some (.val .undef B)/\A.next<=B.next/\ej F B (cs.set i (He E Vo ty (Kg.set b (Kg[b]++[y])) v (ds.set b d')))/\Sn F h F B:=by
 obtain⟨t,rfl,A,B,h4,h5,Q,R,N⟩:=H.ok i _ hi;obtain⟨d,J⟩:∃d,ds[b]? =some d:=by simp_all
 have T:=Q b _ d (hO Z) J;have C:=nT.2 ⟨b,J⟩;have U:lM E ty F (h.new (.cells K9 E.sz true ro w)) Kg[b] d:=T.fi (λl a=>fj _ (H.fl l a)) (λl a=>fj _ (T.xi a).2.1) (PT _);have hx:ml (h.new (.cells K9 E.sz true ro w)) E.sz (.slice h.next 0 1)=some (1,w):=px (by rw[E.len M];simp);have aa:(Kg[b].length+1)*kL<=1000000*1000:=Nat.mul_le_mul (by omega) P
 let⟨d',g,O,o1,K,l1⟩:=U.append (kL:=kL) (ys:=[y]) hx ⟨w,[],by simp,E.fi (λl a=>fj _ (H.fl l a)) M,trivial⟩ (by rw[E.len M];simp) (E.one M) (by simp) hz (λl a=>wBs (H.fl l a)) (by simp;omega) (by simp;omega)
 have n1:(h.new (.cells K9 E.sz true ro w)).next=h.next+1:=rfl;have D:∀l,Loc d' l->Loc d l\/h.next<=l:=by grind
 have p:t<g.next:=by have:=K.next;omega
 have gt:g.get t=some (.cells Vo 1 true false ds):=by rw[K.fi t (by omega) (R d C),fj _ A];exact h4
 have L:=OU (o:=b*1) gt (by omega) o1.one;rw[Nat.mul_one]at L;have W:¬Loc d' t:=by grind
 have cg:mw (He E Vo ty Kg (.slice t 0 Kg.length) ds).mM h (g.put t (.cells Vo 1 true false (ds.set b d'))):=by
  refine(((mw.new h _).ZH λ_ _ h=>h).trans' (by omega) λl _ a=> .inr ⟨d,C,a⟩).trans' (mw.put (S:=λl=>l=t) _ rfl p) λl _ e=> .inl e.symm
 have m:∀{j:Nat} {e:V},(ds.set b d')[j]? =some e->(j=b/\e=d')\/(j≠b/\ds[j]? =some e):=by grind
 have q:∀{j:Nat} {e:V},ds[j]? =some e->∀l,Loc e l->l<h.next:=λ{j e} c l a=>by
  have ab:=(kj.1 c).1;exact((Q j _ e (hO (by omega)) c).xi a).2.1
 refine⟨t,d,d',g,g.put t (.cells Vo 1 true false (ds.set b d')),J,A,?_,?_,O,K.next,by simp_all,ju _,H.DV hi cg ?_ ?_⟩
 ·simp_all[za,zO]
 ·rw[Nat.mul_one];grind[ma]
 ·refine ⟨t,by simp,p,B,gq _ p,by simp[h5],λj x e r c=>?_,λe c=>?_,λj k e f hn c hf l a s=>?_⟩
  ·rcases m c with⟨rfl,rfl⟩|⟨n,c⟩
   ·rw[Qd Z]at r;obtain rfl:=Option.some.inj r;exact o1.fi (by grind[gK]) (by grind[gK]) (ju _)
   ·rw[K6 λe=>n e.symm]at r;have X:=nT.2 ⟨j,c⟩;refine(Q j x e r c).fi (λl a=>?_) (λl a=>?_) (by have:=K.next;show h.next<=g.next;omega)
    ·rw[gK _ p λe=>B (e▸a),K.fi l (wBs (H.fl l a)) λG=>(T.xi G).2.2 a,fj _ (H.fl l a)]
    ·have Y:=q c l a;rw[gK _ p λe'=>R e X (e'▸a),K.fi l (by omega) λG=>N j b e d n c J l a G,fj _ Y]
  ·let⟨j,n⟩:=nT.1 c
   rcases m n with⟨_,rfl⟩|⟨_,n⟩
   ·exact W
   ·exact R e (nT.2 ⟨j,n⟩)
  ·rcases m c with⟨O,e2⟩|⟨n,I⟩
   ·rcases m hf with⟨L,_⟩|⟨hk,u⟩
    ·exact hn (O.trans L.symm)
    ·subst O e2;rcases D l a with z|z
     ·exact N k j f d hk u J l s z
     ·have:=q u l s;omega
   ·rcases m hf with⟨L,e4⟩|⟨hk,u⟩
    ·subst L e4;rcases D l s with z|z
     ·exact N j k e d n I J l a z
     ·have:=q I l a;omega
    ·exact N j k e f hn I u l a s
 ·intro l a;rcases a with a|⟨e,c,a⟩
  ·exact .inl (.inl a)
  ·let ⟨j,n⟩:=nT.1 c
   rcases m n with⟨_,rfl⟩|⟨_,n⟩
   ·rcases D l a with z|z
    ·exact .inl (.inr ⟨d,C,z⟩)
    ·exact .inr z
   ·exact .inl (.inr ⟨e,nT.2 ⟨j,n⟩,a⟩)
theorem ej.VJ(H:ej F h cs)(i:Nat)(hi:cs[i]? =some (He E Vo ty Kg v ds)):∃F',ej F' h (cs.set i emp)/\Sn F h F' h/\ie (eL E) F' h Kg v:=by
 have a:=H.ok i _ hi
 let⟨c,e⟩:=H.zc1 (p:=emp) (F':=λl=>F l\/(He E Vo ty Kg v ds).mM l) hi (mw.refl _ _) (by simp_all) (by grind) trivial λ_ h=>h.elim
 refine⟨_,c,e,?_⟩;obtain⟨t,rfl,o,q,f,g,k,r,s⟩:=a;refine .inr ⟨t,0,Vo,true,false,ds,rfl,.inr (.inl rfl),f,.inr rfl,Ol _,?_⟩;rw[wBS];exact Sq g λj x d m b=>(k j x d m b).slR (by simp_all) λl n=> .inr (.inr ⟨d,nT.2 ⟨j,b⟩,n⟩)
end
def iZ(u:U)(i j b:Nat):List Nat:=kh (u.blocks.take i) 0 b++(match u.blocks[i]? with
 |some B=>((B.next.take j).filter (·= b)).map λ_=>i
 |none=>[])
theorem Kv(u:U)(b:Nat):iZ u 0 0 b=[]:=by
 grind[iZ,kh]
theorem J6{u:U}{i j b t:Nat}{B:Bk}(a:u.blocks[i]? =some B)(c:B.next[j]? =some t):iZ u i (j+1) b=if b=t then iZ u i j b++[i] else iZ u i j b:=by
 unfold iZ;rw[a];obtain⟨d,rfl⟩:=kj.1 c;simp only[OX d,wB3]
 grind
theorem J8{u:U}{i b:Nat}{B:Bk}(a:u.blocks[i]? =some B):iZ u (i+1) 0 b=iZ u i B.next.length b:=by
 unfold iZ;obtain⟨hi,rfl⟩:=kj.1 a;rw[ OX hi,rA];have c:(u.blocks.take i).length=i:=by rw[NM];omega
 simp[ zO]
 grind[kh]
theorem pR(u:U)(b:Nat):iZ u u.blocks.length 0 b=Un.ahead u b:=by
 simp_all[iZ,Un.ahead]
theorem pS{u:U}(g:Good u){i j b:Nat}(hi:i<=u.blocks.length)(f:j<=2):(iZ u i j b).length<=2*i+2:=by
 have c:∀i,i<=u.blocks.length->(kh (u.blocks.take i) 0 b).length<=2*i:=by
  intro i
  induction i with
  |zero=>grind[kh]
  | succ i d=>
    intro hi;have a:i<u.blocks.length:=by omega
    rw[OX a,rA];have:=d (by omega);have e:u.blocks[i]? =some u.blocks[i]:=by simp_all
    have k:(u.blocks[i]).next.length<=2:=by
      rcases g.fin i _ e with⟨_,h⟩|⟨_,h,_⟩|⟨_,h,_⟩
      ·omega
      ·omega
      ·simp_all
    grind[kh]
 grind[iZ,K8]
section
variable{F F':Nat->Prop}{h h':Hp}{cs:List Pc}{Q:fo}{u:U}{vv vb vs:V}
theorem T5(g:Good u)(W:ej F h cs)(x:zQ F h u vv vb vs)(H:∀F' h' v,Sn F h F' h'->ej F' h' cs->ie (eL eN) F' h' ((List.range u.blocks.length).map (Un.ahead u)) v->Q v h') :
  cP CS zH [.agg (uC u vv vb vs)] h Q:=by
 refine TI rfl rfl ?_;unfold Mk;have nb:=g.nb;refine jM W x.one λo M A=>?_;refine ed (by rfl) (ed (M.ld 0 rfl rfl) (ed (x.since A).b.len ?_));rw[kW rfl (by decide) (by omega),fE];obtain⟨C,N⟩:=M.WT u.blocks.length;have D:List.replicate u.blocks.length ([]:List Nat)=(List.range u.blocks.length).map (iZ u 0 0):=by
  refine List.ext_getElem (by simp) λi o X=>?_;simp[Kv]
 rw[D]at C;refine ed (by rfl) (ed (C.ld 1 rfl rfl) (ed (x.since (A.trans N)).b.len ?_))
 refine OP (λk p a f m h'=>∃i ds,p = .slice o.next 0 u.blocks.length/\a=vb/\f = .I u.blocks.length/\m = .I (i:Nat)/\i+k=u.blocks.length/\Sn F h F h'/\
  ej F h' (He eN js ev ((List.range u.blocks.length).map (iZ u i 0)) (.slice o.next 0 u.blocks.length) ds::cs)) ?_ (k:=u.blocks.length)
  ⟨0,_,rfl,rfl,rfl,rfl,by omega,A.trans N,(C.forget (i:=1) rfl)|> λH=>by
    exact ⟨H.fl,λi c hc=>by
      cases i with
      |zero=>exact H.ok 0 c hc
      |succ i=>exact H.ok (i+2) c hc,λi j c d hc y hn=>by
      cases i with
      | zero=>
        cases j with
        |zero=>omega
        |succ j=>exact H.Fg 0 (j+2) c d hc y (by omega)
      | succ i=>
        cases j with
        |zero=>exact H.Fg (i+2) 0 c d hc y (by omega)
        |succ j=>exact H.Fg (i+2) (j+2) c d hc y (by omega)⟩⟩
 rintro k p a f m Y ⟨i,ds,rfl,E,rfl,rfl,hk,G,O⟩;subst a;unfold HC;by_cases hi:i<u.blocks.length;rotate_left
 ·refine iI ?_;obtain rfl:i=u.blocks.length:=by omega
  let⟨Z,z,s4,P⟩:=O.VJ 0 rfl
  have e:(List.range u.blocks.length).map (iZ u u.blocks.length 0)=(List.range u.blocks.length).map (Un.ahead u):=by
   refine(by grind[Yo,pR])
  rw[e]at P;exact H Z Y _ (G.trans s4) z.tail P
 refine gy ?_;obtain⟨B,I⟩:∃B,u.blocks[i]? =some B:=by simp_all
 let⟨l7,o7,bv,bn,bp,_,i1,i2,iv,q,ip,_⟩:=(x.since G).nV I
 have aa:B.next.length<=2:=by
  rcases g.fin i _ I with⟨_,h⟩|⟨_,h,_⟩|⟨_,h,_⟩
  ·omega
  ·omega
  ·simp_all
 refine ed i1 (ed i2 ?_);refine gW O rfl rfl (by simp only[lB,eo,iv.one,q.one,ip.one];rfl) λh4 z s4=>?_;have q:=q.since s4;refine ed (by rfl) (ed (z.ld 0 rfl rfl) (ed q.len ?_))
 refine NN (λk p R a f m n r s h'=>∃j ds,p = .slice o.next 0 u.blocks.length/\R = .I i/\a=vb/\f = .I u.blocks.length/\m = .I i/\n=bn/\r = .I B.next.length/\s = .I (j:Nat)/\
  j+k=B.next.length/\Sn F h4 F h'/\ej F h' (He eN js ev ((List.range u.blocks.length).map (iZ u i j)) (.slice o.next 0 u.blocks.length) ds::cs)) ?_ (k:=B.next.length)
  ⟨0,ds,rfl,rfl,rfl,rfl,rfl,rfl,rfl,rfl,by omega,Sn.refl _ _,z.tail⟩
 rintro k1 p R a f m n r s S ⟨j,t,rfl,rfl,E,rfl,rfl,ab,rfl,rfl,ac,J,T⟩;subst a n;unfold Hm;by_cases hj:j<B.next.length;rotate_left
 ·refine iI ?_;obtain rfl:j=B.next.length:=by omega
  refine fI ⟨k-1,by omega,i+1,t,rfl,rfl,rfl,rfl,by omega,(G.trans s4).trans J,?_⟩;have e:(List.range u.blocks.length).map (iZ u (i+1) 0)=(List.range u.blocks.length).map (iZ u i B.next.length):=by grind[Yo,J8]
  grind
 refine gy ?_
 let⟨l8,o8,_,j1,j2⟩:=(q.since J).nat (hO hj) .i64
 have K:B.next[j]<u.blocks.length:=g.nx i _ (by grind[next,AU]);have U:=T.zba 0 rfl;rw[EN,UB]at U;refine ed j1 (ed j2 (ed U ?_));refine A9 (iJ (gj (by simp_all) ?_));have w:B.next[j]<((List.range u.blocks.length).map (iZ u i j)).length:=by simpa using K
 obtain ⟨l,d,d',h6,h7,y,hl,V,e2,e3,e4,e5,e6,H7,s7⟩:=T.WJ 0 rfl w (kL:=8) rfl (by decide) (by decide) (by
  grind[pS])
 refine ed V (ed e2 ?_);rw[rS,fE];have L:eR 3 1 8 d (.slice S.next 0 1) (S.new (.cells 3 1 true false (gZ [i])))=some (.val d' h6):=e3;rw[L,ei];refine ed V ?_;rw[e5,ei];refine MF ?_;unfold FQ;refine fI ⟨k1-1,by omega,j+1,t.set (B.next[j]) d',rfl,rfl,rfl,rfl,rfl,rfl,rfl,rfl,by omega,J.trans s7,?_⟩;have e:((List.range u.blocks.length).map (iZ u i j)).set (B.next[j]) (((List.range u.blocks.length).map (iZ u i j))[B.next[j]]'w++[i])=(List.range u.blocks.length).map (iZ u i (j+1)):=by
  refine List.ext_getElem (by simp) λb o X=>?_;rw[List.getElem_set];simp[List.getElem_map,List.getElem_range];rw[J6 I (hO hj)];by_cases eb:B.next[j]=b
  ·simp_all
  ·grind
 simp_all
end
