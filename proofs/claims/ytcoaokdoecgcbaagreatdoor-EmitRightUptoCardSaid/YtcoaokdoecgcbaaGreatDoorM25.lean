/- Parts. -/
import Derived.Test.YtcoaokdoecgcbaaGreatDoorM24
import Derived.KernelRfl
set_option maxHeartbeats 4000000
namespace Go.Proofs.YtcoaokdoecgcbaaGreatDoor.Hx
open Un Dm
def pre(u:U)(b:Nat):List Nat:=(u.blocks.take b).flatMap (·.ee)
theorem N1{u:U}{b:Nat}{B:Bk}(a:u.blocks[b]? =some B):pre u (b+1)=pre u b++B.ee:=by
 unfold pre;obtain⟨c,rfl⟩:=kE.1 a
 grind[Nt]
theorem QN{u:U}{b v:Nat}:v∈pre u b↔∃c k,At u v c k/\c<b:=by
 unfold pre At;simp only[wBI];constructor
 ·grind[oR]
 ·rintro⟨c,k,⟨B,a,d⟩,e⟩;refine⟨B,oR.2 ⟨c,?_⟩,by grind⟩
  simp_all
theorem DB{u:U}(g:Good u){b:Nat}{B:Bk}(a:u.blocks[b]? =some B):B.ee.Nodup:=by
 rw[List.nodup_iff_pairwise_ne,wBW];intro i j hi c d e;have f:At u (B.ee[i]) b i:=⟨B,a,iz hi⟩
 have h:At u (B.ee[i]) b j:=⟨B,a,by rw[e];exact iz c⟩
 have:=(g.QH _ _ _ _ _ f h).2;omega
theorem K4{u:U}(g:Good u):∀b,(pre u b).Nodup
 |0=>by simp[pre]
 | b + 1=>by
   by_cases hb:b<u.blocks.length
   ·have a:=iz hb
    rw[N1 a,wB0];refine⟨K4 g b,DB g a,λv d w f e=>?_⟩;subst e
    let⟨c,k,h,i⟩:=QN.1 d
    let⟨j,hj⟩:=oR.1 f
    have:=(g.QH _ _ _ _ _ h ⟨_,a,hj⟩).1;omega
   ·have:pre u (b+1)=pre u b:=by
      unfold pre;rw[Uj (by omega),Uj (by omega)]
    rw[this];exact K4 g b
theorem QE{u:U}(g:Good u):(pre u u.blocks.length).length=u.ee.length:=by
 refine Nat.le_antisymm (wZ _ _ (K4 g _) λv hv=>?_) ?_
 ·let⟨c,k,a,_⟩:=QN.1 hv
  exact g.DW _ _ _ a
 ·have a:(List.range u.ee.length).length=u.ee.length:=List.length_range;rw[<-a];refine sub_le _ _ List.nodup_range λv hv=>?_;rw[List.mem_range]at hv
  let⟨b,k,d⟩:=g.Jm v hv trivial
  refine QN.2 ⟨b,k,d,?_⟩
  let⟨B,e,_⟩:=d
  grind
structure Std (u:U) (b k:Nat) (bl pl:List Int):Prop where
 nb:bl.length=u.ee.length
 np:pl.length=u.ee.length
 yes:∀v c j,At u v c j->(c<b\/(c=b/\j<k))->bl[v]? =some (c:Int)/\pl[v]? =some (j:Int)
 no:∀v c j,At u v c j->¬(c<b\/(c=b/\j<k))->bl[v]? =some (-1)
theorem Std.step{u:U}{b k:Nat}{bl pl:List Int}(g:Good u)(S:Std u b k bl pl){v:Nat}(hv:At u v b k):Std u b (k+1) (bl.set v (b:Int)) (pl.set v (k:Int)):=by
 have d:=g.DW _ _ _ hv;refine⟨by simp[S.nb],by simp[S.np],λw c j a hc=>?_,λw c j a hc=>?_⟩
 ·by_cases e:w=v
  ·subst e;obtain⟨rfl,rfl⟩:=g.QH _ _ _ _ _ a hv;rw[OY (by rw[S.nb];exact d),OY (by rw[S.np];exact d)]
   simp_all
  ·rw [QI (by omega),QI (by omega)];refine S.yes w c j a ?_;rcases hc with h|⟨rfl,h⟩
   ·omega
   ·refine .inr ⟨rfl,?_⟩;rcases Tu j k with f|f
    ·exact f
    ·exfalso;obtain rfl:j=k:=by omega
     let⟨B,i,l⟩:=a
     let⟨B',m,n⟩:=hv
     simp_all
 ·have e:w≠v:=λe=>by
   subst e;obtain⟨rfl,rfl⟩:=g.QH _ _ _ _ _ a hv;omega
  rw[QI (by omega)];exact S.no w c j a (by omega)
theorem Std.next{u:U}{b:Nat}{bl pl:List Int}{B:Bk}(g:u.blocks[b]? =some B)(S:Std u b B.ee.length bl pl):Std u (b+1) 0 bl pl:=by
 have f:∀v c j,At u v c j->((c<b\/(c=b/\j<B.ee.length))↔(c<b+1\/(c=b+1/\j<0))):=by
  intro v c j hv;constructor
  ·omega
  ·intro h;by_cases e:c=b
   ·subst e
    let⟨B',a,d⟩:=hv
    grind
   ·omega
 exact⟨S.nb,S.np,λv c j a d=>S.yes v c j a (by grind),λv c j a d=>S.no v c j a (by omega)⟩
theorem Y6:P0.underlying hC=some .bool:=by kernel_rfl
theorem Pl(a b:Bool):ef .neq hC (.bool a) (.bool b)=some (.bool (a != b)):=by
 show Xs hC true (.bool a) (.bool b)=_;unfold Xs X9 VQ;rw[Y6];rfl
section
variable{F F':Nat->Prop}{h h':Hp}{cs:List Pc}{Q:fo}{u:U}{vv vb vs:V}{lc:Nat}{bl pl GC:V}
theorem Zg(g:Good u){ty:Nat}(H0:ej F h (ft lc ty [.I u.func,.I u.pc,vv,vb,vs,bl,pl,GC]::cs))(t:Is F h u vv vb vs)
  (H:∀F' h' b' p' xs ys,Sn F h F' h'->ej F' h' (ft lc ty [.I u.func,.I u.pc,vv,vb,vs,b',p',GC]::cs)->iH eZ F' h' xs b'->iH eZ F' h' ys p'->Std u u.blocks.length 0 xs ys->Q (.bool true) h') :
  cP CS oh [.ptr lc 0] h Q:=by
 refine Ib rfl rfl ?_;unfold yL;have nv:=g.nv;have nb:=g.nb;have aL:=(H0.ok 0 _ rfl).2.1;refine ec (fi _ _) (ec (by rfl) (ec (by rfl) (ec (H0.ld 0 rfl rfl) (ec t.v.len ?_))));rw[pC rfl (by decide) (by omega),hH];obtain⟨H1,s1⟩:=H0.make (E:=eZ) u.ee.length rfl rfl;have n1:(h.new (.cells fw 1 true false (List.replicate u.ee.length (V.I 0)))).next=h.next+1:=rfl;have g1:(h.new (.cells fw 1 true false (List.replicate u.ee.length (V.I 0)))).get h.next=_:=eJ _ _;show oP (gq (.ptr lc 0)) _;generalize aM:h.new (.cells fw 1 true false (List.replicate u.ee.length (V.I 0)))=a at*;refine ec (fi _ _) (ec (by rfl) (ec (by rfl) (ec (H1.ld 1 rfl rfl) (ec (t.since s1).v.len ?_))));rw[pC rfl (by decide) (by omega),hH];obtain⟨H2,s2⟩:=H1.make (E:=eZ) u.ee.length rfl rfl;have g2:(a.new (.cells fw 1 true false (List.replicate u.ee.length (V.I 0)))).get a.next=_:=eJ _ _;have aN:=(eE (.cells fw 1 true false (List.replicate u.ee.length (V.I 0))) (by omega)).trans g1;show oP (gq (.ptr lc 0)) _;generalize aO:a.new (.cells fw 1 true false (List.replicate u.ee.length (V.I 0)))=h2 at*;refine ec (fi _ _) (ec (by rfl) ⟨by simp_all,H2.ld 2 rfl rfl,by simp_all,H2.ld 2 rfl rfl,?_⟩)
 let⟨h3,e3,n3,H3,s3,k3⟩:=H2.stk 2 (o:=5) (u:= .slice h.next 0 u.ee.length) rfl (by simp) rfl
 rw[ e3];refine⟨n3,ec (fi _ _) (ec (by rfl) ⟨by grind[O.jA],?_⟩)⟩
 let⟨h4,e4,n4,H4,s4⟩:=H3.st 2 (o:=6) (u:= .slice a.next 0 u.ee.length) rfl (by simp) rfl
 rw[ e4];refine⟨n4,?_⟩;have aP:=((s1.trans s2).trans s3).trans s4;generalize V.slice a.next 0 u.ee.length=vp at*;generalize V.slice h.next 0 u.ee.length=vq at*;have lq:=H4.len 1 rfl;rw[List.length_replicate]at lq;refine ec (fi _ _) (ec (by rfl) (ec (H4.ld 2 rfl rfl) (ec lq ?_)))
 refine Df (λk z I J h'=>∃i xs,z = .ptr lc 0/\I = .I u.ee.length/\J = .I (i:Nat)/\i+k=u.ee.length/\xs.length=u.ee.length/\(∀j,j<i->xs[j]? =some (-1))/\Sn F h F h'/\
  ej F h' (fE eZ fw (List.replicate u.ee.length (0:Int)) vp::fE eZ fw xs vq::ft lc ty [.I u.func,.I u.pc,vv,vb,vs,vq,vp,GC]::cs)) ?_ (k:=u.ee.length)
  (by grind)
 rintro k z I J h5 ⟨i,xs,rfl,rfl,rfl,hk,ah,hm,s5,H5⟩;unfold tU;by_cases hi:i<u.ee.length
 ·refine gU ?_;obtain⟨l6,o6,h6,e6,e7,n6,K,A⟩:=H5.L9 1 rfl (k:=i) (by omega) rfl rfl rfl;refine ec (fi _ _) (ec (by rfl) (ec (H5.ld 2 rfl rfl) (ec e6 ?_)));rw[e7,eh];refine gf ⟨k-1,by omega,i+1,xs.set i (-1),rfl,rfl,rfl,by omega,by simp_all,λj hj=>?_,s5.trans A,K⟩
  grind
 refine iY ?_;refine ec (fi _ _) (ec (by rfl) (ec (by rfl) (ec (H5.ld 2 rfl rfl) (ec (t.since s5).b.len ?_))));have S0:Std u 0 0 xs (List.replicate u.ee.length (0:Int)):=⟨ah,by simp,by omega,λv c j a _=>hm v (by have:=g.DW _ _ _ a;omega)⟩
 refine DQ (λk z L d f m h'=>∃b xs ys,z = .ptr lc 0/\L = .I ((pre u b).length:Nat)/\d=vb/\f = .I u.blocks.length/\m = .I (b:Nat)/\b+k=u.blocks.length/\Std u b 0 xs ys/\Sn F h F h'/\
  ej F h' (fE eZ fw ys vp::fE eZ fw xs vq::ft lc ty [.I u.func,.I u.pc,vv,vb,vs,vq,vp,GC]::cs)) ?_ (k:=u.blocks.length)
  ⟨0,xs,_,rfl,rfl,rfl,rfl,rfl,by omega,S0,s5,H5⟩
 rintro k1 z L d f m h6 ⟨b,ai,aj,rfl,rfl,ak,rfl,rfl,aQ,S1,A,K⟩;subst d;unfold vw;by_cases hb:b<u.blocks.length;rotate_left
 ·refine iY ?_;obtain rfl:b=u.blocks.length:=by omega
  refine ec (fi _ _) (ec (by rfl) (ec (by rfl) (ec (K.ld 2 rfl rfl) (ec (t.since A).v.len (fH ?_)))));rw[QE g,XJ rfl]
  let⟨M,N,r7⟩:=K.ji 0 rfl
  simp[ AD]at M
  let⟨p,q,r8⟩:=M.ji 1 rfl
  exact H _ _ _ _ _ _ ((A.trans N).trans q) p.tail.tail r8 (r7.since q) S1
 refine gU ?_;obtain⟨B,C⟩:∃B,u.blocks[b]? =some B:=by simp_all
 let⟨l7,o7,bv,bn,bp,_,i1,i2,P,iN,ip,_⟩:=(t.since A).AA C
 refine ec i1 (ec i2 ?_);refine lM K rfl rfl (by simp only[rr,fe,P.one,iN.one,ip.one];rfl) λh7 M N=>?_;have P:=P.since N;refine ec (by rfl) (ec (M.ld 0 rfl rfl) (ec P.len ?_));have aR:(pre u b).length<=u.ee.length:=by
  rw[<-QE g];unfold pre;have:u.blocks.take b <+: u.blocks:=List.take_prefix _ _
  let⟨r,hr⟩:=this
  conv=>rhs;rw[SM,<-hr,wA4,oQ]
  omega
 have aK:(pre u b).length+B.ee.length<=u.ee.length:=by
  rw[<-oQ,<-N1 C];rw[<-QE g];unfold pre;have:u.blocks.take (b+1) <+: u.blocks:=List.take_prefix _ _
  let⟨r,hr⟩:=this
  conv=>rhs;rw[SM,<-hr,wA4,oQ]
  omega
 refine DS (λk z L x5 x7 d f m D R S h'=>∃j n xs ys,z = .ptr lc 0/\L = .I (((pre u b).length+j:Nat):Int)/\x5 = .I b/\x7 = .bool n/\d=vb/\f = .I u.blocks.length/\m = .I b/\
  D=bv/\R = .I B.ee.length/\S = .I j/\j+k=B.ee.length/\(n=true\/∃v w x,At u v b (j-1)/\0<j/\w=v/\u.ee[v]? =some x/\kh x.op=false)/\Std u b j xs ys/\Sn F h F h'/\
  ej F h' (fE eZ fw ys vp::fE eZ fw xs vq::ft lc ty [.I u.func,.I u.pc,vv,vb,vs,vq,vp,GC]::cs)) ?_ (k:=B.ee.length)
  ⟨0,true,ai,aj,rfl,rfl,rfl,rfl,rfl,rfl,rfl,rfl,rfl,rfl,by omega,.inl rfl,S1,A.trans N,M.tail⟩
 rintro k2 z L x5 x7 d f m D R S h8 ⟨j,n,G,T,rfl,rfl,rfl,rfl,ak,rfl,rfl,e59,rfl,rfl,aS,U,S2,q,p⟩;subst d D;unfold vz;by_cases hj:j<B.ee.length;rotate_left
 ·refine iY ?_;obtain rfl:j=B.ee.length:=by omega
  refine gf ⟨k1-1,by omega,b+1,G,T,rfl,?_,rfl,rfl,rfl,by omega,S2.next C,q,p⟩;rw[N1 C,oQ]
 refine gU ?_;have e:At u (B.ee[j]) b j:=⟨B,C,iz hj⟩
 have W:=g.DW _ _ _ e;obtain⟨x,X⟩:∃x,u.ee[B.ee[j]]? =some x:=by simp_all
 have al:iH eN F h8 B.ee bv:=by
  let⟨l7,o7,bv',bn',bp',_,aT,aU,iv',_⟩:=(t.since q).AA C
  exact ((by omega)|> λ_=>(by
   have hk:=λl hl=>(q.fh l hl).trans ((A.trans N).fh l hl).symm;exact P.fh hk))
 let⟨l9,o9,_,j1,j2⟩:=al.nat (iz hj) .i64
 refine ec j1 (ec j2 (ec (fi _ _) (ec (by rfl) (ec (by rfl) (ec (p.ld 2 rfl rfl) (ec (t.since q).v.len ?_))))));refine Ax ?_;rw[XJ W];refine ec rfl ?_;have am:=S2.no _ _ _ e (by omega)
 let⟨hvl2,hno2⟩:=kE.1 am
 let⟨lb,ob,ub,b1,b2,b3⟩:=p.XZ 1 rfl hvl2 .i64 rfl
 obtain rfl:ub = .I (-1):=by
  have:[ub]=[V.I G[B.ee[j]]]:=b3
  simp_all
 have eA:mm (.bool (!true)) (oB (some (V.ptr lc 0)) λan=>oB (gq an) λao=>oB (fK 5 ao) λaq=>oB (eC aq h8) λar=>oB (some (V.I (B.ee[j]:Nat))) λau=>oB (gP 1 ar au) λaw=>oB (eC aw h8) λax=>ef .geq 3 ax (V.I 0))=some (.bool false):=by
  have l5:eC (.ptr lc (0+5)) h8=some vq:=p.ld 2 rfl rfl;simp only[wBc,ta,eD,fi,fN,l5,b1,b2,jc];rfl
 refine ec eA (gh (gD (by simp) ?_))
 let⟨lv,ov,wv,_,c1,_,_,cv⟩:=(t.since q).val X
 refine ec (fi _ _) (ec (by rfl) (ec (by rfl) (ec (p.ld 2 rfl rfl) (ec c1 (ec (by rfl) (ec cv.op ?_))))));refine ec (by rfl) ?_;have eH:mm (.bool ((x.op:Int) == 21)) (oB (some (V.I x.op)) λay=>ef .eql 3 ay (V.I 1))=some (.bool (kh x.op)):=by
  simp[eD,iE,iC];unfold kh;rw[show((x.op:Int) == 21)=(x.op == 21) from YD _ 21,show((x.op:Int) == 1)=(x.op == 1) from YD _ 1,Bool.or_comm]
 refine ec eH ?_;have aV:kh x.op=true->n=true:=by
  intro s;rcases U with a|⟨v,w,y,a,h2,rfl,h3,h4⟩
  ·exact a
  ·exfalso;have h5:=g.ZM (B.ee[j]) w b (j-1) x y (by grind) a X h3 s
   simp_all
 have az:iM (.bool (kh x.op)) (oB (some (V.bool n)) λY=>qH .not Y)=some (.bool false):=by
  cases s:kh x.op with
  |false=>rfl
  |true=>simp_all
 refine ec az ?_;have aW:kh x.op=true->((x.op:Int) == 1)=((b:Int) == 0):=by
  intro s;unfold kh at s;simp[GY,KC]at s;rw[show((x.op:Int) == 1)=(x.op == 1) from YD _ 1,show((b:Int) == 0)=(b == 0) from YD _ 0];rcases s with a|a
  ·rw[g.par _ _ _ _ e X a,a];rfl
  ·have:=(g.Yb _ _ _ _ _ e X a C).1
   simp_all
 have eM:mm (.bool false) (oB (some (V.I x.op)) λZ=>oB (ef .eql 3 Z (V.I 1)) λaa=>oB (some (V.I b)) λab=>oB (ef .eql 3 ab (V.I 0)) λac=>oB (ef .neq 4 aa ac) λae=>oB (some ae) λag=>iM ag (some (V.bool (kh x.op))))=some (.bool false):=by
  simp[ta,eD,iE,Pl,gQ]
  cases s:kh x.op with
  |false=>simp
  |true=>simp_all
 refine ec eM (gh (gD (by simp) ?_));obtain⟨l10,aX,aY,aA,aB,aC,aD,aE⟩:=p.L9 1 rfl hvl2 rfl rfl rfl;refine ec (fi _ _) (ec (by rfl) (ec (p.ld 2 rfl rfl) (ec (fi _ _) (ec (by rfl) (ec (p.ld 2 rfl rfl) (ec aA ?_))))));rw[aB,eh];obtain⟨aZ,a0,a1,aF,aG,aH,aI,aJ⟩:=aD.L9 0 rfl (by rw[S2.np];exact W) rfl rfl rfl;refine⟨aC,ec aF ?_⟩;rw[aG,eh];refine⟨aH,gf (gf ?_)⟩;refine⟨k2-1,by omega,j+1,kh x.op,G.set (B.ee[j]) (b:Int),T.set (B.ee[j]) (j:Int),rfl,?_,rfl,rfl,rfl,rfl,rfl,rfl,rfl,rfl,by omega,?_,S2.step g e,(q.trans aE).trans aJ,aI⟩
 ·rfl
 ·cases s:kh x.op with
  |true=>simp_all
  |false=>exact .inr ⟨_,_,x,e,by omega,rfl,X,s⟩
end
open Un Dm
def JM{α:Type}(E:rG α)(T8 ty:Nat)(MW:List (List α))(v:V)(ds:List V):Pc where
 oJ:=λl=>Loc v l\/∃d∈ds,Loc d l
 ok F h:=∃t,v = .slice t 0 MW.length/\t<h.next/\¬F t/\h.get t=some (.cells T8 1 true false ds)/\ds.length=MW.length/\(∀(i:Nat) x d,MW[i]? =some x->ds[i]? =some d->kT E ty F h x d)/\(∀d∈ds,¬Loc d t)/\
  ∀(i j:Nat) d e,i≠j->ds[i]? =some d->ds[j]? =some e->∀l,Loc d l->¬Loc e l
 Iu:=λ⟨t,b,c,m,n,f,a,g,k⟩ l hl=>by
  rcases hl with hl|⟨d,hd,hl⟩
  ·simp_all
  ·let⟨i,hi⟩:=oR.1 hd
   have r:=(kE.1 hi).1;exact((a i _ d (iz (by omega)) hi).xN hl).2
 fh:=λ{F h h'} ⟨t,b,c,m,n,f,a,g,k⟩ o hl q=>by
  refine⟨t,b,Dy c q,m,by simp_all,f,λi x d p hd=>?_,g,k⟩;exact(a i x d p hd).fh o (by grind) q
 mono:=λ{F F' h} ⟨t,b,c,m,n,f,a,g,k⟩ o hl=>by
  refine⟨t,b,c,by simp_all,n,f,λi x d p hd=>?_,g,k⟩;exact(a i x d p hd).mono o (by grind)
theorem Si{α:Type}{E:rG α}{F:Nat->Prop}{h:Hp}:∀{MW:List (List α)}{ds:List V},ds.length=MW.length->(∀(i:Nat) x d,MW[i]? =some x->ds[i]? =some d->iH E F h x d)->pU (eL E) F h ds MW
 |[],_,_,_=>trivial
 |x::MW,[],h,_=>by simp_all
 |x::MW,d::ds,hl,H=>⟨[d],ds,rfl,⟨d,rfl,H 0 x d rfl rfl⟩,Si (by simp_all) λi x d a hd=>H (i+1) x d (by simp_all) (by simp_all)⟩
section
variable{F F':Nat->Prop}{h h':Hp}{cs:List Pc}{α:Type}{E:rG α}{T8 ty:Nat}{MW:List (List α)}{v:V}{ds:List V}
theorem ej.zaY(H:ej F h cs)(n:Nat):ej F (h.new (.cells T8 1 true false (List.replicate n V.ed))) (JM E T8 ty (List.replicate n []) (.slice h.next 0 n) (List.replicate n V.ed)::cs)/\Sn F h F (h.new (.cells T8 1 true false (List.replicate n V.ed))):=by
 have a:∀{i:Nat} {d:V},(List.replicate n V.ed)[i]? =some d->d = .ed:=by grind
 refine H.new _ ⟨h.next,by simp,RC _,H.fresh,eJ _ _,by simp,λi x d b hd=>?_,λd hd=>?_,λi j d e _ hd _ l hl=>?_⟩ λl hl=>?_
 ·obtain rfl:=a hd;obtain rfl:x=[]:=by grind
  exact .nil
 ·simp_all
 ·obtain rfl:=a hd;exact hl.elim
 ·rcases hl with hl|⟨d,hd,hl⟩
  ·exact hl.symm
  simp_all
theorem ej.zbs(H:ej F h cs)(i:Nat)(hi:cs[i]? =some (JM E T8 ty MW v ds)):fD v=some (.I MW.length):=by
 obtain⟨t,rfl,_⟩:=H.ok i _ hi;rfl
theorem ej.zbM(H:ej F h cs)(i:Nat)(hi:cs[i]? =some (JM E T8 ty MW v ds)){b:Nat}(W:b<MW.length){lE IZ:Nat}{y:α}{w:List V}{ro:Bool}(L:E.rel F h y w)(hz:0<E.sz)(N:lE<=1000)(hlen:MW[b].length<1000000) :
  ∃l d n A B,ds[b]? =some d/\l<h.next/\gP 1 v (.I b)=some (.ptr l (b*1))/\eC (.ptr l (b*1)) h=some d/\eQ ty E.sz lE d (.slice h.next 0 1) (h.new (.cells IZ E.sz true ro w))=some (.val n A)/\h.next+1<=A.next/\
   gL 1 (.ptr l (b*1)) n A=some (.val .undef B)/\A.next<=B.next/\ej F B (cs.set i (JM E T8 ty (MW.set b (MW[b]++[y])) v (ds.set b n)))/\Sn F h F B:=by
 obtain⟨t,rfl,A,B,h4,h5,O,P,M⟩:=H.ok i _ hi;obtain⟨d,hd⟩:∃d,ds[b]? =some d:=by simp_all
 have Q:=O b _ d (iz W) hd;have C:=oR.2 ⟨b,hd⟩;have R:kT E ty F (h.new (.cells IZ E.sz true ro w)) MW[b] d:=Q.fh (λl hl=>eE _ (H.fl l hl)) (λl hl=>eE _ (Q.xN hl).2.1) (RM _);have hx:kV (h.new (.cells IZ E.sz true ro w)) E.sz (.slice h.next 0 1)=some (1,w):=nC (by rw[E.len L];simp);have aa:(MW[b].length+1)*lE<=1000000*1000:=Nat.mul_le_mul (by omega) N
 let⟨n,c,e1,X,J,l1⟩:=R.append (lE:=lE) (ys:=[y]) hx ⟨w,[],by simp,E.fh (λl hl=>eE _ (H.fl l hl)) L,trivial⟩ (by rw[E.len L];simp) (E.one L) (by simp) hz (λl hl=>wBV (H.fl l hl)) (by simp;omega) (by simp;omega)
 have n1:(h.new (.cells IZ E.sz true ro w)).next=h.next+1:=rfl;have D:∀l,Loc n l->Loc d l\/h.next<=l:=by grind
 have p:t<c.next:=by have:=J.next;omega
 have gt:c.get t=some (.cells T8 1 true false ds):=by rw[J.fh t (by omega) (P d C),eE _ A];exact h4
 have K:=Ox (o:=b*1) gt (by omega) X.one;rw[Nat.mul_one]at K;have T:¬Loc n t:=by grind
 have cg:lU (JM E T8 ty MW (.slice t 0 MW.length) ds).oJ h (c.put t (.cells T8 1 true false (ds.set b n))):=by
  refine(((lU.new h _).zaR λ_ _ h=>h).trans' (by omega) λl _ hl=> .inr ⟨d,C,hl⟩).trans' (lU.put (S:=λl=>l=t) _ rfl p) λl _ e=> .inl e.symm
 have g:∀{j:Nat} {e:V},(ds.set b n)[j]? =some e->(j=b/\e=n)\/(j≠b/\ds[j]? =some e):=by grind
 have q:∀{j:Nat} {e:V},ds[j]? =some e->∀l,Loc e l->l<h.next:=λ{j e} a l hl=>by
  have ab:=(kE.1 a).1;exact((O j _ e (iz (by omega)) a).xN hl).2.1
 refine⟨t,d,n,c,c.put t (.cells T8 1 true false (ds.set b n)),hd,A,?_,?_,e1,J.next,by simp_all,jv _,H.Bm hi cg ?_ ?_⟩
 ·simp_all[wx,HP]
 ·rw[Nat.mul_one];grind[j5]
 ·refine ⟨t,by simp,p,B,fT _ p,by simp[h5],λj x e r a=>?_,λe a=>?_,λj k e f Y a Z l hl s=>?_⟩
  ·rcases g a with⟨rfl,rfl⟩|⟨m,a⟩
   ·rw[OY W]at r;obtain rfl:=Option.some.inj r;exact X.fh (by grind[gi]) (by grind[gi]) (jv _)
   ·rw[QI λe=>m e.symm]at r;have U:=oR.2 ⟨j,a⟩;refine(O j x e r a).fh (λl hl=>?_) (λl hl=>?_) (by have:=J.next;show h.next<=c.next;omega)
    ·rw[gi _ p λe=>B (e▸hl),J.fh l (wBV (H.fl l hl)) λG=>(Q.xN G).2.2 hl,eE _ (H.fl l hl)]
    ·have OM:=q a l hl;rw[gi _ p λe'=>P e U (e'▸hl),J.fh l (by omega) λG=>M j b e d m a hd l hl G,eE _ OM]
  ·let⟨j,m⟩:=oR.1 a
   rcases g m with⟨_,rfl⟩|⟨_,m⟩
   ·exact T
   ·exact P e (oR.2 ⟨j,m⟩)
  ·rcases g a with⟨e1,e2⟩|⟨m,I⟩
   ·rcases g Z with⟨K,_⟩|⟨hk,u⟩
    ·exact Y (e1.trans K.symm)
    ·subst e1 e2;rcases D l hl with z|z
     ·exact M k j f d hk u hd l s z
     ·have:=q u l s;omega
   ·rcases g Z with⟨K,e4⟩|⟨hk,u⟩
    ·subst K e4;rcases D l s with z|z
     ·exact M j k e d m I hd l hl z
     ·have:=q I l hl;omega
    ·exact M j k e f Y I u l hl s
 ·intro l hl;rcases hl with hl|⟨e,a,hl⟩
  ·exact .inl (.inl hl)
  ·let ⟨j,m⟩:=oR.1 a
   rcases g m with⟨_,rfl⟩|⟨_,m⟩
   ·rcases D l hl with z|z
    ·exact .inl (.inr ⟨d,C,z⟩)
    ·exact .inr z
   ·exact .inl (.inr ⟨e,oR.2 ⟨j,m⟩,hl⟩)
theorem ej.za0(H:ej F h cs)(i:Nat)(hi:cs[i]? =some (JM E T8 ty MW v ds)):∃F',ej F' h (cs.set i emp)/\Sn F h F' h/\iH (eL E) F' h MW v:=by
 have a:=H.ok i _ hi
 let⟨b,c⟩:=H.zbH (p:=emp) (F':=λl=>F l\/(JM E T8 ty MW v ds).oJ l) hi (lU.refl _ _) (by simp_all) (by grind) trivial λ_ h=>h.elim
 refine⟨_,b,c,?_⟩;obtain⟨t,rfl,m,n,e,f,g,o,q⟩:=a;refine .inr ⟨t,0,T8,true,false,ds,rfl,.inr (.inl rfl),e,.inr rfl,Ll _,?_⟩;rw[wBL];exact Si f λj x d k hd=>(g j x d k hd).slR (by simp_all) λl hl=> .inr (.inr ⟨d,oR.2 ⟨j,hd⟩,hl⟩)
end
def jZ(u:U)(i j b:Nat):List Nat:=nw (u.blocks.take i) 0 b++(match u.blocks[i]? with
 |some B=>((B.next.take j).filter (·= b)).map λ_=>i
 |none=>[])
theorem Ry(u:U)(b:Nat):jZ u 0 0 b=[]:=by
 grind[jZ,nw]
theorem Ra{u:U}{i j b t:Nat}{B:Bk}(a:u.blocks[i]? =some B)(c:B.next[j]? =some t):jZ u i (j+1) b=if b=t then jZ u i j b++[i] else jZ u i j b:=by
 unfold jZ;rw[a];obtain⟨d,rfl⟩:=kE.1 c;simp only[Nt d,List.filter_append]
 grind
theorem RK{u:U}{i b:Nat}{B:Bk}(a:u.blocks[i]? =some B):jZ u (i+1) 0 b=jZ u i B.next.length b:=by
 unfold jZ;obtain⟨hi,rfl⟩:=kE.1 a;rw[ Nt hi,Ad];have hl:(u.blocks.take i).length=i:=by rw[Rh];omega
 simp[ HP]
 grind[nw]
theorem qq(u:U)(b:Nat):jZ u u.blocks.length 0 b=Un.ahead u b:=by
 simp_all[jZ,Un.ahead]
theorem ql{u:U}(g:Good u){i j b:Nat}(hi:i<=u.blocks.length)(f:j<=2):(jZ u i j b).length<=2*i+2:=by
 have c:∀i,i<=u.blocks.length->(nw (u.blocks.take i) 0 b).length<=2*i:=by
  intro i
  induction i with
  |zero=>grind[nw]
  | succ i d=>
    intro hi;have a:i<u.blocks.length:=by omega
    rw[Nt a,Ad];have:=d (by omega);have e:u.blocks[i]? =some u.blocks[i]:=by simp_all
    have k:(u.blocks[i]).next.length<=2:=by
      rcases g.fin i _ e with⟨_,h⟩|⟨_,h,_⟩|⟨_,h,_⟩
      ·omega
      ·omega
      ·simp_all
    grind[nw]
 grind[jZ,oQ]
section
variable{F F':Nat->Prop}{h h':Hp}{cs:List Pc}{Q:fo}{u:U}{vv vb vs:V}
theorem TW(g:Good u)(U:ej F h cs)(x:Is F h u vv vb vs)(H:∀F' h' v,Sn F h F' h'->ej F' h' cs->iH (eL eN) F' h' ((List.range u.blocks.length).map (Un.ahead u)) v->Q v h') :
  cP CS xY [.agg (uC u vv vb vs)] h Q:=by
 refine TX rfl rfl ?_;unfold LM;have nb:=g.nb;refine rL U x.one λo L s1=>?_;refine ec (by rfl) (ec (L.ld 0 rfl rfl) (ec (x.since s1).b.len ?_));rw[pC rfl (by decide) (by omega),fI];obtain⟨A,M⟩:=L.zaY u.blocks.length;have C:List.replicate u.blocks.length ([]:List Nat)=(List.range u.blocks.length).map (jZ u 0 0):=by
  refine List.ext_getElem (by simp) λi o V=>?_;simp[Ry]
 rw[C]at A;refine ec (by rfl) (ec (A.ld 1 rfl rfl) (ec (x.since (s1.trans M)).b.len ?_))
 refine Ob (λk p a f m h'=>∃i ds,p = .slice o.next 0 u.blocks.length/\a=vb/\f = .I u.blocks.length/\m = .I (i:Nat)/\i+k=u.blocks.length/\Sn F h F h'/\
  ej F h' (JM eN jE fw ((List.range u.blocks.length).map (jZ u i 0)) (.slice o.next 0 u.blocks.length) ds::cs)) ?_ (k:=u.blocks.length)
  ⟨0,_,rfl,rfl,rfl,rfl,by omega,s1.trans M,(A.forget (i:=1) rfl)|> λH=>by
    exact ⟨H.fl,λi c hc=>by
      cases i with
      |zero=>exact H.ok 0 c hc
      |succ i=>exact H.ok (i+2) c hc,λi j c d hc hd hn=>by
      cases i with
      | zero=>
        cases j with
        |zero=>omega
        |succ j=>exact H.Kv 0 (j+2) c d hc hd (by omega)
      | succ i=>
        cases j with
        |zero=>exact H.Kv (i+2) 0 c d hc hd (by omega)
        |succ j=>exact H.Kv (i+2) (j+2) c d hc hd (by omega)⟩⟩
 rintro k p a f m W ⟨i,ds,rfl,D,rfl,rfl,hk,E,N⟩;subst a;unfold Fi;by_cases hi:i<u.blocks.length;rotate_left
 ·refine iY ?_;obtain rfl:i=u.blocks.length:=by omega
  let⟨X,y,z,r4⟩:=N.za0 0 rfl
  have e:(List.range u.blocks.length).map (jZ u u.blocks.length 0)=(List.range u.blocks.length).map (Un.ahead u):=by
   refine(by grind[List.map_congr_left,qq])
  rw[e]at r4;exact H X W _ (E.trans z) y.tail r4
 refine gU ?_;obtain⟨B,G⟩:∃B,u.blocks[i]? =some B:=by simp_all
 let⟨l7,o7,bv,bn,bp,_,Y,Z,iv,q,ip,_⟩:=(x.since E).AA G
 have aa:B.next.length<=2:=by
  rcases g.fin i _ G with⟨_,h⟩|⟨_,h,_⟩|⟨_,h,_⟩
  ·omega
  ·omega
  ·simp_all
 refine ec Y (ec Z ?_);refine lM N rfl rfl (by simp only[rr,fe,iv.one,q.one,ip.one];rfl) λh4 y z=>?_;have q:=q.since z;refine ec (by rfl) (ec (y.ld 0 rfl rfl) (ec q.len ?_))
 refine Ol (λk p O a f m n r s h'=>∃j ds,p = .slice o.next 0 u.blocks.length/\O = .I i/\a=vb/\f = .I u.blocks.length/\m = .I i/\n=bn/\r = .I B.next.length/\s = .I (j:Nat)/\
  j+k=B.next.length/\Sn F h4 F h'/\ej F h' (JM eN jE fw ((List.range u.blocks.length).map (jZ u i j)) (.slice o.next 0 u.blocks.length) ds::cs)) ?_ (k:=B.next.length)
  ⟨0,ds,rfl,rfl,rfl,rfl,rfl,rfl,rfl,rfl,by omega,Sn.refl _ _,y.tail⟩
 rintro k1 p O a f m n r s P ⟨j,t,rfl,rfl,D,rfl,rfl,ab,rfl,rfl,ac,I,R⟩;subst a n;unfold EP;by_cases hj:j<B.next.length;rotate_left
 ·refine iY ?_;obtain rfl:j=B.next.length:=by omega
  refine gf ⟨k-1,by omega,i+1,t,rfl,rfl,rfl,rfl,by omega,(E.trans z).trans I,?_⟩;have e:(List.range u.blocks.length).map (jZ u (i+1) 0)=(List.range u.blocks.length).map (jZ u i B.next.length):=by grind[List.map_congr_left,RK]
  grind
 refine gU ?_
 let⟨l8,o8,_,j1,j2⟩:=(q.since I).nat (iz hj) .i64
 have J:B.next[j]<u.blocks.length:=g.nx i _ (by grind[next,Dg]);have S:=R.zbs 0 rfl;rw[XS,List.length_range]at S;refine ec j1 (ec j2 (ec S ?_));refine Ax (gh (gN (by simp_all) ?_));have w:B.next[j]<((List.range u.blocks.length).map (jZ u i j)).length:=by simpa using J
 obtain ⟨l,d,T,h6,h7,hd,hl,e1,e2,e3,e4,e5,e6,H7,s7⟩:=R.zbM 0 rfl w (lE:=8) rfl (by decide) (by decide) (by
  grind[ql])
 refine ec e1 (ec e2 ?_);rw[DG,fI];have K:eQ 3 1 8 d (.slice P.next 0 1) (P.new (.cells 3 1 true false (nD [i])))=some (.val T h6):=e3;rw[K,eh];refine ec e1 ?_;rw[e5,eh];refine Mi ?_;unfold Em;refine gf ⟨k1-1,by omega,j+1,t.set (B.next[j]) T,rfl,rfl,rfl,rfl,rfl,rfl,rfl,rfl,by omega,I.trans s7,?_⟩;have e:((List.range u.blocks.length).map (jZ u i j)).set (B.next[j]) (((List.range u.blocks.length).map (jZ u i j))[B.next[j]]'w++[i])=(List.range u.blocks.length).map (jZ u i (j+1)):=by
  refine List.ext_getElem (by simp) λb o V=>?_;rw[List.getElem_set];simp[List.getElem_map,List.getElem_range];rw[Ra G (iz hj)];by_cases eb:B.next[j]=b
  ·simp_all
  ·grind
 simp_all
end
