/- Parts. -/
import Derived.Test.YtflkbfabonggkaaGreatDoorM24
import Derived.KernelRfl
set_option maxHeartbeats 4000000
namespace Go.Proofs.YtflkbfabonggkaaGreatDoor.Hx
open Un Dm
def pre(u:U)(b:Nat):List Nat:=(u.blocks.take b).flatMap (·.ef)
theorem Gg{u:U}{b:Nat}{B:Bk}(a:u.blocks[b]? =some B):pre u (b+1)=pre u b++B.ef:=by
 unfold pre;obtain⟨c,rfl⟩:=jP.1 a
 grind[N6]
theorem J9{u:U}{b v:Nat}:v∈pre u b↔∃c k,At u v c k/\c<b:=by
 unfold pre At;simp only[Xq];constructor
 ·grind[mQ]
 ·rintro⟨c,k,⟨B,a,d⟩,e⟩;refine⟨B,mQ.2 ⟨c,?_⟩,by grind⟩
  simp_all
theorem IK{u:U}(g:Good u){b:Nat}{B:Bk}(a:u.blocks[b]? =some B):B.ef.Nodup:=by
 rw[List.nodup_iff_pairwise_ne,wBA];intro i j hi c d e;have f:At u (B.ef[i]) b i:=⟨B,a,gW hi⟩
 have h:At u (B.ef[i]) b j:=⟨B,a,by rw[e];exact gW c⟩
 have:=(g.Ju _ _ _ _ _ f h).2;omega
theorem Ho{u:U}(g:Good u):∀b,(pre u b).Nodup
 |0=>by simp[pre]
 | b + 1=>by
   by_cases hb:b<u.blocks.length
   ·have a:=gW hb
    rw[Gg a,wBv];refine⟨Ho g b,IK g a,λv d w f e=>?_⟩;subst e;obtain⟨c,k,h,l⟩:=J9.1 d;obtain⟨j,i⟩:=mQ.1 f;have:=(g.Ju _ _ _ _ _ h ⟨_,a,i⟩).1;omega
   ·have:pre u (b+1)=pre u b:=by
      unfold pre;rw[ZU (by omega),ZU (by omega)]
    rw[this];exact Ho g b
theorem Mj{u:U}(g:Good u):(pre u u.blocks.length).length=u.ef.length:=by
 refine Nat.le_antisymm (jj _ _ (Ho g _) λv hv=>?_) ?_
 ·obtain⟨c,k,a,_⟩:=J9.1 hv;exact g.jE _ _ _ a
 ·have a:(List.range u.ef.length).length=u.ef.length:=Tz;rw[<-a];refine sub_le _ _ wBa λv hv=>?_;rw[TZ]at hv;obtain⟨b,k,d⟩:=g.Fi v hv trivial;refine J9.2 ⟨b,k,d,?_⟩;obtain⟨B,e,_⟩:=d
  grind
structure Std (u:U) (b k:Nat) (bl pl:List Int):Prop where
 nb:bl.length=u.ef.length
 np:pl.length=u.ef.length
 yes:∀(v c j:Nat),At u v c j->(c<b\/(c=b/\j<k))->bl[v]? =some (c:Int)/\pl[v]? =some (j:Int)
 no:∀(v c j:Nat),At u v c j->¬(c<b\/(c=b/\j<k))->bl[v]? =some (-1)
theorem Std.step{u:U}{b k:Nat}{bl pl:List Int}(g:Good u)(S:Std u b k bl pl){v:Nat}(hv:At u v b k):Std u b (k+1) (bl.set v (b:Int)) (pl.set v (k:Int)):=by
 have d:=g.jE _ _ _ hv;refine⟨by simp[S.nb],by simp[S.np],λw c j a hc=>?_,λw c j a hc=>?_⟩
 ·by_cases e:w=v
  ·subst e;obtain⟨rfl,rfl⟩:=g.Ju _ _ _ _ _ a hv;rw[O9 (by rw[S.nb];exact d),O9 (by rw[S.np];exact d)]
   simp_all
  ·rw [Kk (by omega),Kk (by omega)];refine S.yes w c j a ?_;rcases hc with h|⟨rfl,h⟩
   ·omega
   ·refine .inr ⟨rfl,?_⟩;rcases Te j k with f|f
    ·exact f
    ·exfalso;obtain rfl:j=k:=by omega
     obtain⟨B,i,l⟩:=a;obtain⟨m,n,o⟩:=hv
     simp_all
 ·have e:w≠v:=λe=>by
   subst e;obtain⟨rfl,rfl⟩:=g.Ju _ _ _ _ _ a hv;omega
  rw[Kk (by omega)];exact S.no w c j a (by omega)
theorem Std.next{u:U}{b:Nat}{bl pl:List Int}{B:Bk}(g:u.blocks[b]? =some B)(S:Std u b B.ef.length bl pl):Std u (b+1) 0 bl pl:=by
 have f:∀v c j,At u v c j->((c<b\/(c=b/\j<B.ef.length))↔(c<b+1\/(c=b+1/\j<0))):=by
  intro v c j hv;constructor
  ·omega
  ·intro h;by_cases e:c=b
   ·subst e;obtain⟨i,a,d⟩:=hv
    grind
   ·omega
 exact⟨S.nb,S.np,λv c j a d=>S.yes v c j a (by grind),λv c j a d=>S.no v c j a (by omega)⟩
theorem XF:P0.underlying jD=some .bool:=by kernel_rfl
theorem WU(a b:Bool):en .neq jD (.bool a) (.bool b)=some (.bool (a != b)):=by
 show Ww jD true (.bool a) (.bool b)=_;unfold Ww zcS YJ;rw[XF];rfl
section
variable{F F':Nat->Prop}{h h':Hp}{cs:List Pc}{Q:ft}{u:U}{vv vb vs:V}{lc:Nat}{bl pl GL:V}
theorem X8(g:Good u){ty:Nat}(H0:ej F h (ev lc ty [.I u.func,.I u.pc,vv,vb,vs,bl,pl,GL]::cs))(s:DA F h u vv vb vs)
  (H:∀F' h' b' p' xs ys,Sn F h F' h'->ej F' h' (ev lc ty [.I u.func,.I u.pc,vv,vb,vs,b',p',GL]::cs)->iy eZ F' h' xs b'->iy eZ F' h' ys p'->Std u u.blocks.length 0 xs ys->Q (.bool true) h') :
  cP CS oD [.ptr lc 0] h Q:=by
 refine Ht rfl rfl ?_;unfold zu;have nv:=g.nv;have nb:=g.nb;have aR:lc<h.next:=(H0.ok 0 _ rfl).2.1;refine ed (fQ _ _) (ed (by rfl) (ed (by rfl) (ed (H0.ld 0 rfl rfl) (ed s.v.len ?_))));rw[kr (z:=V.I 0) rfl (by decide) (by omega),gR];obtain⟨H1,s1⟩:=H0.make (E:=eZ) (ty:=eo) (y:=0) (u:=V.I 0) u.ef.length rfl rfl;have n1:(h.new (.cells eo 1 true false (List.replicate u.ef.length (V.I 0)))).next=h.next+1:=rfl;have g1:(h.new (.cells eo 1 true false (List.replicate u.ef.length (V.I 0)))).get h.next=_:=fg _ _;show oP (gY (.ptr lc 0)) _;generalize al:h.new (.cells eo 1 true false (List.replicate u.ef.length (V.I 0)))=a at*;refine ed (fQ _ _) (ed (by rfl) (ed (by rfl) (ed (H1.ld 1 rfl rfl) (ed (s.since s1).v.len ?_))));rw[kr (z:=V.I 0) rfl (by decide) (by omega),gR];obtain⟨H2,s2⟩:=H1.make (E:=eZ) (ty:=eo) (y:=0) (u:=V.I 0) u.ef.length rfl rfl;have g2:(a.new (.cells eo 1 true false (List.replicate u.ef.length (V.I 0)))).get a.next=_:=fg _ _;have am:=(fj (h:=a) (.cells eo 1 true false (List.replicate u.ef.length (V.I 0))) (l:=h.next) (by omega)).trans g1;have n2:(a.new (.cells eo 1 true false (List.replicate u.ef.length (V.I 0)))).next=a.next+1:=rfl;show oP (gY (.ptr lc 0)) _;generalize an:a.new (.cells eo 1 true false (List.replicate u.ef.length (V.I 0)))=h2 at*;refine ed (fQ _ _) (ed (by rfl) ⟨by simp_all,H2.ld 2 rfl rfl,by simp_all,H2.ld 2 rfl rfl,?_⟩);obtain⟨h3,e3,n3,H3,s3,k3⟩:=H2.stk 2 (o:=5) (u:= .slice h.next 0 u.ef.length) rfl (by simp) rfl;rw[show V.ptr lc (0+5)=V.ptr lc 5 from rfl,e3,ei];refine⟨n3,ed (fQ _ _) (ed (by rfl) ⟨by grind[trans,O.kF],?_⟩)⟩;simp only[mA,je]at H3;obtain⟨h4,e4,n4,H4,s4⟩:=H3.st 2 (o:=6) (u:= .slice a.next 0 u.ef.length) rfl (by simp) rfl;rw[show V.ptr lc (0+6)=V.ptr lc 6 from rfl,e4,ei];refine⟨n4,?_⟩;simp only[mA,je]at H4;have aS:=((s1.trans s2).trans s3).trans s4;clear e3 e4 k3 g1 am g2 H1 H2 H3 s1 s2 s3 s4 al an;generalize V.slice a.next 0 u.ef.length=vp at*;generalize V.slice h.next 0 u.ef.length=vq at*;have lq:=H4.len 1 (xs:=List.replicate u.ef.length (0:Int)) rfl;rw[W9]at lq;refine ed (fQ _ _) (ed (by rfl) (ed (H4.ld 2 rfl rfl) (ed lq ?_)))
 refine Ez (λk t K L h'=>∃(i:Nat) (xs:List Int),t = .ptr lc 0/\K = .I u.ef.length/\L = .I i/\i+k=u.ef.length/\xs.length=u.ef.length/\(∀j,j<i->xs[j]? =some (-1))/\Sn F h F h'/\
  ej F h' (eJ eZ eo (List.replicate u.ef.length (0:Int)) vp::eJ eZ eo xs vq::ev lc ty [.I u.func,.I u.pc,vv,vb,vs,vq,vp,GL]::cs)) ?_ (k:=u.ef.length)
  (by grind)
 rintro k t K L h5 ⟨i,xs,rfl,rfl,rfl,hk,ao,hm,s5,H5⟩;unfold wA;by_cases hi:i<u.ef.length
 ·refine gG ?_;obtain⟨l6,o6,h6,e6,e7,n6,J,C⟩:=H5.Jj 1 rfl (k:=i) (y:=(-1:Int)) (u:=V.I (-1)) (by omega) rfl rfl rfl;refine ed (fQ _ _) (ed (by rfl) (ed (H5.ld 2 rfl rfl) (ed e6 ?_)));rw[e7,ei];simp only[mA,je]at J;refine fL ⟨k-1,by omega,i+1,xs.set i (-1),rfl,rfl,rfl,by omega,by simp_all,λj hj=>?_,s5.trans C,J⟩
  grind
 refine iJ ?_;refine ed (fQ _ _) (ed (by rfl) (ed (by rfl) (ed (H5.ld 2 rfl rfl) (ed (s.since s5).b.len ?_))));have S0:Std u 0 0 xs (List.replicate u.ef.length (0:Int)):=⟨ao,by simp,by omega,λv c j a _=>hm v (by have:=g.jE _ _ _ a;omega)⟩
 refine Ep (λk t M d f m h'=>∃(b:Nat) (xs ys:List Int),t = .ptr lc 0/\M = .I ((pre u b).length:Nat)/\d=vb/\f = .I u.blocks.length/\m = .I b/\b+k=u.blocks.length/\Std u b 0 xs ys/\Sn F h F h'/\
  ej F h' (eJ eZ eo ys vp::eJ eZ eo xs vq::ev lc ty [.I u.func,.I u.pc,vv,vb,vs,vq,vp,GL]::cs)) ?_ (k:=u.blocks.length)
  ⟨0,xs,_,rfl,rfl,rfl,rfl,rfl,by omega,S0,s5,H5⟩
 rintro k1 t M d f m h6 ⟨b,ap,aq,rfl,rfl,ar,rfl,rfl,aT,S1,C,J⟩;subst d;unfold xx;by_cases hb:b<u.blocks.length;rotate_left
 ·refine iJ ?_;obtain rfl:b=u.blocks.length:=by omega
  refine ed (fQ _ _) (ed (by rfl) (ed (by rfl) (ed (J.ld 2 rfl rfl) (ed (s.since C).v.len (gZ ?_)))));rw[Mj g,Kt rfl];obtain⟨N,P,r7⟩:=J.jI 0 rfl;simp only[mA,je]at N;obtain⟨n,p,r8⟩:=N.jI 1 rfl;simp only[mA,je]at n;exact H _ _ _ _ _ _ ((C.trans P).trans p) n.tail.tail r8 (r7.since p) S1
 refine gG ?_;obtain⟨B,D⟩:∃B,u.blocks[b]? =some B:=by simp_all
 obtain ⟨l7,o7,bv,bn,bp,_,i1,i2,R,iN,ip,_⟩:=(s.since C).nf D;refine ed i1 (ed i2 ?_);refine ir J rfl rfl (by simp only[kI,ey,R.one,iN.one,ip.one];rfl) λh7 N P=>?_;have R:=R.since P;refine ed (by rfl) (ed (N.ld 0 rfl rfl) (ed R.len ?_));have aU:(pre u b).length<=u.ef.length:=by
  rw[<-Mj g];unfold pre;have:u.blocks.take b <+: u.blocks:=List.take_prefix _ _;obtain⟨r,hr⟩:=this
  conv=>rhs;rw[JC,<-hr,List.flatMap_append,Ji]
  omega
 have aP:(pre u b).length+B.ef.length<=u.ef.length:=by
  rw[<-Ji,<-Gg D];rw[<-Mj g];unfold pre;have:u.blocks.take (b+1) <+: u.blocks:=List.take_prefix _ _;obtain⟨r,hr⟩:=this
  conv=>rhs;rw[JC,<-hr,List.flatMap_append,Ji]
  omega
 refine El (λk t M x5 x7 d f m G S T h'=>∃(j:Nat) (fst:Bool) (xs ys:List Int),t = .ptr lc 0/\M = .I (((pre u b).length+j:Nat):Int)/\x5 = .I b/\x7 = .bool fst/\d=vb/\f = .I u.blocks.length/\m = .I b/\
  G=bv/\S = .I B.ef.length/\T = .I j/\j+k=B.ef.length/\(fst=true\/∃v w x,At u v b (j-1)/\0<j/\w=v/\u.ef[v]? =some x/\hZ x.op=false)/\Std u b j xs ys/\Sn F h F h'/\
  ej F h' (eJ eZ eo ys vp::eJ eZ eo xs vq::ev lc ty [.I u.func,.I u.pc,vv,vb,vs,vq,vp,GL]::cs)) ?_ (k:=B.ef.length)
  ⟨0,true,ap,aq,rfl,rfl,rfl,rfl,rfl,rfl,rfl,rfl,rfl,rfl,by omega,.inl rfl,S1,C.trans P,N.tail⟩
 rintro k2 t M x5 x7 d f m G S T U ⟨j,fst,I,W,rfl,rfl,rfl,rfl,ar,rfl,rfl,aV,rfl,rfl,aW,X,S2,p,n⟩;subst d G;unfold wU;by_cases hj:j<B.ef.length;rotate_left
 ·refine iJ ?_;obtain rfl:j=B.ef.length:=by omega
  refine fL ⟨k1-1,by omega,b+1,I,W,rfl,?_,rfl,rfl,rfl,by omega,S2.next D,p,n⟩;rw[Gg D,Ji]
 refine gG ?_;have e:At u (B.ef[j]) b j:=⟨B,D,gW hj⟩
 have Y:=g.jE _ _ _ e;obtain⟨x,Z⟩:∃x,u.ef[B.ef[j]]? =some x:=by simp_all
 have au:iy eN F U B.ef bv:=by
  obtain ⟨l7,o7,aX,aY,aZ,_,a4,a5,a6,_⟩:=(s.since p).nf D;have e1:l7=l7:=rfl;exact((by omega)|> λ_=>(by
   have hk:∀l,F l->U.get l=h7.get l:=λl hl=>(p.fh l hl).trans ((C.trans P).fh l hl).symm;exact R.fh hk))
 obtain ⟨l9,o9,_,j1,j2⟩:=au.nat (gW hj) .i64;refine ed j1 (ed j2 (ed (fQ _ _) (ed (by rfl) (ed (by rfl) (ed (n.ld 2 rfl rfl) (ed (s.since p).v.len ?_))))));refine AS ?_;rw[Kt Y];refine ed rfl ?_;have aw:=S2.no _ _ _ e (by omega);obtain⟨A,aQ⟩:=jP.1 aw;obtain⟨lb,ob,ub,b1,b2,b3⟩:=n.Vc 1 rfl (k:=B.ef[j]) A .i64 rfl;obtain rfl:ub = .I (-1):=by
  have:[ub]=[V.I I[B.ef[j]]]:=b3
  simp_all
 have eA:nP (.bool (!true)) (oB (some (V.ptr lc 0)) λax=>oB (gY ax) λay=>oB (fH 5 ay) λaA=>oB (ez aA U) λaB=>oB (some (V.I (B.ef[j]:Nat))) λaC=>oB (gz 1 aB aC) λaD=>oB (ez aD U) λaE=>en .geq 3 aE (V.I 0))=some (.bool false):=by
  have l5:ez (.ptr lc (0+5)) U=some vq:=n.ld 2 rfl rfl;simp only[wB5,mF,fe,fQ,fT,l5,b1,b2,nM];rfl
 refine ed eA (iO (fU (by simp) ?_));obtain⟨lv,ov,wv,_,c1,_,_,cv⟩:=(s.since p).val Z;refine ed (fQ _ _) (ed (by rfl) (ed (by rfl) (ed (n.ld 2 rfl rfl) (ed c1 (ed (by rfl) (ed cv.op ?_))))));refine ed (by rfl) ?_;have eH:nP (.bool ((x.op:Int) == 21)) (oB (some (V.I x.op)) λaF=>en .eql 3 aF (V.I 1))=some (.bool (hZ x.op)):=by
  simp only[fe,ik,pH];unfold hZ;rw[show((x.op:Int) == 21)=(x.op == 21) from ieq _ 21,show((x.op:Int) == 1)=(x.op == 1) from ieq _ 1,Bool.or_comm]
 refine ed eH ?_;have a7:hZ x.op=true->fst=true:=by
  intro q;rcases X with a|⟨v,w,y,a,h2,rfl,h3,h4⟩
  ·exact a
  ·exfalso;have h5:=g.B4 (B.ef[j]) w b (j-1) x y (by grind) a Z h3 q
   simp_all
 have aG:jO (.bool (hZ x.op)) (oB (some (V.bool fst)) λaa=>pt .not aa)=some (.bool false):=by
  cases q:hZ x.op with
  |false=>rfl
  |true=>simp_all
 refine ed aG ?_;have a8:hZ x.op=true->((x.op:Int) == 1)=((b:Int) == 0):=by
  intro q;unfold hZ at q;simp only[PV,HR]at q;rw[show((x.op:Int) == 1)=(x.op == 1) from ieq _ 1,show((b:Int) == 0)=(b == 0) from ieq _ 0];rcases q with a|a
  ·rw[g.par _ _ _ _ e Z a,a];rfl
  ·have:=(g.CJ _ _ _ _ _ e Z a D).1
   simp_all
 have eM:nP (.bool false) (oB (some (V.I x.op)) λab=>oB (en .eql 3 ab (V.I 1)) λac=>oB (some (V.I b)) λae=>oB (en .eql 3 ae (V.I 0)) λag=>oB (en .neq 4 ac ag) λah=>oB (some ah) λai=>jO ai (some (V.bool (hZ x.op))))=some (.bool false):=by
  simp only[mF,fe,ik,WU,jc]
  cases q:hZ x.op with
  |false=>simp
  |true=>simp_all
 refine ed eM (iO (fU (by simp) ?_));obtain⟨l10,a9,ba,aH,aI,aJ,aj,aK⟩:=n.Jj 1 rfl (k:=B.ef[j]) (y:=(b:Int)) (u:=V.I b) A rfl rfl rfl;simp only[mA,je]at aj;refine ed (fQ _ _) (ed (by rfl) (ed (n.ld 2 rfl rfl) (ed (fQ _ _) (ed (by rfl) (ed (n.ld 2 rfl rfl) (ed aH ?_))))));rw[aI,ei];obtain⟨l12,bb,bc,aL,aM,aN,ak,aO⟩:=aj.Jj 0 rfl (k:=B.ef[j]) (y:=(j:Int)) (u:=V.I j) (by rw[S2.np];exact Y) rfl rfl rfl;simp only[mA,je]at ak;refine⟨aJ,ed aL ?_⟩;rw[aM,ei];refine⟨aN,fL (fL ?_)⟩;refine⟨k2-1,by omega,j+1,hZ x.op,I.set (B.ef[j]) (b:Int),W.set (B.ef[j]) (j:Int),rfl,?_,rfl,rfl,rfl,rfl,rfl,rfl,rfl,rfl,by omega,?_,S2.step g e,(p.trans aK).trans aO,ak⟩
 ·rfl
 ·cases q:hZ x.op with
  |true=>simp_all
  |false=>exact .inr ⟨_,_,x,e,by omega,rfl,Z,q⟩
end
open Un Dm
def FY{α:Type}(E:p8 α)(Rz ty:Nat)(Kh:List (List α))(v:V)(ds:List V):Pc where
 ma:=λl=>Loc v l\/∃d∈ds,Loc d l
 ok F h:=∃t,v = .slice t 0 Kh.length/\t<h.next/\¬F t/\h.get t=some (.cells Rz 1 true false ds)/\ds.length=Kh.length/\(∀(i:Nat) x d,Kh[i]? =some x->ds[i]? =some d->kQ E ty F h x d)/\(∀d∈ds,¬Loc d t)/\
  ∀(i j:Nat) (d e:V),i≠j->ds[i]? =some d->ds[j]? =some e->∀l,Loc d l->¬Loc e l
 Oa:=λ⟨t,f,g,o,p,k,b,m,n⟩ l a=>by
  rcases a with a|⟨d,c,a⟩
  ·simp_all
  ·obtain⟨i,hi⟩:=mQ.1 c;have u:=(jP.1 hi).1;exact((b i _ d (gW (by omega)) hi).we a).2
 fh:=λ{F h h'} ⟨t,f,g,o,p,k,b,m,n⟩ q a s=>by
  refine⟨t,f,EL g s,o,by simp_all,k,λi x d r c=>?_,m,n⟩;exact(b i x d r c).fh q (by grind) s
 mono:=λ{F F' h} ⟨t,f,g,o,p,k,b,m,n⟩ q a=>by
  refine⟨t,f,g,by simp_all,p,k,λi x d r c=>?_,m,n⟩;exact(b i x d r c).mono q (by grind)
theorem SQ{α:Type}{E:p8 α}{F:Nat->Prop}{h:Hp}:∀{Kh:List (List α)}{ds:List V},ds.length=Kh.length->(∀(i:Nat) x d,Kh[i]? =some x->ds[i]? =some d->iy E F h x d)->qb (eL E) F h ds Kh
 |[],_,_,_=>trivial
 |x::Kh,[],h,_=>by simp_all
 |x::Kh,d::ds,hl,H=>⟨[d],ds,rfl,⟨d,rfl,H 0 x d rfl rfl⟩,SQ (by simp_all) λi x d a b=>H (i+1) x d (by simp_all) (by simp_all)⟩
section
variable{F F':Nat->Prop}{h h':Hp}{cs:List Pc}{α:Type}{E:p8 α}{Rz ty:Nat}{Kh:List (List α)}{v:V}{ds:List V}
theorem ej.U8(H:ej F h cs)(n:Nat):ej F (h.new (.cells Rz 1 true false (List.replicate n V.ee))) (FY E Rz ty (List.replicate n []) (.slice h.next 0 n) (List.replicate n V.ee)::cs)/\Sn F h F (h.new (.cells Rz 1 true false (List.replicate n V.ee))):=by
 have c:∀{i:Nat} {d:V},(List.replicate n V.ee)[i]? =some d->d = .ee:=by grind
 refine H.new _ ⟨h.next,by simp,Oy _,H.fresh,fg _ _,by simp,λi x d f b=>?_,λd b=>?_,λi j d e _ b _ l a=>?_⟩ λl a=>?_
 ·obtain rfl:=c b;obtain rfl:x=[]:=by grind
  exact .nil
 ·simp_all
 ·obtain rfl:=c b;exact a.elim
 ·rcases a with a|⟨d,b,a⟩
  ·exact a.symm
  simp_all
theorem ej.zbm(H:ej F h cs)(i:Nat)(hi:cs[i]? =some (FY E Rz ty Kh v ds)):fE v=some (.I Kh.length):=by
 obtain⟨t,rfl,_⟩:=H.ok i _ hi;rfl
theorem ej.US(H:ej F h cs)(i:Nat)(hi:cs[i]? =some (FY E Rz ty Kh v ds)){b:Nat}(Z:b<Kh.length){jW DP:Nat}{y:α}{w:List V}{ro:Bool}(M:E.rel F h y w)(hz:0<E.sz)(P:jW<=1000)(hlen:Kh[b].length<1000000) :
  ∃l d d' A B,ds[b]? =some d/\l<h.next/\gz 1 v (.I b)=some (.ptr l (b*1))/\ez (.ptr l (b*1)) h=some d/\eR ty E.sz jW d (.slice h.next 0 1) (h.new (.cells DP E.sz true ro w))=some (.val d' A)/\h.next+1<=A.next/\
   gI 1 (.ptr l (b*1)) d' A=some (.val .undef B)/\A.next<=B.next/\ej F B (cs.set i (FY E Rz ty (Kh.set b (Kh[b]++[y])) v (ds.set b d')))/\Sn F h F B:=by
 obtain⟨t,rfl,A,B,h4,h5,Q,R,N⟩:=H.ok i _ hi;obtain⟨d,J⟩:∃d,ds[b]? =some d:=by simp_all
 have T:=Q b _ d (gW Z) J;have C:=mQ.2 ⟨b,J⟩;have U:kQ E ty F (h.new (.cells DP E.sz true ro w)) Kh[b] d:=T.fh (λl a=>fj _ (H.fl l a)) (λl a=>fj _ (T.we a).2.1) (O4 _);have hx:lK (h.new (.cells DP E.sz true ro w)) E.sz (.slice h.next 0 1)=some (1,w):=nV (k:=0) (by rw[E.len M];simp);have aa:(Kh[b].length+1)*jW<=1000000*1000:=Nat.mul_le_mul (by omega) P;obtain⟨d',g,O,o1,K,l1⟩:=U.append (jW:=jW) (ys:=[y]) hx ⟨w,[],by simp,E.fh (λl a=>fj _ (H.fl l a)) M,trivial⟩ (by rw[E.len M];simp) (E.one M) (by simp) hz (λl a=>wBt (H.fl l a)) (by simp;omega) (by simp;omega);have n1:(h.new (.cells DP E.sz true ro w)).next=h.next+1:=rfl;have D:∀l,Loc d' l->Loc d l\/h.next<=l:=by grind
 have p:t<g.next:=by have:=K.next;omega
 have gt:g.get t=some (.cells Rz 1 true false ds):=by rw[K.fh t (by omega) (R d C),fj _ A];exact h4
 have L:=MK (o:=b*1) (v:=d') gt (by omega) o1.one;rw[Nat.mul_one]at L;have W:¬Loc d' t:=by grind
 have cg:lN (FY E Rz ty Kh (.slice t 0 Kh.length) ds).ma h (g.put t (.cells Rz 1 true false (ds.set b d'))):=by
  refine(((lN.new h _).X4 λ_ _ h=>h).trans' (by omega) λl _ a=> .inr ⟨d,C,a⟩).trans' (lN.put (S:=λl=>l=t) _ rfl p) λl _ e=> .inl e.symm
 have m:∀{j:Nat} {e:V},(ds.set b d')[j]? =some e->(j=b/\e=d')\/(j≠b/\ds[j]? =some e):=by grind
 have q:∀{j:Nat} {e:V},ds[j]? =some e->∀l,Loc e l->l<h.next:=λ{j e} c l a=>by
  have ab:=(jP.1 c).1;exact((Q j _ e (gW (by omega)) c).we a).2.1
 refine⟨t,d,d',g,g.put t (.cells Rz 1 true false (ds.set b d')),J,A,?_,?_,O,K.next,by simp_all,iZ _,H.DG hi cg ?_ ?_⟩
 ·simp_all[yl,zj]
 ·rw[Nat.mul_one];grind[lE]
 ·refine ⟨t,by simp,p,B,gg _ p,by simp[h5],λj x e r c=>?_,λe c=>?_,λj k e f hn c hf l a s=>?_⟩
  ·rcases m c with⟨rfl,rfl⟩|⟨n,c⟩
   ·rw[O9 Z]at r;obtain rfl:=Option.some.inj r;exact o1.fh (by grind[gB]) (by grind[gB]) (iZ _)
   ·rw[Kk λe=>n e.symm]at r;have X:=mQ.2 ⟨j,c⟩;refine(Q j x e r c).fh (λl a=>?_) (λl a=>?_) (by have:=K.next;show h.next<=g.next;omega)
    ·rw[gB _ p λe=>B (e▸a),K.fh l (wBt (H.fl l a)) λG=>(T.we G).2.2 a,fj _ (H.fl l a)]
    ·have Y:=q c l a;rw[gB _ p λe'=>R e X (e'▸a),K.fh l (by omega) λG=>N j b e d n c J l a G,fj _ Y]
  ·obtain⟨j,n⟩:=mQ.1 c;rcases m n with⟨_,rfl⟩|⟨_,n⟩
   ·exact W
   ·exact R e (mQ.2 ⟨j,n⟩)
  ·rcases m c with⟨O,e2⟩|⟨n,I⟩
   ·rcases m hf with⟨L,_⟩|⟨hk,u⟩
    ·exact hn (O.trans L.symm)
    ·subst O e2;rcases D l a with z|z
     ·exact N k j f d hk u J l s z
     ·have:=q u l s;omega
   ·rcases m hf with⟨L,e4⟩|⟨hk,u⟩
    ·subst L e4;rcases D l s with z|z
     ·exact N j k e d n I J l a z
     ·have:=q I l a;omega
    ·exact N j k e f hn I u l a s
 ·intro l a;rcases a with a|⟨e,c,a⟩
  ·exact .inl (.inl a)
  ·obtain ⟨j,n⟩:=mQ.1 c;rcases m n with⟨_,rfl⟩|⟨_,n⟩
   ·rcases D l a with z|z
    ·exact .inl (.inr ⟨d,C,z⟩)
    ·exact .inr z
   ·exact .inl (.inr ⟨e,mQ.2 ⟨j,n⟩,a⟩)
theorem ej.UX(H:ej F h cs)(i:Nat)(hi:cs[i]? =some (FY E Rz ty Kh v ds)):∃F',ej F' h (cs.set i emp)/\Sn F h F' h/\iy (eL E) F' h Kh v:=by
 have a:=H.ok i _ hi;obtain⟨c,e⟩:=H.zcY (p:=emp) (F':=λl=>F l\/(FY E Rz ty Kh v ds).ma l) hi (lN.refl _ _) (by simp_all) (by grind) trivial λ_ h=>h.elim;refine⟨_,c,e,?_⟩;obtain⟨t,rfl,o,q,f,g,k,r,s⟩:=a;refine .inr ⟨t,0,Rz,true,false,ds,rfl,.inr (.inl rfl),f,.inr rfl,NJ _,?_⟩;rw[ZV];exact SQ g λj x d m b=>(k j x d m b).slR (by simp_all) λl n=> .inr (.inr ⟨d,mQ.2 ⟨j,b⟩,n⟩)
end
def iz(u:U)(i j b:Nat):List Nat:=jQ (u.blocks.take i) 0 b++(match u.blocks[i]? with
 |some B=>((B.next.take j).filter (·= b)).map λ_=>i
 |none=>[])
theorem Jl(u:U)(b:Nat):iz u 0 0 b=[]:=by
 grind[iz,jQ]
theorem Kf{u:U}{i j b t:Nat}{B:Bk}(a:u.blocks[i]? =some B)(c:B.next[j]? =some t):iz u i (j+1) b=if b=t then iz u i j b++[i] else iz u i j b:=by
 unfold iz;rw[a];obtain⟨d,rfl⟩:=jP.1 c;simp only[N6 d,wB3,Ox]
 grind
theorem JR{u:U}{i b:Nat}{B:Bk}(a:u.blocks[i]? =some B):iz u (i+1) 0 b=iz u i B.next.length b:=by
 unfold iz;obtain⟨hi,rfl⟩:=jP.1 a;rw[a,N6 hi,qh];have c:(u.blocks.take i).length=i:=by rw[Mo];omega
 simp only[c,zj,JC]
 grind[jQ]
theorem oZ(u:U)(b:Nat):iz u u.blocks.length 0 b=Un.ahead u b:=by
 simp_all[iz,Un.ahead,JC,VM,iZ]
theorem oW{u:U}(g:Good u){i j b:Nat}(hi:i<=u.blocks.length)(f:j<=2):(iz u i j b).length<=2*i+2:=by
 have c:∀i,i<=u.blocks.length->(jQ (u.blocks.take i) 0 b).length<=2*i:=by
  intro i
  induction i with
  |zero=>grind[jQ]
  | succ i d=>
    intro hi;have a:i<u.blocks.length:=by omega
    rw[N6 a,qh];have:=d (by omega);have e:u.blocks[i]? =some u.blocks[i]:=by simp_all
    have k:(u.blocks[i]).next.length<=2:=by
      rcases g.fin i _ e with⟨_,h⟩|⟨_,h,_⟩|⟨_,h,_⟩
      ·omega
      ·omega
      ·simp_all
    have l:=X6 (λx=>decide (x=b)) (u.blocks[i]).next
    grind[Ji,jQ,DL,wBl]
 grind[iz,Ji,wBl,X6,decide,DL,Mo]
section
variable{F F':Nat->Prop}{h h':Hp}{cs:List Pc}{Q:ft}{u:U}{vv vb vs:V}
theorem Rl(g:Good u)(H0:ej F h cs)(A:DA F h u vv vb vs)(H:∀F' h' v,Sn F h F' h'->ej F' h' cs->iy (eL eN) F' h' ((List.range u.blocks.length).map (Un.ahead u)) v->Q v h') :
  cP CS yL [.agg (uC u vv vb vs)] h Q:=by
 refine SA rfl rfl ?_;unfold Lo;have nb:=g.nb;refine ml H0 A.one λp R G=>?_;refine ed (by rfl) (ed (R.ld 0 rfl rfl) (ed (A.since G).b.len ?_));rw[kr (z:=V.ee) rfl (by decide) (by omega),fx];obtain⟨I,S⟩:=R.U8 (E:=eN) (Rz:=iQ) (ty:=eo) u.blocks.length;have J:List.replicate u.blocks.length ([]:List Nat)=(List.range u.blocks.length).map (iz u 0 0):=by
  refine List.ext_getElem (by simp) λi p h2=>?_;simp[Jl]
 rw[J]at I;refine ed (by rfl) (ed (I.ld 1 rfl rfl) (ed (A.since (G.trans S)).b.len ?_))
 refine MA (λk q a f m h'=>∃(i:Nat) (ds:List V),q = .slice p.next 0 u.blocks.length/\a=vb/\f = .I u.blocks.length/\m = .I i/\i+k=u.blocks.length/\Sn F h F h'/\
  ej F h' (FY eN iQ eo ((List.range u.blocks.length).map (iz u i 0)) (.slice p.next 0 u.blocks.length) ds::cs)) ?_ (k:=u.blocks.length)
  ⟨0,_,rfl,rfl,rfl,rfl,by omega,G.trans S,(I.forget (i:=1) rfl)|> λH=>by
    simp only[mA,je]at H;exact⟨H.fl,λi c hc=>by
      cases i with
      |zero=>exact H.ok 0 c hc
      |succ i=>exact H.ok (i+2) c hc,λi j c d hc C hn=>by
      cases i with
      | zero=>
        cases j with
        |zero=>omega
        |succ j=>exact H.E2 0 (j+2) c d hc C (by omega)
      | succ i=>
        cases j with
        |zero=>exact H.E2 (i+2) 0 c d hc C (by omega)
        |succ j=>exact H.E2 (i+2) (j+2) c d hc C (by omega)⟩⟩
 rintro k q a f m h3 ⟨i,ds,rfl,K,rfl,rfl,hk,L,T⟩;subst a;unfold GK;by_cases hi:i<u.blocks.length;rotate_left
 ·refine iJ ?_;obtain rfl:i=u.blocks.length:=by omega
  obtain ⟨F4,D,s4,U⟩:=T.UX 0 rfl;have e:(List.range u.blocks.length).map (iz u u.blocks.length 0)=(List.range u.blocks.length).map (Un.ahead u):=by
   refine(by grind[Xv,oZ])
  rw[e]at U;exact H F4 h3 _ (L.trans s4) D.tail U
 refine gG ?_;obtain⟨B,M⟩:∃B,u.blocks[i]? =some B:=by simp_all
 obtain ⟨l7,o7,bv,bn,bp,_,i1,i2,iv,r,ip,_⟩:=(A.since L).nf M;have aa:B.next.length<=2:=by
  rcases g.fin i _ M with⟨_,h⟩|⟨_,h,_⟩|⟨_,h,_⟩
  ·omega
  ·omega
  ·simp_all
 refine ed i1 (ed i2 ?_);refine ir T rfl rfl (by simp only[kI,ey,iv.one,r.one,ip.one];rfl) λh4 D s4=>?_;have r:=r.since s4;refine ed (by rfl) (ed (D.ld 0 rfl rfl) (ed r.len ?_))
 refine NY (λk q W a f m n s t h'=>∃(j:Nat) (ds:List V),q = .slice p.next 0 u.blocks.length/\W = .I i/\a=vb/\f = .I u.blocks.length/\m = .I i/\n=bn/\s = .I B.next.length/\t = .I j/\
  j+k=B.next.length/\Sn F h4 F h'/\ej F h' (FY eN iQ eo ((List.range u.blocks.length).map (iz u i j)) (.slice p.next 0 u.blocks.length) ds::cs)) ?_ (k:=B.next.length)
  ⟨0,ds,rfl,rfl,rfl,rfl,rfl,rfl,rfl,rfl,by omega,Sn.refl _ _,D.tail⟩
 rintro k1 q W a f m n s t X ⟨j,x,rfl,rfl,K,rfl,rfl,ab,rfl,rfl,ac,N,Y⟩;subst a n;unfold GC;by_cases hj:j<B.next.length;rotate_left
 ·refine iJ ?_;obtain rfl:j=B.next.length:=by omega
  refine fL ⟨k-1,by omega,i+1,x,rfl,rfl,rfl,rfl,by omega,(L.trans s4).trans N,?_⟩;have e:(List.range u.blocks.length).map (iz u (i+1) 0)=(List.range u.blocks.length).map (iz u i B.next.length):=by grind[Xv,JR]
  grind
 refine gG ?_;obtain⟨l8,o8,_,j1,j2⟩:=(r.since N).nat (gW hj) .i64;have O:B.next[j]<u.blocks.length:=g.nx i _ (by grind[next,AW]);have Z:=Y.zbm 0 rfl;rw[DL,Tz]at Z;refine ed j1 (ed j2 (ed Z ?_));refine AS (iO (gi (by simp_all) ?_));have o:B.next[j]<((List.range u.blocks.length).map (iz u i j)).length:=by simpa using O
 have ae:((List.range u.blocks.length).map (iz u i j))[B.next[j]]'o=iz u i j B.next[j]:=by simp
 obtain ⟨l,d,d',h6,h7,C,hl,e1,e2,e3,e4,e5,e6,H7,s7⟩:=Y.US 0 rfl o (jW:=8) (DP:=3) (y:=i) (w:=[.I i]) (ro:=false) rfl (by decide) (by decide) (by
  grind[oW])
 refine ed e1 (ed e2 ?_);rw[qZ,fx];have P:eR 3 1 8 d (.slice X.next 0 1) (X.new (.cells 3 1 true false (gP [i])))=some (.val d' h6):=e3;rw[P,ei];refine ed e1 ?_;rw[e5,ei];refine LV ?_;unfold Fb;simp only[je]at H7;refine fL ⟨k1-1,by omega,j+1,x.set (B.next[j]) d',rfl,rfl,rfl,rfl,rfl,rfl,rfl,rfl,by omega,N.trans s7,?_⟩;have e:((List.range u.blocks.length).map (iz u i j)).set (B.next[j]) (((List.range u.blocks.length).map (iz u i j))[B.next[j]]'o++[i])=(List.range u.blocks.length).map (iz u i (j+1)):=by
  refine List.ext_getElem (by simp) λb p h2=>?_;rw[List.getElem_set];simp only[List.getElem_map,List.getElem_range];rw[Kf M (gW hj)];by_cases eb:B.next[j]=b
  ·simp_all
  ·grind
 simp_all
end
