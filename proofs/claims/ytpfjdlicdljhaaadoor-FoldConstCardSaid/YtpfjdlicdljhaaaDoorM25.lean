/- Parts. -/
import Derived.Test.YtpfjdlicdljhaaaDoorM24
import Derived.KernelRfl
set_option maxHeartbeats 4000000
namespace Go.Proofs.YtpfjdlicdljhaaaDoor.Hx
open Un Dm
def pre(u:U)(b:Nat):List Nat:=(u.blocks.take b).flatMap (·.cR)
theorem AD{u:U}{b:Nat}{B:Bk}(a:u.blocks[b]? =some B):pre u (b+1)=pre u b++B.cR:=by
 unfold pre;obtain⟨c,rfl⟩:=gL.1 a
 grind[LV]
theorem Dn{u:U}{b v:Nat}:v∈pre u b↔∃c k,At u v c k/\c<b:=by
 unfold pre At;simp only[Sf];constructor
 ·grind[kh]
 ·rintro⟨c,k,⟨B,a,d⟩,e⟩;refine⟨B,kh.2 ⟨c,?_⟩,by grind⟩
  simp_all
theorem B3{u:U}(g:Good u){b:Nat}{B:Bk}(a:u.blocks[b]? =some B):B.cR.Nodup:=by
 rw[List.nodup_iff_pairwise_ne,V7];intro i j hi c d e;have f:At u (B.cR[i]) b i:=⟨B,a,fg hi⟩
 have h:At u (B.cR[i]) b j:=⟨B,a,by rw[e];exact fg c⟩
 have:=(g.CE _ _ _ _ _ f h).2;omega
theorem A3{u:U}(g:Good u):∀b,(pre u b).Nodup
 |0=>by simp[pre]
 | b + 1=>by
   by_cases hb:b<u.blocks.length
   ·have a:=fg hb
    rw[AD a,Wh];refine⟨A3 g b,B3 g a,λv d w f e=>?_⟩;subst e;obtain⟨c,k,h,l⟩:=Dn.1 d;obtain⟨j,i⟩:=kh.1 f;have:=(g.CE _ _ _ _ _ h ⟨_,a,i⟩).1;omega
   ·have:pre u (b+1)=pre u b:=by
      unfold pre;rw[SI (by omega),SI (by omega)]
    rw[this];exact A3 g b
theorem Fq{u:U}(g:Good u):(pre u u.blocks.length).length=u.cR.length:=by
 refine Nat.le_antisymm (gq _ _ (A3 g _) λv a=>?_) ?_
 ·obtain⟨c,k,d,_⟩:=Dn.1 a;exact g.gz _ _ _ d
 ·have d:(List.range u.cR.length).length=u.cR.length:=Kc;rw[<-d];refine sub_le _ _ UF λv a=>?_;rw[Mv]at a;obtain⟨b,k,e⟩:=g.yx v a trivial;refine Dn.2 ⟨b,k,e,?_⟩;obtain⟨B,f,_⟩:=e
  grind
structure Std (u:U) (b k:Nat) (bl pl:List Int):Prop where
 nb:bl.length=u.cR.length
 np:pl.length=u.cR.length
 yes:∀(v c j:Nat),At u v c j->(c<b\/(c=b/\j<k))->bl[v]? =some (c:Int)/\pl[v]? =some (j:Int)
 no:∀(v c j:Nat),At u v c j->¬(c<b\/(c=b/\j<k))->bl[v]? =some (-1)
theorem Std.step{u:U}{b k:Nat}{bl pl:List Int}(g:Good u)(S:Std u b k bl pl){v:Nat}(f:At u v b k):Std u b (k+1) (bl.set v (b:Int)) (pl.set v (k:Int)):=by
 have d:=g.gz _ _ _ f;refine⟨by simp[S.nb],by simp[S.np],λw c j a hc=>?_,λw c j a hc=>?_⟩
 ·by_cases e:w=v
  ·subst e;obtain⟨rfl,rfl⟩:=g.CE _ _ _ _ _ a f;rw[HT (by rw[S.nb];exact d),HT (by rw[S.np];exact d)]
   simp_all
  ·rw [CL (by omega),CL (by omega)];refine S.yes w c j a ?_;rcases hc with i|⟨rfl,i⟩
   ·omega
   ·refine .inr ⟨rfl,?_⟩;rcases Mo j k with h|h
    ·exact h
    ·exfalso;obtain rfl:j=k:=by omega
     obtain⟨B,l,m⟩:=a;obtain⟨n,o,p⟩:=f
     simp_all
 ·have e:w≠v:=λe=>by
   subst e;obtain⟨rfl,rfl⟩:=g.CE _ _ _ _ _ a f;omega
  rw[CL (by omega)];exact S.no w c j a (by omega)
theorem Std.next{u:U}{b:Nat}{bl pl:List Int}{B:Bk}(i:u.blocks[b]? =some B)(S:Std u b B.cR.length bl pl):Std u (b+1) 0 bl pl:=by
 have f:∀v c j,At u v c j->((c<b\/(c=b/\j<B.cR.length))↔(c<b+1\/(c=b+1/\j<0))):=by
  intro v c j g;constructor
  ·omega
  ·intro h;by_cases e:c=b
   ·subst e;obtain⟨k,a,d⟩:=g
    grind
   ·omega
 exact⟨S.nb,S.np,λv c j a d=>S.yes v c j a (by grind),λv c j a d=>S.no v c j a (by omega)⟩
theorem RH:P0.underlying fS=some .bool:=by kernel_rfl
theorem Pp(a b:Bool):cX .neq fS (.bool a) (.bool b)=some (.bool (a != b)):=by
 show OO fS true (.bool a) (.bool b)=_;unfold OO UM P9;rw[RH];rfl
section
variable{F F':Nat->Prop}{h h':Hp}{cs:List Pc}{Q:dg}{u:U}{vv vb vs:V}{lc:Nat}{bl pl Ay:V}
theorem Qe(g:Good u){ty:Nat}(H0:cS F h (cV lc ty [.I u.func,.I u.pc,vv,vb,vs,bl,pl,Ay]::cs))(s:zR F h u vv vb vs)
  (H:∀F' h' b' p' xs ys,Sn F h F' h'->cS F' h' (cV lc ty [.I u.func,.I u.pc,vv,vb,vs,b',p',Ay]::cs)->fJ eZ F' h' xs b'->fJ eZ F' h' ys p'->Std u u.blocks.length 0 xs ys->Q (.bool true) h') :
  cP CS jY [.ptr lc 0] h Q:=by
 refine Bp rfl rfl ?_;unfold tV;have nv:=g.nv;have nb:=g.nb;have aR:lc<h.next:=(H0.ok 0 _ rfl).2.1;refine cO (dq _ _) (cO (by rfl) (cO (by rfl) (cO (H0.ld 0 rfl rfl) (cO s.v.len ?_))));rw[hV (z:=V.I 0) rfl (by decide) (by omega),fQ];obtain⟨H1,s1⟩:=H0.make (E:=eZ) (ty:=cT) (y:=0) (u:=V.I 0) u.cR.length rfl rfl;have n1:(h.new (.cells cT 1 true false (List.replicate u.cR.length (V.I 0)))).next=h.next+1:=rfl;have g1:(h.new (.cells cT 1 true false (List.replicate u.cR.length (V.I 0)))).get h.next=_:=dL _ _;show oP (fe (.ptr lc 0)) _;generalize al:h.new (.cells cT 1 true false (List.replicate u.cR.length (V.I 0)))=a at*;refine cO (dq _ _) (cO (by rfl) (cO (by rfl) (cO (H1.ld 1 rfl rfl) (cO (s.since s1).v.len ?_))));rw[hV (z:=V.I 0) rfl (by decide) (by omega),fQ];obtain⟨H2,s2⟩:=H1.make (E:=eZ) (ty:=cT) (y:=0) (u:=V.I 0) u.cR.length rfl rfl;have g2:(a.new (.cells cT 1 true false (List.replicate u.cR.length (V.I 0)))).get a.next=_:=dL _ _;have am:=(ez (h:=a) (.cells cT 1 true false (List.replicate u.cR.length (V.I 0))) (l:=h.next) (by omega)).trans g1;have n2:(a.new (.cells cT 1 true false (List.replicate u.cR.length (V.I 0)))).next=a.next+1:=rfl;show oP (fe (.ptr lc 0)) _;generalize an:a.new (.cells cT 1 true false (List.replicate u.cR.length (V.I 0)))=h2 at*;refine cO (dq _ _) (cO (by rfl) ⟨by simp_all,H2.ld 2 rfl rfl,by simp_all,H2.ld 2 rfl rfl,?_⟩);obtain⟨h3,e3,n3,H3,s3,k3⟩:=H2.ZF 2 (o:=5) (u:= .slice h.next 0 u.cR.length) rfl (by simp) rfl;rw[show V.ptr lc (0+5)=V.ptr lc 5 from rfl,e3,cU];refine⟨n3,cO (dq _ _) (cO (by rfl) ⟨by grind[trans,O.jz],?_⟩)⟩;simp only[jq,fY]at H3;obtain⟨h4,e4,n4,H4,s4⟩:=H3.st 2 (o:=6) (u:= .slice a.next 0 u.cR.length) rfl (by simp) rfl;rw[show V.ptr lc (0+6)=V.ptr lc 6 from rfl,e4,cU];refine⟨n4,?_⟩;simp only[jq,fY]at H4;have aS:=((s1.trans s2).trans s3).trans s4;clear e3 e4 k3 g1 am g2 H1 H2 H3 s1 s2 s3 s4 al an;generalize V.slice a.next 0 u.cR.length=vp at*;generalize V.slice h.next 0 u.cR.length=vq at*;have lq:=H4.len 1 (xs:=List.replicate u.cR.length (0:Int)) rfl;rw[PU]at lq;refine cO (dq _ _) (cO (by rfl) (cO (H4.ld 2 rfl rfl) (cO lq ?_)))
 refine yP (λk t K L h'=>∃(i:Nat) (xs:List Int),t = .ptr lc 0/\K = .I u.cR.length/\L = .I i/\i+k=u.cR.length/\xs.length=u.cR.length/\(∀j,j<i->xs[j]? =some (-1))/\Sn F h F h'/\
  cS F h' (cW eZ cT (List.replicate u.cR.length (0:Int)) vp::cW eZ cT xs vq::cV lc ty [.I u.func,.I u.pc,vv,vb,vs,vq,vp,Ay]::cs)) ?_ (k:=u.cR.length)
  (by grind)
 rintro k t K L h5 ⟨i,xs,rfl,rfl,rfl,hk,ao,hm,s5,H5⟩;unfold qE;by_cases hi:i<u.cR.length
 ·refine dZ ?_;obtain⟨l6,o6,h6,e6,e7,n6,J,C⟩:=H5.D7 1 rfl (k:=i) (y:=(-1:Int)) (u:=V.I (-1)) (by omega) rfl rfl rfl;refine cO (dq _ _) (cO (by rfl) (cO (H5.ld 2 rfl rfl) (cO e6 ?_)));rw[e7,cU];simp only[jq,fY]at J;refine du ⟨k-1,by omega,i+1,xs.set i (-1),rfl,rfl,rfl,by omega,by simp_all,λj hj=>?_,s5.trans C,J⟩
  grind
 refine fq ?_;refine cO (dq _ _) (cO (by rfl) (cO (by rfl) (cO (H5.ld 2 rfl rfl) (cO (s.since s5).b.len ?_))));have S0:Std u 0 0 xs (List.replicate u.cR.length (0:Int)):=⟨ao,by simp,by omega,λv c j a _=>hm v (by have:=g.gz _ _ _ a;omega)⟩
 refine yN (λk t M d f m h'=>∃(b:Nat) (xs ys:List Int),t = .ptr lc 0/\M = .I ((pre u b).length:Nat)/\d=vb/\f = .I u.blocks.length/\m = .I b/\b+k=u.blocks.length/\Std u b 0 xs ys/\Sn F h F h'/\
  cS F h' (cW eZ cT ys vp::cW eZ cT xs vq::cV lc ty [.I u.func,.I u.pc,vv,vb,vs,vq,vp,Ay]::cs)) ?_ (k:=u.blocks.length)
  ⟨0,xs,_,rfl,rfl,rfl,rfl,rfl,by omega,S0,s5,H5⟩
 rintro k1 t M d f m h6 ⟨b,ap,aq,rfl,rfl,ar,rfl,rfl,aT,S1,C,J⟩;subst d;unfold qD;by_cases hb:b<u.blocks.length;rotate_left
 ·refine fq ?_;obtain rfl:b=u.blocks.length:=by omega
  refine cO (dq _ _) (cO (by rfl) (cO (by rfl) (cO (J.ld 2 rfl rfl) (cO (s.since C).v.len (ev ?_)))));rw[Fq g,Ka rfl];obtain⟨N,P,r7⟩:=J.gh 0 rfl;simp only[jq,fY]at N;obtain⟨n,p,r8⟩:=N.gh 1 rfl;simp only[jq,fY]at n;exact H _ _ _ _ _ _ ((C.trans P).trans p) n.tail.tail r8 (r7.since p) S1
 refine dZ ?_;obtain⟨B,D⟩:∃B,u.blocks[b]? =some B:=by simp_all
 obtain ⟨l7,o7,bv,bn,bp,_,i1,i2,R,iN,ip,_⟩:=(s.since C).jB D;refine cO i1 (cO i2 ?_);refine fo J rfl rfl (by simp only[nV,cY,R.one,iN.one,ip.one];rfl) λh7 N P=>?_;have R:=R.since P;refine cO (by rfl) (cO (N.ld 0 rfl rfl) (cO R.len ?_));have aU:(pre u b).length<=u.cR.length:=by
  rw[<-Fq g];unfold pre;have:u.blocks.take b <+: u.blocks:=List.take_prefix _ _;obtain⟨r,hr⟩:=this
  conv=>rhs;rw[E5,<-hr,List.flatMap_append,Ht]
  omega
 have aP:(pre u b).length+B.cR.length<=u.cR.length:=by
  rw[<-Ht,<-AD D];rw[<-Fq g];unfold pre;have:u.blocks.take (b+1) <+: u.blocks:=List.take_prefix _ _;obtain⟨r,hr⟩:=this
  conv=>rhs;rw[E5,<-hr,List.flatMap_append,Ht]
  omega
 refine yM (λk t M x5 x7 d f m G S T h'=>∃(j:Nat) (fst:Bool) (xs ys:List Int),t = .ptr lc 0/\M = .I (((pre u b).length+j:Nat):Int)/\x5 = .I b/\x7 = .bool fst/\d=vb/\f = .I u.blocks.length/\m = .I b/\
  G=bv/\S = .I B.cR.length/\T = .I j/\j+k=B.cR.length/\(fst=true\/∃v w x,At u v b (j-1)/\0<j/\w=v/\u.cR[v]? =some x/\fm x.op=false)/\Std u b j xs ys/\Sn F h F h'/\
  cS F h' (cW eZ cT ys vp::cW eZ cT xs vq::cV lc ty [.I u.func,.I u.pc,vv,vb,vs,vq,vp,Ay]::cs)) ?_ (k:=B.cR.length)
  ⟨0,true,ap,aq,rfl,rfl,rfl,rfl,rfl,rfl,rfl,rfl,rfl,rfl,by omega,.inl rfl,S1,C.trans P,N.tail⟩
 rintro k2 t M x5 x7 d f m G S T U ⟨j,fst,I,W,rfl,rfl,rfl,rfl,ar,rfl,rfl,aV,rfl,rfl,aW,X,S2,p,n⟩;subst d G;unfold qT;by_cases hj:j<B.cR.length;rotate_left
 ·refine fq ?_;obtain rfl:j=B.cR.length:=by omega
  refine du ⟨k1-1,by omega,b+1,I,W,rfl,?_,rfl,rfl,rfl,by omega,S2.next D,p,n⟩;rw[AD D,Ht]
 refine dZ ?_;have e:At u (B.cR[j]) b j:=⟨B,D,fg hj⟩
 have Y:=g.gz _ _ _ e;obtain⟨x,Z⟩:∃x,u.cR[B.cR[j]]? =some x:=by simp_all
 have au:fJ eN F U B.cR bv:=by
  obtain ⟨l7,o7,aX,aY,aZ,_,a4,a5,a6,_⟩:=(s.since p).jB D;have e1:l7=l7:=rfl;exact((by omega)|> λ_=>(by
   have hk:∀l,F l->U.get l=h7.get l:=λl hl=>(p.dO l hl).trans ((C.trans P).dO l hl).symm;exact R.dO hk))
 obtain ⟨l9,o9,_,j1,j2⟩:=au.nat (fg hj) .i64;refine cO j1 (cO j2 (cO (dq _ _) (cO (by rfl) (cO (by rfl) (cO (n.ld 2 rfl rfl) (cO (s.since p).v.len ?_))))));refine uD ?_;rw[Ka Y];refine cO rfl ?_;have aw:=S2.no _ _ _ e (by omega);obtain⟨A,aQ⟩:=gL.1 aw;obtain⟨lb,ob,ub,b1,b2,b3⟩:=n.Np 1 rfl (k:=B.cR[j]) A .i64 rfl;obtain rfl:ub = .I (-1):=by
  have:[ub]=[V.I I[B.cR[j]]]:=b3
  simp_all
 have eA:kI (.bool (!true)) (oB (some (V.ptr lc 0)) λax=>oB (fe ax) λay=>oB (dE 5 ay) λaA=>oB (df aA U) λaB=>oB (some (V.I (B.cR[j]:Nat))) λaC=>oB (eX 1 aB aC) λaD=>oB (df aD U) λaE=>cX .geq 3 aE (V.I 0))=some (.bool false):=by
  have l5:df (.ptr lc (0+5)) U=some vq:=n.ld 2 rfl rfl;simp only[Vq,j6,c0,dq,dB,l5,b1,b2,oD];rfl
 refine cO eA (fK (dM (by simp) ?_));obtain⟨lv,ov,wv,_,c1,_,_,cv⟩:=(s.since p).val Z;refine cO (dq _ _) (cO (by rfl) (cO (by rfl) (cO (n.ld 2 rfl rfl) (cO c1 (cO (by rfl) (cO cv.op ?_))))));refine cO (by rfl) ?_;have eH:kI (.bool ((x.op:Int) == 21)) (oB (some (V.I x.op)) λaF=>cX .eql 3 aF (V.I 1))=some (.bool (fm x.op)):=by
  simp only[c0,fx,jG];unfold fm;rw[show((x.op:Int) == 21)=(x.op == 21) from So _ 21,show((x.op:Int) == 1)=(x.op == 1) from So _ 1,Bool.or_comm]
 refine cO eH ?_;have a7:fm x.op=true->fst=true:=by
  intro q;rcases X with a|⟨v,w,y,a,h2,rfl,h3,h4⟩
  ·exact a
  ·exfalso;have h5:=g.wo (B.cR[j]) w b (j-1) x y (by grind) a Z h3 q
   simp_all
 have aG:il (.bool (fm x.op)) (oB (some (V.bool fst)) λaa=>lB .not aa)=some (.bool false):=by
  cases q:fm x.op with
  |false=>rfl
  |true=>simp_all
 refine cO aG ?_;have a8:fm x.op=true->((x.op:Int) == 1)=((b:Int) == 0):=by
  intro q;unfold fm at q;simp only[Ie,CG]at q;rw[show((x.op:Int) == 1)=(x.op == 1) from So _ 1,show((b:Int) == 0)=(b == 0) from So _ 0];rcases q with a|a
  ·rw[g.par _ _ _ _ e Z a,a];rfl
  ·have:=(g.xI _ _ _ _ _ e Z a D).1
   simp_all
 have eM:kI (.bool false) (oB (some (V.I x.op)) λab=>oB (cX .eql 3 ab (V.I 1)) λac=>oB (some (V.I b)) λae=>oB (cX .eql 3 ae (V.I 0)) λag=>oB (cX .neq 4 ac ag) λah=>oB (some ah) λai=>il ai (some (V.bool (fm x.op))))=some (.bool false):=by
  simp only[j6,c0,fx,Pp,fW]
  cases q:fm x.op with
  |false=>simp
  |true=>simp_all
 refine cO eM (fK (dM (by simp) ?_));obtain⟨VB,a9,ba,aH,aI,aJ,aj,aK⟩:=n.D7 1 rfl (k:=B.cR[j]) (y:=(b:Int)) (u:=V.I b) A rfl rfl rfl;simp only[jq,fY]at aj;refine cO (dq _ _) (cO (by rfl) (cO (n.ld 2 rfl rfl) (cO (dq _ _) (cO (by rfl) (cO (n.ld 2 rfl rfl) (cO aH ?_))))));rw[aI,cU];obtain⟨YW,bb,bc,aL,aM,aN,ak,aO⟩:=aj.D7 0 rfl (k:=B.cR[j]) (y:=(j:Int)) (u:=V.I j) (by rw[S2.np];exact Y) rfl rfl rfl;simp only[jq,fY]at ak;refine⟨aJ,cO aL ?_⟩;rw[aM,cU];refine⟨aN,du (du ?_)⟩;refine⟨k2-1,by omega,j+1,fm x.op,I.set (B.cR[j]) (b:Int),W.set (B.cR[j]) (j:Int),rfl,?_,rfl,rfl,rfl,rfl,rfl,rfl,rfl,rfl,by omega,?_,S2.step g e,(p.trans aK).trans aO,ak⟩
 ·rfl
 ·cases q:fm x.op with
  |true=>simp_all
  |false=>exact .inr ⟨_,_,x,e,by omega,rfl,Z,q⟩
end
open Un Dm
def Aw{α:Type}(E:oY α)(LI ty:Nat)(Df:List (List α))(v:V)(ds:List V):Pc where
 ki:=λl=>Loc v l\/∃d∈ds,Loc d l
 ok F h:=∃t,v = .slice t 0 Df.length/\t<h.next/\¬F t/\h.get t=some (.cells LI 1 true false ds)/\ds.length=Df.length/\(∀(i:Nat) x d,Df[i]? =some x->ds[i]? =some d->iY E ty F h x d)/\(∀d∈ds,¬Loc d t)/\
  ∀(i j:Nat) (d e:V),i≠j->ds[i]? =some d->ds[j]? =some e->∀l,Loc d l->¬Loc e l
 IS:=λ⟨t,f,g,o,p,k,b,m,n⟩ l a=>by
  rcases a with a|⟨d,c,a⟩
  ·simp_all
  ·obtain⟨i,hi⟩:=kh.1 c;have u:=(gL.1 hi).1;exact((b i _ d (fg (by omega)) hi).JE a).2
 dO:=λ{F h h'} ⟨t,f,g,o,p,k,b,m,n⟩ q a s=>by
  refine⟨t,f,EP g s,o,by simp_all,k,λi x d r c=>?_,m,n⟩;exact(b i x d r c).dO q (by grind) s
 mono:=λ{F F' h} ⟨t,f,g,o,p,k,b,m,n⟩ q a=>by
  refine⟨t,f,g,by simp_all,p,k,λi x d r c=>?_,m,n⟩;exact(b i x d r c).mono q (by grind)
theorem KT{α:Type}{E:oY α}{F:Nat->Prop}{h:Hp}:∀{Df:List (List α)}{ds:List V},ds.length=Df.length->(∀(i:Nat) x d,Df[i]? =some x->ds[i]? =some d->fJ E F h x d)->m7 (eL E) F h ds Df
 |[],_,_,_=>trivial
 |x::Df,[],h,_=>by simp_all
 |x::Df,d::ds,hl,H=>⟨[d],ds,rfl,⟨d,rfl,H 0 x d rfl rfl⟩,KT (by simp_all) λi x d a b=>H (i+1) x d (by simp_all) (by simp_all)⟩
section
variable{F F':Nat->Prop}{h h':Hp}{cs:List Pc}{α:Type}{E:oY α}{LI ty:Nat}{Df:List (List α)}{v:V}{ds:List V}
theorem cS.Od(H:cS F h cs)(n:Nat):cS F (h.new (.cells LI 1 true false (List.replicate n V.cQ))) (Aw E LI ty (List.replicate n []) (.slice h.next 0 n) (List.replicate n V.cQ)::cs)/\Sn F h F (h.new (.cells LI 1 true false (List.replicate n V.cQ))):=by
 have c:∀{i:Nat} {d:V},(List.replicate n V.cQ)[i]? =some d->d = .cQ:=by grind
 refine H.new _ ⟨h.next,by simp,Ls _,H.fresh,dL _ _,by simp,λi x d f b=>?_,λd b=>?_,λi j d e _ b _ l a=>?_⟩ λl a=>?_
 ·obtain rfl:=c b;obtain rfl:x=[]:=by grind
  exact .nil
 ·simp_all
 ·obtain rfl:=c b;exact a.elim
 ·rcases a with a|⟨d,b,a⟩
  ·exact a.symm
  simp_all
theorem cS.SQ(H:cS F h cs)(i:Nat)(hi:cs[i]? =some (Aw E LI ty Df v ds)):dD v=some (.I Df.length):=by
 obtain⟨t,rfl,_⟩:=H.ok i _ hi;rfl
theorem cS.NM(H:cS F h cs)(i:Nat)(hi:cs[i]? =some (Aw E LI ty Df v ds)){b:Nat}(Z:b<Df.length){ic wF:Nat}{y:α}{w:List V}{ro:Bool}(M:E.rel F h y w)(hz:0<E.sz)(P:ic<=1000)(hlen:Df[b].length<1000000) :
  ∃l d d' A B,ds[b]? =some d/\l<h.next/\eX 1 v (.I b)=some (.ptr l (b*1))/\df (.ptr l (b*1)) h=some d/\c9 ty E.sz ic d (.slice h.next 0 1) (h.new (.cells wF E.sz true ro w))=some (.val d' A)/\h.next+1<=A.next/\
   fk 1 (.ptr l (b*1)) d' A=some (.val .undef B)/\A.next<=B.next/\cS F B (cs.set i (Aw E LI ty (Df.set b (Df[b]++[y])) v (ds.set b d')))/\Sn F h F B:=by
 obtain⟨t,rfl,A,B,h4,h5,Q,R,N⟩:=H.ok i _ hi;obtain⟨d,J⟩:∃d,ds[b]? =some d:=by simp_all
 have T:=Q b _ d (fg Z) J;have C:=kh.2 ⟨b,J⟩;have U:iY E ty F (h.new (.cells wF E.sz true ro w)) Df[b] d:=T.dO (λl a=>ez _ (H.fl l a)) (λl a=>ez _ (T.JE a).2.1) (Q0 _);have hx:ri (h.new (.cells wF E.sz true ro w)) E.sz (.slice h.next 0 1)=some (1,w):=BS (k:=0) (by rw[E.len M];simp);have aa:(Df[b].length+1)*ic<=1000000*1000:=Nat.mul_le_mul (by omega) P;obtain⟨d',g,O,o1,K,l1⟩:=U.append (ic:=ic) (ys:=[y]) hx ⟨w,[],by simp,E.dO (λl a=>ez _ (H.fl l a)) M,trivial⟩ (by rw[E.len M];simp) (E.one M) (by simp) hz (λl a=>WY (H.fl l a)) (by simp;omega) (by simp;omega);have n1:(h.new (.cells wF E.sz true ro w)).next=h.next+1:=rfl;have D:∀l,Loc d' l->Loc d l\/h.next<=l:=by grind
 have p:t<g.next:=by have:=K.next;omega
 have gt:g.get t=some (.cells LI 1 true false ds):=by rw[K.dO t (by omega) (R d C),ez _ A];exact h4
 have L:=JC (o:=b*1) (v:=d') gt (by omega) o1.one;rw[Nat.mul_one]at L;have W:¬Loc d' t:=by grind
 have cg:tm (Aw E LI ty Df (.slice t 0 Df.length) ds).ki h (g.put t (.cells LI 1 true false (ds.set b d'))):=by
  refine(((tm.new h _).WD λ_ _ h=>h).trans' (by omega) λl _ a=> .inr ⟨d,C,a⟩).trans' (tm.put (S:=λl=>l=t) _ rfl p) λl _ e=> .inl e.symm
 have m:∀{j:Nat} {e:V},(ds.set b d')[j]? =some e->(j=b/\e=d')\/(j≠b/\ds[j]? =some e):=by grind
 have q:∀{j:Nat} {e:V},ds[j]? =some e->∀l,Loc e l->l<h.next:=λ{j e} c l a=>by
  have ab:=(gL.1 c).1;exact((Q j _ e (fg (by omega)) c).JE a).2.1
 refine⟨t,d,d',g,g.put t (.cells LI 1 true false (ds.set b d')),J,A,?_,?_,O,K.next,by simp_all,iC _,H.xS hi cg ?_ ?_⟩
 ·simp_all[se,yD]
 ·rw[Nat.mul_one];grind[JY]
 ·refine ⟨t,by simp,p,B,ie _ p,by simp[h5],λj x e r c=>?_,λe c=>?_,λj k e f hn c hf l a s=>?_⟩
  ·rcases m c with⟨rfl,rfl⟩|⟨n,c⟩
   ·rw[HT Z]at r;obtain rfl:=Option.some.inj r;exact o1.dO (by grind[kJ]) (by grind[kJ]) (iC _)
   ·rw[CL λe=>n e.symm]at r;have X:=kh.2 ⟨j,c⟩;refine(Q j x e r c).dO (λl a=>?_) (λl a=>?_) (by have:=K.next;show h.next<=g.next;omega)
    ·rw[kJ _ p λe=>B (e▸a),K.dO l (WY (H.fl l a)) λG=>(T.JE G).2.2 a,ez _ (H.fl l a)]
    ·have Y:=q c l a;rw[kJ _ p λe'=>R e X (e'▸a),K.dO l (by omega) λG=>N j b e d n c J l a G,ez _ Y]
  ·obtain⟨j,n⟩:=kh.1 c;rcases m n with⟨_,rfl⟩|⟨_,n⟩
   ·exact W
   ·exact R e (kh.2 ⟨j,n⟩)
  ·rcases m c with⟨O,e2⟩|⟨n,I⟩
   ·rcases m hf with⟨L,_⟩|⟨hk,u⟩
    ·exact hn (O.trans L.symm)
    ·subst O e2;rcases D l a with z|z
     ·exact N k j f d hk u J l s z
     ·have:=q u l s;omega
   ·rcases m hf with⟨L,e4⟩|⟨hk,u⟩
    ·subst L e4;rcases D l s with z|z
     ·exact N j k e d n I J l a z
     ·have:=q I l a;omega
    ·exact N j k e f hn I u l a s
 ·intro l a;rcases a with a|⟨e,c,a⟩
  ·exact .inl (.inl a)
  ·obtain ⟨j,n⟩:=kh.1 c;rcases m n with⟨_,rfl⟩|⟨_,n⟩
   ·rcases D l a with z|z
    ·exact .inl (.inr ⟨d,C,z⟩)
    ·exact .inr z
   ·exact .inl (.inr ⟨e,kh.2 ⟨j,n⟩,a⟩)
theorem cS.ND(H:cS F h cs)(i:Nat)(hi:cs[i]? =some (Aw E LI ty Df v ds)):∃F',cS F' h (cs.set i emp)/\Sn F h F' h/\fJ (eL E) F' h Df v:=by
 have a:=H.ok i _ hi;obtain⟨c,e⟩:=H.VH (p:=emp) (F':=λl=>F l\/(Aw E LI ty Df v ds).ki l) hi (tm.refl _ _) (by simp_all) (by grind) trivial λ_ h=>h.elim;refine⟨_,c,e,?_⟩;obtain⟨t,rfl,o,q,f,g,k,r,s⟩:=a;refine .inr ⟨t,0,LI,true,false,ds,rfl,.inr (.inl rfl),f,.inr rfl,J9 _,?_⟩;rw[UH];exact KT g λj x d m b=>(k j x d m b).Yg (by simp_all) λl n=> .inr (.inr ⟨d,kh.2 ⟨j,b⟩,n⟩)
end
def eS(u:U)(i j b:Nat):List Nat:=gF (u.blocks.take i) 0 b++(match u.blocks[i]? with
 |some B=>((B.next.take j).filter (·= b)).map λ_=>i
 |none=>[])
theorem Dr(u:U)(b:Nat):eS u 0 0 b=[]:=by
 grind[eS,gF]
theorem CH{u:U}{i j b t:Nat}{B:Bk}(a:u.blocks[i]? =some B)(c:B.next[j]? =some t):eS u i (j+1) b=if b=t then eS u i j b++[i] else eS u i j b:=by
 unfold eS;rw[a];obtain⟨d,rfl⟩:=gL.1 c;simp only[LV d,Xu,LX]
 grind
theorem Di{u:U}{i b:Nat}{B:Bk}(a:u.blocks[i]? =some B):eS u (i+1) 0 b=eS u i B.next.length b:=by
 unfold eS;obtain⟨hi,rfl⟩:=gL.1 a;rw[a,LV hi,lX];have c:(u.blocks.take i).length=i:=by rw[JQ];omega
 simp only[c,yD,E5]
 grind[gF]
theorem kz(u:U)(b:Nat):eS u u.blocks.length 0 b=Un.ahead u b:=by
 simp_all[eS,Un.ahead,E5,Sp,iC]
theorem kj{u:U}(g:Good u){i j b:Nat}(hi:i<=u.blocks.length)(f:j<=2):(eS u i j b).length<=2*i+2:=by
 have c:∀i,i<=u.blocks.length->(gF (u.blocks.take i) 0 b).length<=2*i:=by
  intro i
  induction i with
  |zero=>grind[gF]
  | succ i d=>
    intro hi;have a:i<u.blocks.length:=by omega
    rw[LV a,lX];have:=d (by omega);have e:u.blocks[i]? =some u.blocks[i]:=by simp_all
    have k:(u.blocks[i]).next.length<=2:=by
      rcases g.fin i _ e with⟨_,h⟩|⟨_,h,_⟩|⟨_,h,_⟩
      ·omega
      ·omega
      ·simp_all
    have l:=QY (λx=>decide (x=b)) (u.blocks[i]).next
    grind[Ht,gF,yn,XE]
 grind[eS,Ht,XE,QY,decide,yn,JQ]
section
variable{F F':Nat->Prop}{h h':Hp}{cs:List Pc}{Q:dg}{u:U}{vv vb vs:V}
theorem Lu(g:Good u)(H0:cS F h cs)(A:zR F h u vv vb vs)(H:∀F' h' v,Sn F h F' h'->cS F' h' cs->fJ (eL eN) F' h' ((List.range u.blocks.length).map (Un.ahead u)) v->Q v h') :
  cP CS sU [.agg (uC u vv vb vs)] h Q:=by
 refine Lv rfl rfl ?_;unfold EW;have nb:=g.nb;refine kX H0 A.one λp S I=>?_;refine cO (by rfl) (cO (S.ld 0 rfl rfl) (cO (A.since I).b.len ?_));rw[hV (z:=V.cQ) rfl (by decide) (by omega),dC];obtain⟨J,T⟩:=S.Od (E:=eN) (LI:=fO) (ty:=cT) u.blocks.length;have K:List.replicate u.blocks.length ([]:List Nat)=(List.range u.blocks.length).map (eS u 0 0):=by
  refine List.ext_getElem (by simp) λi p h2=>?_;simp[Dr]
 rw[K]at J;refine cO (by rfl) (cO (J.ld 1 rfl rfl) (cO (A.since (I.trans T)).b.len ?_))
 refine Gv (λk q a f m h'=>∃(i:Nat) (ds:List V),q = .slice p.next 0 u.blocks.length/\a=vb/\f = .I u.blocks.length/\m = .I i/\i+k=u.blocks.length/\Sn F h F h'/\
  cS F h' (Aw eN fO cT ((List.range u.blocks.length).map (eS u i 0)) (.slice p.next 0 u.blocks.length) ds::cs)) ?_ (k:=u.blocks.length)
  ⟨0,_,rfl,rfl,rfl,rfl,by omega,I.trans T,(J.forget (i:=1) rfl)|> λH=>by
    simp only[jq,fY]at H;exact⟨H.fl,λi c hc=>by
      cases i with
      |zero=>exact H.ok 0 c hc
      |succ i=>exact H.ok (i+2) c hc,λi j c d hc C hn=>by
      cases i with
      | zero=>
        cases j with
        |zero=>omega
        |succ j=>exact H.zQ 0 (j+2) c d hc C (by omega)
      | succ i=>
        cases j with
        |zero=>exact H.zQ (i+2) 0 c d hc C (by omega)
        |succ j=>exact H.zQ (i+2) (j+2) c d hc C (by omega)⟩⟩
 rintro k q a f m h3 ⟨i,ds,rfl,L,rfl,rfl,hk,M,U⟩;subst a;unfold Ai;by_cases hi:i<u.blocks.length;rotate_left
 ·refine fq ?_;obtain rfl:i=u.blocks.length:=by omega
  obtain ⟨F4,D,G,W⟩:=U.ND 0 rfl;have e:(List.range u.blocks.length).map (eS u u.blocks.length 0)=(List.range u.blocks.length).map (Un.ahead u):=by
   refine(by grind[MU,kz])
  rw[e]at W;exact H F4 h3 _ (M.trans G) D.tail W
 refine dZ ?_;obtain⟨B,N⟩:∃B,u.blocks[i]? =some B:=by simp_all
 obtain ⟨l7,o7,bv,bn,bp,_,i1,i2,iv,r,ip,_⟩:=(A.since M).jB N;have aa:B.next.length<=2:=by
  rcases g.fin i _ N with⟨_,h⟩|⟨_,h,_⟩|⟨_,h,_⟩
  ·omega
  ·omega
  ·simp_all
 refine cO i1 (cO i2 ?_);refine fo U rfl rfl (by simp only[nV,cY,iv.one,r.one,ip.one];rfl) λh4 D G=>?_;have r:=r.since G;refine cO (by rfl) (cO (D.ld 0 rfl rfl) (cO r.len ?_))
 refine Gt (λk q X a f m n s t h'=>∃(j:Nat) (ds:List V),q = .slice p.next 0 u.blocks.length/\X = .I i/\a=vb/\f = .I u.blocks.length/\m = .I i/\n=bn/\s = .I B.next.length/\t = .I j/\
  j+k=B.next.length/\Sn F h4 F h'/\cS F h' (Aw eN fO cT ((List.range u.blocks.length).map (eS u i j)) (.slice p.next 0 u.blocks.length) ds::cs)) ?_ (k:=B.next.length)
  ⟨0,ds,rfl,rfl,rfl,rfl,rfl,rfl,rfl,rfl,by omega,Sn.refl _ _,D.tail⟩
 rintro k1 q X a f m n s t Y ⟨j,x,rfl,rfl,L,rfl,rfl,ab,rfl,rfl,ac,O,Z⟩;subst a n;unfold AK;by_cases hj:j<B.next.length;rotate_left
 ·refine fq ?_;obtain rfl:j=B.next.length:=by omega
  refine du ⟨k-1,by omega,i+1,x,rfl,rfl,rfl,rfl,by omega,(M.trans G).trans O,?_⟩;have e:(List.range u.blocks.length).map (eS u (i+1) 0)=(List.range u.blocks.length).map (eS u i B.next.length):=by grind[MU,Di]
  grind
 refine dZ ?_;obtain⟨l8,o8,_,j1,j2⟩:=(r.since O).nat (fg hj) .i64;have P:B.next[j]<u.blocks.length:=g.nx i _ (by grind[next,ym]);have lN:=Z.SQ 0 rfl;rw[yn,Kc]at lN;refine cO j1 (cO j2 (cO lN ?_));refine uD (fK (ei (by simp_all) ?_));have o:B.next[j]<((List.range u.blocks.length).map (eS u i j)).length:=by simpa using P
 have ae:((List.range u.blocks.length).map (eS u i j))[B.next[j]]'o=eS u i j B.next[j]:=by simp
 obtain ⟨l,d,d',h6,h7,C,hl,e1,e2,e3,e4,e5,e6,H7,s7⟩:=Z.NM 0 rfl o (ic:=8) (wF:=3) (y:=i) (w:=[.I i]) (ro:=false) rfl (by decide) (by decide) (by
  grind[kj])
 refine cO e1 (cO e2 ?_);rw[kH,dC];have R:c9 3 1 8 d (.slice Y.next 0 1) (Y.new (.cells 3 1 true false (fi [i])))=some (.val d' h6):=e3;rw[R,cU];refine cO e1 ?_;rw[e5,cU];refine E6 ?_;unfold zp;simp only[fY]at H7;refine du ⟨k1-1,by omega,j+1,x.set (B.next[j]) d',rfl,rfl,rfl,rfl,rfl,rfl,rfl,rfl,by omega,O.trans s7,?_⟩;have e:((List.range u.blocks.length).map (eS u i j)).set (B.next[j]) (((List.range u.blocks.length).map (eS u i j))[B.next[j]]'o++[i])=(List.range u.blocks.length).map (eS u i (j+1)):=by
  refine List.ext_getElem (by simp) λb p h2=>?_;rw[List.getElem_set];simp only[List.getElem_map,List.getElem_range];rw[CH N (fg hj)];by_cases eb:B.next[j]=b
  ·simp_all
  ·grind
 simp_all
end
