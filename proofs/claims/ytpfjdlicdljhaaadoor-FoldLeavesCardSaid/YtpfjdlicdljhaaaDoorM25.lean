/- Parts. -/
import Derived.Test.YtpfjdlicdljhaaaDoorM24
import Derived.KernelRfl
set_option maxHeartbeats 4000000
namespace Go.Proofs.YtpfjdlicdljhaaaDoor.Hx
open Un Dm
def pre(u:U)(b:Nat):List Nat:=(u.blocks.take b).flatMap (·.ef)
theorem Dn{u:U}{b:Nat}{B:Bk}(a:u.blocks[b]? =some B):pre u (b+1)=pre u b++B.ef:=by
 unfold pre;obtain⟨c,rfl⟩:=jq.1 a
 grind[Qh]
theorem Hi{u:U}{b v:Nat}:v∈pre u b↔∃c k,At u v c k/\c<b:=by
 unfold pre At;simp only[W9];constructor
 ·grind[mm]
 ·rintro⟨c,k,⟨B,a,d⟩,e⟩;refine⟨B,mm.2 ⟨c,?_⟩,by grind⟩
  simp_all
theorem Gc{u:U}(g:Good u){b:Nat}{B:Bk}(a:u.blocks[b]? =some B):B.ef.Nodup:=by
 rw[List.nodup_iff_pairwise_ne,wA9];intro i j hi c d e;have f:At u (B.ef[i]) b i:=⟨B,a,ig hi⟩
 have h:At u (B.ef[i]) b j:=⟨B,a,by rw[e];exact ig c⟩
 have:=(g.Hy _ _ _ _ _ f h).2;omega
theorem Ej{u:U}(g:Good u):∀b,(pre u b).Nodup
 |0=>by simp[pre]
 | b + 1=>by
   by_cases hb:b<u.blocks.length
   ·have a:=ig hb
    rw[Dn a,wBt];refine⟨Ej g b,Gc g a,λv d w f e=>?_⟩;subst e;obtain⟨c,k,h,l⟩:=Hi.1 d;obtain⟨j,i⟩:=mm.1 f;have:=(g.Hy _ _ _ _ _ h ⟨_,a,i⟩).1;omega
   ·have:pre u (b+1)=pre u b:=by
      unfold pre;rw[Xj (by omega),Xj (by omega)]
    rw[this];exact Ej g b
theorem JI{u:U}(g:Good u):(pre u u.blocks.length).length=u.ef.length:=by
 refine Nat.le_antisymm (jD _ _ (Ej g _) λv a=>?_) ?_
 ·obtain⟨c,k,d,_⟩:=Hi.1 a;exact g.jA _ _ _ d
 ·have d:(List.range u.ef.length).length=u.ef.length:=QV;rw[<-d];refine sub_le _ _ Zw λv a=>?_;rw[Re]at a;obtain⟨b,k,e⟩:=g.CE v a trivial;refine Hi.2 ⟨b,k,e,?_⟩;obtain⟨B,f,_⟩:=e
  grind
structure Std (u:U) (b k:Nat) (bl pl:List Int):Prop where
 nb:bl.length=u.ef.length
 np:pl.length=u.ef.length
 yes:∀(v c j:Nat),At u v c j->(c<b\/(c=b/\j<k))->bl[v]? =some (c:Int)/\pl[v]? =some (j:Int)
 no:∀(v c j:Nat),At u v c j->¬(c<b\/(c=b/\j<k))->bl[v]? =some (-1)
theorem Std.step{u:U}{b k:Nat}{bl pl:List Int}(g:Good u)(S:Std u b k bl pl){v:Nat}(f:At u v b k):Std u b (k+1) (bl.set v (b:Int)) (pl.set v (k:Int)):=by
 have d:=g.jA _ _ _ f;refine⟨by simp[S.nb],by simp[S.np],λw c j a hc=>?_,λw c j a hc=>?_⟩
 ·by_cases e:w=v
  ·subst e;obtain⟨rfl,rfl⟩:=g.Hy _ _ _ _ _ a f;rw[MT (by rw[S.nb];exact d),MT (by rw[S.np];exact d)]
   simp_all
  ·rw [HO (by omega),HO (by omega)];refine S.yes w c j a ?_;rcases hc with i|⟨rfl,i⟩
   ·omega
   ·refine .inr ⟨rfl,?_⟩;rcases Rl j k with h|h
    ·exact h
    ·exfalso;obtain rfl:j=k:=by omega
     obtain⟨B,l,m⟩:=a;obtain⟨n,o,p⟩:=f
     simp_all
 ·have e:w≠v:=λe=>by
   subst e;obtain⟨rfl,rfl⟩:=g.Hy _ _ _ _ _ a f;omega
  rw[HO (by omega)];exact S.no w c j a (by omega)
theorem Std.next{u:U}{b:Nat}{bl pl:List Int}{B:Bk}(i:u.blocks[b]? =some B)(S:Std u b B.ef.length bl pl):Std u (b+1) 0 bl pl:=by
 have f:∀v c j,At u v c j->((c<b\/(c=b/\j<B.ef.length))↔(c<b+1\/(c=b+1/\j<0))):=by
  intro v c j g;constructor
  ·omega
  ·intro h;by_cases e:c=b
   ·subst e;obtain⟨k,a,d⟩:=g
    grind
   ·omega
 exact⟨S.nb,S.np,λv c j a d=>S.yes v c j a (by grind),λv c j a d=>S.no v c j a (by omega)⟩
theorem WB:P0.underlying jb=some .bool:=by kernel_rfl
theorem TV(a b:Bool):eo .neq jb (.bool a) (.bool b)=some (.bool (a != b)):=by
 show TT jb true (.bool a) (.bool b)=_;unfold TT Z1 U2;rw[WB];rfl
section
variable{F F':Nat->Prop}{h h':Hp}{cs:List Pc}{Q:fo}{u:U}{vv vb vs:V}{lc:Nat}{bl pl D0:V}
theorem VM(g:Good u){ty:Nat}(H0:ei F h (er lc ty [.I u.func,.I u.pc,vv,vb,vs,bl,pl,D0]::cs))(s:CL F h u vv vb vs)
  (H:∀F' h' b' p' xs ys,Sn F h F' h'->ei F' h' (er lc ty [.I u.func,.I u.pc,vv,vb,vs,b',p',D0]::cs)->iA eZ F' h' xs b'->iA eZ F' h' ys p'->Std u u.blocks.length 0 xs ys->Q (.bool true) h') :
  cP CS mV [.ptr lc 0] h Q:=by
 refine EV rfl rfl ?_;unfold xg;have nv:=g.nv;have nb:=g.nb;have aR:lc<h.next:=(H0.ok 0 _ rfl).2.1;refine ed (fI _ _) (ed (by rfl) (ed (by rfl) (ed (H0.ld 0 rfl rfl) (ed s.v.len ?_))));rw[jY (z:=V.I 0) rfl (by decide) (by omega),ic];obtain⟨H1,s1⟩:=H0.make (E:=eZ) (ty:=en) (y:=0) (u:=V.I 0) u.ef.length rfl rfl;have n1:(h.new (.cells en 1 true false (List.replicate u.ef.length (V.I 0)))).next=h.next+1:=rfl;have g1:(h.new (.cells en 1 true false (List.replicate u.ef.length (V.I 0)))).get h.next=_:=fg _ _;show oP (ij (.ptr lc 0)) _;generalize al:h.new (.cells en 1 true false (List.replicate u.ef.length (V.I 0)))=a at*;refine ed (fI _ _) (ed (by rfl) (ed (by rfl) (ed (H1.ld 1 rfl rfl) (ed (s.since s1).v.len ?_))));rw[jY (z:=V.I 0) rfl (by decide) (by omega),ic];obtain⟨H2,s2⟩:=H1.make (E:=eZ) (ty:=en) (y:=0) (u:=V.I 0) u.ef.length rfl rfl;have g2:(a.new (.cells en 1 true false (List.replicate u.ef.length (V.I 0)))).get a.next=_:=fg _ _;have am:=(fm (h:=a) (.cells en 1 true false (List.replicate u.ef.length (V.I 0))) (l:=h.next) (by omega)).trans g1;have n2:(a.new (.cells en 1 true false (List.replicate u.ef.length (V.I 0)))).next=a.next+1:=rfl;show oP (ij (.ptr lc 0)) _;generalize an:a.new (.cells en 1 true false (List.replicate u.ef.length (V.I 0)))=h2 at*;refine ed (fI _ _) (ed (by rfl) ⟨by simp_all,H2.ld 2 rfl rfl,by simp_all,H2.ld 2 rfl rfl,?_⟩);obtain⟨h3,e3,n3,H3,s3,k3⟩:=H2.stk 2 (o:=5) (u:= .slice h.next 0 u.ef.length) rfl (by simp) rfl;rw[show V.ptr lc (0+5)=V.ptr lc 5 from rfl,e3,ej];refine⟨n3,ed (fI _ _) (ed (by rfl) ⟨by grind[trans,O.jL],?_⟩)⟩;simp only[mZ,jx]at H3;obtain⟨h4,e4,n4,H4,s4⟩:=H3.st 2 (o:=6) (u:= .slice a.next 0 u.ef.length) rfl (by simp) rfl;rw[show V.ptr lc (0+6)=V.ptr lc 6 from rfl,e4,ej];refine⟨n4,?_⟩;simp only[mZ,jx]at H4;have aS:=((s1.trans s2).trans s3).trans s4;clear e3 e4 k3 g1 am g2 H1 H2 H3 s1 s2 s3 s4 al an;generalize V.slice a.next 0 u.ef.length=vp at*;generalize V.slice h.next 0 u.ef.length=vq at*;have lq:=H4.len 1 (xs:=List.replicate u.ef.length (0:Int)) rfl;rw[UO]at lq;refine ed (fI _ _) (ed (by rfl) (ed (H4.ld 2 rfl rfl) (ed lq ?_)))
 refine BA (λk t K L h'=>∃(i:Nat) (xs:List Int),t = .ptr lc 0/\K = .I u.ef.length/\L = .I i/\i+k=u.ef.length/\xs.length=u.ef.length/\(∀j,j<i->xs[j]? =some (-1))/\Sn F h F h'/\
  ei F h' (eJ eZ en (List.replicate u.ef.length (0:Int)) vp::eJ eZ en xs vq::er lc ty [.I u.func,.I u.pc,vv,vb,vs,vq,vp,D0]::cs)) ?_ (k:=u.ef.length)
  (by grind)
 rintro k t K L h5 ⟨i,xs,rfl,rfl,rfl,hk,ao,hm,s5,H5⟩;unfold uT;by_cases hi:i<u.ef.length
 ·refine gv ?_;obtain⟨l6,o6,h6,e6,e7,n6,J,C⟩:=H5.Ir 1 rfl (k:=i) (y:=(-1:Int)) (u:=V.I (-1)) (by omega) rfl rfl rfl;refine ed (fI _ _) (ed (by rfl) (ed (H5.ld 2 rfl rfl) (ed e6 ?_)));rw[e7,ej];simp only[mZ,jx]at J;refine fM ⟨k-1,by omega,i+1,xs.set i (-1),rfl,rfl,rfl,by omega,by simp_all,λj hj=>?_,s5.trans C,J⟩
  grind
 refine ir ?_;refine ed (fI _ _) (ed (by rfl) (ed (by rfl) (ed (H5.ld 2 rfl rfl) (ed (s.since s5).b.len ?_))));have S0:Std u 0 0 xs (List.replicate u.ef.length (0:Int)):=⟨ao,by simp,by omega,λv c j a _=>hm v (by have:=g.jA _ _ _ a;omega)⟩
 refine Cr (λk t M d f m h'=>∃(b:Nat) (xs ys:List Int),t = .ptr lc 0/\M = .I ((pre u b).length:Nat)/\d=vb/\f = .I u.blocks.length/\m = .I b/\b+k=u.blocks.length/\Std u b 0 xs ys/\Sn F h F h'/\
  ei F h' (eJ eZ en ys vp::eJ eZ en xs vq::er lc ty [.I u.func,.I u.pc,vv,vb,vs,vq,vp,D0]::cs)) ?_ (k:=u.blocks.length)
  ⟨0,xs,_,rfl,rfl,rfl,rfl,rfl,by omega,S0,s5,H5⟩
 rintro k1 t M d f m h6 ⟨b,ap,aq,rfl,rfl,ar,rfl,rfl,aT,S1,C,J⟩;subst d;unfold uy;by_cases hb:b<u.blocks.length;rotate_left
 ·refine ir ?_;obtain rfl:b=u.blocks.length:=by omega
  refine ed (fI _ _) (ed (by rfl) (ed (by rfl) (ed (J.ld 2 rfl rfl) (ed (s.since C).v.len (gQ ?_)))));rw[JI g,PY rfl];obtain⟨N,P,r7⟩:=J.jQ 0 rfl;simp only[mZ,jx]at N;obtain⟨n,p,r8⟩:=N.jQ 1 rfl;simp only[mZ,jx]at n;exact H _ _ _ _ _ _ ((C.trans P).trans p) n.tail.tail r8 (r7.since p) S1
 refine gv ?_;obtain⟨B,D⟩:∃B,u.blocks[b]? =some B:=by simp_all
 obtain ⟨l7,o7,bv,bn,bp,_,i1,i2,R,iN,ip,_⟩:=(s.since C).mh D;refine ed i1 (ed i2 ?_);refine iH J rfl rfl (by simp only[lB,ev,R.one,iN.one,ip.one];rfl) λh7 N P=>?_;have R:=R.since P;refine ed (by rfl) (ed (N.ld 0 rfl rfl) (ed R.len ?_));have aU:(pre u b).length<=u.ef.length:=by
  rw[<-JI g];unfold pre;have:u.blocks.take b <+: u.blocks:=List.take_prefix _ _;obtain⟨r,hr⟩:=this
  conv=>rhs;rw[Js,<-hr,List.flatMap_append,I9]
  omega
 have aP:(pre u b).length+B.ef.length<=u.ef.length:=by
  rw[<-I9,<-Dn D];rw[<-JI g];unfold pre;have:u.blocks.take (b+1) <+: u.blocks:=List.take_prefix _ _;obtain⟨r,hr⟩:=this
  conv=>rhs;rw[Js,<-hr,List.flatMap_append,I9]
  omega
 refine Ca (λk t M x5 x7 d f m G S T h'=>∃(j:Nat) (fst:Bool) (xs ys:List Int),t = .ptr lc 0/\M = .I (((pre u b).length+j:Nat):Int)/\x5 = .I b/\x7 = .bool fst/\d=vb/\f = .I u.blocks.length/\m = .I b/\
  G=bv/\S = .I B.ef.length/\T = .I j/\j+k=B.ef.length/\(fst=true\/∃v w x,At u v b (j-1)/\0<j/\w=v/\u.ef[v]? =some x/\hY x.op=false)/\Std u b j xs ys/\Sn F h F h'/\
  ei F h' (eJ eZ en ys vp::eJ eZ en xs vq::er lc ty [.I u.func,.I u.pc,vv,vb,vs,vq,vp,D0]::cs)) ?_ (k:=B.ef.length)
  ⟨0,true,ap,aq,rfl,rfl,rfl,rfl,rfl,rfl,rfl,rfl,rfl,rfl,by omega,.inl rfl,S1,C.trans P,N.tail⟩
 rintro k2 t M x5 x7 d f m G S T U ⟨j,fst,I,W,rfl,rfl,rfl,rfl,ar,rfl,rfl,aV,rfl,rfl,aW,X,S2,p,n⟩;subst d G;unfold tO;by_cases hj:j<B.ef.length;rotate_left
 ·refine ir ?_;obtain rfl:j=B.ef.length:=by omega
  refine fM ⟨k1-1,by omega,b+1,I,W,rfl,?_,rfl,rfl,rfl,by omega,S2.next D,p,n⟩;rw[Dn D,I9]
 refine gv ?_;have e:At u (B.ef[j]) b j:=⟨B,D,ig hj⟩
 have Y:=g.jA _ _ _ e;obtain⟨x,Z⟩:∃x,u.ef[B.ef[j]]? =some x:=by simp_all
 have au:iA eN F U B.ef bv:=by
  obtain ⟨l7,o7,aX,aY,aZ,_,a4,a5,a6,_⟩:=(s.since p).mh D;have e1:l7=l7:=rfl;exact((by omega)|> λ_=>(by
   have hk:∀l,F l->U.get l=h7.get l:=λl hl=>(p.eR l hl).trans ((C.trans P).eR l hl).symm;exact R.eR hk))
 obtain ⟨l9,o9,_,j1,j2⟩:=au.nat (ig hj) .i64;refine ed j1 (ed j2 (ed (fI _ _) (ed (by rfl) (ed (by rfl) (ed (n.ld 2 rfl rfl) (ed (s.since p).v.len ?_))))));refine yS ?_;rw[PY Y];refine ed rfl ?_;have aw:=S2.no _ _ _ e (by omega);obtain⟨A,aQ⟩:=jq.1 aw;obtain⟨lb,ob,ub,b1,b2,b3⟩:=n.US 1 rfl (k:=B.ef[j]) A .i64 rfl;obtain rfl:ub = .I (-1):=by
  have:[ub]=[V.I I[B.ef[j]]]:=b3
  simp_all
 have eA:om (.bool (!true)) (oB (some (V.ptr lc 0)) λax=>oB (ij ax) λay=>oB (fH 5 ay) λaA=>oB (ey aA U) λaB=>oB (some (V.I (B.ef[j]:Nat))) λaC=>oB (gI 1 aB aC) λaD=>oB (ey aD U) λaE=>eo .geq 3 aE (V.I 0))=some (.bool false):=by
  have l5:ey (.ptr lc (0+5)) U=some vq:=n.ld 2 rfl rfl;simp only[wB3,ng,fe,fI,fJ,l5,b1,b2,po];rfl
 refine ed eA (iI (fT (by simp) ?_));obtain⟨lv,ov,wv,_,c1,_,_,cv⟩:=(s.since p).val Z;refine ed (fI _ _) (ed (by rfl) (ed (by rfl) (ed (n.ld 2 rfl rfl) (ed c1 (ed (by rfl) (ed cv.op ?_))))));refine ed (by rfl) ?_;have eH:om (.bool ((x.op:Int) == 21)) (oB (some (V.I x.op)) λaF=>eo .eql 3 aF (V.I 1))=some (.bool (hY x.op)):=by
  simp only[fe,ik,pe];unfold hY;rw[show((x.op:Int) == 21)=(x.op == 21) from XZ _ 21,show((x.op:Int) == 1)=(x.op == 1) from XZ _ 1,Bool.or_comm]
 refine ed eH ?_;have a7:hY x.op=true->fst=true:=by
  intro q;rcases X with a|⟨v,w,y,a,h2,rfl,h3,h4⟩
  ·exact a
  ·exfalso;have h5:=g.zW (B.ef[j]) w b (j-1) x y (by grind) a Z h3 q
   simp_all
 have aG:jz (.bool (hY x.op)) (oB (some (V.bool fst)) λaa=>oD .not aa)=some (.bool false):=by
  cases q:hY x.op with
  |false=>rfl
  |true=>simp_all
 refine ed aG ?_;have a8:hY x.op=true->((x.op:Int) == 1)=((b:Int) == 0):=by
  intro q;unfold hY at q;simp only[PR,IB]at q;rw[show((x.op:Int) == 1)=(x.op == 1) from XZ _ 1,show((b:Int) == 0)=(b == 0) from XZ _ 0];rcases q with a|a
  ·rw[g.par _ _ _ _ e Z a,a];rfl
  ·have:=(g.By _ _ _ _ _ e Z a D).1
   simp_all
 have eM:om (.bool false) (oB (some (V.I x.op)) λab=>oB (eo .eql 3 ab (V.I 1)) λac=>oB (some (V.I b)) λae=>oB (eo .eql 3 ae (V.I 0)) λag=>oB (eo .neq 4 ac ag) λah=>oB (some ah) λai=>jz ai (some (V.bool (hY x.op))))=some (.bool false):=by
  simp only[ng,fe,ik,TV,iD]
  cases q:hY x.op with
  |false=>simp
  |true=>simp_all
 refine ed eM (iI (fT (by simp) ?_));obtain⟨l10,a9,ba,aH,aI,aJ,aj,aK⟩:=n.Ir 1 rfl (k:=B.ef[j]) (y:=(b:Int)) (u:=V.I b) A rfl rfl rfl;simp only[mZ,jx]at aj;refine ed (fI _ _) (ed (by rfl) (ed (n.ld 2 rfl rfl) (ed (fI _ _) (ed (by rfl) (ed (n.ld 2 rfl rfl) (ed aH ?_))))));rw[aI,ej];obtain⟨l12,bb,bc,aL,aM,aN,ak,aO⟩:=aj.Ir 0 rfl (k:=B.ef[j]) (y:=(j:Int)) (u:=V.I j) (by rw[S2.np];exact Y) rfl rfl rfl;simp only[mZ,jx]at ak;refine⟨aJ,ed aL ?_⟩;rw[aM,ej];refine⟨aN,fM (fM ?_)⟩;refine⟨k2-1,by omega,j+1,hY x.op,I.set (B.ef[j]) (b:Int),W.set (B.ef[j]) (j:Int),rfl,?_,rfl,rfl,rfl,rfl,rfl,rfl,rfl,rfl,by omega,?_,S2.step g e,(p.trans aK).trans aO,ak⟩
 ·rfl
 ·cases q:hY x.op with
  |true=>simp_all
  |false=>exact .inr ⟨_,_,x,e,by omega,rfl,Z,q⟩
end
open Un Dm
def Ed{α:Type}(E:pG α)(PZ ty:Nat)(Hr:List (List α))(v:V)(ds:List V):Pc where
 kX:=λl=>Loc v l\/∃d∈ds,Loc d l
 ok F h:=∃t,v = .slice t 0 Hr.length/\t<h.next/\¬F t/\h.get t=some (.cells PZ 1 true false ds)/\ds.length=Hr.length/\(∀(i:Nat) x d,Hr[i]? =some x->ds[i]? =some d->jZ E ty F h x d)/\(∀d∈ds,¬Loc d t)/\
  ∀(i j:Nat) (d e:V),i≠j->ds[i]? =some d->ds[j]? =some e->∀l,Loc d l->¬Loc e l
 L0:=λ⟨t,f,g,o,p,k,b,m,n⟩ l a=>by
  rcases a with a|⟨d,c,a⟩
  ·simp_all
  ·obtain⟨i,hi⟩:=mm.1 c;have u:=(jq.1 hi).1;exact((b i _ d (ig (by omega)) hi).tZ a).2
 eR:=λ{F h h'} ⟨t,f,g,o,p,k,b,m,n⟩ q a s=>by
  refine⟨t,f,Cc g s,o,by simp_all,k,λi x d r c=>?_,m,n⟩;exact(b i x d r c).eR q (by grind) s
 mono:=λ{F F' h} ⟨t,f,g,o,p,k,b,m,n⟩ q a=>by
  refine⟨t,f,g,by simp_all,p,k,λi x d r c=>?_,m,n⟩;exact(b i x d r c).mono q (by grind)
theorem PT{α:Type}{E:pG α}{F:Nat->Prop}{h:Hp}:∀{Hr:List (List α)}{ds:List V},ds.length=Hr.length->(∀(i:Nat) x d,Hr[i]? =some x->ds[i]? =some d->iA E F h x d)->oX (eL E) F h ds Hr
 |[],_,_,_=>trivial
 |x::Hr,[],h,_=>by simp_all
 |x::Hr,d::ds,hl,H=>⟨[d],ds,rfl,⟨d,rfl,H 0 x d rfl rfl⟩,PT (by simp_all) λi x d a b=>H (i+1) x d (by simp_all) (by simp_all)⟩
section
variable{F F':Nat->Prop}{h h':Hp}{cs:List Pc}{α:Type}{E:pG α}{PZ ty:Nat}{Hr:List (List α)}{v:V}{ds:List V}
theorem ei.Ss(H:ei F h cs)(n:Nat):ei F (h.new (.cells PZ 1 true false (List.replicate n V.ee))) (Ed E PZ ty (List.replicate n []) (.slice h.next 0 n) (List.replicate n V.ee)::cs)/\Sn F h F (h.new (.cells PZ 1 true false (List.replicate n V.ee))):=by
 have c:∀{i:Nat} {d:V},(List.replicate n V.ee)[i]? =some d->d = .ee:=by grind
 refine H.new _ ⟨h.next,by simp,MC _,H.fresh,fg _ _,by simp,λi x d f b=>?_,λd b=>?_,λi j d e _ b _ l a=>?_⟩ λl a=>?_
 ·obtain rfl:=c b;obtain rfl:x=[]:=by grind
  exact .nil
 ·simp_all
 ·obtain rfl:=c b;exact a.elim
 ·rcases a with a|⟨d,b,a⟩
  ·exact a.symm
  simp_all
theorem ei.XW(H:ei F h cs)(i:Nat)(hi:cs[i]? =some (Ed E PZ ty Hr v ds)):fy v=some (.I Hr.length):=by
 obtain⟨t,rfl,_⟩:=H.ok i _ hi;rfl
theorem ei.RV(H:ei F h cs)(i:Nat)(hi:cs[i]? =some (Ed E PZ ty Hr v ds)){b:Nat}(Z:b<Hr.length){kE EI:Nat}{y:α}{w:List V}{ro:Bool}(M:E.rel F h y w)(hz:0<E.sz)(P:kE<=1000)(hlen:Hr[b].length<1000000) :
  ∃l d d' A B,ds[b]? =some d/\l<h.next/\gI 1 v (.I b)=some (.ptr l (b*1))/\ey (.ptr l (b*1)) h=some d/\eQ ty E.sz kE d (.slice h.next 0 1) (h.new (.cells EI E.sz true ro w))=some (.val d' A)/\h.next+1<=A.next/\
   gG 1 (.ptr l (b*1)) d' A=some (.val .undef B)/\A.next<=B.next/\ei F B (cs.set i (Ed E PZ ty (Hr.set b (Hr[b]++[y])) v (ds.set b d')))/\Sn F h F B:=by
 obtain⟨t,rfl,A,B,h4,h5,Q,R,N⟩:=H.ok i _ hi;obtain⟨d,J⟩:∃d,ds[b]? =some d:=by simp_all
 have T:=Q b _ d (ig Z) J;have C:=mm.2 ⟨b,J⟩;have U:jZ E ty F (h.new (.cells EI E.sz true ro w)) Hr[b] d:=T.eR (λl a=>fm _ (H.fl l a)) (λl a=>fm _ (T.tZ a).2.1) (Qe _);have hx:kG (h.new (.cells EI E.sz true ro w)) E.sz (.slice h.next 0 1)=some (1,w):=mJ (k:=0) (by rw[E.len M];simp);have aa:(Hr[b].length+1)*kE<=1000000*1000:=Nat.mul_le_mul (by omega) P;obtain⟨d',g,O,o1,K,l1⟩:=U.append (kE:=kE) (ys:=[y]) hx ⟨w,[],by simp,E.eR (λl a=>fm _ (H.fl l a)) M,trivial⟩ (by rw[E.len M];simp) (E.one M) (by simp) hz (λl a=>wBq (H.fl l a)) (by simp;omega) (by simp;omega);have n1:(h.new (.cells EI E.sz true ro w)).next=h.next+1:=rfl;have D:∀l,Loc d' l->Loc d l\/h.next<=l:=by grind
 have p:t<g.next:=by have:=K.next;omega
 have gt:g.get t=some (.cells PZ 1 true false ds):=by rw[K.eR t (by omega) (R d C),fm _ A];exact h4
 have L:=KR (o:=b*1) (v:=d') gt (by omega) o1.one;rw[Nat.mul_one]at L;have W:¬Loc d' t:=by grind
 have cg:kM (Ed E PZ ty Hr (.slice t 0 Hr.length) ds).kX h (g.put t (.cells PZ 1 true false (ds.set b d'))):=by
  refine(((kM.new h _).Wv λ_ _ h=>h).trans' (by omega) λl _ a=> .inr ⟨d,C,a⟩).trans' (kM.put (S:=λl=>l=t) _ rfl p) λl _ e=> .inl e.symm
 have m:∀{j:Nat} {e:V},(ds.set b d')[j]? =some e->(j=b/\e=d')\/(j≠b/\ds[j]? =some e):=by grind
 have q:∀{j:Nat} {e:V},ds[j]? =some e->∀l,Loc e l->l<h.next:=λ{j e} c l a=>by
  have ab:=(jq.1 c).1;exact((Q j _ e (ig (by omega)) c).tZ a).2.1
 refine⟨t,d,d',g,g.put t (.cells PZ 1 true false (ds.set b d')),J,A,?_,?_,O,K.next,by simp_all,iZ _,H.AS hi cg ?_ ?_⟩
 ·simp_all[vU,wX]
 ·rw[Nat.mul_one];grind[kr]
 ·refine ⟨t,by simp,p,B,fS _ p,by simp[h5],λj x e r c=>?_,λe c=>?_,λj k e f hn c hf l a s=>?_⟩
  ·rcases m c with⟨rfl,rfl⟩|⟨n,c⟩
   ·rw[MT Z]at r;obtain rfl:=Option.some.inj r;exact o1.eR (by grind[fZ]) (by grind[fZ]) (iZ _)
   ·rw[HO λe=>n e.symm]at r;have X:=mm.2 ⟨j,c⟩;refine(Q j x e r c).eR (λl a=>?_) (λl a=>?_) (by have:=K.next;show h.next<=g.next;omega)
    ·rw[fZ _ p λe=>B (e▸a),K.eR l (wBq (H.fl l a)) λG=>(T.tZ G).2.2 a,fm _ (H.fl l a)]
    ·have Y:=q c l a;rw[fZ _ p λe'=>R e X (e'▸a),K.eR l (by omega) λG=>N j b e d n c J l a G,fm _ Y]
  ·obtain⟨j,n⟩:=mm.1 c;rcases m n with⟨_,rfl⟩|⟨_,n⟩
   ·exact W
   ·exact R e (mm.2 ⟨j,n⟩)
  ·rcases m c with⟨O,e2⟩|⟨n,I⟩
   ·rcases m hf with⟨L,_⟩|⟨hk,u⟩
    ·exact hn (O.trans L.symm)
    ·subst O e2;rcases D l a with z|z
     ·exact N k j f d hk u J l s z
     ·have:=q u l s;omega
   ·rcases m hf with⟨L,e4⟩|⟨hk,u⟩
    ·subst L e4;rcases D l s with z|z
     ·exact N j k e d n I J l a z
     ·have:=q I l a;omega
    ·exact N j k e f hn I u l a s
 ·intro l a;rcases a with a|⟨e,c,a⟩
  ·exact .inl (.inl a)
  ·obtain ⟨j,n⟩:=mm.1 c;rcases m n with⟨_,rfl⟩|⟨_,n⟩
   ·rcases D l a with z|z
    ·exact .inl (.inr ⟨d,C,z⟩)
    ·exact .inr z
   ·exact .inl (.inr ⟨e,mm.2 ⟨j,n⟩,a⟩)
theorem ei.Sp(H:ei F h cs)(i:Nat)(hi:cs[i]? =some (Ed E PZ ty Hr v ds)):∃F',ei F' h (cs.set i emp)/\Sn F h F' h/\iA (eL E) F' h Hr v:=by
 have a:=H.ok i _ hi;obtain⟨c,e⟩:=H.zaI (p:=emp) (F':=λl=>F l\/(Ed E PZ ty Hr v ds).kX l) hi (kM.refl _ _) (by simp_all) (by grind) trivial λ_ h=>h.elim;refine⟨_,c,e,?_⟩;obtain⟨t,rfl,o,q,f,g,k,r,s⟩:=a;refine .inr ⟨t,0,PZ,true,false,ds,rfl,.inr (.inl rfl),f,.inr rfl,LK _,?_⟩;rw[Xk];exact PT g λj x d m b=>(k j x d m b).Xp (by simp_all) λl n=> .inr (.inr ⟨d,mm.2 ⟨j,b⟩,n⟩)
end
def hV(u:U)(i j b:Nat):List Nat:=jk (u.blocks.take i) 0 b++(match u.blocks[i]? with
 |some B=>((B.next.take j).filter (·= b)).map λ_=>i
 |none=>[])
theorem G6(u:U)(b:Nat):hV u 0 0 b=[]:=by
 grind[hV,jk]
theorem GV{u:U}{i j b t:Nat}{B:Bk}(a:u.blocks[i]? =some B)(c:B.next[j]? =some t):hV u i (j+1) b=if b=t then hV u i j b++[i] else hV u i j b:=by
 unfold hV;rw[a];obtain⟨d,rfl⟩:=jq.1 c;simp only[Qh d,wB1,Qi]
 grind
theorem Hh{u:U}{i b:Nat}{B:Bk}(a:u.blocks[i]? =some B):hV u (i+1) 0 b=hV u i B.next.length b:=by
 unfold hV;obtain⟨hi,rfl⟩:=jq.1 a;rw[a,Qh hi,pK];have c:(u.blocks.take i).length=i:=by rw[KN];omega
 simp only[c,wX,Js]
 grind[jk]
theorem ny(u:U)(b:Nat):hV u u.blocks.length 0 b=Un.ahead u b:=by
 simp_all[hV,Un.ahead,Js,Xa,iZ]
theorem nw{u:U}(g:Good u){i j b:Nat}(hi:i<=u.blocks.length)(f:j<=2):(hV u i j b).length<=2*i+2:=by
 have c:∀i,i<=u.blocks.length->(jk (u.blocks.take i) 0 b).length<=2*i:=by
  intro i
  induction i with
  |zero=>grind[jk]
  | succ i d=>
    intro hi;have a:i<u.blocks.length:=by omega
    rw[Qh a,pK];have:=d (by omega);have e:u.blocks[i]? =some u.blocks[i]:=by simp_all
    have k:(u.blocks[i]).next.length<=2:=by
      rcases g.fin i _ e with⟨_,h⟩|⟨_,h,_⟩|⟨_,h,_⟩
      ·omega
      ·omega
      ·simp_all
    have l:=U9 (λx=>decide (x=b)) (u.blocks[i]).next
    grind[I9,jk,BW,Zs]
 grind[hV,I9,Zs,U9,decide,BW,KN]
section
variable{F F':Nat->Prop}{h h':Hp}{cs:List Pc}{Q:fo}{u:U}{vv vb vs:V}
theorem Qd(g:Good u)(H0:ei F h cs)(A:CL F h u vv vb vs)(H:∀F' h' v,Sn F h F' h'->ei F' h' cs->iA (eL eN) F' h' ((List.range u.blocks.length).map (Un.ahead u)) v->Q v h') :
  cP CS wE [.agg (uC u vv vb vs)] h Q:=by
 refine OM rfl rfl ?_;unfold Jq;have nb:=g.nb;refine nQ H0 A.one λp S I=>?_;refine ed (by rfl) (ed (S.ld 0 rfl rfl) (ed (A.since I).b.len ?_));rw[jY (z:=V.ee) rfl (by decide) (by omega),fw];obtain⟨J,T⟩:=S.Ss (E:=eN) (PZ:=iy) (ty:=en) u.blocks.length;have K:List.replicate u.blocks.length ([]:List Nat)=(List.range u.blocks.length).map (hV u 0 0):=by
  refine List.ext_getElem (by simp) λi p h2=>?_;simp[G6]
 rw[K]at J;refine ed (by rfl) (ed (J.ld 1 rfl rfl) (ed (A.since (I.trans T)).b.len ?_))
 refine Kl (λk q a f m h'=>∃(i:Nat) (ds:List V),q = .slice p.next 0 u.blocks.length/\a=vb/\f = .I u.blocks.length/\m = .I i/\i+k=u.blocks.length/\Sn F h F h'/\
  ei F h' (Ed eN iy en ((List.range u.blocks.length).map (hV u i 0)) (.slice p.next 0 u.blocks.length) ds::cs)) ?_ (k:=u.blocks.length)
  ⟨0,_,rfl,rfl,rfl,rfl,by omega,I.trans T,(J.forget (i:=1) rfl)|> λH=>by
    simp only[mZ,jx]at H;exact⟨H.fl,λi c hc=>by
      cases i with
      |zero=>exact H.ok 0 c hc
      |succ i=>exact H.ok (i+2) c hc,λi j c d hc C hn=>by
      cases i with
      | zero=>
        cases j with
        |zero=>omega
        |succ j=>exact H.BS 0 (j+2) c d hc C (by omega)
      | succ i=>
        cases j with
        |zero=>exact H.BS (i+2) 0 c d hc C (by omega)
        |succ j=>exact H.BS (i+2) (j+2) c d hc C (by omega)⟩⟩
 rintro k q a f m h3 ⟨i,ds,rfl,L,rfl,rfl,hk,M,U⟩;subst a;unfold DC;by_cases hi:i<u.blocks.length;rotate_left
 ·refine ir ?_;obtain rfl:i=u.blocks.length:=by omega
  obtain ⟨F4,D,G,W⟩:=U.Sp 0 rfl;have e:(List.range u.blocks.length).map (hV u u.blocks.length 0)=(List.range u.blocks.length).map (Un.ahead u):=by
   refine(by grind[UL,ny])
  rw[e]at W;exact H F4 h3 _ (M.trans G) D.tail W
 refine gv ?_;obtain⟨B,N⟩:∃B,u.blocks[i]? =some B:=by simp_all
 obtain ⟨l7,o7,bv,bn,bp,_,i1,i2,iv,r,ip,_⟩:=(A.since M).mh N;have aa:B.next.length<=2:=by
  rcases g.fin i _ N with⟨_,h⟩|⟨_,h,_⟩|⟨_,h,_⟩
  ·omega
  ·omega
  ·simp_all
 refine ed i1 (ed i2 ?_);refine iH U rfl rfl (by simp only[lB,ev,iv.one,r.one,ip.one];rfl) λh4 D G=>?_;have r:=r.since G;refine ed (by rfl) (ed (D.ld 0 rfl rfl) (ed r.len ?_))
 refine KH (λk q X a f m n s t h'=>∃(j:Nat) (ds:List V),q = .slice p.next 0 u.blocks.length/\X = .I i/\a=vb/\f = .I u.blocks.length/\m = .I i/\n=bn/\s = .I B.next.length/\t = .I j/\
  j+k=B.next.length/\Sn F h4 F h'/\ei F h' (Ed eN iy en ((List.range u.blocks.length).map (hV u i j)) (.slice p.next 0 u.blocks.length) ds::cs)) ?_ (k:=B.next.length)
  ⟨0,ds,rfl,rfl,rfl,rfl,rfl,rfl,rfl,rfl,by omega,Sn.refl _ _,D.tail⟩
 rintro k1 q X a f m n s t Y ⟨j,x,rfl,rfl,L,rfl,rfl,ab,rfl,rfl,ac,O,Z⟩;subst a n;unfold Dg;by_cases hj:j<B.next.length;rotate_left
 ·refine ir ?_;obtain rfl:j=B.next.length:=by omega
  refine fM ⟨k-1,by omega,i+1,x,rfl,rfl,rfl,rfl,by omega,(M.trans G).trans O,?_⟩;have e:(List.range u.blocks.length).map (hV u (i+1) 0)=(List.range u.blocks.length).map (hV u i B.next.length):=by grind[UL,Hh]
  grind
 refine gv ?_;obtain⟨l8,o8,_,j1,j2⟩:=(r.since O).nat (ig hj) .i64;have P:B.next[j]<u.blocks.length:=g.nx i _ (by grind[next,BG]);have lN:=Z.XW 0 rfl;rw[BW,QV]at lN;refine ed j1 (ed j2 (ed lN ?_));refine yS (iI (gw (by simp_all) ?_));have o:B.next[j]<((List.range u.blocks.length).map (hV u i j)).length:=by simpa using P
 have ae:((List.range u.blocks.length).map (hV u i j))[B.next[j]]'o=hV u i j B.next[j]:=by simp
 obtain ⟨l,d,d',h6,h7,C,hl,e1,e2,e3,e4,e5,e6,H7,s7⟩:=Z.RV 0 rfl o (kE:=8) (EI:=3) (y:=i) (w:=[.I i]) (ro:=false) rfl (by decide) (by decide) (by
  grind[nw])
 refine ed e1 (ed e2 ?_);rw[pY,fw];have R:eQ 3 1 8 d (.slice Y.next 0 1) (Y.new (.cells 3 1 true false (gJ [i])))=some (.val d' h6):=e3;rw[R,ej];refine ed e1 ?_;rw[e5,ej];refine Jt ?_;unfold Cu;simp only[jx]at H7;refine fM ⟨k1-1,by omega,j+1,x.set (B.next[j]) d',rfl,rfl,rfl,rfl,rfl,rfl,rfl,rfl,by omega,O.trans s7,?_⟩;have e:((List.range u.blocks.length).map (hV u i j)).set (B.next[j]) (((List.range u.blocks.length).map (hV u i j))[B.next[j]]'o++[i])=(List.range u.blocks.length).map (hV u i (j+1)):=by
  refine List.ext_getElem (by simp) λb p h2=>?_;rw[List.getElem_set];simp only[List.getElem_map,List.getElem_range];rw[GV N (ig hj)];by_cases eb:B.next[j]=b
  ·simp_all
  ·grind
 simp_all
end
