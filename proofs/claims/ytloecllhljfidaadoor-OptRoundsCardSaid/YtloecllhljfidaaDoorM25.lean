/- Parts. -/
import Derived.Test.YtloecllhljfidaaDoorM24
import Derived.KernelRfl
set_option maxHeartbeats 4000000
namespace Go.Proofs.YtloecllhljfidaaDoor.Hx
open Un Dm
def pre(u:U)(b:Nat):List Nat:=(u.blocks.take b).flatMap (·.ef)
theorem Lw{u:U}{b:Nat}{B:Bk}(a:u.blocks[b]? =some B):pre u (b+1)=pre u b++B.ef:=by
 unfold pre;obtain⟨c,rfl⟩:=jk.1 a
 grind[Qs]
theorem Ob{u:U}{b v:Nat}:v∈pre u b↔∃c k,At u v c k/\c<b:=by
 unfold pre At;simp only[Tu];constructor
 ·grind[mr]
 ·rintro⟨c,k,⟨B,a,d⟩,e⟩;refine⟨B,mr.2 ⟨c,?_⟩,by grind⟩
  simp_all
theorem GC{u:U}(g:Good u){b:Nat}{B:Bk}(a:u.blocks[b]? =some B):B.ef.Nodup:=by
 rw[List.nodup_iff_pairwise_ne,ZZ];intro i j hi c d e;have f:At u (B.ef[i]) b i:=⟨B,a,g0 hi⟩
 have h:At u (B.ef[i]) b j:=⟨B,a,by rw[e];exact g0 c⟩
 have:=(g.AH _ _ _ _ _ f h).2;omega
theorem Ie{u:U}(g:Good u):∀b,(pre u b).Nodup
 |0=>by simp[pre]
 | b + 1=>by
   by_cases hb:b<u.blocks.length
   ·have a:=g0 hb
    rw[Lw a,Zq];refine⟨Ie g b,GC g a,λv d w f e=>?_⟩;subst e;obtain⟨c,k,h,l⟩:=Ob.1 d;obtain⟨j,i⟩:=mr.1 f;have:=(g.AH _ _ _ _ _ h ⟨_,a,i⟩).1;omega
   ·have:pre u (b+1)=pre u b:=by
      unfold pre;rw[wBA (by omega),wBA (by omega)]
    rw[this];exact Ie g b
theorem OR{u:U}(g:Good u):(pre u u.blocks.length).length=u.ef.length:=by
 refine Nat.le_antisymm (jr _ _ (Ie g _) λv hv=>?_) ?_
 ·obtain⟨c,k,a,_⟩:=Ob.1 hv;exact g.jz _ _ _ a
 ·have a:(List.range u.ef.length).length=u.ef.length:=SB;rw[<-a];refine sub_le _ _ ZB λv hv=>?_;rw[Rf]at hv;obtain⟨b,k,d⟩:=g.xM v hv trivial;refine Ob.2 ⟨b,k,d,?_⟩;obtain⟨B,e,_⟩:=d
  grind
structure Std (u:U) (b k:Nat) (bl pl:List Int):Prop where
 nb:bl.length=u.ef.length
 np:pl.length=u.ef.length
 yes:∀(v c j:Nat),At u v c j->(c<b\/(c=b/\j<k))->bl[v]? =some (c:Int)/\pl[v]? =some (j:Int)
 no:∀(v c j:Nat),At u v c j->¬(c<b\/(c=b/\j<k))->bl[v]? =some (-1)
theorem Std.step{u:U}{b k:Nat}{bl pl:List Int}(g:Good u)(S:Std u b k bl pl){v:Nat}(hv:At u v b k):Std u b (k+1) (bl.set v (b:Int)) (pl.set v (k:Int)):=by
 have d:=g.jz _ _ _ hv;refine⟨by simp[S.nb],by simp[S.np],λw c j a hc=>?_,λw c j a hc=>?_⟩
 ·by_cases e:w=v
  ·subst e;obtain⟨rfl,rfl⟩:=g.AH _ _ _ _ _ a hv;rw[Mt (by rw[S.nb];exact d),Mt (by rw[S.np];exact d)]
   simp_all
  ·rw [IB (by omega),IB (by omega)];refine S.yes w c j a ?_;rcases hc with h|⟨rfl,h⟩
   ·omega
   ·refine .inr ⟨rfl,?_⟩;rcases Re j k with f|f
    ·exact f
    ·exfalso;obtain rfl:j=k:=by omega
     obtain⟨B,i,l⟩:=a;obtain⟨m,n,o⟩:=hv
     simp_all
 ·have e:w≠v:=λe=>by
   subst e;obtain⟨rfl,rfl⟩:=g.AH _ _ _ _ _ a hv;omega
  rw[IB (by omega)];exact S.no w c j a (by omega)
theorem Std.next{u:U}{b:Nat}{bl pl:List Int}{B:Bk}(g:u.blocks[b]? =some B)(S:Std u b B.ef.length bl pl):Std u (b+1) 0 bl pl:=by
 have f:∀v c j,At u v c j->((c<b\/(c=b/\j<B.ef.length))↔(c<b+1\/(c=b+1/\j<0))):=by
  intro v c j hv;constructor
  ·omega
  ·intro h;by_cases e:c=b
   ·subst e;obtain⟨i,a,d⟩:=hv
    grind
   ·omega
 exact⟨S.nb,S.np,λv c j a d=>S.yes v c j a (by grind),λv c j a d=>S.no v c j a (by omega)⟩
theorem Xu:P0.underlying mg=some .bool:=by kernel_rfl
theorem U9(a b:Bool):eJ .neq mg (.bool a) (.bool b)=some (.bool (a != b)):=by
 show Vo mg true (.bool a) (.bool b)=_;unfold Vo zaz WU;rw[Xu];rfl
section
variable{F F':Nat->Prop}{h h':Hp}{cs:List Pc}{Q:fq}{u:U}{vv vb vs:V}{lc:Nat}{bl pl CZ:V}
theorem Xw(g:Good u){ty:Nat}(H0:ej F h (er lc ty [.I u.func,.I u.pc,vv,vb,vs,bl,pl,CZ]::cs))(s:tL F h u vv vb vs)
  (H:∀F' h' b' p' xs ys,Sn F h F' h'->ej F' h' (er lc ty [.I u.func,.I u.pc,vv,vb,vs,b',p',CZ]::cs)->iG eZ F' h' xs b'->iG eZ F' h' ys p'->Std u u.blocks.length 0 xs ys->Q (.bool true) h') :
  cP CS ni [.ptr lc 0] h Q:=by
 refine ES rfl rfl ?_;unfold xe;have nv:=g.nv;have nb:=g.nb;have aQ:lc<h.next:=(H0.ok 0 _ rfl).2.1;refine ed (fI _ _) (ed (by rfl) (ed (by rfl) (ed (H0.ld 0 rfl rfl) (ed s.v.len ?_))));rw[oC (z:=V.I 0) rfl (by decide) (by omega),gZ];obtain⟨H1,s1⟩:=H0.make (E:=eZ) (ty:=en) (y:=0) (u:=V.I 0) u.ef.length rfl rfl;have n1:(h.new (.cells en 1 true false (List.replicate u.ef.length (V.I 0)))).next=h.next+1:=rfl;have g1:(h.new (.cells en 1 true false (List.replicate u.ef.length (V.I 0)))).get h.next=_:=fi _ _;show oP (gU (.ptr lc 0)) _;generalize ak:h.new (.cells en 1 true false (List.replicate u.ef.length (V.I 0)))=a at*;refine ed (fI _ _) (ed (by rfl) (ed (by rfl) (ed (H1.ld 1 rfl rfl) (ed (s.since s1).v.len ?_))));rw[oC (z:=V.I 0) rfl (by decide) (by omega),gZ];obtain⟨H2,s2⟩:=H1.make (E:=eZ) (ty:=en) (y:=0) (u:=V.I 0) u.ef.length rfl rfl;have g2:(a.new (.cells en 1 true false (List.replicate u.ef.length (V.I 0)))).get a.next=_:=fi _ _;have al:=(fh (h:=a) (.cells en 1 true false (List.replicate u.ef.length (V.I 0))) (l:=h.next) (by omega)).trans g1;have n2:(a.new (.cells en 1 true false (List.replicate u.ef.length (V.I 0)))).next=a.next+1:=rfl;show oP (gU (.ptr lc 0)) _;generalize am:a.new (.cells en 1 true false (List.replicate u.ef.length (V.I 0)))=h2 at*;refine ed (fI _ _) (ed (by rfl) ⟨by simp_all,H2.ld 2 rfl rfl,by simp_all,H2.ld 2 rfl rfl,?_⟩);obtain⟨h3,e3,n3,H3,s3,k3⟩:=H2.stk 2 (o:=5) (u:= .slice h.next 0 u.ef.length) rfl (by simp) rfl;rw[show V.ptr lc (0+5)=V.ptr lc 5 from rfl,e3,ei];refine⟨n3,ed (fI _ _) (ed (by rfl) ⟨by grind[trans,O.lC],?_⟩)⟩;simp only[lU,jx]at H3;obtain⟨h4,e4,n4,H4,s4⟩:=H3.st 2 (o:=6) (u:= .slice a.next 0 u.ef.length) rfl (by simp) rfl;rw[show V.ptr lc (0+6)=V.ptr lc 6 from rfl,e4,ei];refine⟨n4,?_⟩;simp only[lU,jx]at H4;have aR:=((s1.trans s2).trans s3).trans s4;clear e3 e4 k3 g1 al g2 H1 H2 H3 s1 s2 s3 s4 ak am;generalize V.slice a.next 0 u.ef.length=vp at*;generalize V.slice h.next 0 u.ef.length=vq at*;have lq:=H4.len 1 (xs:=List.replicate u.ef.length (0:Int)) rfl;rw[wBY]at lq;refine ed (fI _ _) (ed (by rfl) (ed (H4.ld 2 rfl rfl) (ed lq ?_)))
 refine BC (λk t K L h'=>∃(i:Nat) (xs:List Int),t = .ptr lc 0/\K = .I u.ef.length/\L = .I i/\i+k=u.ef.length/\xs.length=u.ef.length/\(∀j,j<i->xs[j]? =some (-1))/\Sn F h F h'/\
  ej F h' (ev eZ en (List.replicate u.ef.length (0:Int)) vp::ev eZ en xs vq::er lc ty [.I u.func,.I u.pc,vv,vb,vs,vq,vp,CZ]::cs)) ?_ (k:=u.ef.length)
  (by grind)
 rintro k t K L h5 ⟨i,xs,rfl,rfl,rfl,hk,an,hm,s5,H5⟩;unfold tH;by_cases hi:i<u.ef.length
 ·refine gR ?_;obtain⟨l6,o6,h6,e6,e7,n6,J,C⟩:=H5.Ma 1 rfl (k:=i) (y:=(-1:Int)) (u:=V.I (-1)) (by omega) rfl rfl rfl;refine ed (fI _ _) (ed (by rfl) (ed (H5.ld 2 rfl rfl) (ed e6 ?_)));rw[e7,ei];simp only[lU,jx]at J;refine fS ⟨k-1,by omega,i+1,xs.set i (-1),rfl,rfl,rfl,by omega,by simp_all,λj hj=>?_,s5.trans C,J⟩
  grind
 refine jf ?_;refine ed (fI _ _) (ed (by rfl) (ed (by rfl) (ed (H5.ld 2 rfl rfl) (ed (s.since s5).b.len ?_))));have S0:Std u 0 0 xs (List.replicate u.ef.length (0:Int)):=⟨an,by simp,by omega,λv c j a _=>hm v (by have:=g.jz _ _ _ a;omega)⟩
 refine Bl (λk t M d f m h'=>∃(b:Nat) (xs ys:List Int),t = .ptr lc 0/\M = .I ((pre u b).length:Nat)/\d=vb/\f = .I u.blocks.length/\m = .I b/\b+k=u.blocks.length/\Std u b 0 xs ys/\Sn F h F h'/\
  ej F h' (ev eZ en ys vp::ev eZ en xs vq::er lc ty [.I u.func,.I u.pc,vv,vb,vs,vq,vp,CZ]::cs)) ?_ (k:=u.blocks.length)
  ⟨0,xs,_,rfl,rfl,rfl,rfl,rfl,by omega,S0,s5,H5⟩
 rintro k1 t M d f m h6 ⟨b,ao,ap,rfl,rfl,aq,rfl,rfl,aS,S1,C,J⟩;subst d;unfold tM;by_cases hb:b<u.blocks.length;rotate_left
 ·refine jf ?_;obtain rfl:b=u.blocks.length:=by omega
  refine ed (fI _ _) (ed (by rfl) (ed (by rfl) (ed (J.ld 2 rfl rfl) (ed (s.since C).v.len (ju ?_)))));rw[OR g,O7 rfl];obtain⟨N,P,r7⟩:=J.lH 0 rfl;simp only[lU,jx]at N;obtain⟨n,p,r8⟩:=N.lH 1 rfl;simp only[lU,jx]at n;exact H _ _ _ _ _ _ ((C.trans P).trans p) n.tail.tail r8 (r7.since p) S1
 refine gR ?_;obtain⟨B,D⟩:∃B,u.blocks[b]? =some B:=by simp_all
 obtain ⟨l7,o7,bv,bn,bp,_,i1,i2,R,iN,ip,_⟩:=(s.since C).vf D;refine ed i1 (ed i2 ?_);refine gQ J rfl rfl (by simp only[kS,eo,R.one,iN.one,ip.one];rfl) λh7 N P=>?_;have R:=R.since P;refine ed (by rfl) (ed (N.ld 0 rfl rfl) (ed R.len ?_));have aT:(pre u b).length<=u.ef.length:=by
  rw[<-OR g];unfold pre;have:u.blocks.take b <+: u.blocks:=List.take_prefix _ _;obtain⟨r,hr⟩:=this
  conv=>rhs;rw[Hj,<-hr,List.flatMap_append,KC]
  omega
 have aO:(pre u b).length+B.ef.length<=u.ef.length:=by
  rw[<-KC,<-Lw D];rw[<-OR g];unfold pre;have:u.blocks.take (b+1) <+: u.blocks:=List.take_prefix _ _;obtain⟨r,hr⟩:=this
  conv=>rhs;rw[Hj,<-hr,List.flatMap_append,KC]
  omega
 refine BD (λk t M x5 x7 d f m G S T h'=>∃(j:Nat) (fst:Bool) (xs ys:List Int),t = .ptr lc 0/\M = .I (((pre u b).length+j:Nat):Int)/\x5 = .I b/\x7 = .bool fst/\d=vb/\f = .I u.blocks.length/\m = .I b/\
  G=bv/\S = .I B.ef.length/\T = .I j/\j+k=B.ef.length/\(fst=true\/∃v w x,At u v b (j-1)/\0<j/\w=v/\u.ef[v]? =some x/\iF x.op=false)/\Std u b j xs ys/\Sn F h F h'/\
  ej F h' (ev eZ en ys vp::ev eZ en xs vq::er lc ty [.I u.func,.I u.pc,vv,vb,vs,vq,vp,CZ]::cs)) ?_ (k:=B.ef.length)
  ⟨0,true,ao,ap,rfl,rfl,rfl,rfl,rfl,rfl,rfl,rfl,rfl,rfl,by omega,.inl rfl,S1,C.trans P,N.tail⟩
 rintro k2 t M x5 x7 d f m G S T U ⟨j,fst,I,W,rfl,rfl,rfl,rfl,aq,rfl,rfl,aU,rfl,rfl,aV,X,S2,p,n⟩;subst d G;unfold uk;by_cases hj:j<B.ef.length;rotate_left
 ·refine jf ?_;obtain rfl:j=B.ef.length:=by omega
  refine fS ⟨k1-1,by omega,b+1,I,W,rfl,?_,rfl,rfl,rfl,by omega,S2.next D,p,n⟩;rw[Lw D,KC]
 refine gR ?_;have e:At u (B.ef[j]) b j:=⟨B,D,g0 hj⟩
 have Y:=g.jz _ _ _ e;obtain⟨x,hx⟩:∃x,u.ef[B.ef[j]]? =some x:=by simp_all
 have ar:iG eN F U B.ef bv:=by
  obtain ⟨l7,o7,aW,aX,aY,_,aZ,a5,a6,_⟩:=(s.since p).vf D;have e1:l7=l7:=rfl;exact((by omega)|> λ_=>(by
   have hk:∀l,F l->U.get l=h7.get l:=λl hl=>(p.fe l hl).trans ((C.trans P).fe l hl).symm;exact R.fe hk))
 obtain ⟨l9,o9,_,j1,j2⟩:=ar.nat (g0 hj) .i64;refine ed j1 (ed j2 (ed (fI _ _) (ed (by rfl) (ed (by rfl) (ed (n.ld 2 rfl rfl) (ed (s.since p).v.len ?_))))));refine yi ?_;rw[O7 Y];refine ed rfl ?_;have au:=S2.no _ _ _ e (by omega);obtain⟨A,aP⟩:=jk.1 au;obtain⟨lb,ob,ub,b1,b2,b3⟩:=n.Wj 1 rfl (k:=B.ef[j]) A .i64 rfl;obtain rfl:ub = .I (-1):=by
  have:[ub]=[V.I I[B.ef[j]]]:=b3
  simp_all
 have eA:uP (.bool (!true)) (oB (some (V.ptr lc 0)) λaw=>oB (gU aw) λax=>oB (fQ 5 ax) λay=>oB (eQ ay U) λaA=>oB (some (V.I (B.ef[j]:Nat))) λaB=>oB (hV 1 aA aB) λaC=>oB (eQ aC U) λaD=>eJ .geq 3 aD (V.I 0))=some (.bool false):=by
  have l5:eQ (.ptr lc (0+5)) U=some vq:=n.ld 2 rfl rfl;simp only[wCA,qd,fy,fI,fR,l5,b1,b2,pq];rfl
 refine ed eA (jF (gv (by simp) ?_));obtain⟨lv,ov,wv,_,c1,_,_,cv⟩:=(s.since p).val hx;refine ed (fI _ _) (ed (by rfl) (ed (by rfl) (ed (n.ld 2 rfl rfl) (ed c1 (ed (by rfl) (ed cv.op ?_))))));refine ed (by rfl) ?_;have eH:uP (.bool ((x.op:Int) == 21)) (oB (some (V.I x.op)) λaE=>eJ .eql 3 aE (V.I 1))=some (.bool (iF x.op)):=by
  simp only[fy,ie,pD];unfold iF;rw[show((x.op:Int) == 21)=(x.op == 21) from ieq _ 21,show((x.op:Int) == 1)=(x.op == 1) from ieq _ 1,Bool.or_comm]
 refine ed eH ?_;have a7:iF x.op=true->fst=true:=by
  intro q;rcases X with a|⟨v,w,y,a,h2,rfl,h3,h4⟩
  ·exact a
  ·exfalso;have h5:=g.uS (B.ef[j]) w b (j-1) x y (by grind) a hx h3 q
   simp_all
 have aF:mn (.bool (iF x.op)) (oB (some (V.bool fst)) λZ=>vC .not Z)=some (.bool false):=by
  cases q:iF x.op with
  |false=>rfl
  |true=>simp_all
 refine ed aF ?_;have a8:iF x.op=true->((x.op:Int) == 1)=((b:Int) == 0):=by
  intro q;unfold iF at q;simp only[Rc,EE]at q;rw[show((x.op:Int) == 1)=(x.op == 1) from ieq _ 1,show((b:Int) == 0)=(b == 0) from ieq _ 0];rcases q with a|a
  ·rw[g.par _ _ _ _ e hx a,a];rfl
  ·have:=(g.Ae _ _ _ _ _ e hx a D).1
   simp_all
 have eM:uP (.bool false) (oB (some (V.I x.op)) λaa=>oB (eJ .eql 3 aa (V.I 1)) λab=>oB (some (V.I b)) λac=>oB (eJ .eql 3 ac (V.I 0)) λae=>oB (eJ .neq 4 ab ae) λag=>oB (some ag) λah=>mn ah (some (V.bool (iF x.op))))=some (.bool false):=by
  simp only[qd,fy,ie,U9,jD]
  cases q:iF x.op with
  |false=>simp
  |true=>simp_all
 refine ed eM (jF (gv (by simp) ?_));obtain⟨l10,a9,ba,aG,aH,aI,ai,aJ⟩:=n.Ma 1 rfl (k:=B.ef[j]) (y:=(b:Int)) (u:=V.I b) A rfl rfl rfl;simp only[lU,jx]at ai;refine ed (fI _ _) (ed (by rfl) (ed (n.ld 2 rfl rfl) (ed (fI _ _) (ed (by rfl) (ed (n.ld 2 rfl rfl) (ed aG ?_))))));rw[aH,ei];obtain⟨l12,bb,bc,aK,aL,aM,aj,aN⟩:=ai.Ma 0 rfl (k:=B.ef[j]) (y:=(j:Int)) (u:=V.I j) (by rw[S2.np];exact Y) rfl rfl rfl;simp only[lU,jx]at aj;refine⟨aI,ed aK ?_⟩;rw[aL,ei];refine⟨aM,fS (fS ?_)⟩;refine⟨k2-1,by omega,j+1,iF x.op,I.set (B.ef[j]) (b:Int),W.set (B.ef[j]) (j:Int),rfl,?_,rfl,rfl,rfl,rfl,rfl,rfl,rfl,rfl,by omega,?_,S2.step g e,(p.trans aJ).trans aN,aj⟩
 ·rfl
 ·cases q:iF x.op with
  |true=>simp_all
  |false=>exact .inr ⟨_,_,x,e,by omega,rfl,hx,q⟩
end
open Un Dm
def Ci{α:Type}(E:o0 α)(N9 ty:Nat)(GK:List (List α))(v:V)(ds:List V):Pc where
 lh:=λl=>Loc v l\/∃d∈ds,Loc d l
 ok F h:=∃t,v = .slice t 0 GK.length/\t<h.next/\¬F t/\h.get t=some (.cells N9 1 true false ds)/\ds.length=GK.length/\(∀(i:Nat) x d,GK[i]? =some x->ds[i]? =some d->jY E ty F h x d)/\(∀d∈ds,¬Loc d t)/\
  ∀(i j:Nat) (d e:V),i≠j->ds[i]? =some d->ds[j]? =some e->∀l,Loc d l->¬Loc e l
 LR:=λ⟨t,f,g,o,p,k,b,m,n⟩ l a=>by
  rcases a with a|⟨d,c,a⟩
  ·simp_all
  ·obtain⟨i,hi⟩:=mr.1 c;have s:=(jk.1 hi).1;exact((b i _ d (g0 (by omega)) hi).rI a).2
 fe:=λ{F h h'} ⟨t,f,g,o,p,k,b,m,n⟩ q a r=>by
  refine⟨t,f,BF g r,o,by simp_all,k,λi x d hx c=>?_,m,n⟩;exact(b i x d hx c).fe q (by grind) r
 mono:=λ{F F' h} ⟨t,f,g,o,p,k,b,m,n⟩ q a=>by
  refine⟨t,f,g,by simp_all,p,k,λi x d hx c=>?_,m,n⟩;exact(b i x d hx c).mono q (by grind)
theorem QB{α:Type}{E:o0 α}{F:Nat->Prop}{h:Hp}:∀{GK:List (List α)}{ds:List V},ds.length=GK.length->(∀(i:Nat) x d,GK[i]? =some x->ds[i]? =some d->iG E F h x d)->pd (eL E) F h ds GK
 |[],_,_,_=>trivial
 |x::GK,[],h,_=>by simp_all
 |x::GK,d::ds,hl,H=>⟨[d],ds,rfl,⟨d,rfl,H 0 x d rfl rfl⟩,QB (by simp_all) λi x d hx a=>H (i+1) x d (by simp_all) (by simp_all)⟩
section
variable{F F':Nat->Prop}{h h':Hp}{cs:List Pc}{α:Type}{E:o0 α}{N9 ty:Nat}{GK:List (List α)}{v:V}{ds:List V}
theorem ej.Ud(H:ej F h cs)(n:Nat):ej F (h.new (.cells N9 1 true false (List.replicate n V.ee))) (Ci E N9 ty (List.replicate n []) (.slice h.next 0 n) (List.replicate n V.ee)::cs)/\Sn F h F (h.new (.cells N9 1 true false (List.replicate n V.ee))):=by
 have c:∀{i:Nat} {d:V},(List.replicate n V.ee)[i]? =some d->d = .ee:=by grind
 refine H.new _ ⟨h.next,by simp,Pd _,H.fresh,fi _ _,by simp,λi x d hx b=>?_,λd b=>?_,λi j d e _ b _ l a=>?_⟩ λl a=>?_
 ·obtain rfl:=c b;obtain rfl:x=[]:=by grind
  exact .nil
 ·simp_all
 ·obtain rfl:=c b;exact a.elim
 ·rcases a with a|⟨d,b,a⟩
  ·exact a.symm
  simp_all
theorem ej.Zx(H:ej F h cs)(i:Nat)(hi:cs[i]? =some (Ci E N9 ty GK v ds)):fD v=some (.I GK.length):=by
 obtain⟨t,rfl,_⟩:=H.ok i _ hi;rfl
theorem ej.T3(H:ej F h cs)(i:Nat)(hi:cs[i]? =some (Ci E N9 ty GK v ds)){b:Nat}(hb:b<GK.length){kj B2:Nat}{y:α}{w:List V}{ro:Bool}(M:E.rel F h y w)(hz:0<E.sz)(P:kj<=1000)(hlen:GK[b].length<1000000) :
  ∃l d d' A B,ds[b]? =some d/\l<h.next/\hV 1 v (.I b)=some (.ptr l (b*1))/\eQ (.ptr l (b*1)) h=some d/\eR ty E.sz kj d (.slice h.next 0 1) (h.new (.cells B2 E.sz true ro w))=some (.val d' A)/\h.next+1<=A.next/\
   gh 1 (.ptr l (b*1)) d' A=some (.val .undef B)/\A.next<=B.next/\ej F B (cs.set i (Ci E N9 ty (GK.set b (GK[b]++[y])) v (ds.set b d')))/\Sn F h F B:=by
 obtain⟨t,rfl,A,B,h4,h5,Q,R,N⟩:=H.ok i _ hi;obtain⟨d,J⟩:∃d,ds[b]? =some d:=by simp_all
 have hO:=Q b _ d (g0 hb) J;have C:=mr.2 ⟨b,J⟩;have T:jY E ty F (h.new (.cells B2 E.sz true ro w)) GK[b] d:=hO.fe (λl a=>fh _ (H.fl l a)) (λl a=>fh _ (hO.rI a).2.1) (Qd _);have hx:kW (h.new (.cells B2 E.sz true ro w)) E.sz (.slice h.next 0 1)=some (1,w):=mS (k:=0) (by rw[E.len M];simp);have aa:(GK[b].length+1)*kj<=1000000*1000:=Nat.mul_le_mul (by omega) P;obtain⟨d',g,O,Y,K,l1⟩:=T.append (kj:=kj) (ys:=[y]) hx ⟨w,[],by simp,E.fe (λl a=>fh _ (H.fl l a)) M,trivial⟩ (by rw[E.len M];simp) (E.one M) (by simp) hz (λl a=>wBi (H.fl l a)) (by simp;omega) (by simp;omega);have n1:(h.new (.cells B2 E.sz true ro w)).next=h.next+1:=rfl;have D:∀l,Loc d' l->Loc d l\/h.next<=l:=by grind
 have p:t<g.next:=by have:=K.next;omega
 have gt:g.get t=some (.cells N9 1 true false ds):=by rw[K.fe t (by omega) (R d C),fh _ A];exact h4
 have L:=LJ (o:=b*1) (v:=d') gt (by omega) Y.one;rw[Nat.mul_one]at L;have U:¬Loc d' t:=by grind
 have cg:lO (Ci E N9 ty GK (.slice t 0 GK.length) ds).lh h (g.put t (.cells N9 1 true false (ds.set b d'))):=by
  refine(((lO.new h _).Xm λ_ _ h=>h).trans' (by omega) λl _ a=> .inr ⟨d,C,a⟩).trans' (lO.put (S:=λl=>l=t) _ rfl p) λl _ e=> .inl e.symm
 have m:∀{j:Nat} {e:V},(ds.set b d')[j]? =some e->(j=b/\e=d')\/(j≠b/\ds[j]? =some e):=by grind
 have q:∀{j:Nat} {e:V},ds[j]? =some e->∀l,Loc e l->l<h.next:=λ{j e} c l a=>by
  have ab:=(jk.1 c).1;exact((Q j _ e (g0 (by omega)) c).rI a).2.1
 refine⟨t,d,d',g,g.put t (.cells N9 1 true false (ds.set b d')),J,A,?_,?_,O,K.next,by simp_all,jb _,H.zL hi cg ?_ ?_⟩
 ·simp_all[vN,wO]
 ·rw[Nat.mul_one];grind[kK]
 ·refine ⟨t,by simp,p,B,fP _ p,by simp[h5],λj x e r c=>?_,λe c=>?_,λj k e f Z c hf l a s=>?_⟩
  ·rcases m c with⟨rfl,rfl⟩|⟨n,c⟩
   ·rw[Mt hb]at r;obtain rfl:=Option.some.inj r;exact Y.fe (by grind[gf]) (by grind[gf]) (jb _)
   ·rw[IB λe=>n e.symm]at r;have W:=mr.2 ⟨j,c⟩;refine(Q j x e r c).fe (λl a=>?_) (λl a=>?_) (by have:=K.next;show h.next<=g.next;omega)
    ·rw[gf _ p λe=>B (e▸a),K.fe l (wBi (H.fl l a)) λG=>(hO.rI G).2.2 a,fh _ (H.fl l a)]
    ·have X:=q c l a;rw[gf _ p λe'=>R e W (e'▸a),K.fe l (by omega) λG=>N j b e d n c J l a G,fh _ X]
  ·obtain⟨j,n⟩:=mr.1 c;rcases m n with⟨_,rfl⟩|⟨_,n⟩
   ·exact U
   ·exact R e (mr.2 ⟨j,n⟩)
  ·rcases m c with⟨O,e2⟩|⟨n,I⟩
   ·rcases m hf with⟨L,_⟩|⟨hk,u⟩
    ·exact Z (O.trans L.symm)
    ·subst O e2;rcases D l a with z|z
     ·exact N k j f d hk u J l s z
     ·have:=q u l s;omega
   ·rcases m hf with⟨L,e4⟩|⟨hk,u⟩
    ·subst L e4;rcases D l s with z|z
     ·exact N j k e d n I J l a z
     ·have:=q I l a;omega
    ·exact N j k e f Z I u l a s
 ·intro l a;rcases a with a|⟨e,c,a⟩
  ·exact .inl (.inl a)
  ·obtain ⟨j,n⟩:=mr.1 c;rcases m n with⟨_,rfl⟩|⟨_,n⟩
   ·rcases D l a with z|z
    ·exact .inl (.inr ⟨d,C,z⟩)
    ·exact .inr z
   ·exact .inl (.inr ⟨e,mr.2 ⟨j,n⟩,a⟩)
theorem ej.TT(H:ej F h cs)(i:Nat)(hi:cs[i]? =some (Ci E N9 ty GK v ds)):∃F',ej F' h (cs.set i emp)/\Sn F h F' h/\iG (eL E) F' h GK v:=by
 have a:=H.ok i _ hi;obtain⟨c,e⟩:=H.zaA (p:=emp) (F':=λl=>F l\/(Ci E N9 ty GK v ds).lh l) hi (lO.refl _ _) (by simp_all) (by grind) trivial λ_ h=>h.elim;refine⟨_,c,e,?_⟩;obtain⟨t,rfl,n,o,f,g,k,q,r⟩:=a;refine .inr ⟨t,0,N9,true,false,ds,rfl,.inr (.inl rfl),f,.inr rfl,Jw _,?_⟩;rw[X9];exact QB g λj x d hx b=>(k j x d hx b).Zm (by simp_all) λl m=> .inr (.inr ⟨d,mr.2 ⟨j,b⟩,m⟩)
end
def jy(u:U)(i j b:Nat):List Nat:=jv (u.blocks.take i) 0 b++(match u.blocks[i]? with
 |some B=>((B.next.take j).filter (·= b)).map λ_=>i
 |none=>[])
theorem NC(u:U)(b:Nat):jy u 0 0 b=[]:=by
 grind[jy,jv]
theorem NQ{u:U}{i j b t:Nat}{B:Bk}(a:u.blocks[i]? =some B)(ht:B.next[j]? =some t):jy u i (j+1) b=if b=t then jy u i j b++[i] else jy u i j b:=by
 unfold jy;rw[a];obtain⟨c,rfl⟩:=jk.1 ht;simp only[Qs c,wBu,MA]
 grind
theorem NB{u:U}{i b:Nat}{B:Bk}(a:u.blocks[i]? =some B):jy u (i+1) 0 b=jy u i B.next.length b:=by
 unfold jy;obtain⟨hi,rfl⟩:=jk.1 a;rw[a,Qs hi,pT];have c:(u.blocks.take i).length=i:=by rw[JT];omega
 simp only[c,wO,Hj]
 grind[jv]
theorem pG(u:U)(b:Nat):jy u u.blocks.length 0 b=Un.ahead u b:=by
 simp_all[jy,Un.ahead,Hj,JA,jb]
theorem pU{u:U}(g:Good u){i j b:Nat}(hi:i<=u.blocks.length)(f:j<=2):(jy u i j b).length<=2*i+2:=by
 have c:∀i,i<=u.blocks.length->(jv (u.blocks.take i) 0 b).length<=2*i:=by
  intro i
  induction i with
  |zero=>grind[jv]
  | succ i d=>
    intro hi;have a:i<u.blocks.length:=by omega
    rw[Qs a,pT];have:=d (by omega);have e:u.blocks[i]? =some u.blocks[i]:=by simp_all
    have k:(u.blocks[i]).next.length<=2:=by
      rcases g.fin i _ e with⟨_,h⟩|⟨_,h,_⟩|⟨_,h,_⟩
      ·omega
      ·omega
      ·simp_all
    have l:=U7 (λx=>decide (x=b)) (u.blocks[i]).next
    grind[KC,jv,B5,wBk]
 grind[jy,KC,wBk,U7,decide,B5,JT]
section
variable{F F':Nat->Prop}{h h':Hp}{cs:List Pc}{Q:fq}{u:U}{vv vb vs:V}
theorem Rb(g:Good u)(H0:ej F h cs)(A:tL F h u vv vb vs)(H:∀F' h' v,Sn F h F' h'->ej F' h' cs->iG (eL eN) F' h' ((List.range u.blocks.length).map (Un.ahead u)) v->Q v h') :
  cP CS wN [.agg (uC u vv vb vs)] h Q:=by
 refine PM rfl rfl ?_;unfold Jo;have nb:=g.nb;refine jP H0 A.one λp S I=>?_;refine ed (by rfl) (ed (S.ld 0 rfl rfl) (ed (A.since I).b.len ?_));rw[oC (z:=V.ee) rfl (by decide) (by omega),fF];obtain⟨J,T⟩:=S.Ud (E:=eN) (N9:=iP) (ty:=en) u.blocks.length;have K:List.replicate u.blocks.length ([]:List Nat)=(List.range u.blocks.length).map (jy u 0 0):=by
  refine List.ext_getElem (by simp) λi p h2=>?_;simp[NC]
 rw[K]at J;refine ed (by rfl) (ed (J.ld 1 rfl rfl) (ed (A.since (I.trans T)).b.len ?_))
 refine K1 (λk q a f m h'=>∃(i:Nat) (ds:List V),q = .slice p.next 0 u.blocks.length/\a=vb/\f = .I u.blocks.length/\m = .I i/\i+k=u.blocks.length/\Sn F h F h'/\
  ej F h' (Ci eN iP en ((List.range u.blocks.length).map (jy u i 0)) (.slice p.next 0 u.blocks.length) ds::cs)) ?_ (k:=u.blocks.length)
  ⟨0,_,rfl,rfl,rfl,rfl,by omega,I.trans T,(J.forget (i:=1) rfl)|> λH=>by
    simp only[lU,jx]at H;exact⟨H.fl,λi c hc=>by
      cases i with
      |zero=>exact H.ok 0 c hc
      |succ i=>exact H.ok (i+2) c hc,λi j c d hc C hn=>by
      cases i with
      | zero=>
        cases j with
        |zero=>omega
        |succ j=>exact H.A5 0 (j+2) c d hc C (by omega)
      | succ i=>
        cases j with
        |zero=>exact H.A5 (i+2) 0 c d hc C (by omega)
        |succ j=>exact H.A5 (i+2) (j+2) c d hc C (by omega)⟩⟩
 rintro k q a f m h3 ⟨i,ds,rfl,L,rfl,rfl,hk,M,U⟩;subst a;unfold Dx;by_cases hi:i<u.blocks.length;rotate_left
 ·refine jf ?_;obtain rfl:i=u.blocks.length:=by omega
  obtain ⟨F4,D,G,r4⟩:=U.TT 0 rfl;have e:(List.range u.blocks.length).map (jy u u.blocks.length 0)=(List.range u.blocks.length).map (Un.ahead u):=by
   refine(by grind[Xf,pG])
  rw[e]at r4;exact H F4 h3 _ (M.trans G) D.tail r4
 refine gR ?_;obtain⟨B,N⟩:∃B,u.blocks[i]? =some B:=by simp_all
 obtain ⟨l7,o7,bv,bn,bp,_,i1,i2,iv,r,ip,_⟩:=(A.since M).vf N;have aa:B.next.length<=2:=by
  rcases g.fin i _ N with⟨_,h⟩|⟨_,h,_⟩|⟨_,h,_⟩
  ·omega
  ·omega
  ·simp_all
 refine ed i1 (ed i2 ?_);refine gQ U rfl rfl (by simp only[kS,eo,iv.one,r.one,ip.one];rfl) λh4 D G=>?_;have r:=r.since G;refine ed (by rfl) (ed (D.ld 0 rfl rfl) (ed r.len ?_))
 refine KH (λk q W a f m n s t h'=>∃(j:Nat) (ds:List V),q = .slice p.next 0 u.blocks.length/\W = .I i/\a=vb/\f = .I u.blocks.length/\m = .I i/\n=bn/\s = .I B.next.length/\t = .I j/\
  j+k=B.next.length/\Sn F h4 F h'/\ej F h' (Ci eN iP en ((List.range u.blocks.length).map (jy u i j)) (.slice p.next 0 u.blocks.length) ds::cs)) ?_ (k:=B.next.length)
  ⟨0,ds,rfl,rfl,rfl,rfl,rfl,rfl,rfl,rfl,by omega,Sn.refl _ _,D.tail⟩
 rintro k1 q W a f m n s t X ⟨j,x,rfl,rfl,L,rfl,rfl,ab,rfl,rfl,ac,O,Y⟩;subst a n;unfold Dh;by_cases hj:j<B.next.length;rotate_left
 ·refine jf ?_;obtain rfl:j=B.next.length:=by omega
  refine fS ⟨k-1,by omega,i+1,x,rfl,rfl,rfl,rfl,by omega,(M.trans G).trans O,?_⟩;have e:(List.range u.blocks.length).map (jy u (i+1) 0)=(List.range u.blocks.length).map (jy u i B.next.length):=by grind[Xf,NB]
  grind
 refine gR ?_;obtain⟨l8,o8,_,j1,j2⟩:=(r.since O).nat (g0 hj) .i64;have P:B.next[j]<u.blocks.length:=g.nx i _ (by grind[next,EA]);have Z:=Y.Zx 0 rfl;rw[B5,SB]at Z;refine ed j1 (ed j2 (ed Z ?_));refine yi (jF (gI (by simp_all) ?_));have o:B.next[j]<((List.range u.blocks.length).map (jy u i j)).length:=by simpa using P
 have ae:((List.range u.blocks.length).map (jy u i j))[B.next[j]]'o=jy u i j B.next[j]:=by simp
 obtain ⟨l,d,d',h6,h7,C,hl,e1,e2,e3,e4,e5,e6,H7,s7⟩:=Y.T3 0 rfl o (kj:=8) (B2:=3) (y:=i) (w:=[.I i]) (ro:=false) rfl (by decide) (by decide) (by
  grind[pU])
 refine ed e1 (ed e2 ?_);rw[mN,fF];have R:eR 3 1 8 d (.slice X.next 0 1) (X.new (.cells 3 1 true false (iT [i])))=some (.val d' h6):=e3;rw[R,ei];refine ed e1 ?_;rw[e5,ei];refine Jy ?_;unfold BY;simp only[jx]at H7;refine fS ⟨k1-1,by omega,j+1,x.set (B.next[j]) d',rfl,rfl,rfl,rfl,rfl,rfl,rfl,rfl,by omega,O.trans s7,?_⟩;have e:((List.range u.blocks.length).map (jy u i j)).set (B.next[j]) (((List.range u.blocks.length).map (jy u i j))[B.next[j]]'o++[i])=(List.range u.blocks.length).map (jy u i (j+1)):=by
  refine List.ext_getElem (by simp) λb p h2=>?_;rw[List.getElem_set];simp only[List.getElem_map,List.getElem_range];rw[NQ N (g0 hj)];by_cases eb:B.next[j]=b
  ·simp_all
  ·grind
 simp_all
end
