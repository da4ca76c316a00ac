/- Parts. -/
import Derived.Test.YtkpicojjjifmgabGreatDoorM24
import Derived.KernelRfl
set_option maxHeartbeats 4000000
namespace Go.Proofs.YtkpicojjjifmgabGreatDoor.Hx
open Un Dm
def pre(u:U)(b:Nat):List Nat:=(u.blocks.take b).flatMap (·.ej)
theorem G9{u:U}{b:Nat}{B:Bk}(a:u.blocks[b]? =some B):pre u (b+1)=pre u b++B.ej:=by
 unfold pre;obtain⟨c,rfl⟩:=ki.1 a
 grind[MU]
theorem JO{u:U}{b v:Nat}:v∈pre u b↔∃c k,At u v c k/\c<b:=by
 unfold pre At;simp only[Xr];constructor
 ·grind[oY]
 ·rintro⟨c,k,⟨B,a,d⟩,e⟩;refine⟨B,oY.2 ⟨c,?_⟩,by grind⟩
  simp_all
theorem I5{u:U}(g:Good u){b:Nat}{B:Bk}(a:u.blocks[b]? =some B):B.ej.Nodup:=by
 rw[List.nodup_iff_pairwise_ne,wA5];intro i j hi c d e;have f:At u (B.ej[i]) b i:=⟨B,a,iy hi⟩
 have h:At u (B.ej[i]) b j:=⟨B,a,by rw[e];exact iy c⟩
 have:=(g.FQ _ _ _ _ _ f h).2;omega
theorem HZ{u:U}(g:Good u):∀b,(pre u b).Nodup
 |0=>by simp[pre]
 | b + 1=>by
   by_cases hb:b<u.blocks.length
   ·have a:=iy hb
    rw[G9 a,ZL];refine⟨HZ g b,I5 g a,λv d w f e=>?_⟩;subst e;obtain⟨c,k,h,l⟩:=JO.1 d;obtain⟨j,i⟩:=oY.1 f;have:=(g.FQ _ _ _ _ _ h ⟨_,a,i⟩).1;omega
   ·have:pre u (b+1)=pre u b:=by
      unfold pre;rw[ZJ (by omega),ZJ (by omega)]
    rw[this];exact HZ g b
theorem MA{u:U}(g:Good u):(pre u u.blocks.length).length=u.ej.length:=by
 refine Nat.le_antisymm (jM _ _ (HZ g _) λv hv=>?_) ?_
 ·obtain⟨c,k,a,_⟩:=JO.1 hv;exact g.ko _ _ _ a
 ·have a:(List.range u.ej.length).length=u.ej.length:=wBQ;rw[<-a];refine sub_le _ _ List.nodup_range λv hv=>?_;rw[ZG]at hv;obtain⟨b,k,d⟩:=g.Ef v hv trivial;refine JO.2 ⟨b,k,d,?_⟩;obtain⟨B,e,_⟩:=d
  grind
structure Std (u:U) (b k:Nat) (bl pl:List Int):Prop where
 nb:bl.length=u.ej.length
 np:pl.length=u.ej.length
 yes:∀(v c j:Nat),At u v c j->(c<b\/(c=b/\j<k))->bl[v]? =some (c:Int)/\pl[v]? =some (j:Int)
 no:∀(v c j:Nat),At u v c j->¬(c<b\/(c=b/\j<k))->bl[v]? =some (-1)
theorem Std.step{u:U}{b k:Nat}{bl pl:List Int}(g:Good u)(S:Std u b k bl pl){v:Nat}(hv:At u v b k):Std u b (k+1) (bl.set v (b:Int)) (pl.set v (k:Int)):=by
 have d:=g.ko _ _ _ hv;refine⟨by simp[S.nb],by simp[S.np],λw c j a hc=>?_,λw c j a hc=>?_⟩
 ·by_cases e:w=v
  ·subst e;obtain⟨rfl,rfl⟩:=g.FQ _ _ _ _ _ a hv;rw[NZ (by rw[S.nb];exact d),NZ (by rw[S.np];exact d)]
   simp_all
  ·rw [KP (by omega),KP (by omega)];refine S.yes w c j a ?_;rcases hc with h|⟨rfl,h⟩
   ·omega
   ·refine .inr ⟨rfl,?_⟩;rcases Tj j k with f|f
    ·exact f
    ·exfalso;obtain rfl:j=k:=by omega
     obtain⟨B,i,l⟩:=a;obtain⟨m,n,o⟩:=hv
     simp_all
 ·have e:w≠v:=λe=>by
   subst e;obtain⟨rfl,rfl⟩:=g.FQ _ _ _ _ _ a hv;omega
  rw[KP (by omega)];exact S.no w c j a (by omega)
theorem Std.next{u:U}{b:Nat}{bl pl:List Int}{B:Bk}(g:u.blocks[b]? =some B)(S:Std u b B.ej.length bl pl):Std u (b+1) 0 bl pl:=by
 have f:∀v c j,At u v c j->((c<b\/(c=b/\j<B.ej.length))↔(c<b+1\/(c=b+1/\j<0))):=by
  intro v c j hv;constructor
  ·omega
  ·intro h;by_cases e:c=b
   ·subst e;obtain⟨i,a,d⟩:=hv
    grind
   ·omega
 exact⟨S.nb,S.np,λv c j a d=>S.yes v c j a (by grind),λv c j a d=>S.no v c j a (by omega)⟩
theorem Za:P0.underlying jZ=some .bool:=by kernel_rfl
theorem WK(a b:Bool):ez .neq jZ (.bool a) (.bool b)=some (.bool (a != b)):=by
 show Wk jZ true (.bool a) (.bool b)=_;unfold Wk zda Zz;rw[Za];rfl
section
variable{F F':Nat->Prop}{h h':Hp}{cs:List Pc}{Q:fD}{u:U}{vv vb vs:V}{lc:Nat}{bl pl GD:V}
theorem ZD(g:Good u){ty:Nat}(H0:eo F h (eQ lc ty [.I u.func,.I u.pc,vv,vb,vs,bl,pl,GD]::cs))(s:wW F h u vv vb vs)
  (H:∀F' h' b' p' xs ys,Sn F h F' h'->eo F' h' (eQ lc ty [.I u.func,.I u.pc,vv,vb,vs,b',p',GD]::cs)->im eZ F' h' xs b'->im eZ F' h' ys p'->Std u u.blocks.length 0 xs ys->Q (.bool true) h') :
  cP CS pH [.ptr lc 0] h Q:=by
 refine Ij rfl rfl ?_;unfold Ag;have nv:=g.nv;have nb:=g.nb;have aP:lc<h.next:=(H0.ok 0 _ rfl).2.1;refine eh (fZ _ _) (eh (by rfl) (eh (by rfl) (eh (H0.ld 0 rfl rfl) (eh s.v.len ?_))));rw[ku (z:=V.I 0) rfl (by decide) (by omega),hX];obtain⟨H1,s1⟩:=H0.make (E:=eZ) (ty:=eR) (y:=0) (u:=V.I 0) u.ej.length rfl rfl;have n1:(h.new (.cells eR 1 true false (List.replicate u.ej.length (V.I 0)))).next=h.next+1:=rfl;have g1:(h.new (.cells eR 1 true false (List.replicate u.ej.length (V.I 0)))).get h.next=_:=fq _ _;show oP (iL (.ptr lc 0)) _;generalize ak:h.new (.cells eR 1 true false (List.replicate u.ej.length (V.I 0)))=a at*;refine eh (fZ _ _) (eh (by rfl) (eh (by rfl) (eh (H1.ld 1 rfl rfl) (eh (s.since s1).v.len ?_))));rw[ku (z:=V.I 0) rfl (by decide) (by omega),hX];obtain⟨H2,s2⟩:=H1.make (E:=eZ) (ty:=eR) (y:=0) (u:=V.I 0) u.ej.length rfl rfl;have g2:(a.new (.cells eR 1 true false (List.replicate u.ej.length (V.I 0)))).get a.next=_:=fq _ _;have al:=(fk (h:=a) (.cells eR 1 true false (List.replicate u.ej.length (V.I 0))) (l:=h.next) (by omega)).trans g1;have n2:(a.new (.cells eR 1 true false (List.replicate u.ej.length (V.I 0)))).next=a.next+1:=rfl;show oP (iL (.ptr lc 0)) _;generalize am:a.new (.cells eR 1 true false (List.replicate u.ej.length (V.I 0)))=h2 at*;refine eh (fZ _ _) (eh (by rfl) ⟨by simp_all,H2.ld 2 rfl rfl,by simp_all,H2.ld 2 rfl rfl,?_⟩);obtain⟨h3,e3,n3,H3,s3,k3⟩:=H2.stk 2 (o:=5) (u:= .slice h.next 0 u.ej.length) rfl (by simp) rfl;rw[show V.ptr lc (0+5)=V.ptr lc 5 from rfl,e3,en];refine⟨n3,eh (fZ _ _) (eh (by rfl) ⟨by grind[trans,O.kF],?_⟩)⟩;simp only[lO,ji]at H3;obtain⟨h4,e4,n4,H4,s4⟩:=H3.st 2 (o:=6) (u:= .slice a.next 0 u.ej.length) rfl (by simp) rfl;rw[show V.ptr lc (0+6)=V.ptr lc 6 from rfl,e4,en];refine⟨n4,?_⟩;simp only[lO,ji]at H4;have aQ:=((s1.trans s2).trans s3).trans s4;clear e3 e4 k3 g1 al g2 H1 H2 H3 s1 s2 s3 s4 ak am;generalize V.slice a.next 0 u.ej.length=vp at*;generalize V.slice h.next 0 u.ej.length=vq at*;have lq:=H4.len 1 (xs:=List.replicate u.ej.length (0:Int)) rfl;rw[WI]at lq;refine eh (fZ _ _) (eh (by rfl) (eh (H4.ld 2 rfl rfl) (eh lq ?_)))
 refine EI (λk t K L h'=>∃(i:Nat) (xs:List Int),t = .ptr lc 0/\K = .I u.ej.length/\L = .I i/\i+k=u.ej.length/\xs.length=u.ej.length/\(∀j,j<i->xs[j]? =some (-1))/\Sn F h F h'/\
  eo F h' (fg eZ eR (List.replicate u.ej.length (0:Int)) vp::fg eZ eR xs vq::eQ lc ty [.I u.func,.I u.pc,vv,vb,vs,vq,vp,GD]::cs)) ?_ (k:=u.ej.length)
  (by grind)
 rintro k t K L h5 ⟨i,xs,rfl,rfl,rfl,hk,an,hm,s5,H5⟩;unfold xj;by_cases hi:i<u.ej.length
 ·refine gK ?_;obtain⟨l6,o6,h6,e6,e7,n6,J,C⟩:=H5.Kh 1 rfl (k:=i) (y:=(-1:Int)) (u:=V.I (-1)) (by omega) rfl rfl rfl;refine eh (fZ _ _) (eh (by rfl) (eh (H5.ld 2 rfl rfl) (eh e6 ?_)));rw[e7,en];simp only[lO,ji]at J;refine fL ⟨k-1,by omega,i+1,xs.set i (-1),rfl,rfl,rfl,by omega,by simp_all,λj hj=>?_,s5.trans C,J⟩
  grind
 refine iQ ?_;refine eh (fZ _ _) (eh (by rfl) (eh (by rfl) (eh (H5.ld 2 rfl rfl) (eh (s.since s5).b.len ?_))));have S0:Std u 0 0 xs (List.replicate u.ej.length (0:Int)):=⟨an,by simp,by omega,λv c j a _=>hm v (by have:=g.ko _ _ _ a;omega)⟩
 refine ED (λk t M d f m h'=>∃(b:Nat) (xs ys:List Int),t = .ptr lc 0/\M = .I ((pre u b).length:Nat)/\d=vb/\f = .I u.blocks.length/\m = .I b/\b+k=u.blocks.length/\Std u b 0 xs ys/\Sn F h F h'/\
  eo F h' (fg eZ eR ys vp::fg eZ eR xs vq::eQ lc ty [.I u.func,.I u.pc,vv,vb,vs,vq,vp,GD]::cs)) ?_ (k:=u.blocks.length)
  ⟨0,xs,_,rfl,rfl,rfl,rfl,rfl,by omega,S0,s5,H5⟩
 rintro k1 t M d f m h6 ⟨b,ao,ap,rfl,rfl,aq,rfl,rfl,aR,S1,C,J⟩;subst d;unfold xY;by_cases hb:b<u.blocks.length;rotate_left
 ·refine iQ ?_;obtain rfl:b=u.blocks.length:=by omega
  refine eh (fZ _ _) (eh (by rfl) (eh (by rfl) (eh (J.ld 2 rfl rfl) (eh (s.since C).v.len (ir ?_)))));rw[MA g,JM rfl];obtain⟨N,P,r7⟩:=J.kL 0 rfl;simp only[lO,ji]at N;obtain⟨n,p,r8⟩:=N.kL 1 rfl;simp only[lO,ji]at n;exact H _ _ _ _ _ _ ((C.trans P).trans p) n.tail.tail r8 (r7.since p) S1
 refine gK ?_;obtain⟨B,D⟩:∃B,u.blocks[b]? =some B:=by simp_all
 obtain ⟨l7,o7,bv,bn,bp,_,i1,i2,R,iN,ip,_⟩:=(s.since C).pE D;refine eh i1 (eh i2 ?_);refine gZ J rfl rfl (by simp only[km,eJ,R.one,iN.one,ip.one];rfl) λh7 N P=>?_;have R:=R.since P;refine eh (by rfl) (eh (N.ld 0 rfl rfl) (eh R.len ?_));have aS:(pre u b).length<=u.ej.length:=by
  rw[<-MA g];unfold pre;have:u.blocks.take b <+: u.blocks:=List.take_prefix _ _;obtain⟨r,hr⟩:=this
  conv=>rhs;rw[Ki,<-hr,List.flatMap_append,KC]
  omega
 have aN:(pre u b).length+B.ej.length<=u.ej.length:=by
  rw[<-KC,<-G9 D];rw[<-MA g];unfold pre;have:u.blocks.take (b+1) <+: u.blocks:=List.take_prefix _ _;obtain⟨r,hr⟩:=this
  conv=>rhs;rw[Ki,<-hr,List.flatMap_append,KC]
  omega
 refine E0 (λk t M x5 x7 d f m G S T h'=>∃(j:Nat) (fst:Bool) (xs ys:List Int),t = .ptr lc 0/\M = .I (((pre u b).length+j:Nat):Int)/\x5 = .I b/\x7 = .bool fst/\d=vb/\f = .I u.blocks.length/\m = .I b/\
  G=bv/\S = .I B.ej.length/\T = .I j/\j+k=B.ej.length/\(fst=true\/∃v w x,At u v b (j-1)/\0<j/\w=v/\u.ej[v]? =some x/\iO x.op=false)/\Std u b j xs ys/\Sn F h F h'/\
  eo F h' (fg eZ eR ys vp::fg eZ eR xs vq::eQ lc ty [.I u.func,.I u.pc,vv,vb,vs,vq,vp,GD]::cs)) ?_ (k:=B.ej.length)
  ⟨0,true,ao,ap,rfl,rfl,rfl,rfl,rfl,rfl,rfl,rfl,rfl,rfl,by omega,.inl rfl,S1,C.trans P,N.tail⟩
 rintro k2 t M x5 x7 d f m G S T U ⟨j,fst,I,W,rfl,rfl,rfl,rfl,aq,rfl,rfl,aT,rfl,rfl,aU,X,S2,p,n⟩;subst d G;unfold xO;by_cases hj:j<B.ej.length;rotate_left
 ·refine iQ ?_;obtain rfl:j=B.ej.length:=by omega
  refine fL ⟨k1-1,by omega,b+1,I,W,rfl,?_,rfl,rfl,rfl,by omega,S2.next D,p,n⟩;rw[G9 D,KC]
 refine gK ?_;have e:At u (B.ej[j]) b j:=⟨B,D,iy hj⟩
 have Y:=g.ko _ _ _ e;obtain⟨x,hx⟩:∃x,u.ej[B.ej[j]]? =some x:=by simp_all
 have ar:im eN F U B.ej bv:=by
  obtain ⟨l7,o7,aV,aW,aX,_,aY,aZ,a4,_⟩:=(s.since p).pE D;have e1:l7=l7:=rfl;exact((by omega)|> λ_=>(by
   have hk:∀l,F l->U.get l=h7.get l:=λl hl=>(p.fj l hl).trans ((C.trans P).fj l hl).symm;exact R.fj hk))
 obtain ⟨l9,o9,_,j1,j2⟩:=ar.nat (iy hj) .i64;refine eh j1 (eh j2 (eh (fZ _ _) (eh (by rfl) (eh (by rfl) (eh (n.ld 2 rfl rfl) (eh (s.since p).v.len ?_))))));refine A6 ?_;rw[JM Y];refine eh rfl ?_;have au:=S2.no _ _ _ e (by omega);obtain⟨A,aO⟩:=ki.1 au;obtain⟨lb,ob,ub,b1,b2,b3⟩:=n.U8 1 rfl (k:=B.ej[j]) A .i64 rfl;obtain rfl:ub = .I (-1):=by
  have:[ub]=[V.I I[B.ej[j]]]:=b3
  simp_all
 have eA:og (.bool (!true)) (oB (some (V.ptr lc 0)) λaw=>oB (iL aw) λax=>oB (fJ 5 ax) λay=>oB (fe ay U) λaA=>oB (some (V.I (B.ej[j]:Nat))) λaB=>oB (gB 1 aA aB) λaC=>oB (fe aC U) λaD=>ez .geq 3 aD (V.I 0))=some (.bool false):=by
  have l5:fe (.ptr lc (0+5)) U=some vq:=n.ld 2 rfl rfl;simp only[wB3,oH,fo,fZ,fM,l5,b1,b2,pP];rfl
 refine eh eA (jj (gh (by simp) ?_));obtain⟨lv,ov,wv,_,c1,_,_,cv⟩:=(s.since p).val hx;refine eh (fZ _ _) (eh (by rfl) (eh (by rfl) (eh (n.ld 2 rfl rfl) (eh c1 (eh (by rfl) (eh cv.op ?_))))));refine eh (by rfl) ?_;have eH:og (.bool ((x.op:Int) == 21)) (oB (some (V.I x.op)) λaE=>ez .eql 3 aE (V.I 1))=some (.bool (iO x.op)):=by
  simp only[fo,g0,pS];unfold iO;rw[show((x.op:Int) == 21)=(x.op == 21) from ieq _ 21,show((x.op:Int) == 1)=(x.op == 1) from ieq _ 1,Bool.or_comm]
 refine eh eH ?_;have a5:iO x.op=true->fst=true:=by
  intro q;rcases X with a|⟨v,w,y,a,h2,rfl,h3,h4⟩
  ·exact a
  ·exfalso;have h5:=g.II (B.ej[j]) w b (j-1) x y (by grind) a hx h3 q
   simp_all
 have aF:kE (.bool (iO x.op)) (oB (some (V.bool fst)) λZ=>qf .not Z)=some (.bool false):=by
  cases q:iO x.op with
  |false=>rfl
  |true=>simp_all
 refine eh aF ?_;have a6:iO x.op=true->((x.op:Int) == 1)=((b:Int) == 0):=by
  intro q;unfold iO at q;simp only[KO,Cw]at q;rw[show((x.op:Int) == 1)=(x.op == 1) from ieq _ 1,show((b:Int) == 0)=(b == 0) from ieq _ 0];rcases q with a|a
  ·rw[g.par _ _ _ _ e hx a,a];rfl
  ·have:=(g.KN _ _ _ _ _ e hx a D).1
   simp_all
 have eM:og (.bool false) (oB (some (V.I x.op)) λaa=>oB (ez .eql 3 aa (V.I 1)) λab=>oB (some (V.I b)) λac=>oB (ez .eql 3 ac (V.I 0)) λae=>oB (ez .neq 4 ab ae) λag=>oB (some ag) λah=>kE ah (some (V.bool (iO x.op))))=some (.bool false):=by
  simp only[oH,fo,g0,WK,j8]
  cases q:iO x.op with
  |false=>simp
  |true=>simp_all
 refine eh eM (jj (gh (by simp) ?_));obtain⟨l10,a7,a8,aG,Wh,aH,ai,aI⟩:=n.Kh 1 rfl (k:=B.ej[j]) (y:=(b:Int)) (u:=V.I b) A rfl rfl rfl;simp only[lO,ji]at ai;refine eh (fZ _ _) (eh (by rfl) (eh (n.ld 2 rfl rfl) (eh (fZ _ _) (eh (by rfl) (eh (n.ld 2 rfl rfl) (eh aG ?_))))));rw[Wh,en];obtain⟨l12,a9,ba,aJ,aK,aL,aj,aM⟩:=ai.Kh 0 rfl (k:=B.ej[j]) (y:=(j:Int)) (u:=V.I j) (by rw[S2.np];exact Y) rfl rfl rfl;simp only[lO,ji]at aj;refine⟨aH,eh aJ ?_⟩;rw[aK,en];refine⟨aL,fL (fL ?_)⟩;refine⟨k2-1,by omega,j+1,iO x.op,I.set (B.ej[j]) (b:Int),W.set (B.ej[j]) (j:Int),rfl,?_,rfl,rfl,rfl,rfl,rfl,rfl,rfl,rfl,by omega,?_,S2.step g e,(p.trans aI).trans aM,aj⟩
 ·rfl
 ·cases q:iO x.op with
  |true=>simp_all
  |false=>exact .inr ⟨_,_,x,e,by omega,rfl,hx,q⟩
end
open Un Dm
def Cd{α:Type}(E:qp α)(PC ty:Nat)(GP:List (List α))(v:V)(ds:List V):Pc where
 mn:=λl=>Loc v l\/∃d∈ds,Loc d l
 ok F h:=∃t,v = .slice t 0 GP.length/\t<h.next/\¬F t/\h.get t=some (.cells PC 1 true false ds)/\ds.length=GP.length/\(∀(i:Nat) x d,GP[i]? =some x->ds[i]? =some d->lC E ty F h x d)/\(∀d∈ds,¬Loc d t)/\
  ∀(i j:Nat) (d e:V),i≠j->ds[i]? =some d->ds[j]? =some e->∀l,Loc d l->¬Loc e l
 MB:=λ⟨t,f,g,o,p,k,b,m,n⟩ l a=>by
  rcases a with a|⟨d,c,a⟩
  ·simp_all
  ·obtain⟨i,hi⟩:=oY.1 c;have s:=(ki.1 hi).1;exact((b i _ d (iy (by omega)) hi).vC a).2
 fj:=λ{F h h'} ⟨t,f,g,o,p,k,b,m,n⟩ q a r=>by
  refine⟨t,f,EK g r,o,by simp_all,k,λi x d hx c=>?_,m,n⟩;exact(b i x d hx c).fj q (by grind) r
 mono:=λ{F F' h} ⟨t,f,g,o,p,k,b,m,n⟩ q a=>by
  refine⟨t,f,g,by simp_all,p,k,λi x d hx c=>?_,m,n⟩;exact(b i x d hx c).mono q (by grind)
theorem SH{α:Type}{E:qp α}{F:Nat->Prop}{h:Hp}:∀{GP:List (List α)}{ds:List V},ds.length=GP.length->(∀(i:Nat) x d,GP[i]? =some x->ds[i]? =some d->im E F h x d)->qQ (eL E) F h ds GP
 |[],_,_,_=>trivial
 |x::GP,[],h,_=>by simp_all
 |x::GP,d::ds,hl,H=>⟨[d],ds,rfl,⟨d,rfl,H 0 x d rfl rfl⟩,SH (by simp_all) λi x d hx a=>H (i+1) x d (by simp_all) (by simp_all)⟩
section
variable{F F':Nat->Prop}{h h':Hp}{cs:List Pc}{α:Type}{E:qp α}{PC ty:Nat}{GP:List (List α)}{v:V}{ds:List V}
theorem eo.Q7(H:eo F h cs)(n:Nat):eo F (h.new (.cells PC 1 true false (List.replicate n V.ei))) (Cd E PC ty (List.replicate n []) (.slice h.next 0 n) (List.replicate n V.ei)::cs)/\Sn F h F (h.new (.cells PC 1 true false (List.replicate n V.ei))):=by
 have c:∀{i:Nat} {d:V},(List.replicate n V.ei)[i]? =some d->d = .ei:=by grind
 refine H.new _ ⟨h.next,by simp,OF _,H.fresh,fq _ _,by simp,λi x d hx b=>?_,λd b=>?_,λi j d e _ b _ l a=>?_⟩ λl a=>?_
 ·obtain rfl:=c b;obtain rfl:x=[]:=by grind
  exact .nil
 ·simp_all
 ·obtain rfl:=c b;exact a.elim
 ·rcases a with a|⟨d,b,a⟩
  ·exact a.symm
  simp_all
theorem eo.za9(H:eo F h cs)(i:Nat)(hi:cs[i]? =some (Cd E PC ty GP v ds)):fI v=some (.I GP.length):=by
 obtain⟨t,rfl,_⟩:=H.ok i _ hi;rfl
theorem eo.QA(H:eo F h cs)(i:Nat)(hi:cs[i]? =some (Cd E PC ty GP v ds)){b:Nat}(hb:b<GP.length){jP zL:Nat}{y:α}{w:List V}{ro:Bool}(N:E.rel F h y w)(hz:0<E.sz)(Q:jP<=1000)(hlen:GP[b].length<1000000) :
  ∃l d n B C,ds[b]? =some d/\l<h.next/\gB 1 v (.I b)=some (.ptr l (b*1))/\fe (.ptr l (b*1)) h=some d/\fh ty E.sz jP d (.slice h.next 0 1) (h.new (.cells zL E.sz true ro w))=some (.val n B)/\h.next+1<=B.next/\
   gJ 1 (.ptr l (b*1)) n B=some (.val .undef C)/\B.next<=C.next/\eo F C (cs.set i (Cd E PC ty (GP.set b (GP[b]++[y])) v (ds.set b n)))/\Sn F h F C:=by
 obtain⟨t,rfl,B,C,h4,h5,R,T,O⟩:=H.ok i _ hi;obtain⟨d,K⟩:∃d,ds[b]? =some d:=by simp_all
 have hO:=R b _ d (iy hb) K;have D:=oY.2 ⟨b,K⟩;have U:lC E ty F (h.new (.cells zL E.sz true ro w)) GP[b] d:=hO.fj (λl a=>fk _ (H.fl l a)) (λl a=>fk _ (hO.vC a).2.1) (OK _);have hx:lQ (h.new (.cells zL E.sz true ro w)) E.sz (.slice h.next 0 1)=some (1,w):=nz (k:=0) (by rw[E.len N];simp);have aa:(GP[b].length+1)*jP<=1000000*1000:=Nat.mul_le_mul (by omega) Q;obtain⟨n,g,P,Z,L,l1⟩:=U.append (jP:=jP) (ys:=[y]) hx ⟨w,[],by simp,E.fj (λl a=>fk _ (H.fl l a)) N,trivial⟩ (by rw[E.len N];simp) (E.one N) (by simp) hz (λl a=>wBh (H.fl l a)) (by simp;omega) (by simp;omega);have n1:(h.new (.cells zL E.sz true ro w)).next=h.next+1:=rfl;have G:∀l,Loc n l->Loc d l\/h.next<=l:=by grind
 have q:t<g.next:=by have:=L.next;omega
 have gt:g.get t=some (.cells PC 1 true false ds):=by rw[L.fj t (by omega) (T d D),fk _ B];exact h4
 have M:=N3 (o:=b*1) (v:=n) gt (by omega) Z.one;rw[Nat.mul_one]at M;have W:¬Loc n t:=by grind
 have cg:mA (Cd E PC ty GP (.slice t 0 GP.length) ds).mn h (g.put t (.cells PC 1 true false (ds.set b n))):=by
  refine(((mA.new h _).XM λ_ _ h=>h).trans' (by omega) λl _ a=> .inr ⟨d,D,a⟩).trans' (mA.put (S:=λl=>l=t) _ rfl q) λl _ e=> .inl e.symm
 have m:∀{j:Nat} {e:V},(ds.set b n)[j]? =some e->(j=b/\e=n)\/(j≠b/\ds[j]? =some e):=by grind
 have r:∀{j:Nat} {e:V},ds[j]? =some e->∀l,Loc e l->l<h.next:=λ{j e} c l a=>by
  have ab:=(ki.1 c).1;exact((R j _ e (iy (by omega)) c).vC a).2.1
 refine⟨t,d,n,g,g.put t (.cells PC 1 true false (ds.set b n)),K,B,?_,?_,P,L.next,by simp_all,jO _,H.Cq hi cg ?_ ?_⟩
 ·simp_all[AN,zO]
 ·rw[Nat.mul_one];grind[lJ]
 ·refine ⟨t,by simp,q,C,gj _ q,by simp[h5],λj x e s c=>?_,λe c=>?_,λj k e f hn c hf l a u=>?_⟩
  ·rcases m c with⟨rfl,rfl⟩|⟨p,c⟩
   ·rw[NZ hb]at s;obtain rfl:=Option.some.inj s;exact Z.fj (by grind[gN]) (by grind[gN]) (jO _)
   ·rw[KP λe=>p e.symm]at s;have X:=oY.2 ⟨j,c⟩;refine(R j x e s c).fj (λl a=>?_) (λl a=>?_) (by have:=L.next;show h.next<=g.next;omega)
    ·rw[gN _ q λe=>C (e▸a),L.fj l (wBh (H.fl l a)) λI=>(hO.vC I).2.2 a,fk _ (H.fl l a)]
    ·have Y:=r c l a;rw[gN _ q λe'=>T e X (e'▸a),L.fj l (by omega) λI=>O j b e d p c K l a I,fk _ Y]
  ·obtain⟨j,p⟩:=oY.1 c;rcases m p with⟨_,rfl⟩|⟨_,p⟩
   ·exact W
   ·exact T e (oY.2 ⟨j,p⟩)
  ·rcases m c with⟨P,e2⟩|⟨p,J⟩
   ·rcases m hf with⟨M,_⟩|⟨hk,z⟩
    ·exact hn (P.trans M.symm)
    ·subst P e2;rcases G l a with A|A
     ·exact O k j f d hk z K l u A
     ·have:=r z l u;omega
   ·rcases m hf with⟨M,e4⟩|⟨hk,z⟩
    ·subst M e4;rcases G l u with A|A
     ·exact O j k e d p J K l a A
     ·have:=r J l a;omega
    ·exact O j k e f hn J z l a u
 ·intro l a;rcases a with a|⟨e,c,a⟩
  ·exact .inl (.inl a)
  ·obtain ⟨j,p⟩:=oY.1 c;rcases m p with⟨_,rfl⟩|⟨_,p⟩
   ·rcases G l a with A|A
    ·exact .inl (.inr ⟨d,D,A⟩)
    ·exact .inr A
   ·exact .inl (.inr ⟨e,oY.2 ⟨j,p⟩,a⟩)
theorem eo.QO(H:eo F h cs)(i:Nat)(hi:cs[i]? =some (Cd E PC ty GP v ds)):∃F',eo F' h (cs.set i emp)/\Sn F h F' h/\im (eL E) F' h GP v:=by
 have a:=H.ok i _ hi;obtain⟨c,e⟩:=H.zc5 (p:=emp) (F':=λl=>F l\/(Cd E PC ty GP v ds).mn l) hi (mA.refl _ _) (by simp_all) (by grind) trivial λ_ h=>h.elim;refine⟨_,c,e,?_⟩;obtain⟨t,rfl,n,o,f,g,k,q,r⟩:=a;refine .inr ⟨t,0,PC,true,false,ds,rfl,.inr (.inl rfl),f,.inr rfl,Mj _,?_⟩;rw[ZT];exact SH g λj x d hx b=>(k j x d hx b).Z8 (by simp_all) λl m=> .inr (.inr ⟨d,oY.2 ⟨j,b⟩,m⟩)
end
def iI(u:U)(i j b:Nat):List Nat:=mN (u.blocks.take i) 0 b++(match u.blocks[i]? with
 |some B=>((B.next.take j).filter (·= b)).map λ_=>i
 |none=>[])
theorem Ky(u:U)(b:Nat):iI u 0 0 b=[]:=by
 grind[iI,mN]
theorem Kq{u:U}{i j b t:Nat}{B:Bk}(a:u.blocks[i]? =some B)(ht:B.next[j]? =some t):iI u i (j+1) b=if b=t then iI u i j b++[i] else iI u i j b:=by
 unfold iI;rw[a];obtain⟨c,rfl⟩:=ki.1 ht;simp only[MU c,wB0,Lj]
 grind
theorem Km{u:U}{i b:Nat}{B:Bk}(a:u.blocks[i]? =some B):iI u (i+1) 0 b=iI u i B.next.length b:=by
 unfold iI;obtain⟨hi,rfl⟩:=ki.1 a;rw[a,MU hi,AZ];have c:(u.blocks.take i).length=i:=by rw[Mq];omega
 simp only[c,zO,Ki]
 grind[mN]
theorem pY(u:U)(b:Nat):iI u u.blocks.length 0 b=Un.ahead u b:=by
 simp_all[iI,Un.ahead,Ki,OE,jO]
theorem pZ{u:U}(g:Good u){i j b:Nat}(hi:i<=u.blocks.length)(f:j<=2):(iI u i j b).length<=2*i+2:=by
 have c:∀i,i<=u.blocks.length->(mN (u.blocks.take i) 0 b).length<=2*i:=by
  intro i
  induction i with
  |zero=>grind[mN]
  | succ i d=>
    intro hi;have a:i<u.blocks.length:=by omega
    rw[MU a,AZ];have:=d (by omega);have e:u.blocks[i]? =some u.blocks[i]:=by simp_all
    have k:(u.blocks[i]).next.length<=2:=by
      rcases g.fin i _ e with⟨_,h⟩|⟨_,h,_⟩|⟨_,h,_⟩
      ·omega
      ·omega
      ·simp_all
    have l:=wBE (λx=>decide (x=b)) (u.blocks[i]).next
    grind[KC,mN,Ik,wBk]
 grind[iI,KC,wBk,wBE,decide,Ik,Mq]
section
variable{F F':Nat->Prop}{h h':Hp}{cs:List Pc}{Q:fD}{u:U}{vv vb vs:V}
theorem RI(g:Good u)(H0:eo F h cs)(A:wW F h u vv vb vs)(H:∀F' h' v,Sn F h F' h'->eo F' h' cs->im (eL eN) F' h' ((List.range u.blocks.length).map (Un.ahead u)) v->Q v h') :
  cP CS zz [.agg (uC u vv vb vs)] h Q:=by
 refine SJ rfl rfl ?_;unfold LM;have nb:=g.nb;refine jH H0 A.one λp R G=>?_;refine eh (by rfl) (eh (R.ld 0 rfl rfl) (eh (A.since G).b.len ?_));rw[ku (z:=V.ei) rfl (by decide) (by omega),fE];obtain⟨I,S⟩:=R.Q7 (E:=eN) (PC:=iZ) (ty:=eR) u.blocks.length;have J:List.replicate u.blocks.length ([]:List Nat)=(List.range u.blocks.length).map (iI u 0 0):=by
  refine wBy (by simp) λi p h2=>?_;simp[Ky]
 rw[J]at I;refine eh (by rfl) (eh (I.ld 1 rfl rfl) (eh (A.since (G.trans S)).b.len ?_))
 refine Np (λk q a f m h'=>∃(i:Nat) (ds:List V),q = .slice p.next 0 u.blocks.length/\a=vb/\f = .I u.blocks.length/\m = .I i/\i+k=u.blocks.length/\Sn F h F h'/\
  eo F h' (Cd eN iZ eR ((List.range u.blocks.length).map (iI u i 0)) (.slice p.next 0 u.blocks.length) ds::cs)) ?_ (k:=u.blocks.length)
  ⟨0,_,rfl,rfl,rfl,rfl,by omega,G.trans S,(I.forget (i:=1) rfl)|> λH=>by
    simp only[lO,ji]at H;exact⟨H.fl,λi c hc=>by
      cases i with
      |zero=>exact H.ok 0 c hc
      |succ i=>exact H.ok (i+2) c hc,λi j c d hc C hn=>by
      cases i with
      | zero=>
        cases j with
        |zero=>omega
        |succ j=>exact H.Ew 0 (j+2) c d hc C (by omega)
      | succ i=>
        cases j with
        |zero=>exact H.Ew (i+2) 0 c d hc C (by omega)
        |succ j=>exact H.Ew (i+2) (j+2) c d hc C (by omega)⟩⟩
 rintro k q a f m h3 ⟨i,ds,rfl,K,rfl,rfl,hk,L,T⟩;subst a;unfold GN;by_cases hi:i<u.blocks.length;rotate_left
 ·refine iQ ?_;obtain rfl:i=u.blocks.length:=by omega
  obtain ⟨F4,D,s4,U⟩:=T.QO 0 rfl;have e:(List.range u.blocks.length).map (iI u u.blocks.length 0)=(List.range u.blocks.length).map (Un.ahead u):=by
   refine(by grind[Xp,pY])
  rw[e]at U;exact H F4 h3 _ (L.trans s4) D.tail U
 refine gK ?_;obtain⟨B,M⟩:∃B,u.blocks[i]? =some B:=by simp_all
 obtain ⟨l7,o7,bv,bn,bp,_,i1,i2,iv,r,ip,_⟩:=(A.since L).pE M;have aa:B.next.length<=2:=by
  rcases g.fin i _ M with⟨_,h⟩|⟨_,h,_⟩|⟨_,h,_⟩
  ·omega
  ·omega
  ·simp_all
 refine eh i1 (eh i2 ?_);refine gZ T rfl rfl (by simp only[km,eJ,iv.one,r.one,ip.one];rfl) λh4 D s4=>?_;have r:=r.since s4;refine eh (by rfl) (eh (D.ld 0 rfl rfl) (eh r.len ?_))
 refine Om (λk q W a f m n s t h'=>∃(j:Nat) (ds:List V),q = .slice p.next 0 u.blocks.length/\W = .I i/\a=vb/\f = .I u.blocks.length/\m = .I i/\n=bn/\s = .I B.next.length/\t = .I j/\
  j+k=B.next.length/\Sn F h4 F h'/\eo F h' (Cd eN iZ eR ((List.range u.blocks.length).map (iI u i j)) (.slice p.next 0 u.blocks.length) ds::cs)) ?_ (k:=B.next.length)
  ⟨0,ds,rfl,rfl,rfl,rfl,rfl,rfl,rfl,rfl,by omega,Sn.refl _ _,D.tail⟩
 rintro k1 q W a f m n s t X ⟨j,x,rfl,rfl,K,rfl,rfl,ab,rfl,rfl,ac,N,Y⟩;subst a n;unfold Gv;by_cases hj:j<B.next.length;rotate_left
 ·refine iQ ?_;obtain rfl:j=B.next.length:=by omega
  refine fL ⟨k-1,by omega,i+1,x,rfl,rfl,rfl,rfl,by omega,(L.trans s4).trans N,?_⟩;have e:(List.range u.blocks.length).map (iI u (i+1) 0)=(List.range u.blocks.length).map (iI u i B.next.length):=by grind[Xp,Km]
  grind
 refine gK ?_;obtain⟨l8,o8,_,j1,j2⟩:=(r.since N).nat (iy hj) .i64;have O:B.next[j]<u.blocks.length:=g.nx i _ (by grind[next,AY]);have Z:=Y.za9 0 rfl;rw[Ik,wBQ]at Z;refine eh j1 (eh j2 (eh Z ?_));refine A6 (jj (gz (by simp_all) ?_));have o:B.next[j]<((List.range u.blocks.length).map (iI u i j)).length:=by simpa using O
 have ae:((List.range u.blocks.length).map (iI u i j))[B.next[j]]'o=iI u i j B.next[j]:=by simp
 obtain ⟨l,d,d',h6,h7,C,hl,e1,e2,e3,e4,e5,e6,H7,s7⟩:=Y.QA 0 rfl o (jP:=8) (zL:=3) (y:=i) (w:=[.I i]) (ro:=false) rfl (by decide) (by decide) (by
  grind[pZ])
 refine eh e1 (eh e2 ?_);rw[qB,fE];have P:fh 3 1 8 d (.slice X.next 0 1) (X.new (.cells 3 1 true false (ic [i])))=some (.val d' h6):=e3;rw[P,en];refine eh e1 ?_;rw[e5,en];refine Mr ?_;unfold FJ;simp only[ji]at H7;refine fL ⟨k1-1,by omega,j+1,x.set (B.next[j]) d',rfl,rfl,rfl,rfl,rfl,rfl,rfl,rfl,by omega,N.trans s7,?_⟩;have e:((List.range u.blocks.length).map (iI u i j)).set (B.next[j]) (((List.range u.blocks.length).map (iI u i j))[B.next[j]]'o++[i])=(List.range u.blocks.length).map (iI u i (j+1)):=by
  refine wBy (by simp) λb p h2=>?_;rw[List.getElem_set];simp only[List.getElem_map,List.getElem_range];rw[Kq M (iy hj)];by_cases eb:B.next[j]=b
  ·simp_all
  ·grind
 simp_all
end
