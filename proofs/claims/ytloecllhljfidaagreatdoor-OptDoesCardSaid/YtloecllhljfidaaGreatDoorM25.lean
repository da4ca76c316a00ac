/- Parts. -/
import Derived.Test.YtloecllhljfidaaGreatDoorM24
import Derived.KernelRfl
set_option maxHeartbeats 4000000
namespace Go.Proofs.YtloecllhljfidaaGreatDoor.Hx
open Un Dm
variable{b:Nat}{B:Bk}
def pre(u:U)(b:Nat):List Nat:=(u.blocks.take b).flatMap (·.ej)
theorem Ha{u:U}(a:u.blocks[b]? =some B):pre u (b+1)=pre u b++B.ej:=by
 unfold pre;obtain⟨c,rfl⟩:=jo.1 a
 grind[M4]
theorem Ku{u:U}{v:Nat}:v∈pre u b↔∃c k,At u v c k/\c<b:=by
 unfold pre At;simp only[UE];constructor
 ·grind[mn]
 ·rintro⟨c,k,⟨B,a,d⟩,e⟩;refine⟨B,mn.2 ⟨c,?_⟩,by grind⟩
  simp_all
theorem J9{u:U}(g:Good u){b:Nat}{B:Bk}(a:u.blocks[b]? =some B):B.ej.Nodup:=by
 rw[List.nodup_iff_pairwise_ne,wA6];intro i j hi c d e;have f:At u (B.ej[i]) b i:=⟨B,a,gN hi⟩
 have h:At u (B.ej[i]) b j:=⟨B,a,by rw[e];exact gN c⟩
 have:=(g.Ao _ _ _ _ _ f h).2;omega
theorem Iu{u:U}(g:Good u):∀b,(pre u b).Nodup
 |0=>by simp[pre]
 | b + 1=>by
   by_cases hb:b<u.blocks.length
   ·have a:=gN hb
    rw[Ha a,wBO];refine⟨Iu g b,J9 g a,λv d w f e=>?_⟩;subst e
    let⟨c,k,h,i⟩:=Ku.1 d
    let⟨j,hj⟩:=mn.1 f
    have:=(g.Ao _ _ _ _ _ h ⟨_,a,hj⟩).1;omega
   ·have:pre u (b+1)=pre u b:=by
      unfold pre;rw[wAz (by omega),wAz (by omega)]
    rw[this];exact Iu g b
theorem Na{u:U}(g:Good u):(pre u u.blocks.length).length=u.ej.length:=by
 refine Nat.le_antisymm (iP _ _ (Iu g _) λv hv=>?_) ?_
 ·let⟨c,k,a,_⟩:=Ku.1 hv
  exact g.iM _ _ _ a
 ·have a:(List.range u.ej.length).length=u.ej.length:=UW;rw[<-a];refine sub_le _ _ wBV λv hv=>?_;rw[Vu]at hv
  let⟨b,k,d⟩:=g.B6 v hv trivial
  refine Ku.2 ⟨b,k,d,?_⟩
  let⟨B,e,_⟩:=d
  grind
structure Std (u:U) (b k:Nat) (bl pl:List Int):Prop where
 nb:bl.length=u.ej.length
 np:pl.length=u.ej.length
 yes:∀v c j,At u v c j->(c<b\/(c=b/\j<k))->bl[v]? =some (c:Int)/\pl[v]? =some (j:Int)
 no:∀v c j,At u v c j->¬(c<b\/(c=b/\j<k))->bl[v]? =some (-1)
theorem Std.step{u:U}{k:Nat}{bl pl:List Int}(g:Good u)(S:Std u b k bl pl){v:Nat}(hv:At u v b k):Std u b (k+1) (bl.set v (b:Int)) (pl.set v (k:Int)):=by
 have d:=g.iM _ _ _ hv;refine⟨by simp[S.nb],by simp[S.np],λw c j a hc=>?_,λw c j a hc=>?_⟩
 ·by_cases e:w=v
  ·subst e;obtain⟨rfl,rfl⟩:=g.Ao _ _ _ _ _ a hv;rw[MR (by rw[S.nb];exact d),MR (by rw[S.np];exact d)]
   simp_all
  ·rw [I9 (by omega),I9 (by omega)];refine S.yes w c j a ?_;rcases hc with h|⟨rfl,h⟩
   ·omega
   ·refine .inr ⟨rfl,?_⟩;rcases Ub j k with f|f
    ·exact f
    ·exfalso;obtain rfl:j=k:=by omega
     let⟨B,i,l⟩:=a
     let⟨B',m,n⟩:=hv
     simp_all
 ·have e:w≠v:=λe=>by
   subst e;obtain⟨rfl,rfl⟩:=g.Ao _ _ _ _ _ a hv;omega
  rw[I9 (by omega)];exact S.no w c j a (by omega)
theorem Std.next{u:U}{bl pl:List Int}(g:u.blocks[b]? =some B)(S:Std u b B.ej.length bl pl):Std u (b+1) 0 bl pl:=by
 have f:∀v c j,At u v c j->((c<b\/(c=b/\j<B.ej.length))↔(c<b+1\/(c=b+1/\j<0))):=by
  intro v c j hv;constructor
  ·omega
  ·intro h;by_cases e:c=b
   ·subst e
    let⟨B',a,d⟩:=hv
    grind
   ·omega
 exact⟨S.nb,S.np,λv c j a d=>S.yes v c j a (by grind),λv c j a d=>S.no v c j a (by omega)⟩
theorem zai:P0.underlying jZ=some .bool:=by kernel_rfl
theorem Xt(a b:Bool):ez .neq jZ (.bool a) (.bool b)=some (.bool (a != b)):=by
 show Yk jZ true (.bool a) (.bool b)=_;unfold Yk zds zav;rw[zai];rfl
section
variable{F F':Nat->Prop}{h h':Hp}{cs:List Pc}{Q:fq}{u:U}{vv vb vs:V}{lc:Nat}{bl pl Hf:V}
theorem Zi(g:Good u){ty:Nat}(H0:ev F h (eJ lc ty [.I u.func,.I u.pc,vv,vb,vs,bl,pl,Hf]::cs))(s:tL F h u vv vb vs)
  (H:∀F' h' b' p' xs ys,Sn F h F' h'->ev F' h' (eJ lc ty [.I u.func,.I u.pc,vv,vb,vs,b',p',Hf]::cs)->il eZ F' h' xs b'->il eZ F' h' ys p'->Std u u.blocks.length 0 xs ys->Q (.bool true) h') :
  cP CS uH [.ptr lc 0] h Q:=by
 refine IG ?_;have nv:=g.nv;have nb:=g.nb;have aH:=(H0.ok 0 _ rfl).2.1;refine eh (fS _ _) (eh (by rfl) (eh (by rfl) (eh (H0.ld 0 rfl rfl) (eh s.v.len ?_))));rw[jE rfl (by decide) (by omega),gO];obtain⟨H1,s1⟩:=H0.make (E:=eZ) u.ej.length rfl rfl;have n1:(h.new (.cells eR 1 true false (List.replicate u.ej.length (V.I 0)))).next=h.next+1:=rfl;have g1:(h.new (.cells eR 1 true false (List.replicate u.ej.length (V.I 0)))).get h.next=_:=fm _ _;show oP (gP (.ptr lc 0)) _;generalize aI:h.new (.cells eR 1 true false (List.replicate u.ej.length (V.I 0)))=a at*;refine eh (fS _ _) (eh (by rfl) (eh (by rfl) (eh (H1.ld 1 rfl rfl) (eh (s.since s1).v.len ?_))));rw[jE rfl (by decide) (by omega),gO];obtain⟨H2,s2⟩:=H1.make (E:=eZ) u.ej.length rfl rfl;have g2:(a.new (.cells eR 1 true false (List.replicate u.ej.length (V.I 0)))).get a.next=_:=fm _ _;have aJ:=(fo (.cells eR 1 true false (List.replicate u.ej.length (V.I 0))) (by omega)).trans g1;show oP (gP (.ptr lc 0)) _;generalize aK:a.new (.cells eR 1 true false (List.replicate u.ej.length (V.I 0)))=h2 at*;refine eh (fS _ _) (eh (by rfl) ⟨by simp_all,H2.ld 2 rfl rfl,by simp_all,H2.ld 2 rfl rfl,?_⟩)
 let⟨h3,e3,n3,H3,s3,k3⟩:=H2.stk 2 (o:=5) (u:= .slice h.next 0 u.ej.length) rfl (by simp) rfl
 rw[ e3];refine⟨n3,eh (fS _ _) (eh (by rfl) ⟨by grind[O.kE],?_⟩)⟩
 let⟨h4,e4,n4,H4,s4⟩:=H3.st 2 (o:=6) (u:= .slice a.next 0 u.ej.length) rfl (by simp) rfl
 rw[ e4];refine⟨n4,?_⟩;have aL:=((s1.trans s2).trans s3).trans s4;generalize V.slice a.next 0 u.ej.length=vp at*;generalize V.slice h.next 0 u.ej.length=vq at*;have lq:=H4.len 1 rfl;rw[Wt]at lq;refine eh (fS _ _) (eh (by rfl) (eh (H4.ld 2 rfl rfl) (eh lq ?_)))
 refine FA (λk t G I h'=>∃i xs,t = .ptr lc 0/\G = .I u.ej.length/\I = .I (i:Nat)/\i+k=u.ej.length/\xs.length=u.ej.length/\(∀j,j<i->xs[j]? =some (-1))/\Sn F h F h'/\
  ev F h' (fg eZ eR (List.replicate u.ej.length (0:Int)) vp::fg eZ eR xs vq::eJ lc ty [.I u.func,.I u.pc,vv,vb,vs,vq,vp,Hf]::cs)) ?_ (k:=u.ej.length)
  (by grind)
 rintro k t G I h5 ⟨i,xs,rfl,rfl,rfl,hk,ad,hm,s5,H5⟩;unfold p9;by_cases hi:i<u.ej.length
 ·refine gy ?_;obtain⟨l6,o6,h6,e6,e7,n6,J,z⟩:=H5.IH 1 rfl (k:=i) (by omega) rfl rfl rfl;refine eh (fS _ _) (eh (by rfl) (eh (H5.ld 2 rfl rfl) (eh e6 ?_)));rw[e7,en];refine fF ⟨k-1,by omega,i+1,xs.set i (-1),rfl,rfl,rfl,by omega,by simp_all,λj hj=>?_,s5.trans z,J⟩
  grind
 refine hY ?_;refine eh (fS _ _) (eh (by rfl) (eh (by rfl) (eh (H5.ld 2 rfl rfl) (eh (s.since s5).b.len ?_))));have S0:Std u 0 0 xs (List.replicate u.ej.length (0:Int)):=⟨ad,by simp,by omega,λv c j a _=>hm v (by have:=g.iM _ _ _ a;omega)⟩
 refine Ft (λk t K d f m h'=>∃b xs ys,t = .ptr lc 0/\K = .I ((pre u b).length:Nat)/\d=vb/\f = .I u.blocks.length/\m = .I (b:Nat)/\b+k=u.blocks.length/\Std u b 0 xs ys/\Sn F h F h'/\
  ev F h' (fg eZ eR ys vp::fg eZ eR xs vq::eJ lc ty [.I u.func,.I u.pc,vv,vb,vs,vq,vp,Hf]::cs)) ?_ (k:=u.blocks.length)
  ⟨0,xs,_,rfl,rfl,rfl,rfl,rfl,by omega,S0,s5,H5⟩
 rintro k1 t K d f m h6 ⟨b,ae,ag,rfl,rfl,ah,rfl,rfl,aM,S1,z,J⟩;subst d;unfold qc;by_cases hb:b<u.blocks.length;rotate_left
 ·refine hY ?_;obtain rfl:b=u.blocks.length:=by omega
  refine eh (fS _ _) (eh (by rfl) (eh (by rfl) (eh (J.ld 2 rfl rfl) (eh (s.since z).v.len (hX ?_)))));rw[Na g,JO rfl]
  let⟨L,M,r7⟩:=J.jc 0 rfl
  simp[ oU]at L
  let⟨n,p,r8⟩:=L.jc 1 rfl
  exact H _ _ _ _ _ _ ((z.trans M).trans p) n.tail.tail r8 (r7.since p) S1
 refine gy ?_;obtain⟨B,A⟩:∃B,u.blocks[b]? =some B:=by simp_all
 let⟨l7,o7,bv,bn,bp,_,i1,i2,N,iN,ip,_⟩:=(s.since z).nJ A
 refine eh i1 (eh i2 ?_);refine gQ J rfl rfl (by simp only[ku,eQ,N.one,iN.one,ip.one];rfl) λh7 L M=>?_;have N:=N.since M;refine eh (by rfl) (eh (L.ld 0 rfl rfl) (eh N.len ?_));have aN:(pre u b).length<=u.ej.length:=by
  rw[<-Na g];unfold pre;have:u.blocks.take b <+: u.blocks:=List.take_prefix _ _
  let⟨r,hr⟩:=this
  conv=>rhs;rw[I2,<-hr,List.flatMap_append,Lw]
  omega
 have aG:(pre u b).length+B.ej.length<=u.ej.length:=by
  rw[<-Lw,<-Ha A];rw[<-Na g];unfold pre;have:u.blocks.take (b+1) <+: u.blocks:=List.take_prefix _ _
  let⟨r,hr⟩:=this
  conv=>rhs;rw[I2,<-hr,List.flatMap_append,Lw]
  omega
 refine EZ (λk t K x5 x7 d f m C P R h'=>∃j fst xs ys,t = .ptr lc 0/\K = .I (((pre u b).length+j:Nat):Int)/\x5 = .I b/\x7 = .bool fst/\d=vb/\f = .I u.blocks.length/\m = .I b/\
  C=bv/\P = .I B.ej.length/\R = .I j/\j+k=B.ej.length/\(fst=true\/∃v w x,At u v b (j-1)/\0<j/\w=v/\u.ej[v]? =some x/\hZ x.op=false)/\Std u b j xs ys/\Sn F h F h'/\
  ev F h' (fg eZ eR ys vp::fg eZ eR xs vq::eJ lc ty [.I u.func,.I u.pc,vv,vb,vs,vq,vp,Hf]::cs)) ?_ (k:=B.ej.length)
  ⟨0,true,ae,ag,rfl,rfl,rfl,rfl,rfl,rfl,rfl,rfl,rfl,rfl,by omega,.inl rfl,S1,z.trans M,L.tail⟩
 rintro k2 t K x5 x7 d f m C P R h8 ⟨j,fst,D,S,rfl,rfl,rfl,rfl,ah,rfl,rfl,aO,rfl,rfl,aP,T,S2,p,n⟩;subst d C;unfold pW;by_cases hj:j<B.ej.length;rotate_left
 ·refine hY ?_;obtain rfl:j=B.ej.length:=by omega
  refine fF ⟨k1-1,by omega,b+1,D,S,rfl,?_,rfl,rfl,rfl,by omega,S2.next A,p,n⟩;rw[Ha A,Lw]
 refine gy ?_;have e:At u (B.ej[j]) b j:=⟨B,A,gN hj⟩
 have U:=g.iM _ _ _ e;obtain⟨x,hx⟩:∃x,u.ej[B.ej[j]]? =some x:=by simp_all
 have ai:il eN F h8 B.ej bv:=by
  let⟨l7,o7,bv',bn',bp',_,aQ,aR,iv',_⟩:=(s.since p).nJ A
  exact ((by omega)|> λ_=>(by
   have hk:=λl hl=>(p.fk l hl).trans ((z.trans M).fk l hl).symm;exact N.fk hk))
 let⟨l9,o9,_,j1,j2⟩:=ai.nat (gN hj) .i64
 refine eh j1 (eh j2 (eh (fS _ _) (eh (by rfl) (eh (by rfl) (eh (n.ld 2 rfl rfl) (eh (s.since p).v.len ?_))))));refine AB ?_;rw[JO U];refine eh rfl ?_;have aj:=S2.no _ _ _ e (by omega)
 let⟨hvl2,hno2⟩:=jo.1 aj
 let⟨lb,ob,ub,b1,b2,b3⟩:=n.Wd 1 rfl hvl2 .i64 rfl
 obtain rfl:ub = .I (-1):=by
  have:[ub]=[V.I D[B.ej[j]]]:=b3
  simp_all
 have eA:nY (.bool (!true)) (oB (some (V.ptr lc 0)) λak=>oB (gP ak) λal=>oB (fI 5 al) λam=>oB (fe am h8) λan=>oB (some (V.I (B.ej[j]:Nat))) λao=>oB (gB 1 an ao) λap=>oB (fe ap h8) λaq=>ez .geq 3 aq (V.I 0))=some (.bool false):=by
  have l5:fe (.ptr lc (0+5)) h8=some vq:=n.ld 2 rfl rfl;simp only[Bool.not_true,mK,ft,fS,gf,l5,b1,b2,nW];rfl
 refine eh eA (iB (fP (by simp) ?_))
 let⟨lv,ov,wv,_,c1,_,_,cv⟩:=(s.since p).val hx
 refine eh (fS _ _) (eh (by rfl) (eh (by rfl) (eh (n.ld 2 rfl rfl) (eh c1 (eh (by rfl) (eh cv.op ?_))))));refine eh (by rfl) ?_;have eH:nY (.bool ((x.op:Int) == 21)) (oB (some (V.I x.op)) λar=>ez .eql 3 ar (V.I 1))=some (.bool (hZ x.op)):=by
  simp[ft,gR,uN];unfold hZ;rw[show((x.op:Int) == 21)=(x.op == 21) from ieq _ 21,show((x.op:Int) == 1)=(x.op == 1) from ieq _ 1,Bool.or_comm]
 refine eh eH ?_;have aS:hZ x.op=true->fst=true:=by
  intro q;rcases T with a|⟨v,w,y,a,h2,rfl,h3,h4⟩
  ·exact a
  ·exfalso;have h5:=g.yD (B.ej[j]) w b (j-1) x y (by grind) a hx h3 q
   simp_all
 have au:jI (.bool (hZ x.op)) (oB (some (V.bool fst)) λW=>pK .not W)=some (.bool false):=by
  cases q:hZ x.op with
  |false=>rfl
  |true=>simp_all
 refine eh au ?_;have aT:hZ x.op=true->((x.op:Int) == 1)=((b:Int) == 0):=by
  intro q;unfold hZ at q;simp[OK,Bg]at q;rw[show((x.op:Int) == 1)=(x.op == 1) from ieq _ 1,show((b:Int) == 0)=(b == 0) from ieq _ 0];rcases q with a|a
  ·rw[g.par _ _ _ _ e hx a,a];rfl
  ·have:=(g.Cd _ _ _ _ _ e hx a A).1
   simp_all
 have eM:nY (.bool false) (oB (some (V.I x.op)) λX=>oB (ez .eql 3 X (V.I 1)) λY=>oB (some (V.I b)) λZ=>oB (ez .eql 3 Z (V.I 0)) λaa=>oB (ez .neq 4 Y aa) λab=>oB (some ab) λac=>jI ac (some (V.bool (hZ x.op))))=some (.bool false):=by
  simp[mK,ft,gR,Xt,mb]
  cases q:hZ x.op with
  |false=>simp
  |true=>simp_all
 refine eh eM (iB (fP (by simp) ?_));obtain⟨aU,aV,aW,aw,Yr,ax,ay,aA⟩:=n.IH 1 rfl hvl2 rfl rfl rfl;refine eh (fS _ _) (eh (by rfl) (eh (n.ld 2 rfl rfl) (eh (fS _ _) (eh (by rfl) (eh (n.ld 2 rfl rfl) (eh aw ?_))))));rw[Yr,en];obtain⟨aX,aY,aZ,aB,aC,aD,aE,aF⟩:=ay.IH 0 rfl (by rw[S2.np];exact U) rfl rfl rfl;refine⟨ax,eh aB ?_⟩;rw[aC,en];refine⟨aD,fF (fF ?_)⟩;refine⟨k2-1,by omega,j+1,hZ x.op,D.set (B.ej[j]) (b:Int),S.set (B.ej[j]) (j:Int),rfl,?_,rfl,rfl,rfl,rfl,rfl,rfl,rfl,rfl,by omega,?_,S2.step g e,(p.trans aA).trans aF,aE⟩
 ·rfl
 ·cases q:hZ x.op with
  |true=>simp_all
  |false=>exact .inr ⟨_,_,x,e,by omega,rfl,hx,q⟩
end
open Un Dm
def B3{α:Type}(E:qf α)(Sl ty:Nat)(GZ:List (List α))(v:V)(ds:List V):Pc where
 my:=λl=>Loc v l\/∃d∈ds,Loc d l
 ok F h:=∃t,v = .slice t 0 GZ.length/\t<h.next/\¬F t/\h.get t=some (.cells Sl 1 true false ds)/\ds.length=GZ.length/\(∀(i:Nat) x d,GZ[i]? =some x->ds[i]? =some d->kV E ty F h x d)/\(∀d∈ds,¬Loc d t)/\
  ∀(i j:Nat) d e,i≠j->ds[i]? =some d->ds[j]? =some e->∀l,Loc d l->¬Loc e l
 Nn:=λ⟨t,f,g,o,p,k,b,m,n⟩ l a=>by
  rcases a with a|⟨d,c,a⟩
  ·simp_all
  ·let⟨i,hi⟩:=mn.1 c
   have s:=(jo.1 hi).1;exact((b i _ d (gN (by omega)) hi).vV a).2
 fk:=λ{F h h'} ⟨t,f,g,o,p,k,b,m,n⟩ q a r=>by
  refine⟨t,f,Ep g r,o,by simp_all,k,λi x d hx c=>?_,m,n⟩;exact(b i x d hx c).fk q (by grind) r
 mono:=λ{F F' h} ⟨t,f,g,o,p,k,b,m,n⟩ q a=>by
  refine⟨t,f,g,by simp_all,p,k,λi x d hx c=>?_,m,n⟩;exact(b i x d hx c).mono q (by grind)
theorem Ua{α:Type}{E:qf α}{F:Nat->Prop}{h:Hp}:∀{GZ:List (List α)}{ds:List V},ds.length=GZ.length->(∀(i:Nat) x d,GZ[i]? =some x->ds[i]? =some d->il E F h x d)->qX (eL E) F h ds GZ
 |[],_,_,_=>trivial
 |x::GZ,[],h,_=>by simp_all
 |x::GZ,d::ds,hl,H=>⟨[d],ds,rfl,⟨d,rfl,H 0 x d rfl rfl⟩,Ua (by simp_all) λi x d hx a=>H (i+1) x d (by simp_all) (by simp_all)⟩
section
variable{F F':Nat->Prop}{h h':Hp}{cs:List Pc}{α:Type}{E:qf α}{Sl ty:Nat}{GZ:List (List α)}{v:V}{ds:List V}
theorem ev.R0(H:ev F h cs)(n:Nat):ev F (h.new (.cells Sl 1 true false (List.replicate n V.ei))) (B3 E Sl ty (List.replicate n []) (.slice h.next 0 n) (List.replicate n V.ei)::cs)/\Sn F h F (h.new (.cells Sl 1 true false (List.replicate n V.ei))):=by
 have c:∀{i:Nat} {d:V},(List.replicate n V.ei)[i]? =some d->d = .ei:=by grind
 refine H.new _ ⟨h.next,by simp,Pf _,H.fresh,fm _ _,by simp,λi x d hx b=>?_,λd b=>?_,λi j d e _ b _ l a=>?_⟩ λl a=>?_
 ·obtain rfl:=c b;obtain rfl:x=[]:=by grind
  exact .nil
 ·simp_all
 ·obtain rfl:=c b;exact a.elim
 ·rcases a with a|⟨d,b,a⟩
  ·exact a.symm
  simp_all
theorem ev.zbN(H:ev F h cs)(i:Nat)(hi:cs[i]? =some (B3 E Sl ty GZ v ds)):fE v=some (.I GZ.length):=by
 obtain⟨t,rfl,_⟩:=H.ok i _ hi;rfl
theorem ev.Ri(H:ev F h cs)(i:Nat)(hi:cs[i]? =some (B3 E Sl ty GZ v ds)){b:Nat}(hb:b<GZ.length){jL GA:Nat}{y:α}{w:List V}{ro:Bool}(M:E.rel F h y w)(hz:0<E.sz)(P:jL<=1000)(hlen:GZ[b].length<1000000) :
  ∃l d d' A B,ds[b]? =some d/\l<h.next/\gB 1 v (.I b)=some (.ptr l (b*1))/\fe (.ptr l (b*1)) h=some d/\fi ty E.sz jL d (.slice h.next 0 1) (h.new (.cells GA E.sz true ro w))=some (.val d' A)/\h.next+1<=A.next/\
   gq 1 (.ptr l (b*1)) d' A=some (.val .undef B)/\A.next<=B.next/\ev F B (cs.set i (B3 E Sl ty (GZ.set b (GZ[b]++[y])) v (ds.set b d')))/\Sn F h F B:=by
 obtain⟨t,rfl,A,B,h4,h5,Q,R,N⟩:=H.ok i _ hi;obtain⟨d,J⟩:∃d,ds[b]? =some d:=by simp_all
 have hO:=Q b _ d (gN hb) J;have C:=mn.2 ⟨b,J⟩;have T:kV E ty F (h.new (.cells GA E.sz true ro w)) GZ[b] d:=hO.fk (λl a=>fo _ (H.fl l a)) (λl a=>fo _ (hO.vV a).2.1) (PH _);have hx:kX (h.new (.cells GA E.sz true ro w)) E.sz (.slice h.next 0 1)=some (1,w):=mU (by rw[E.len M];simp);have aa:(GZ[b].length+1)*jL<=1000000*1000:=Nat.mul_le_mul (by omega) P
 let⟨d',g,O,Y,K,l1⟩:=T.append (jL:=jL) (ys:=[y]) hx ⟨w,[],by simp,E.fk (λl a=>fo _ (H.fl l a)) M,trivial⟩ (by rw[E.len M];simp) (E.one M) (by simp) hz (λl a=>wBf (H.fl l a)) (by simp;omega) (by simp;omega)
 have n1:(h.new (.cells GA E.sz true ro w)).next=h.next+1:=rfl;have D:∀l,Loc d' l->Loc d l\/h.next<=l:=by grind
 have p:t<g.next:=by have:=K.next;omega
 have gt:g.get t=some (.cells Sl 1 true false ds):=by rw[K.fk t (by omega) (R d C),fo _ A];exact h4
 have L:=NU (o:=b*1) gt (by omega) Y.one;rw[Nat.mul_one]at L;have U:¬Loc d' t:=by grind
 have cg:lP (B3 E Sl ty GZ (.slice t 0 GZ.length) ds).my h (g.put t (.cells Sl 1 true false (ds.set b d'))):=by
  refine(((lP.new h _).ZC λ_ _ h=>h).trans' (by omega) λl _ a=> .inr ⟨d,C,a⟩).trans' (lP.put (S:=λl=>l=t) _ rfl p) λl _ e=> .inl e.symm
 have m:∀{j:Nat} {e:V},(ds.set b d')[j]? =some e->(j=b/\e=d')\/(j≠b/\ds[j]? =some e):=by grind
 have q:∀{j:Nat} {e:V},ds[j]? =some e->∀l,Loc e l->l<h.next:=λ{j e} c l a=>by
  have ab:=(jo.1 c).1;exact((Q j _ e (gN (by omega)) c).vV a).2.1
 refine⟨t,d,d',g,g.put t (.cells Sl 1 true false (ds.set b d')),J,A,?_,?_,O,K.next,by simp_all,iZ _,H.Au hi cg ?_ ?_⟩
 ·simp_all[yJ,C7]
 ·rw[Nat.mul_one];grind[kP]
 ·refine ⟨t,by simp,p,B,fY _ p,by simp[h5],λj x e r c=>?_,λe c=>?_,λj k e f Z c hf l a s=>?_⟩
  ·rcases m c with⟨rfl,rfl⟩|⟨n,c⟩
   ·rw[MR hb]at r;obtain rfl:=Option.some.inj r;exact Y.fk (by grind[gI]) (by grind[gI]) (iZ _)
   ·rw[I9 λe=>n e.symm]at r;have W:=mn.2 ⟨j,c⟩;refine(Q j x e r c).fk (λl a=>?_) (λl a=>?_) (by have:=K.next;show h.next<=g.next;omega)
    ·rw[gI _ p λe=>B (e▸a),K.fk l (wBf (H.fl l a)) λG=>(hO.vV G).2.2 a,fo _ (H.fl l a)]
    ·have X:=q c l a;rw[gI _ p λe'=>R e W (e'▸a),K.fk l (by omega) λG=>N j b e d n c J l a G,fo _ X]
  ·let⟨j,n⟩:=mn.1 c
   rcases m n with⟨_,rfl⟩|⟨_,n⟩
   ·exact U
   ·exact R e (mn.2 ⟨j,n⟩)
  ·rcases m c with⟨O,e2⟩|⟨n,I⟩
   ·rcases m hf with⟨L,_⟩|⟨hk,u⟩
    ·exact Z (O.trans L.symm)
    ·subst O e2;rcases D l a with z|z
     ·exact N k j f d hk u J l s z
     ·have:=q u l s;omega
   ·rcases m hf with⟨L,e4⟩|⟨hk,u⟩
    ·subst L e4;rcases D l s with z|z
     ·exact N j k e d n I J l a z
     ·have:=q I l a;omega
    ·exact N j k e f Z I u l a s
 ·intro l a;rcases a with a|⟨e,c,a⟩
  ·exact .inl (.inl a)
  ·let ⟨j,n⟩:=mn.1 c
   rcases m n with⟨_,rfl⟩|⟨_,n⟩
   ·rcases D l a with z|z
    ·exact .inl (.inr ⟨d,C,z⟩)
    ·exact .inr z
   ·exact .inl (.inr ⟨e,mn.2 ⟨j,n⟩,a⟩)
theorem ev.Rh(H:ev F h cs)(i:Nat)(hi:cs[i]? =some (B3 E Sl ty GZ v ds)):∃F',ev F' h (cs.set i emp)/\Sn F h F' h/\il (eL E) F' h GZ v:=by
 have a:=H.ok i _ hi
 let⟨c,e⟩:=H.zdK (p:=emp) (F':=λl=>F l\/(B3 E Sl ty GZ v ds).my l) hi (lP.refl _ _) (by simp_all) (by grind) trivial λ_ h=>h.elim
 refine⟨_,c,e,?_⟩;obtain⟨t,rfl,n,o,f,g,k,q,r⟩:=a;refine .inr ⟨t,0,Sl,true,false,ds,rfl,.inr (.inl rfl),f,.inr rfl,Mr _,?_⟩;rw[wBP];exact Ua g λj x d hx b=>(k j x d hx b).slR (by simp_all) λl m=> .inr (.inr ⟨d,mn.2 ⟨j,b⟩,m⟩)
end
def iH(u:U)(i j b:Nat):List Nat:=jK (u.blocks.take i) 0 b++(match u.blocks[i]? with
 |some B=>((B.next.take j).filter (·= b)).map λ_=>i
 |none=>[])
theorem Kz(u:U)(b:Nat):iH u 0 0 b=[]:=by
 grind[iH,jK]
theorem Kq{u:U}{i j t:Nat}(a:u.blocks[i]? =some B)(ht:B.next[j]? =some t):iH u i (j+1) b=if b=t then iH u i j b++[i] else iH u i j b:=by
 unfold iH;rw[a];obtain⟨c,rfl⟩:=jo.1 ht;simp only[M4 c,wBp]
 grind
theorem Ls{u:U}{i:Nat}(a:u.blocks[i]? =some B):iH u (i+1) 0 b=iH u i B.next.length b:=by
 unfold iH;obtain⟨hi,rfl⟩:=jo.1 a;rw[ M4 hi,rk];have c:(u.blocks.take i).length=i:=by rw[Pw];omega
 simp[ C7]
 grind[jK]
theorem pM(u:U)(b:Nat):iH u u.blocks.length 0 b=Un.ahead u b:=by
 simp_all[iH,Un.ahead]
theorem pP{u:U}(g:Good u){i j b:Nat}(hi:i<=u.blocks.length)(f:j<=2):(iH u i j b).length<=2*i+2:=by
 have c:∀i,i<=u.blocks.length->(jK (u.blocks.take i) 0 b).length<=2*i:=by
  intro i
  induction i with
  |zero=>grind[jK]
  | succ i d=>
    intro hi;have a:i<u.blocks.length:=by omega
    rw[M4 a,rk];have:=d (by omega);have e:u.blocks[i]? =some u.blocks[i]:=by simp_all
    have k:(u.blocks[i]).next.length<=2:=by
      rcases g.fin i _ e with⟨_,h⟩|⟨_,h,_⟩|⟨_,h,_⟩
      ·omega
      ·omega
      ·simp_all
    grind[jK]
 grind[iH,Lw]
section
variable{F F':Nat->Prop}{h h':Hp}{cs:List Pc}{Q:fq}{u:U}{vv vb vs:V}
theorem Uv(g:Good u)(W:ev F h cs)(x:tL F h u vv vb vs)(H:∀F' h' v,Sn F h F' h'->ev F' h' cs->il (eL eN) F' h' ((List.range u.blocks.length).map (Un.ahead u)) v->Q v h') :
  cP CS Cf [.agg (uC u vv vb vs)] h Q:=by
 refine Uo ?_;have nb:=g.nb;refine j4 W x.one λo M A=>?_;refine eh (by rfl) (eh (M.ld 0 rfl rfl) (eh (x.since A).b.len ?_));rw[jE rfl (by decide) (by omega),fu];obtain⟨C,N⟩:=M.R0 u.blocks.length;have D:List.replicate u.blocks.length ([]:List Nat)=(List.range u.blocks.length).map (iH u 0 0):=by
  refine wBy (by simp) λi o X=>?_;simp[Kz]
 rw[D]at C;refine eh (by rfl) (eh (C.ld 1 rfl rfl) (eh (x.since (A.trans N)).b.len ?_))
 refine NY (λk p a f m h'=>∃i ds,p = .slice o.next 0 u.blocks.length/\a=vb/\f = .I u.blocks.length/\m = .I (i:Nat)/\i+k=u.blocks.length/\Sn F h F h'/\
  ev F h' (B3 eN iU eR ((List.range u.blocks.length).map (iH u i 0)) (.slice o.next 0 u.blocks.length) ds::cs)) ?_ (k:=u.blocks.length)
  ⟨0,_,rfl,rfl,rfl,rfl,by omega,A.trans N,(C.forget (i:=1) rfl)|> λH=>by
    exact ⟨H.fl,λi c hc=>by
      cases i with
      |zero=>exact H.ok 0 c hc
      |succ i=>exact H.ok (i+2) c hc,λi j c d hc y hn=>by
      cases i with
      | zero=>
        cases j with
        |zero=>omega
        |succ j=>exact H.Et 0 (j+2) c d hc y (by omega)
      | succ i=>
        cases j with
        |zero=>exact H.Et (i+2) 0 c d hc y (by omega)
        |succ j=>exact H.Et (i+2) (j+2) c d hc y (by omega)⟩⟩
 rintro k p a f m Y ⟨i,ds,rfl,E,rfl,rfl,hk,G,O⟩;subst a;unfold A8;by_cases hi:i<u.blocks.length;rotate_left
 ·refine hY ?_;obtain rfl:i=u.blocks.length:=by omega
  let⟨Z,z,s4,P⟩:=O.Rh 0 rfl
  have e:(List.range u.blocks.length).map (iH u u.blocks.length 0)=(List.range u.blocks.length).map (Un.ahead u):=by
   refine(by grind[Ym,pM])
  rw[e]at P;exact H Z Y _ (G.trans s4) z.tail P
 refine gy ?_;obtain⟨B,I⟩:∃B,u.blocks[i]? =some B:=by simp_all
 let⟨l7,o7,bv,bn,bp,_,i1,i2,iv,q,ip,_⟩:=(x.since G).nJ I
 have aa:B.next.length<=2:=by
  rcases g.fin i _ I with⟨_,h⟩|⟨_,h,_⟩|⟨_,h,_⟩
  ·omega
  ·omega
  ·simp_all
 refine eh i1 (eh i2 ?_);refine gQ O rfl rfl (by simp only[ku,eQ,iv.one,q.one,ip.one];rfl) λh4 z s4=>?_;have q:=q.since s4;refine eh (by rfl) (eh (z.ld 0 rfl rfl) (eh q.len ?_))
 refine OZ (λk p R a f m n r s h'=>∃j ds,p = .slice o.next 0 u.blocks.length/\R = .I i/\a=vb/\f = .I u.blocks.length/\m = .I i/\n=bn/\r = .I B.next.length/\s = .I (j:Nat)/\
  j+k=B.next.length/\Sn F h4 F h'/\ev F h' (B3 eN iU eR ((List.range u.blocks.length).map (iH u i j)) (.slice o.next 0 u.blocks.length) ds::cs)) ?_ (k:=B.next.length)
  ⟨0,ds,rfl,rfl,rfl,rfl,rfl,rfl,rfl,rfl,by omega,Sn.refl _ _,z.tail⟩
 rintro k1 p R a f m n r s S ⟨j,t,rfl,rfl,E,rfl,rfl,ab,rfl,rfl,ac,J,T⟩;subst a n;unfold AD;by_cases hj:j<B.next.length;rotate_left
 ·refine hY ?_;obtain rfl:j=B.next.length:=by omega
  refine fF ⟨k-1,by omega,i+1,t,rfl,rfl,rfl,rfl,by omega,(G.trans s4).trans J,?_⟩;have e:(List.range u.blocks.length).map (iH u (i+1) 0)=(List.range u.blocks.length).map (iH u i B.next.length):=by grind[Ym,Ls]
  grind
 refine gy ?_
 let⟨l8,o8,_,j1,j2⟩:=(q.since J).nat (gN hj) .i64
 have K:B.next[j]<u.blocks.length:=g.nx i _ (by grind[next,zI]);have U:=T.zbN 0 rfl;rw[Er,UW]at U;refine eh j1 (eh j2 (eh U ?_));refine AB (iB (fW (by simp_all) ?_));have w:B.next[j]<((List.range u.blocks.length).map (iH u i j)).length:=by simpa using K
 obtain ⟨l,d,d',h6,h7,y,hl,V,e2,e3,e4,e5,e6,H7,s7⟩:=T.Ri 0 rfl w (jL:=8) rfl (by decide) (by decide) (by
  grind[pP])
 refine eh V (eh e2 ?_);rw[mH,fu];have L:fi 3 1 8 d (.slice S.next 0 1) (S.new (.cells 3 1 true false (ig [i])))=some (.val d' h6):=e3;rw[L,en];refine eh V ?_;rw[e5,en];refine MS ?_;unfold zH;refine fF ⟨k1-1,by omega,j+1,t.set (B.next[j]) d',rfl,rfl,rfl,rfl,rfl,rfl,rfl,rfl,by omega,J.trans s7,?_⟩;have e:((List.range u.blocks.length).map (iH u i j)).set (B.next[j]) (((List.range u.blocks.length).map (iH u i j))[B.next[j]]'w++[i])=(List.range u.blocks.length).map (iH u i (j+1)):=by
  refine wBy (by simp) λb o X=>?_;rw[List.getElem_set];simp[List.getElem_map,List.getElem_range];rw[Kq I (gN hj)];by_cases eb:B.next[j]=b
  ·simp_all
  ·grind
 simp_all
end
