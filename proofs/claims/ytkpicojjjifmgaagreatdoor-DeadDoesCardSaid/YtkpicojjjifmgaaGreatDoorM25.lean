/- Parts. -/
import Derived.Test.YtkpicojjjifmgaaGreatDoorM24
import Derived.KernelRfl
namespace Go.Proofs.YtkpicojjjifmgaaGreatDoor.Hx
open Un Dm
def pre(u:U)(b:Nat):List Nat:=(u.blocks.take b).flatMap (·.eh)
theorem FI{u:U}{b:Nat}{B:Bk}(a:u.blocks[b]? =some B):pre u (b+1)=pre u b++B.eh:=by
 unfold pre;obtain⟨c,rfl⟩:=jR.1 a;rw[NG c,wBa];simp
theorem I5{u:U}{b v:Nat}:v∈pre u b↔∃c k,At u v c k/\c<b:=by
 unfold pre At;simp only[RT];constructor
 ·rintro⟨B,a,d⟩;obtain⟨c,hc⟩:=oD.1 a;obtain⟨k,e⟩:=oD.1 d;rw[List.getElem?_take]at hc;split at hc
  ·exact⟨c,k,⟨B,hc,e⟩,by omega⟩
  ·cases hc
 ·rintro⟨c,k,⟨B,a,d⟩,f⟩;refine⟨B,oD.2 ⟨c,?_⟩,oD.2 ⟨k,d⟩⟩;rw[List.getElem?_take,if_pos f];exact a
theorem Ie{u:U}(g:Good u){b:Nat}{B:Bk}(a:u.blocks[b]? =some B):B.eh.Nodup:=by
 rw[wBY,Zm];intro i j hi c d e;have f:At u (B.eh[i]) b i:=⟨B,a,hO hi⟩
 have h:At u (B.eh[i]) b j:=⟨B,a,by rw[e];exact hO c⟩
 have:=(g.Px _ _ _ _ _ f h).2;omega
theorem GB{u:U}(g:Good u):∀b,(pre u b).Nodup
 |0=>by simp[pre]
 | b + 1=>by
   by_cases hb:b<u.blocks.length
   ·have a:=hO hb
    rw[FI a,wBj];refine⟨GB g b,Ie g a,λv d w f e=>?_⟩;subst e;obtain⟨c,k,h,l⟩:=I5.1 d;obtain⟨j,i⟩:=oD.1 f;have:=(g.Px _ _ _ _ _ h ⟨_,a,i⟩).1;omega
   ·have:pre u (b+1)=pre u b:=by
      unfold pre;rw[Yq (by omega),Yq (by omega)]
    rw[this];exact GB g b
theorem Lb{u:U}(g:Good u):(pre u u.blocks.length).length=u.eh.length:=by
 refine Nat.le_antisymm (kj _ _ (GB g _) λv hv=>?_) ?_
 ·obtain⟨c,k,a,_⟩:=I5.1 hv;exact g.mH _ _ _ a
 ·have a:(List.range u.eh.length).length=u.eh.length:=YR;rw[<-a];refine sub_le _ _ List.nodup_range λv hv=>?_;rw[YQ]at hv;obtain⟨b,k,d⟩:=g.Iw v hv trivial;refine I5.2 ⟨b,k,d,?_⟩;obtain⟨B,e,_⟩:=d;exact(jR.1 e).1
structure Std (u:U) (b k:Nat) (bl pl:List Int):Prop where
 nb:bl.length=u.eh.length
 np:pl.length=u.eh.length
 yes:∀(v c j:Nat),At u v c j->(c<b\/(c=b/\j<k))->bl[v]? =some (c:Int)/\pl[v]? =some (j:Int)
 no:∀(v c j:Nat),At u v c j->¬(c<b\/(c=b/\j<k))->bl[v]? =some (-1)
theorem Std.step{u:U}{b k:Nat}{bl pl:List Int}(g:Good u)(S:Std u b k bl pl){v:Nat}(hv:At u v b k):Std u b (k+1) (bl.set v (b:Int)) (pl.set v (k:Int)):=by
 have d:=g.mH _ _ _ hv;refine⟨by simp[S.nb],by simp[S.np],λw c j a hc=>?_,λw c j a hc=>?_⟩
 ·by_cases e:w=v
  ·subst e;obtain⟨rfl,rfl⟩:=g.Px _ _ _ _ _ a hv;rw[Hf (by rw[S.nb];exact d),Hf (by rw[S.np];exact d)];exact⟨rfl,rfl⟩
  ·rw [ES λh=>e h.symm,ES λh=>e h.symm];refine S.yes w c j a ?_;rcases hc with f|⟨rfl,f⟩
   ·exact .inl f
   ·refine .inr ⟨rfl,?_⟩;rcases P9 j k with i|i
    ·exact i
    ·exfalso;obtain rfl:j=k:=by omega
     obtain⟨B,n,o⟩:=a;obtain⟨p,l,m⟩:=hv;rw[n]at l;cases l;rw[o]at m;cases m;exact e rfl
 ·have e:w≠v:=λe=>by
   subst e;obtain⟨rfl,rfl⟩:=g.Px _ _ _ _ _ a hv;exact hc (.inr ⟨rfl,by omega⟩)
  rw[ES λh=>e h.symm];exact S.no w c j a λh=>hc (by omega)
theorem Std.next{u:U}{b:Nat}{bl pl:List Int}{B:Bk}(g:u.blocks[b]? =some B)(S:Std u b B.eh.length bl pl):Std u (b+1) 0 bl pl:=by
 have d:∀v c j,At u v c j->((c<b\/(c=b/\j<B.eh.length))↔(c<b+1\/(c=b+1/\j<0))):=by
  intro v c j hv;constructor
  ·omega
  ·intro h;by_cases e:c=b
   ·subst e;obtain⟨k,a,f⟩:=hv;rw[g]at a;cases a;exact .inr ⟨rfl,(jR.1 f).1⟩
   ·omega
 exact⟨S.nb,S.np,λv c j a f=>S.yes v c j a ((d v c j a).2 f),λv c j a f=>S.no v c j a λi=>f ((d v c j a).1 i)⟩
theorem XE:P0.underlying ju=some .bool:=by kernel_rfl
theorem VH(a b:Bool):ev .neq ju (.bool a) (.bool b)=some (.bool (a != b)):=by
 show VN ju true (.bool a) (.bool b)=_;unfold VN zb2 Wz;rw[XE];cases a <;> cases b <;> rfl
section
variable{F F':Nat->Prop}{h h':Hp}{cs:List Pc}{Q:fy}{u:U}{vv vb vs:V}{lc:Nat}{bl pl Fc:V}
theorem Xj(g:Good u){ty:Nat}(H0:eo F h (ez lc ty [.I u.func,.I u.pc,vv,vb,vs,bl,pl,Fc]::cs))(s:ym F h u vv vb vs)
  (H:∀F' h' b' p' xs ys,Sn F h F' h'->eo F' h' (ez lc ty [.I u.func,.I u.pc,vv,vb,vs,b',p',Fc]::cs)->iq eZ F' h' xs b'->iq eZ F' h' ys p'->Std u u.blocks.length 0 xs ys->Q (.bool true) h') :
  cP CS oU [.ptr lc 0] h Q:=by
 refine GR rfl rfl ?_;unfold zy;have nv:=g.nv;have nb:=g.nb;have aT:lc<h.next:=(H0.ok 0 _ rfl).2.1;refine ee (gj _ _) (ee (fe _ _ _) (oF (H0.ld 0 rfl rfl) (ee s.v.len ?_)));rw[ka (z:=V.I 0) rfl (by decide) (by omega),hV];obtain⟨H1,s1⟩:=H0.make (E:=eZ) (ty:=eJ) (y:=0) (u:=V.I 0) u.eh.length rfl rfl;have n1:(h.new (.cells eJ 1 true false (List.replicate u.eh.length (V.I 0)))).next=h.next+1:=rfl;have g1:(h.new (.cells eJ 1 true false (List.replicate u.eh.length (V.I 0)))).get h.next=_:=fj _ _;show oP (iF (.ptr lc 0)) _;generalize ao:h.new (.cells eJ 1 true false (List.replicate u.eh.length (V.I 0)))=a at*;refine ee (gj _ _) (ee (fe _ _ _) (oF (H1.ld 1 rfl rfl) (ee (s.since s1).v.len ?_)));rw[ka (z:=V.I 0) rfl (by decide) (by omega),hV];obtain⟨H2,s2⟩:=H1.make (E:=eZ) (ty:=eJ) (y:=0) (u:=V.I 0) u.eh.length rfl rfl;have g2:(a.new (.cells eJ 1 true false (List.replicate u.eh.length (V.I 0)))).get a.next=_:=fj _ _;have N:=(fo (h:=a) (.cells eJ 1 true false (List.replicate u.eh.length (V.I 0))) (l:=h.next) (by omega)).trans g1;have n2:(a.new (.cells eJ 1 true false (List.replicate u.eh.length (V.I 0)))).next=a.next+1:=rfl;show oP (iF (.ptr lc 0)) _;generalize ap:a.new (.cells eJ 1 true false (List.replicate u.eh.length (V.I 0)))=h2 at*;refine ee (gj _ _) (ee (fe _ _ _) ⟨⟨g2,O.iK _ _ _ _ _⟩,H2.ld 2 rfl rfl,⟨N,O.iK _ _ _ _ _⟩,H2.ld 2 rfl rfl,?_⟩);obtain⟨h3,e3,n3,H3,s3,k3⟩:=H2.stk 2 (o:=5) (u:= .slice h.next 0 u.eh.length) rfl (by simp) rfl;rw[show V.ptr lc (0+5)=V.ptr lc 5 from rfl,e3,ei];refine⟨n3,ee (gj _ _) (ee (fe _ _ _) ⟨⟨(k3 _ (by omega)).trans g2,O.iK _ _ _ _ _⟩,?_⟩)⟩;simp only[l0,jo]at H3;obtain⟨h4,e4,n4,H4,s4⟩:=H3.st 2 (o:=6) (u:= .slice a.next 0 u.eh.length) rfl (by simp) rfl;rw[show V.ptr lc (0+6)=V.ptr lc 6 from rfl,e4,ei];refine⟨n4,?_⟩;simp only[l0,jo]at H4;have aq:=((s1.trans s2).trans s3).trans s4;clear e3 e4 k3 g1 N g2 H1 H2 H3 s1 s2 s3 s4 ao ap;generalize V.slice a.next 0 u.eh.length=vp at*;generalize V.slice h.next 0 u.eh.length=vq at*;have lq:=H4.len 1 (xs:=List.replicate u.eh.length (0:Int)) rfl;rw[PV]at lq;refine oN (H4.ld 2 rfl rfl) (ee lq ?_)
 refine D2 (λk A P R h'=>∃(i:Nat) (xs:List Int),A = .ptr lc 0/\P = .I u.eh.length/\R = .I i/\i+k=u.eh.length/\xs.length=u.eh.length/\(∀j,j<i->xs[j]? =some (-1))/\Sn F h F h'/\
  eo F h' (eR eZ eJ (List.replicate u.eh.length (0:Int)) vp::eR eZ eJ xs vq::ez lc ty [.I u.func,.I u.pc,vv,vb,vs,vq,vp,Fc]::cs)) ?_ (k:=u.eh.length)
  ⟨0,_,rfl,rfl,rfl,by omega,by simp,λj hj=>by omega,aq,H4⟩
 rintro k A P R h5 ⟨i,xs,rfl,rfl,rfl,hk,S,hm,s5,H5⟩;unfold w9;by_cases hi:i<u.eh.length
 ·refine gB ?_;obtain⟨l6,o6,h6,e6,e7,n6,L,C⟩:=H5.IG 1 rfl (k:=i) (y:=(-1:Int)) (u:=V.I (-1)) (by omega) rfl rfl rfl;refine oN (H5.ld 2 rfl rfl) (ee e6 ?_);rw[e7,ei];simp only[l0,jo]at L;refine fM ⟨k-1,by omega,i+1,xs.set i (-1),rfl,rfl,rfl,by omega,by simp[S],λj hj=>?_,s5.trans C,L⟩;by_cases e:j=i
  ·subst e;rw[Hf (by omega)]
  ·rw[ES λh=>e h.symm];exact hm j (by omega)
 refine iJ ?_;refine ee (gj _ _) (ee (fe _ _ _) (oF (H5.ld 2 rfl rfl) (ee (s.since s5).b.len ?_)));have S0:Std u 0 0 xs (List.replicate u.eh.length (0:Int)):=⟨S,by simp,λv c j _ h=>by omega,λv c j a _=>hm v (by have:=g.mH _ _ _ a;omega)⟩
 refine Dg (λk A T d m n h'=>∃(b:Nat) (xs ys:List Int),A = .ptr lc 0/\T = .I ((pre u b).length:Nat)/\d=vb/\m = .I u.blocks.length/\n = .I b/\b+k=u.blocks.length/\Std u b 0 xs ys/\Sn F h F h'/\
  eo F h' (eR eZ eJ ys vp::eR eZ eJ xs vq::ez lc ty [.I u.func,.I u.pc,vv,vb,vs,vq,vp,Fc]::cs)) ?_ (k:=u.blocks.length)
  ⟨0,xs,_,rfl,rfl,rfl,rfl,rfl,by omega,S0,s5,H5⟩
 rintro k1 A T d m n h6 ⟨b,ar,au,rfl,rfl,aw,rfl,rfl,aU,S1,C,L⟩;subst d;unfold wh;by_cases hb:b<u.blocks.length;rotate_left
 ·refine iJ ?_;obtain rfl:b=u.blocks.length:=by omega
  refine ee (gj _ _) (ee (fe _ _ _) (oF (L.ld 2 rfl rfl) (ee (s.since C).v.len (il ?_))));rw[Lb g,Ke rfl];obtain⟨U,W,r7⟩:=L.ma 0 rfl;simp only[l0,jo]at U;obtain⟨p,t,r8⟩:=U.ma 1 rfl;simp only[l0,jo]at p;exact H _ _ _ _ _ _ ((C.trans W).trans t) p.tail.tail r8 (r7.since t) S1
 refine gB ?_;obtain⟨B,D⟩:∃B,u.blocks[b]? =some B:=⟨_,hO hb⟩
 obtain ⟨l7,o7,bv,bn,bp,_,i1,i2,M,iN,ip,_⟩:=(s.since C).oW D;refine ee i1 (ee i2 ?_);refine gY L rfl rfl (by simp only[kE,ey,M.one,iN.one,ip.one];rfl) λh7 U W=>?_;have M:=M.since W;refine oF (U.ld 0 rfl rfl) (ee M.len ?_);have aV:(pre u b).length<=u.eh.length:=by
  rw[<-Lb g];unfold pre;have:u.blocks.take b <+: u.blocks:=List.take_prefix _ _;obtain⟨r,hr⟩:=this
  conv=>rhs;rw[JF,<-hr,wBa,Ec]
  omega
 have aS:(pre u b).length+B.eh.length<=u.eh.length:=by
  rw[<-Ec,<-FI D];rw[<-Lb g];unfold pre;have:u.blocks.take (b+1) <+: u.blocks:=List.take_prefix _ _;obtain⟨r,hr⟩:=this
  conv=>rhs;rw[JF,<-hr,wBa,Ec]
  omega
 refine DY (λk A T x5 x7 d m n I X Y h'=>∃(j:Nat) (fst:Bool) (xs ys:List Int),A = .ptr lc 0/\T = .I (((pre u b).length+j:Nat):Int)/\x5 = .I b/\x7 = .bool fst/\d=vb/\m = .I u.blocks.length/\n = .I b/\
  I=bv/\X = .I B.eh.length/\Y = .I j/\j+k=B.eh.length/\(fst=true\/∃v w x,At u v b (j-1)/\0<j/\w=v/\u.eh[v]? =some x/\iU x.op=false)/\Std u b j xs ys/\Sn F h F h'/\
  eo F h' (eR eZ eJ ys vp::eR eZ eJ xs vq::ez lc ty [.I u.func,.I u.pc,vv,vb,vs,vq,vp,Fc]::cs)) ?_ (k:=B.eh.length)
  ⟨0,true,ar,au,rfl,rfl,rfl,rfl,rfl,rfl,rfl,rfl,rfl,rfl,by omega,.inl rfl,S1,C.trans W,U.tail⟩
 rintro k2 A T x5 x7 d m n I X Y Z ⟨j,fst,J,aa,rfl,rfl,rfl,rfl,aw,rfl,rfl,aW,rfl,rfl,aX,ab,S2,t,p⟩;subst d I;unfold vY;by_cases hj:j<B.eh.length;rotate_left
 ·refine iJ ?_;obtain rfl:j=B.eh.length:=by omega
  refine fM ⟨k1-1,by omega,b+1,J,aa,rfl,?_,rfl,rfl,rfl,by omega,S2.next D,t,p⟩;rw[FI D,Ec]
 refine gB ?_;have f:At u (B.eh[j]) b j:=⟨B,D,hO hj⟩
 have K:=g.mH _ _ _ f;obtain⟨x,hx⟩:∃x,u.eh[B.eh[j]]? =some x:=⟨_,hO K⟩
 have ax:iq eN F Z B.eh bv:=by
  obtain ⟨l7,o7,aY,aZ,a5,_,a6,a7,a8,_⟩:=(s.since t).oW D;have e1:l7=l7:=rfl;exact(((s.since C).oW D|> λ_=>M)|> λ_=>(by
   have hk:∀l,F l->Z.get l=h7.get l:=λl hl=>(t.fm l hl).trans ((C.trans W).fm l hl).symm;exact M.fm hk))
 obtain ⟨l9,o9,_,j1,j2⟩:=ax.nat (hO hj) .i64;refine ee j1 (ee j2 (ee (gj _ _) (ee (fe _ _ _) (oF (p.ld 2 rfl rfl) (ee (s.since t).v.len ?_)))));refine Ag ?_;rw[Ke K];refine ee rfl ?_;have ay:=S2.no _ _ _ f (by omega);obtain⟨G,ac⟩:=jR.1 ay;obtain⟨lb,ob,ub,b1,b2,b3⟩:=p.TS 1 rfl (k:=B.eh[j]) G .i64 rfl;obtain rfl:ub = .I (-1):=by
  have:[ub]=[V.I J[B.eh[j]]]:=b3;rw[ac]at this;simpa using this
 have eA:nt (.bool (!true)) (oB (some (V.ptr lc 0)) λaA=>oB (iF aA) λaB=>oB (fI 5 aB) λaC=>oB (eQ aC Z) λaD=>oB (some (V.I (B.eh[j]:Nat))) λaE=>oB (gJ 1 aD aE) λaF=>oB (eQ aF Z) λaG=>ev .geq 3 aG (V.I 0))=some (.bool false):=by
  have l5:eQ (.ptr lc (0+5)) Z=some vq:=p.ld 2 rfl rfl;simp only[wCB,mU,fi,gj,fe,l5,b1,b2,nW];rfl
 refine ee eA (jd (gg (by simp) ?_));obtain⟨lv,ov,wv,_,c1,_,_,cv⟩:=(s.since t).val hx;refine ee (gj _ _) (ee (fe _ _ _) (oF (p.ld 2 rfl rfl) (ee c1 (oF cv.op ?_))));refine ee (gI _ _ _ _) ?_;have eH:nt (.bool ((x.op:Int) == 21)) (oB (some (V.I x.op)) λaH=>ev .eql 3 aH (V.I 1))=some (.bool (iU x.op)):=by
  simp only[fi,gI,qK];unfold iU;rw[show((x.op:Int) == 21)=(x.op == 21) from V5 _ 21,show((x.op:Int) == 1)=(x.op == 1) from V5 _ 1,Bool.or_comm]
 refine ee eH ?_;have aI:iU x.op=true->fst=true:=by
  intro q;rcases ab with a|⟨v,w,y,a,h2,rfl,h3,h4⟩
  ·exact a
  ·exfalso;have h5:=g.NO (B.eh[j]) w b (j-1) x y (by rw[Nat.sub_add_cancel h2];exact f) a hx h3 q;rw[h4]at h5;cases h5
 have aJ:kv (.bool (iU x.op)) (oB (some (V.bool fst)) λae=>pI .not ae)=some (.bool false):=by
  cases q:iU x.op with
  |false=>rfl
  |true=>rw[aI q];rfl
 refine ee aJ ?_;have aK:iU x.op=true->((x.op:Int) == 1)=((b:Int) == 0):=by
  intro q;unfold iU at q;simp only[Nc,C9]at q;rw[show((x.op:Int) == 1)=(x.op == 1) from V5 _ 1,show((b:Int) == 0)=(b == 0) from V5 _ 0];rcases q with a|a
  ·rw[g.par _ _ _ _ f hx a,a];rfl
  ·have:=(g.KO _ _ _ _ _ f hx a D).1;rw[a]
   symm
   rw[show((21:Nat) == 1)=false from rfl,Nj];exact this
 have eM:nt (.bool false) (oB (some (V.I x.op)) λag=>oB (ev .eql 3 ag (V.I 1)) λah=>oB (some (V.I b)) λai=>oB (ev .eql 3 ai (V.I 0)) λaj=>oB (ev .neq 4 ah aj) λak=>oB (some ak) λal=>kv al (some (V.bool (iU x.op))))=some (.bool false):=by
  simp only[mU,fi,gI,VH,ke]
  cases q:iU x.op with
  |false=>simp
  |true=>rw[aK q];simp
 refine ee eM (jd (gg (by simp) ?_));obtain⟨l10,a9,ba,K6,aL,aM,am,aN⟩:=p.IG 1 rfl (k:=B.eh[j]) (y:=(b:Int)) (u:=V.I b) G rfl rfl rfl;simp only[l0,jo]at am;refine oN (p.ld 2 rfl rfl) (oN (p.ld 2 rfl rfl) (ee K6 ?_));rw[aL,ei];obtain⟨l12,bb,bc,aO,aP,aQ,an,aR⟩:=am.IG 0 rfl (k:=B.eh[j]) (y:=(j:Int)) (u:=V.I j) (by rw[S2.np];exact K) rfl rfl rfl;simp only[l0,jo]at an;refine⟨aM,ee aO ?_⟩;rw[aP,ei];refine⟨aQ,fM (fM ?_)⟩;refine⟨k2-1,by omega,j+1,iU x.op,J.set (B.eh[j]) (b:Int),aa.set (B.eh[j]) (j:Int),rfl,?_,rfl,rfl,rfl,rfl,rfl,rfl,rfl,rfl,by omega,?_,S2.step g f,(t.trans aN).trans aR,an⟩
 ·rw[show(pre u b).length+(j+1)=(pre u b).length+j+1 by omega]
 ·cases q:iU x.op with
  |true=>exact .inl rfl
  |false=>exact .inr ⟨_,_,x,f,by omega,rfl,hx,q⟩
end
open Un Dm
def FW{α:Type}(E:ri α)(RH ty:Nat)(Jq:List (List α))(v:V)(ds:List V):Pc where
 mw:=λl=>Loc v l\/∃d∈ds,Loc d l
 ok F h:=∃t,v = .slice t 0 Jq.length/\t<h.next/\¬F t/\h.get t=some (.cells RH 1 true false ds)/\ds.length=Jq.length/\(∀(i:Nat) x d,Jq[i]? =some x->ds[i]? =some d->kS E ty F h x d)/\(∀d∈ds,¬Loc d t)/\
  ∀(i j:Nat) (d e:V),i≠j->ds[i]? =some d->ds[j]? =some e->∀l,Loc d l->¬Loc e l
 Nz:=λ⟨t,b,g,m,n,o,k,p,q⟩ l a=>by
  rcases a with a|⟨d,c,a⟩
  ·subst b;obtain rfl:t=l:=a;exact⟨g,m⟩
  ·obtain⟨i,hi⟩:=oD.1 c;have w:=(jR.1 hi).1;exact((k i _ d (hO (by omega)) hi).wq a).2
 fm:=λ{F h h'} ⟨t,b,g,m,n,o,k,p,q⟩ r a u=>by
  refine⟨t,b,Cb g u,m,(a t (.inl (by subst b;rfl))).trans n,o,λi x d s c=>?_,p,q⟩;exact(k i x d s c).fm r (λl f=>a l (.inr ⟨d,oD.2 ⟨i,c⟩,f⟩)) u
 mono:=λ{F F' h} ⟨t,b,g,m,n,o,k,p,q⟩ r a=>by
  refine⟨t,b,g,a t (.inl (by subst b;rfl)),n,o,λi x d s c=>?_,p,q⟩;exact(k i x d s c).mono r λl f=>a l (.inr ⟨d,oD.2 ⟨i,c⟩,f⟩)
theorem Rk{α:Type}{E:ri α}{F:Nat->Prop}{h:Hp}:∀{Jq:List (List α)}{ds:List V},ds.length=Jq.length->(∀(i:Nat) x d,Jq[i]? =some x->ds[i]? =some d->iq E F h x d)->qq (eL E) F h ds Jq
 |[],_,_,_=>trivial
 |x::Jq,[],h,_=>by simp at h
 |x::Jq,d::ds,hl,H=>⟨[d],ds,rfl,⟨d,rfl,H 0 x d rfl rfl⟩,Rk (by simpa using hl) λi x d a b=>H (i+1) x d (by simpa using a) (by simpa using b)⟩
section
variable{F F':Nat->Prop}{h h':Hp}{cs:List Pc}{α:Type}{E:ri α}{RH ty:Nat}{Jq:List (List α)}{v:V}{ds:List V}
theorem eo.UH(H:eo F h cs)(n:Nat):eo F (h.new (.cells RH 1 true false (List.replicate n V.ef))) (FW E RH ty (List.replicate n []) (.slice h.next 0 n) (List.replicate n V.ef)::cs)/\Sn F h F (h.new (.cells RH 1 true false (List.replicate n V.ef))):=by
 have c:∀{i:Nat} {d:V},(List.replicate n V.ef)[i]? =some d->d = .ef:=λa=>wB2 (oD.2 ⟨_,a⟩);refine H.new _ ⟨h.next,by simp,Mm _,H.fresh,fj _ _,by simp,λi x d f a=>?_,λd a=>?_,λi j d e _ a _ l b=>?_⟩ λl b=>?_
 ·obtain rfl:=c a;obtain rfl:x=[]:=wB2 (oD.2 ⟨_,f⟩);exact .nil
 ·obtain rfl:=wB2 a;exact id
 ·obtain rfl:=c a;exact b.elim
 ·rcases b with b|⟨d,a,b⟩
  ·exact b.symm
  ·obtain rfl:=wB2 a;exact b.elim
theorem eo.Z2(H:eo F h cs)(i:Nat)(hi:cs[i]? =some (FW E RH ty Jq v ds)):fH v=some (.I Jq.length):=by
 obtain⟨t,rfl,_⟩:=H.ok i _ hi;rfl
theorem eo.TT(H:eo F h cs)(i:Nat)(hi:cs[i]? =some (FW E RH ty Jq v ds)){b:Nat}(T:b<Jq.length){j7 Ca:Nat}{y:α}{w:List V}{ro:Bool}(O:E.rel F h y w)(hz:0<E.sz)(U:j7<=1000)(hlen:Jq[b].length<1000000) :
  ∃l d p G D,ds[b]? =some d/\l<h.next/\gJ 1 v (.I b)=some (.ptr l (b*1))/\eQ (.ptr l (b*1)) h=some d/\fg ty E.sz j7 d (.slice h.next 0 1) (h.new (.cells Ca E.sz true ro w))=some (.val p G)/\h.next+1<=G.next/\
   gM 1 (.ptr l (b*1)) p G=some (.val .undef D)/\G.next<=D.next/\eo F D (cs.set i (FW E RH ty (Jq.set b (Jq[b]++[y])) v (ds.set b p)))/\Sn F h F D:=by
 obtain⟨t,rfl,G,D,h4,h5,W,P,Q⟩:=H.ok i _ hi;obtain⟨d,I⟩:∃d,ds[b]? =some d:=⟨_,hO (by omega)⟩
 have X:=W b _ d (hO T) I;have s:=oD.2 ⟨b,I⟩;have Y:kS E ty F (h.new (.cells Ca E.sz true ro w)) Jq[b] d:=X.fm (λl a=>fo _ (H.fl l a)) (λl a=>fo _ (X.wq a).2.1) (OH _);have hx:lU (h.new (.cells Ca E.sz true ro w)) E.sz (.slice h.next 0 1)=some (1,w):=oG (k:=0) (by rw[E.len O];simp);have ab:(Jq[b].length+1)*j7<=1000000*1000:=Nat.mul_le_mul (by omega) U;obtain⟨p,m,R,o1,J,l1⟩:=Y.append (j7:=j7) (ys:=[y]) hx ⟨w,[],by simp,E.fm (λl a=>fo _ (H.fl l a)) O,trivial⟩ (by rw[E.len O];simp) (E.one O) (by simp) hz (λl a=>wBz (H.fl l a)) (by simp;omega) (by simp;omega);have n1:(h.new (.cells Ca E.sz true ro w)).next=h.next+1:=rfl;have u:∀l,Loc p l->Loc d l\/h.next<=l:=λl a=>(l1 l a).imp id λe=>by omega
 have g:t<m.next:=by have:=J.next;omega
 have gt:m.get t=some (.cells RH 1 true false ds):=by rw[J.fm t (by omega) (P d s),fo _ G];exact h4
 have M:=LC (o:=b*1) (v:=p) gt (by rw[Nat.mul_one];omega) o1.one;rw[Nat.mul_one]at M;have N:¬Loc p t:=λa=>(u t a).elim (P d s) λe=>by omega
 have cg:mA (FW E RH ty Jq (.slice t 0 Jq.length) ds).mw h (m.put t (.cells RH 1 true false (ds.set b p))):=by
  refine(((mA.new h _).U6 λ_ _ h=>h).trans' (J.U6 (S':=λl=>Loc d l) λ_ _ h=>h) λl _ a=> .inr ⟨d,s,a⟩).trans' (mA.put (S:=λl=>l=t) _ rfl g) λl _ e=> .inl e.symm
 have n:∀{j:Nat} {e:V},(ds.set b p)[j]? =some e->(j=b/\e=p)\/(j≠b/\ds[j]? =some e):=λ{j e} c=>by
  by_cases ej:b=j
  ·subst ej;rw[Hf (by omega)]at c;exact .inl ⟨rfl,(Option.some.inj c).symm⟩
  ·rw[ES ej]at c;exact .inr ⟨λh=>ej h.symm,c⟩
 have r:∀{j:Nat} {e:V},ds[j]? =some e->∀l,Loc e l->l<h.next:=λ{j e} c l a=>by
  have ac:=(jR.1 c).1;exact((W j _ e (hO (by omega)) c).wq a).2.1
 refine⟨t,d,p,m,m.put t (.cells RH 1 true false (ds.set b p)),I,G,?_,?_,R,J.next,by rw[Nat.mul_one];exact M,jK _,H.Hu hi cg ?_ ?_⟩
 ·rw[Ci _ _ _ _ _ _ T,zA]
 ·rw[Nat.mul_one];exact lQ h4 I
 ·refine ⟨t,by simp,g,D,gq _ g,by simp[h5],λj x e z c=>?_,λe c=>?_,λj k e f hn c hf l a A=>?_⟩
  ·rcases n c with⟨rfl,rfl⟩|⟨q,c⟩
   ·rw[Hf T]at z;obtain rfl:=Option.some.inj z;exact o1.fm (λl a=>gL _ g λe=>D (e▸a)) (λl a=>gL _ g λe=>N (e▸a)) (jK _)
   ·rw[ES λe=>q e.symm]at z;have Z:=oD.2 ⟨j,c⟩;refine(W j x e z c).fm (λl a=>?_) (λl a=>?_) (by have:=J.next;show h.next<=m.next;omega)
    ·rw[gL _ g λe=>D (e▸a),J.fm l (wBz (H.fl l a)) λK=>(X.wq K).2.2 a,fo _ (H.fl l a)]
    ·have aa:=r c l a;rw[gL _ g λe'=>P e Z (e'▸a),J.fm l (by omega) λK=>Q j b e d q c I l a K,fo _ aa]
  ·obtain⟨j,q⟩:=oD.1 c;rcases n q with⟨_,rfl⟩|⟨_,q⟩
   ·exact N
   ·exact P e (oD.2 ⟨j,q⟩)
  ·rcases n c with⟨R,e2⟩|⟨q,L⟩
   ·rcases n hf with⟨M,_⟩|⟨hk,B⟩
    ·exact hn (R.trans M.symm)
    ·subst R e2;rcases u l a with C|C
     ·exact Q k j f d hk B I l A C
     ·have:=r B l A;omega
   ·rcases n hf with⟨M,e4⟩|⟨hk,B⟩
    ·subst M e4;rcases u l A with C|C
     ·exact Q j k e d q L I l a C
     ·have:=r L l a;omega
    ·exact Q j k e f hn L B l a A
 ·intro l a;rcases a with a|⟨e,c,a⟩
  ·exact .inl (.inl a)
  ·obtain ⟨j,q⟩:=oD.1 c;rcases n q with⟨_,rfl⟩|⟨_,q⟩
   ·rcases u l a with C|C
    ·exact .inl (.inr ⟨d,s,C⟩)
    ·exact .inr C
   ·exact .inl (.inr ⟨e,oD.2 ⟨j,q⟩,a⟩)
theorem eo.TH(H:eo F h cs)(i:Nat)(hi:cs[i]? =some (FW E RH ty Jq v ds)):∃F',eo F' h (cs.set i emp)/\Sn F h F' h/\iq (eL E) F' h Jq v:=by
 have a:=H.ok i _ hi;obtain⟨c,e⟩:=H.zb0 (p:=emp) (F':=λl=>F l\/(FW E RH ty Jq v ds).mw l) hi (mA.refl _ _) (λ_ h=> .inl h) (λ_ h=>h.imp id .inl) trivial λ_ h=>h.elim;refine⟨_,c,e,?_⟩;obtain⟨t,rfl,o,q,f,g,k,r,s⟩:=a;refine .inr ⟨t,0,RH,true,false,ds,rfl,.inr (.inl rfl),f,.inr rfl,Na _,?_⟩;rw[Yr];exact Rk g λj x d m b=>(k j x d m b).ZS (λ_ h=> .inl h) λl n=> .inr (.inr ⟨d,oD.2 ⟨j,b⟩,n⟩)
end
def iB(u:U)(i j b:Nat):List Nat:=mi (u.blocks.take i) 0 b++(match u.blocks[i]? with
 |some B=>((B.next.take j).filter (·= b)).map λ_=>i
 |none=>[])
theorem Ju(u:U)(b:Nat):iB u 0 0 b=[]:=by
 unfold iB;cases u.blocks[0]? <;> simp[mi]
theorem IP{u:U}{i j b t:Nat}{B:Bk}(a:u.blocks[i]? =some B)(c:B.next[j]? =some t):iB u i (j+1) b=if b=t then iB u i j b++[i] else iB u i j b:=by
 unfold iB;rw[a];obtain⟨d,rfl⟩:=jR.1 c;simp only[NG d,wBu,Nh];by_cases e:b=B.next[j]
 ·rw[if_pos e,<-Ii];simp[e]
 ·rw[if_neg e];have:B.next[j]≠b:=λh=>e h.symm;simp[this]
theorem Jc{u:U}{i b:Nat}{B:Bk}(a:u.blocks[i]? =some B):iB u (i+1) 0 b=iB u i B.next.length b:=by
 unfold iB;obtain⟨hi,rfl⟩:=jR.1 a;rw[a,NG hi,AE];have c:(u.blocks.take i).length=i:=by rw[Ip];omega
 simp only[c,zA,JF];cases u.blocks[i+1]? <;> simp[mi]
theorem pt(u:U)(b:Nat):iB u u.blocks.length 0 b=Un.ahead u b:=by
 unfold iB Un.ahead;rw[JF,NT (jK _)];simp
theorem pq{u:U}(g:Good u){i j b:Nat}(hi:i<=u.blocks.length)(k:j<=2):(iB u i j b).length<=2*i+2:=by
 have c:∀i,i<=u.blocks.length->(mi (u.blocks.take i) 0 b).length<=2*i:=by
  intro i
  induction i with
  |zero=>intro _;simp[mi]
  | succ i e=>
    intro hi;have a:i<u.blocks.length:=by omega
    rw[NG a,AE];have:=e (by omega);have f:u.blocks[i]? =some u.blocks[i]:=hO a;have l:(u.blocks[i]).next.length<=2:=by
      rcases g.fin i _ f with⟨_,h⟩|⟨_,h,_⟩|⟨_,h,_⟩
      ·omega
      ·omega
      ·rw[h];simp
    have d:=wBT (λx=>decide (x=b)) (u.blocks[i]).next;simp only[Ec,mi,GM,GP,Zi];omega
 have m:=c i hi;unfold iB;rw[Ec]
 cases hq:u.blocks[i]? with
 |none=>simp only[Zi];omega
 | some B=>
   have d:=wBT (λx=>decide (x=b)) (B.next.take j);simp only[GM,Ip]at d⊢;omega
section
variable{F F':Nat->Prop}{h h':Hp}{cs:List Pc}{Q:fy}{u:U}{vv vb vs:V}
theorem Qn(g:Good u)(H0:eo F h cs)(D:ym F h u vv vb vs)(H:∀F' h' v,Sn F h F' h'->eo F' h' cs->iq (eL eN) F' h' ((List.range u.blocks.length).map (Un.ahead u)) v->Q v h') :
  cP CS yG [.agg (uC u vv vb vs)] h Q:=by
 refine RR rfl rfl ?_;unfold KG;have nb:=g.nb;refine jS H0 D.one λp T J=>?_;refine oF (T.ld 0 rfl rfl) (ee (D.since J).b.len ?_);rw[ka (z:=V.ef) rfl (by decide) (by omega),fG];obtain⟨K,U⟩:=T.UH (E:=eN) (RH:=jb) (ty:=eJ) u.blocks.length;have L:List.replicate u.blocks.length ([]:List Nat)=(List.range u.blocks.length).map (iB u 0 0):=by
  refine List.ext_getElem (by simp) λi p h2=>?_;simp[Ju]
 rw[L]at K;refine oF (K.ld 1 rfl rfl) (ee (D.since (J.trans U)).b.len ?_)
 refine Mg (λk q a f m h'=>∃(i:Nat) (ds:List V),q = .slice p.next 0 u.blocks.length/\a=vb/\f = .I u.blocks.length/\m = .I i/\i+k=u.blocks.length/\Sn F h F h'/\
  eo F h' (FW eN jb eJ ((List.range u.blocks.length).map (iB u i 0)) (.slice p.next 0 u.blocks.length) ds::cs)) ?_ (k:=u.blocks.length)
  ⟨0,_,rfl,rfl,rfl,rfl,by omega,J.trans U,(K.forget (i:=1) rfl)|> λH=>by
    simp only[l0,jo]at H;exact⟨H.fl,λi c hc=>by
      cases i with
      |zero=>exact H.ok 0 c hc
      |succ i=>exact H.ok (i+2) c hc,λi j c d hc G hn=>by
      cases i with
      | zero=>
        cases j with
        |zero=>exact absurd rfl hn
        |succ j=>exact H.D0 0 (j+2) c d hc G (by omega)
      | succ i=>
        cases j with
        |zero=>exact H.D0 (i+2) 0 c d hc G (by omega)
        |succ j=>exact H.D0 (i+2) (j+2) c d hc G (by omega)⟩⟩
 rintro k q a f m h3 ⟨i,ds,rfl,M,rfl,rfl,hk,N,W⟩;subst a;unfold E2;by_cases hi:i<u.blocks.length;rotate_left
 ·refine iJ ?_;obtain rfl:i=u.blocks.length:=by omega
  obtain ⟨F4,I,s4,r4⟩:=W.TH 0 rfl;have e:(List.range u.blocks.length).map (iB u u.blocks.length 0)=(List.range u.blocks.length).map (Un.ahead u):=by
   refine Wx λb _=>pt u b
  rw[e]at r4;exact H F4 h3 _ (N.trans s4) I.tail r4
 refine gB ?_;obtain⟨B,r⟩:∃B,u.blocks[i]? =some B:=⟨_,hO hi⟩
 obtain ⟨l7,o7,bv,bn,bp,_,i1,i2,iv,s,ip,_⟩:=(D.since N).oW r;have aa:B.next.length<=2:=by
  rcases g.fin i _ r with⟨_,h⟩|⟨_,h,_⟩|⟨_,h,_⟩
  ·omega
  ·omega
  ·rw[h];simp
 refine ee i1 (ee i2 ?_);refine gY W rfl rfl (by simp only[kE,ey,iv.one,s.one,ip.one];rfl) λh4 I s4=>?_;have s:=s.since s4;refine oF (I.ld 0 rfl rfl) (ee s.len ?_)
 refine Mh (λk q X a f m n t x h'=>∃(j:Nat) (ds:List V),q = .slice p.next 0 u.blocks.length/\X = .I i/\a=vb/\f = .I u.blocks.length/\m = .I i/\n=bn/\t = .I B.next.length/\x = .I j/\
  j+k=B.next.length/\Sn F h4 F h'/\eo F h' (FW eN jb eJ ((List.range u.blocks.length).map (iB u i j)) (.slice p.next 0 u.blocks.length) ds::cs)) ?_ (k:=B.next.length)
  ⟨0,ds,rfl,rfl,rfl,rfl,rfl,rfl,rfl,rfl,by omega,Sn.refl _ _,I.tail⟩
 rintro k1 q X a f m n t x Y ⟨j,A,rfl,rfl,M,rfl,rfl,ab,rfl,rfl,ac,O,P⟩;subst a n;unfold E7;by_cases hj:j<B.next.length;rotate_left
 ·refine iJ ?_;obtain rfl:j=B.next.length:=by omega
  refine fM ⟨k-1,by omega,i+1,A,rfl,rfl,rfl,rfl,by omega,(N.trans s4).trans O,?_⟩;have e:(List.range u.blocks.length).map (iB u (i+1) 0)=(List.range u.blocks.length).map (iB u i B.next.length):=Wx λb _=>Jc r;rw[e];exact P
 refine gB ?_;obtain⟨l8,o8,_,j1,j2⟩:=(s.since O).nat (hO hj) .i64;have C:B.next[j]<u.blocks.length:=g.nx i _ (by unfold next;rw[r];exact zd hj);have Z:=P.Z2 0 rfl;rw[GM,YR]at Z;refine ee j1 (ee j2 (ee Z ?_));refine Ag (jd (gv (by simpa using C) ?_));have o:B.next[j]<((List.range u.blocks.length).map (iB u i j)).length:=by simpa using C
 have R:((List.range u.blocks.length).map (iB u i j))[B.next[j]]'o=iB u i j B.next[j]:=by simp
 obtain ⟨l,d,d',h6,h7,G,hl,e1,e2,e3,e4,e5,e6,H7,s7⟩:=P.TT 0 rfl o (j7:=8) (Ca:=3) (y:=i) (w:=[.I i]) (ro:=false) rfl (by decide) (by decide) (by
  rw[R];have:=pq g (i:=i) (j:=j) (b:=B.next[j]) (by omega) (by omega);omega)
 refine ee e1 (ee e2 ?_);rw[oV,fG];have S:fg 3 1 8 d (.slice Y.next 0 1) (Y.new (.cells 3 1 true false (hZ [i])))=some (.val d' h6):=e3;rw[S,ei];refine ee e1 ?_;rw[e5,ei];refine K0 ?_;unfold Ei;simp only[jo]at H7;refine fM ⟨k1-1,by omega,j+1,A.set (B.next[j]) d',rfl,rfl,rfl,rfl,rfl,rfl,rfl,rfl,by omega,O.trans s7,?_⟩;have e:((List.range u.blocks.length).map (iB u i j)).set (B.next[j]) (((List.range u.blocks.length).map (iB u i j))[B.next[j]]'o++[i])=(List.range u.blocks.length).map (iB u i (j+1)):=by
  refine List.ext_getElem (by simp) λb p h2=>?_;rw[List.getElem_set];simp only[List.getElem_map,List.getElem_range];rw[IP r (hO hj)];by_cases eb:B.next[j]=b
  ·subst eb;simp
  ·rw[if_neg eb,if_neg λh=>eb h.symm]
 rw[<-e];exact H7
end
