/- Parts. -/
import Derived.Test.YtpnddokajmjpbaaDoorM24
import Derived.KernelRfl
namespace Go.Proofs.YtpnddokajmjpbaaDoor.Hx
open Go.Proofs.YtpnddokajmjpbaaDoor.Un Go.Proofs.YtpnddokajmjpbaaDoor.Dm
def pre (u:U)(b:Nat):List Nat:=(u.blocks.take b).flatMap (·.ee)
theorem CP {u:U}{b:Nat}{B:Bk}(a:u.blocks[b]? =some B):pre u (b+1)=pre u b++B.ee:=by
 unfold pre;obtain⟨c,rfl⟩:=iB.1 a;rw[Nw c,X1];simp
theorem GN {u:U}{b v:Nat}:v∈pre u b↔∃c k,At u v c k/\c<b:=by
 unfold pre At;simp only[Pp];constructor
 ·rintro⟨B,a,d⟩;obtain⟨c,hc⟩:=mA.1 a;obtain⟨k,e⟩:=mA.1 d;rw[List.getElem?_take]at hc;split at hc
  ·exact⟨c,k,⟨B,hc,e⟩,by omega⟩
  ·cases hc
 ·rintro⟨c,k,⟨B,a,d⟩,f⟩;refine⟨B,mA.2 ⟨c,?_⟩,mA.2 ⟨k,d⟩⟩;rw[List.getElem?_take,if_pos f];exact a
theorem Fj {u:U}(g:Good u){b:Nat}{B:Bk}(a:u.blocks[b]? =some B):B.ee.Nodup:=by
 rw[wBl,VQ];intro i j hi c d e;have f:At u (B.ee[i]) b i:=⟨B,a,gQ hi⟩
 have h:At u (B.ee[i]) b j:=⟨B,a,by rw[e];exact gQ c⟩
 have:=(g.EI _ _ _ _ _ f h).2;omega
theorem DV {u:U}(g:Good u):∀b,(pre u b).Nodup
 |0=>by simp[pre]
 | b + 1=>by
   by_cases hb:b<u.blocks.length
   ·have a:=gQ hb
    rw[CP a,Qh];refine⟨DV g b,Fj g a,λv d w f e=>?_⟩;subst e;obtain⟨c,k,h,l⟩:=GN.1 d;obtain⟨j,i⟩:=mA.1 f;have:=(g.EI _ _ _ _ _ h ⟨_,a,i⟩).1;omega
   ·have:pre u (b+1)=pre u b:=by
      unfold pre;rw[VE (by omega),VE (by omega)]
    rw[this];exact DV g b
theorem Ja {u:U}(g:Good u):(pre u u.blocks.length).length=u.ee.length:=by
 refine Nat.le_antisymm (jy _ _ (DV g _) λv hv=>?_) ?_
 ·obtain⟨c,k,a,_⟩:=GN.1 hv;exact g.l0 _ _ _ a
 ·have a:(List.range u.ee.length).length=u.ee.length:=VO;rw[<-a];refine sub_le _ _ List.nodup_range λv hv=>?_;rw[Px]at hv;obtain⟨b,k,d⟩:=g.AB v hv;refine GN.2 ⟨b,k,d,?_⟩;obtain⟨B,e,_⟩:=d;exact(iB.1 e).1
structure Std (u:U) (b k:Nat) (bl pl:List Int):Prop where
 nb:bl.length=u.ee.length
 np:pl.length=u.ee.length
 yes:∀(v c j:Nat),At u v c j->(c<b\/(c=b/\j<k))->bl[v]? =some (c:Int)/\pl[v]? =some (j:Int)
 no:∀(v c j:Nat),At u v c j->¬(c<b\/(c=b/\j<k))->bl[v]? =some (-1)
theorem Std.step {u:U}{b k:Nat}{bl pl:List Int}(g:Good u)(S:Std u b k bl pl){v:Nat}(hv:At u v b k):Std u b (k+1) (bl.set v (b:Int)) (pl.set v (k:Int)):=by
 have d:=g.l0 _ _ _ hv;refine⟨by simp[S.nb],by simp[S.np],λw c j a hc=>?_,λw c j a hc=>?_⟩
 ·by_cases e:w=v
  ·subst e;obtain⟨rfl,rfl⟩:=g.EI _ _ _ _ _ a hv;rw[Ct (by rw[S.nb];exact d),Ct (by rw[S.np];exact d)];exact⟨rfl,rfl⟩
  ·rw [AR λh=>e h.symm,AR λh=>e h.symm];refine S.yes w c j a ?_;rcases hc with f|⟨rfl,f⟩
   ·exact .inl f
   ·refine .inr ⟨rfl,?_⟩;rcases Nq j k with i|i
    ·exact i
    ·exfalso;obtain rfl:j=k:=by omega
     obtain⟨B,n,o⟩:=a;obtain⟨p,l,m⟩:=hv;rw[n]at l;cases l;rw[o]at m;cases m;exact e rfl
 ·have e:w≠v:=λe=>by
   subst e;obtain⟨rfl,rfl⟩:=g.EI _ _ _ _ _ a hv;exact hc (.inr ⟨rfl,by omega⟩)
  rw[AR λh=>e h.symm];exact S.no w c j a λh=>hc (by omega)
theorem Std.next {u:U}{b:Nat}{bl pl:List Int}{B:Bk}(g:u.blocks[b]? =some B)(S:Std u b B.ee.length bl pl):Std u (b+1) 0 bl pl:=by
 have d:∀v c j,At u v c j->((c<b\/(c=b/\j<B.ee.length))↔(c<b+1\/(c=b+1/\j<0))):=by
  intro v c j hv;constructor
  ·omega
  ·intro h;by_cases e:c=b
   ·subst e;obtain⟨k,a,f⟩:=hv;rw[g]at a;cases a;exact .inr ⟨rfl,(iB.1 f).1⟩
   ·omega
 exact⟨S.nb,S.np,λv c j a f=>S.yes v c j a ((d v c j a).2 f),λv c j a f=>S.no v c j a λi=>f ((d v c j a).1 i)⟩
theorem Uo:P0.underlying jf=some .bool:=by kernel_rfl
theorem RN (a b:Bool):er .neq jf (.bool a) (.bool b)=some (.bool (a != b)):=by
 show Sc jf true (.bool a) (.bool b)=_;unfold Sc YV Vm;rw[Uo];cases a <;> cases b <;> rfl
section
variable{F F':Nat->Prop}{h h':Hp}{cs:List Pc}{Q:fx}{u:U}{vv vb vs:V}{lc:Nat}{bl pl DD:V}
theorem TF (g:Good u){ty:Nat}(H0:ei F h (eo lc ty [.int .i64 u.func,.int .i64 u.pc,vv,vb,vs,bl,pl,DD]::cs))(s:zf F h u vv vb vs)
  (H:∀F' h' b' p' xs ys,Sn F h F' h'->ei F' h' (eo lc ty [.int .i64 u.func,.int .i64 u.pc,vv,vb,vs,b',p',DD]::cs)->ik eZ F' h' xs b'->ik eZ F' h' ys p'->Std u u.blocks.length 0 xs ys->Q (.bool true) h') :
  cP CS mW [.ptr lc 0] h Q:=by
 refine EF rfl rfl ?_;unfold xy;have nv:=g.nv;have nb:=g.nb;have aU:lc<h.next:=(H0.ok 0 _ rfl).2.1;refine ed (fT _ _) (ed (ez _ _ _) (oF (H0.ld 0 rfl rfl) (ed s.v.len ?_)));rw[jk (z:=V.int .i64 0) rfl (by decide) (by omega),gY];obtain⟨H1,s1⟩:=H0.make (E:=eZ) (ty:=en) (y:=0) (u:=V.int .i64 0) u.ee.length rfl rfl;have n1:(h.new (.cells en 1 true false (List.replicate u.ee.length (V.int .i64 0)))).next=h.next+1:=rfl;have g1:(h.new (.cells en 1 true false (List.replicate u.ee.length (V.int .i64 0)))).get h.next=_:=fg _ _;show oP (iq (.ptr lc 0)) _;generalize ao:h.new (.cells en 1 true false (List.replicate u.ee.length (V.int .i64 0)))=a at*;refine ed (fT _ _) (ed (ez _ _ _) (oF (H1.ld 1 rfl rfl) (ed (s.since s1).v.len ?_)));rw[jk (z:=V.int .i64 0) rfl (by decide) (by omega),gY];obtain⟨H2,s2⟩:=H1.make (E:=eZ) (ty:=en) (y:=0) (u:=V.int .i64 0) u.ee.length rfl rfl;have g2:(a.new (.cells en 1 true false (List.replicate u.ee.length (V.int .i64 0)))).get a.next=_:=fg _ _;have N:=(fk (h:=a) (.cells en 1 true false (List.replicate u.ee.length (V.int .i64 0))) (l:=h.next) (by omega)).trans g1;have n2:(a.new (.cells en 1 true false (List.replicate u.ee.length (V.int .i64 0)))).next=a.next+1:=rfl;show oP (iq (.ptr lc 0)) _;generalize ap:a.new (.cells en 1 true false (List.replicate u.ee.length (V.int .i64 0)))=h2 at*;refine ed (fT _ _) (ed (ez _ _ _) ⟨⟨g2,O.gL _ _ _ _ _⟩,H2.ld 2 rfl rfl,⟨N,O.gL _ _ _ _ _⟩,H2.ld 2 rfl rfl,?_⟩);obtain⟨h3,e3,n3,H3,s3,k3⟩:=H2.stk 2 (o:=5) (u:= .slice h.next 0 u.ee.length) rfl (by simp) rfl;rw[show V.ptr lc (0+5)=V.ptr lc 5 from rfl,e3,ef];refine⟨n3,ed (fT _ _) (ed (ez _ _ _) ⟨⟨(k3 _ (by omega)).trans g2,O.gL _ _ _ _ _⟩,?_⟩)⟩;simp only[kZ,iO]at H3;obtain⟨h4,e4,n4,H4,s4⟩:=H3.st 2 (o:=6) (u:= .slice a.next 0 u.ee.length) rfl (by simp) rfl;rw[show V.ptr lc (0+6)=V.ptr lc 6 from rfl,e4,ef];refine⟨n4,?_⟩;simp only[kZ,iO]at H4;have aq:=((s1.trans s2).trans s3).trans s4;clear e3 e4 k3 g1 N g2 H1 H2 H3 s1 s2 s3 s4 ao ap;generalize V.slice a.next 0 u.ee.length=vp at*;generalize V.slice h.next 0 u.ee.length=vq at*;have lq:=H4.len 1 (xs:=List.replicate u.ee.length (0:Int)) rfl;rw[Nt]at lq;refine oN (H4.ld 2 rfl rfl) (ed lq ?_)
 refine B6 (λk A P R h'=>∃(i:Nat) (xs:List Int),A = .ptr lc 0/\P = .int .i64 u.ee.length/\R = .int .i64 i/\i+k=u.ee.length/\xs.length=u.ee.length/\(∀j,j<i->xs[j]? =some (-1))/\Sn F h F h'/\
  ei F h' (eQ eZ en (List.replicate u.ee.length (0:Int)) vp::eQ eZ en xs vq::eo lc ty [.int .i64 u.func,.int .i64 u.pc,vv,vb,vs,vq,vp,DD]::cs)) ?_ (k:=u.ee.length)
  ⟨0,_,rfl,rfl,rfl,by omega,by simp,λj hj=>by omega,aq,H4⟩
 rintro k A P R h5 ⟨i,xs,rfl,rfl,rfl,hk,S,hm,s5,H5⟩;unfold uI;by_cases hi:i<u.ee.length
 ·refine gw ?_;obtain⟨l6,o6,h6,e6,e7,n6,L,C⟩:=H5.G7 1 rfl (k:=i) (y:=(-1:Int)) (u:=V.int .i64 (-1)) (by omega) rfl rfl rfl;refine oN (H5.ld 2 rfl rfl) (ed e6 ?_);rw[e7,ef];simp only[kZ,iO]at L;refine fM ⟨k-1,by omega,i+1,xs.set i (-1),rfl,rfl,rfl,by omega,by simp[S],λj hj=>?_,s5.trans C,L⟩;by_cases e:j=i
  ·subst e;rw[Ct (by omega)]
  ·rw[AR λh=>e h.symm];exact hm j (by omega)
 refine iC ?_;refine ed (fT _ _) (ed (ez _ _ _) (oF (H5.ld 2 rfl rfl) (ed (s.since s5).b.len ?_)));have S0:Std u 0 0 xs (List.replicate u.ee.length (0:Int)):=⟨S,by simp,λv c j _ h=>by omega,λv c j a _=>hm v (by have:=g.l0 _ _ _ a;omega)⟩
 refine BU (λk A T d m n h'=>∃(b:Nat) (xs ys:List Int),A = .ptr lc 0/\T = .int .i64 ((pre u b).length:Nat)/\d=vb/\m = .int .i64 u.blocks.length/\n = .int .i64 b/\b+k=u.blocks.length/\Std u b 0 xs ys/\Sn F h F h'/\
  ei F h' (eQ eZ en ys vp::eQ eZ en xs vq::eo lc ty [.int .i64 u.func,.int .i64 u.pc,vv,vb,vs,vq,vp,DD]::cs)) ?_ (k:=u.blocks.length)
  ⟨0,xs,_,rfl,rfl,rfl,rfl,rfl,by omega,S0,s5,H5⟩
 rintro k1 A T d m n h6 ⟨b,ar,au,rfl,rfl,aw,rfl,rfl,aV,S1,C,L⟩;subst d;unfold uF;by_cases hb:b<u.blocks.length;rotate_left
 ·refine iC ?_;obtain rfl:b=u.blocks.length:=by omega
  refine ed (fT _ _) (ed (ez _ _ _) (oF (L.ld 2 rfl rfl) (ed (s.since C).v.len (gX ?_))));rw[Ja g,I9 rfl];obtain⟨U,W,r7⟩:=L.kE 0 rfl;simp only[kZ,iO]at U;obtain⟨p,t,r8⟩:=U.kE 1 rfl;simp only[kZ,iO]at p;exact H _ _ _ _ _ _ ((C.trans W).trans t) p.tail.tail r8 (r7.since t) S1
 refine gw ?_;obtain⟨B,D⟩:∃B,u.blocks[b]? =some B:=⟨_,gQ hb⟩
 obtain ⟨l7,o7,bv,bn,bp,_,i1,i2,M,iN,ip,_⟩:=(s.since C).mS D;refine ed i1 (ed i2 ?_);refine iK L rfl rfl (by simp only[kM,eJ,M.one,iN.one,ip.one];rfl) λh7 U W=>?_;have M:=M.since W;refine oF (U.ld 0 rfl rfl) (ed M.len ?_);have aW:(pre u b).length<=u.ee.length:=by
  rw[<-Ja g];unfold pre;have:u.blocks.take b <+: u.blocks:=List.take_prefix _ _;obtain⟨r,hr⟩:=this
  conv=>rhs;rw[IT,<-hr,X1,zL]
  omega
 have aT:(pre u b).length+B.ee.length<=u.ee.length:=by
  rw[<-zL,<-CP D];rw[<-Ja g];unfold pre;have:u.blocks.take (b+1) <+: u.blocks:=List.take_prefix _ _;obtain⟨r,hr⟩:=this
  conv=>rhs;rw[IT,<-hr,X1,zL]
  omega
 refine BD (λk A T x5 x7 d m n I X Y h'=>∃(j:Nat) (fst:Bool) (xs ys:List Int),A = .ptr lc 0/\T = .int .i64 (((pre u b).length+j:Nat):Int)/\x5 = .int .i64 b/\x7 = .bool fst/\d=vb/\m = .int .i64 u.blocks.length/\n = .int .i64 b/\
  I=bv/\X = .int .i64 B.ee.length/\Y = .int .i64 j/\j+k=B.ee.length/\(fst=true\/∃v w x,At u v b (j-1)/\0<j/\w=v/\u.ee[v]? =some x/\iG x.op=false)/\Std u b j xs ys/\Sn F h F h'/\
  ei F h' (eQ eZ en ys vp::eQ eZ en xs vq::eo lc ty [.int .i64 u.func,.int .i64 u.pc,vv,vb,vs,vq,vp,DD]::cs)) ?_ (k:=B.ee.length)
  ⟨0,true,ar,au,rfl,rfl,rfl,rfl,rfl,rfl,rfl,rfl,rfl,rfl,by omega,.inl rfl,S1,C.trans W,U.tail⟩
 rintro k2 A T x5 x7 d m n I X Y Z ⟨j,fst,J,aa,rfl,rfl,rfl,rfl,aw,rfl,rfl,aX,rfl,rfl,aY,ab,S2,t,p⟩;subst d I;unfold uA;by_cases hj:j<B.ee.length;rotate_left
 ·refine iC ?_;obtain rfl:j=B.ee.length:=by omega
  refine fM ⟨k1-1,by omega,b+1,J,aa,rfl,?_,rfl,rfl,rfl,by omega,S2.next D,t,p⟩;rw[CP D,zL]
 refine gw ?_;have f:At u (B.ee[j]) b j:=⟨B,D,gQ hj⟩
 have K:=g.l0 _ _ _ f;obtain⟨x,hx⟩:∃x,u.ee[B.ee[j]]? =some x:=⟨_,gQ K⟩
 have ax:ik eN F Z B.ee bv:=by
  obtain ⟨l7,o7,aZ,a4,a5,_,a6,a7,a8,_⟩:=(s.since t).mS D;have e1:l7=l7:=rfl;exact(((s.since C).mS D|> λ_=>M)|> λ_=>(by
   have hk:∀l,F l->Z.get l=h7.get l:=λl hl=>(t.fc l hl).trans ((C.trans W).fc l hl).symm;exact M.fc hk))
 obtain ⟨l9,o9,_,j1,j2⟩:=ax.nat (gQ hj) .i64;refine ed j1 (ed j2 (ed (fT _ _) (ed (ez _ _ _) (oF (p.ld 2 rfl rfl) (ed (s.since t).v.len ?_)))));refine yH ?_;rw[I9 K];refine ed rfl ?_;have ay:=S2.no _ _ _ f (by omega);obtain⟨G,ac⟩:=iB.1 ay;obtain⟨lb,ob,ub,b1,b2,b3⟩:=p.Ts 1 rfl (k:=B.ee[j]) G .i64 rfl;obtain rfl:ub = .int .i64 (-1):=by
  have:[ub]=[V.int .i64 J[B.ee[j]]]:=b3;rw[ac]at this;simpa using this
 have eA:pN (.bool (!true)) (oB (some (V.ptr lc 0)) λaA=>oB (iq aA) λaB=>oB (fH 5 aB) λaC=>oB (ev aC Z) λaD=>oB (some (V.int .i64 (B.ee[j]:Nat))) λaE=>oB (gD 1 aD aE) λaF=>oB (ev aF Z) λaG=>er .geq 3 aG (V.int .i64 0))=some (.bool false):=by
  have l5:ev (.ptr lc (0+5)) Z=some vq:=p.ld 2 rfl rfl;simp only[X6,nq,fh,fT,ez,l5,b1,b2,mY];rfl
 refine ed eA (jH (gG (by simp) ?_));obtain⟨lv,ov,wv,_,c1,_,_,cv⟩:=(s.since t).val hx;refine ed (fT _ _) (ed (ez _ _ _) (oF (p.ld 2 rfl rfl) (ed c1 (oF cv.op ?_))));refine ed (iA _ _ _ _) ?_;have eH:pN (.bool ((x.op:Int) == 21)) (oB (some (V.int .i64 x.op)) λaH=>er .eql 3 aH (V.int .i64 1))=some (.bool (iG x.op)):=by
  simp only[fh,iA,wM];unfold iG;rw[show((x.op:Int) == 21)=(x.op == 21) from Tv _ 21,show((x.op:Int) == 1)=(x.op == 1) from Tv _ 1,Bool.or_comm]
 refine ed eH ?_;have aI:iG x.op=true->fst=true:=by
  intro q;rcases ab with a|⟨v,w,y,a,h2,rfl,h3,h4⟩
  ·exact a
  ·exfalso;have h5:=g.G1 (B.ee[j]) w b (j-1) x y (by rw[Nat.sub_add_cancel h2];exact f) a hx h3 q;rw[h4]at h5;cases h5
 have aJ:jK (.bool (iG x.op)) (oB (some (V.bool fst)) λae=>sr .not ae)=some (.bool false):=by
  cases q:iG x.op with
  |false=>rfl
  |true=>rw[aI q];rfl
 refine ed aJ ?_;have aK:iG x.op=true->((x.op:Int) == 1)=((b:Int) == 0):=by
  intro q;unfold iG at q;simp only[K6,CN]at q;rw[show((x.op:Int) == 1)=(x.op == 1) from Tv _ 1,show((b:Int) == 0)=(b == 0) from Tv _ 0];rcases q with a|a
  ·rw[g.par _ _ _ _ f hx a,a];rfl
  ·have:=(g.IE _ _ _ _ _ f hx a D).1;rw[a]
   symm
   rw[show((21:Nat) == 1)=false from rfl,Tw];exact this
 have eM:pN (.bool false) (oB (some (V.int .i64 x.op)) λag=>oB (er .eql 3 ag (V.int .i64 1)) λah=>oB (some (V.int .i64 b)) λai=>oB (er .eql 3 ai (V.int .i64 0)) λaj=>oB (er .neq 4 ah aj) λak=>oB (some ak) λal=>jK al (some (V.bool (iG x.op))))=some (.bool false):=by
  simp only[nq,fh,iA,RN,ji]
  cases q:iG x.op with
  |false=>simp
  |true=>rw[aK q];simp
 refine ed eM (jH (gG (by simp) ?_));obtain⟨Zl,a9,ba,aL,aM,aN,am,aO⟩:=p.G7 1 rfl (k:=B.ee[j]) (y:=(b:Int)) (u:=V.int .i64 b) G rfl rfl rfl;simp only[kZ,iO]at am;refine oN (p.ld 2 rfl rfl) (oN (p.ld 2 rfl rfl) (ed aL ?_));rw[aM,ef];obtain⟨l12,bb,bc,aP,aQ,aR,an,aS⟩:=am.G7 0 rfl (k:=B.ee[j]) (y:=(j:Int)) (u:=V.int .i64 j) (by rw[S2.np];exact K) rfl rfl rfl;simp only[kZ,iO]at an;refine⟨aN,ed aP ?_⟩;rw[aQ,ef];refine⟨aR,fM (fM ?_)⟩;refine⟨k2-1,by omega,j+1,iG x.op,J.set (B.ee[j]) (b:Int),aa.set (B.ee[j]) (j:Int),rfl,?_,rfl,rfl,rfl,rfl,rfl,rfl,rfl,rfl,by omega,?_,S2.step g f,(t.trans aO).trans aS,an⟩
 ·rw[show(pre u b).length+(j+1)=(pre u b).length+j+1 by omega]
 ·cases q:iG x.op with
  |true=>exact .inl rfl
  |false=>exact .inr ⟨_,_,x,f,by omega,rfl,hx,q⟩
end
open Go.Proofs.YtpnddokajmjpbaaDoor.Un Go.Proofs.YtpnddokajmjpbaaDoor.Dm
def zO {α:Type}(E:nQ α)(L3 ty:Nat)(AJ:List (List α))(v:V)(ds:List V):Pc where
 j5:=λl=>Loc v l\/∃d∈ds,Loc d l
 ok F h:=∃t,v = .slice t 0 AJ.length/\t<h.next/\¬F t/\h.get t=some (.cells L3 1 true false ds)/\ds.length=AJ.length/\(∀(i:Nat) x d,AJ[i]? =some x->ds[i]? =some d->jI E ty F h x d)/\(∀d∈ds,¬Loc d t)/\
  ∀(i j:Nat) (d e:V),i≠j->ds[i]? =some d->ds[j]? =some e->∀l,Loc d l->¬Loc e l
 IP:=λ⟨t,b,g,m,n,o,k,p,q⟩ l a=>by
  rcases a with a|⟨d,c,a⟩
  ·subst b;obtain rfl:t=l:=a;exact⟨g,m⟩
  ·obtain⟨i,hi⟩:=mA.1 c;have u:=(iB.1 hi).1;exact((k i _ d (gQ (by omega)) hi).sP a).2
 fc:=λ{F h h'} ⟨t,b,g,m,n,o,k,p,q⟩ r a s=>by
  refine⟨t,b,Ac g s,m,(a t (.inl (by subst b;rfl))).trans n,o,λi x d hx c=>?_,p,q⟩;exact(k i x d hx c).fc r (λl f=>a l (.inr ⟨d,mA.2 ⟨i,c⟩,f⟩)) s
 mono:=λ{F F' h} ⟨t,b,g,m,n,o,k,p,q⟩ r a=>by
  refine⟨t,b,g,a t (.inl (by subst b;rfl)),n,o,λi x d hx c=>?_,p,q⟩;exact(k i x d hx c).mono r λl f=>a l (.inr ⟨d,mA.2 ⟨i,c⟩,f⟩)
theorem Ox {α:Type}{E:nQ α}{F:Nat->Prop}{h:Hp}:∀{AJ:List (List α)}{ds:List V},ds.length=AJ.length->(∀(i:Nat) x d,AJ[i]? =some x->ds[i]? =some d->ik E F h x d)->oU (eL E) F h ds AJ
 |[],_,_,_=>trivial
 |x::AJ,[],h,_=>by simp at h
 |x::AJ,d::ds,hl,H=>⟨[d],ds,rfl,⟨d,rfl,H 0 x d rfl rfl⟩,Ox (by simpa using hl) λi x d hx a=>H (i+1) x d (by simpa using hx) (by simpa using a)⟩
section
variable{F F':Nat->Prop}{h h':Hp}{cs:List Pc}{α:Type}{E:nQ α}{L3 ty:Nat}{AJ:List (List α)}{v:V}{ds:List V}
theorem ei.ML (H:ei F h cs)(n:Nat):ei F (h.new (.cells L3 1 true false (List.replicate n V.ec))) (zO E L3 ty (List.replicate n []) (.slice h.next 0 n) (List.replicate n V.ec)::cs)/\Sn F h F (h.new (.cells L3 1 true false (List.replicate n V.ec))):=by
 have c:∀{i:Nat} {d:V},(List.replicate n V.ec)[i]? =some d->d = .ec:=λa=>wCC (mA.2 ⟨_,a⟩);refine H.new _ ⟨h.next,by simp,IS _,H.fresh,fg _ _,by simp,λi x d hx a=>?_,λd a=>?_,λi j d e _ a _ l b=>?_⟩ λl b=>?_
 ·obtain rfl:=c a;obtain rfl:x=[]:=wCC (mA.2 ⟨_,hx⟩);exact .nil
 ·obtain rfl:=wCC a;exact id
 ·obtain rfl:=c a;exact b.elim
 ·rcases b with b|⟨d,a,b⟩
  ·exact b.symm
  ·obtain rfl:=wCC a;exact b.elim
theorem ei.V8 (H:ei F h cs)(i:Nat)(hi:cs[i]? =some (zO E L3 ty AJ v ds)):fD v=some (.int .i64 AJ.length):=by
 obtain⟨t,rfl,_⟩:=H.ok i _ hi;rfl
theorem ei.Nl (H:ei F h cs)(i:Nat)(hi:cs[i]? =some (zO E L3 ty AJ v ds)){b:Nat}(hb:b<AJ.length){jr zF:Nat}{y:α}{w:List V}{ro:Bool}(O:E.rel F h y w)(hz:0<E.sz)(T:jr<=1000)(hlen:AJ[b].length<1000000) :
  ∃l d p G D,ds[b]? =some d/\l<h.next/\gD 1 v (.int .i64 b)=some (.ptr l (b*1))/\ev (.ptr l (b*1)) h=some d/\eR ty E.sz jr d (.slice h.next 0 1) (h.new (.cells zF E.sz true ro w))=some (.val p G)/\h.next+1<=G.next/\
   gB 1 (.ptr l (b*1)) p G=some (.val .undef D)/\G.next<=D.next/\ei F D (cs.set i (zO E L3 ty (AJ.set b (AJ[b]++[y])) v (ds.set b p)))/\Sn F h F D:=by
 obtain⟨t,rfl,G,D,Z,h5,U,P,Q⟩:=H.ok i _ hi;obtain⟨d,I⟩:∃d,ds[b]? =some d:=⟨_,gQ (by omega)⟩
 have hO:=U b _ d (gQ hb) I;have s:=mA.2 ⟨b,I⟩;have W:jI E ty F (h.new (.cells zF E.sz true ro w)) AJ[b] d:=hO.fc (λl a=>fk _ (H.fl l a)) (λl a=>fk _ (hO.sP a).2.1) (Nv _);have hx:jM (h.new (.cells zF E.sz true ro w)) E.sz (.slice h.next 0 1)=some (1,w):=lP (k:=0) (by rw[E.len O];simp);have aa:(AJ[b].length+1)*jr<=1000000*1000:=Nat.mul_le_mul (by omega) T;obtain⟨p,m,R,o1,J,l1⟩:=W.append (jr:=jr) (ys:=[y]) hx ⟨w,[],by simp,E.fc (λl a=>fk _ (H.fl l a)) O,trivial⟩ (by rw[E.len O];simp) (E.one O) (by simp) hz (λl a=>YZ (H.fl l a)) (by simp;omega) (by simp;omega);have n1:(h.new (.cells zF E.sz true ro w)).next=h.next+1:=rfl;have u:∀l,Loc p l->Loc d l\/h.next<=l:=λl a=>(l1 l a).imp id λe=>by omega
 have g:t<m.next:=by have:=J.next;omega
 have gt:m.get t=some (.cells L3 1 true false ds):=by rw[J.fc t (by omega) (P d s),fk _ G];exact Z
 have M:=Ku (o:=b*1) (v:=p) gt (by rw[Nat.mul_one];omega) o1.one;rw[Nat.mul_one]at M;have N:¬Loc p t:=λa=>(u t a).elim (P d s) λe=>by omega
 have cg:jZ (zO E L3 ty AJ (.slice t 0 AJ.length) ds).j5 h (m.put t (.cells L3 1 true false (ds.set b p))):=by
  refine(((jZ.new h _).N2 λ_ _ h=>h).trans' (J.N2 (S':=λl=>Loc d l) λ_ _ h=>h) λl _ a=> .inr ⟨d,s,a⟩).trans' (jZ.put (S:=λl=>l=t) _ rfl g) λl _ e=> .inl e.symm
 have n:∀{j:Nat} {e:V},(ds.set b p)[j]? =some e->(j=b/\e=p)\/(j≠b/\ds[j]? =some e):=λ{j e} c=>by
  by_cases ej:b=j
  ·subst ej;rw[Ct (by omega)]at c;exact .inl ⟨rfl,(Option.some.inj c).symm⟩
  ·rw[AR ej]at c;exact .inr ⟨λh=>ej h.symm,c⟩
 have r:∀{j:Nat} {e:V},ds[j]? =some e->∀l,Loc e l->l<h.next:=λ{j e} c l a=>by
  have ab:=(iB.1 c).1;exact((U j _ e (gQ (by omega)) c).sP a).2.1
 refine⟨t,d,p,m,m.put t (.cells L3 1 true false (ds.set b p)),I,G,?_,?_,R,J.next,by rw[Nat.mul_one];exact M,iW _,H.Ad hi cg ?_ ?_⟩
 ·rw[vL _ _ _ _ _ _ hb,vI]
 ·rw[Nat.mul_one];exact jR Z I
 ·refine ⟨t,by simp,g,D,fP _ g,by simp[h5],λj x e z c=>?_,λe c=>?_,λj k e f hn c hf l a A=>?_⟩
  ·rcases n c with⟨rfl,rfl⟩|⟨q,c⟩
   ·rw[Ct hb]at z;obtain rfl:=Option.some.inj z;exact o1.fc (λl a=>gf _ g λe=>D (e▸a)) (λl a=>gf _ g λe=>N (e▸a)) (iW _)
   ·rw[AR λe=>q e.symm]at z;have X:=mA.2 ⟨j,c⟩;refine(U j x e z c).fc (λl a=>?_) (λl a=>?_) (by have:=J.next;show h.next<=m.next;omega)
    ·rw[gf _ g λe=>D (e▸a),J.fc l (YZ (H.fl l a)) λK=>(hO.sP K).2.2 a,fk _ (H.fl l a)]
    ·have Y:=r c l a;rw[gf _ g λe'=>P e X (e'▸a),J.fc l (by omega) λK=>Q j b e d q c I l a K,fk _ Y]
  ·obtain⟨j,q⟩:=mA.1 c;rcases n q with⟨_,rfl⟩|⟨_,q⟩
   ·exact N
   ·exact P e (mA.2 ⟨j,q⟩)
  ·rcases n c with⟨R,e2⟩|⟨q,L⟩
   ·rcases n hf with⟨M,_⟩|⟨hk,B⟩
    ·exact hn (R.trans M.symm)
    ·subst R e2;rcases u l a with C|C
     ·exact Q k j f d hk B I l A C
     ·have:=r B l A;omega
   ·rcases n hf with⟨M,e4⟩|⟨hk,B⟩
    ·subst M e4;rcases u l A with C|C
     ·exact Q j k e d q L I l a C
     ·have:=r L l a;omega
    ·exact Q j k e f hn L B l a A
 ·intro l a;rcases a with a|⟨e,c,a⟩
  ·exact .inl (.inl a)
  ·obtain ⟨j,q⟩:=mA.1 c;rcases n q with⟨_,rfl⟩|⟨_,q⟩
   ·rcases u l a with C|C
    ·exact .inl (.inr ⟨d,s,C⟩)
    ·exact .inr C
   ·exact .inl (.inr ⟨e,mA.2 ⟨j,q⟩,a⟩)
theorem ei.MZ (H:ei F h cs)(i:Nat)(hi:cs[i]? =some (zO E L3 ty AJ v ds)):∃F',ei F' h (cs.set i emp)/\Sn F h F' h/\ik (eL E) F' h AJ v:=by
 have a:=H.ok i _ hi;obtain⟨c,e⟩:=H.Zb (p:=emp) (F':=λl=>F l\/(zO E L3 ty AJ v ds).j5 l) hi (jZ.refl _ _) (λ_ h=> .inl h) (λ_ h=>h.imp id .inl) trivial λ_ h=>h.elim;refine⟨_,c,e,?_⟩;obtain⟨t,rfl,n,o,f,g,k,q,r⟩:=a;refine .inr ⟨t,0,L3,true,false,ds,rfl,.inr (.inl rfl),f,.inr rfl,Gl _,?_⟩;rw[Ss];exact Ox g λj x d hx b=>(k j x d hx b).VG (λ_ h=> .inl h) λl m=> .inr (.inr ⟨d,mA.2 ⟨j,b⟩,m⟩)
end
def hV (u:U)(i j b:Nat):List Nat:=kh (u.blocks.take i) 0 b++(match u.blocks[i]? with
 |some B=>((B.next.take j).filter (·= b)).map λ_=>i
 |none=>[])
theorem GW (u:U)(b:Nat):hV u 0 0 b=[]:=by
 unfold hV;cases u.blocks[0]? <;> simp[kh]
theorem Gn {u:U}{i j b t:Nat}{B:Bk}(a:u.blocks[i]? =some B)(ht:B.next[j]? =some t):hV u i (j+1) b=if b=t then hV u i j b++[i] else hV u i j b:=by
 unfold hV;rw[a];obtain⟨c,rfl⟩:=iB.1 ht;simp only[Nw c,Ws,EV];by_cases e:b=B.next[j]
 ·rw[if_pos e,<-Cy];simp[e]
 ·rw[if_neg e];have:B.next[j]≠b:=λh=>e h.symm;simp[this]
theorem GC {u:U}{i b:Nat}{B:Bk}(a:u.blocks[i]? =some B):hV u (i+1) 0 b=hV u i B.next.length b:=by
 unfold hV;obtain⟨hi,rfl⟩:=iB.1 a;rw[a,Nw hi,yu];have c:(u.blocks.take i).length=i:=by rw[FY];omega
 simp only[c,vI,IT];cases u.blocks[i+1]? <;> simp[kh]
theorem nM (u:U)(b:Nat):hV u u.blocks.length 0 b=Un.ahead u b:=by
 unfold hV Un.ahead;rw[IT,Jp (iW _)];simp
theorem nK {u:U}(g:Good u){i j b:Nat}(hi:i<=u.blocks.length)(k:j<=2):(hV u i j b).length<=2*i+2:=by
 have c:∀i,i<=u.blocks.length->(kh (u.blocks.take i) 0 b).length<=2*i:=by
  intro i
  induction i with
  |zero=>intro _;simp[kh]
  | succ i e=>
    intro hi;have a:i<u.blocks.length:=by omega
    rw[Nw a,yu];have:=e (by omega);have f:u.blocks[i]? =some u.blocks[i]:=gQ a;have l:(u.blocks[i]).next.length<=2:=by
      rcases g.fin i _ f with⟨_,h⟩|⟨_,h,_⟩|⟨_,h,_⟩
      ·omega
      ·omega
      ·rw[h];simp
    have d:=XP (λx=>decide (x=b)) (u.blocks[i]).next;simp only[zL,kh,Fk,Co,VR];omega
 have m:=c i hi;unfold hV;rw[zL]
 cases hq:u.blocks[i]? with
 |none=>simp only[VR];omega
 | some B=>
   have d:=XP (λx=>decide (x=b)) (B.next.take j);simp only[Fk,FY]at d⊢;omega
section
variable{F F':Nat->Prop}{h h':Hp}{cs:List Pc}{Q:fx}{u:U}{vv vb vs:V}
theorem NX (g:Good u)(H0:ei F h cs)(D:zf F h u vv vb vs)(H:∀F' h' v,Sn F h F' h'->ei F' h' cs->ik (eL eN) F' h' ((List.range u.blocks.length).map (Un.ahead u)) v->Q v h') :
  cP CS wF [.agg (uC u vv vb vs)] h Q:=by
 refine Oy rfl rfl ?_;unfold Iz;have nb:=g.nb;refine mf H0 D.one λp U K=>?_;refine oF (U.ld 0 rfl rfl) (ed (D.since K).b.len ?_);rw[jk (z:=V.ec) rfl (by decide) (by omega),fq];obtain⟨L,W⟩:=U.ML (E:=eN) (L3:=hZ) (ty:=en) u.blocks.length;have M:List.replicate u.blocks.length ([]:List Nat)=(List.range u.blocks.length).map (hV u 0 0):=by
  refine ZV (by simp) λi p h2=>?_;simp[GW]
 rw[M]at L;refine oF (L.ld 1 rfl rfl) (ed (D.since (K.trans W)).b.len ?_)
 refine Kx (λk q a f m h'=>∃(i:Nat) (ds:List V),q = .slice p.next 0 u.blocks.length/\a=vb/\f = .int .i64 u.blocks.length/\m = .int .i64 i/\i+k=u.blocks.length/\Sn F h F h'/\
  ei F h' (zO eN hZ en ((List.range u.blocks.length).map (hV u i 0)) (.slice p.next 0 u.blocks.length) ds::cs)) ?_ (k:=u.blocks.length)
  ⟨0,_,rfl,rfl,rfl,rfl,by omega,K.trans W,(L.forget (i:=1) rfl)|> λH=>by
    simp only[kZ,iO]at H;exact⟨H.fl,λi c hc=>by
      cases i with
      |zero=>exact H.ok 0 c hc
      |succ i=>exact H.ok (i+2) c hc,λi j c d hc G hn=>by
      cases i with
      | zero=>
        cases j with
        |zero=>exact absurd rfl hn
        |succ j=>exact H.Bs 0 (j+2) c d hc G (by omega)
      | succ i=>
        cases j with
        |zero=>exact H.Bs (i+2) 0 c d hc G (by omega)
        |succ j=>exact H.Bs (i+2) (j+2) c d hc G (by omega)⟩⟩
 rintro k q a f m h3 ⟨i,ds,rfl,N,rfl,rfl,hk,O,X⟩;subst a;unfold DG;by_cases hi:i<u.blocks.length;rotate_left
 ·refine iC ?_;obtain rfl:i=u.blocks.length:=by omega
  obtain ⟨F4,I,J,r4⟩:=X.MZ 0 rfl;have e:(List.range u.blocks.length).map (hV u u.blocks.length 0)=(List.range u.blocks.length).map (Un.ahead u):=by
   refine VS λb _=>nM u b
  rw[e]at r4;exact H F4 h3 _ (O.trans J) I.tail r4
 refine gw ?_;obtain⟨B,r⟩:∃B,u.blocks[i]? =some B:=⟨_,gQ hi⟩
 obtain ⟨l7,o7,bv,bn,bp,_,i1,i2,iv,s,ip,_⟩:=(D.since O).mS r;have aa:B.next.length<=2:=by
  rcases g.fin i _ r with⟨_,h⟩|⟨_,h,_⟩|⟨_,h,_⟩
  ·omega
  ·omega
  ·rw[h];simp
 refine ed i1 (ed i2 ?_);refine iK X rfl rfl (by simp only[kM,eJ,iv.one,s.one,ip.one];rfl) λh4 I J=>?_;have s:=s.since J;refine oF (I.ld 0 rfl rfl) (ed s.len ?_)
 refine Ke (λk q Y a f m n t x h'=>∃(j:Nat) (ds:List V),q = .slice p.next 0 u.blocks.length/\Y = .int .i64 i/\a=vb/\f = .int .i64 u.blocks.length/\m = .int .i64 i/\n=bn/\t = .int .i64 B.next.length/\x = .int .i64 j/\
  j+k=B.next.length/\Sn F h4 F h'/\ei F h' (zO eN hZ en ((List.range u.blocks.length).map (hV u i j)) (.slice p.next 0 u.blocks.length) ds::cs)) ?_ (k:=B.next.length)
  ⟨0,ds,rfl,rfl,rfl,rfl,rfl,rfl,rfl,rfl,by omega,Sn.refl _ _,I.tail⟩
 rintro k1 q Y a f m n t x Z ⟨j,A,rfl,rfl,N,rfl,rfl,ab,rfl,rfl,ac,P,R⟩;subst a n;unfold Db;by_cases hj:j<B.next.length;rotate_left
 ·refine iC ?_;obtain rfl:j=B.next.length:=by omega
  refine fM ⟨k-1,by omega,i+1,A,rfl,rfl,rfl,rfl,by omega,(O.trans J).trans P,?_⟩;have e:(List.range u.blocks.length).map (hV u (i+1) 0)=(List.range u.blocks.length).map (hV u i B.next.length):=VS λb _=>GC r;rw[e];exact R
 refine gw ?_;obtain⟨l8,o8,_,j1,j2⟩:=(s.since P).nat (gQ hj) .i64;have C:B.next[j]<u.blocks.length:=g.nx i _ (by unfold next;rw[r];exact AO hj);have lN:=R.V8 0 rfl;rw[Fk,VO]at lN;refine ed j1 (ed j2 (ed lN ?_));refine yH (jH (ig (by simpa using C) ?_));have o:B.next[j]<((List.range u.blocks.length).map (hV u i j)).length:=by simpa using C
 have S:((List.range u.blocks.length).map (hV u i j))[B.next[j]]'o=hV u i j B.next[j]:=by simp
 obtain ⟨l,d,d',h6,h7,G,hl,e1,e2,e3,e4,e5,e6,H7,s7⟩:=R.Nl 0 rfl o (jr:=8) (zF:=3) (y:=i) (w:=[.int .i64 i]) (ro:=false) rfl (by decide) (by decide) (by
  rw[S];have:=nK g (i:=i) (j:=j) (b:=B.next[j]) (by omega) (by omega);omega)
 refine ed e1 (ed e2 ?_);rw[oI,fq];have T:eR 3 1 8 d (.slice Z.next 0 1) (Z.new (.cells 3 1 true false (gN [i])))=some (.val d' h6):=e3;rw[T,ef];refine ed e1 ?_;rw[e5,ef];refine IU ?_;unfold Cp;simp only[iO]at H7;refine fM ⟨k1-1,by omega,j+1,A.set (B.next[j]) d',rfl,rfl,rfl,rfl,rfl,rfl,rfl,rfl,by omega,P.trans s7,?_⟩;have e:((List.range u.blocks.length).map (hV u i j)).set (B.next[j]) (((List.range u.blocks.length).map (hV u i j))[B.next[j]]'o++[i])=(List.range u.blocks.length).map (hV u i (j+1)):=by
  refine ZV (by simp) λb p h2=>?_;rw[List.getElem_set];simp only[List.getElem_map,List.getElem_range];rw[Gn r (gQ hj)];by_cases eb:B.next[j]=b
  ·subst eb;simp
  ·rw[if_neg eb,if_neg λh=>eb h.symm]
 rw[<-e];exact H7
end
