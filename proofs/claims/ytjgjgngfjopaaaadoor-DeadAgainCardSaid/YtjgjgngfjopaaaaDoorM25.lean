/- Parts. -/
import Derived.Test.YtjgjgngfjopaaaaDoorM24
import Derived.KernelRfl
namespace Go.Proofs.YtjgjgngfjopaaaaDoor.Hx
open Un Dm
def pre(u:U)(b:Nat):List Nat:=(u.blocks.take b).flatMap (·.ef)
theorem E3{u:U}{b:Nat}{B:Bk}(a:u.blocks[b]? =some B):pre u (b+1)=pre u b++B.ef:=by
 unfold pre;obtain⟨c,rfl⟩:=iR.1 a;rw[M9 c,Zz];simp
theorem I9{u:U}{b v:Nat}:v∈pre u b↔∃c k,At u v c k/\c<b:=by
 unfold pre At;simp only[Ni];constructor
 ·rintro⟨B,a,d⟩;obtain⟨c,hc⟩:=mK.1 a;obtain⟨k,e⟩:=mK.1 d;rw[List.getElem?_take]at hc;split at hc
  ·exact⟨c,k,⟨B,hc,e⟩,by omega⟩
  ·cases hc
 ·rintro⟨c,k,⟨B,a,d⟩,f⟩;refine⟨B,mK.2 ⟨c,?_⟩,mK.2 ⟨k,d⟩⟩;rw[List.getElem?_take,if_pos f];exact a
theorem Hi{u:U}(g:Good u){b:Nat}{B:Bk}(a:u.blocks[b]? =some B):B.ef.Nodup:=by
 rw[wBm,Zp];intro i j hi c d e;have f:At u (B.ef[i]) b i:=⟨B,a,gP hi⟩
 have h:At u (B.ef[i]) b j:=⟨B,a,by rw[e];exact gP c⟩
 have:=(g.OM _ _ _ _ _ f h).2;omega
theorem FV{u:U}(g:Good u):∀b,(pre u b).Nodup
 |0=>by simp[pre]
 | b + 1=>by
   by_cases hb:b<u.blocks.length
   ·have a:=gP hb
    rw[E3 a,WO];refine⟨FV g b,Hi g a,λv d w f e=>?_⟩;subst e;obtain⟨c,k,h,l⟩:=I9.1 d;obtain⟨j,i⟩:=mK.1 f;have:=(g.OM _ _ _ _ _ h ⟨_,a,i⟩).1;omega
   ·have:pre u (b+1)=pre u b:=by
      unfold pre;rw[X0 (by omega),X0 (by omega)]
    rw[this];exact FV g b
theorem K1{u:U}(g:Good u):(pre u u.blocks.length).length=u.ef.length:=by
 refine Nat.le_antisymm (jK _ _ (FV g _) λv hv=>?_) ?_
 ·obtain⟨c,k,a,_⟩:=I9.1 hv;exact g.mb _ _ _ a
 ·have a:(List.range u.ef.length).length=u.ef.length:=Xe;rw[<-a];refine sub_le _ _ List.nodup_range λv hv=>?_;rw[Sq]at hv;obtain⟨b,k,d⟩:=g.HW v hv;refine I9.2 ⟨b,k,d,?_⟩;obtain⟨B,e,_⟩:=d;exact(iR.1 e).1
structure Std (u:U) (b k:Nat) (bl pl:List Int):Prop where
 nb:bl.length=u.ef.length
 np:pl.length=u.ef.length
 yes:∀(v c j:Nat),At u v c j->(c<b\/(c=b/\j<k))->bl[v]? =some (c:Int)/\pl[v]? =some (j:Int)
 no:∀(v c j:Nat),At u v c j->¬(c<b\/(c=b/\j<k))->bl[v]? =some (-1)
theorem Std.step{u:U}{b k:Nat}{bl pl:List Int}(g:Good u)(S:Std u b k bl pl){v:Nat}(hv:At u v b k):Std u b (k+1) (bl.set v (b:Int)) (pl.set v (k:Int)):=by
 have d:=g.mb _ _ _ hv;refine⟨by simp[S.nb],by simp[S.np],λw c j a hc=>?_,λw c j a hc=>?_⟩
 ·by_cases e:w=v
  ·subst e;obtain⟨rfl,rfl⟩:=g.OM _ _ _ _ _ a hv;rw[EK (by rw[S.nb];exact d),EK (by rw[S.np];exact d)];exact⟨rfl,rfl⟩
  ·rw [C8 λh=>e h.symm,C8 λh=>e h.symm];refine S.yes w c j a ?_;rcases hc with f|⟨rfl,f⟩
   ·exact .inl f
   ·refine .inr ⟨rfl,?_⟩;rcases Pm j k with i|i
    ·exact i
    ·exfalso;obtain rfl:j=k:=by omega
     obtain⟨B,n,o⟩:=a;obtain⟨p,l,m⟩:=hv;rw[n]at l;cases l;rw[o]at m;cases m;exact e rfl
 ·have e:w≠v:=λe=>by
   subst e;obtain⟨rfl,rfl⟩:=g.OM _ _ _ _ _ a hv;exact hc (.inr ⟨rfl,by omega⟩)
  rw[C8 λh=>e h.symm];exact S.no w c j a λh=>hc (by omega)
theorem Std.next{u:U}{b:Nat}{bl pl:List Int}{B:Bk}(g:u.blocks[b]? =some B)(S:Std u b B.ef.length bl pl):Std u (b+1) 0 bl pl:=by
 have d:∀v c j,At u v c j->((c<b\/(c=b/\j<B.ef.length))↔(c<b+1\/(c=b+1/\j<0))):=by
  intro v c j hv;constructor
  ·omega
  ·intro h;by_cases e:c=b
   ·subst e;obtain⟨k,a,f⟩:=hv;rw[g]at a;cases a;exact .inr ⟨rfl,(iR.1 f).1⟩
   ·omega
 exact⟨S.nb,S.np,λv c j a f=>S.yes v c j a ((d v c j a).2 f),λv c j a f=>S.no v c j a λi=>f ((d v c j a).1 i)⟩
theorem WN:P0.underlying jd=some .bool:=by kernel_rfl
theorem U4(a b:Bool):eo .neq jd (.bool a) (.bool b)=some (.bool (a != b)):=by
 show Ul jd true (.bool a) (.bool b)=_;unfold Ul zaJ W4;rw[WN];cases a <;> cases b <;> rfl
section
variable{F F':Nat->Prop}{h h':Hp}{cs:List Pc}{Q:fy}{u:U}{vv vb vs:V}{lc:Nat}{bl pl Fo:V}
theorem WE(g:Good u){ty:Nat}(H0:en F h (ev lc ty [.I u.func,.I u.pc,vv,vb,vs,bl,pl,Fo]::cs))(s:A0 F h u vv vb vs)
  (H:∀F' h' b' p' xs ys,Sn F h F' h'->en F' h' (ev lc ty [.I u.func,.I u.pc,vv,vb,vs,b',p',Fo]::cs)->iC eZ F' h' xs b'->iC eZ F' h' ys p'->Std u u.blocks.length 0 xs ys->Q (.bool true) h') :
  cP CS nU [.ptr lc 0] h Q:=by
 refine GB rfl rfl ?_;unfold yW;have nv:=g.nv;have nb:=g.nb;have aU:lc<h.next:=(H0.ok 0 _ rfl).2.1;refine ed (fX _ _) (ed (eJ _ _ _) (oF (H0.ld 0 rfl rfl) (ed s.v.len ?_)));rw[jQ (z:=V.I 0) rfl (by decide) (by omega),hK];obtain⟨H1,s1⟩:=H0.make (E:=eZ) (ty:=ey) (y:=0) (u:=V.I 0) u.ef.length rfl rfl;have n1:(h.new (.cells ey 1 true false (List.replicate u.ef.length (V.I 0)))).next=h.next+1:=rfl;have g1:(h.new (.cells ey 1 true false (List.replicate u.ef.length (V.I 0)))).get h.next=_:=fi _ _;show oP (ij (.ptr lc 0)) _;generalize ao:h.new (.cells ey 1 true false (List.replicate u.ef.length (V.I 0)))=a at*;refine ed (fX _ _) (ed (eJ _ _ _) (oF (H1.ld 1 rfl rfl) (ed (s.since s1).v.len ?_)));rw[jQ (z:=V.I 0) rfl (by decide) (by omega),hK];obtain⟨H2,s2⟩:=H1.make (E:=eZ) (ty:=ey) (y:=0) (u:=V.I 0) u.ef.length rfl rfl;have g2:(a.new (.cells ey 1 true false (List.replicate u.ef.length (V.I 0)))).get a.next=_:=fi _ _;have N:=(fo (h:=a) (.cells ey 1 true false (List.replicate u.ef.length (V.I 0))) (l:=h.next) (by omega)).trans g1;have n2:(a.new (.cells ey 1 true false (List.replicate u.ef.length (V.I 0)))).next=a.next+1:=rfl;show oP (ij (.ptr lc 0)) _;generalize ap:a.new (.cells ey 1 true false (List.replicate u.ef.length (V.I 0)))=h2 at*;refine ed (fX _ _) (ed (eJ _ _ _) ⟨⟨g2,O.gO _ _ _ _ _⟩,H2.ld 2 rfl rfl,⟨N,O.gO _ _ _ _ _⟩,H2.ld 2 rfl rfl,?_⟩);obtain⟨h3,e3,n3,H3,s3,k3⟩:=H2.stk 2 (o:=5) (u:= .slice h.next 0 u.ef.length) rfl (by simp) rfl;rw[show V.ptr lc (0+5)=V.ptr lc 5 from rfl,e3,ei];refine⟨n3,ed (fX _ _) (ed (eJ _ _ _) ⟨⟨(k3 _ (by omega)).trans g2,O.gO _ _ _ _ _⟩,?_⟩)⟩;simp only[lj,iY]at H3;obtain⟨h4,e4,n4,H4,s4⟩:=H3.st 2 (o:=6) (u:= .slice a.next 0 u.ef.length) rfl (by simp) rfl;rw[show V.ptr lc (0+6)=V.ptr lc 6 from rfl,e4,ei];refine⟨n4,?_⟩;simp only[lj,iY]at H4;have aq:=((s1.trans s2).trans s3).trans s4;clear e3 e4 k3 g1 N g2 H1 H2 H3 s1 s2 s3 s4 ao ap;generalize V.slice a.next 0 u.ef.length=vp at*;generalize V.slice h.next 0 u.ef.length=vq at*;have lq:=H4.len 1 (xs:=List.replicate u.ef.length (0:Int)) rfl;rw[Pl]at lq;refine oN (H4.ld 2 rfl rfl) (ed lq ?_)
 refine DP (λk A P R h'=>∃(i:Nat) (xs:List Int),A = .ptr lc 0/\P = .I u.ef.length/\R = .I i/\i+k=u.ef.length/\xs.length=u.ef.length/\(∀j,j<i->xs[j]? =some (-1))/\Sn F h F h'/\
  en F h' (eR eZ ey (List.replicate u.ef.length (0:Int)) vp::eR eZ ey xs vq::ev lc ty [.I u.func,.I u.pc,vv,vb,vs,vq,vp,Fo]::cs)) ?_ (k:=u.ef.length)
  ⟨0,_,rfl,rfl,rfl,by omega,by simp,λj hj=>by omega,aq,H4⟩
 rintro k A P R h5 ⟨i,xs,rfl,rfl,rfl,hk,S,hm,s5,H5⟩;unfold vE;by_cases hi:i<u.ef.length
 ·refine gG ?_;obtain⟨l6,o6,h6,e6,e7,n6,L,C⟩:=H5.Ig 1 rfl (k:=i) (y:=(-1:Int)) (u:=V.I (-1)) (by omega) rfl rfl rfl;refine oN (H5.ld 2 rfl rfl) (ed e6 ?_);rw[e7,ei];simp only[lj,iY]at L;refine fN ⟨k-1,by omega,i+1,xs.set i (-1),rfl,rfl,rfl,by omega,by simp[S],λj hj=>?_,s5.trans C,L⟩;by_cases e:j=i
  ·subst e;rw[EK (by omega)]
  ·rw[C8 λh=>e h.symm];exact hm j (by omega)
 refine iI ?_;refine ed (fX _ _) (ed (eJ _ _ _) (oF (H5.ld 2 rfl rfl) (ed (s.since s5).b.len ?_)));have S0:Std u 0 0 xs (List.replicate u.ef.length (0:Int)):=⟨S,by simp,λv c j _ h=>by omega,λv c j a _=>hm v (by have:=g.mb _ _ _ a;omega)⟩
 refine De (λk A T d m n h'=>∃(b:Nat) (xs ys:List Int),A = .ptr lc 0/\T = .I ((pre u b).length:Nat)/\d=vb/\m = .I u.blocks.length/\n = .I b/\b+k=u.blocks.length/\Std u b 0 xs ys/\Sn F h F h'/\
  en F h' (eR eZ ey ys vp::eR eZ ey xs vq::ev lc ty [.I u.func,.I u.pc,vv,vb,vs,vq,vp,Fo]::cs)) ?_ (k:=u.blocks.length)
  ⟨0,xs,_,rfl,rfl,rfl,rfl,rfl,by omega,S0,s5,H5⟩
 rintro k1 A T d m n h6 ⟨b,ar,au,rfl,rfl,aw,rfl,rfl,aV,S1,C,L⟩;subst d;unfold vL;by_cases hb:b<u.blocks.length;rotate_left
 ·refine iI ?_;obtain rfl:b=u.blocks.length:=by omega
  refine ed (fX _ _) (ed (eJ _ _ _) (oF (L.ld 2 rfl rfl) (ed (s.since C).v.len (hZ ?_))));rw[K1 g,J6 rfl];obtain⟨U,W,r7⟩:=L.lO 0 rfl;simp only[lj,iY]at U;obtain⟨p,t,r8⟩:=U.lO 1 rfl;simp only[lj,iY]at p;exact H _ _ _ _ _ _ ((C.trans W).trans t) p.tail.tail r8 (r7.since t) S1
 refine gG ?_;obtain⟨B,D⟩:∃B,u.blocks[b]? =some B:=⟨_,gP hb⟩
 obtain ⟨l7,o7,bv,bn,bp,_,i1,i2,M,iN,ip,_⟩:=(s.since C).nW D;refine ed i1 (ed i2 ?_);refine iG L rfl rfl (by simp only[kr,eQ,M.one,iN.one,ip.one];rfl) λh7 U W=>?_;have M:=M.since W;refine oF (U.ld 0 rfl rfl) (ed M.len ?_);have aW:(pre u b).length<=u.ef.length:=by
  rw[<-K1 g];unfold pre;have:u.blocks.take b <+: u.blocks:=List.take_prefix _ _;obtain⟨r,hr⟩:=this
  conv=>rhs;rw[Jh,<-hr,Zz,y6]
  omega
 have aT:(pre u b).length+B.ef.length<=u.ef.length:=by
  rw[<-y6,<-E3 D];rw[<-K1 g];unfold pre;have:u.blocks.take (b+1) <+: u.blocks:=List.take_prefix _ _;obtain⟨r,hr⟩:=this
  conv=>rhs;rw[Jh,<-hr,Zz,y6]
  omega
 refine CN (λk A T x5 x7 d m n I X Y h'=>∃(j:Nat) (fst:Bool) (xs ys:List Int),A = .ptr lc 0/\T = .I (((pre u b).length+j:Nat):Int)/\x5 = .I b/\x7 = .bool fst/\d=vb/\m = .I u.blocks.length/\n = .I b/\
  I=bv/\X = .I B.ef.length/\Y = .I j/\j+k=B.ef.length/\(fst=true\/∃v w x,At u v b (j-1)/\0<j/\w=v/\u.ef[v]? =some x/\iH x.op=false)/\Std u b j xs ys/\Sn F h F h'/\
  en F h' (eR eZ ey ys vp::eR eZ ey xs vq::ev lc ty [.I u.func,.I u.pc,vv,vb,vs,vq,vp,Fo]::cs)) ?_ (k:=B.ef.length)
  ⟨0,true,ar,au,rfl,rfl,rfl,rfl,rfl,rfl,rfl,rfl,rfl,rfl,by omega,.inl rfl,S1,C.trans W,U.tail⟩
 rintro k2 A T x5 x7 d m n I X Y Z ⟨j,fst,J,aa,rfl,rfl,rfl,rfl,aw,rfl,rfl,aX,rfl,rfl,aY,ab,S2,t,p⟩;subst d I;unfold vZ;by_cases hj:j<B.ef.length;rotate_left
 ·refine iI ?_;obtain rfl:j=B.ef.length:=by omega
  refine fN ⟨k1-1,by omega,b+1,J,aa,rfl,?_,rfl,rfl,rfl,by omega,S2.next D,t,p⟩;rw[E3 D,y6]
 refine gG ?_;have f:At u (B.ef[j]) b j:=⟨B,D,gP hj⟩
 have K:=g.mb _ _ _ f;obtain⟨x,hx⟩:∃x,u.ef[B.ef[j]]? =some x:=⟨_,gP K⟩
 have ax:iC eN F Z B.ef bv:=by
  obtain ⟨l7,o7,aZ,a5,a6,_,a7,a8,a9,_⟩:=(s.since t).nW D;have e1:l7=l7:=rfl;exact(((s.since C).nW D|> λ_=>M)|> λ_=>(by
   have hk:∀l,F l->Z.get l=h7.get l:=λl hl=>(t.fk l hl).trans ((C.trans W).fk l hl).symm;exact M.fk hk))
 obtain ⟨l9,o9,_,j1,j2⟩:=ax.nat (gP hj) .i64;refine ed j1 (ed j2 (ed (fX _ _) (ed (eJ _ _ _) (oF (p.ld 2 rfl rfl) (ed (s.since t).v.len ?_)))));refine zy ?_;rw[J6 K];refine ed rfl ?_;have ay:=S2.no _ _ _ f (by omega);obtain⟨G,ac⟩:=iR.1 ay;obtain⟨lb,ob,ub,b1,b2,b3⟩:=p.Tz 1 rfl (k:=B.ef[j]) G .i64 rfl;obtain rfl:ub = .I (-1):=by
  have:[ub]=[V.I J[B.ef[j]]]:=b3;rw[ac]at this;simpa using this
 have eA:oD (.bool (!true)) (oB (some (V.ptr lc 0)) λaA=>oB (ij aA) λaB=>oB (fH 5 aB) λaC=>oB (ez aC Z) λaD=>oB (some (V.I (B.ef[j]:Nat))) λaE=>oB (gD 1 aD aE) λaF=>oB (ez aF Z) λaG=>eo .geq 3 aG (V.I 0))=some (.bool false):=by
  have l5:ez (.ptr lc (0+5)) Z=some vq:=p.ld 2 rfl rfl;simp only[wCG,mn,fj,fX,eJ,l5,b1,b2,mW];rfl
 refine ed eA (js (gi (by simp) ?_));obtain⟨lv,ov,wv,_,c1,_,_,cv⟩:=(s.since t).val hx;refine ed (fX _ _) (ed (eJ _ _ _) (oF (p.ld 2 rfl rfl) (ed c1 (oF cv.op ?_))));refine ed (gQ _ _ _ _) ?_;have eH:oD (.bool ((x.op:Int) == 21)) (oB (some (V.I x.op)) λaH=>eo .eql 3 aH (V.I 1))=some (.bool (iH x.op)):=by
  simp only[fj,gQ,xQ];unfold iH;rw[show((x.op:Int) == 21)=(x.op == 21) from Vv _ 21,show((x.op:Int) == 1)=(x.op == 1) from Vv _ 1,Bool.or_comm]
 refine ed eH ?_;have aI:iH x.op=true->fst=true:=by
  intro q;rcases ab with a|⟨v,w,y,a,h2,rfl,h3,h4⟩
  ·exact a
  ·exfalso;have h5:=g.NL (B.ef[j]) w b (j-1) x y (by rw[Nat.sub_add_cancel h2];exact f) a hx h3 q;rw[h4]at h5;cases h5
 have aJ:jZ (.bool (iH x.op)) (oB (some (V.bool fst)) λae=>qz .not ae)=some (.bool false):=by
  cases q:iH x.op with
  |false=>rfl
  |true=>rw[aI q];rfl
 refine ed aJ ?_;have aK:iH x.op=true->((x.op:Int) == 1)=((b:Int) == 0):=by
  intro q;unfold iH at q;simp only[KM,z8]at q;rw[show((x.op:Int) == 1)=(x.op == 1) from Vv _ 1,show((b:Int) == 0)=(b == 0) from Vv _ 0];rcases q with a|a
  ·rw[g.par _ _ _ _ f hx a,a];rfl
  ·have:=(g.Ko _ _ _ _ _ f hx a D).1;rw[a]
   symm
   rw[show((21:Nat) == 1)=false from rfl,MU];exact this
 have eM:oD (.bool false) (oB (some (V.I x.op)) λag=>oB (eo .eql 3 ag (V.I 1)) λah=>oB (some (V.I b)) λai=>oB (eo .eql 3 ai (V.I 0)) λaj=>oB (eo .neq 4 ah aj) λak=>oB (some ak) λal=>jZ al (some (V.bool (iH x.op))))=some (.bool false):=by
  simp only[mn,fj,gQ,U4,jU]
  cases q:iH x.op with
  |false=>simp
  |true=>rw[aK q];simp
 refine ed eM (js (gi (by simp) ?_));obtain⟨l10,ba,bb,aL,aM,aN,am,aO⟩:=p.Ig 1 rfl (k:=B.ef[j]) (y:=(b:Int)) (u:=V.I b) G rfl rfl rfl;simp only[lj,iY]at am;refine oN (p.ld 2 rfl rfl) (oN (p.ld 2 rfl rfl) (ed aL ?_));rw[aM,ei];obtain⟨l12,bc,bd,aP,aQ,aR,an,aS⟩:=am.Ig 0 rfl (k:=B.ef[j]) (y:=(j:Int)) (u:=V.I j) (by rw[S2.np];exact K) rfl rfl rfl;simp only[lj,iY]at an;refine⟨aN,ed aP ?_⟩;rw[aQ,ei];refine⟨aR,fN (fN ?_)⟩;refine⟨k2-1,by omega,j+1,iH x.op,J.set (B.ef[j]) (b:Int),aa.set (B.ef[j]) (j:Int),rfl,?_,rfl,rfl,rfl,rfl,rfl,rfl,rfl,rfl,by omega,?_,S2.step g f,(t.trans aO).trans aS,an⟩
 ·rw[show(pre u b).length+(j+1)=(pre u b).length+j+1 by omega]
 ·cases q:iH x.op with
  |true=>exact .inl rfl
  |false=>exact .inr ⟨_,_,x,f,by omega,rfl,hx,q⟩
end
open Un Dm
def E2{α:Type}(E:qA α)(QL ty:Nat)(I2:List (List α))(v:V)(ds:List V):Pc where
 lX:=λl=>Loc v l\/∃d∈ds,Loc d l
 ok F h:=∃t,v = .slice t 0 I2.length/\t<h.next/\¬F t/\h.get t=some (.cells QL 1 true false ds)/\ds.length=I2.length/\(∀(i:Nat) x d,I2[i]? =some x->ds[i]? =some d->ko E ty F h x d)/\(∀d∈ds,¬Loc d t)/\
  ∀(i j:Nat) (d e:V),i≠j->ds[i]? =some d->ds[j]? =some e->∀l,Loc d l->¬Loc e l
 JC:=λ⟨t,b,g,m,n,o,k,p,q⟩ l a=>by
  rcases a with a|⟨d,c,a⟩
  ·subst b;obtain rfl:t=l:=a;exact⟨g,m⟩
  ·obtain⟨i,hi⟩:=mK.1 c;have w:=(iR.1 hi).1;exact((k i _ d (gP (by omega)) hi).wh a).2
 fk:=λ{F h h'} ⟨t,b,g,m,n,o,k,p,q⟩ r a u=>by
  refine⟨t,b,BL g u,m,(a t (.inl (by subst b;rfl))).trans n,o,λi x d s c=>?_,p,q⟩;exact(k i x d s c).fk r (λl f=>a l (.inr ⟨d,mK.2 ⟨i,c⟩,f⟩)) u
 mono:=λ{F F' h} ⟨t,b,g,m,n,o,k,p,q⟩ r a=>by
  refine⟨t,b,g,a t (.inl (by subst b;rfl)),n,o,λi x d s c=>?_,p,q⟩;exact(k i x d s c).mono r λl f=>a l (.inr ⟨d,mK.2 ⟨i,c⟩,f⟩)
theorem Px{α:Type}{E:qA α}{F:Nat->Prop}{h:Hp}:∀{I2:List (List α)}{ds:List V},ds.length=I2.length->(∀(i:Nat) x d,I2[i]? =some x->ds[i]? =some d->iC E F h x d)->pR (eL E) F h ds I2
 |[],_,_,_=>trivial
 |x::I2,[],h,_=>by simp at h
 |x::I2,d::ds,hl,H=>⟨[d],ds,rfl,⟨d,rfl,H 0 x d rfl rfl⟩,Px (by simpa using hl) λi x d a b=>H (i+1) x d (by simpa using a) (by simpa using b)⟩
section
variable{F F':Nat->Prop}{h h':Hp}{cs:List Pc}{α:Type}{E:qA α}{QL ty:Nat}{I2:List (List α)}{v:V}{ds:List V}
theorem en.Tk(H:en F h cs)(n:Nat):en F (h.new (.cells QL 1 true false (List.replicate n V.ee))) (E2 E QL ty (List.replicate n []) (.slice h.next 0 n) (List.replicate n V.ee)::cs)/\Sn F h F (h.new (.cells QL 1 true false (List.replicate n V.ee))):=by
 have c:∀{i:Nat} {d:V},(List.replicate n V.ee)[i]? =some d->d = .ee:=λa=>wCE (mK.2 ⟨_,a⟩);refine H.new _ ⟨h.next,by simp,KX _,H.fresh,fi _ _,by simp,λi x d f a=>?_,λd a=>?_,λi j d e _ a _ l b=>?_⟩ λl b=>?_
 ·obtain rfl:=c a;obtain rfl:x=[]:=wCE (mK.2 ⟨_,f⟩);exact .nil
 ·obtain rfl:=wCE a;exact id
 ·obtain rfl:=c a;exact b.elim
 ·rcases b with b|⟨d,a,b⟩
  ·exact b.symm
  ·obtain rfl:=wCE a;exact b.elim
theorem en.Zv(H:en F h cs)(i:Nat)(hi:cs[i]? =some (E2 E QL ty I2 v ds)):fF v=some (.I I2.length):=by
 obtain⟨t,rfl,_⟩:=H.ok i _ hi;rfl
theorem en.SX(H:en F h cs)(i:Nat)(hi:cs[i]? =some (E2 E QL ty I2 v ds)){b:Nat}(R:b<I2.length){jM BN:Nat}{y:α}{w:List V}{ro:Bool}(N:E.rel F h y w)(hz:0<E.sz)(T:jM<=1000)(hlen:I2[b].length<1000000) :
  ∃l d p G D,ds[b]? =some d/\l<h.next/\gD 1 v (.I b)=some (.ptr l (b*1))/\ez (.ptr l (b*1)) h=some d/\fe ty E.sz jM d (.slice h.next 0 1) (h.new (.cells BN E.sz true ro w))=some (.val p G)/\h.next+1<=G.next/\
   gK 1 (.ptr l (b*1)) p G=some (.val .undef D)/\G.next<=D.next/\en F D (cs.set i (E2 E QL ty (I2.set b (I2[b]++[y])) v (ds.set b p)))/\Sn F h F D:=by
 obtain⟨t,rfl,G,D,h4,h5,U,O,P⟩:=H.ok i _ hi;obtain⟨d,I⟩:∃d,ds[b]? =some d:=⟨_,gP (by omega)⟩
 have W:=U b _ d (gP R) I;have s:=mK.2 ⟨b,I⟩;have X:ko E ty F (h.new (.cells BN E.sz true ro w)) I2[b] d:=W.fk (λl a=>fo _ (H.fl l a)) (λl a=>fo _ (W.wh a).2.1) (Nk _);have hx:lC (h.new (.cells BN E.sz true ro w)) E.sz (.slice h.next 0 1)=some (1,w):=nB (k:=0) (by rw[E.len N];simp);have aa:(I2[b].length+1)*jM<=1000000*1000:=Nat.mul_le_mul (by omega) T;obtain⟨p,m,Q,o1,J,l1⟩:=X.append (jM:=jM) (ys:=[y]) hx ⟨w,[],by simp,E.fk (λl a=>fo _ (H.fl l a)) N,trivial⟩ (by rw[E.len N];simp) (E.one N) (by simp) hz (λl a=>wCB (H.fl l a)) (by simp;omega) (by simp;omega);have n1:(h.new (.cells BN E.sz true ro w)).next=h.next+1:=rfl;have u:∀l,Loc p l->Loc d l\/h.next<=l:=λl a=>(l1 l a).imp id λe=>by omega
 have g:t<m.next:=by have:=J.next;omega
 have gt:m.get t=some (.cells QL 1 true false ds):=by rw[J.fk t (by omega) (O d s),fo _ G];exact h4
 have e3:=L1 (o:=b*1) (v:=p) gt (by rw[Nat.mul_one];omega) o1.one;rw[Nat.mul_one]at e3;have M:¬Loc p t:=λa=>(u t a).elim (O d s) λe=>by omega
 have cg:lV (E2 E QL ty I2 (.slice t 0 I2.length) ds).lX h (m.put t (.cells QL 1 true false (ds.set b p))):=by
  refine(((lV.new h _).U2 λ_ _ h=>h).trans' (J.U2 (S':=λl=>Loc d l) λ_ _ h=>h) λl _ a=> .inr ⟨d,s,a⟩).trans' (lV.put (S:=λl=>l=t) _ rfl g) λl _ e=> .inl e.symm
 have n:∀{j:Nat} {e:V},(ds.set b p)[j]? =some e->(j=b/\e=p)\/(j≠b/\ds[j]? =some e):=λ{j e} c=>by
  by_cases ej:b=j
  ·subst ej;rw[EK (by omega)]at c;exact .inl ⟨rfl,(Option.some.inj c).symm⟩
  ·rw[C8 ej]at c;exact .inr ⟨λh=>ej h.symm,c⟩
 have r:∀{j:Nat} {e:V},ds[j]? =some e->∀l,Loc e l->l<h.next:=λ{j e} c l a=>by
  have ab:=(iR.1 c).1;exact((U j _ e (gP (by omega)) c).wh a).2.1
 refine⟨t,d,p,m,m.put t (.cells QL 1 true false (ds.set b p)),I,G,?_,?_,Q,J.next,by rw[Nat.mul_one];exact e3,jj _,H.G9 hi cg ?_ ?_⟩
 ·rw[BT _ _ _ _ _ _ R,yC]
 ·rw[Nat.mul_one];exact kX h4 I
 ·refine ⟨t,by simp,g,D,gq _ g,by simp[h5],λj x e z c=>?_,λe c=>?_,λj k e f hn c hf l a A=>?_⟩
  ·rcases n c with⟨rfl,rfl⟩|⟨q,c⟩
   ·rw[EK R]at z;obtain rfl:=Option.some.inj z;exact o1.fk (λl a=>gI _ g λe=>D (e▸a)) (λl a=>gI _ g λe=>M (e▸a)) (jj _)
   ·rw[C8 λe=>q e.symm]at z;have Y:=mK.2 ⟨j,c⟩;refine(U j x e z c).fk (λl a=>?_) (λl a=>?_) (by have:=J.next;show h.next<=m.next;omega)
    ·rw[gI _ g λe=>D (e▸a),J.fk l (wCB (H.fl l a)) λK=>(W.wh K).2.2 a,fo _ (H.fl l a)]
    ·have Z:=r c l a;rw[gI _ g λe'=>O e Y (e'▸a),J.fk l (by omega) λK=>P j b e d q c I l a K,fo _ Z]
  ·obtain⟨j,q⟩:=mK.1 c;rcases n q with⟨_,rfl⟩|⟨_,q⟩
   ·exact M
   ·exact O e (mK.2 ⟨j,q⟩)
  ·rcases n c with⟨Q,e2⟩|⟨q,L⟩
   ·rcases n hf with⟨e3,_⟩|⟨hk,B⟩
    ·exact hn (Q.trans e3.symm)
    ·subst Q e2;rcases u l a with C|C
     ·exact P k j f d hk B I l A C
     ·have:=r B l A;omega
   ·rcases n hf with⟨e3,e4⟩|⟨hk,B⟩
    ·subst e3 e4;rcases u l A with C|C
     ·exact P j k e d q L I l a C
     ·have:=r L l a;omega
    ·exact P j k e f hn L B l a A
 ·intro l a;rcases a with a|⟨e,c,a⟩
  ·exact .inl (.inl a)
  ·obtain ⟨j,q⟩:=mK.1 c;rcases n q with⟨_,rfl⟩|⟨_,q⟩
   ·rcases u l a with C|C
    ·exact .inl (.inr ⟨d,s,C⟩)
    ·exact .inr C
   ·exact .inl (.inr ⟨e,mK.2 ⟨j,q⟩,a⟩)
theorem en.TI(H:en F h cs)(i:Nat)(hi:cs[i]? =some (E2 E QL ty I2 v ds)):∃F',en F' h (cs.set i emp)/\Sn F h F' h/\iC (eL E) F' h I2 v:=by
 have a:=H.ok i _ hi;obtain⟨c,e⟩:=H.zaG (p:=emp) (F':=λl=>F l\/(E2 E QL ty I2 v ds).lX l) hi (lV.refl _ _) (λ_ h=> .inl h) (λ_ h=>h.imp id .inl) trivial λ_ h=>h.elim;refine⟨_,c,e,?_⟩;obtain⟨t,rfl,o,g3,f,g,k,q,g8⟩:=a;refine .inr ⟨t,0,QL,true,false,ds,rfl,.inr (.inl rfl),f,.inr rfl,Kl _,?_⟩;rw[Vt];exact Px g λj x d m b=>(k j x d m b).Yo (λ_ h=> .inl h) λl n=> .inr (.inr ⟨d,mK.2 ⟨j,b⟩,n⟩)
end
def iz(u:U)(i j b:Nat):List Nat:=kW (u.blocks.take i) 0 b++(match u.blocks[i]? with
 |some B=>((B.next.take j).filter (·= b)).map λ_=>i
 |none=>[])
theorem Ir(u:U)(b:Nat):iz u 0 0 b=[]:=by
 unfold iz;cases u.blocks[0]? <;> simp[kW]
theorem Is{u:U}{i j b t:Nat}{B:Bk}(a:u.blocks[i]? =some B)(c:B.next[j]? =some t):iz u i (j+1) b=if b=t then iz u i j b++[i] else iz u i j b:=by
 unfold iz;rw[a];obtain⟨d,rfl⟩:=iR.1 c;simp only[M9 d,ZG,Ji];by_cases e:b=B.next[j]
 ·rw[if_pos e,<-Ek];simp[e]
 ·rw[if_neg e];have:B.next[j]≠b:=λh=>e h.symm;simp[this]
theorem IT{u:U}{i b:Nat}{B:Bk}(a:u.blocks[i]? =some B):iz u (i+1) 0 b=iz u i B.next.length b:=by
 unfold iz;obtain⟨hi,rfl⟩:=iR.1 a;rw[a,M9 hi,z9];have c:(u.blocks.take i).length=i:=by rw[GX];omega
 simp only[c,yC,Jh];cases u.blocks[i+1]? <;> simp[kW]
theorem oE(u:U)(b:Nat):iz u u.blocks.length 0 b=Un.ahead u b:=by
 unfold iz Un.ahead;rw[Jh,KT (jj _)];simp
theorem oG{u:U}(g:Good u){i j b:Nat}(hi:i<=u.blocks.length)(k:j<=2):(iz u i j b).length<=2*i+2:=by
 have c:∀i,i<=u.blocks.length->(kW (u.blocks.take i) 0 b).length<=2*i:=by
  intro i
  induction i with
  |zero=>intro _;simp[kW]
  | succ i e=>
    intro hi;have a:i<u.blocks.length:=by omega
    rw[M9 a,z9];have:=e (by omega);have f:u.blocks[i]? =some u.blocks[i]:=gP a;have l:(u.blocks[i]).next.length<=2:=by
      rcases g.fin i _ f with⟨_,h⟩|⟨_,h,_⟩|⟨_,h,_⟩
      ·omega
      ·omega
      ·rw[h];simp
    have d:=wBg (λx=>decide (x=b)) (u.blocks[i]).next;simp only[y6,kW,CD,Eo,XZ];omega
 have m:=c i hi;unfold iz;rw[y6]
 cases hq:u.blocks[i]? with
 |none=>simp only[XZ];omega
 | some B=>
   have d:=wBg (λx=>decide (x=b)) (B.next.take j);simp only[CD,GX]at d⊢;omega
section
variable{F F':Nat->Prop}{h h':Hp}{cs:List Pc}{Q:fy}{u:U}{vv vb vs:V}
theorem Qg(g:Good u)(H0:en F h cs)(D:A0 F h u vv vb vs)(H:∀F' h' v,Sn F h F' h'->en F' h' cs->iC (eL eN) F' h' ((List.range u.blocks.length).map (Un.ahead u)) v->Q v h') :
  cP CS xZ [.agg (uC u vv vb vs)] h Q:=by
 refine QJ rfl rfl ?_;unfold Kg;have nb:=g.nb;refine mH H0 D.one λp T J=>?_;refine oF (T.ld 0 rfl rfl) (ed (D.since J).b.len ?_);rw[jQ (z:=V.ee) rfl (by decide) (by omega),fE];obtain⟨K,U⟩:=T.Tk (E:=eN) (QL:=iP) (ty:=ey) u.blocks.length;have L:List.replicate u.blocks.length ([]:List Nat)=(List.range u.blocks.length).map (iz u 0 0):=by
  refine List.ext_getElem (by simp) λi p h2=>?_;simp[Ir]
 rw[L]at K;refine oF (K.ld 1 rfl rfl) (ed (D.since (J.trans U)).b.len ?_)
 refine LB (λk q a f m h'=>∃(i:Nat) (ds:List V),q = .slice p.next 0 u.blocks.length/\a=vb/\f = .I u.blocks.length/\m = .I i/\i+k=u.blocks.length/\Sn F h F h'/\
  en F h' (E2 eN iP ey ((List.range u.blocks.length).map (iz u i 0)) (.slice p.next 0 u.blocks.length) ds::cs)) ?_ (k:=u.blocks.length)
  ⟨0,_,rfl,rfl,rfl,rfl,by omega,J.trans U,(K.forget (i:=1) rfl)|> λH=>by
    simp only[lj,iY]at H;exact⟨H.fl,λi c hc=>by
      cases i with
      |zero=>exact H.ok 0 c hc
      |succ i=>exact H.ok (i+2) c hc,λi j c d hc G hn=>by
      cases i with
      | zero=>
        cases j with
        |zero=>exact absurd rfl hn
        |succ j=>exact H.Dl 0 (j+2) c d hc G (by omega)
      | succ i=>
        cases j with
        |zero=>exact H.Dl (i+2) 0 c d hc G (by omega)
        |succ j=>exact H.Dl (i+2) (j+2) c d hc G (by omega)⟩⟩
 rintro k q a f m h3 ⟨i,ds,rfl,M,rfl,rfl,hk,N,W⟩;subst a;unfold FD;by_cases hi:i<u.blocks.length;rotate_left
 ·refine iI ?_;obtain rfl:i=u.blocks.length:=by omega
  obtain ⟨F4,I,s4,r4⟩:=W.TI 0 rfl;have e:(List.range u.blocks.length).map (iz u u.blocks.length 0)=(List.range u.blocks.length).map (Un.ahead u):=by
   refine Wr λb _=>oE u b
  rw[e]at r4;exact H F4 h3 _ (N.trans s4) I.tail r4
 refine gG ?_;obtain⟨B,r⟩:∃B,u.blocks[i]? =some B:=⟨_,gP hi⟩
 obtain ⟨l7,o7,bv,bn,bp,_,i1,i2,iv,s,ip,_⟩:=(D.since N).nW r;have aa:B.next.length<=2:=by
  rcases g.fin i _ r with⟨_,h⟩|⟨_,h,_⟩|⟨_,h,_⟩
  ·omega
  ·omega
  ·rw[h];simp
 refine ed i1 (ed i2 ?_);refine iG W rfl rfl (by simp only[kr,eQ,iv.one,s.one,ip.one];rfl) λh4 I s4=>?_;have s:=s.since s4;refine oF (I.ld 0 rfl rfl) (ed s.len ?_)
 refine LD (λk q X a f m n t x h'=>∃(j:Nat) (ds:List V),q = .slice p.next 0 u.blocks.length/\X = .I i/\a=vb/\f = .I u.blocks.length/\m = .I i/\n=bn/\t = .I B.next.length/\x = .I j/\
  j+k=B.next.length/\Sn F h4 F h'/\en F h' (E2 eN iP ey ((List.range u.blocks.length).map (iz u i j)) (.slice p.next 0 u.blocks.length) ds::cs)) ?_ (k:=B.next.length)
  ⟨0,ds,rfl,rfl,rfl,rfl,rfl,rfl,rfl,rfl,by omega,Sn.refl _ _,I.tail⟩
 rintro k1 q X a f m n t x Y ⟨j,A,rfl,rfl,M,rfl,rfl,ab,rfl,rfl,ac,O,P⟩;subst a n;unfold EL;by_cases hj:j<B.next.length;rotate_left
 ·refine iI ?_;obtain rfl:j=B.next.length:=by omega
  refine fN ⟨k-1,by omega,i+1,A,rfl,rfl,rfl,rfl,by omega,(N.trans s4).trans O,?_⟩;have e:(List.range u.blocks.length).map (iz u (i+1) 0)=(List.range u.blocks.length).map (iz u i B.next.length):=Wr λb _=>IT r;rw[e];exact P
 refine gG ?_;obtain⟨l8,o8,_,j1,j2⟩:=(s.since O).nat (gP hj) .i64;have C:B.next[j]<u.blocks.length:=g.nx i _ (by unfold next;rw[r];exact zq hj);have Z:=P.Zv 0 rfl;rw[CD,Xe]at Z;refine ed j1 (ed j2 (ed Z ?_));refine zy (js (gw (by simpa using C) ?_));have o:B.next[j]<((List.range u.blocks.length).map (iz u i j)).length:=by simpa using C
 have R:((List.range u.blocks.length).map (iz u i j))[B.next[j]]'o=iz u i j B.next[j]:=by simp
 obtain ⟨l,d,d',h6,h7,G,hl,e1,e2,e3,e4,e5,e6,H7,s7⟩:=P.SX 0 rfl o (jM:=8) (BN:=3) (y:=i) (w:=[.I i]) (ro:=false) rfl (by decide) (by decide) (by
  rw[R];have:=oG g (i:=i) (j:=j) (b:=B.next[j]) (by omega) (by omega);omega)
 refine ed e1 (ed e2 ?_);rw[nR,fE];have S:fe 3 1 8 d (.slice Y.next 0 1) (Y.new (.cells 3 1 true false (hO [i])))=some (.val d' h6):=e3;rw[S,ei];refine ed e1 ?_;rw[e5,ei];refine KG ?_;unfold DW;simp only[iY]at H7;refine fN ⟨k1-1,by omega,j+1,A.set (B.next[j]) d',rfl,rfl,rfl,rfl,rfl,rfl,rfl,rfl,by omega,O.trans s7,?_⟩;have e:((List.range u.blocks.length).map (iz u i j)).set (B.next[j]) (((List.range u.blocks.length).map (iz u i j))[B.next[j]]'o++[i])=(List.range u.blocks.length).map (iz u i (j+1)):=by
  refine List.ext_getElem (by simp) λb p h2=>?_;rw[List.getElem_set];simp only[List.getElem_map,List.getElem_range];rw[Is r (gP hj)];by_cases eb:B.next[j]=b
  ·subst eb;simp
  ·rw[if_neg eb,if_neg λh=>eb h.symm]
 rw[<-e];exact H7
end
