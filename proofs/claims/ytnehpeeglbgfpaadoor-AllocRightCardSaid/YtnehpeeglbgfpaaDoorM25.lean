/- Parts. -/
import Derived.Test.YtnehpeeglbgfpaaDoorM24
import Derived.KernelRfl
set_option maxHeartbeats 4000000
namespace Go.Proofs.YtnehpeeglbgfpaaDoor.Hx
open Un Dm
def pre(u:U)(b:Nat):List Nat:=(u.blocks.take b).flatMap (·.ee)
theorem Hv{u:U}{b:Nat}{B:Bk}(a:u.blocks[b]? =some B):pre u (b+1)=pre u b++B.ee:=by
 unfold pre;obtain⟨c,rfl⟩:=jw.1 a
 grind[KM]
theorem Ky{u:U}{b v:Nat}:v∈pre u b↔∃c k,At u v c k/\c<b:=by
 unfold pre At;simp only[List.mem_flatMap];constructor
 ·grind[mM]
 ·rintro⟨c,k,⟨B,a,d⟩,e⟩;refine⟨B,mM.2 ⟨c,?_⟩,by grind⟩
  simp_all
theorem Dp{u:U}(g:Good u){b:Nat}{B:Bk}(a:u.blocks[b]? =some B):B.ee.Nodup:=by
 rw[List.nodup_iff_pairwise_ne,Xp];intro i j hi c d e;have f:At u (B.ee[i]) b i:=⟨B,a,iH hi⟩
 have h:At u (B.ee[i]) b j:=⟨B,a,by rw[e];exact iH c⟩
 have:=(g.JC _ _ _ _ _ f h).2;omega
theorem Fy{u:U}(g:Good u):∀b,(pre u b).Nodup
 |0=>by simp[pre]
 | b + 1=>by
   by_cases hb:b<u.blocks.length
   ·have a:=iH hb
    rw[Hv a,List.nodup_append];refine⟨Fy g b,Dp g a,λv d w f e=>?_⟩;subst e
    let⟨c,k,h,i⟩:=Ky.1 d
    let⟨j,hj⟩:=mM.1 f
    have:=(g.JC _ _ _ _ _ h ⟨_,a,hj⟩).1;omega
   ·have:pre u (b+1)=pre u b:=by
      unfold pre;rw[JE (by omega),JE (by omega)]
    rw[this];exact Fy g b
theorem K0{u:U}(g:Good u):(pre u u.blocks.length).length=u.ee.length:=by
 refine Nat.le_antisymm (wx _ _ (Fy g _) λv a=>?_) ?_
 ·let⟨c,k,d,_⟩:=Ky.1 a
  exact g.vR _ _ _ d
 ·have d:(List.range u.ee.length).length=u.ee.length:=YG;rw[<-d];refine sub_le _ _ List.nodup_range λv a=>?_;rw[Zd]at a
  let⟨b,k,e⟩:=g.DB v a trivial
  refine Ky.2 ⟨b,k,e,?_⟩
  let⟨B,f,_⟩:=e
  grind
structure Std (u:U) (b k:Nat) (bl pl:List Int):Prop where
 nb:bl.length=u.ee.length
 np:pl.length=u.ee.length
 yes:∀v c j,At u v c j->(c<b\/(c=b/\j<k))->bl[v]? =some (c:Int)/\pl[v]? =some (j:Int)
 no:∀v c j,At u v c j->¬(c<b\/(c=b/\j<k))->bl[v]? =some (-1)
theorem Std.step{u:U}{b k:Nat}{bl pl:List Int}(g:Good u)(S:Std u b k bl pl){v:Nat}(f:At u v b k):Std u b (k+1) (bl.set v (b:Int)) (pl.set v (k:Int)):=by
 have d:=g.vR _ _ _ f;refine⟨by simp[S.nb],by simp[S.np],λw c j a hc=>?_,λw c j a hc=>?_⟩
 ·by_cases e:w=v
  ·subst e;obtain⟨rfl,rfl⟩:=g.JC _ _ _ _ _ a f;rw[G2 (by rw[S.nb];exact d),G2 (by rw[S.np];exact d)]
   simp_all
  ·rw [Iv (by omega),Iv (by omega)];refine S.yes w c j a ?_;rcases hc with i|⟨rfl,i⟩
   ·omega
   ·refine .inr ⟨rfl,?_⟩;rcases Ji j k with h|h
    ·exact h
    ·exfalso;obtain rfl:j=k:=by omega
     let⟨B,l,m⟩:=a
     let⟨B',n,o⟩:=f
     simp_all
 ·have e:w≠v:=λe=>by
   subst e;obtain⟨rfl,rfl⟩:=g.JC _ _ _ _ _ a f;omega
  rw[Iv (by omega)];exact S.no w c j a (by omega)
theorem Std.next{u:U}{b:Nat}{bl pl:List Int}{B:Bk}(i:u.blocks[b]? =some B)(S:Std u b B.ee.length bl pl):Std u (b+1) 0 bl pl:=by
 have f:∀v c j,At u v c j->((c<b\/(c=b/\j<B.ee.length))↔(c<b+1\/(c=b+1/\j<0))):=by
  intro v c j g;constructor
  ·omega
  ·intro h;by_cases e:c=b
   ·subst e
    let⟨B',a,d⟩:=g
    grind
   ·omega
 exact⟨S.nb,S.np,λv c j a d=>S.yes v c j a (by grind),λv c j a d=>S.no v c j a (by omega)⟩
theorem Lj:P0.underlying fx=some .bool:=by kernel_rfl
theorem zn(a b:Bool):ef .neq fx (.bool a) (.bool b)=some (.bool (a != b)):=by
 show Mi fx true (.bool a) (.bool b)=_;unfold Mi TE Ov;rw[Lj];rfl
section
variable{F F':Nat->Prop}{h h':Hp}{cs:List Pc}{Q:fm}{u:U}{vv vb vs:V}{lc:Nat}{bl pl AZ:V}
theorem QQ(g:Good u){ty:Nat}(H0:er F h (ey lc ty [.I u.func,.I u.pc,vv,vb,vs,bl,pl,AZ]::cs))(t:Af F h u vv vb vs)
  (H:∀F' h' b' p' xs ys,Sn F h F' h'->er F' h' (ey lc ty [.I u.func,.I u.pc,vv,vb,vs,b',p',AZ]::cs)->iL eZ F' h' xs b'->iL eZ F' h' ys p'->Std u u.blocks.length 0 xs ys->Q (.bool true) h') :
  cP CS mf [.ptr lc 0] h Q:=by
 refine Cy rfl rfl ?_;unfold vh;have nv:=g.nv;have nb:=g.nb;have aL:=(H0.ok 0 _ rfl).2.1;refine ec (fj _ _) (ec (by rfl) (ec (by rfl) (ec (H0.ld 0 rfl rfl) (ec t.v.len ?_))));rw[kM rfl (by decide) (by omega),ij];obtain⟨H1,s1⟩:=H0.make (E:=eZ) u.ee.length rfl rfl;have n1:(h.new (.cells fy 1 true false (List.replicate u.ee.length (V.I 0)))).next=h.next+1:=rfl;have g1:(h.new (.cells fy 1 true false (List.replicate u.ee.length (V.I 0)))).get h.next=_:=ez _ _;show oP (iu (.ptr lc 0)) _;generalize aM:h.new (.cells fy 1 true false (List.replicate u.ee.length (V.I 0)))=a at*;refine ec (fj _ _) (ec (by rfl) (ec (by rfl) (ec (H1.ld 1 rfl rfl) (ec (t.since s1).v.len ?_))));rw[kM rfl (by decide) (by omega),ij];obtain⟨H2,s2⟩:=H1.make (E:=eZ) u.ee.length rfl rfl;have g2:(a.new (.cells fy 1 true false (List.replicate u.ee.length (V.I 0)))).get a.next=_:=ez _ _;have aN:=(eR (.cells fy 1 true false (List.replicate u.ee.length (V.I 0))) (by omega)).trans g1;show oP (iu (.ptr lc 0)) _;generalize aO:a.new (.cells fy 1 true false (List.replicate u.ee.length (V.I 0)))=h2 at*;refine ec (fj _ _) (ec (by rfl) ⟨by simp_all,H2.ld 2 rfl rfl,by simp_all,H2.ld 2 rfl rfl,?_⟩)
 let⟨h3,e3,n3,H3,s3,k3⟩:=H2.stk 2 (o:=5) (u:= .slice h.next 0 u.ee.length) rfl (by simp) rfl
 rw[ e3];refine⟨n3,ec (fj _ _) (ec (by rfl) ⟨by grind[O.ie],?_⟩)⟩
 let⟨h4,e4,n4,H4,s4⟩:=H3.st 2 (o:=6) (u:= .slice a.next 0 u.ee.length) rfl (by simp) rfl
 rw[ e4];refine⟨n4,?_⟩;have aP:=((s1.trans s2).trans s3).trans s4;generalize V.slice a.next 0 u.ee.length=vp at*;generalize V.slice h.next 0 u.ee.length=vq at*;have lq:=H4.len 1 rfl;rw[List.length_replicate]at lq;refine ec (fj _ _) (ec (by rfl) (ec (H4.ld 2 rfl rfl) (ec lq ?_)))
 refine zT (λk z I J h'=>∃i xs,z = .ptr lc 0/\I = .I u.ee.length/\J = .I (i:Nat)/\i+k=u.ee.length/\xs.length=u.ee.length/\(∀j,j<i->xs[j]? =some (-1))/\Sn F h F h'/\
  er F h' (fo eZ fy (List.replicate u.ee.length (0:Int)) vp::fo eZ fy xs vq::ey lc ty [.I u.func,.I u.pc,vv,vb,vs,vq,vp,AZ]::cs)) ?_ (k:=u.ee.length)
  (by grind)
 rintro k z I J h5 ⟨i,xs,rfl,rfl,rfl,hk,ah,hm,s5,H5⟩;unfold rM;by_cases hi:i<u.ee.length
 ·refine hV ?_;obtain⟨l6,o6,h6,e6,e7,n6,K,A⟩:=H5.AD 1 rfl (k:=i) (by omega) rfl rfl rfl;refine ec (fj _ _) (ec (by rfl) (ec (H5.ld 2 rfl rfl) (ec e6 ?_)));rw[e7,ej];refine gq ⟨k-1,by omega,i+1,xs.set i (-1),rfl,rfl,rfl,by omega,by simp_all,λj hj=>?_,s5.trans A,K⟩
  grind
 refine jG ?_;refine ec (fj _ _) (ec (by rfl) (ec (by rfl) (ec (H5.ld 2 rfl rfl) (ec (t.since s5).b.len ?_))));have S0:Std u 0 0 xs (List.replicate u.ee.length (0:Int)):=⟨ah,by simp,by omega,λv c j a _=>hm v (by have:=g.vR _ _ _ a;omega)⟩
 refine zu (λk z L d f m h'=>∃b xs ys,z = .ptr lc 0/\L = .I ((pre u b).length:Nat)/\d=vb/\f = .I u.blocks.length/\m = .I (b:Nat)/\b+k=u.blocks.length/\Std u b 0 xs ys/\Sn F h F h'/\
  er F h' (fo eZ fy ys vp::fo eZ fy xs vq::ey lc ty [.I u.func,.I u.pc,vv,vb,vs,vq,vp,AZ]::cs)) ?_ (k:=u.blocks.length)
  ⟨0,xs,_,rfl,rfl,rfl,rfl,rfl,by omega,S0,s5,H5⟩
 rintro k1 z L d f m h6 ⟨b,ai,aj,rfl,rfl,ak,rfl,rfl,aQ,S1,A,K⟩;subst d;unfold rj;by_cases hb:b<u.blocks.length;rotate_left
 ·refine jG ?_;obtain rfl:b=u.blocks.length:=by omega
  refine ec (fj _ _) (ec (by rfl) (ec (by rfl) (ec (K.ld 2 rfl rfl) (ec (t.since A).v.len (gG ?_)))));rw[K0 g,Qy rfl]
  let⟨M,N,r7⟩:=K.mi 0 rfl
  simp[ ot]at M
  let⟨p,q,r8⟩:=M.mi 1 rfl
  exact H _ _ _ _ _ _ ((A.trans N).trans q) p.tail.tail r8 (r7.since q) S1
 refine hV ?_;obtain⟨B,C⟩:∃B,u.blocks[b]? =some B:=by simp_all
 let⟨l7,o7,bv,bn,bp,_,i1,i2,P,iN,ip,_⟩:=(t.since A).wh C
 refine ec i1 (ec i2 ?_);refine jy K rfl rfl (by simp only[lC,fc,P.one,iN.one,ip.one];rfl) λh7 M N=>?_;have P:=P.since N;refine ec (by rfl) (ec (M.ld 0 rfl rfl) (ec P.len ?_));have aR:(pre u b).length<=u.ee.length:=by
  rw[<-K0 g];unfold pre;have:u.blocks.take b <+: u.blocks:=List.take_prefix _ _
  let⟨r,hr⟩:=this
  conv=>rhs;rw[Yn,<-hr,Xx,Ja]
  omega
 have aK:(pre u b).length+B.ee.length<=u.ee.length:=by
  rw[<-Ja,<-Hv C];rw[<-K0 g];unfold pre;have:u.blocks.take (b+1) <+: u.blocks:=List.take_prefix _ _
  let⟨r,hr⟩:=this
  conv=>rhs;rw[Yn,<-hr,Xx,Ja]
  omega
 refine zW (λk z L x5 x7 d f m D R S h'=>∃j n xs ys,z = .ptr lc 0/\L = .I (((pre u b).length+j:Nat):Int)/\x5 = .I b/\x7 = .bool n/\d=vb/\f = .I u.blocks.length/\m = .I b/\
  D=bv/\R = .I B.ee.length/\S = .I j/\j+k=B.ee.length/\(n=true\/∃v w x,At u v b (j-1)/\0<j/\w=v/\u.ee[v]? =some x/\iC x.op=false)/\Std u b j xs ys/\Sn F h F h'/\
  er F h' (fo eZ fy ys vp::fo eZ fy xs vq::ey lc ty [.I u.func,.I u.pc,vv,vb,vs,vq,vp,AZ]::cs)) ?_ (k:=B.ee.length)
  ⟨0,true,ai,aj,rfl,rfl,rfl,rfl,rfl,rfl,rfl,rfl,rfl,rfl,by omega,.inl rfl,S1,A.trans N,M.tail⟩
 rintro k2 z L x5 x7 d f m D R S h8 ⟨j,n,G,T,rfl,rfl,rfl,rfl,ak,rfl,rfl,aS,rfl,rfl,aT,U,S2,q,p⟩;subst d D;unfold rF;by_cases hj:j<B.ee.length;rotate_left
 ·refine jG ?_;obtain rfl:j=B.ee.length:=by omega
  refine gq ⟨k1-1,by omega,b+1,G,T,rfl,?_,rfl,rfl,rfl,by omega,S2.next C,q,p⟩;rw[Hv C,Ja]
 refine hV ?_;have e:At u (B.ee[j]) b j:=⟨B,C,iH hj⟩
 have W:=g.vR _ _ _ e;obtain⟨x,X⟩:∃x,u.ee[B.ee[j]]? =some x:=by simp_all
 have al:iL eN F h8 B.ee bv:=by
  let⟨l7,o7,bv',bn',bp',_,aU,aV,iv',_⟩:=(t.since q).wh C
  exact ((by omega)|> λ_=>(by
   have hk:=λl hl=>(q.eD l hl).trans ((A.trans N).eD l hl).symm;exact P.eD hk))
 let⟨l9,o9,_,j1,j2⟩:=al.nat (iH hj) .i64
 refine ec j1 (ec j2 (ec (fj _ _) (ec (by rfl) (ec (by rfl) (ec (p.ld 2 rfl rfl) (ec (t.since q).v.len ?_))))));refine wi ?_;rw[Qy W];refine ec rfl ?_;have am:=S2.no _ _ _ e (by omega)
 let⟨hvl2,hno2⟩:=jw.1 am
 let⟨lb,ob,ub,b1,b2,b3⟩:=p.PO 1 rfl hvl2 .i64 rfl
 obtain rfl:ub = .I (-1):=by
  have:[ub]=[V.I G[B.ee[j]]]:=b3
  simp_all
 have eA:mh (.bool (!true)) (oB (some (V.ptr lc 0)) λan=>oB (iu an) λao=>oB (fI 5 ao) λaq=>oB (en aq h8) λar=>oB (some (V.I (B.ee[j]:Nat))) λau=>oB (gy 1 ar au) λaw=>oB (en aw h8) λax=>ef .geq 3 ax (V.I 0))=some (.bool false):=by
  have l5:en (.ptr lc (0+5)) h8=some vq:=p.ld 2 rfl rfl;simp only[Ug,qJ,eQ,fj,fH,l5,b1,b2,nU];rfl
 refine ec eA (je (gB (by simp) ?_))
 let⟨lv,ov,wv,_,c1,_,_,cv⟩:=(t.since q).val X
 refine ec (fj _ _) (ec (by rfl) (ec (by rfl) (ec (p.ld 2 rfl rfl) (ec c1 (ec (by rfl) (ec cv.op ?_))))));refine ec (by rfl) ?_;have eH:mh (.bool ((x.op:Int) == 21)) (oB (some (V.I x.op)) λay=>ef .eql 3 ay (V.I 1))=some (.bool (iC x.op)):=by
  simp[eQ,ig,iM];unfold iC;rw[show((x.op:Int) == 21)=(x.op == 21) from G6 _ 21,show((x.op:Int) == 1)=(x.op == 1) from G6 _ 1,Bool.or_comm]
 refine ec eH ?_;have aW:iC x.op=true->n=true:=by
  intro s;rcases U with a|⟨v,w,y,a,h2,rfl,h3,h4⟩
  ·exact a
  ·exfalso;have h5:=g.Ie (B.ee[j]) w b (j-1) x y (by grind) a X h3 s
   simp_all
 have az:jq (.bool (iC x.op)) (oB (some (V.bool n)) λY=>tk .not Y)=some (.bool false):=by
  cases s:iC x.op with
  |false=>rfl
  |true=>simp_all
 refine ec az ?_;have aX:iC x.op=true->((x.op:Int) == 1)=((b:Int) == 0):=by
  intro s;unfold iC at s;simp[IY,Jg]at s;rw[show((x.op:Int) == 1)=(x.op == 1) from G6 _ 1,show((b:Int) == 0)=(b == 0) from G6 _ 0];rcases s with a|a
  ·rw[g.par _ _ _ _ e X a,a];rfl
  ·have:=(g.T3 _ _ _ _ _ e X a C).1
   simp_all
 have eM:mh (.bool false) (oB (some (V.I x.op)) λZ=>oB (ef .eql 3 Z (V.I 1)) λaa=>oB (some (V.I b)) λab=>oB (ef .eql 3 ab (V.I 0)) λac=>oB (ef .neq 4 aa ac) λae=>oB (some ae) λag=>jq ag (some (V.bool (iC x.op))))=some (.bool false):=by
  simp[qJ,eQ,ig,zn,ir]
  cases s:iC x.op with
  |false=>simp
  |true=>simp_all
 refine ec eM (je (gB (by simp) ?_));obtain⟨MK,aY,aZ,aA,aB,aC,aD,aE⟩:=p.AD 1 rfl hvl2 rfl rfl rfl;refine ec (fj _ _) (ec (by rfl) (ec (p.ld 2 rfl rfl) (ec (fj _ _) (ec (by rfl) (ec (p.ld 2 rfl rfl) (ec aA ?_))))));rw[aB,ej];obtain⟨UR,a0,a1,aF,aG,aH,aI,aJ⟩:=aD.AD 0 rfl (by rw[S2.np];exact W) rfl rfl rfl;refine⟨aC,ec aF ?_⟩;rw[aG,ej];refine⟨aH,gq (gq ?_)⟩;refine⟨k2-1,by omega,j+1,iC x.op,G.set (B.ee[j]) (b:Int),T.set (B.ee[j]) (j:Int),rfl,?_,rfl,rfl,rfl,rfl,rfl,rfl,rfl,rfl,by omega,?_,S2.step g e,(q.trans aE).trans aJ,aI⟩
 ·rfl
 ·cases s:iC x.op with
  |true=>simp_all
  |false=>exact .inr ⟨_,_,x,e,by omega,rfl,X,s⟩
end
open Un Dm
def EL{α:Type}(E:sQ α)(Nb ty:Nat)(GR:List (List α))(v:V)(ds:List V):Pc where
 me:=λl=>Loc v l\/∃d∈ds,Loc d l
 ok F h:=∃t,v = .slice t 0 GR.length/\t<h.next/\¬F t/\h.get t=some (.cells Nb 1 true false ds)/\ds.length=GR.length/\(∀(i:Nat) x d,GR[i]? =some x->ds[i]? =some d->jF E ty F h x d)/\(∀d∈ds,¬Loc d t)/\
  ∀(i j:Nat) d e,i≠j->ds[i]? =some d->ds[j]? =some e->∀l,Loc d l->¬Loc e l
 I8:=λ⟨t,c,f,n,o,g,b,k,m⟩ l a=>by
  rcases a with a|⟨d,hd,a⟩
  ·simp_all
  ·let⟨i,hi⟩:=mM.1 hd
   have s:=(jw.1 hi).1;exact((b i _ d (iH (by omega)) hi).tu a).2
 eD:=λ{F h h'} ⟨t,c,f,n,o,g,b,k,m⟩ p a r=>by
  refine⟨t,c,zr f r,n,by simp_all,g,λi x d q hd=>?_,k,m⟩;exact(b i x d q hd).eD p (by grind) r
 mono:=λ{F F' h} ⟨t,c,f,n,o,g,b,k,m⟩ p a=>by
  refine⟨t,c,f,by simp_all,o,g,λi x d q hd=>?_,k,m⟩;exact(b i x d q hd).mono p (by grind)
theorem LM{α:Type}{E:sQ α}{F:Nat->Prop}{h:Hp}:∀{GR:List (List α)}{ds:List V},ds.length=GR.length->(∀(i:Nat) x d,GR[i]? =some x->ds[i]? =some d->iL E F h x d)->mE (eL E) F h ds GR
 |[],_,_,_=>trivial
 |x::GR,[],h,_=>by simp_all
 |x::GR,d::ds,hl,H=>⟨[d],ds,rfl,⟨d,rfl,H 0 x d rfl rfl⟩,LM (by simp_all) λi x d a hd=>H (i+1) x d (by simp_all) (by simp_all)⟩
section
variable{F F':Nat->Prop}{h h':Hp}{cs:List Pc}{α:Type}{E:sQ α}{Nb ty:Nat}{GR:List (List α)}{v:V}{ds:List V}
theorem er.TK(H:er F h cs)(n:Nat):er F (h.new (.cells Nb 1 true false (List.replicate n V.ed))) (EL E Nb ty (List.replicate n []) (.slice h.next 0 n) (List.replicate n V.ed)::cs)/\Sn F h F (h.new (.cells Nb 1 true false (List.replicate n V.ed))):=by
 have b:∀{i:Nat} {d:V},(List.replicate n V.ed)[i]? =some d->d = .ed:=by grind
 refine H.new _ ⟨h.next,by simp,K8 _,H.fresh,ez _ _,by simp,λi x d c hd=>?_,λd hd=>?_,λi j d e _ hd _ l a=>?_⟩ λl a=>?_
 ·obtain rfl:=b hd;obtain rfl:x=[]:=by grind
  exact .nil
 ·simp_all
 ·obtain rfl:=b hd;exact a.elim
 ·rcases a with a|⟨d,hd,a⟩
  ·exact a.symm
  simp_all
theorem er.TZ(H:er F h cs)(i:Nat)(hi:cs[i]? =some (EL E Nb ty GR v ds)):fF v=some (.I GR.length):=by
 obtain⟨t,rfl,_⟩:=H.ok i _ hi;rfl
theorem er.SR(H:er F h cs)(i:Nat)(hi:cs[i]? =some (EL E Nb ty GR v ds)){b:Nat}(Y:b<GR.length){lV Pw:Nat}{y:α}{w:List V}{ro:Bool}(M:E.rel F h y w)(hz:0<E.sz)(O:lV<=1000)(hlen:GR[b].length<1000000) :
  ∃l d p B C,ds[b]? =some d/\l<h.next/\gy 1 v (.I b)=some (.ptr l (b*1))/\en (.ptr l (b*1)) h=some d/\fh ty E.sz lV d (.slice h.next 0 1) (h.new (.cells Pw E.sz true ro w))=some (.val p B)/\h.next+1<=B.next/\
   gW 1 (.ptr l (b*1)) p B=some (.val .undef C)/\B.next<=C.next/\er F C (cs.set i (EL E Nb ty (GR.set b (GR[b]++[y])) v (ds.set b p)))/\Sn F h F C:=by
 obtain⟨t,rfl,B,C,h4,h5,P,Q,N⟩:=H.ok i _ hi;obtain⟨d,hd⟩:∃d,ds[b]? =some d:=by simp_all
 have R:=P b _ d (iH Y) hd;have D:=mM.2 ⟨b,hd⟩;have T:jF E ty F (h.new (.cells Pw E.sz true ro w)) GR[b] d:=R.eD (λl a=>eR _ (H.fl l a)) (λl a=>eR _ (R.tu a).2.1) (La _);have hx:kJ (h.new (.cells Pw E.sz true ro w)) E.sz (.slice h.next 0 1)=some (1,w):=mI (by rw[E.len M];simp);have aa:(GR[b].length+1)*lV<=1000000*1000:=Nat.mul_le_mul (by omega) O
 let⟨p,g,e1,o1,K,l1⟩:=T.append (lV:=lV) (ys:=[y]) hx ⟨w,[],by simp,E.eD (λl a=>eR _ (H.fl l a)) M,trivial⟩ (by rw[E.len M];simp) (E.one M) (by simp) hz (λl a=>UT (H.fl l a)) (by simp;omega) (by simp;omega)
 have n1:(h.new (.cells Pw E.sz true ro w)).next=h.next+1:=rfl;have G:∀l,Loc p l->Loc d l\/h.next<=l:=by grind
 have q:t<g.next:=by have:=K.next;omega
 have gt:g.get t=some (.cells Nb 1 true false ds):=by rw[K.eD t (by omega) (Q d D),eR _ B];exact h4
 have L:=Ih (o:=b*1) gt (by omega) o1.one;rw[Uv]at L;have U:¬Loc p t:=by grind
 have cg:kX (EL E Nb ty GR (.slice t 0 GR.length) ds).me h (g.put t (.cells Nb 1 true false (ds.set b p))):=by
  refine(((kX.new h _).Ub λ_ _ h=>h).trans' (by omega) λl _ a=> .inr ⟨d,D,a⟩).trans' (kX.put (S:=λl=>l=t) _ rfl q) λl _ e=> .inl e.symm
 have m:∀{j:Nat} {e:V},(ds.set b p)[j]? =some e->(j=b/\e=p)\/(j≠b/\ds[j]? =some e):=by grind
 have r:∀{j:Nat} {e:V},ds[j]? =some e->∀l,Loc e l->l<h.next:=λ{j e} c l a=>by
  have ab:=(jw.1 c).1;exact((P j _ e (iH (by omega)) c).tu a).2.1
 refine⟨t,d,p,g,g.put t (.cells Nb 1 true false (ds.set b p)),hd,B,?_,?_,e1,K.next,by simp_all,jn _,H.CN hi cg ?_ ?_⟩
 ·simp_all[vX,EM]
 ·rw[Uv];grind[js]
 ·refine ⟨t,by simp,q,C,fO _ q,by simp[h5],λj x e s c=>?_,λe c=>?_,λj k e f Z c hf l a u=>?_⟩
  ·rcases m c with⟨rfl,rfl⟩|⟨n,c⟩
   ·rw[G2 Y]at s;obtain rfl:=Option.some.inj s;exact o1.eD (by grind[fS]) (by grind[fS]) (jn _)
   ·rw[Iv λe=>n e.symm]at s;have W:=mM.2 ⟨j,c⟩;refine(P j x e s c).eD (λl a=>?_) (λl a=>?_) (by have:=K.next;show h.next<=g.next;omega)
    ·rw[fS _ q λe=>C (e▸a),K.eD l (UT (H.fl l a)) λI=>(R.tu I).2.2 a,eR _ (H.fl l a)]
    ·have X:=r c l a;rw[fS _ q λe'=>Q e W (e'▸a),K.eD l (by omega) λI=>N j b e d n c hd l a I,eR _ X]
  ·let⟨j,n⟩:=mM.1 c
   rcases m n with⟨_,rfl⟩|⟨_,n⟩
   ·exact U
   ·exact Q e (mM.2 ⟨j,n⟩)
  ·rcases m c with⟨e1,e2⟩|⟨n,J⟩
   ·rcases m hf with⟨L,_⟩|⟨hk,z⟩
    ·exact Z (e1.trans L.symm)
    ·subst e1 e2;rcases G l a with A|A
     ·exact N k j f d hk z hd l u A
     ·have:=r z l u;omega
   ·rcases m hf with⟨L,e4⟩|⟨hk,z⟩
    ·subst L e4;rcases G l u with A|A
     ·exact N j k e d n J hd l a A
     ·have:=r J l a;omega
    ·exact N j k e f Z J z l a u
 ·intro l a;rcases a with a|⟨e,c,a⟩
  ·exact .inl (.inl a)
  ·let ⟨j,n⟩:=mM.1 c
   rcases m n with⟨_,rfl⟩|⟨_,n⟩
   ·rcases G l a with A|A
    ·exact .inl (.inr ⟨d,D,A⟩)
    ·exact .inr A
   ·exact .inl (.inr ⟨e,mM.2 ⟨j,n⟩,a⟩)
theorem er.SZ(H:er F h cs)(i:Nat)(hi:cs[i]? =some (EL E Nb ty GR v ds)):∃F',er F' h (cs.set i emp)/\Sn F h F' h/\iL (eL E) F' h GR v:=by
 have a:=H.ok i _ hi
 let⟨b,c⟩:=H.Vj (p:=emp) (F':=λl=>F l\/(EL E Nb ty GR v ds).me l) hi (kX.refl _ _) (by simp_all) (by grind) trivial λ_ h=>h.elim
 refine⟨_,b,c,?_⟩;obtain⟨t,rfl,m,n,g4,e,f,o,q⟩:=a;refine .inr ⟨t,0,Nb,true,false,ds,rfl,.inr (.inl rfl),g4,.inr rfl,GM _,?_⟩;rw[SE];exact LM e λj x d g hd=>(f j x d g hd).Wa (by simp_all) λl k=> .inr (.inr ⟨d,mM.2 ⟨j,hd⟩,k⟩)
end
def jA(u:U)(i j b:Nat):List Nat:=lP (u.blocks.take i) 0 b++(match u.blocks[i]? with
 |some B=>((B.next.take j).filter (·= b)).map λ_=>i
 |none=>[])
theorem Ko(u:U)(b:Nat):jA u 0 0 b=[]:=by
 grind[jA,lP]
theorem Kg{u:U}{i j b t:Nat}{B:Bk}(a:u.blocks[i]? =some B)(c:B.next[j]? =some t):jA u i (j+1) b=if b=t then jA u i j b++[i] else jA u i j b:=by
 unfold jA;rw[a];obtain⟨d,rfl⟩:=jw.1 c;simp only[KM d,List.filter_append]
 grind
theorem Ku{u:U}{i b:Nat}{B:Bk}(a:u.blocks[i]? =some B):jA u (i+1) 0 b=jA u i B.next.length b:=by
 unfold jA;obtain⟨hi,rfl⟩:=jw.1 a;rw[ KM hi,wq];have c:(u.blocks.take i).length=i:=by rw[MI];omega
 simp[ EM]
 grind[lP]
theorem nP(u:U)(b:Nat):jA u u.blocks.length 0 b=Un.ahead u b:=by
 simp_all[jA,Un.ahead]
theorem od{u:U}(g:Good u){i j b:Nat}(hi:i<=u.blocks.length)(f:j<=2):(jA u i j b).length<=2*i+2:=by
 have c:∀i,i<=u.blocks.length->(lP (u.blocks.take i) 0 b).length<=2*i:=by
  intro i
  induction i with
  |zero=>grind[lP]
  | succ i d=>
    intro hi;have a:i<u.blocks.length:=by omega
    rw[KM a,wq];have:=d (by omega);have e:u.blocks[i]? =some u.blocks[i]:=by simp_all
    have k:(u.blocks[i]).next.length<=2:=by
      rcases g.fin i _ e with⟨_,h⟩|⟨_,h,_⟩|⟨_,h,_⟩
      ·omega
      ·omega
      ·simp_all
    grind[lP]
 grind[jA,Ja]
section
variable{F F':Nat->Prop}{h h':Hp}{cs:List Pc}{Q:fm}{u:U}{vv vb vs:V}
theorem Mg(g:Good u)(V:er F h cs)(x:Af F h u vv vb vs)(H:∀F' h' v,Sn F h F' h'->er F' h' cs->iL (eL eN) F' h' ((List.range u.blocks.length).map (Un.ahead u)) v->Q v h') :
  cP CS ue [.agg (uC u vv vb vs)] h Q:=by
 refine Mj rfl rfl ?_;unfold Ge;have nb:=g.nb;refine qx V x.one λo L s1=>?_;refine ec (by rfl) (ec (L.ld 0 rfl rfl) (ec (x.since s1).b.len ?_));rw[kM rfl (by decide) (by omega),fJ];obtain⟨A,M⟩:=L.TK u.blocks.length;have C:List.replicate u.blocks.length ([]:List Nat)=(List.range u.blocks.length).map (jA u 0 0):=by
  refine List.ext_getElem (by simp) λi o W=>?_;simp[Ko]
 rw[C]at A;refine ec (by rfl) (ec (A.ld 1 rfl rfl) (ec (x.since (s1.trans M)).b.len ?_))
 refine Il (λk p a f m h'=>∃i ds,p = .slice o.next 0 u.blocks.length/\a=vb/\f = .I u.blocks.length/\m = .I (i:Nat)/\i+k=u.blocks.length/\Sn F h F h'/\
  er F h' (EL eN ji fy ((List.range u.blocks.length).map (jA u i 0)) (.slice o.next 0 u.blocks.length) ds::cs)) ?_ (k:=u.blocks.length)
  ⟨0,_,rfl,rfl,rfl,rfl,by omega,s1.trans M,(A.forget (i:=1) rfl)|> λH=>by
    exact ⟨H.fl,λi c hc=>by
      cases i with
      |zero=>exact H.ok 0 c hc
      |succ i=>exact H.ok (i+2) c hc,λi j c d hc hd hn=>by
      cases i with
      | zero=>
        cases j with
        |zero=>omega
        |succ j=>exact H.B5 0 (j+2) c d hc hd (by omega)
      | succ i=>
        cases j with
        |zero=>exact H.B5 (i+2) 0 c d hc hd (by omega)
        |succ j=>exact H.B5 (i+2) (j+2) c d hc hd (by omega)⟩⟩
 rintro k p a f m X ⟨i,ds,rfl,D,rfl,rfl,hk,E,N⟩;subst a;unfold Bn;by_cases hi:i<u.blocks.length;rotate_left
 ·refine jG ?_;obtain rfl:i=u.blocks.length:=by omega
  let⟨Y,y,z,O⟩:=N.SZ 0 rfl
  have e:(List.range u.blocks.length).map (jA u u.blocks.length 0)=(List.range u.blocks.length).map (Un.ahead u):=by
   refine(by grind[List.map_congr_left,nP])
  rw[e]at O;exact H Y X _ (E.trans z) y.tail O
 refine hV ?_;obtain⟨B,G⟩:∃B,u.blocks[i]? =some B:=by simp_all
 let⟨l7,o7,bv,bn,bp,_,Z,i2,iv,q,ip,_⟩:=(x.since E).wh G
 have aa:B.next.length<=2:=by
  rcases g.fin i _ G with⟨_,h⟩|⟨_,h,_⟩|⟨_,h,_⟩
  ·omega
  ·omega
  ·simp_all
 refine ec Z (ec i2 ?_);refine jy N rfl rfl (by simp only[lC,fc,iv.one,q.one,ip.one];rfl) λh4 y z=>?_;have q:=q.since z;refine ec (by rfl) (ec (y.ld 0 rfl rfl) (ec q.len ?_))
 refine HS (λk p P a f m n r s h'=>∃j ds,p = .slice o.next 0 u.blocks.length/\P = .I i/\a=vb/\f = .I u.blocks.length/\m = .I i/\n=bn/\r = .I B.next.length/\s = .I (j:Nat)/\
  j+k=B.next.length/\Sn F h4 F h'/\er F h' (EL eN ji fy ((List.range u.blocks.length).map (jA u i j)) (.slice o.next 0 u.blocks.length) ds::cs)) ?_ (k:=B.next.length)
  ⟨0,ds,rfl,rfl,rfl,rfl,rfl,rfl,rfl,rfl,by omega,Sn.refl _ _,y.tail⟩
 rintro k1 p P a f m n r s R ⟨j,t,rfl,rfl,D,rfl,rfl,ab,rfl,rfl,ac,I,S⟩;subst a n;unfold A1;by_cases hj:j<B.next.length;rotate_left
 ·refine jG ?_;obtain rfl:j=B.next.length:=by omega
  refine gq ⟨k-1,by omega,i+1,t,rfl,rfl,rfl,rfl,by omega,(E.trans z).trans I,?_⟩;have e:(List.range u.blocks.length).map (jA u (i+1) 0)=(List.range u.blocks.length).map (jA u i B.next.length):=by grind[List.map_congr_left,Ku]
  grind
 refine hV ?_
 let⟨l8,o8,_,j1,j2⟩:=(q.since I).nat (iH hj) .i64
 have J:B.next[j]<u.blocks.length:=g.nx i _ (by grind[next,Cj]);have T:=S.TZ 0 rfl;rw[List.length_map,YG]at T;refine ec j1 (ec j2 (ec T ?_));refine wi (je (gU (by simp_all) ?_));have w:B.next[j]<((List.range u.blocks.length).map (jA u i j)).length:=by simpa using J
 obtain ⟨l,d,U,h6,h7,hd,hl,e1,e2,e3,e4,e5,e6,H7,s7⟩:=S.SR 0 rfl w (lV:=8) rfl (by decide) (by decide) (by
  grind[od])
 refine ec e1 (ec e2 ?_);rw[Eh,fJ];have K:fh 3 1 8 d (.slice R.next 0 1) (R.new (.cells 3 1 true false (mc [i])))=some (.val U h6):=e3;rw[K,ej];refine ec e1 ?_;rw[e5,ej];refine GI ?_;unfold Ae;refine gq ⟨k1-1,by omega,j+1,t.set (B.next[j]) U,rfl,rfl,rfl,rfl,rfl,rfl,rfl,rfl,by omega,I.trans s7,?_⟩;have e:((List.range u.blocks.length).map (jA u i j)).set (B.next[j]) (((List.range u.blocks.length).map (jA u i j))[B.next[j]]'w++[i])=(List.range u.blocks.length).map (jA u i (j+1)):=by
  refine List.ext_getElem (by simp) λb o W=>?_;rw[List.getElem_set];simp[List.getElem_map,List.getElem_range];rw[Kg G (iH hj)];by_cases eb:B.next[j]=b
  ·simp_all
  ·grind
 simp_all
end
