/- Parts. -/
import Derived.Test.YtcoaokdoecgcbaaGreatDoorM26
set_option maxHeartbeats 4000000
namespace Go.Proofs.YtcoaokdoecgcbaaGreatDoor.Hx
open Un Dm
variable{S:Nat->Prop}{I:Nat->Nat}{G:Dm.Gr}{n:Nat}
structure zew (G:Dm.Gr) (I:Nat->Nat) (S:Nat->Prop) (b:Nat):Prop where
 low:∀p,S p->G.B7 p b->tf I (I b) p
 zht:∀x,(∀p,S p->G.B7 p b->tf I x p)->tf I x (I b)
theorem Ve(I:Nat->Nat)(b:Nat):Dm.set I b (I b)=I:=by
 grind[Dm.set]
theorem ZH{b:Nat}(h:S b):(λx=>S x\/x=b)=S:=by
 grind
theorem zcS{k:Nat}(o:Dm.Inv G I S k 1)(i:∀b,G.node b->S b)(f:∀b,G.node b->b≠0->zew G I S b)(a:∀b,G.node b->G.place b<n)(c:∀p,p<n->∃b,G.node b/\G.place b=p):Dm.Inv G I S (k+1) 1:=by
 have d:∀m,1+m<=n->Dm.Inv G I S k (1+m):=by
  intro m
  induction m with
  |zero=>simp_all
  | succ m j=>
    intro q;have l:=j (by omega)
    let⟨b,hb,hp⟩:=c (1+m) (by omega)
    have h0:b≠0:=λe=>by subst e;rw[G.Fq]at hp;omega
    have g:=(l.Lm hb h0 hp (f b hb h0).low (f b hb h0).zht).1;rw[Ve,ZH (i b hb)]at g;exact g
 have r:1<=n:=by have:=a 0 G.first;omega
 have h:=d (n-1) (by omega);rw[show 1+(n-1)=n by omega]at h;exact h.pass a
theorem WH{k:Nat}(d:Dm.Inv G I S k 1)(e:∀b,G.node b->S b)(f:∀b,G.node b->b≠0->zew G I S b)(a:∀b,G.node b->G.place b<n)(c:∀p,p<n->∃b,G.node b/\G.place b=p):∀m,Dm.Inv G I S (k+m) 1
 |0=>d
 |m+1=>zcS (WH d e f a c m) e f a c
section
variable{u:U}{seen:List Bool}{post:List Nat}
theorem LV(g:Good u)(G:No u.blocks.length (next u) seen post []):∀b,b<u.blocks.length->b∈post:=by
 have a:∀b l,Pt (next u) b l->b∈post:=by
  intro b l hp
  induction hp with
  |nil=>let⟨p,hp⟩:=G.last rfl;simp_all
  | step _ c d=>
    have:=(G.iff _).1 (G.closed _ d _ c)
    simp_all
 intro b e
 let⟨l,hl⟩:=g.reach b e
 grind
theorem Mw(g:Good u)(G:No u.blocks.length (next u) seen post []):post.length=u.blocks.length:=G.all (LV g G)
theorem TS(G:No u.blocks.length (next u) seen post []):post.reverse.Nodup:=by
 have:=G.nodup
 grind
theorem Qy(G:No u.blocks.length (next u) seen post []){i b:Nat}(h:post.reverse[i]? =some b):G.gr.place b=i:=by
 show post.reverse.idxOf b=i;obtain⟨hi,rfl⟩:=ke.1 h;have a:=TS G
 grind
variable{F F':Nat->Prop}{h h':Hp}{cs:List Pc}{Q:fj}{vv vb vs:V}
structure Y1 (S:Nat->Prop) (I:Nat->Nat) (n:Nat) (Gl:List Int):Prop where
 len:Gl.length=n
 yes:∀b,S b->Gl[b]? =some (I b:Int)
 no:∀b,b<n->¬S b->Gl[b]? =some (-1)
theorem zdW{m o t5 t6:Nat}{w vp:V}{Gl:List Int}{pl:List Nat}(g:ej F h cs){i5 i6 ii ip:Nat}(y:cs[i5]? =some (eD m t5 [w]))(z:cs[i6]? =some (eD o t6 [vp]))(hi:cs[ii]? =some (ft eZ fN Gl w))(hp:cs[ip]? =some (ft eN fN pl vp))
  (i:Tree G I S) (A:Y1 S I n Gl) (l:∀b,G.node b->pl[b]? =some (G.place b)) {a b:Nat} (J:S a) (K:S b)
  (H:∀d,S d->tf I d a->tf I d b->(∀x,tf I x a->tf I x b->tf I x d)->Q (.I (d:Nat)) h):cP CS j7 [.I a,.I b,.ptr o 0,.ptr m 0] h Q:=by
 refine Lg ?_
 refine GZ (λk B C D E h'=>∃c f,B = .I (c:Nat)/\C = .I (f:Nat)/\D = .ptr o 0/\E = .ptr m 0/\h' = h/\k=G.place c+G.place f/\S c/\S f/\tf I c a/\tf I f b/\(∀x,tf I x a->tf I x b->tf I x c/\tf I x f)) ?_
  ⟨a,b,rfl,rfl,rfl,rfl,rfl,rfl,J,K,.refl _,.refl _,by simp_all⟩
 rintro k B C D E h' ⟨c,f,rfl,rfl,rfl,rfl,rfl,P,sa,sb,p,q,L⟩;unfold qU;by_cases e:c=f
 ·subst e;refine xh (fO rfl ?_);exact H c sa p q λx r s=>(L x r s).1
 refine xh (kw ?_)
 let⟨lp,op,p1,p2⟩:=g.Z5 ip hp (l c (i.node _ sa)) .i64
 let⟨lq,oq,M,N⟩:=g.Z5 ip hp (l f (i.node _ sb)) .i64
 refine ec (g.ld i6 z rfl) (ec p1 (ec p2 (ec (g.ld i6 z rfl) (ec M (ec N ?_)))));by_cases G6:G.place f<G.place c
 ·refine PT (io ?_)
  let⟨li,oi,t,u⟩:=g.BY ii hi (A.yes c sa) .i64
  refine ec (g.ld i5 y rfl) (ec t (ec u ?_));have h0:c≠0:=λe=>by subst e;rw[G.Fq]at G6;omega
  let⟨v,O⟩:=i.up c sa h0
  exact⟨_,by omega,I c,f,rfl,rfl,rfl,rfl,rfl,rfl,v,sb,(tf.up h0 (.refl _)).trans p,q,λx r s=>⟨i.zfn sa sb G6 (by simp_all) (by simp_all),by simp_all⟩⟩
 ·refine PT (kw ?_)
  let⟨li,oi,t,u⟩:=g.BY ii hi (A.yes f sb) .i64
  refine ec (g.ld i5 y rfl) (ec t (ec u ?_));have j:G.place c<G.place f:=by
   have:G.place c≠G.place f:=λe'=>e (G.inj _ _ (i.node _ sa) (i.node _ sb) e');omega
  have h0:f≠0:=λe=>by subst e;rw[G.Fq]at j;omega
  let⟨v,O⟩:=i.up f sb h0
  exact⟨_,by omega,c,I f,rfl,rfl,rfl,rfl,rfl,rfl,sa,v,p,(tf.up h0 (.refl _)).trans q,λx r s=>⟨by simp_all,i.zfn sb sa j (by simp_all) (by simp_all)⟩⟩
theorem RG(g:Good u)(H0:ej F h cs)(hu:EZ F h u vv vb vs)
  (H:∀F' h' v Gl I seen post (G:No u.blocks.length (next u) seen post []),Sn F h F' h'->ej F' h' cs->hD eZ F' h' Gl v->Gl.length=u.blocks.length->Gl[0]? =some (-1)->(∀b,b≠0->b<u.blocks.length->Gl[b]? =some (I b:Int))->Tree G.gr I (λb=>b<u.blocks.length)->
   (∀x b,b<u.blocks.length->(tf I x b↔zJ (next u) x b))->Q v h'):cP CS yk [.agg (uC u vv vb vs)] h Q:=by
 refine NV ?_;have nb:=g.nb;have Xi:=g.Xi;refine oC H0 hu.one λr H1 s1=>?_;have lA:=H1.tj 0 rfl rfl;refine ec lA (ec lA ?_);refine M3 g H1 (hu.since s1) λF2 h2 vo seen post s2 H2 G r2=>⟨s2.next,H2.tj 0 rfl rfl,?_⟩
 refine US g H2 (hu.since (s1.trans s2)) λR W va s3 H3 r3=>⟨s3.next,?_⟩
 have u3:=hu.since ((s1.trans s2).trans s3);have r2:=r2.since s3;refine oF (H3.ld 0 rfl rfl) (ec u3.b.len ?_);rw[pG rfl (by decide) (by omega),gI];obtain⟨H4,s4⟩:=H3.make (E:=eZ) u.blocks.length rfl rfl;have n4:(W.new (.cells fN 1 true false (List.replicate u.blocks.length (V.I 0)))).next=W.next+1:=rfl;have g4:(W.new (.cells fN 1 true false (List.replicate u.blocks.length (V.I 0)))).get W.next=some (.cells 3 1 true false (List.replicate u.blocks.length (V.I 0))):=fh _ _;show oP (fJ 3 (.ptr h.next 0)) _;generalize bU:W.new (.cells fN 1 true false (List.replicate u.blocks.length (V.I 0)))=X at*;refine oF (H4.ld 1 rfl rfl) (ec (u3.since s4).b.len ?_);rw[pG rfl (by decide) (by omega),gI];obtain⟨H5,s5⟩:=H4.make (E:=eN) u.blocks.length rfl rfl;have n5:(X.new (.cells fN 1 true false (List.replicate u.blocks.length (V.I 0)))).next=X.next+1:=rfl;have g5:(X.new (.cells fN 1 true false (List.replicate u.blocks.length (V.I 0)))).get X.next=some (.cells 3 1 true false (List.replicate u.blocks.length (V.I 0))):=fh _ _;have a9:=(fi (.cells fN 1 true false (List.replicate u.blocks.length (V.I 0))) (by omega)).trans g4;generalize bV:X.new (.cells fN 1 true false (List.replicate u.blocks.length (V.I 0)))=h5 at*;rw[gI]
 let⟨H6,s6⟩:=H5.xC lF [V.ed]
 have n6:(h5.new (.cells lF 1 true false [V.ed])).next=h5.next+1:=rfl;have g6:(h5.new (.cells lF 1 true false [V.ed])).get h5.next=some (.cells 22 1 true false [V.ed]):=fh _ _;have ba:=(fi (.cells lF 1 true false [V.ed]) (by omega)).trans g5;have bb:=(fi (.cells lF 1 true false [V.ed]) (by omega)).trans a9;show uj _ (h5.new (.cells lF 1 true false [V.ed])) _;generalize bW:h5.new (.cells lF 1 true false [V.ed])=h6 at*;rw[gI]
 let⟨H7,s7⟩:=H6.xC lF [V.ed]
 have g7:(h6.new (.cells lF 1 true false [V.ed])).get h6.next=some (.cells 22 1 true false [V.ed]):=fh _ _;have bc:=(fi (.cells lF 1 true false [V.ed]) (by omega)).trans g6;have aG:=(fi (.cells lF 1 true false [V.ed]) (by omega)).trans ba;have bd:=(fi (.cells lF 1 true false [V.ed]) (by omega)).trans bb;show(((h6.new (.cells lF 1 true false [V.ed])).get h6.next=_/\_)/\_);generalize bX:h6.new (.cells lF 1 true false [V.ed])=h7 at*;refine⟨⟨g7,O.jS _ _ _ _ _⟩,⟨bc,O.jS _ _ _ _ _⟩,⟨aG,O.jS _ _ _ _ _⟩,H7.ld 4 rfl rfl,⟨bd,O.jS _ _ _ _ _⟩,H7.ld 4 rfl rfl,?_⟩
 let⟨h8,e8,n8,H8,s8,k8⟩:=H7.stk 1 (o:=0) (u:= .slice W.next 0 u.blocks.length) rfl (by simp) rfl
 rw[e8,eh];refine⟨n8,⟨(k8 _ (by omega)).trans aG,O.jS _ _ _ _ _⟩,(by simp[ DR]at H8;exact H8.ld 4 rfl rfl),?_⟩;simp[ DR]at H8
 let⟨h9,e9,n9,H9,s9⟩:=H8.st 0 (o:=0) (u:= .slice X.next 0 u.blocks.length) rfl (by simp) rfl
 rw[e9,eh];refine⟨n9,?_⟩;simp[DR]at H9;have aq:=((((s4.trans s5).trans s6).trans s7).trans s8).trans s9;have be:=((s1.trans s2).trans s3).trans aq;have r2:=r2.since aq;have r3:=r3.since aq;generalize V.slice W.next 0 u.blocks.length=vi at*;generalize V.slice X.next 0 u.blocks.length=vp at*;generalize h6.next=l6 at*;generalize h5.next=T at*;generalize h.next=lb at*;have aH:=H9.len 3 rfl;rw[wBM]at aH;refine ec (H9.ld 1 rfl rfl) (ec aH ?_);have bf:=Mw g G;have Y:post.reverse.length=u.blocks.length:=by simpa using bf
 refine JS (λk w x4 L x6 aI aJ h'=>∃(i:Nat) (xs:List Int),w=vo/\x4=va/\L = .ptr T 0/\x6 = .ptr l6 0/\aI = .I u.blocks.length/\aJ = .I i/\i+k=u.blocks.length/\xs.length=u.blocks.length/\(∀j,j<i->xs[j]? =some (-1))/\
  Sn R h9 R h'/\ej R h' (eD l6 lF [vp]::eD T lF [vi]::ft eN fN (List.replicate u.blocks.length 0) vp::ft eZ fN xs vi::eD lb 34 (uC u vv vb vs)::cs)) ?_ (k:=u.blocks.length)
  ⟨0,_,rfl,rfl,rfl,rfl,rfl,rfl,by omega,by simp,λj hj=>by omega,Sn.refl _ _,H9⟩
 rintro k w x4 L x6 aI aJ bY ⟨i,xs,e3,e4,rfl,rfl,rfl,rfl,hk,aK,hm,aL,aM⟩;subst w x4;unfold uu;by_cases hi:i<u.blocks.length
 ·refine gy ?_;obtain⟨bZ,b1,b2,bg,bi,b3,aN,bj⟩:=aM.M7 3 rfl (k:=i) (by omega) rfl rfl rfl;refine ec (aM.ld 1 rfl rfl) (ec bg ?_);rw[bi,eh];simp[M8,DR]at aN;refine fG ⟨k-1,by omega,i+1,xs.set i (-1),rfl,rfl,rfl,rfl,rfl,rfl,by omega,by simp[aK],λj hj=>?_,aL.trans bj,aN⟩
  grind
 refine iA ?_;obtain rfl:i=u.blocks.length:=by omega
 have lo:=(r2.since aL).len;rw[Y]at lo;refine ec lo ?_
 refine JW (λk w x4 L x6 ar aO aP h'=>∃i pl,w=vo/\x4=va/\L = .ptr T 0/\x6 = .ptr l6 0/\ar=vo/\aO = .I u.blocks.length/\aP = .I (i:Nat)/\i+k=u.blocks.length/\pl.length=u.blocks.length/\(∀j b,j<i->post.reverse[j]? =some b->pl[b]? =some j)/\
  Sn R h9 R h'/\ej R h' (eD l6 lF [vp]::eD T lF [vi]::ft eN fN pl vp::ft eZ fN xs vi::eD lb 34 (uC u vv vb vs)::cs)) ?_ (k:=u.blocks.length)
  (by grind)
 rintro k1 w x4 L x6 ar aO aP b4 ⟨i,pl,e3,e4,rfl,rfl,b5,rfl,rfl,b6,aQ,bm,ah,ai⟩;subst w x4 ar;unfold ui;by_cases hi:i<u.blocks.length
 ·refine gy ?_;obtain⟨b,n⟩:∃b,post.reverse[i]? =some b:=⟨_,hZ (by omega)⟩
  have aj:b<u.blocks.length:=G.pre b (wA7.1 (yN n))
  let⟨b7,b8,_,j1,j2⟩:=(r2.since ah).nat n .i64
  obtain⟨b9,ca,cb,bo,au,cd,aR,br⟩:=ai.M7 2 rfl (k:=b) (by omega) rfl rfl rfl;refine ec j1 (ec j2 (ec (ai.ld 0 rfl rfl) (ec bo ?_)));rw[au,eh];simp[M8,DR]at aR;refine fG ⟨k1-1,by omega,i+1,pl.set b i,rfl,rfl,rfl,rfl,rfl,rfl,rfl,by omega,by simp[aQ],λj c hj hc=>?_,ah.trans br,aR⟩;by_cases e:c=b
  ·subst e;have r:=Qy G n;have h2:=Qy G hc;obtain rfl:i=j:=by omega
   rw[Tt (by omega)]
  grind
 refine iA ?_;obtain rfl:i=u.blocks.length:=by omega
 have ak:∀b,G.gr.node b->pl[b]? =some (G.gr.place b):=λb n=>by
  have r:=XL post.reverse b (wA7.2 n);exact bm (post.reverse.idxOf b) b (by have:=(ke.1 r).1;omega) r
 have lo:=(r2.since ah).len;rw[Y]at lo;refine ec lo (fx (kw ?_));obtain⟨ce,cf,cg,au,bt,ci,aS,bu⟩:=ai.M7 3 rfl (k:=0) (by omega) rfl rfl rfl;refine ec (ai.ld 1 rfl rfl) (ec au ?_);rw[bt,eh];simp[M8,DR]at aS;have bw:Y1 (λx=>x=0) (λ_=>0) u.blocks.length (xs.set 0 0):=⟨by simp[aK],λb n=>by rw[n,Tt (by omega)];rfl,by grind⟩
 have f:∀b,G.gr.node b↔b<u.blocks.length:=λb=>⟨λn=>G.pre b n,λn=>LV g G b n⟩
 have am:∀b,G.gr.node b->G.gr.place b<u.blocks.length:=λb n=>by
  have r:=XL post.reverse b (wA7.2 n);have:=(ke.1 r).1;show post.reverse.idxOf b<_;omega
 have aT:∀p,p<u.blocks.length->∃b,G.gr.node b/\G.gr.place b=p:=by grind
 refine JN (λk w x4 L B C h'=>∃c kk I S Gl,w=vo/\x4=va/\L = .ptr T 0/\B = .func j7 [] [.ptr l6 0,.ptr T 0]/\C = .bool c/\k+kk=u.blocks.length+2/\(c=true->kk<=u.blocks.length+1)/\
  (c=false->(∀b,G.gr.node b->S b)/\∀b,G.gr.node b->b≠0->zew G.gr I S b)/\Dm.Inv G.gr I S kk 1/\Y1 S I u.blocks.length Gl/\
  Sn R h9 R h'/\ej R h' (eD l6 lF [vp]::eD T lF [vi]::ft eN fN pl vp::ft eZ fN Gl vi::eD lb 34 (uC u vv vb vs)::cs)) ?_ (k:=u.blocks.length+1)
  ⟨true,1,λ_=>0,λx=>x=0,_,rfl,rfl,rfl,rfl,rfl,by omega,λ_=>by omega,λh=>(by cases h),Dm.Inv.start,bw,ah.trans bu,aS⟩
 rintro k2 w x4 L B C cj ⟨c,kk,I,S,Gl,e3,e4,rfl,rfl,rfl,cm,bx,bz,hI,hR,al,aw⟩;subst w x4;unfold uv
 cases c with
 | false=>
   refine fX (fH (by simp) ?_)
   let⟨hS,hF⟩:=bz rfl
   have aU:=WH hI hS hF am aT (u.blocks.length+1);obtain⟨co,cp,ax,bA,bC,cq,q,D⟩:=aw.M7 3 rfl (k:=0) (by rw[hR.len];omega) rfl rfl rfl;refine ec (aw.ld 1 rfl rfl) (ec bA ?_);rw[bC,eh];simp[M8,DR]at q;refine ec (q.ld 1 rfl rfl) ?_
   let⟨aV,bD,bE⟩:=q.hY 3 rfl
   simp[M8,DR]at aV;refine H _ _ vi (Gl.set 0 (-1)) I seen post G (((be.trans al).trans D).trans bD) aV.tail.tail.tail.tail.tail bE (by simp[hR.len]) (by rw[Tt (by rw[hR.len];omega)]) (λb h0 n=>?_) ⟨by omega,λb n=>(f b).2 n,λb n h0=>?_⟩ λx b n=>?_
   ·rw[VL λh=>h0 h.symm]
    exact hR.yes b (hS b ((f b).2 n))
   ·let⟨r,h2⟩:=hI.tree.up b (hS b ((f b).2 n)) h0
    exact⟨(f _).1 (hI.tree.node _ r),h2⟩
   ·rw[aU.exact (λb n=>(f b).1 n) (by omega) (hS b ((f b).2 n))]
    exact(zbq λa b=>Iff.rfl).symm
 | true =>
   refine fX (fO rfl ?_);have cr:=bx rfl;obtain⟨ay,bG,az⟩:=(r2.since al).cut (m:=1) (S4 _ _ _) (OF _) (by omega) (jJ _);rw[PG]at az;refine ec bG (ec az.len ?_);have aW:(post.reverse.drop 1).length=u.blocks.length-1:=by rw[wBn,Y]
   rw[aW]
   refine J8 (λk w x4 L B C J Z aa h'=>∃i c I S Gl,w=vo/\x4=va/\L = .ptr T 0/\B = .func j7 [] [.ptr l6 0,.ptr T 0]/\C = .bool c/\J=ay/\Z = .I ((u.blocks.length-1:Nat):Int)/\aa = .I (i:Nat)/\i+k=u.blocks.length-1/\
     (c=true->kk<=u.blocks.length)/\(c=false->∀b,G.gr.node b->G.gr.place b<i+1->S b/\(b≠0->zew G.gr I S b))/\Dm.Inv G.gr I S kk (i+1)/\Y1 S I u.blocks.length Gl/\
     Sn R h9 R h'/\ej R h' (eD l6 lF [vp]::eD T lF [vi]::ft eN fN pl vp::ft eZ fN Gl vi::eD lb 34 (uC u vv vb vs)::cs)) ?_ (k:=u.blocks.length-1)
     ⟨0,false,I,S,Gl,rfl,rfl,rfl,rfl,rfl,rfl,rfl,rfl,by omega,λh=>(by cases h),λ_ b n bH=>by
       obtain rfl:b=0:=G.gr.inj b 0 n G.gr.first (by have:=G.gr.Fq;omega);exact⟨hI.tree.zero,λh=>absurd rfl h⟩,hI,hR,al,aw⟩
   rintro k3 w x4 L B C J Z aa ax ⟨i,c,M,A,N,e3,e4,rfl,rfl,rfl,aX,rfl,rfl,ct,aY,bI,ab,s,D,q⟩;subst w x4 J;unfold ur;by_cases hi:i<u.blocks.length-1;rotate_left
   ·refine iA ?_
    obtain rfl:i=u.blocks.length-1:=by omega
    have hp:=ab.pass λb n=>by have:=am b n;omega
    refine⟨k2-1,by omega,c,kk+1,M,A,N,rfl,rfl,rfl,rfl,rfl,by omega,λh=>by have:=aY h;omega,λh=>?_,hp,s,D,q⟩
    simp_all
   refine gy ?_;obtain⟨b,n⟩:∃b,post.reverse[i+1]? =some b:=⟨_,hZ (by omega)⟩
   have ac:G.gr.node b:=wA7.1 (yN n);have aj:=(f b).1 ac;have aA:G.gr.place b=i+1:=Qy G n;have aB:b≠0:=λe=>by subst e;rw[G.gr.Fq]at aA;omega
   have aZ:hD eN R ax (post.reverse.drop 1) ay:=az.fy λl hl=>(D.fy l hl).trans (al.fy l hl).symm;obtain⟨cv,cw,_,j1,j2⟩:=aZ.nat (by rw[wBc,Nat.add_comm];exact n) .i64
   let⟨cx,cy,bJ,_,m1,m2,m3⟩:=(r3.since D).list (i:=b) (x:=Un.ahead u b) (by simp[aj]) .i64
   refine ec j1 (ec j2 (ec m1 (ec m2 (ec m3.len ?_))));have ad:∀p,G.gr.B7 p b↔p∈Un.ahead u b:=λp=>mK.symm;have cz:(Un.ahead u b).length<=700:=by
     rw[<-sI];have:=sM g (j:=0) (b:=b) (jJ _) (by omega);omega
   refine Kc (λk w x4 L B C gL jd J Z aa aC a0 a1 h'=>∃j dd,w=vo/\x4=va/\L = .ptr T 0/\B = .func j7 [] [.ptr l6 0,.ptr T 0]/\C = .bool c/\gL = .I (b:Nat)/\jd = .I dd/\J=ay/\Z = .I ((u.blocks.length-1:Nat):Int)/\aa = .I (i:Nat)/\
     aC=bJ/\a0 = .I ((Un.ahead u b).length:Nat)/\a1 = .I (j:Nat)/\j+k=(Un.ahead u b).length/\h' = ax/\
     ((dd = -1/\∀p∈(Un.ahead u b).take j,¬A p)\/∃d:Nat,dd=(d:Int)/\A d/\(∀p∈(Un.ahead u b).take j,A p->tf M d p)/\∀x,(∀p∈(Un.ahead u b).take j,A p->tf M x p)->tf M x d)) ?_ (k:=(Un.ahead u b).length)
     ⟨0,-1,rfl,rfl,rfl,rfl,rfl,rfl,rfl,rfl,rfl,rfl,rfl,rfl,rfl,by omega,rfl,.inl ⟨rfl,λp hp=>by simp at hp⟩⟩
   rintro k4 w x4 L B C gL jd J Z aa aC a0 a1 bK ⟨j,dd,e3,e4,rfl,rfl,rfl,rfl,rfl,aX,rfl,rfl,cA,rfl,rfl,cB,rfl,U⟩;subst w x4 J aC;unfold uh;by_cases hj:j<(Un.ahead u b).length
   ·refine gy ?_
    obtain⟨a,ha⟩:∃a,(Un.ahead u b)[j]? =some a:=⟨_,hZ hj⟩
    have a2:a<u.blocks.length:=by
      have:=mK.1 (yN ha);exact(g.KV this).1
    have bL:(Un.ahead u b).take (j+1)=(Un.ahead u b).take j++[a]:=by
      obtain⟨r,rfl⟩:=ke.1 ha;exact Ho r
    let⟨cC,cD,_,q1,q2⟩:=m3.nat ha .i64
    refine ec q1 (ec q2 (ec (q.ld 1 rfl rfl) ?_));have t:∀p,p∈(Un.ahead u b).take (j+1)↔p∈(Un.ahead u b).take j\/p=a:=λp=>by rw[bL];simp
    by_cases hS:A a;rotate_left
    ·let⟨aD,aE,t1,t2⟩:=q.BY 3 rfl (s.no a a2 hS) .i64
     refine ec t1 (ec t2 (gy ?_));refine rQ ?_;unfold lP;refine j9 (m:=1) (by omega) (by omega) ⟨k4-1,by omega,j+1,dd,rfl,rfl,rfl,rfl,rfl,rfl,rfl,rfl,rfl,rfl,rfl,rfl,rfl,by omega,rfl,?_⟩;have cE:∀{P:Nat->Prop},(∀p∈(Un.ahead u b).take (j+1),A p->P p)↔(∀p∈(Un.ahead u b).take j,A p->P p):=λ{P}=>⟨λh p hp=>h p ((t p).2 (.inl hp)),by grind⟩
     simp_all
    let⟨aD,aE,t1,t2⟩:=q.BY 3 rfl (s.yes a hS) .i64
    refine ec t1 (ec t2 (iA ?_));rcases U with⟨rfl,r⟩|⟨d,rfl,r,h2,W⟩
    ·refine gy ?_
     refine rQ ?_;unfold lP;refine j9 (m:=1) (by omega) (by omega) ⟨k4-1,by omega,j+1,(a:Int),rfl,rfl,rfl,rfl,rfl,rfl,rfl,rfl,rfl,rfl,rfl,rfl,rfl,by omega,rfl,?_⟩;refine .inr ⟨a,rfl,hS,λp hp hs=>?_,λx hx=>hx a ((t a).2 (.inr rfl)) hS⟩;rcases(t p).1 hp with X|rfl
     ·exact absurd hs (r p X)
     ·exact .refl _
    ·refine iA ?_
     show cP CS j7 [.I (d:Nat),.I (a:Nat),.ptr l6 0,.ptr T 0] bK _;refine zdW q (i5:=1) (i6:=0) (ii:=3) (ip:=2) rfl rfl rfl rfl ab.tree s ak r hS λd' g1 g2 g3 g4=>?_;refine rQ ?_;unfold lP;refine j9 (m:=1) (by omega) (by omega) ⟨k4-1,by omega,j+1,(d':Int),rfl,rfl,rfl,rfl,rfl,rfl,rfl,rfl,rfl,rfl,rfl,rfl,rfl,by omega,rfl,?_⟩;refine .inr ⟨d',rfl,g1,λp hp hs=>?_,λx hx=>g4 x (W x λp hp hs=>hx p ((t p).2 (.inl hp)) hs) (hx a ((t a).2 (.inr rfl)) hS)⟩;rcases(t p).1 hp with X|rfl
     ·exact g2.trans (h2 p X hs)
     ·exact g3
   refine iA ?_;rw[Xb (by omega)]at U
   let⟨p0,hp0n,hp0e,hp0l⟩:=G.gr.early b ac aB
   have a3:A p0:=ab.done p0 hp0n (by omega);obtain⟨d,rfl,cF,aF,a4⟩:∃d:Nat,dd=(d:Int)/\A d/\(∀p∈Un.ahead u b,A p->tf M d p)/\∀x,(∀p∈Un.ahead u b,A p->tf M x p)->tf M x d:=by
     rcases U with⟨_,r⟩|r
     ·exact absurd a3 (r p0 ((ad p0).1 hp0e))
     ·exact r
   have ae:∀p,A p->G.gr.B7 p b->tf M d p:=λp hs he=>aF p ((ad p).1 he) hs;have z:∀x,(∀p,A p->G.gr.B7 p b->tf M x p)->tf M x d:=by simp_all
   have a5:i<1000000000:=by clear U;omega
   have an:k3-1<k3:=by clear U;omega
   have ao:i+1+(k3-1)=u.blocks.length-1:=by clear U;omega
   have ag:=(ab.Lm ac aB aA ae z).1;refine ec (q.ld 1 rfl rfl) ?_;by_cases hsame:A b/\M b=d
   ·obtain ⟨K,rfl⟩:=hsame
    let⟨aD,aE,t1,t2⟩:=q.BY 3 rfl (s.yes b K) .i64
    refine ec t1 (ec t2 (xh (fO rfl ?_)));refine zd ?_;unfold oh;rw[Ve,ZH K]at ag;refine j9 a5 (by decide) ⟨k3-1,an,i+1,c,M,A,N,rfl,rfl,rfl,rfl,rfl,rfl,rfl,rfl,ao,aY,λhc b' a6 bH=>?_,ag,s,D,q⟩;rcases Sf (G.gr.place b') (i+1)with r|r
    ·exact bI hc b' a6 r
    ·obtain rfl:b' = b:=G.gr.inj _ _ a6 ac (by omega)
     exact⟨K,λ_=>⟨ae,z⟩⟩
   ·obtain ⟨y,hy,a7⟩:∃y,N[b]? =some y/\y≠(d:Int):=by
      by_cases K:A b
      ·refine⟨(M b:Int),s.yes b K,λe=>hsame ⟨K,?_⟩⟩
       exact Int.ofNat.inj e
      ·refine⟨-1,s.no b aj K,?_⟩
       omega
    let⟨aD,aE,t1,t2⟩:=q.BY 3 rfl hy .i64
    refine ec t1 (ec t2 (xh (fH a7 ?_)));obtain⟨cG,cH,cI,bQ,bR,cJ,a8,bS⟩:=q.M7 3 rfl (by rw[s.len];exact aj) rfl rfl rfl;refine ec (q.ld 1 rfl rfl) (ec bQ ?_);rw[bR,eh];simp[M8,DR]at a8;refine zd ?_;unfold oh;refine j9 a5 (by decide) ⟨k3-1,an,i+1,true,Dm.set M b d,λx=>A x\/x=b,N.set b (d:Int),rfl,rfl,rfl,rfl,rfl,rfl,rfl,rfl,ao,λ_=>?_,λh=>(by cases h),ag,⟨by simp[s.len],λx hx=>?_,λx hx hn=>?_⟩,D.trans bS,a8⟩
    ·rcases Sf u.blocks.length kk with r|r
     ·exfalso
      let⟨h2,W⟩:=ab.stay (λb n=>(f b).1 n) r ac aB aA ae z
      exact hsame ⟨h2,W.symm⟩
     ·exact r
    ·unfold Dm.set
     by_cases e:x=b
     ·grind
     ·rw[VL λh=>e h.symm,if_neg e]
      exact s.yes x (hx.resolve_right e)
    ·have e:x≠b:=λe=>hn (.inr e)
     rw[VL λh=>e h.symm];exact s.no x hx λh=>hn (.inl h)
structure zhO (u:U) (Gl:List Int) (I:Nat->Nat):Prop where
 len:Gl.length=u.blocks.length
 zero:Gl[0]? =some (-1)
 at_:∀b,b≠0->b<u.blocks.length->Gl[b]? =some (I b:Int)
 zhI:∃r:Nat->Nat,∀b,b<u.blocks.length->b≠0->I b<u.blocks.length/\r (I b)<r b
 iff:∀x b,b<u.blocks.length->(tf I x b↔zJ (next u) x b)
variable{lc:Nat}{bl pl Jf:V}{xs ys Gl:List Int}{I:Nat->Nat}
structure Cx (F:Nat->Prop) (h:Hp) (cs:List Pc) (lc:Nat) (u:U) (vv vb vs bl pl Jf:V) (xs ys Gl:List Int) (I:Nat->Nat):Prop where
 ck:Ck F h cs lc u vv vb vs bl pl Jf
 rbl:hD eZ F h xs bl
 rpl:hD eZ F h ys pl
 rim:hD eZ F h Gl Jf
 std:Std u u.blocks.length 0 xs ys
 Zd:zhO u Gl I
theorem Cx.since(C:Cx F h cs lc u vv vb vs bl pl Jf xs ys Gl I)(s:Sn F h F' h')(a:ej F' h' cs):Cx F' h' cs lc u vv vb vs bl pl Jf xs ys Gl I:=⟨C.ck.since s a,C.rbl.since s,C.rpl.since s,C.rim.since s,C.std,C.Zd⟩
theorem Cx.cons(C:Cx F h cs lc u vv vb vs bl pl Jf xs ys Gl I)(s:Sn F h F' h'){p:Pc}(a:ej F' h' (p::cs)):Cx F' h' (p::cs) lc u vv vb vs bl pl Jf xs ys Gl I:=⟨C.ck.cons s a,C.rbl.since s,C.rpl.since s,C.rim.since s,C.std,C.Zd⟩
theorem Ti(C:Cx F h cs lc u vv vb vs bl pl Jf xs ys Gl I){a b:Nat}(p:b<u.blocks.length)(q:tf I a b)(H:Q (.bool true) h):cP CS po [.ptr lc 0,.I a,.I b] h Q:=by
 refine Ew ?_
 let⟨r,hr⟩:=C.Zd.zhI
 refine Br (λk g i j h'=>∃c,g = .ptr lc 0/\i = .I a/\j = .I (c:Nat)/\k=r c/\c<u.blocks.length/\tf I a c/\h' = h) ?_ (k:=r b) (by grind);rintro k g i j h' ⟨c,rfl,rfl,rfl,s,d,f,rfl⟩;unfold mX;refine MG (io ?_);by_cases e:a=c
 ·exact fx (io H)
 refine fx (kw ?_)
 cases f with
 |refl=>omega
 | up h0 t=>
   let⟨l,o,_,m,n⟩:=C.rim.int (C.Zd.at_ c h0 d) .i64
   let⟨r1,r2⟩:=hr c d h0
   exact ec (eC _ _) (ec (by rfl) (ec (C.ck.ld 7 rfl) (ec m (ec n (by grind)))))
theorem LQ(C:Cx F h cs lc u vv vb vs bl pl Jf xs ys Gl I){l:List Nat}{v:V}{b p:Nat}(hl:hD eN F h l v)(R:l.length<1000000)(x:b<u.blocks.length)(hs:∀w∈l,∃c j,At u w c j/\(c=b->j<p)/\zJ (next u) c b)(H:Q (.bool true) h) :
  cP CS j6 [.ptr lc 0,v,.I b,.I p] h Q:=by
 refine Lh ?_;refine ec hl.len ?_;refine G8 (λk y z A a d gL h'=>∃i,y = .ptr lc 0/\z = .I b/\A = .I p/\a=v/\d = .I l.length/\gL = .I (i:Nat)/\i+k=l.length/\h' = h) ?_ (k:=l.length) (by simp_all);rintro k y z A a d gL h' ⟨i,rfl,rfl,rfl,rfl,rfl,rfl,S,rfl⟩;unfold qX;by_cases hi:i<l.length;rotate_left
 ·exact iA H
 refine gy ?_
 let⟨c,j,hat,hcj,hdom⟩:=hs _ (AL hi)
 have f:c<u.blocks.length:=by
  let⟨B,T,_⟩:=hat
  exact by grind
 let⟨G,J⟩:=C.std.yes _ c j hat (.inl f)
 let⟨U,W,_,K,L⟩:=hl.nat (hZ hi) .i64
 let⟨X,o2,_,D,E⟩:=C.rbl.int G .i64
 let⟨Y,Z,_,M,N⟩:=C.rpl.int J .i64
 refine ec K (ec L (ec (eC _ _) (ec (by rfl) (ec (C.ck.ld 5 rfl) (ec D (ec E (ec (by rfl) ?_)))))));have e:iM (.bool (((c:Int)) == (b:Int))) (oB (some (V.ptr lc 0)) λg=>oB (fR g) λm=>oB (fJ 6 m) λn=>oB (ez n h') λo=>oB (some (V.I (l[i]:Nat))) λq=>oB (gM 1 o q) λr=>oB (ez r h') λs=>oB (some (V.I p)) λt=>ef .geq 3 s t)=some (.bool false):=by
  have O:=C.ck.ld 6 rfl;simp only[eQ,eC,fo,O,M,N,jK,iT];congr 2;rw[wB0];intro P;simp[yF,Ey,yU]at P;have:=by omega
  omega
 refine ec e ?_;refine fY (ec rfl (fY (ec rfl (fY (ec (eC _ _) (fY (ec (by rfl) (fY (ec (C.ck.ld 5 rfl) (fY (ec rfl (fY (ec D (fY (ec E (fY (ec rfl (qC ?_))))))))))))))))));refine Ti C x ((C.Zd.iff c b x).2 hdom) (ec rfl (fX (fH (by simp) ?_)));exact fG ⟨k-1,by omega,i+1,rfl,rfl,rfl,rfl,rfl,rfl,by omega,rfl⟩
theorem M1(C:Cx F h cs lc u vv vb vs bl pl Jf xs ys Gl I){s b p:Nat}{fs:List Fm}(m:u.eE[s]? =some fs)(x:fs.length<=30/\∀f∈fs,f.locals.length<=40/\f.stack.length<=60)(n:b<u.blocks.length)
  (hs:∀w∈gB fs,∃c j,At u w c j/\(c=b->j<p)/\zJ (next u) c b) (H:∀h',Sn F h F h'->ej F h' cs->Q (.bool true) h') :
  cP CS ka [.ptr lc 0,.I s,.I b,.I p] h Q:=by
 refine El ?_
 let⟨G,J,f,_,y,_,z,o⟩:=C.ck.u.st m
 refine ec (eC _ _) (ec (by rfl) (ec (by rfl) (ec (C.ck.ld 4 rfl) (ec y (ec (by rfl) (ec z (ec o.len ?_)))))))
 refine Bg (λk q r t d e g h'=>∃j,q = .ptr lc 0/\r = .I b/\t = .I p/\d=f/\e = .I fs.length/\g = .I (j:Nat)/\j+k=fs.length/\Sn F h F h'/\ej F h' cs) ?_ (k:=fs.length)
  ⟨0,rfl,rfl,rfl,rfl,rfl,rfl,by omega,Sn.refl _ _,C.ck.H⟩
 rintro k q r t d e g A ⟨j,rfl,rfl,rfl,rfl,rfl,rfl,K,s1,v⟩;unfold mZ;by_cases hj:j<fs.length;rotate_left
 ·exact iA (H A s1 v)
 refine gy ?_
 let⟨L,M,a,c,_,B,D,ja,jb⟩:=(o.since s1).qJ (hZ hj)
 let⟨f1,f2⟩:=x.2 _ (AL hj)
 have E:∀w,w∈fs[j].locals\/w∈fs[j].stack->w∈gB fs:=by grind[gB,AL]
 refine ec B (ec D ?_);refine jX v rfl rfl (by simp only[fmC,fe,ja.one,jb.one];rfl) λN i l=>?_;have C2:=C.since (s1.trans l) i.tail;refine ec (by rfl) (ec (i.ld 0 rfl rfl) ?_);refine LQ C2 (ja.since l) (by omega) n (by simp_all) (ec rfl ?_);refine fY (ec rfl (fY (ec (by rfl) (fY (ec (i.ld 0 rfl rfl) (fY (ec rfl (fY (ec rfl (qC ?_))))))))));refine LQ C2 (jb.since l) (by omega) n (by simp_all) (ec rfl (fX (fH (by simp) ?_)));exact fG ⟨k-1,by omega,j+1,rfl,rfl,rfl,rfl,rfl,rfl,by omega,s1.trans l,i.tail⟩
theorem Y4{w b k:Nat}(h:zaH u w b k):∃c j,At u w c j/\(c=b->j<k)/\zJ (next u) c b:=by
 let⟨c,j,d,a⟩:=h
 rcases a with⟨rfl,a⟩|⟨a,e⟩
 ·grind[zJ.self]
 grind
theorem K9{w b:Nat}{B:Bk}(f:u.blocks[b]? =some B)(h:Mh u w b):∃c j,At u w c j/\(c=b->j<B.ee.length)/\zJ (next u) c b:=by
 let⟨c,j,a,d⟩:=h
 refine⟨c,j,a,λe=>?_,d⟩;subst e
 let⟨B',g,i⟩:=a
 grind
theorem zcH{lv:Nat}{x:Vl}{w:V}{A:V}{i k:Nat}(a:A = .ptr lc 0)(C:Cx F h (eD lv Ay (yM x w)::cs) lc u vv vb vs bl pl Jf xs ys Gl I)(hc:lv≠lc)(D:ez (.ptr lv 5) h=some (.I x.state))(E:i<u.blocks.length)
  (hl:leaves x.op=true->∃fs,u.eE[x.state]? =some fs/\(fs.length<=30/\∀f∈fs,f.locals.length<=40/\f.stack.length<=60)/\∀w∈gB fs,∃c j,At u w c j/\(c=i->j<k)/\zJ (next u) c i) {K:fj}
  (B:∀h',Sn F h F h'->ej F h' (eD lv Ay (yM x w)::cs)->K (.bool false) h') :
  oP (gD true (.bool (leaves x.op))) λb=>
  oP (gV b (some A)) λd=>
  oP (gD true (.bool (leaves x.op))) λe=>
  oP (gV e (fJ 5 (.ptr lv 0))) λg=>
  oP (gD true (.bool (leaves x.op))) λl=>
  oP (gV l (ez g h)) λm=>
  oP (gD true (.bool (leaves x.op))) λn=>
  oP (gV n (some (.I i))) λo=>
  oP (gD true (.bool (leaves x.op))) λp=>
  oP (gV p (some (.I k))) λq=>
  oP (gD true (.bool (leaves x.op))) λr=>
  oP (gC r (some (ka,[d,m,o,q]))) λs=>zL CS s h λt G=>
  oP (gD true (.bool (leaves x.op))) λv=>
  oP (gV v (wI .not t)) λy=>
  oP (mi (.bool false) (yP (.bool (leaves x.op)) y (V.bool false))) λz=>K z G:=by
 subst a
 cases hq:leaves x.op with
 | true=>
   let⟨fs,J,L,M⟩:=hl hq
   refine gY (ec rfl (gY (ec (by rfl) (gY (ec D (gY (ec rfl (gY (ec rfl (Ci ?_))))))))))
   refine M1 C J L E M λh' s' N=>gY (ec rfl (ec rfl (B h' s' N)))
 |false=>exact sX (sX (sX (sX (sX (zb6 (sX (ec rfl (B h (Sn.refl _ _) C.ck.H))))))))
theorem zcC(g:Good u)(C:Cx F h cs lc u vv vb vs bl pl Jf xs ys Gl I)(ae:lc<h.next){i:Nat}{B:Bk}(d:u.blocks[i]? =some B)(H:∀F' h',Sn F h F' h'->ej F' h' cs->Q (.bool true) h'):cP CS pj [.ptr lc 0,.I i] h Q:=by
 refine Kf ?_;have nv:=g.nv;have nb:=g.nb;have q:i<u.blocks.length:=by grind
 have ag:∀s (fs:List Fm),u.eE[s]? =some fs->fs.length<=30/\∀f∈fs,f.locals.length<=40/\f.stack.length<=60:=λs fs a=>by
  let⟨_,h2,h3⟩:=g.st s fs a
  simp_all
 have ah:B.ee.length<=3000:=by
  have:=qG u.ee.length B.ee (FZ g d) λv hv=>by
   let⟨k,hk⟩:=mz.1 hv
   exact g.uP v i k ⟨B,d,hk⟩
  omega
 let⟨l7,o7,bv,bn,bp,_,i1,i2,L,iN,ip,_⟩:=C.ck.u.B8 d
 refine ec (eC _ _) (ec (by rfl) (ec (by rfl) (ec (C.ck.ld 3 rfl) (ec i1 (ec i2 ?_)))));refine jX C.ck.H rfl rfl (by simp only[pR,fe,L.one,iN.one,ip.one];rfl) λh2 Z M=>?_;have C2:=C.cons M Z;have L:=L.since M;have ip:=ip.since M;refine ec (by rfl) (ec (Z.ld 0 rfl rfl) (ec L.len (ec (by rfl) (ec (Z.ld 0 rfl rfl) (ec L.len ?_)))))
 refine Gj (λk O R S T c l n h'=>∃(F':Nat->Prop) (j:Nat),O = .ptr lc 0/\R = .I i/\S = .ptr h.next 0/\T = .I B.ee.length/\c=bv/\l = .I B.ee.length/\n = .I j/\j+k=B.ee.length/\
  Sn F h2 F' h'/\ej F' h' (eD h.next 79 (pR B bv bn bp)::cs)) ?_ (k:=B.ee.length) ⟨F,0,rfl,rfl,rfl,rfl,rfl,rfl,rfl,by omega,Sn.refl _ _,Z⟩
 rintro k O R S T c l n h3 ⟨F3,j,rfl,rfl,rfl,rfl,aa,rfl,rfl,hk,r,t⟩;subst c;unfold qj;have C3:=C2.since r t;by_cases hj:j<B.ee.length;rotate_left
 ·refine iA ?_;refine ec (by rfl) (ec (t.ld 0 rfl rfl) ?_);by_cases c2:B.fin=2
  ·refine fx (io ?_);refine ec (by rfl) (ec (t.ld 0 rfl rfl) ?_);refine za1 [B.cond] (F0 _) t λF4 h4 v o s4 r4=>?_;refine LQ (C3.since s4 o) r4 (by simp) q (λw hw=>?_) (H _ _ ((M.trans r).trans s4) o.tail);obtain rfl:=Hh.1 hw;exact K9 d (g.zbo i B d c2)
  refine fx (kw ?_);by_cases c3:B.fin=3
  ·refine fx (io ?_);refine ec (by rfl) (ec (t.ld 0 rfl rfl) ?_);have pO:B.state<u.eE.length:=by
    rcases g.fin i B d with⟨D,_⟩|⟨D,_⟩|⟨_,_,D⟩
    ·omega
    ·omega
    ·exact D
   obtain⟨fs,a⟩:∃fs,u.eE[B.state]? =some fs:=by simp_all
   refine M1 C3 a (by grind) q (λw hw=>K9 d (g.zbA i B fs d c3 a w hw)) λh4 s4 o=>H _ _ ((M.trans r).trans s4) o.tail
  ·exact fx (kw (H _ _ (M.trans r) t.tail))
 refine gy ?_;have e:At u (B.ee[j]) i j:=⟨B,d,hZ hj⟩
 have ai:=g.uP _ _ _ e;obtain⟨x,y⟩:∃x,u.ee[B.ee[j]]? =some x:=by simp_all
 have ab:B.fk.length<=700:=by
  rw[g.fk i B d,<-sI];have:=sM g (j:=0) (b:=i) (jJ _) (by omega);omega
 have ac:x.op=21\/x.op=20->x.args.length<=700:=by
  rintro(D|D)
  ·rw[(g.XS _ _ _ _ _ e y D d).2];exact ab
  ·rw[g.putAt _ x y D];omega
 let⟨l9,o9,_,j1,j2⟩:=(L.since r).nat (hZ hj) .i64
 let⟨aj,ak,w,_,q1,q2,iw,_⟩:=C3.ck.u.val y
 refine ec j1 (ec j2 (ec (eC _ _) (ec (by rfl) (ec (by rfl) (ec (C3.ck.ld 2 rfl) (ec q1 (ec q2 ?_)))))));refine jX t rfl rfl (by simp only[yM,fe,iw.one];rfl) λh4 o s4=>?_;have C4:=C3.cons s4 o;have E:=iw.since s4;have al:=(t.ok 0 _ rfl).2.1;refine ec (by rfl) (ec (o.ld 0 rfl rfl) ?_);by_cases G:x.op=21
 ·refine fx (io ?_);refine ec (by rfl) (ec (o.ld 0 rfl rfl) (ec E.len ?_));have am:=(g.XS _ _ _ _ _ e y G d).2
  refine Fx (λk O R S T c l n J U V h'=>∃F' m,O = .ptr lc 0/\R = .I i/\S = .ptr h.next 0/\T = .I B.ee.length/\c=bv/\l = .I B.ee.length/\n = .I j/\J=w/\U = .I x.args.length/\V = .I (m:Nat)/\m+k=x.args.length/\
   Sn F3 h4 F' h'/\ej F' h' (eD h3.next 81 (yM x w)::eD h.next 79 (pR B bv bn bp)::cs)) ?_ (k:=x.args.length) ⟨F3,0,rfl,rfl,rfl,rfl,rfl,rfl,rfl,rfl,rfl,rfl,by omega,Sn.refl _ _,o⟩
  rintro k2 O R S T c l n J U V h5 ⟨F5,m,rfl,rfl,rfl,rfl,aa,rfl,rfl,an,rfl,rfl,ao,A,K⟩;subst c J;unfold qw;have C5:=C4.since A K;by_cases hm:m<x.args.length;rotate_left
  ·refine iA ?_;refine vH ?_;unfold lZ;exact fG ⟨k-1,by omega,F5,j+1,rfl,rfl,rfl,rfl,rfl,rfl,rfl,by omega,(r.trans s4).trans A,K.tail⟩
  refine gy ?_
  let⟨aq,ar,hl11,m1,m2⟩:=(E.since A).nat (hZ hm) .i64
  refine ec m1 (ec m2 ?_);have au:m<B.fk.length:=by omega
  obtain⟨p,hp⟩:∃p,B.fk[m]? =some p:=by simp_all
  have ad:p<u.blocks.length:=by
   have:=yN hp;rw[g.fk i B d]at this;exact(g.KV (mK.1 this)).1
  obtain⟨P,hP⟩:∃P,u.blocks[p]? =some P:=by simp_all
  rw[F0,gI]
  let⟨N,W,r6⟩:=K.zaU fN rfl (BB F5 h5 [x.args[m]]) false
  have g6:(h5.new (.cells 3 1 true false (oY [x.args[m]]))).get h5.next=some (.cells 3 1 true false (oY [x.args[m]])):=fh _ _;have C6:=C5.since W N
  let⟨aw,ax,_,n1,n2⟩:=(((ip.since r).since s4).since (A.trans W)).nat hp .i64
  let⟨ay,az,pv,pn,pp,_,p1,_,pvr,_,_,pa⟩:=C6.ck.u.B8 hP
  refine ec (by rfl) (ec (N.ld 1 rfl rfl) (ec n1 (ec n2 (ec (eC _ _) (ec (by rfl) (ec (by rfl) (ec (C6.ck.ld 3 rfl) ?_)))))));refine ec (by rfl) (ec (N.ld 1 rfl rfl) (ec n1 (ec n2 (ec p1 (ec (by rfl) (ec pa.ee (ec pvr.len ⟨by simp_all,?_⟩)))))));refine LQ C6 r6 (by simp) ad (λz X=>?_) ⟨jJ _,py (fO rfl ?_)⟩
  ·obtain rfl:=Hh.1 X;exact K9 hP (g.zcM _ i j x B e y G d m _ p (by simp_all) hp)
  ·exact fG ⟨k2-1,by omega,_,m+1,rfl,rfl,rfl,rfl,rfl,rfl,rfl,rfl,rfl,rfl,by omega,A.trans W,N⟩
 refine fx (kw ?_);refine ec (o.tj 0 rfl rfl) ?_;refine Uk o E (by omega) λF5 h5 v A K r5=>?_;have C5:=C4.since A K;refine LQ C5 r5 (by grind[QZ]) q (λz X=>Y4 (g.ZC _ i j x e y G z X)) (ec rfl ?_);refine fY (ec (by rfl) (fY (ec (K.ld 0 rfl rfl) (qC ?_))));refine RT (fY (ec rfl ?_));refine zcH rfl C5 (by omega) (K.ld 0 rfl rfl) q (λY=>?_) λh6 W N=>?_
 ·have pO:=g.leave _ x y Y;obtain⟨fs,a⟩:∃fs,u.eE[x.state]? =some fs:=by simp_all
  exact⟨fs,a,by grind,λz X=>Y4 (g.Zq _ i j x fs e y Y a z X)⟩
 ·refine fX (fH (by simp) ?_);refine vH ?_;unfold lZ;exact fG ⟨k-1,by omega,F5,j+1,rfl,rfl,rfl,rfl,rfl,rfl,rfl,by omega,((r.trans s4).trans A).trans W,N.tail⟩
theorem QW(g:Good u)(H0:ej F h cs)(hu:EZ F h u vv vb vs)(H:∀F' h',Sn F h F' h'->ej F' h' cs->Q (.bool true) h'):cP CS zz [.agg (uC u vv vb vs)] h Q:=by
 refine V9 ?_;have nv:=g.nv;have nb:=g.nb;have Xi:=g.Xi;have ns:=g.ns;refine oC H0 hu.one λx A s1=>?_;have r:=hu.since s1;have K:ez (.ptr h.next (0+2)) x=some vv:=A.ld 0 rfl rfl;have z:ez (.ptr h.next (0+3)) x=some vb:=A.ld 0 rfl rfl;have L:ez (.ptr h.next (0+4)) x=some vs:=A.ld 0 rfl rfl;refine oF K (ec r.v.len (ec (jr _ _ _ _) ?_));rw[LI (by omega)];have e1:mi (.bool false) (oB (fJ 3 (.ptr h.next 0)) λf=>oB (ez f x) λj=>oB (fE j) λk=>ef .gtr 3 k (V.I 300))=some (.bool false):=by
  simp only[qK,fo,eQ,z,r.b.len,jr];rw[LI (by omega)]
 have e2:mi (.bool false) (oB (fJ 4 (.ptr h.next 0)) λf=>oB (ez f x) λj=>oB (fE j) λk=>ef .gtr 3 k (V.I 1000))=some (.bool false):=by
  simp only[qK,fo,eQ,L,r.s.len,jr];rw[LI (by omega)]
 have e3:mi (.bool false) (oB (fJ 3 (.ptr h.next 0)) λf=>oB (ez f x) λj=>oB (fE j) λk=>ef .eql 3 k (V.I 0))=some (.bool false):=by
  simp only[qK,fo,eQ,z,r.b.len,gS];congr 2;rw[Ym];omega
 refine ec e1 (ec e2 (ec e3 (fX (fH (by simp) ?_))));refine ec (A.tj 0 rfl rfl) (ec (rfl) ?_);refine oC A (by simp only[fe,r.v.one,r.b.one,r.s.one];rfl) λM N s2=>?_;have D:=r.since s2;generalize x.next=lc at*;have L:ez (.ptr h.next (0+4)) M=some vs:=N.ld 1 rfl rfl;refine oF L (ec D.s.len ?_);have C2:Ck F M (eD lc 139 [.I u.func,.I u.pc,vv,vb,vs,.ed,.ed,.ed]::eD h.next 34 (uC u vv vb vs)::cs) lc u vv vb vs .ed .ed .ed:=⟨N,⟨0,_,rfl⟩,D⟩
 refine Qd (by omega) (λF' h'=>F' = F/\Sn F M F h'/\ej F h' (eD lc 139 [.I u.func,.I u.pc,vv,vb,vs,.ed,.ed,.ed]::eD h.next 34 (uC u vv vb vs)::cs)) ⟨rfl,Sn.refl _ _,N⟩ (λi hi F' h' hP n p=>?_) λF3 h3 hP=>?_
 ·obtain⟨rfl,s',l⟩:=hP;show cP CS pb [.ptr lc 0,.I i] h' n;have hs:=hZ hi
  let⟨g1,g2,g3⟩:=g.st i _ hs
  exact zcD (C2.since s' l) hs ⟨g1,g2⟩ g3 λa c d=>p F' a ⟨rfl,s'.trans c,d⟩
 obtain⟨rfl,O,H3⟩:=hP;refine ec rfl (fY (ec rfl (qC ?_)));refine zb3 g H3 (D.since O) λF4 P t w xs ys s4 R rb rp std=>?_;refine ec rfl (fY (ec rfl ?_));have S:=(D.since O).since s4;have T:Ck F4 P (eD lc 139 [.I u.func,.I u.pc,vv,vb,vs,t,w,.ed]::eD h.next 34 (uC u vv vb vs)::cs) lc u vv vb vs t w .ed:=⟨R,⟨0,_,rfl⟩,S⟩
 have K:ez (.ptr h.next (0+2)) P=some vv:=R.ld 1 rfl rfl;refine fY (ec (fo _ _ _) (fY (ec K (fY (ec S.v.len (fY (ec rfl (fY (ec rfl (qC ?_))))))))));refine Qd (by omega) (λF' h'=>Sn F4 P F' h'/\ej F' h' (eD lc 139 [.I u.func,.I u.pc,vv,vb,vs,t,w,.ed]::eD h.next 34 (uC u vv vb vs)::cs)) ⟨Sn.refl _ _,R⟩ (λi hi F' h' hP n p=>?_) λF5 h5 hP=>?_
 ·let⟨s',l⟩:=hP
  show cP CS rj [.ptr lc 0,.I i] h' n;exact zgi g (T.since s' l) (rb.since s') std hi (l.ok 0 _ rfl).2.1 λe a c d=>p e a ⟨s'.trans c,d⟩
 let⟨E,J⟩:=hP
 have u5:=S.since E;have z:ez (.ptr h.next (0+3)) h5=some vb:=J.ld 1 rfl rfl;refine ec rfl (fY (ec rfl (fY (ec (fo _ _ _) (fY (ec z (fY (ec u5.b.len (fY (ec rfl (fY (ec rfl (qC ?_)))))))))))));refine Qd (by omega) (λF' h'=>Sn F5 h5 F' h'/\ej F' h' (eD lc 139 [.I u.func,.I u.pc,vv,vb,vs,t,w,.ed]::eD h.next 34 (uC u vv vb vs)::cs)) ⟨Sn.refl _ _,J⟩ (λi hi F' h' hP n p=>?_) λF6 h6 hP=>?_
 ·let⟨s',l⟩:=hP
  show cP CS qa [.ptr lc 0,.I i] h' n;exact zeT g ((T.since E J).since s' l) (hZ hi) λe a c d=>p e a ⟨s'.trans c,d⟩
 let⟨U,W⟩:=hP
 have u6:=u5.since U;have z:ez (.ptr h.next (0+3)) h6=some vb:=W.ld 1 rfl rfl;refine ec rfl (fY (ec rfl (fY (ec (fo _ _ _) (fY (ec z (fY (ec u6.b.len (fY (ec rfl (fY (ec rfl (qC ?_)))))))))))));refine Qd (by omega) (λF' h'=>Sn F6 h6 F' h'/\ej F' h' (eD lc 139 [.I u.func,.I u.pc,vv,vb,vs,t,w,.ed]::eD h.next 34 (uC u vv vb vs)::cs)) ⟨Sn.refl _ _,W⟩ (λi hi F' h' hP n p=>?_) λF7 h7 hP=>?_
 ·let⟨s',l⟩:=hP
  show cP CS rJ [.ptr lc 0,.I i] h' n;exact zfK g (((T.since E J).since U W).since s' l) (hZ hi) λe a c d=>p e a ⟨s'.trans c,d⟩
 let⟨s7,H7⟩:=hP
 have u7:=u6.since s7;refine ec rfl (fX (fH (by simp) ?_));refine JX ?_;have lA:fZ 5 (.ptr lc 0) h7=some (.agg (uC u vv vb vs)):=by
  rw[zy (H7.get 0 rfl),I4 (by simp)];rfl
 refine ec (eC _ _) (ec (fo _ _ _) (ec lA ?_));refine M3 g H7 u7 λF8 h8 vo seen post s8 X G ro=>?_;have Y:=u7.since s8;have lo:=ro.len;rw[List.length_reverse,Mw g G]at lo;refine ec lo (oF (X.ld 1 rfl rfl) (ec Y.b.len (xh (fO rfl ?_))));refine ec (X.tj 1 rfl rfl) ?_;refine RG g X Y λF9 h9 vd Gl I Z aa G' s9 H9 rd d1 d2 d3 d4 d5=>?_
 let⟨B,ab,ag,q,y⟩:=H9.st 0 (o:=7) rfl (by simp) rd.one
 refine ec (eC _ _) (ec (fo _ _ _) ?_);rw[show V.ptr lc (0+7)=V.ptr lc 7 from rfl,ab,eh];simp[M8,DR]at q;have C:=(Y.since s9).since y;refine oF (q.ld 1 rfl rfl) (ec C.b.len ?_);have m:=((((E.trans U).trans s7).trans s8).trans s9).trans y
 have ac:Cx F9 B (eD lc 139 [.I u.func,.I u.pc,vv,vb,vs,t,w,vd]::eD h.next 34 (uC u vv vb vs)::cs) lc u vv vb vs t w vd xs ys Gl I:=
  ⟨⟨q,⟨0,_,rfl⟩,C⟩,rb.since m,rp.since m,rd.since y,std,⟨d1,d2,d3,⟨G'.gr.place,λb hb h0=>d4.up b hb h0⟩,d5⟩⟩
 refine Qd (by omega) (λF' h'=>Sn F9 B F' h'/\ej F' h' (eD lc 139 [.I u.func,.I u.pc,vv,vb,vs,t,w,vd]::eD h.next 34 (uC u vv vb vs)::cs)) ⟨Sn.refl _ _,q⟩ (λi hi F' h' hP n p=>?_) λah ai hP=>?_
 ·let⟨s',l⟩:=hP
  show cP CS pj [.ptr lc 0,.I i] h' n;exact zcC g (ac.since s' l) (l.ok 0 _ rfl).2.1 (hZ hi) λe a c d=>p e a ⟨s'.trans c,d⟩
 let⟨ad,ae⟩:=hP
 exact H _ _ (((((s1.trans s2).trans O).trans s4).trans m).trans ad) ae.tail.tail
