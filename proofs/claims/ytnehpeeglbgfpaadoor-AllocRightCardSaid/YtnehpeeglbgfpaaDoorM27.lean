/- Parts. -/
import Derived.Test.YtnehpeeglbgfpaaDoorM26
set_option maxHeartbeats 4000000
namespace Go.Proofs.YtnehpeeglbgfpaaDoor.Hx
open Un Dm
structure TA (G:Dm.Gr) (I:Nat->Nat) (S:Nat->Prop) (b:Nat):Prop where
 low:∀p,S p->G.xz p b->nq I (I b) p
 W0:∀x,(∀p,S p->G.xz p b->nq I x p)->nq I x (I b)
theorem LJ(I:Nat->Nat)(b:Nat):Dm.set I b (I b)=I:=by
 grind[Dm.set]
theorem OC{S:Nat->Prop}{b:Nat}(h:S b):(λx=>S x\/x=b)=S:=by
 grind
theorem QV{G:Dm.Gr}{I:Nat->Nat}{S:Nat->Prop}{k n:Nat}(o:Dm.Inv G I S k 1)(i:∀b,G.node b->S b)(f:∀b,G.node b->b≠0->TA G I S b)(a:∀b,G.node b->G.place b<n)(c:∀p,p<n->∃b,G.node b/\G.place b=p):Dm.Inv G I S (k+1) 1:=by
 have d:∀m,1+m<=n->Dm.Inv G I S k (1+m):=by
  intro m
  induction m with
  |zero=>simp_all
  | succ m j=>
    intro q;have l:=j (by omega)
    let⟨b,hb,hp⟩:=c (1+m) (by omega)
    have h0:b≠0:=λe=>by subst e;rw[G.zJ]at hp;omega
    have g:=(l.IV hb h0 hp (f b hb h0).low (f b hb h0).W0).1;rw[LJ,OC (i b hb)]at g;exact g
 have r:1<=n:=by have:=a 0 G.first;omega
 have h:=d (n-1) (by omega);rw[show 1+(n-1)=n by omega]at h;exact h.pass a
theorem LS{G:Dm.Gr}{I:Nat->Nat}{S:Nat->Prop}{k n:Nat}(d:Dm.Inv G I S k 1)(e:∀b,G.node b->S b)(f:∀b,G.node b->b≠0->TA G I S b)(a:∀b,G.node b->G.place b<n)(c:∀p,p<n->∃b,G.node b/\G.place b=p):∀m,Dm.Inv G I S (k+m) 1
 |0=>d
 |m+1=>QV (LS d e f a c m) e f a c
section
variable{u:U}{seen:List Bool}{post:List Nat}
theorem D0(g:Good u)(G:Fz u.blocks.length (next u) seen post []):∀b,b<u.blocks.length->b∈post:=by
 have c:∀b l,Pt (next u) b l->b∈post:=by
  intro b l a
  induction a with
  |nil=>let⟨p,a⟩:=G.last rfl;simp_all
  | step _ d e=>
    have:=(G.iff _).1 (G.closed _ e _ d)
    simp_all
 intro b f
 let⟨l,hl⟩:=g.reach b f
 grind
theorem DE(g:Good u)(G:Fz u.blocks.length (next u) seen post []):post.length=u.blocks.length:=G.all (D0 g G)
theorem Kz(G:Fz u.blocks.length (next u) seen post []):post.reverse.Nodup:=by
 have:=G.nodup
 grind
theorem Hk(G:Fz u.blocks.length (next u) seen post []){i b:Nat}(h:post.reverse[i]? =some b):G.gr.place b=i:=by
 show post.reverse.idxOf b=i;obtain⟨hi,rfl⟩:=jw.1 h;have a:=Kz G
 grind
end
section
variable{F F':Nat->Prop}{h h':Hp}{cs:List Pc}{Q:fm}{u:U}{vv vb vs:V}
structure OK (S:Nat->Prop) (I:Nat->Nat) (n:Nat) (Ac:List Int):Prop where
 len:Ac.length=n
 yes:∀b,S b->Ac[b]? =some (I b:Int)
 no:∀b,b<n->¬S b->Ac[b]? =some (-1)
theorem Ua{G:Dm.Gr}{I:Nat->Nat}{S:Nat->Prop}{n l5 l6 t5 t6:Nat}{u vp:V}{Ac:List Int}{pl:List Nat}(g:er F h cs){i5 i6 ii ip:Nat}(v:cs[i5]? =some (ey l5 t5 [u]))(w:cs[i6]? =some (ey l6 t6 [vp]))(hi:cs[ii]? =some (fo eZ fy Ac u))(y:cs[ip]? =some (fo eN fy pl vp))
  (i:Tree G I S) (z:OK S I n Ac) (l:∀b,G.node b->pl[b]? =some (G.place b)) {a b:Nat} (E:S a) (J:S b)
  (H:∀d,S d->nq I d a->nq I d b->(∀x,nq I x a->nq I x b->nq I x d)->Q (.I (d:Nat)) h):cP CS iK [.I a,.I b,.ptr l6 0,.ptr l5 0] h Q:=by
 refine CP rfl rfl ?_;unfold wU
 refine Ay (λk A B C D h'=>∃c f,A = .I (c:Nat)/\B = .I (f:Nat)/\C = .ptr l6 0/\D = .ptr l5 0/\h' = h/\k=G.place c+G.place f/\S c/\S f/\nq I c a/\nq I f b/\(∀x,nq I x a->nq I x b->nq I x c/\nq I x f)) ?_
  ⟨a,b,rfl,rfl,rfl,rfl,rfl,rfl,E,J,.refl _,.refl _,by simp_all⟩
 rintro k A B C D h' ⟨c,f,rfl,rfl,rfl,rfl,rfl,O,sa,sb,m,o,K⟩;unfold tl;by_cases e:c=f
 ·subst e;refine Hh (gU rfl ?_);exact H c sa m o λx p q=>(K x p q).1
 refine Hh (gB (by omega) ?_)
 let⟨lp,op,p1,p2⟩:=g.T7 ip y (l c (i.node _ sa)) .i64
 let⟨lq,oq,L,M⟩:=g.T7 ip y (l f (i.node _ sb)) .i64
 refine ec (g.ld i6 w rfl) (ec p1 (ec p2 (ec (g.ld i6 w rfl) (ec L (ec M ?_)))));by_cases IX:G.place f<G.place c
 ·refine Mk (gU (by omega) ?_)
  let⟨li,oi,r,s⟩:=g.wQ ii hi (z.yes c sa) .i64
  refine ec (g.ld i5 v rfl) (ec r (ec s ?_));have h0:c≠0:=λe=>by subst e;rw[G.zJ]at IX;omega
  let⟨t,N⟩:=i.up c sa h0
  exact⟨_,by omega,I c,f,rfl,rfl,rfl,rfl,rfl,rfl,t,sb,(nq.up h0 (.refl _)).trans m,o,λx p q=>⟨i.UO sa sb IX (by simp_all) (by simp_all),by simp_all⟩⟩
 ·refine Mk (gB (by omega) ?_)
  let⟨li,oi,r,s⟩:=g.wQ ii hi (z.yes f sb) .i64
  refine ec (g.ld i5 v rfl) (ec r (ec s ?_));have j:G.place c<G.place f:=by
   have:G.place c≠G.place f:=λe'=>e (G.inj _ _ (i.node _ sa) (i.node _ sb) e');omega
  have h0:f≠0:=λe=>by subst e;rw[G.zJ]at j;omega
  let⟨t,N⟩:=i.up f sb h0
  exact⟨_,by omega,c,I f,rfl,rfl,rfl,rfl,rfl,rfl,sa,t,m,(nq.up h0 (.refl _)).trans o,λx p q=>⟨by simp_all,i.UO sb sa j (by simp_all) (by simp_all)⟩⟩
theorem IU(g:Good u)(H0:er F h cs)(hu:Af F h u vv vb vs)
  (H:∀F' h' v Ac I seen post (G:Fz u.blocks.length (next u) seen post []),Sn F h F' h'->er F' h' cs->iL eZ F' h' Ac v->Ac.length=u.blocks.length->Ac[0]? =some (-1)->(∀b,b≠0->b<u.blocks.length->Ac[b]? =some (I b:Int))->Tree G.gr I (λb=>b<u.blocks.length)->
   (∀x b,b<u.blocks.length->(nq I x b↔wA (next u) x b))->Q v h'):cP CS oy [.agg (uC u vv vb vs)] h Q:=by
 refine FL rfl rfl ?_;unfold yX;have nb:=g.nb;have Oz:=g.Oz;refine qx H0 hu.one λr H1 s1=>?_;have lA:=H1.CI 0 rfl rfl;refine ec lA (ec lA ?_);refine DP g H1 (hu.since s1) λF2 h2 vo seen post s2 H2 G r2=>⟨s2.next,H2.CI 0 rfl rfl,?_⟩
 refine Mg g H2 (hu.since (s1.trans s2)) λR U va s3 H3 r3=>⟨s3.next,?_⟩
 have u3:=hu.since ((s1.trans s2).trans s3);have r2:=r2.since s3;refine oF (H3.ld 0 rfl rfl) (ec u3.b.len ?_);rw[kM rfl (by decide) (by omega),ij];obtain⟨H4,s4⟩:=H3.make (E:=eZ) u.blocks.length rfl rfl;have n4:(U.new (.cells fy 1 true false (List.replicate u.blocks.length (V.I 0)))).next=U.next+1:=rfl;have g4:(U.new (.cells fy 1 true false (List.replicate u.blocks.length (V.I 0)))).get U.next=some (.cells 3 1 true false (List.replicate u.blocks.length (V.I 0))):=ez _ _;show oP (fI 3 (.ptr h.next 0)) _;generalize bR:U.new (.cells fy 1 true false (List.replicate u.blocks.length (V.I 0)))=W at*;refine oF (H4.ld 1 rfl rfl) (ec (u3.since s4).b.len ?_);rw[kM rfl (by decide) (by omega),ij];obtain⟨H5,s5⟩:=H4.make (E:=eN) u.blocks.length rfl rfl;have n5:(W.new (.cells fy 1 true false (List.replicate u.blocks.length (V.I 0)))).next=W.next+1:=rfl;have g5:(W.new (.cells fy 1 true false (List.replicate u.blocks.length (V.I 0)))).get W.next=some (.cells 3 1 true false (List.replicate u.blocks.length (V.I 0))):=ez _ _;have bb:=(eR (.cells fy 1 true false (List.replicate u.blocks.length (V.I 0))) (by omega)).trans g4;generalize bS:W.new (.cells fy 1 true false (List.replicate u.blocks.length (V.I 0)))=h5 at*;rw[ij]
 let⟨H6,s6⟩:=H5.GG ji [V.ed]
 have n6:(h5.new (.cells ji 1 true false [V.ed])).next=h5.next+1:=rfl;have g6:(h5.new (.cells ji 1 true false [V.ed])).get h5.next=some (.cells 22 1 true false [V.ed]):=ez _ _;have bc:=(eR (.cells ji 1 true false [V.ed]) (by omega)).trans g5;have bd:=(eR (.cells ji 1 true false [V.ed]) (by omega)).trans bb;show uN _ (h5.new (.cells ji 1 true false [V.ed])) _;generalize bU:h5.new (.cells ji 1 true false [V.ed])=h6 at*;rw[ij]
 let⟨H7,s7⟩:=H6.GG ji [V.ed]
 have g7:(h6.new (.cells ji 1 true false [V.ed])).get h6.next=some (.cells 22 1 true false [V.ed]):=ez _ _;have be:=(eR (.cells ji 1 true false [V.ed]) (by omega)).trans g6;have aG:=(eR (.cells ji 1 true false [V.ed]) (by omega)).trans bc;have bf:=(eR (.cells ji 1 true false [V.ed]) (by omega)).trans bd;show(((h6.new (.cells ji 1 true false [V.ed])).get h6.next=_/\_)/\_);generalize bV:h6.new (.cells ji 1 true false [V.ed])=h7 at*;refine⟨⟨g7,O.ie _ _ _ _ _⟩,⟨be,O.ie _ _ _ _ _⟩,⟨aG,O.ie _ _ _ _ _⟩,H7.ld 4 rfl rfl,⟨bf,O.ie _ _ _ _ _⟩,H7.ld 4 rfl rfl,?_⟩
 let⟨h8,e8,n8,H8,s8,k8⟩:=H7.stk 1 (o:=0) (u:= .slice U.next 0 u.blocks.length) rfl (by simp) rfl
 rw[e8,ej];refine⟨n8,⟨(k8 _ (by omega)).trans aG,O.ie _ _ _ _ _⟩,(by simp[ ot]at H8;exact H8.ld 4 rfl rfl),?_⟩;simp[ ot]at H8
 let⟨h9,e9,n9,H9,s9⟩:=H8.st 0 (o:=0) (u:= .slice W.next 0 u.blocks.length) rfl (by simp) rfl
 rw[e9,ej];refine⟨n9,?_⟩;simp[ot]at H9;have aq:=((((s4.trans s5).trans s6).trans s7).trans s8).trans s9;have bg:=((s1.trans s2).trans s3).trans aq;have r2:=r2.since aq;have r3:=r3.since aq;generalize V.slice U.next 0 u.blocks.length=vi at*;generalize V.slice W.next 0 u.blocks.length=vp at*;generalize h6.next=l6 at*;generalize h5.next=l5 at*;generalize h.next=lb at*;have aH:=H9.len 3 rfl;rw[List.length_replicate]at aH;refine ec (H9.ld 1 rfl rfl) (ec aH ?_);have bi:=DE g G;have X:post.reverse.length=u.blocks.length:=by simpa using bi
 refine Cl (λk w z L x6 aI aJ h'=>∃(i:Nat) (xs:List Int),w=vo/\z=va/\L = .ptr l5 0/\x6 = .ptr l6 0/\aI = .I u.blocks.length/\aJ = .I i/\i+k=u.blocks.length/\xs.length=u.blocks.length/\(∀j,j<i->xs[j]? =some (-1))/\
  Sn R h9 R h'/\er R h' (ey l6 ji [vp]::ey l5 ji [vi]::fo eN fy (List.replicate u.blocks.length 0) vp::fo eZ fy xs vi::ey lb 29 (uC u vv vb vs)::cs)) ?_ (k:=u.blocks.length)
  ⟨0,_,rfl,rfl,rfl,rfl,rfl,rfl,by omega,by simp,λj hj=>by omega,Sn.refl _ _,H9⟩
 rintro k w z L x6 aI aJ bW ⟨i,xs,e3,e4,rfl,rfl,rfl,rfl,hk,aK,hm,aL,aM⟩;subst w z;unfold vD;by_cases hi:i<u.blocks.length
 ·refine hV ?_;obtain⟨Ir,bX,bY,bj,bm,bZ,aN,bn⟩:=aM.AD 3 rfl (k:=i) (by omega) rfl rfl rfl;refine ec (aM.ld 1 rfl rfl) (ec bj ?_);rw[bm,ej];simp[AT,ot]at aN;refine gq ⟨k-1,by omega,i+1,xs.set i (-1),rfl,rfl,rfl,rfl,rfl,rfl,by omega,by simp[aK],λj hj=>?_,aL.trans bn,aN⟩
  grind
 refine jG ?_;obtain rfl:i=u.blocks.length:=by omega
 have lo:=(r2.since aL).len;rw[X]at lo;refine ec lo ?_
 refine B8 (λk w z L x6 ar aO aP h'=>∃i pl,w=vo/\z=va/\L = .ptr l5 0/\x6 = .ptr l6 0/\ar=vo/\aO = .I u.blocks.length/\aP = .I (i:Nat)/\i+k=u.blocks.length/\pl.length=u.blocks.length/\(∀j b,j<i->post.reverse[j]? =some b->pl[b]? =some j)/\
  Sn R h9 R h'/\er R h' (ey l6 ji [vp]::ey l5 ji [vi]::fo eN fy pl vp::fo eZ fy xs vi::ey lb 29 (uC u vv vb vs)::cs)) ?_ (k:=u.blocks.length)
  (by grind)
 rintro k1 w z L x6 ar aO aP b1 ⟨i,pl,e3,e4,rfl,rfl,b2,rfl,rfl,b3,aQ,bo,ah,ai⟩;subst w z ar;unfold vF;by_cases hi:i<u.blocks.length
 ·refine hV ?_;obtain⟨b,n⟩:∃b,post.reverse[i]? =some b:=⟨_,iH (by omega)⟩
  have aj:b<u.blocks.length:=G.pre b (Qw.1 (xu n))
  let⟨Wy,b4,_,j1,j2⟩:=(r2.since ah).nat n .i64
  obtain⟨Wh,b5,b6,bp,au,b7,aR,bq⟩:=ai.AD 2 rfl (k:=b) (by omega) rfl rfl rfl;refine ec j1 (ec j2 (ec (ai.ld 0 rfl rfl) (ec bp ?_)));rw[au,ej];simp[AT,ot]at aR;refine gq ⟨k1-1,by omega,i+1,pl.set b i,rfl,rfl,rfl,rfl,rfl,rfl,rfl,by omega,by simp[aQ],λj c hj hc=>?_,ah.trans bq,aR⟩;by_cases e:c=b
  ·subst e;have r:=Hk G n;have h2:=Hk G hc;obtain rfl:i=j:=by omega
   rw[G2 (by omega)]
  grind
 refine jG ?_;obtain rfl:i=u.blocks.length:=by omega
 have ak:∀b,G.gr.node b->pl[b]? =some (G.gr.place b):=λb n=>by
  have r:=Nh post.reverse b (Qw.2 n);exact bo (post.reverse.idxOf b) b (by have:=(jw.1 r).1;omega) r
 have lo:=(r2.since ah).len;rw[X]at lo;refine ec lo (hH (gB (by omega) ?_));obtain⟨b8,b9,ca,au,br,cb,aS,bt⟩:=ai.AD 3 rfl (k:=0) (by omega) rfl rfl rfl;refine ec (ai.ld 1 rfl rfl) (ec au ?_);rw[br,ej];simp[AT,ot]at aS;have bu:OK (λx=>x=0) (λ_=>0) u.blocks.length (xs.set 0 0):=⟨by simp[aK],λb n=>by rw[n,G2 (by omega)];rfl,by grind⟩
 have f:∀b,G.gr.node b↔b<u.blocks.length:=λb=>⟨λn=>G.pre b n,λn=>D0 g G b n⟩
 have am:∀b,G.gr.node b->G.gr.place b<u.blocks.length:=λb n=>by
  have r:=Nh post.reverse b (Qw.2 n);have:=(jw.1 r).1;show post.reverse.idxOf b<_;omega
 have aT:∀p,p<u.blocks.length->∃b,G.gr.node b/\G.gr.place b=p:=by grind
 refine Ct (λk w z L B C h'=>∃c kk I S Ac,w=vo/\z=va/\L = .ptr l5 0/\B = .func iK [] [.ptr l6 0,.ptr l5 0]/\C = .bool c/\k+kk=u.blocks.length+2/\(c=true->kk<=u.blocks.length+1)/\
  (c=false->(∀b,G.gr.node b->S b)/\∀b,G.gr.node b->b≠0->TA G.gr I S b)/\Dm.Inv G.gr I S kk 1/\OK S I u.blocks.length Ac/\
  Sn R h9 R h'/\er R h' (ey l6 ji [vp]::ey l5 ji [vi]::fo eN fy pl vp::fo eZ fy Ac vi::ey lb 29 (uC u vv vb vs)::cs)) ?_ (k:=u.blocks.length+1)
  ⟨true,1,λ_=>0,λx=>x=0,_,rfl,rfl,rfl,rfl,rfl,by omega,λ_=>by omega,λh=>(by cases h),Dm.Inv.start,bu,ah.trans bt,aS⟩
 rintro k2 w z L B C cd ⟨c,kk,I,S,Ac,e3,e4,rfl,rfl,rfl,ce,bv,bw,hI,hR,al,aw⟩;subst w z;unfold vf
 cases c with
 | false=>
   refine je (gB (by simp) ?_)
   let⟨hS,hF⟩:=bw rfl
   have aU:=LS hI hS hF am aT (u.blocks.length+1);obtain⟨cf,cg,ax,bz,bA,ci,q,D⟩:=aw.AD 3 rfl (k:=0) (by rw[hR.len];omega) rfl rfl rfl;refine ec (aw.ld 1 rfl rfl) (ec bz ?_);rw[bA,ej];simp[AT,ot]at q;refine ec (q.ld 1 rfl rfl) ?_
   let⟨aV,bC,ZH⟩:=q.mi 3 rfl
   simp[AT,ot]at aV;refine H _ _ vi (Ac.set 0 (-1)) I seen post G (((bg.trans al).trans D).trans bC) aV.tail.tail.tail.tail.tail ZH (by simp[hR.len]) (by rw[G2 (by rw[hR.len];omega)]) (λb h0 n=>?_) ⟨by omega,λb n=>(f b).2 n,λb n h0=>?_⟩ λx b n=>?_
   ·rw[Iv λh=>h0 h.symm]
    exact hR.yes b (hS b ((f b).2 n))
   ·let⟨r,h2⟩:=hI.tree.up b (hS b ((f b).2 n)) h0
    exact⟨(f _).1 (hI.tree.node _ r),h2⟩
   ·rw[aU.exact (λb n=>(f b).1 n) (by omega) (hS b ((f b).2 n))]
    exact(QE λa b=>Iff.rfl).symm
 | true =>
   refine je (gU rfl ?_);have cj:=bv rfl;obtain⟨ay,bD,az⟩:=(r2.since al).cut (m:=1) (Js _ _ _) (Gm _) (by omega) (jn _);rw[Yn]at az;refine ec bD (ec az.len ?_);have aW:(post.reverse.drop 1).length=u.blocks.length-1:=by rw[List.length_drop,X]
   rw[aW]
   refine Cq (λk w z L B C J Y Z h'=>∃i c I S Ac,w=vo/\z=va/\L = .ptr l5 0/\B = .func iK [] [.ptr l6 0,.ptr l5 0]/\C = .bool c/\J=ay/\Y = .I ((u.blocks.length-1:Nat):Int)/\Z = .I (i:Nat)/\i+k=u.blocks.length-1/\
     (c=true->kk<=u.blocks.length)/\(c=false->∀b,G.gr.node b->G.gr.place b<i+1->S b/\(b≠0->TA G.gr I S b))/\Dm.Inv G.gr I S kk (i+1)/\OK S I u.blocks.length Ac/\
     Sn R h9 R h'/\er R h' (ey l6 ji [vp]::ey l5 ji [vi]::fo eN fy pl vp::fo eZ fy Ac vi::ey lb 29 (uC u vv vb vs)::cs)) ?_ (k:=u.blocks.length-1)
     ⟨0,false,I,S,Ac,rfl,rfl,rfl,rfl,rfl,rfl,rfl,rfl,by omega,λh=>(by cases h),λ_ b n bE=>by
       obtain rfl:b=0:=G.gr.inj b 0 n G.gr.first (by have:=G.gr.zJ;omega);exact⟨hI.tree.zero,λh=>absurd rfl h⟩,hI,hR,al,aw⟩
   rintro k3 w z L B C J Y Z ax ⟨i,c,M,S1,N,e3,e4,rfl,rfl,rfl,aX,rfl,rfl,cl,aY,bG,aa,s,D,q⟩;subst w z J;unfold vK;by_cases hi:i<u.blocks.length-1;rotate_left
   ·refine jG ?_
    obtain rfl:i=u.blocks.length-1:=by omega
    have hp:=aa.pass λb n=>by have:=am b n;omega
    refine⟨k2-1,by omega,c,kk+1,M,S1,N,rfl,rfl,rfl,rfl,rfl,by omega,λh=>by have:=aY h;omega,λh=>?_,hp,s,D,q⟩
    simp_all
   refine hV ?_;obtain⟨b,n⟩:∃b,post.reverse[i+1]? =some b:=⟨_,iH (by omega)⟩
   have ab:G.gr.node b:=Qw.1 (xu n);have aj:=(f b).1 ab;have aA:G.gr.place b=i+1:=Hk G n;have aB:b≠0:=λe=>by subst e;rw[G.gr.zJ]at aA;omega
   have aZ:iL eN R ax (post.reverse.drop 1) ay:=az.eD λl hl=>(D.eD l hl).trans (al.eD l hl).symm;obtain⟨Z6,cm,_,j1,j2⟩:=aZ.nat (by rw[V0,Nat.add_comm];exact n) .i64
   let⟨cn,co,bH,_,m1,m2,m3⟩:=(r3.since D).list (i:=b) (x:=Un.ahead u b) (by simp[aj]) .i64
   refine ec j1 (ec j2 (ec m1 (ec m2 (ec m3.len ?_))));have ac:∀p,G.gr.xz p b↔p∈Un.ahead u b:=λp=>zm.symm;have cp:(Un.ahead u b).length<=700:=by
     rw[<-nP];have:=od g (j:=0) (b:=b) (jn _) (by omega);omega
   refine Ci (λk w z L B C a0 a1 J Y Z aC a2 a3 h'=>∃j dd,w=vo/\z=va/\L = .ptr l5 0/\B = .func iK [] [.ptr l6 0,.ptr l5 0]/\C = .bool c/\a0 = .I (b:Nat)/\a1 = .I dd/\J=ay/\Y = .I ((u.blocks.length-1:Nat):Int)/\Z = .I (i:Nat)/\
     aC=bH/\a2 = .I ((Un.ahead u b).length:Nat)/\a3 = .I (j:Nat)/\j+k=(Un.ahead u b).length/\h' = ax/\
     ((dd = -1/\∀p∈(Un.ahead u b).take j,¬S1 p)\/∃d:Nat,dd=(d:Int)/\S1 d/\(∀p∈(Un.ahead u b).take j,S1 p->nq M d p)/\∀x,(∀p∈(Un.ahead u b).take j,S1 p->nq M x p)->nq M x d)) ?_ (k:=(Un.ahead u b).length)
     ⟨0,-1,rfl,rfl,rfl,rfl,rfl,rfl,rfl,rfl,rfl,rfl,rfl,rfl,rfl,by omega,rfl,.inl ⟨rfl,λp hp=>by simp at hp⟩⟩
   rintro k4 w z L B C a0 a1 J Y Z aC a2 a3 bI ⟨j,dd,e3,e4,rfl,rfl,rfl,rfl,rfl,aX,rfl,rfl,cq,rfl,rfl,cr,rfl,T⟩;subst w z J aC;unfold vN;by_cases hj:j<(Un.ahead u b).length
   ·refine hV ?_
    obtain⟨a,ha⟩:∃a,(Un.ahead u b)[j]? =some a:=⟨_,iH hj⟩
    have a4:a<u.blocks.length:=by
      have:=zm.1 (xu ha);exact(g.RM this).1
    have bJ:(Un.ahead u b).take (j+1)=(Un.ahead u b).take j++[a]:=by
      obtain⟨r,rfl⟩:=jw.1 ha;exact KM r
    let⟨ct,cu,_,q1,q2⟩:=m3.nat ha .i64
    refine ec q1 (ec q2 (ec (q.ld 1 rfl rfl) ?_));have t:∀p,p∈(Un.ahead u b).take (j+1)↔p∈(Un.ahead u b).take j\/p=a:=λp=>by rw[bJ];simp
    by_cases hS:S1 a;rotate_left
    ·let⟨aD,aE,t1,t2⟩:=q.wQ 3 rfl (s.no a a4 hS) .i64
     refine ec t1 (ec t2 (hV ?_));refine og ?_;unfold lI;refine iA (m:=1) (by omega) (by omega) ⟨k4-1,by omega,j+1,dd,rfl,rfl,rfl,rfl,rfl,rfl,rfl,rfl,rfl,rfl,rfl,rfl,rfl,by omega,rfl,?_⟩;have cv:∀{P:Nat->Prop},(∀p∈(Un.ahead u b).take (j+1),S1 p->P p)↔(∀p∈(Un.ahead u b).take j,S1 p->P p):=λ{P}=>⟨λh p hp=>h p ((t p).2 (.inl hp)),by grind⟩
     simp_all
    let⟨aD,aE,t1,t2⟩:=q.wQ 3 rfl (s.yes a hS) .i64
    refine ec t1 (ec t2 (jG ?_));rcases T with⟨rfl,r⟩|⟨d,rfl,r,h2,U⟩
    ·refine hV ?_
     refine og ?_;unfold lI;refine iA (m:=1) (by omega) (by omega) ⟨k4-1,by omega,j+1,(a:Int),rfl,rfl,rfl,rfl,rfl,rfl,rfl,rfl,rfl,rfl,rfl,rfl,rfl,by omega,rfl,?_⟩;refine .inr ⟨a,rfl,hS,λp hp hs=>?_,λx hx=>hx a ((t a).2 (.inr rfl)) hS⟩;rcases(t p).1 hp with W|rfl
     ·exact absurd hs (r p W)
     ·exact .refl _
    ·refine jG ?_
     show cP CS iK [.I (d:Nat),.I (a:Nat),.ptr l6 0,.ptr l5 0] bI _;refine Ua q (i5:=1) (i6:=0) (ii:=3) (ip:=2) rfl rfl rfl rfl aa.tree s ak r hS λd' g1 g2 g3 g4=>?_;refine og ?_;unfold lI;refine iA (m:=1) (by omega) (by omega) ⟨k4-1,by omega,j+1,(d':Int),rfl,rfl,rfl,rfl,rfl,rfl,rfl,rfl,rfl,rfl,rfl,rfl,rfl,by omega,rfl,?_⟩;refine .inr ⟨d',rfl,g1,λp hp hs=>?_,λx hx=>g4 x (U x λp hp hs=>hx p ((t p).2 (.inl hp)) hs) (hx a ((t a).2 (.inr rfl)) hS)⟩;rcases(t p).1 hp with W|rfl
     ·exact g2.trans (h2 p W hs)
     ·exact g3
   refine jG ?_;rw[JE (by omega)]at T
   let⟨p0,hp0n,hp0e,hp0l⟩:=G.gr.early b ab aB
   have a5:S1 p0:=aa.done p0 hp0n (by omega);obtain⟨d,rfl,cw,aF,a6⟩:∃d:Nat,dd=(d:Int)/\S1 d/\(∀p∈Un.ahead u b,S1 p->nq M d p)/\∀x,(∀p∈Un.ahead u b,S1 p->nq M x p)->nq M x d:=by
     rcases T with⟨_,r⟩|r
     ·exact absurd a5 (r p0 ((ac p0).1 hp0e))
     ·exact r
   have ae:∀p,S1 p->G.gr.xz p b->nq M d p:=λp hs he=>aF p ((ac p).1 he) hs;have A:∀x,(∀p,S1 p->G.gr.xz p b->nq M x p)->nq M x d:=by simp_all
   have a7:i<1000000000:=by clear T;omega
   have an:k3-1<k3:=by clear T;omega
   have ao:i+1+(k3-1)=u.blocks.length-1:=by clear T;omega
   have ag:=(aa.IV ab aB aA ae A).1;refine ec (q.ld 1 rfl rfl) ?_;by_cases hsame:S1 b/\M b=d
   ·obtain ⟨K,rfl⟩:=hsame
    let⟨aD,aE,t1,t2⟩:=q.wQ 3 rfl (s.yes b K) .i64
    refine ec t1 (ec t2 (Hh (gU rfl ?_)));refine uj ?_;unfold nK;rw[LJ,OC K]at ag;refine iA a7 (by decide) ⟨k3-1,an,i+1,c,M,S1,N,rfl,rfl,rfl,rfl,rfl,rfl,rfl,rfl,ao,aY,λhc b' a8 bE=>?_,ag,s,D,q⟩;rcases Ji (G.gr.place b') (i+1)with r|r
    ·exact bG hc b' a8 r
    ·obtain rfl:b' = b:=G.gr.inj _ _ a8 ab (by omega)
     exact⟨K,λ_=>⟨ae,A⟩⟩
   ·obtain ⟨y,hy,a9⟩:∃y,N[b]? =some y/\y≠(d:Int):=by
      by_cases K:S1 b
      ·refine⟨(M b:Int),s.yes b K,λe=>hsame ⟨K,?_⟩⟩
       exact Int.ofNat.inj e
      ·refine⟨-1,s.no b aj K,?_⟩
       omega
    let⟨aD,aE,t1,t2⟩:=q.wQ 3 rfl hy .i64
    refine ec t1 (ec t2 (Hh (gB a9 ?_)));obtain⟨cx,cy,cz,bK,bL,cA,ba,bQ⟩:=q.AD 3 rfl (by rw[s.len];exact aj) rfl rfl rfl;refine ec (q.ld 1 rfl rfl) (ec bK ?_);rw[bL,ej];simp[AT,ot]at ba;refine uj ?_;unfold nK;refine iA a7 (by decide) ⟨k3-1,an,i+1,true,Dm.set M b d,λx=>S1 x\/x=b,N.set b (d:Int),rfl,rfl,rfl,rfl,rfl,rfl,rfl,rfl,ao,λ_=>?_,λh=>(by cases h),ag,⟨by simp[s.len],λx hx=>?_,λx hx hn=>?_⟩,D.trans bQ,ba⟩
    ·rcases Ji u.blocks.length kk with r|r
     ·exfalso
      let⟨h2,U⟩:=aa.stay (λb n=>(f b).1 n) r ab aB aA ae A
      exact hsame ⟨h2,U.symm⟩
     ·exact r
    ·unfold Dm.set
     by_cases e:x=b
     ·grind
     ·rw[Iv λh=>e h.symm,if_neg e]
      exact s.yes x (hx.resolve_right e)
    ·have e:x≠b:=λe=>hn (.inr e)
     rw[Iv λh=>e h.symm];exact s.no x hx λh=>hn (.inl h)
end
open Un Dm
structure Zz (u:U) (Ac:List Int) (I:Nat->Nat):Prop where
 len:Ac.length=u.blocks.length
 zero:Ac[0]? =some (-1)
 at_:∀b,b≠0->b<u.blocks.length->Ac[b]? =some (I b:Int)
 Zn:∃r:Nat->Nat,∀b,b<u.blocks.length->b≠0->I b<u.blocks.length/\r (I b)<r b
 iff:∀x b,b<u.blocks.length->(nq I x b↔wA (next u) x b)
section
variable{F F':Nat->Prop}{h h':Hp}{cs:List Pc}{Q:fm}{u:U}{vv vb vs:V}{lc:Nat}{bl pl AZ:V}{xs ys Ac:List Int}{I:Nat->Nat}
structure Cx (F:Nat->Prop) (h:Hp) (cs:List Pc) (lc:Nat) (u:U) (vv vb vs bl pl AZ:V) (xs ys Ac:List Int) (I:Nat->Nat):Prop where
 ck:Ck F h cs lc u vv vb vs bl pl AZ
 Zq:iL eZ F h xs bl
 ZG:iL eZ F h ys pl
 Ze:iL eZ F h Ac AZ
 Wf:Std u u.blocks.length 0 xs ys
 OE:Zz u Ac I
theorem Cx.since(C:Cx F h cs lc u vv vb vs bl pl AZ xs ys Ac I)(s:Sn F h F' h')(a:er F' h' cs):Cx F' h' cs lc u vv vb vs bl pl AZ xs ys Ac I:=⟨C.ck.since s a,C.Zq.since s,C.ZG.since s,C.Ze.since s,C.Wf,C.OE⟩
theorem Cx.cons(C:Cx F h cs lc u vv vb vs bl pl AZ xs ys Ac I)(s:Sn F h F' h'){p:Pc}(a:er F' h' (p::cs)):Cx F' h' (p::cs) lc u vv vb vs bl pl AZ xs ys Ac I:=⟨C.ck.cons s a,C.Zq.since s,C.ZG.since s,C.Ze.since s,C.Wf,C.OE⟩
theorem K4(C:Cx F h cs lc u vv vb vs bl pl AZ xs ys Ac I){a b:Nat}(p:b<u.blocks.length)(q:nq I a b)(H:Q (.bool true) h):cP CS ko [.ptr lc 0,.I a,.I b] h Q:=by
 refine ze rfl rfl ?_;unfold qN
 let⟨r,hr⟩:=C.OE.Zn
 refine wN (λk g i j h'=>∃c,g = .ptr lc 0/\i = .I a/\j = .I (c:Nat)/\k=r c/\c<u.blocks.length/\nq I a c/\h' = h) ?_ (k:=r b) (by grind);rintro k g i j h' ⟨c,rfl,rfl,rfl,s,d,f,rfl⟩;unfold nT;refine CL (gU (by omega) ?_);by_cases e:a=c
 ·exact hH (gU (by omega) H)
 refine hH (gB (by omega) ?_)
 cases f with
 |refl=>omega
 | up h0 t=>
   let⟨l,o,_,m,n⟩:=C.Ze.int (C.OE.at_ c h0 d) .i64
   let⟨r1,r2⟩:=hr c d h0
   exact ec (fj _ _) (ec (by rfl) (ec (C.ck.ld 7 rfl) (ec m (ec n (by grind)))))
theorem EI(C:Cx F h cs lc u vv vb vs bl pl AZ xs ys Ac I){l:List Nat}{v:V}{b p:Nat}(y:iL eN F h l v)(T:l.length<1000000)(z:b<u.blocks.length)(K:∀w∈l,∃c j,At u w c j/\(c=b->j<p)/\wA (next u) c b)(H:Q (.bool true) h) :
  cP CS iP [.ptr lc 0,v,.I b,.I p] h Q:=by
 refine Du rfl rfl ?_;unfold wT;refine ec y.len ?_;refine Au (λk A D E a d f h'=>∃i,A = .ptr lc 0/\D = .I b/\E = .I p/\a=v/\d = .I l.length/\f = .I (i:Nat)/\i+k=l.length/\h' = h) ?_ (k:=l.length) (by simp_all);rintro k A D E a d f h' ⟨i,rfl,rfl,rfl,rfl,rfl,rfl,U,rfl⟩;unfold tf;by_cases hi:i<l.length;rotate_left
 ·exact jG H
 refine hV ?_
 let⟨c,j,hat,hcj,hdom⟩:=K _ (Cj hi)
 have g:c<u.blocks.length:=by
  let⟨B,W,_⟩:=hat
  exact by grind
 let⟨L,M⟩:=C.Wf.yes _ c j hat (.inl g)
 let⟨X,o1,_,N,O⟩:=y.nat (iH hi) .i64
 let⟨l2,o2,_,G,J⟩:=C.Zq.int L .i64
 let⟨l3,Y,_,P,R⟩:=C.ZG.int M .i64
 refine ec N (ec O (ec (fj _ _) (ec (by rfl) (ec (C.ck.ld 5 rfl) (ec G (ec J (ec (by rfl) ?_)))))));have e:jq (.bool (((c:Int)) == (b:Int))) (oB (some (V.ptr lc 0)) λm=>oB (iu m) λn=>oB (fI 6 n) λo=>oB (en o h') λq=>oB (some (V.I (l[i]:Nat))) λr=>oB (gy 1 q r) λs=>oB (en s h') λt=>oB (some (V.I p)) λx=>ef .geq 3 t x)=some (.bool false):=by
  have l6:=C.ck.ld 6 rfl;simp only[eQ,fj,fH,l6,P,R,nU,ir];congr 2;rw[Xh];intro S;simp[qU,Jg,IM]at S;have:=by omega
  omega
 refine ec e ?_;refine gM (ec rfl (gM (ec rfl (gM (ec (fj _ _) (gM (ec (by rfl) (gM (ec (C.ck.ld 5 rfl) (gM (ec rfl (gM (ec G (gM (ec J (gM (ec rfl (tN ?_))))))))))))))))));refine K4 C z ((C.OE.iff c b z).2 hdom) (ec rfl (je (gB (by simp) ?_)));exact gq ⟨k-1,by omega,i+1,rfl,rfl,rfl,rfl,rfl,rfl,by omega,rfl⟩
theorem EE(C:Cx F h cs lc u vv vb vs bl pl AZ xs ys Ac I){s b p:Nat}{fs:List Fm}(m:u.eh[s]? =some fs)(x:fs.length<=30/\∀f∈fs,f.locals.length<=40/\f.stack.length<=60)(n:b<u.blocks.length)
  (G:∀w∈jh fs,∃c j,At u w c j/\(c=b->j<p)/\wA (next u) c b) (H:∀h',Sn F h F h'->er F h' cs->Q (.bool true) h') :
  cP CS iG [.ptr lc 0,.I s,.I b,.I p] h Q:=by
 refine yH rfl rfl ?_;unfold qK
 let⟨J,o1,f,_,y,_,z,o⟩:=C.ck.u.st m
 refine ec (fj _ _) (ec (by rfl) (ec (by rfl) (ec (C.ck.ld 4 rfl) (ec y (ec (by rfl) (ec z (ec o.len ?_)))))))
 refine wD (λk q r t d e g h'=>∃j,q = .ptr lc 0/\r = .I b/\t = .I p/\d=f/\e = .I fs.length/\g = .I (j:Nat)/\j+k=fs.length/\Sn F h F h'/\er F h' cs) ?_ (k:=fs.length)
  ⟨0,rfl,rfl,rfl,rfl,rfl,rfl,by omega,Sn.refl _ _,C.ck.H⟩
 rintro k q r t d e g A ⟨j,rfl,rfl,rfl,rfl,rfl,rfl,K,s1,v⟩;unfold oh;by_cases hj:j<fs.length;rotate_left
 ·exact jG (H A s1 v)
 refine hV ?_
 let⟨l3,L,a,c,_,B,D,ja,jb⟩:=(o.since s1).Zm (iH hj)
 let⟨f1,f2⟩:=x.2 _ (Cj hj)
 have E:∀w,w∈fs[j].locals\/w∈fs[j].stack->w∈jh fs:=by grind[jh,Cj]
 refine ec B (ec D ?_);refine jy v rfl rfl (by simp only[WH,fc,ja.one,jb.one];rfl) λM i l=>?_;have C2:=C.since (s1.trans l) i.tail;refine ec (by rfl) (ec (i.ld 0 rfl rfl) ?_);refine EI C2 (ja.since l) (by omega) n (by simp_all) (ec rfl ?_);refine gM (ec rfl (gM (ec (by rfl) (gM (ec (i.ld 0 rfl rfl) (gM (ec rfl (gM (ec rfl (tN ?_))))))))));refine EI C2 (jb.since l) (by omega) n (by simp_all) (ec rfl (je (gB (by simp) ?_)));exact gq ⟨k-1,by omega,j+1,rfl,rfl,rfl,rfl,rfl,rfl,by omega,s1.trans l,i.tail⟩
theorem OJ{w b k:Nat}(h:O2 u w b k):∃c j,At u w c j/\(c=b->j<k)/\wA (next u) c b:=by
 let⟨c,j,d,a⟩:=h
 rcases a with⟨rfl,a⟩|⟨a,e⟩
 ·grind[wA.self]
 grind
theorem Dg{w b:Nat}{B:Bk}(f:u.blocks[b]? =some B)(h:DC u w b):∃c j,At u w c j/\(c=b->j<B.ee.length)/\wA (next u) c b:=by
 let⟨c,j,a,d⟩:=h
 refine⟨c,j,a,λe=>?_,d⟩;subst e
 let⟨B',g,i⟩:=a
 grind
theorem RP{lv:Nat}{x:Vl}{w:V}{A:V}{i k:Nat}(a:A = .ptr lc 0)(C:Cx F h (ey lv uf (qT x w)::cs) lc u vv vb vs bl pl AZ xs ys Ac I)(hc:lv≠lc)(D:en (.ptr lv 5) h=some (.I x.state))(E:i<u.blocks.length)
  (G:leaves x.op=true->∃fs,u.eh[x.state]? =some fs/\(fs.length<=30/\∀f∈fs,f.locals.length<=40/\f.stack.length<=60)/\∀w∈jh fs,∃c j,At u w c j/\(c=i->j<k)/\wA (next u) c i) {K:fm}
  (B:∀h',Sn F h F h'->er F h' (ey lv uf (qT x w)::cs)->K (.bool false) h') :
  oP (gg true (.bool (leaves x.op))) λb=>
  oP (gV b (some A)) λd=>
  oP (gg true (.bool (leaves x.op))) λe=>
  oP (gV e (fI 5 (.ptr lv 0))) λg=>
  oP (gg true (.bool (leaves x.op))) λl=>
  oP (gV l (en g h)) λm=>
  oP (gg true (.bool (leaves x.op))) λn=>
  oP (gV n (some (.I i))) λo=>
  oP (gg true (.bool (leaves x.op))) λp=>
  oP (gV p (some (.I k))) λq=>
  oP (gg true (.bool (leaves x.op))) λr=>
  oP (gC r (some (iG,[d,m,o,q]))) λs=>xa CS s h λt J=>
  oP (gg true (.bool (leaves x.op))) λv=>
  oP (gV v (tk .not t)) λy=>
  oP (mh (.bool false) (ma (.bool (leaves x.op)) y (V.bool false))) λz=>K z J:=by
 subst a
 cases hq:leaves x.op with
 | true=>
   let⟨fs,L,M,N⟩:=G hq
   refine jl (ec rfl (jl (ec (by rfl) (jl (ec D (jl (ec rfl (jl (ec rfl (Hj ?_))))))))))
   refine EE C L M E N λh' O P=>jl (ec rfl (ec rfl (B h' O P)))
 |false=>exact nR (nR (nR (nR (nR (Rz (nR (ec rfl (B h (Sn.refl _ _) C.ck.H))))))))
theorem Q3(g:Good u)(C:Cx F h cs lc u vv vb vs bl pl AZ xs ys Ac I)(ah:lc<h.next){i:Nat}{B:Bk}(d:u.blocks[i]? =some B)(H:∀F' h',Sn F h F' h'->er F' h' cs->Q (.bool true) h'):cP CS kP [.ptr lc 0,.I i] h Q:=by
 refine Cr rfl rfl ?_;unfold ve;have nv:=g.nv;have nb:=g.nb;have r:i<u.blocks.length:=by grind
 have ai:∀s (fs:List Fm),u.eh[s]? =some fs->fs.length<=30/\∀f∈fs,f.locals.length<=40/\f.stack.length<=60:=λs fs a=>by
  let⟨_,h2,h3⟩:=g.st s fs a
  simp_all
 have aj:B.ee.length<=3000:=by
  have:=wx u.ee.length B.ee (Dp g d) λv hv=>by
   let⟨k,hk⟩:=mM.1 hv
   exact g.vR v i k ⟨B,d,hk⟩
  omega
 let⟨l7,o7,bv,bn,bp,_,i1,i2,M,iN,ip,_⟩:=C.ck.u.wh d
 refine ec (fj _ _) (ec (by rfl) (ec (by rfl) (ec (C.ck.ld 3 rfl) (ec i1 (ec i2 ?_)))));refine jy C.ck.H rfl rfl (by simp only[lC,fc,M.one,iN.one,ip.one];rfl) λh2 H2 N=>?_;have C2:=C.cons N H2;have M:=M.since N;have ip:=ip.since N;refine ec (by rfl) (ec (H2.ld 0 rfl rfl) (ec M.len (ec (by rfl) (ec (H2.ld 0 rfl rfl) (ec M.len ?_)))))
 refine zD (λk R S T U c l n h'=>∃(F':Nat->Prop) (j:Nat),R = .ptr lc 0/\S = .I i/\T = .ptr h.next 0/\U = .I B.ee.length/\c=bv/\l = .I B.ee.length/\n = .I j/\j+k=B.ee.length/\
  Sn F h2 F' h'/\er F' h' (ey h.next 44 (lC B bv bn bp)::cs)) ?_ (k:=B.ee.length) ⟨F,0,rfl,rfl,rfl,rfl,rfl,rfl,rfl,by omega,Sn.refl _ _,H2⟩
 rintro k R S T U c l n h3 ⟨F3,j,rfl,rfl,rfl,rfl,aa,rfl,rfl,hk,t,y⟩;subst c;unfold rB;have C3:=C2.since t y;by_cases hj:j<B.ee.length;rotate_left
 ·refine jG ?_;refine ec (by rfl) (ec (y.ld 0 rfl rfl) ?_);by_cases c2:B.fin=2
  ·refine hH (gU (by omega) ?_);refine ec (by rfl) (ec (y.ld 0 rfl rfl) ?_);refine U4 [B.cond] (Eh _) y λF4 h4 v o q r4=>?_;refine EI (C3.since q o) r4 (by simp) r (λw hw=>?_) (H _ _ ((N.trans t).trans q) o.tail);obtain rfl:=Ig.1 hw;exact Dg d (g.Se i B d c2)
  refine hH (gB (by omega) ?_);by_cases c3:B.fin=3
  ·refine hH (gU (by omega) ?_);refine ec (by rfl) (ec (y.ld 0 rfl rfl) ?_);have ab:B.state<u.eh.length:=by
    rcases g.fin i B d with⟨E,_⟩|⟨E,_⟩|⟨_,_,E⟩
    ·omega
    ·omega
    ·exact E
   obtain⟨fs,a⟩:∃fs,u.eh[B.state]? =some fs:=by simp_all
   refine EE C3 a (by grind) r (λw hw=>Dg d (g.Qx i B fs d c3 a w hw)) λh4 q o=>H _ _ ((N.trans t).trans q) o.tail
  ·exact hH (gB (by omega) (H _ _ (N.trans t) y.tail))
 refine hV ?_;have e:At u (B.ee[j]) i j:=⟨B,d,iH hj⟩
 have ak:=g.vR _ _ _ e;obtain⟨x,A⟩:∃x,u.ee[B.ee[j]]? =some x:=by simp_all
 have ac:B.ft.length<=700:=by
  rw[g.ft i B d,<-nP];have:=od g (j:=0) (b:=i) (jn _) (by omega);omega
 have ae:x.op=21\/x.op=20->x.args.length<=700:=by
  rintro(E|E)
  ·rw[(g.T3 _ _ _ _ _ e A E d).2];exact ac
  ·rw[g.putAt _ x A E];omega
 let⟨l9,o9,_,j1,j2⟩:=(M.since t).nat (iH hj) .i64
 let⟨MK,al,w,_,q1,q2,iw,_⟩:=C3.ck.u.val A
 refine ec j1 (ec j2 (ec (fj _ _) (ec (by rfl) (ec (by rfl) (ec (C3.ck.ld 2 rfl) (ec q1 (ec q2 ?_)))))));refine jy y rfl rfl (by simp only[qT,fc,iw.one];rfl) λh4 o q=>?_;have C4:=C3.cons q o;have G:=iw.since q;have am:=(y.ok 0 _ rfl).2.1;refine ec (by rfl) (ec (o.ld 0 rfl rfl) ?_);by_cases J:x.op=21
 ·refine hH (gU (by omega) ?_);refine ec (by rfl) (ec (o.ld 0 rfl rfl) (ec G.len ?_));have an:=(g.T3 _ _ _ _ _ e A J d).2
  refine zO (λk R S T U c l n K V W h'=>∃F' m,R = .ptr lc 0/\S = .I i/\T = .ptr h.next 0/\U = .I B.ee.length/\c=bv/\l = .I B.ee.length/\n = .I j/\K=w/\V = .I x.args.length/\W = .I (m:Nat)/\m+k=x.args.length/\
   Sn F3 h4 F' h'/\er F' h' (ey h3.next 46 (qT x w)::ey h.next 44 (lC B bv bn bp)::cs)) ?_ (k:=x.args.length) ⟨F3,0,rfl,rfl,rfl,rfl,rfl,rfl,rfl,rfl,rfl,rfl,by omega,Sn.refl _ _,o⟩
  rintro k2 R S T U c l n K V W h5 ⟨F5,m,rfl,rfl,rfl,rfl,aa,rfl,rfl,ao,rfl,rfl,aq,D,L⟩;subst c K;unfold re;have C5:=C4.since D L;by_cases hm:m<x.args.length;rotate_left
  ·refine jG ?_;refine qL ?_;unfold mz;exact gq ⟨k-1,by omega,F5,j+1,rfl,rfl,rfl,rfl,rfl,rfl,rfl,by omega,(t.trans q).trans D,L.tail⟩
  refine hV ?_
  let⟨Ir,ar,hl11,m1,m2⟩:=(G.since D).nat (iH hm) .i64
  refine ec m1 (ec m2 ?_);have au:m<B.ft.length:=by omega
  obtain⟨p,hp⟩:∃p,B.ft[m]? =some p:=by simp_all
  have ag:p<u.blocks.length:=by
   have:=xu hp;rw[g.ft i B d]at this;exact(g.RM (zm.1 this)).1
  obtain⟨P,hP⟩:∃P,u.blocks[p]? =some P:=by simp_all
  rw[Eh,ij]
  let⟨O,X,r6⟩:=L.Sr fy rfl (ux F5 h5 [x.args[m]]) false
  have g6:(h5.new (.cells 3 1 true false (mc [x.args[m]]))).get h5.next=some (.cells 3 1 true false (mc [x.args[m]])):=ez _ _;have C6:=C5.since X O
  let⟨UR,aw,_,n1,n2⟩:=(((ip.since t).since q).since (D.trans X)).nat hp .i64
  let⟨Wy,ax,pv,pn,pp,_,p1,_,pvr,_,_,pa⟩:=C6.ck.u.wh hP
  refine ec (by rfl) (ec (O.ld 1 rfl rfl) (ec n1 (ec n2 (ec (fj _ _) (ec (by rfl) (ec (by rfl) (ec (C6.ck.ld 3 rfl) ?_)))))));refine ec (by rfl) (ec (O.ld 1 rfl rfl) (ec n1 (ec n2 (ec p1 (ec (by rfl) (ec pa.ee (ec pvr.len ⟨by simp_all,?_⟩)))))));refine EI C6 r6 (by simp) ag (λz Y=>?_) ⟨jn _,yz (gU rfl ?_)⟩
  ·obtain rfl:=Ig.1 Y;exact Dg hP (g.Sp _ i j x B e A J d m _ p (by simp_all) hp)
  ·exact gq ⟨k2-1,by omega,_,m+1,rfl,rfl,rfl,rfl,rfl,rfl,rfl,rfl,rfl,rfl,by omega,D.trans X,O⟩
 refine hH (gB (by omega) ?_);refine ec (o.CI 0 rfl rfl) ?_;refine Kl o G (by omega) λF5 h5 v D L r5=>?_;have C5:=C4.since D L;refine EI C5 r5 (by grind[AR]) r (λz Y=>OJ (g.NR _ i j x e A J z Y)) (ec rfl ?_);refine gM (ec (by rfl) (gM (ec (L.ld 0 rfl rfl) (tN ?_))));refine JZ (gM (ec rfl ?_));refine RP rfl C5 (by omega) (L.ld 0 rfl rfl) r (λZ=>?_) λh6 X O=>?_
 ·have ab:=g.leave _ x A Z;obtain⟨fs,a⟩:∃fs,u.eh[x.state]? =some fs:=by simp_all
  exact⟨fs,a,by grind,λz Y=>OJ (g.NT _ i j x fs e A Z a z Y)⟩
 ·refine je (gB (by simp) ?_);refine qL ?_;unfold mz;exact gq ⟨k-1,by omega,F5,j+1,rfl,rfl,rfl,rfl,rfl,rfl,rfl,by omega,((t.trans q).trans D).trans X,O.tail⟩
end
open Un Dm
section
variable{F F':Nat->Prop}{h h':Hp}{cs:List Pc}{Q:fm}{u:U}{vv vb vs:V}
theorem Lr(g:Good u)(H0:er F h cs)(hu:Af F h u vv vb vs)(H:∀F' h',Sn F h F' h'->er F' h' cs->Q (.bool true) h'):cP CS uh [.agg (uC u vv vb vs)] h Q:=by
 refine Mq rfl rfl ?_;unfold Gt;have nv:=g.nv;have nb:=g.nb;have Oz:=g.Oz;have ns:=g.ns;refine qx H0 hu.one λz B s1=>?_;have w:=hu.since s1;have l2:en (.ptr h.next (0+2)) z=some vv:=B.ld 0 rfl rfl;have l3:en (.ptr h.next (0+3)) z=some vb:=B.ld 0 rfl rfl;have l4:en (.ptr h.next (0+4)) z=some vs:=B.ld 0 rfl rfl;refine oF l2 (ec w.v.len (ec (my _ _ _ _) ?_));rw[OI (by omega)];have e1:mh (.bool false) (oB (fI 3 (.ptr h.next 0)) λk=>oB (en k z) λl=>oB (fF l) λm=>ef .gtr 3 m (V.I 300))=some (.bool false):=by
  simp only[qJ,fH,eQ,l3,w.b.len,my];rw[OI (by omega)]
 have e2:mh (.bool false) (oB (fI 4 (.ptr h.next 0)) λk=>oB (en k z) λl=>oB (fF l) λm=>ef .gtr 3 m (V.I 1000))=some (.bool false):=by
  simp only[qJ,fH,eQ,l4,w.s.len,my];rw[OI (by omega)]
 have e3:mh (.bool false) (oB (fI 3 (.ptr h.next 0)) λk=>oB (en k z) λl=>oB (fF l) λm=>ef .eql 3 m (V.I 0))=some (.bool false):=by
  simp only[qJ,fH,eQ,l3,w.b.len,ig];congr 2;rw[W5];omega
 refine ec e1 (ec e2 (ec e3 (je (gB (by simp) ?_))));refine ec (B.CI 0 rfl rfl) (ec (show _=some (V.agg [.I u.func,.I u.pc,vv,vb,vs,.ed,.ed,.ed]) from rfl) ?_);refine qx B (by simp only[fc,w.v.one,w.b.one,w.s.one];rfl) λL M s2=>?_;have E:=w.since s2;generalize z.next=lc at*;have l4:en (.ptr h.next (0+4)) L=some vs:=M.ld 1 rfl rfl;refine oF l4 (ec E.s.len ?_);have C2:Ck F L (ey lc 76 [.I u.func,.I u.pc,vv,vb,vs,.ed,.ed,.ed]::ey h.next 29 (uC u vv vb vs)::cs) lc u vv vb vs .ed .ed .ed:=⟨M,⟨0,_,rfl⟩,E⟩
 refine Iu (by omega) (λF' h'=>F' = F/\Sn F L F h'/\er F h' (ey lc 76 [.I u.func,.I u.pc,vv,vb,vs,.ed,.ed,.ed]::ey h.next 29 (uC u vv vb vs)::cs)) ⟨rfl,Sn.refl _ _,M⟩ (λi hi F' h' a q r=>?_) λF3 h3 a=>?_
 ·obtain⟨rfl,f,n⟩:=a;show cP CS kL [.ptr lc 0,.I i] h' q;have hs:=iH hi;obtain⟨g1,g2,g3⟩:=g.st i _ hs;exact Rg (C2.since f n) hs ⟨g1,g2⟩ g3 λc d e=>r F' c ⟨rfl,f.trans d,e⟩
 obtain⟨rfl,N,H3⟩:=a;refine ec rfl (gM (ec rfl (tN ?_)));refine QQ g H3 (E.since N) λO P x y xs ys s4 R rb rp Wf=>?_;refine ec rfl (gM (ec rfl ?_));have S:=(E.since N).since s4;have T:Ck O P (ey lc 76 [.I u.func,.I u.pc,vv,vb,vs,x,y,.ed]::ey h.next 29 (uC u vv vb vs)::cs) lc u vv vb vs x y .ed:=⟨R,⟨0,_,rfl⟩,S⟩
 have l2:en (.ptr h.next (0+2)) P=some vv:=R.ld 1 rfl rfl;refine gM (ec (fH _ _ _) (gM (ec l2 (gM (ec S.v.len (gM (ec rfl (gM (ec rfl (tN ?_))))))))));refine Iu (F:=O) (by omega) (λF' h'=>Sn O P F' h'/\er F' h' (ey lc 76 [.I u.func,.I u.pc,vv,vb,vs,x,y,.ed]::ey h.next 29 (uC u vv vb vs)::cs)) ⟨Sn.refl _ _,R⟩ (λi hi F' h' a q r=>?_) λF5 h5 a=>?_
 ·obtain⟨f,n⟩:=a;show cP CS jD [.ptr lc 0,.I i] h' q;exact Wb g (T.since f n) (rb.since f) Wf hi (n.ok 0 _ rfl).2.1 λj c d e=>r j c ⟨f.trans d,e⟩
 obtain⟨J,K⟩:=a;have u5:=S.since J;have l3:en (.ptr h.next (0+3)) h5=some vb:=K.ld 1 rfl rfl;refine ec rfl (gM (ec rfl (gM (ec (fH _ _ _) (gM (ec l3 (gM (ec u5.b.len (gM (ec rfl (gM (ec rfl (tN ?_)))))))))))));refine Iu (F:=F5) (by omega) (λF' h'=>Sn F5 h5 F' h'/\er F' h' (ey lc 76 [.I u.func,.I u.pc,vv,vb,vs,x,y,.ed]::ey h.next 29 (uC u vv vb vs)::cs)) ⟨Sn.refl _ _,K⟩ (λi hi F' h' a q r=>?_) λF6 h6 a=>?_
 ·obtain⟨f,n⟩:=a;show cP CS lg [.ptr lc 0,.I i] h' q;exact TB g ((T.since J K).since f n) (iH hi) λj c d e=>r j c ⟨f.trans d,e⟩
 obtain⟨U,W⟩:=a;have u6:=u5.since U;have l3:en (.ptr h.next (0+3)) h6=some vb:=W.ld 1 rfl rfl;refine ec rfl (gM (ec rfl (gM (ec (fH _ _ _) (gM (ec l3 (gM (ec u6.b.len (gM (ec rfl (gM (ec rfl (tN ?_)))))))))))));refine Iu (F:=F6) (by omega) (λF' h'=>Sn F6 h6 F' h'/\er F' h' (ey lc 76 [.I u.func,.I u.pc,vv,vb,vs,x,y,.ed]::ey h.next 29 (uC u vv vb vs)::cs)) ⟨Sn.refl _ _,W⟩ (λi hi F' h' a q r=>?_) λF7 h7 a=>?_
 ·obtain⟨f,n⟩:=a;show cP CS lN [.ptr lc 0,.I i] h' q;exact Vx g (((T.since J K).since U W).since f n) (iH hi) λj c d e=>r j c ⟨f.trans d,e⟩
 obtain ⟨s7,H7⟩:=a;have u7:=u6.since s7;refine ec rfl (je (gB (by simp) ?_));refine Cn rfl rfl ?_;unfold vx;have lA:fZ 5 (.ptr lc 0) h7=some (.agg (uC u vv vb vs)):=by
  rw[Ew (H7.get 0 rfl),Dl (by simp)];rfl
 refine ec (fj _ _) (ec (fH _ _ _) (ec lA ?_));refine DP g H7 u7 λF8 h8 vo seen post s8 X G ro=>?_;have Y:=u7.since s8;have lo:=ro.len;rw[List.length_reverse,DE g G]at lo;refine ec lo (oF (X.ld 1 rfl rfl) (ec Y.b.len (Hh (gU rfl ?_))));refine ec (X.CI 1 rfl rfl) ?_;refine IU g X Y λZ h9 vd Ac I aa ab G' s9 H9 rd d1 d2 d3 d4 d5=>?_;obtain⟨C,ac,ai,t,A⟩:=H9.st 0 (o:=7) (u:=vd) rfl (by simp) rd.one;refine ec (fj _ _) (ec (fH _ _ _) ?_);rw[show V.ptr lc (0+7)=V.ptr lc 7 from rfl,ac,ej];simp only[AT,ot]at t;have D:=(Y.since s9).since A;refine oF (t.ld 1 rfl rfl) (ec D.b.len ?_);have p:=((((J.trans U).trans s7).trans s8).trans s9).trans A
 have ae:Cx Z C (ey lc 76 [.I u.func,.I u.pc,vv,vb,vs,x,y,vd]::ey h.next 29 (uC u vv vb vs)::cs) lc u vv vb vs x y vd xs ys Ac I:=
  ⟨⟨t,⟨0,_,rfl⟩,D⟩,rb.since p,rp.since p,rd.since A,Wf,⟨d1,d2,d3,⟨G'.gr.place,λb hb h0=>d4.up b hb h0⟩,d5⟩⟩
 refine Iu (F:=Z) (by omega) (λF' h'=>Sn Z C F' h'/\er F' h' (ey lc 76 [.I u.func,.I u.pc,vv,vb,vs,x,y,vd]::ey h.next 29 (uC u vv vb vs)::cs)) ⟨Sn.refl _ _,t⟩ (λi hi F' h' a q r=>?_) λaj ak a=>?_
 ·obtain⟨f,n⟩:=a;show cP CS kP [.ptr lc 0,.I i] h' q;exact Q3 g (ae.since f n) (n.ok 0 _ rfl).2.1 (iH hi) λj c d e=>r j c ⟨f.trans d,e⟩
 obtain⟨ag,ah⟩:=a;exact H _ _ (((((s1.trans s2).trans N).trans s4).trans p).trans ag) ah.tail.tail
end
