/- Parts. -/
import Derived.Test.YtcoaokdoecgcbaaGreatDoorM26
set_option maxHeartbeats 4000000
namespace Go.Proofs.YtcoaokdoecgcbaaGreatDoor.Hx
open Un Dm
structure zbw (G:Dm.Gr) (I:Nat->Nat) (S:Nat->Prop) (b:Nat):Prop where
 low:∀p,S p->G.AH p b->qd I (I b) p
 zfB:∀x,(∀p,S p->G.AH p b->qd I x p)->qd I x (I b)
theorem Tn(I:Nat->Nat)(b:Nat):Dm.set I b (I b)=I:=by
 grind[Dm.set]
theorem Wi{S:Nat->Prop}{b:Nat}(h:S b):(λx=>S x\/x=b)=S:=by
 grind
theorem zaf{G:Dm.Gr}{I:Nat->Nat}{S:Nat->Prop}{k n:Nat}(o:Dm.Inv G I S k 1)(i:∀b,G.node b->S b)(f:∀b,G.node b->b≠0->zbw G I S b)(a:∀b,G.node b->G.place b<n)(c:∀p,p<n->∃b,G.node b/\G.place b=p):Dm.Inv G I S (k+1) 1:=by
 have d:∀m,1+m<=n->Dm.Inv G I S k (1+m):=by
  intro m
  induction m with
  |zero=>simp_all
  | succ m j=>
    intro q;have l:=j (by omega)
    let⟨b,hb,hp⟩:=c (1+m) (by omega)
    have h0:b≠0:=λe=>by subst e;rw[G.Dj]at hp;omega
    have g:=(l.KL hb h0 hp (f b hb h0).low (f b hb h0).zfB).1;rw[Tn,Wi (i b hb)]at g;exact g
 have r:1<=n:=by have:=a 0 G.first;omega
 have h:=d (n-1) (by omega);rw[show 1+(n-1)=n by omega]at h;exact h.pass a
theorem Sy{G:Dm.Gr}{I:Nat->Nat}{S:Nat->Prop}{k n:Nat}(d:Dm.Inv G I S k 1)(e:∀b,G.node b->S b)(f:∀b,G.node b->b≠0->zbw G I S b)(a:∀b,G.node b->G.place b<n)(c:∀p,p<n->∃b,G.node b/\G.place b=p):∀m,Dm.Inv G I S (k+m) 1
 |0=>d
 |m+1=>zaf (Sy d e f a c m) e f a c
section
variable{u:U}{seen:List Bool}{post:List Nat}
theorem J8(g:Good u)(G:LK u.blocks.length (next u) seen post []):∀b,b<u.blocks.length->b∈post:=by
 have c:∀b l,Pt (next u) b l->b∈post:=by
  intro b l a
  induction a with
  |nil=>let⟨p,a⟩:=G.last rfl;simp_all
  | step _ d e=>
    have:=(G.iff _).1 (G.closed _ e _ d)
    simp_all
 intro b f
 let⟨l,hl⟩:=g.reach b f
 grind
theorem JO(g:Good u)(G:LK u.blocks.length (next u) seen post []):post.length=u.blocks.length:=G.all (J8 g G)
theorem Rp(G:LK u.blocks.length (next u) seen post []):post.reverse.Nodup:=by
 have:=G.nodup
 grind
theorem Ot(G:LK u.blocks.length (next u) seen post []){i b:Nat}(h:post.reverse[i]? =some b):G.gr.place b=i:=by
 show post.reverse.idxOf b=i;obtain⟨hi,rfl⟩:=kE.1 h;have a:=Rp G
 grind
end
section
variable{F F':Nat->Prop}{h h':Hp}{cs:List Pc}{Q:fo}{u:U}{vv vb vs:V}
structure Vo (S:Nat->Prop) (I:Nat->Nat) (n:Nat) (CO:List Int):Prop where
 len:CO.length=n
 yes:∀b,S b->CO[b]? =some (I b:Int)
 no:∀b,b<n->¬S b->CO[b]? =some (-1)
theorem zbv{G:Dm.Gr}{I:Nat->Nat}{S:Nat->Prop}{n l5 l6 E t6:Nat}{u vp:V}{CO:List Int}{pl:List Nat}(g:ej F h cs){i5 i6 ii ip:Nat}(v:cs[i5]? =some (ft l5 E [u]))(w:cs[i6]? =some (ft l6 t6 [vp]))(hi:cs[ii]? =some (fE eZ fw CO u))(y:cs[ip]? =some (fE eN fw pl vp))
  (i:Tree G I S) (z:Vo S I n CO) (l:∀b,G.node b->pl[b]? =some (G.place b)) {a b:Nat} (J:S a) (K:S b)
  (H:∀d,S d->qd I d a->qd I d b->(∀x,qd I x a->qd I x b->qd I x d)->Q (.I (d:Nat)) h):cP CS je [.I a,.I b,.ptr l6 0,.ptr l5 0] h Q:=by
 refine Ji rfl rfl ?_;unfold zL
 refine EF (λk A B C D h'=>∃c f,A = .I (c:Nat)/\B = .I (f:Nat)/\C = .ptr l6 0/\D = .ptr l5 0/\h' = h/\k=G.place c+G.place f/\S c/\S f/\qd I c a/\qd I f b/\(∀x,qd I x a->qd I x b->qd I x c/\qd I x f)) ?_
  ⟨a,b,rfl,rfl,rfl,rfl,rfl,rfl,J,K,.refl _,.refl _,by simp_all⟩
 rintro k A B C D h' ⟨c,f,rfl,rfl,rfl,rfl,rfl,P,sa,sb,m,o,L⟩;unfold vN;by_cases e:c=f
 ·subst e;refine Ef (gN rfl ?_);exact H c sa m o λx p q=>(L x p q).1
 refine Ef (gD (by omega) ?_)
 let⟨lp,op,p1,p2⟩:=g.Xx ip y (l c (i.node _ sa)) .i64
 let⟨lq,oq,M,N⟩:=g.Xx ip y (l f (i.node _ sb)) .i64
 refine ec (g.ld i6 w rfl) (ec p1 (ec p2 (ec (g.ld i6 w rfl) (ec M (ec N ?_)))));by_cases EO:G.place f<G.place c
 ·refine SH (gN (by omega) ?_)
  let⟨li,oi,r,s⟩:=g.AI ii hi (z.yes c sa) .i64
  refine ec (g.ld i5 v rfl) (ec r (ec s ?_));have h0:c≠0:=λe=>by subst e;rw[G.Dj]at EO;omega
  let⟨t,O⟩:=i.up c sa h0
  exact⟨_,by omega,I c,f,rfl,rfl,rfl,rfl,rfl,rfl,t,sb,(qd.up h0 (.refl _)).trans m,o,λx p q=>⟨i.zcj sa sb EO (by simp_all) (by simp_all),by simp_all⟩⟩
 ·refine SH (gD (by omega) ?_)
  let⟨li,oi,r,s⟩:=g.AI ii hi (z.yes f sb) .i64
  refine ec (g.ld i5 v rfl) (ec r (ec s ?_));have j:G.place c<G.place f:=by
   have:G.place c≠G.place f:=λe'=>e (G.inj _ _ (i.node _ sa) (i.node _ sb) e');omega
  have h0:f≠0:=λe=>by subst e;rw[G.Dj]at j;omega
  let⟨t,O⟩:=i.up f sb h0
  exact⟨_,by omega,c,I f,rfl,rfl,rfl,rfl,rfl,rfl,sa,t,m,(qd.up h0 (.refl _)).trans o,λx p q=>⟨by simp_all,i.zcj sb sa j (by simp_all) (by simp_all)⟩⟩
theorem OR(g:Good u)(H0:ej F h cs)(hu:Is F h u vv vb vs)
  (H:∀F' h' v CO I seen post (G:LK u.blocks.length (next u) seen post []),Sn F h F' h'->ej F' h' cs->iH eZ F' h' CO v->CO.length=u.blocks.length->CO[0]? =some (-1)->(∀b,b≠0->b<u.blocks.length->CO[b]? =some (I b:Int))->Tree G.gr I (λb=>b<u.blocks.length)->
   (∀x b,b<u.blocks.length->(qd I x b↔Aw (next u) x b))->Q v h'):cP CS qP [.agg (uC u vv vb vs)] h Q:=by
 refine KR rfl rfl ?_;unfold Ca;have nb:=g.nb;have XW:=g.XW;refine rL H0 hu.one λr H1 s1=>?_;have lA:=H1.zB 0 rfl rfl;refine ec lA (ec lA ?_);refine JG g H1 (hu.since s1) λF2 h2 vo seen post s2 H2 G r2=>⟨s2.next,H2.zB 0 rfl rfl,?_⟩
 refine TW g H2 (hu.since (s1.trans s2)) λR U va s3 H3 r3=>⟨s3.next,?_⟩
 have u3:=hu.since ((s1.trans s2).trans s3);have r2:=r2.since s3;refine oF (H3.ld 0 rfl rfl) (ec u3.b.len ?_);rw[pC rfl (by decide) (by omega),hH];obtain⟨H4,s4⟩:=H3.make (E:=eZ) u.blocks.length rfl rfl;have n4:(U.new (.cells fw 1 true false (List.replicate u.blocks.length (V.I 0)))).next=U.next+1:=rfl;have g4:(U.new (.cells fw 1 true false (List.replicate u.blocks.length (V.I 0)))).get U.next=some (.cells 3 1 true false (List.replicate u.blocks.length (V.I 0))):=eJ _ _;show oP (fK 3 (.ptr h.next 0)) _;generalize bL:U.new (.cells fw 1 true false (List.replicate u.blocks.length (V.I 0)))=W at*;refine oF (H4.ld 1 rfl rfl) (ec (u3.since s4).b.len ?_);rw[pC rfl (by decide) (by omega),hH];obtain⟨H5,s5⟩:=H4.make (E:=eN) u.blocks.length rfl rfl;have n5:(W.new (.cells fw 1 true false (List.replicate u.blocks.length (V.I 0)))).next=W.next+1:=rfl;have g5:(W.new (.cells fw 1 true false (List.replicate u.blocks.length (V.I 0)))).get W.next=some (.cells 3 1 true false (List.replicate u.blocks.length (V.I 0))):=eJ _ _;have bb:=(eE (.cells fw 1 true false (List.replicate u.blocks.length (V.I 0))) (by omega)).trans g4;generalize bQ:W.new (.cells fw 1 true false (List.replicate u.blocks.length (V.I 0)))=h5 at*;rw[hH]
 let⟨H6,s6⟩:=H5.HM jE [V.ed]
 have n6:(h5.new (.cells jE 1 true false [V.ed])).next=h5.next+1:=rfl;have g6:(h5.new (.cells jE 1 true false [V.ed])).get h5.next=some (.cells 22 1 true false [V.ed]):=eJ _ _;have bc:=(eE (.cells jE 1 true false [V.ed]) (by omega)).trans g5;have bd:=(eE (.cells jE 1 true false [V.ed]) (by omega)).trans bb;show vj _ (h5.new (.cells jE 1 true false [V.ed])) _;generalize bR:h5.new (.cells jE 1 true false [V.ed])=h6 at*;rw[hH]
 let⟨H7,s7⟩:=H6.HM jE [V.ed]
 have g7:(h6.new (.cells jE 1 true false [V.ed])).get h6.next=some (.cells 22 1 true false [V.ed]):=eJ _ _;have be:=(eE (.cells jE 1 true false [V.ed]) (by omega)).trans g6;have aG:=(eE (.cells jE 1 true false [V.ed]) (by omega)).trans bc;have bf:=(eE (.cells jE 1 true false [V.ed]) (by omega)).trans bd;show(((h6.new (.cells jE 1 true false [V.ed])).get h6.next=_/\_)/\_);generalize bS:h6.new (.cells jE 1 true false [V.ed])=h7 at*;refine⟨⟨g7,O.jA _ _ _ _ _⟩,⟨be,O.jA _ _ _ _ _⟩,⟨aG,O.jA _ _ _ _ _⟩,H7.ld 4 rfl rfl,⟨bf,O.jA _ _ _ _ _⟩,H7.ld 4 rfl rfl,?_⟩
 let⟨h8,e8,n8,H8,s8,k8⟩:=H7.stk 1 (o:=0) (u:= .slice U.next 0 u.blocks.length) rfl (by simp) rfl
 rw[e8,eh];refine⟨n8,⟨(k8 _ (by omega)).trans aG,O.jA _ _ _ _ _⟩,(by simp[ AD]at H8;exact H8.ld 4 rfl rfl),?_⟩;simp[ AD]at H8
 let⟨h9,e9,n9,H9,s9⟩:=H8.st 0 (o:=0) (u:= .slice W.next 0 u.blocks.length) rfl (by simp) rfl
 rw[e9,eh];refine⟨n9,?_⟩;simp[AD]at H9;have aq:=((((s4.trans s5).trans s6).trans s7).trans s8).trans s9;have bg:=((s1.trans s2).trans s3).trans aq;have r2:=r2.since aq;have r3:=r3.since aq;generalize V.slice U.next 0 u.blocks.length=vi at*;generalize V.slice W.next 0 u.blocks.length=vp at*;generalize h6.next=l6 at*;generalize h5.next=l5 at*;generalize h.next=lb at*;have aH:=H9.len 3 rfl;rw[List.length_replicate]at aH;refine ec (H9.ld 1 rfl rfl) (ec aH ?_);have bi:=JO g G;have X:post.reverse.length=u.blocks.length:=by simpa using bi
 refine HN (λk w z L x6 aI aJ h'=>∃(i:Nat) (xs:List Int),w=vo/\z=va/\L = .ptr l5 0/\x6 = .ptr l6 0/\aI = .I u.blocks.length/\aJ = .I i/\i+k=u.blocks.length/\xs.length=u.blocks.length/\(∀j,j<i->xs[j]? =some (-1))/\
  Sn R h9 R h'/\ej R h' (ft l6 jE [vp]::ft l5 jE [vi]::fE eN fw (List.replicate u.blocks.length 0) vp::fE eZ fw xs vi::ft lb 34 (uC u vv vb vs)::cs)) ?_ (k:=u.blocks.length)
  ⟨0,_,rfl,rfl,rfl,rfl,rfl,rfl,by omega,by simp,λj hj=>by omega,Sn.refl _ _,H9⟩
 rintro k w z L x6 aI aJ bU ⟨i,xs,e3,e4,rfl,rfl,rfl,rfl,hk,aK,hm,aL,aM⟩;subst w z;unfold yZ;by_cases hi:i<u.blocks.length
 ·refine gU ?_;obtain⟨l11,bV,bW,bj,bm,bX,aN,bn⟩:=aM.L9 3 rfl (k:=i) (by omega) rfl rfl rfl;refine ec (aM.ld 1 rfl rfl) (ec bj ?_);rw[bm,eh];simp[OH,AD]at aN;refine gf ⟨k-1,by omega,i+1,xs.set i (-1),rfl,rfl,rfl,rfl,rfl,rfl,by omega,by simp[aK],λj hj=>?_,aL.trans bn,aN⟩
  grind
 refine iY ?_;obtain rfl:i=u.blocks.length:=by omega
 have lo:=(r2.since aL).len;rw[X]at lo;refine ec lo ?_
 refine HB (λk w z L x6 ar aO aP h'=>∃i pl,w=vo/\z=va/\L = .ptr l5 0/\x6 = .ptr l6 0/\ar=vo/\aO = .I u.blocks.length/\aP = .I (i:Nat)/\i+k=u.blocks.length/\pl.length=u.blocks.length/\(∀j b,j<i->post.reverse[j]? =some b->pl[b]? =some j)/\
  Sn R h9 R h'/\ej R h' (ft l6 jE [vp]::ft l5 jE [vi]::fE eN fw pl vp::fE eZ fw xs vi::ft lb 34 (uC u vv vb vs)::cs)) ?_ (k:=u.blocks.length)
  (by grind)
 rintro k1 w z L x6 ar aO aP bY ⟨i,pl,e3,e4,rfl,rfl,bZ,rfl,rfl,b1,aQ,bo,ah,ai⟩;subst w z ar;unfold yU;by_cases hi:i<u.blocks.length
 ·refine gU ?_;obtain⟨b,n⟩:∃b,post.reverse[i]? =some b:=⟨_,iz (by omega)⟩
  have aj:b<u.blocks.length:=G.pre b (YB.1 (zQ n))
  let⟨l13,b2,_,j1,j2⟩:=(r2.since ah).nat n .i64
  obtain⟨l14,b3,b4,bp,au,b5,aR,br⟩:=ai.L9 2 rfl (k:=b) (by omega) rfl rfl rfl;refine ec j1 (ec j2 (ec (ai.ld 0 rfl rfl) (ec bp ?_)));rw[au,eh];simp[OH,AD]at aR;refine gf ⟨k1-1,by omega,i+1,pl.set b i,rfl,rfl,rfl,rfl,rfl,rfl,rfl,by omega,by simp[aQ],λj c hj hc=>?_,ah.trans br,aR⟩;by_cases e:c=b
  ·subst e;have r:=Ot G n;have h2:=Ot G hc;obtain rfl:i=j:=by omega
   rw[OY (by omega)]
  grind
 refine iY ?_;obtain rfl:i=u.blocks.length:=by omega
 have ak:∀b,G.gr.node b->pl[b]? =some (G.gr.place b):=λb n=>by
  have r:=UE post.reverse b (YB.2 n);exact bo (post.reverse.idxOf b) b (by have:=(kE.1 r).1;omega) r
 have lo:=(r2.since ah).len;rw[X]at lo;refine ec lo (gw (gD (by omega) ?_));obtain⟨b6,b7,b8,au,e16,b9,aS,bt⟩:=ai.L9 3 rfl (k:=0) (by omega) rfl rfl rfl;refine ec (ai.ld 1 rfl rfl) (ec au ?_);rw[e16,eh];simp[OH,AD]at aS;have bu:Vo (λx=>x=0) (λ_=>0) u.blocks.length (xs.set 0 0):=⟨by simp[aK],λb n=>by rw[n,OY (by omega)];rfl,by grind⟩
 have f:∀b,G.gr.node b↔b<u.blocks.length:=λb=>⟨λn=>G.pre b n,λn=>J8 g G b n⟩
 have am:∀b,G.gr.node b->G.gr.place b<u.blocks.length:=λb n=>by
  have r:=UE post.reverse b (YB.2 n);have:=(kE.1 r).1;show post.reverse.idxOf b<_;omega
 have aT:∀p,p<u.blocks.length->∃b,G.gr.node b/\G.gr.place b=p:=by grind
 refine Hs (λk w z L B C h'=>∃c kk I S CO,w=vo/\z=va/\L = .ptr l5 0/\B = .func je [] [.ptr l6 0,.ptr l5 0]/\C = .bool c/\k+kk=u.blocks.length+2/\(c=true->kk<=u.blocks.length+1)/\
  (c=false->(∀b,G.gr.node b->S b)/\∀b,G.gr.node b->b≠0->zbw G.gr I S b)/\Dm.Inv G.gr I S kk 1/\Vo S I u.blocks.length CO/\
  Sn R h9 R h'/\ej R h' (ft l6 jE [vp]::ft l5 jE [vi]::fE eN fw pl vp::fE eZ fw CO vi::ft lb 34 (uC u vv vb vs)::cs)) ?_ (k:=u.blocks.length+1)
  ⟨true,1,λ_=>0,λx=>x=0,_,rfl,rfl,rfl,rfl,rfl,by omega,λ_=>by omega,λh=>(by cases h),Dm.Inv.start,bu,ah.trans bt,aS⟩
 rintro k2 w z L B C ca ⟨c,kk,I,S,CO,e3,e4,rfl,rfl,rfl,cb,bv,bw,hI,hR,al,aw⟩;subst w z;unfold zk
 cases c with
 | false=>
   refine gh (gD (by simp) ?_)
   let⟨hS,hF⟩:=bw rfl
   have aU:=Sy hI hS hF am aT (u.blocks.length+1);obtain⟨cd,ce,ax,bx,bz,cf,q,D⟩:=aw.L9 3 rfl (k:=0) (by rw[hR.len];omega) rfl rfl rfl;refine ec (aw.ld 1 rfl rfl) (ec bx ?_);rw[bz,eh];simp[OH,AD]at q;refine ec (q.ld 1 rfl rfl) ?_
   let⟨aV,bA,r18⟩:=q.ji 3 rfl
   simp[OH,AD]at aV;refine H _ _ vi (CO.set 0 (-1)) I seen post G (((bg.trans al).trans D).trans bA) aV.tail.tail.tail.tail.tail r18 (by simp[hR.len]) (by rw[OY (by rw[hR.len];omega)]) (λb h0 n=>?_) ⟨by omega,λb n=>(f b).2 n,λb n h0=>?_⟩ λx b n=>?_
   ·rw[QI λh=>h0 h.symm]
    exact hR.yes b (hS b ((f b).2 n))
   ·let⟨r,h2⟩:=hI.tree.up b (hS b ((f b).2 n)) h0
    exact⟨(f _).1 (hI.tree.node _ r),h2⟩
   ·rw[aU.exact (λb n=>(f b).1 n) (by omega) (hS b ((f b).2 n))]
    exact(ZO λa b=>Iff.rfl).symm
 | true =>
   refine gh (gN rfl ?_);have cg:=bv rfl;obtain⟨ay,e59,az⟩:=(r2.since al).cut (m:=1) (Qa _ _ _) (L0 _) (by omega) (jv _);rw[SM]at az;refine ec e59 (ec az.len ?_);have aW:(post.reverse.drop 1).length=u.blocks.length-1:=by rw[wBa,X]
   rw[aW]
   refine Ic (λk w z L B C J Y Z h'=>∃i c I S CO,w=vo/\z=va/\L = .ptr l5 0/\B = .func je [] [.ptr l6 0,.ptr l5 0]/\C = .bool c/\J=ay/\Y = .I ((u.blocks.length-1:Nat):Int)/\Z = .I (i:Nat)/\i+k=u.blocks.length-1/\
     (c=true->kk<=u.blocks.length)/\(c=false->∀b,G.gr.node b->G.gr.place b<i+1->S b/\(b≠0->zbw G.gr I S b))/\Dm.Inv G.gr I S kk (i+1)/\Vo S I u.blocks.length CO/\
     Sn R h9 R h'/\ej R h' (ft l6 jE [vp]::ft l5 jE [vi]::fE eN fw pl vp::fE eZ fw CO vi::ft lb 34 (uC u vv vb vs)::cs)) ?_ (k:=u.blocks.length-1)
     ⟨0,false,I,S,CO,rfl,rfl,rfl,rfl,rfl,rfl,rfl,rfl,by omega,λh=>(by cases h),λ_ b n bC=>by
       obtain rfl:b=0:=G.gr.inj b 0 n G.gr.first (by have:=G.gr.Dj;omega);exact⟨hI.tree.zero,λh=>absurd rfl h⟩,hI,hR,al,aw⟩
   rintro k3 w z L B C J Y Z ax ⟨i,c,M,S1,N,e3,e4,rfl,rfl,rfl,aX,rfl,rfl,ci,aY,bD,aa,s,D,q⟩;subst w z J;unfold zl;by_cases hi:i<u.blocks.length-1;rotate_left
   ·refine iY ?_
    obtain rfl:i=u.blocks.length-1:=by omega
    have hp:=aa.pass λb n=>by have:=am b n;omega
    refine⟨k2-1,by omega,c,kk+1,M,S1,N,rfl,rfl,rfl,rfl,rfl,by omega,λh=>by have:=aY h;omega,λh=>?_,hp,s,D,q⟩
    simp_all
   refine gU ?_;obtain⟨b,n⟩:∃b,post.reverse[i+1]? =some b:=⟨_,iz (by omega)⟩
   have ab:G.gr.node b:=YB.1 (zQ n);have aj:=(f b).1 ab;have aA:G.gr.place b=i+1:=Ot G n;have aB:b≠0:=λe=>by subst e;rw[G.gr.Dj]at aA;omega
   have aZ:iH eN R ax (post.reverse.drop 1) ay:=az.fh λl hl=>(D.fh l hl).trans (al.fh l hl).symm;obtain⟨l18,cj,_,j1,j2⟩:=aZ.nat (by rw[wBZ,Nat.add_comm];exact n) .i64
   let⟨cm,cn,bE,_,m1,m2,m3⟩:=(r3.since D).list (i:=b) (x:=Un.ahead u b) (by simp[aj]) .i64
   refine ec j1 (ec j2 (ec m1 (ec m2 (ec m3.len ?_))));have ac:∀p,G.gr.AH p b↔p∈Un.ahead u b:=λp=>wu.symm;have co:(Un.ahead u b).length<=700:=by
     rw[<-qq];have:=ql g (j:=0) (b:=b) (jv _) (by omega);omega
   refine Hn (λk w z L B C a0 a1 J Y Z aC a2 a3 h'=>∃j dd,w=vo/\z=va/\L = .ptr l5 0/\B = .func je [] [.ptr l6 0,.ptr l5 0]/\C = .bool c/\a0 = .I (b:Nat)/\a1 = .I dd/\J=ay/\Y = .I ((u.blocks.length-1:Nat):Int)/\Z = .I (i:Nat)/\
     aC=bE/\a2 = .I ((Un.ahead u b).length:Nat)/\a3 = .I (j:Nat)/\j+k=(Un.ahead u b).length/\h' = ax/\
     ((dd = -1/\∀p∈(Un.ahead u b).take j,¬S1 p)\/∃d:Nat,dd=(d:Int)/\S1 d/\(∀p∈(Un.ahead u b).take j,S1 p->qd M d p)/\∀x,(∀p∈(Un.ahead u b).take j,S1 p->qd M x p)->qd M x d)) ?_ (k:=(Un.ahead u b).length)
     ⟨0,-1,rfl,rfl,rfl,rfl,rfl,rfl,rfl,rfl,rfl,rfl,rfl,rfl,rfl,by omega,rfl,.inl ⟨rfl,λp hp=>by simp at hp⟩⟩
   rintro k4 w z L B C a0 a1 J Y Z aC a2 a3 bG ⟨j,dd,e3,e4,rfl,rfl,rfl,rfl,rfl,aX,rfl,rfl,cp,rfl,rfl,cq,rfl,T⟩;subst w z J aC;unfold yR;by_cases hj:j<(Un.ahead u b).length
   ·refine gU ?_
    obtain⟨a,ha⟩:∃a,(Un.ahead u b)[j]? =some a:=⟨_,iz hj⟩
    have a4:a<u.blocks.length:=by
      have:=wu.1 (zQ ha);exact(g.Ya this).1
    have bH:(Un.ahead u b).take (j+1)=(Un.ahead u b).take j++[a]:=by
      obtain⟨r,rfl⟩:=kE.1 ha;exact Nt r
    let⟨cr,ct,_,q1,q2⟩:=m3.nat ha .i64
    refine ec q1 (ec q2 (ec (q.ld 1 rfl rfl) ?_));have t:∀p,p∈(Un.ahead u b).take (j+1)↔p∈(Un.ahead u b).take j\/p=a:=λp=>by rw[bH];simp
    by_cases hS:S1 a;rotate_left
    ·let⟨aD,aE,t1,t2⟩:=q.AI 3 rfl (s.no a a4 hS) .i64
     refine ec t1 (ec t2 (gU ?_));refine qe ?_;unfold mM;refine ju (m:=1) (by omega) (by omega) ⟨k4-1,by omega,j+1,dd,rfl,rfl,rfl,rfl,rfl,rfl,rfl,rfl,rfl,rfl,rfl,rfl,rfl,by omega,rfl,?_⟩;have cu:∀{P:Nat->Prop},(∀p∈(Un.ahead u b).take (j+1),S1 p->P p)↔(∀p∈(Un.ahead u b).take j,S1 p->P p):=λ{P}=>⟨λh p hp=>h p ((t p).2 (.inl hp)),by grind⟩
     simp_all
    let⟨aD,aE,t1,t2⟩:=q.AI 3 rfl (s.yes a hS) .i64
    refine ec t1 (ec t2 (iY ?_));rcases T with⟨rfl,r⟩|⟨d,rfl,r,h2,U⟩
    ·refine gU ?_
     refine qe ?_;unfold mM;refine ju (m:=1) (by omega) (by omega) ⟨k4-1,by omega,j+1,(a:Int),rfl,rfl,rfl,rfl,rfl,rfl,rfl,rfl,rfl,rfl,rfl,rfl,rfl,by omega,rfl,?_⟩;refine .inr ⟨a,rfl,hS,λp hp hs=>?_,λx hx=>hx a ((t a).2 (.inr rfl)) hS⟩;rcases(t p).1 hp with W|rfl
     ·exact absurd hs (r p W)
     ·exact .refl _
    ·refine iY ?_
     show cP CS je [.I (d:Nat),.I (a:Nat),.ptr l6 0,.ptr l5 0] bG _;refine zbv q (i5:=1) (i6:=0) (ii:=3) (ip:=2) rfl rfl rfl rfl aa.tree s ak r hS λd' g1 g2 g3 g4=>?_;refine qe ?_;unfold mM;refine ju (m:=1) (by omega) (by omega) ⟨k4-1,by omega,j+1,(d':Int),rfl,rfl,rfl,rfl,rfl,rfl,rfl,rfl,rfl,rfl,rfl,rfl,rfl,by omega,rfl,?_⟩;refine .inr ⟨d',rfl,g1,λp hp hs=>?_,λx hx=>g4 x (U x λp hp hs=>hx p ((t p).2 (.inl hp)) hs) (hx a ((t a).2 (.inr rfl)) hS)⟩;rcases(t p).1 hp with W|rfl
     ·exact g2.trans (h2 p W hs)
     ·exact g3
   refine iY ?_;rw[Uj (by omega)]at T
   let⟨p0,hp0n,hp0e,hp0l⟩:=G.gr.early b ab aB
   have a5:S1 p0:=aa.done p0 hp0n (by omega);obtain⟨d,rfl,cv,aF,a6⟩:∃d:Nat,dd=(d:Int)/\S1 d/\(∀p∈Un.ahead u b,S1 p->qd M d p)/\∀x,(∀p∈Un.ahead u b,S1 p->qd M x p)->qd M x d:=by
     rcases T with⟨_,r⟩|r
     ·exact absurd a5 (r p0 ((ac p0).1 hp0e))
     ·exact r
   have ae:∀p,S1 p->G.gr.AH p b->qd M d p:=λp hs he=>aF p ((ac p).1 he) hs;have A:∀x,(∀p,S1 p->G.gr.AH p b->qd M x p)->qd M x d:=by simp_all
   have a7:i<1000000000:=by clear T;omega
   have an:k3-1<k3:=by clear T;omega
   have ao:i+1+(k3-1)=u.blocks.length-1:=by clear T;omega
   have ag:=(aa.KL ab aB aA ae A).1;refine ec (q.ld 1 rfl rfl) ?_;by_cases hsame:S1 b/\M b=d
   ·obtain ⟨K,rfl⟩:=hsame
    let⟨aD,aE,t1,t2⟩:=q.AI 3 rfl (s.yes b K) .i64
    refine ec t1 (ec t2 (Ef (gN rfl ?_)));refine xQ ?_;unfold qB;rw[Tn,Wi K]at ag;refine ju a7 (by decide) ⟨k3-1,an,i+1,c,M,S1,N,rfl,rfl,rfl,rfl,rfl,rfl,rfl,rfl,ao,aY,λhc b' a8 bC=>?_,ag,s,D,q⟩;rcases Tu (G.gr.place b') (i+1)with r|r
    ·exact bD hc b' a8 r
    ·obtain rfl:b' = b:=G.gr.inj _ _ a8 ab (by omega)
     exact⟨K,λ_=>⟨ae,A⟩⟩
   ·obtain ⟨y,hy,a9⟩:∃y,N[b]? =some y/\y≠(d:Int):=by
      by_cases K:S1 b
      ·refine⟨(M b:Int),s.yes b K,λe=>hsame ⟨K,?_⟩⟩
       exact Int.ofNat.inj e
      ·refine⟨-1,s.no b aj K,?_⟩
       omega
    let⟨aD,aE,t1,t2⟩:=q.AI 3 rfl hy .i64
    refine ec t1 (ec t2 (Ef (gD a9 ?_)));obtain⟨cw,cx,cy,bI,bJ,cz,ba,bK⟩:=q.L9 3 rfl (by rw[s.len];exact aj) rfl rfl rfl;refine ec (q.ld 1 rfl rfl) (ec bI ?_);rw[bJ,eh];simp[OH,AD]at ba;refine xQ ?_;unfold qB;refine ju a7 (by decide) ⟨k3-1,an,i+1,true,Dm.set M b d,λx=>S1 x\/x=b,N.set b (d:Int),rfl,rfl,rfl,rfl,rfl,rfl,rfl,rfl,ao,λ_=>?_,λh=>(by cases h),ag,⟨by simp[s.len],λx hx=>?_,λx hx hn=>?_⟩,D.trans bK,ba⟩
    ·rcases Tu u.blocks.length kk with r|r
     ·exfalso
      let⟨h2,U⟩:=aa.stay (λb n=>(f b).1 n) r ab aB aA ae A
      exact hsame ⟨h2,U.symm⟩
     ·exact r
    ·unfold Dm.set
     by_cases e:x=b
     ·grind
     ·rw[QI λh=>e h.symm,if_neg e]
      exact s.yes x (hx.resolve_right e)
    ·have e:x≠b:=λe=>hn (.inr e)
     rw[QI λh=>e h.symm];exact s.no x hx λh=>hn (.inl h)
end
open Un Dm
structure zgu (u:U) (CO:List Int) (I:Nat->Nat):Prop where
 len:CO.length=u.blocks.length
 zero:CO[0]? =some (-1)
 at_:∀b,b≠0->b<u.blocks.length->CO[b]? =some (I b:Int)
 zgL:∃r:Nat->Nat,∀b,b<u.blocks.length->b≠0->I b<u.blocks.length/\r (I b)<r b
 iff:∀x b,b<u.blocks.length->(qd I x b↔Aw (next u) x b)
section
variable{F F':Nat->Prop}{h h':Hp}{cs:List Pc}{Q:fo}{u:U}{vv vb vs:V}{lc:Nat}{bl pl GC:V}{xs ys CO:List Int}{I:Nat->Nat}
structure Cx (F:Nat->Prop) (h:Hp) (cs:List Pc) (lc:Nat) (u:U) (vv vb vs bl pl GC:V) (xs ys CO:List Int) (I:Nat->Nat):Prop where
 ck:Ck F h cs lc u vv vb vs bl pl GC
 rbl:iH eZ F h xs bl
 rpl:iH eZ F h ys pl
 rim:iH eZ F h CO GC
 std:Std u u.blocks.length 0 xs ys
 Vq:zgu u CO I
theorem Cx.since(C:Cx F h cs lc u vv vb vs bl pl GC xs ys CO I)(s:Sn F h F' h')(a:ej F' h' cs):Cx F' h' cs lc u vv vb vs bl pl GC xs ys CO I:=⟨C.ck.since s a,C.rbl.since s,C.rpl.since s,C.rim.since s,C.std,C.Vq⟩
theorem Cx.cons(C:Cx F h cs lc u vv vb vs bl pl GC xs ys CO I)(s:Sn F h F' h'){p:Pc}(a:ej F' h' (p::cs)):Cx F' h' (p::cs) lc u vv vb vs bl pl GC xs ys CO I:=⟨C.ck.cons s a,C.rbl.since s,C.rpl.since s,C.rim.since s,C.std,C.Vq⟩
theorem Qn(C:Cx F h cs lc u vv vb vs bl pl GC xs ys CO I){a b:Nat}(p:b<u.blocks.length)(q:qd I a b)(H:Q (.bool true) h):cP CS lQ [.ptr lc 0,.I a,.I b] h Q:=by
 refine Ct rfl rfl ?_;unfold tD
 let⟨r,hr⟩:=C.Vq.zgL
 refine Am (λk g i j h'=>∃c,g = .ptr lc 0/\i = .I a/\j = .I (c:Nat)/\k=r c/\c<u.blocks.length/\qd I a c/\h' = h) ?_ (k:=r b) (by grind);rintro k g i j h' ⟨c,rfl,rfl,rfl,s,d,f,rfl⟩;unfold qC;refine PS (gN (by omega) ?_);by_cases e:a=c
 ·exact gw (gN (by omega) H)
 refine gw (gD (by omega) ?_)
 cases f with
 |refl=>omega
 | up h0 t=>
   let⟨l,o,_,m,n⟩:=C.rim.int (C.Vq.at_ c h0 d) .i64
   let⟨r1,r2⟩:=hr c d h0
   exact ec (fi _ _) (ec (by rfl) (ec (C.ck.ld 7 rfl) (ec m (ec n (by grind)))))
theorem JI(C:Cx F h cs lc u vv vb vs bl pl GC xs ys CO I){l:List Nat}{v:V}{b p:Nat}(hl:iH eN F h l v)(R:l.length<1000000)(y:b<u.blocks.length)(hs:∀w∈l,∃c j,At u w c j/\(c=b->j<p)/\Aw (next u) c b)(H:Q (.bool true) h) :
  cP CS iZ [.ptr lc 0,v,.I b,.I p] h Q:=by
 refine Jl rfl rfl ?_;unfold Ao;refine ec hl.len ?_;refine EE (λk z A D a d f h'=>∃i,z = .ptr lc 0/\A = .I b/\D = .I p/\a=v/\d = .I l.length/\f = .I (i:Nat)/\i+k=l.length/\h' = h) ?_ (k:=l.length) (by simp_all);rintro k z A D a d f h' ⟨i,rfl,rfl,rfl,rfl,rfl,rfl,S,rfl⟩;unfold vL;by_cases hi:i<l.length;rotate_left
 ·exact iY H
 refine gU ?_
 let⟨c,j,hat,hcj,hdom⟩:=hs _ (Dg hi)
 have g:c<u.blocks.length:=by
  let⟨B,T,_⟩:=hat
  exact by grind
 let⟨J,K⟩:=C.std.yes _ c j hat (.inl g)
 let⟨l1,U,_,L,M⟩:=hl.nat (iz hi) .i64
 let⟨l2,o2,_,E,G⟩:=C.rbl.int J .i64
 let⟨l3,W,_,N,O⟩:=C.rpl.int K .i64
 refine ec L (ec M (ec (fi _ _) (ec (by rfl) (ec (C.ck.ld 5 rfl) (ec E (ec G (ec (by rfl) ?_)))))));have e:iM (.bool (((c:Int)) == (b:Int))) (oB (some (V.ptr lc 0)) λm=>oB (gq m) λn=>oB (fK 6 n) λo=>oB (eC o h') λq=>oB (some (V.I (l[i]:Nat))) λr=>oB (gP 1 q r) λs=>oB (eC s h') λt=>oB (some (V.I p)) λx=>ef .geq 3 t x)=some (.bool false):=by
  have l6:=C.ck.ld 6 rfl;simp only[eD,fi,fN,l6,N,O,jc,gQ];congr 2;rw[wB2];intro P;simp[sJ,KC,AL]at P;have:=by omega
  omega
 refine ec e ?_;refine gZ (ec rfl (gZ (ec rfl (gZ (ec (fi _ _) (gZ (ec (by rfl) (gZ (ec (C.ck.ld 5 rfl) (gZ (ec rfl (gZ (ec E (gZ (ec G (gZ (ec rfl (vh ?_))))))))))))))))));refine Qn C y ((C.Vq.iff c b y).2 hdom) (ec rfl (gh (gD (by simp) ?_)));exact gf ⟨k-1,by omega,i+1,rfl,rfl,rfl,rfl,rfl,rfl,by omega,rfl⟩
theorem Kc(C:Cx F h cs lc u vv vb vs bl pl GC xs ys CO I){s b p:Nat}{fs:List Fm}(m:u.ez[s]? =some fs)(x:fs.length<=30/\∀f∈fs,f.locals.length<=40/\f.stack.length<=60)(n:b<u.blocks.length)
  (hs:∀w∈il fs,∃c j,At u w c j/\(c=b->j<p)/\Aw (next u) c b) (H:∀h',Sn F h F h'->ej F h' cs->Q (.bool true) h') :
  cP CS iX [.ptr lc 0,.I s,.I b,.I p] h Q:=by
 refine Ci rfl rfl ?_;unfold tz
 let⟨l1,G,f,_,y,_,z,o⟩:=C.ck.u.st m
 refine ec (fi _ _) (ec (by rfl) (ec (by rfl) (ec (C.ck.ld 4 rfl) (ec y (ec (by rfl) (ec z (ec o.len ?_)))))))
 refine zN (λk q r t d e g h'=>∃j,q = .ptr lc 0/\r = .I b/\t = .I p/\d=f/\e = .I fs.length/\g = .I (j:Nat)/\j+k=fs.length/\Sn F h F h'/\ej F h' cs) ?_ (k:=fs.length)
  ⟨0,rfl,rfl,rfl,rfl,rfl,rfl,by omega,Sn.refl _ _,C.ck.H⟩
 rintro k q r t d e g A ⟨j,rfl,rfl,rfl,rfl,rfl,rfl,J,s1,v⟩;unfold qi;by_cases hj:j<fs.length;rotate_left
 ·exact iY (H A s1 v)
 refine gU ?_
 let⟨l3,K,a,c,_,B,D,ja,jb⟩:=(o.since s1).frm (iz hj)
 let⟨f1,f2⟩:=x.2 _ (Dg hj)
 have E:∀w,w∈fs[j].locals\/w∈fs[j].stack->w∈il fs:=by grind[il,Dg]
 refine ec B (ec D ?_);refine lM v rfl rfl (by simp only[fmC,fe,ja.one,jb.one];rfl) λL i l=>?_;have C2:=C.since (s1.trans l) i.tail;refine ec (by rfl) (ec (i.ld 0 rfl rfl) ?_);refine JI C2 (ja.since l) (by omega) n (by simp_all) (ec rfl ?_);refine gZ (ec rfl (gZ (ec (by rfl) (gZ (ec (i.ld 0 rfl rfl) (gZ (ec rfl (gZ (ec rfl (vh ?_))))))))));refine JI C2 (jb.since l) (by omega) n (by simp_all) (ec rfl (gh (gD (by simp) ?_)));exact gf ⟨k-1,by omega,j+1,rfl,rfl,rfl,rfl,rfl,rfl,by omega,s1.trans l,i.tail⟩
theorem VB{w b k:Nat}(h:Xh u w b k):∃c j,At u w c j/\(c=b->j<k)/\Aw (next u) c b:=by
 let⟨c,j,d,a⟩:=h
 rcases a with⟨rfl,a⟩|⟨a,e⟩
 ·grind[Aw.self]
 grind
theorem I2{w b:Nat}{B:Bk}(f:u.blocks[b]? =some B)(h:JH u w b):∃c j,At u w c j/\(c=b->j<B.ee.length)/\Aw (next u) c b:=by
 let⟨c,j,a,d⟩:=h
 refine⟨c,j,a,λe=>?_,d⟩;subst e
 let⟨B',g,i⟩:=a
 grind
theorem ZD{lv:Nat}{x:Vl}{w:V}{A:V}{i k:Nat}(a:A = .ptr lc 0)(C:Cx F h (ft lv zT (yH x w)::cs) lc u vv vb vs bl pl GC xs ys CO I)(hc:lv≠lc)(D:eC (.ptr lv 5) h=some (.I x.state))(E:i<u.blocks.length)
  (hl:leaves x.op=true->∃fs,u.ez[x.state]? =some fs/\(fs.length<=30/\∀f∈fs,f.locals.length<=40/\f.stack.length<=60)/\∀w∈il fs,∃c j,At u w c j/\(c=i->j<k)/\Aw (next u) c i) {K:fo}
  (B:∀h',Sn F h F h'->ej F h' (ft lv zT (yH x w)::cs)->K (.bool false) h') :
  oP (gW true (.bool (leaves x.op))) λb=>
  oP (gV b (some A)) λd=>
  oP (gW true (.bool (leaves x.op))) λe=>
  oP (gV e (fK 5 (.ptr lv 0))) λg=>
  oP (gW true (.bool (leaves x.op))) λl=>
  oP (gV l (eC g h)) λm=>
  oP (gW true (.bool (leaves x.op))) λn=>
  oP (gV n (some (.I i))) λo=>
  oP (gW true (.bool (leaves x.op))) λp=>
  oP (gV p (some (.I k))) λq=>
  oP (gW true (.bool (leaves x.op))) λr=>
  oP (gC r (some (iX,[d,m,o,q]))) λs=>AS CS s h λt G=>
  oP (gW true (.bool (leaves x.op))) λv=>
  oP (gV v (qH .not t)) λy=>
  oP (mm (.bool false) (tA (.bool (leaves x.op)) y (V.bool false))) λz=>K z G:=by
 subst a
 cases hq:leaves x.op with
 | true=>
   let⟨fs,J,L,M⟩:=hl hq
   refine jH (ec rfl (jH (ec (by rfl) (jH (ec D (jH (ec rfl (jH (ec rfl (NQ ?_))))))))))
   refine Kc C J L E M λh' N O=>jH (ec rfl (ec rfl (B h' N O)))
 |false=>exact qx (qx (qx (qx (qx (YJ (qx (ec rfl (B h (Sn.refl _ _) C.ck.H))))))))
theorem Ys(g:Good u)(C:Cx F h cs lc u vv vb vs bl pl GC xs ys CO I)(ah:lc<h.next){i:Nat}{B:Bk}(d:u.blocks[i]? =some B)(H:∀F' h',Sn F h F' h'->ej F' h' cs->Q (.bool true) h'):cP CS mb [.ptr lc 0,.I i] h Q:=by
 refine Hr rfl rfl ?_;unfold yG;have nv:=g.nv;have nb:=g.nb;have r:i<u.blocks.length:=by grind
 have ai:∀s (fs:List Fm),u.ez[s]? =some fs->fs.length<=30/\∀f∈fs,f.locals.length<=40/\f.stack.length<=60:=λs fs a=>by
  let⟨_,h2,h3⟩:=g.st s fs a
  simp_all
 have aj:B.ee.length<=3000:=by
  have:=wZ u.ee.length B.ee (DB g d) λv hv=>by
   let⟨k,hk⟩:=oR.1 hv
   exact g.DW v i k ⟨B,d,hk⟩
  omega
 let⟨l7,o7,bv,bn,bp,_,i1,i2,M,iN,ip,_⟩:=C.ck.u.AA d
 refine ec (fi _ _) (ec (by rfl) (ec (by rfl) (ec (C.ck.ld 3 rfl) (ec i1 (ec i2 ?_)))));refine lM C.ck.H rfl rfl (by simp only[rr,fe,M.one,iN.one,ip.one];rfl) λh2 H2 N=>?_;have C2:=C.cons N H2;have M:=M.since N;have ip:=ip.since N;refine ec (by rfl) (ec (H2.ld 0 rfl rfl) (ec M.len (ec (by rfl) (ec (H2.ld 0 rfl rfl) (ec M.len ?_)))))
 refine DN (λk R S T U c l n h'=>∃(F':Nat->Prop) (j:Nat),R = .ptr lc 0/\S = .I i/\T = .ptr h.next 0/\U = .I B.ee.length/\c=bv/\l = .I B.ee.length/\n = .I j/\j+k=B.ee.length/\
  Sn F h2 F' h'/\ej F' h' (ft h.next 79 (rr B bv bn bp)::cs)) ?_ (k:=B.ee.length) ⟨F,0,rfl,rfl,rfl,rfl,rfl,rfl,rfl,by omega,Sn.refl _ _,H2⟩
 rintro k R S T U c l n h3 ⟨F3,j,rfl,rfl,rfl,rfl,aa,rfl,rfl,hk,t,y⟩;subst c;unfold uV;have C3:=C2.since t y;by_cases hj:j<B.ee.length;rotate_left
 ·refine iY ?_;refine ec (by rfl) (ec (y.ld 0 rfl rfl) ?_);by_cases c2:B.fin=2
  ·refine gw (gN (by omega) ?_);refine ec (by rfl) (ec (y.ld 0 rfl rfl) ?_);refine Zl [B.cond] (DG _) y λF4 h4 v o q r4=>?_;refine JI (C3.since q o) r4 (by simp) r (λw hw=>?_) (H _ _ ((N.trans t).trans q) o.tail);obtain rfl:=EI.1 hw;exact I2 d (g.Yw i B d c2)
  refine gw (gD (by omega) ?_);by_cases c3:B.fin=3
  ·refine gw (gN (by omega) ?_);refine ec (by rfl) (ec (y.ld 0 rfl rfl) ?_);have ab:B.state<u.ez.length:=by
    rcases g.fin i B d with⟨E,_⟩|⟨E,_⟩|⟨_,_,E⟩
    ·omega
    ·omega
    ·exact E
   obtain⟨fs,a⟩:∃fs,u.ez[B.state]? =some fs:=by simp_all
   refine Kc C3 a (by grind) r (λw hw=>I2 d (g.Z8 i B fs d c3 a w hw)) λh4 q o=>H _ _ ((N.trans t).trans q) o.tail
  ·exact gw (gD (by omega) (H _ _ (N.trans t) y.tail))
 refine gU ?_;have e:At u (B.ee[j]) i j:=⟨B,d,iz hj⟩
 have ak:=g.DW _ _ _ e;obtain⟨x,A⟩:∃x,u.ee[B.ee[j]]? =some x:=by simp_all
 have ac:B.fu.length<=700:=by
  rw[g.fu i B d,<-qq];have:=ql g (j:=0) (b:=i) (jv _) (by omega);omega
 have ae:x.op=21\/x.op=20->x.args.length<=700:=by
  rintro(E|E)
  ·rw[(g.Yb _ _ _ _ _ e A E d).2];exact ac
  ·rw[g.putAt _ x A E];omega
 let⟨l9,o9,_,j1,j2⟩:=(M.since t).nat (iz hj) .i64
 let⟨l10,al,w,_,q1,q2,iw,_⟩:=C3.ck.u.val A
 refine ec j1 (ec j2 (ec (fi _ _) (ec (by rfl) (ec (by rfl) (ec (C3.ck.ld 2 rfl) (ec q1 (ec q2 ?_)))))));refine lM y rfl rfl (by simp only[yH,fe,iw.one];rfl) λh4 o q=>?_;have C4:=C3.cons q o;have G:=iw.since q;have am:=(y.ok 0 _ rfl).2.1;refine ec (by rfl) (ec (o.ld 0 rfl rfl) ?_);by_cases J:x.op=21
 ·refine gw (gN (by omega) ?_);refine ec (by rfl) (ec (o.ld 0 rfl rfl) (ec G.len ?_));have an:=(g.Yb _ _ _ _ _ e A J d).2
  refine Dc (λk R S T U c l n K V W h'=>∃F' m,R = .ptr lc 0/\S = .I i/\T = .ptr h.next 0/\U = .I B.ee.length/\c=bv/\l = .I B.ee.length/\n = .I j/\K=w/\V = .I x.args.length/\W = .I (m:Nat)/\m+k=x.args.length/\
   Sn F3 h4 F' h'/\ej F' h' (ft h3.next 81 (yH x w)::ft h.next 79 (rr B bv bn bp)::cs)) ?_ (k:=x.args.length) ⟨F3,0,rfl,rfl,rfl,rfl,rfl,rfl,rfl,rfl,rfl,rfl,by omega,Sn.refl _ _,o⟩
  rintro k2 R S T U c l n K V W h5 ⟨F5,m,rfl,rfl,rfl,rfl,aa,rfl,rfl,ao,rfl,rfl,aq,D,L⟩;subst c K;unfold vE;have C5:=C4.since D L;by_cases hm:m<x.args.length;rotate_left
  ·refine iY ?_;refine sZ ?_;unfold oA;exact gf ⟨k-1,by omega,F5,j+1,rfl,rfl,rfl,rfl,rfl,rfl,rfl,by omega,(t.trans q).trans D,L.tail⟩
  refine gU ?_
  let⟨l11,ar,hl11,m1,m2⟩:=(G.since D).nat (iz hm) .i64
  refine ec m1 (ec m2 ?_);have au:m<B.fu.length:=by omega
  obtain⟨p,hp⟩:∃p,B.fu[m]? =some p:=by simp_all
  have ag:p<u.blocks.length:=by
   have:=zQ hp;rw[g.fu i B d]at this;exact(g.Ya (wu.1 this)).1
  obtain⟨P,hP⟩:∃P,u.blocks[p]? =some P:=by simp_all
  rw[DG,hH]
  let⟨O,X,r6⟩:=L.Xu fw rfl (zY F5 h5 [x.args[m]]) false
  have g6:(h5.new (.cells 3 1 true false (nD [x.args[m]]))).get h5.next=some (.cells 3 1 true false (nD [x.args[m]])):=eJ _ _;have C6:=C5.since X O
  let⟨aw,ax,_,n1,n2⟩:=(((ip.since t).since q).since (D.trans X)).nat hp .i64
  let⟨l13,ay,pv,pn,pp,_,p1,_,pvr,_,_,pa⟩:=C6.ck.u.AA hP
  refine ec (by rfl) (ec (O.ld 1 rfl rfl) (ec n1 (ec n2 (ec (fi _ _) (ec (by rfl) (ec (by rfl) (ec (C6.ck.ld 3 rfl) ?_)))))));refine ec (by rfl) (ec (O.ld 1 rfl rfl) (ec n1 (ec n2 (ec p1 (ec (by rfl) (ec pa.ee (ec pvr.len ⟨by simp_all,?_⟩)))))));refine JI C6 r6 (by simp) ag (λz Y=>?_) ⟨jv _,po (gN rfl ?_)⟩
  ·obtain rfl:=EI.1 Y;exact I2 hP (g.Z0 _ i j x B e A J d m _ p (by simp_all) hp)
  ·exact gf ⟨k2-1,by omega,_,m+1,rfl,rfl,rfl,rfl,rfl,rfl,rfl,rfl,rfl,rfl,by omega,D.trans X,O⟩
 refine gw (gD (by omega) ?_);refine ec (o.zB 0 rfl rfl) ?_;refine Qs o G (by omega) λF5 h5 v D L r5=>?_;have C5:=C4.since D L;refine JI C5 r5 (by grind[Nc]) r (λz Y=>VB (g.Vy _ i j x e A J z Y)) (ec rfl ?_);refine gZ (ec (by rfl) (gZ (ec (L.ld 0 rfl rfl) (vh ?_))));refine Px (gZ (ec rfl ?_));refine ZD rfl C5 (by omega) (L.ld 0 rfl rfl) r (λZ=>?_) λh6 X O=>?_
 ·have ab:=g.leave _ x A Z;obtain⟨fs,a⟩:∃fs,u.ez[x.state]? =some fs:=by simp_all
  exact⟨fs,a,by grind,λz Y=>VB (g.V9 _ i j x fs e A Z a z Y)⟩
 ·refine gh (gD (by simp) ?_);refine sZ ?_;unfold oA;exact gf ⟨k-1,by omega,F5,j+1,rfl,rfl,rfl,rfl,rfl,rfl,rfl,by omega,((t.trans q).trans D).trans X,O.tail⟩
end
open Un Dm
section
variable{F F':Nat->Prop}{h h':Hp}{cs:List Pc}{Q:fo}{u:U}{vv vb vs:V}
theorem NM(g:Good u)(H0:ej F h cs)(hu:Is F h u vv vb vs)(H:∀F' h',Sn F h F' h'->ej F' h' cs->Q (.bool true) h'):cP CS tL [.agg (uC u vv vb vs)] h Q:=by
 refine Sj rfl rfl ?_;unfold LN;have nv:=g.nv;have nb:=g.nb;have XW:=g.XW;have ns:=g.ns;refine rL H0 hu.one λz B s1=>?_;have w:=hu.since s1;have l2:eC (.ptr h.next (0+2)) z=some vv:=B.ld 0 rfl rfl;have l3:eC (.ptr h.next (0+3)) z=some vb:=B.ld 0 rfl rfl;have l4:eC (.ptr h.next (0+4)) z=some vs:=B.ld 0 rfl rfl;refine oF l2 (ec w.v.len (ec (iG _ _ _ _) ?_));rw[V7 (by omega)];have e1:mm (.bool false) (oB (fK 3 (.ptr h.next 0)) λk=>oB (eC k z) λl=>oB (fD l) λm=>ef .gtr 3 m (V.I 300))=some (.bool false):=by
  simp only[ta,fN,eD,l3,w.b.len,iG];rw[V7 (by omega)]
 have e2:mm (.bool false) (oB (fK 4 (.ptr h.next 0)) λk=>oB (eC k z) λl=>oB (fD l) λm=>ef .gtr 3 m (V.I 1000))=some (.bool false):=by
  simp only[ta,fN,eD,l4,w.s.len,iG];rw[V7 (by omega)]
 have e3:mm (.bool false) (oB (fK 3 (.ptr h.next 0)) λk=>oB (eC k z) λl=>oB (fD l) λm=>ef .eql 3 m (V.I 0))=some (.bool false):=by
  simp only[ta,fN,eD,l3,w.b.len,iE];congr 2;rw[wBA];omega
 refine ec e1 (ec e2 (ec e3 (gh (gD (by simp) ?_))));refine ec (B.zB 0 rfl rfl) (ec (rfl) ?_);refine rL B (by simp only[fe,w.v.one,w.b.one,w.s.one];rfl) λL M s2=>?_;have E:=w.since s2;generalize z.next=lc at*;have l4:eC (.ptr h.next (0+4)) L=some vs:=M.ld 1 rfl rfl;refine oF l4 (ec E.s.len ?_);have C2:Ck F L (ft lc 139 [.I u.func,.I u.pc,vv,vb,vs,.ed,.ed,.ed]::ft h.next 34 (uC u vv vb vs)::cs) lc u vv vb vs .ed .ed .ed:=⟨M,⟨0,_,rfl⟩,E⟩
 refine Nk (by omega) (λF' h'=>F' = F/\Sn F L F h'/\ej F h' (ft lc 139 [.I u.func,.I u.pc,vv,vb,vs,.ed,.ed,.ed]::ft h.next 34 (uC u vv vb vs)::cs)) ⟨rfl,Sn.refl _ _,M⟩ (λi hi F' h' a q r=>?_) λF3 h3 a=>?_
 ·obtain⟨rfl,f,n⟩:=a;show cP CS ma [.ptr lc 0,.I i] h' q;have hs:=iz hi
  let⟨g1,g2,g3⟩:=g.st i _ hs
  exact Yt (C2.since f n) hs ⟨g1,g2⟩ g3 λc d e=>r F' c ⟨rfl,f.trans d,e⟩
 obtain⟨rfl,N,H3⟩:=a;refine ec rfl (gZ (ec rfl (vh ?_)));refine Zg g H3 (E.since N) λF4 O x y xs ys s4 P rb rp std=>?_;refine ec rfl (gZ (ec rfl ?_));have R:=(E.since N).since s4;have S:Ck F4 O (ft lc 139 [.I u.func,.I u.pc,vv,vb,vs,x,y,.ed]::ft h.next 34 (uC u vv vb vs)::cs) lc u vv vb vs x y .ed:=⟨P,⟨0,_,rfl⟩,R⟩
 have l2:eC (.ptr h.next (0+2)) O=some vv:=P.ld 1 rfl rfl;refine gZ (ec (fN _ _ _) (gZ (ec l2 (gZ (ec R.v.len (gZ (ec rfl (gZ (ec rfl (vh ?_))))))))));refine Nk (by omega) (λF' h'=>Sn F4 O F' h'/\ej F' h' (ft lc 139 [.I u.func,.I u.pc,vv,vb,vs,x,y,.ed]::ft h.next 34 (uC u vv vb vs)::cs)) ⟨Sn.refl _ _,P⟩ (λi hi F' h' a q r=>?_) λF5 h5 a=>?_
 ·let⟨f,n⟩:=a
  show cP CS j6 [.ptr lc 0,.I i] h' q;exact zea g (S.since f n) (rb.since f) std hi (n.ok 0 _ rfl).2.1 λj c d e=>r j c ⟨f.trans d,e⟩
 let⟨J,K⟩:=a
 have u5:=R.since J;have l3:eC (.ptr h.next (0+3)) h5=some vb:=K.ld 1 rfl rfl;refine ec rfl (gZ (ec rfl (gZ (ec (fN _ _ _) (gZ (ec l3 (gZ (ec u5.b.len (gZ (ec rfl (gZ (ec rfl (vh ?_)))))))))))));refine Nk (by omega) (λF' h'=>Sn F5 h5 F' h'/\ej F' h' (ft lc 139 [.I u.func,.I u.pc,vv,vb,vs,x,y,.ed]::ft h.next 34 (uC u vv vb vs)::cs)) ⟨Sn.refl _ _,K⟩ (λi hi F' h' a q r=>?_) λF6 h6 a=>?_
 ·let⟨f,n⟩:=a
  show cP CS mB [.ptr lc 0,.I i] h' q;exact zbp g ((S.since J K).since f n) (iz hi) λj c d e=>r j c ⟨f.trans d,e⟩
 let⟨T,U⟩:=a
 have u6:=u5.since T;have l3:eC (.ptr h.next (0+3)) h6=some vb:=U.ld 1 rfl rfl;refine ec rfl (gZ (ec rfl (gZ (ec (fN _ _ _) (gZ (ec l3 (gZ (ec u6.b.len (gZ (ec rfl (gZ (ec rfl (vh ?_)))))))))))));refine Nk (by omega) (λF' h'=>Sn F6 h6 F' h'/\ej F' h' (ft lc 139 [.I u.func,.I u.pc,vv,vb,vs,x,y,.ed]::ft h.next 34 (uC u vv vb vs)::cs)) ⟨Sn.refl _ _,U⟩ (λi hi F' h' a q r=>?_) λF7 h7 a=>?_
 ·let⟨f,n⟩:=a
  show cP CS mV [.ptr lc 0,.I i] h' q;exact zdF g (((S.since J K).since T U).since f n) (iz hi) λj c d e=>r j c ⟨f.trans d,e⟩
 let⟨s7,H7⟩:=a
 have u7:=u6.since s7;refine ec rfl (gh (gD (by simp) ?_));refine HH rfl rfl ?_;unfold yY;have lA:gy 5 (.ptr lc 0) h7=some (.agg (uC u vv vb vs)):=by
  rw[xn (H7.get 0 rfl),Gk (by simp)];rfl
 refine ec (fi _ _) (ec (fN _ _ _) (ec lA ?_));refine JG g H7 u7 λF8 h8 vo seen post s8 W G ro=>?_;have X:=u7.since s8;have lo:=ro.len;rw[List.length_reverse,JO g G]at lo;refine ec lo (oF (W.ld 1 rfl rfl) (ec X.b.len (Ef (gN rfl ?_))));refine ec (W.zB 1 rfl rfl) ?_;refine OR g W X λF9 h9 vd CO I Y Z G' s9 H9 rd d1 d2 d3 d4 d5=>?_
 let⟨C,aa,ag,t,A⟩:=H9.st 0 (o:=7) rfl (by simp) rd.one
 refine ec (fi _ _) (ec (fN _ _ _) ?_);rw[show V.ptr lc (0+7)=V.ptr lc 7 from rfl,aa,eh];simp[OH,AD]at t;have D:=(X.since s9).since A;refine oF (t.ld 1 rfl rfl) (ec D.b.len ?_);have p:=((((J.trans T).trans s7).trans s8).trans s9).trans A
 have ab:Cx F9 C (ft lc 139 [.I u.func,.I u.pc,vv,vb,vs,x,y,vd]::ft h.next 34 (uC u vv vb vs)::cs) lc u vv vb vs x y vd xs ys CO I:=
  ⟨⟨t,⟨0,_,rfl⟩,D⟩,rb.since p,rp.since p,rd.since A,std,⟨d1,d2,d3,⟨G'.gr.place,λb hb h0=>d4.up b hb h0⟩,d5⟩⟩
 refine Nk (by omega) (λF' h'=>Sn F9 C F' h'/\ej F' h' (ft lc 139 [.I u.func,.I u.pc,vv,vb,vs,x,y,vd]::ft h.next 34 (uC u vv vb vs)::cs)) ⟨Sn.refl _ _,t⟩ (λi hi F' h' a q r=>?_) λah ai a=>?_
 ·let⟨f,n⟩:=a
  show cP CS mb [.ptr lc 0,.I i] h' q;exact Ys g (ab.since f n) (n.ok 0 _ rfl).2.1 (iz hi) λj c d e=>r j c ⟨f.trans d,e⟩
 let⟨ac,ae⟩:=a
 exact H _ _ (((((s1.trans s2).trans N).trans s4).trans p).trans ac) ae.tail.tail
end
