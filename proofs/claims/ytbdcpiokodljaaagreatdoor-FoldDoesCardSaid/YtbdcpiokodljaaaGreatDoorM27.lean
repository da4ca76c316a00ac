/- Parts. -/
import Derived.Test.YtbdcpiokodljaaaGreatDoorM26
set_option maxHeartbeats 4000000
namespace Go.Proofs.YtbdcpiokodljaaaGreatDoor.Hx
open Un Dm
structure zaC (G:Dm.Gr) (I:Nat->Nat) (S:Nat->Prop) (b:Nat):Prop where
 low:∀p,S p->G.BZ p b->qO I (I b) p
 zeX:∀x,(∀p,S p->G.BZ p b->qO I x p)->qO I x (I b)
theorem TS(I:Nat->Nat)(b:Nat):Dm.set I b (I b)=I:=by
 grind[Dm.set]
theorem WU{S:Nat->Prop}{b:Nat}(h:S b):(λx=>S x\/x=b)=S:=by
 grind
theorem Z5{G:Dm.Gr}{I:Nat->Nat}{S:Nat->Prop}{k n:Nat}(o:Dm.Inv G I S k 1)(i:∀b,G.node b->S b)(f:∀b,G.node b->b≠0->zaC G I S b)(a:∀b,G.node b->G.place b<n)(c:∀p,p<n->∃b,G.node b/\G.place b=p):Dm.Inv G I S (k+1) 1:=by
 have d:∀m,1+m<=n->Dm.Inv G I S k (1+m):=by
  intro m
  induction m with
  |zero=>simp_all
  | succ m j=>
    intro q;have l:=j (by omega)
    let⟨b,hb,hp⟩:=c (1+m) (by omega)
    have h0:b≠0:=λe=>by subst e;rw[G.EM]at hp;omega
    have g:=(l.Pj hb h0 hp (f b hb h0).low (f b hb h0).zeX).1;rw[TS,WU (i b hb)]at g;exact g
 have r:1<=n:=by have:=a 0 G.first;omega
 have h:=d (n-1) (by omega);rw[show 1+(n-1)=n by omega]at h;exact h.pass a
theorem SK{G:Dm.Gr}{I:Nat->Nat}{S:Nat->Prop}{k n:Nat}(d:Dm.Inv G I S k 1)(e:∀b,G.node b->S b)(f:∀b,G.node b->b≠0->zaC G I S b)(a:∀b,G.node b->G.place b<n)(c:∀p,p<n->∃b,G.node b/\G.place b=p):∀m,Dm.Inv G I S (k+m) 1
 |0=>d
 |m+1=>Z5 (SK d e f a c m) e f a c
section
variable{u:U}{seen:List Bool}{post:List Nat}
theorem SG(g:Good u)(G:Iy u.blocks.length (next u) seen post []):∀b,b<u.blocks.length->b∈post:=by
 have a:∀b l,Pt (next u) b l->b∈post:=by
  intro b l hp
  induction hp with
  |nil=>let⟨p,hp⟩:=G.last rfl;simp_all
  | step _ c d=>
    have:=(G.iff _).1 (G.closed _ d _ c)
    simp_all
 intro b e
 let⟨l,hl⟩:=g.reach b e
 grind
theorem Sj(g:Good u)(G:Iy u.blocks.length (next u) seen post []):post.length=u.blocks.length:=G.all (SG g G)
theorem zbr(G:Iy u.blocks.length (next u) seen post []):post.reverse.Nodup:=by
 have:=G.nodup
 grind
theorem Od(G:Iy u.blocks.length (next u) seen post []){i b:Nat}(h:post.reverse[i]? =some b):G.gr.place b=i:=by
 show post.reverse.idxOf b=i;obtain⟨hi,rfl⟩:=kj.1 h;have a:=zbr G
 grind
end
section
variable{F F':Nat->Prop}{h h':Hp}{cs:List Pc}{Q:fo}{u:U}{vv vb vs:V}
structure VQ (S:Nat->Prop) (I:Nat->Nat) (n:Nat) (FI:List Int):Prop where
 len:FI.length=n
 yes:∀b,S b->FI[b]? =some (I b:Int)
 no:∀b,b<n->¬S b->FI[b]? =some (-1)
theorem zb1{G:Dm.Gr}{I:Nat->Nat}{S:Nat->Prop}{n l5 l6 t5 t6:Nat}{r vp:V}{FI:List Int}{pl:List Nat}(c:ej F h cs){i5 i6 ii ip:Nat}(s:cs[i5]? =some (ey l5 t5 [r]))(t:cs[i6]? =some (ey l6 t6 [vp]))(hi:cs[ii]? =some (eJ eZ ev FI r))(hp:cs[ip]? =some (eJ eN ev pl vp))
  (f:Tree G I S) (u:VQ S I n FI) (i:∀b,G.node b->pl[b]? =some (G.place b)) {a b:Nat} (A:S a) (B:S b)
  (H:∀d,S d->qO I d a->qO I d b->(∀x,qO I x a->qO I x b->qO I x d)->Q (.I (d:Nat)) h):cP CS jE [.I a,.I b,.ptr l6 0,.ptr l5 0] h Q:=by
 refine Js rfl rfl ?_;unfold Bd
 refine Gl (λk v w y z h'=>∃a' b',v = .I (a':Nat)/\w = .I (b':Nat)/\y = .ptr l6 0/\z = .ptr l5 0/\h' = h/\k=G.place a' + G.place b'/\S a'/\S b'/\qO I a' a/\qO I b' b/\(∀x,qO I x a->qO I x b->qO I x a'/\qO I x b')) ?_
  ⟨a,b,rfl,rfl,rfl,rfl,rfl,rfl,A,B,.refl _,.refl _,by simp_all⟩
 rintro k v w y z h' ⟨a',b',rfl,rfl,rfl,rfl,rfl,hk,sa,sb,j,l,C⟩;unfold yO;by_cases e:a' = b'
 ·subst e;refine tI (gj rfl ?_);exact H a' sa j l λx m o=>(C x m o).1
 refine tI (fU (by omega) ?_)
 let⟨lp,op,p1,p2⟩:=c.MK ip hp (i a' (f.node _ sa)) .i64
 let⟨lq,oq,D,E⟩:=c.MK ip hp (i b' (f.node _ sb)) .i64
 refine ed (c.ld i6 t rfl) (ed p1 (ed p2 (ed (c.ld i6 t rfl) (ed D (ed E ?_)))));by_cases Pu:G.place b' < G.place a'
 ·refine IY (gj (by omega) ?_)
  let⟨li,oi,p,q⟩:=c.UT ii hi (u.yes a' sa) .i64
  refine ed (c.ld i5 s rfl) (ed p (ed q ?_));have h0:a'≠0:=λe=>by subst e;rw[G.EM]at Pu;omega
  let⟨u1,u2⟩:=f.up a' sa h0
  exact⟨_,by omega,I a',b',rfl,rfl,rfl,rfl,rfl,rfl,u1,sb,(qO.up h0 (.refl _)).trans j,l,λx m o=>⟨f.zcs sa sb Pu (by simp_all) (by simp_all),by simp_all⟩⟩
 ·refine IY (fU (by omega) ?_)
  let⟨li,oi,p,q⟩:=c.UT ii hi (u.yes b' sb) .i64
  refine ed (c.ld i5 s rfl) (ed p (ed q ?_));have g:G.place a' < G.place b':=by
   have:G.place a'≠G.place b':=λe'=>e (G.inj _ _ (f.node _ sa) (f.node _ sb) e');omega
  have h0:b'≠0:=λe=>by subst e;rw[G.EM]at g;omega
  let⟨u1,u2⟩:=f.up b' sb h0
  exact⟨_,by omega,a',I b',rfl,rfl,rfl,rfl,rfl,rfl,sa,u1,j,(qO.up h0 (.refl _)).trans l,λx m o=>⟨by simp_all,f.zcs sb sa g (by simp_all) (by simp_all)⟩⟩
theorem O8(g:Good u)(H0:ej F h cs)(hu:zQ F h u vv vb vs)
  (H:∀F' h' v FI I seen post (G:Iy u.blocks.length (next u) seen post []),Sn F h F' h'->ej F' h' cs->ie eZ F' h' FI v->FI.length=u.blocks.length->FI[0]? =some (-1)->(∀b,b≠0->b<u.blocks.length->FI[b]? =some (I b:Int))->Tree G.gr I (λb=>b<u.blocks.length)->
   (∀x b,b<u.blocks.length->(qO I x b↔qM (next u) x b))->Q v h'):cP CS rR [.agg (uC u vv vb vs)] h Q:=by
 refine La rfl rfl ?_;unfold Ea;have nb:=g.nb;have L2:=g.L2;refine jM H0 hu.one λr H1 s1=>?_;have lA:=H1.tK 0 rfl rfl;refine ed lA (ed lA ?_);refine Tu g H1 (hu.since s1) λF2 h2 vo seen post s2 H2 G r2=>⟨s2.next,H2.tK 0 rfl rfl,?_⟩
 refine T5 g H2 (hu.since (s1.trans s2)) λR U va s3 H3 r3=>⟨s3.next,?_⟩
 have u3:=hu.since ((s1.trans s2).trans s3);have r2:=r2.since s3;refine oF (H3.ld 0 rfl rfl) (ed u3.b.len ?_);rw[kW rfl (by decide) (by omega),g0];obtain⟨H4,s4⟩:=H3.make (E:=eZ) u.blocks.length rfl rfl;have n4:(U.new (.cells ev 1 true false (List.replicate u.blocks.length (V.I 0)))).next=U.next+1:=rfl;have g4:(U.new (.cells ev 1 true false (List.replicate u.blocks.length (V.I 0)))).get U.next=some (.cells 3 1 true false (List.replicate u.blocks.length (V.I 0))):=fh _ _;show oP (fF 3 (.ptr h.next 0)) _;generalize bZ:U.new (.cells ev 1 true false (List.replicate u.blocks.length (V.I 0)))=W at*;refine oF (H4.ld 1 rfl rfl) (ed (u3.since s4).b.len ?_);rw[kW rfl (by decide) (by omega),g0];obtain⟨H5,s5⟩:=H4.make (E:=eN) u.blocks.length rfl rfl;have n5:(W.new (.cells ev 1 true false (List.replicate u.blocks.length (V.I 0)))).next=W.next+1:=rfl;have g5:(W.new (.cells ev 1 true false (List.replicate u.blocks.length (V.I 0)))).get W.next=some (.cells 3 1 true false (List.replicate u.blocks.length (V.I 0))):=fh _ _;have bf:=(fj (.cells ev 1 true false (List.replicate u.blocks.length (V.I 0))) (by omega)).trans g4;generalize b4:W.new (.cells ev 1 true false (List.replicate u.blocks.length (V.I 0)))=h5 at*;rw[g0]
 let⟨H6,s6⟩:=H5.zT js [V.ee]
 have n6:(h5.new (.cells js 1 true false [V.ee])).next=h5.next+1:=rfl;have g6:(h5.new (.cells js 1 true false [V.ee])).get h5.next=some (.cells 22 1 true false [V.ee]):=fh _ _;have bg:=(fj (.cells js 1 true false [V.ee]) (by omega)).trans g5;have bh:=(fj (.cells js 1 true false [V.ee]) (by omega)).trans bf;show yU _ (h5.new (.cells js 1 true false [V.ee])) _;generalize b5:h5.new (.cells js 1 true false [V.ee])=h6 at*;rw[g0]
 let⟨H7,s7⟩:=H6.zT js [V.ee]
 have g7:(h6.new (.cells js 1 true false [V.ee])).get h6.next=some (.cells 22 1 true false [V.ee]):=fh _ _;have bi:=(fj (.cells js 1 true false [V.ee]) (by omega)).trans g6;have aG:=(fj (.cells js 1 true false [V.ee]) (by omega)).trans bg;have bj:=(fj (.cells js 1 true false [V.ee]) (by omega)).trans bh;show(((h6.new (.cells js 1 true false [V.ee])).get h6.next=_/\_)/\_);generalize b6:h6.new (.cells js 1 true false [V.ee])=h7 at*;refine⟨⟨g7,O.kX _ _ _ _ _⟩,⟨bi,O.kX _ _ _ _ _⟩,⟨aG,O.kX _ _ _ _ _⟩,H7.ld 4 rfl rfl,⟨bj,O.kX _ _ _ _ _⟩,H7.ld 4 rfl rfl,?_⟩
 let⟨h8,e8,n8,H8,s8,k8⟩:=H7.stk 1 (o:=0) (u:= .slice U.next 0 u.blocks.length) rfl (by simp) rfl
 rw[e8,ei];refine⟨n8,⟨(k8 _ (by omega)).trans aG,O.kX _ _ _ _ _⟩,(by simp[ mP]at H8;exact H8.ld 4 rfl rfl),?_⟩;simp[ mP]at H8
 let⟨h9,e9,n9,H9,s9⟩:=H8.st 0 (o:=0) (u:= .slice W.next 0 u.blocks.length) rfl (by simp) rfl
 rw[e9,ei];refine⟨n9,?_⟩;simp[mP]at H9;have ap:=((((s4.trans s5).trans s6).trans s7).trans s8).trans s9;have bm:=((s1.trans s2).trans s3).trans ap;have r2:=r2.since ap;have r3:=r3.since ap;generalize V.slice U.next 0 u.blocks.length=vi at*;generalize V.slice W.next 0 u.blocks.length=vp at*;generalize h6.next=l6 at*;generalize h5.next=l5 at*;generalize h.next=lb at*;have aH:=H9.len 3 rfl;rw[Xh]at aH;refine ed (H9.ld 1 rfl rfl) (ed aH ?_);have bo:=Sj g G;have X:post.reverse.length=u.blocks.length:=by simpa using bo
 refine IF (λk w z L x6 aI aJ h'=>∃(i:Nat) (xs:List Int),w=vo/\z=va/\L = .ptr l5 0/\x6 = .ptr l6 0/\aI = .I u.blocks.length/\aJ = .I i/\i+k=u.blocks.length/\xs.length=u.blocks.length/\(∀j,j<i->xs[j]? =some (-1))/\
  Sn R h9 R h'/\ej R h' (ey l6 js [vp]::ey l5 js [vi]::eJ eN ev (List.replicate u.blocks.length 0) vp::eJ eZ ev xs vi::ey lb 30 (uC u vv vb vs)::cs)) ?_ (k:=u.blocks.length)
  ⟨0,_,rfl,rfl,rfl,rfl,rfl,rfl,by omega,by simp,λj hj=>by omega,Sn.refl _ _,H9⟩
 rintro k w z L x6 aI aJ b7 ⟨i,xs,e3,e4,rfl,rfl,rfl,rfl,hk,aK,hm,aL,aM⟩;subst w z;unfold Aa;by_cases hi:i<u.blocks.length
 ·refine gy ?_;obtain⟨l11,b8,b9,br,bt,ca,aN,bu⟩:=aM.JZ 3 rfl (k:=i) (by omega) rfl rfl rfl;refine ed (aM.ld 1 rfl rfl) (ed br ?_);rw[bt,ei];simp[rV,mP]at aN;refine fI ⟨k-1,by omega,i+1,xs.set i (-1),rfl,rfl,rfl,rfl,rfl,rfl,by omega,by simp[aK],λj hj=>?_,aL.trans bu,aN⟩
  grind
 refine iI ?_;obtain rfl:i=u.blocks.length:=by omega
 have lo:=(r2.since aL).len;rw[X]at lo;refine ed lo ?_
 refine IK (λk w z L x6 aq aO aP h'=>∃i pl,w=vo/\z=va/\L = .ptr l5 0/\x6 = .ptr l6 0/\aq=vo/\aO = .I u.blocks.length/\aP = .I (i:Nat)/\i+k=u.blocks.length/\pl.length=u.blocks.length/\(∀j b,j<i->post.reverse[j]? =some b->pl[b]? =some j)/\
  Sn R h9 R h'/\ej R h' (ey l6 js [vp]::ey l5 js [vi]::eJ eN ev pl vp::eJ eZ ev xs vi::ey lb 30 (uC u vv vb vs)::cs)) ?_ (k:=u.blocks.length)
  (by grind)
 rintro k1 w z L x6 aq aO aP cb ⟨i,pl,e3,e4,rfl,rfl,cd,rfl,rfl,ce,aQ,bw,ah,ai⟩;subst w z aq;unfold Ao;by_cases hi:i<u.blocks.length
 ·refine gy ?_;obtain⟨b,n⟩:∃b,post.reverse[i]? =some b:=⟨_,hO (by omega)⟩
  have aj:b<u.blocks.length:=G.pre b (wBH.1 (DQ n))
  let⟨l13,cf,_,j1,j2⟩:=(r2.since ah).nat n .i64
  obtain⟨l14,cg,ci,bx,ar,cj,aR,bz⟩:=ai.JZ 2 rfl (k:=b) (by omega) rfl rfl rfl;refine ed j1 (ed j2 (ed (ai.ld 0 rfl rfl) (ed bx ?_)));rw[ar,ei];simp[rV,mP]at aR;refine fI ⟨k1-1,by omega,i+1,pl.set b i,rfl,rfl,rfl,rfl,rfl,rfl,rfl,by omega,by simp[aQ],λj c hj hc=>?_,ah.trans bz,aR⟩;by_cases e:c=b
  ·subst e;have r:=Od G n;have h2:=Od G hc;obtain rfl:i=j:=by omega
   rw[Qd (by omega)]
  grind
 refine iI ?_;obtain rfl:i=u.blocks.length:=by omega
 have ak:∀b,G.gr.node b->pl[b]? =some (G.gr.place b):=λb n=>by
  have r:=VH post.reverse b (wBH.2 n);exact bw (post.reverse.idxOf b) b (by have:=(kj.1 r).1;omega) r
 have lo:=(r2.since ah).len;rw[X]at lo;refine ed lo (fZ (fU (by omega) ?_));obtain⟨cl,cm,cn,ar,bA,co,aS,bC⟩:=ai.JZ 3 rfl (k:=0) (by omega) rfl rfl rfl;refine ed (ai.ld 1 rfl rfl) (ed ar ?_);rw[bA,ei];simp[rV,mP]at aS;have bD:VQ (λx=>x=0) (λ_=>0) u.blocks.length (xs.set 0 0):=⟨by simp[aK],λb n=>by rw[n,Qd (by omega)];rfl,by grind⟩
 have f:∀b,G.gr.node b↔b<u.blocks.length:=λb=>⟨λn=>G.pre b n,λn=>SG g G b n⟩
 have am:∀b,G.gr.node b->G.gr.place b<u.blocks.length:=λb n=>by
  have r:=VH post.reverse b (wBH.2 n);have:=(kj.1 r).1;show post.reverse.idxOf b<_;omega
 have aT:∀p,p<u.blocks.length->∃b,G.gr.node b/\G.gr.place b=p:=by grind
 refine ID (λk w z L B C h'=>∃c kk I S FI,w=vo/\z=va/\L = .ptr l5 0/\B = .func jE [] [.ptr l6 0,.ptr l5 0]/\C = .bool c/\k+kk=u.blocks.length+2/\(c=true->kk<=u.blocks.length+1)/\
  (c=false->(∀b,G.gr.node b->S b)/\∀b,G.gr.node b->b≠0->zaC G.gr I S b)/\Dm.Inv G.gr I S kk 1/\VQ S I u.blocks.length FI/\
  Sn R h9 R h'/\ej R h' (ey l6 js [vp]::ey l5 js [vi]::eJ eN ev pl vp::eJ eZ ev FI vi::ey lb 30 (uC u vv vb vs)::cs)) ?_ (k:=u.blocks.length+1)
  ⟨true,1,λ_=>0,λx=>x=0,_,rfl,rfl,rfl,rfl,rfl,by omega,λ_=>by omega,λh=>(by cases h),Dm.Inv.start,bD,ah.trans bC,aS⟩
 rintro k2 w z L B C cp ⟨c,kk,I,S,FI,e3,e4,rfl,rfl,rfl,cq,bE,bG,hI,hR,al,au⟩;subst w z;unfold zY
 cases c with
 | false=>
   refine iJ (fU (by simp) ?_)
   let⟨hS,hF⟩:=bG rfl
   have aU:=SK hI hS hF am aT (u.blocks.length+1);obtain⟨l17,cr,aw,bH,bI,ct,q,D⟩:=au.JZ 3 rfl (k:=0) (by rw[hR.len];omega) rfl rfl rfl;refine ed (au.ld 1 rfl rfl) (ed bH ?_);rw[bI,ei];simp[rV,mP]at q;refine ed (q.ld 1 rfl rfl) ?_
   let⟨aV,bJ,bK⟩:=q.jZ 3 rfl
   simp[rV,mP]at aV;refine H _ _ vi (FI.set 0 (-1)) I seen post G (((bm.trans al).trans D).trans bJ) aV.tail.tail.tail.tail.tail bK (by simp[hR.len]) (by rw[Qd (by rw[hR.len];omega)]) (λb h0 n=>?_) ⟨by omega,λb n=>(f b).2 n,λb n h0=>?_⟩ λx b n=>?_
   ·rw[K6 λh=>h0 h.symm]
    exact hR.yes b (hS b ((f b).2 n))
   ·let⟨r,h2⟩:=hI.tree.up b (hS b ((f b).2 n)) h0
    exact⟨(f _).1 (hI.tree.node _ r),h2⟩
   ·rw[aU.exact (λb n=>(f b).1 n) (by omega) (hS b ((f b).2 n))]
    exact(Yx λa b=>Iff.rfl).symm
 | true =>
   refine iJ (gj rfl ?_);have cu:=bE rfl;obtain⟨ax,bL,ay⟩:=(r2.since al).cut (m:=1) (PY _ _ _) (G5 _) (by omega) (ju _);rw[Lp]at ay;refine ed bL (ed ay.len ?_);have aW:(post.reverse.drop 1).length=u.blocks.length-1:=by rw[wB1,X]
   rw[aW]
   refine IM (λk w z L B C J Y Z h'=>∃i c I S FI,w=vo/\z=va/\L = .ptr l5 0/\B = .func jE [] [.ptr l6 0,.ptr l5 0]/\C = .bool c/\J=ax/\Y = .I ((u.blocks.length-1:Nat):Int)/\Z = .I (i:Nat)/\i+k=u.blocks.length-1/\
     (c=true->kk<=u.blocks.length)/\(c=false->∀b,G.gr.node b->G.gr.place b<i+1->S b/\(b≠0->zaC G.gr I S b))/\Dm.Inv G.gr I S kk (i+1)/\VQ S I u.blocks.length FI/\
     Sn R h9 R h'/\ej R h' (ey l6 js [vp]::ey l5 js [vi]::eJ eN ev pl vp::eJ eZ ev FI vi::ey lb 30 (uC u vv vb vs)::cs)) ?_ (k:=u.blocks.length-1)
     ⟨0,false,I,S,FI,rfl,rfl,rfl,rfl,rfl,rfl,rfl,rfl,by omega,λh=>(by cases h),λ_ b n bQ=>by
       obtain rfl:b=0:=G.gr.inj b 0 n G.gr.first (by have:=G.gr.EM;omega);exact⟨hI.tree.zero,λh=>absurd rfl h⟩,hI,hR,al,au⟩
   rintro k3 w z L B C J Y Z aw ⟨i,c,M,S1,N,e3,e4,rfl,rfl,rfl,aX,rfl,rfl,cv,aY,bR,aa,s,D,q⟩;subst w z J;unfold Ak;by_cases hi:i<u.blocks.length-1;rotate_left
   ·refine iI ?_
    obtain rfl:i=u.blocks.length-1:=by omega
    have hp:=aa.pass λb n=>by have:=am b n;omega
    refine⟨k2-1,by omega,c,kk+1,M,S1,N,rfl,rfl,rfl,rfl,rfl,by omega,λh=>by have:=aY h;omega,λh=>?_,hp,s,D,q⟩
    simp_all
   refine gy ?_;obtain⟨b,n⟩:∃b,post.reverse[i+1]? =some b:=⟨_,hO (by omega)⟩
   have ab:G.gr.node b:=wBH.1 (DQ n);have aj:=(f b).1 ab;have aA:G.gr.place b=i+1:=Od G n;have aB:b≠0:=λe=>by subst e;rw[G.gr.EM]at aA;omega
   have aZ:ie eN R aw (post.reverse.drop 1) ax:=ay.fi λl hl=>(D.fi l hl).trans (al.fi l hl).symm;obtain⟨l18,cw,_,j1,j2⟩:=aZ.nat (by rw[wBW,Nat.add_comm];exact n) .i64
   let⟨cx,cy,bS,_,m1,m2,m3⟩:=(r3.since D).list (i:=b) (x:=Un.ahead u b) (by simp[aj]) .i64
   refine ed j1 (ed j2 (ed m1 (ed m2 (ed m3.len ?_))));have ac:∀p,G.gr.BZ p b↔p∈Un.ahead u b:=λp=>we.symm;have cz:(Un.ahead u b).length<=700:=by
     rw[<-pR];have:=pS g (j:=0) (b:=b) (ju _) (by omega);omega
   refine IC (λk w z L B C a4 a5 J Y Z aC a6 a7 h'=>∃j dd,w=vo/\z=va/\L = .ptr l5 0/\B = .func jE [] [.ptr l6 0,.ptr l5 0]/\C = .bool c/\a4 = .I (b:Nat)/\a5 = .I dd/\J=ax/\Y = .I ((u.blocks.length-1:Nat):Int)/\Z = .I (i:Nat)/\
     aC=bS/\a6 = .I ((Un.ahead u b).length:Nat)/\a7 = .I (j:Nat)/\j+k=(Un.ahead u b).length/\h' = aw/\
     ((dd = -1/\∀p∈(Un.ahead u b).take j,¬S1 p)\/∃d:Nat,dd=(d:Int)/\S1 d/\(∀p∈(Un.ahead u b).take j,S1 p->qO M d p)/\∀x,(∀p∈(Un.ahead u b).take j,S1 p->qO M x p)->qO M x d)) ?_ (k:=(Un.ahead u b).length)
     ⟨0,-1,rfl,rfl,rfl,rfl,rfl,rfl,rfl,rfl,rfl,rfl,rfl,rfl,rfl,by omega,rfl,.inl ⟨rfl,λp hp=>by simp at hp⟩⟩
   rintro k4 w z L B C a4 a5 J Y Z aC a6 a7 bU ⟨j,dd,e3,e4,rfl,rfl,rfl,rfl,rfl,aX,rfl,rfl,cA,rfl,rfl,cB,rfl,T⟩;subst w z J aC;unfold Af;by_cases hj:j<(Un.ahead u b).length
   ·refine gy ?_
    obtain⟨a,ha⟩:∃a,(Un.ahead u b)[j]? =some a:=⟨_,hO hj⟩
    have a8:a<u.blocks.length:=by
      have:=we.1 (DQ ha);exact(g.YX this).1
    have bV:(Un.ahead u b).take (j+1)=(Un.ahead u b).take j++[a]:=by
      obtain⟨r,rfl⟩:=kj.1 ha;exact OX r
    let⟨cC,cD,_,q1,q2⟩:=m3.nat ha .i64
    refine ed q1 (ed q2 (ed (q.ld 1 rfl rfl) ?_));have t:∀p,p∈(Un.ahead u b).take (j+1)↔p∈(Un.ahead u b).take j\/p=a:=λp=>by rw[bV];simp
    by_cases hS:S1 a;rotate_left
    ·let⟨aD,aE,t1,t2⟩:=q.UT 3 rfl (s.no a a8 hS) .i64
     refine ed t1 (ed t2 (gy ?_));refine qU ?_;unfold oI;refine lT (m:=1) (by omega) (by omega) ⟨k4-1,by omega,j+1,dd,rfl,rfl,rfl,rfl,rfl,rfl,rfl,rfl,rfl,rfl,rfl,rfl,rfl,by omega,rfl,?_⟩;have cE:∀{P:Nat->Prop},(∀p∈(Un.ahead u b).take (j+1),S1 p->P p)↔(∀p∈(Un.ahead u b).take j,S1 p->P p):=λ{P}=>⟨λh p hp=>h p ((t p).2 (.inl hp)),by grind⟩
     simp_all
    let⟨aD,aE,t1,t2⟩:=q.UT 3 rfl (s.yes a hS) .i64
    refine ed t1 (ed t2 (iI ?_));rcases T with⟨rfl,r⟩|⟨d,rfl,r,h2,U⟩
    ·refine gy ?_
     refine qU ?_;unfold oI;refine lT (m:=1) (by omega) (by omega) ⟨k4-1,by omega,j+1,(a:Int),rfl,rfl,rfl,rfl,rfl,rfl,rfl,rfl,rfl,rfl,rfl,rfl,rfl,by omega,rfl,?_⟩;refine .inr ⟨a,rfl,hS,λp hp hs=>?_,λx hx=>hx a ((t a).2 (.inr rfl)) hS⟩;rcases(t p).1 hp with W|rfl
     ·exact absurd hs (r p W)
     ·exact .refl _
    ·refine iI ?_
     show cP CS jE [.I (d:Nat),.I (a:Nat),.ptr l6 0,.ptr l5 0] bU _;refine zb1 q (i5:=1) (i6:=0) (ii:=3) (ip:=2) rfl rfl rfl rfl aa.tree s ak r hS λd' g1 g2 g3 g4=>?_;refine qU ?_;unfold oI;refine lT (m:=1) (by omega) (by omega) ⟨k4-1,by omega,j+1,(d':Int),rfl,rfl,rfl,rfl,rfl,rfl,rfl,rfl,rfl,rfl,rfl,rfl,rfl,by omega,rfl,?_⟩;refine .inr ⟨d',rfl,g1,λp hp hs=>?_,λx hx=>g4 x (U x λp hp hs=>hx p ((t p).2 (.inl hp)) hs) (hx a ((t a).2 (.inr rfl)) hS)⟩;rcases(t p).1 hp with W|rfl
     ·exact g2.trans (h2 p W hs)
     ·exact g3
   refine iI ?_;rw[wA1 (by omega)]at T
   let⟨p0,hp0n,hp0e,hp0l⟩:=G.gr.early b ab aB
   have a9:S1 p0:=aa.done p0 hp0n (by omega);obtain⟨d,rfl,cF,aF,ba⟩:∃d:Nat,dd=(d:Int)/\S1 d/\(∀p∈Un.ahead u b,S1 p->qO M d p)/\∀x,(∀p∈Un.ahead u b,S1 p->qO M x p)->qO M x d:=by
     rcases T with⟨_,r⟩|r
     ·exact absurd a9 (r p0 ((ac p0).1 hp0e))
     ·exact r
   have ae:∀p,S1 p->G.gr.BZ p b->qO M d p:=λp hs he=>aF p ((ac p).1 he) hs;have A:∀x,(∀p,S1 p->G.gr.BZ p b->qO M x p)->qO M x d:=by simp_all
   have bb:i<1000000000:=by clear T;omega
   have an:k3-1<k3:=by clear T;omega
   have ao:i+1+(k3-1)=u.blocks.length-1:=by clear T;omega
   have ag:=(aa.Pj ab aB aA ae A).1;refine ed (q.ld 1 rfl rfl) ?_;by_cases hsame:S1 b/\M b=d
   ·obtain ⟨K,rfl⟩:=hsame
    let⟨aD,aE,t1,t2⟩:=q.UT 3 rfl (s.yes b K) .i64
    refine ed t1 (ed t2 (tI (gj rfl ?_)));refine zz ?_;unfold rh;rw[TS,WU K]at ag;refine lT bb (by decide) ⟨k3-1,an,i+1,c,M,S1,N,rfl,rfl,rfl,rfl,rfl,rfl,rfl,rfl,ao,aY,λhc b' bc bQ=>?_,ag,s,D,q⟩;rcases Ud (G.gr.place b') (i+1)with r|r
    ·exact bR hc b' bc r
    ·obtain rfl:b' = b:=G.gr.inj _ _ bc ab (by omega)
     exact⟨K,λ_=>⟨ae,A⟩⟩
   ·obtain ⟨y,hy,bd⟩:∃y,N[b]? =some y/\y≠(d:Int):=by
      by_cases K:S1 b
      ·refine⟨(M b:Int),s.yes b K,λe=>hsame ⟨K,?_⟩⟩
       exact Int.ofNat.inj e
      ·refine⟨-1,s.no b aj K,?_⟩
       omega
    let⟨aD,aE,t1,t2⟩:=q.UT 3 rfl hy .i64
    refine ed t1 (ed t2 (tI (fU bd ?_)));obtain⟨cG,cH,cI,bW,bX,cJ,be,bY⟩:=q.JZ 3 rfl (by rw[s.len];exact aj) rfl rfl rfl;refine ed (q.ld 1 rfl rfl) (ed bW ?_);rw[bX,ei];simp[rV,mP]at be;refine zz ?_;unfold rh;refine lT bb (by decide) ⟨k3-1,an,i+1,true,Dm.set M b d,λx=>S1 x\/x=b,N.set b (d:Int),rfl,rfl,rfl,rfl,rfl,rfl,rfl,rfl,ao,λ_=>?_,λh=>(by cases h),ag,⟨by simp[s.len],λx hx=>?_,λx hx hn=>?_⟩,D.trans bY,be⟩
    ·rcases Ud u.blocks.length kk with r|r
     ·exfalso
      let⟨h2,U⟩:=aa.stay (λb n=>(f b).1 n) r ab aB aA ae A
      exact hsame ⟨h2,U.symm⟩
     ·exact r
    ·unfold Dm.set
     by_cases e:x=b
     ·grind
     ·rw[K6 λh=>e h.symm,if_neg e]
      exact s.yes x (hx.resolve_right e)
    ·have e:x≠b:=λe=>hn (.inr e)
     rw[K6 λh=>e h.symm];exact s.no x hx λh=>hn (.inl h)
end
open Un Dm
structure zf2 (u:U) (FI:List Int) (I:Nat->Nat):Prop where
 len:FI.length=u.blocks.length
 zero:FI[0]? =some (-1)
 at_:∀b,b≠0->b<u.blocks.length->FI[b]? =some (I b:Int)
 zf7:∃r:Nat->Nat,∀b,b<u.blocks.length->b≠0->I b<u.blocks.length/\r (I b)<r b
 iff:∀x b,b<u.blocks.length->(qO I x b↔qM (next u) x b)
section
variable{F F':Nat->Prop}{h h':Hp}{cs:List Pc}{Q:fo}{u:U}{vv vb vs:V}{lc:Nat}{bl pl GJ:V}{xs ys FI:List Int}{I:Nat->Nat}
structure Cx (F:Nat->Prop) (h:Hp) (cs:List Pc) (lc:Nat) (u:U) (vv vb vs bl pl GJ:V) (xs ys FI:List Int) (I:Nat->Nat):Prop where
 ck:Ck F h cs lc u vv vb vs bl pl GJ
 rbl:ie eZ F h xs bl
 rpl:ie eZ F h ys pl
 rim:ie eZ F h FI GJ
 std:Std u u.blocks.length 0 xs ys
 Ug:zf2 u FI I
theorem Cx.since(C:Cx F h cs lc u vv vb vs bl pl GJ xs ys FI I)(s:Sn F h F' h')(a:ej F' h' cs):Cx F' h' cs lc u vv vb vs bl pl GJ xs ys FI I:=⟨C.ck.since s a,C.rbl.since s,C.rpl.since s,C.rim.since s,C.std,C.Ug⟩
theorem Cx.cons(C:Cx F h cs lc u vv vb vs bl pl GJ xs ys FI I)(s:Sn F h F' h'){p:Pc}(a:ej F' h' (p::cs)):Cx F' h' (p::cs) lc u vv vb vs bl pl GJ xs ys FI I:=⟨C.ck.cons s a,C.rbl.since s,C.rpl.since s,C.rim.since s,C.std,C.Ug⟩
theorem Q7(C:Cx F h cs lc u vv vb vs bl pl GJ xs ys FI I){a b:Nat}(n:b<u.blocks.length)(p:qO I a b)(H:Q (.bool true) h):cP CS mD [.ptr lc 0,.I a,.I b] h Q:=by
 refine Ed rfl rfl ?_;unfold wi
 let⟨r,hr⟩:=C.Ug.zf7
 refine Bu (λk f g i h'=>∃b',f = .ptr lc 0/\g = .I a/\i = .I (b':Nat)/\k=r b'/\b' < u.blocks.length/\qO I a b'/\h' = h) ?_ (k:=r b) (by grind);rintro k f g i h' ⟨b',rfl,rfl,rfl,hk,c,d,rfl⟩;unfold qX;refine VT (gj (by omega) ?_);by_cases e:a=b'
 ·exact fZ (gj (by omega) H)
 refine fZ (fU (by omega) ?_)
 cases d with
 |refl=>omega
 | up h0 q=>
   let⟨l,o,_,j,m⟩:=C.rim.int (C.Ug.at_ b' h0 c) .i64
   let⟨r1,s⟩:=hr b' c h0
   exact ed (fP _ _) (ed (by rfl) (ed (C.ck.ld 7 rfl) (ed j (ed m (by grind)))))
theorem KU(C:Cx F h cs lc u vv vb vs bl pl GJ xs ys FI I){l:List Nat}{v:V}{b p:Nat}(y:ie eN F h l v)(S:l.length<1000000)(z:b<u.blocks.length)(hs:∀w∈l,∃c j,At u w c j/\(c=b->j<p)/\qM (next u) c b)(H:Q (.bool true) h) :
  cP CS jC [.ptr lc 0,v,.I b,.I p] h Q:=by
 refine Jx rfl rfl ?_;unfold AZ;refine ed y.len ?_;refine Gj (λk A D E a d f h'=>∃i,A = .ptr lc 0/\D = .I b/\E = .I p/\a=v/\d = .I l.length/\f = .I (i:Nat)/\i+k=l.length/\h' = h) ?_ (k:=l.length) (by simp_all);rintro k A D E a d f h' ⟨i,rfl,rfl,rfl,rfl,rfl,rfl,hk,rfl⟩;unfold yB;by_cases hi:i<l.length;rotate_left
 ·exact iI H
 refine gy ?_
 let⟨c,j,Kj,hcj,hdom⟩:=hs _ (AU hi)
 have g:c<u.blocks.length:=by
  let⟨B,T,_⟩:=Kj
  exact by grind
 let⟨K,L⟩:=C.std.yes _ c j Kj (.inl g)
 let⟨l1,U,_,M,N⟩:=y.nat (hO hi) .i64
 let⟨l2,W,_,G,J⟩:=C.rbl.int K .i64
 let⟨l3,X,_,O,P⟩:=C.rpl.int L .i64
 refine ed M (ed N (ed (fP _ _) (ed (by rfl) (ed (C.ck.ld 5 rfl) (ed G (ed J (ed (by rfl) ?_)))))));have e:jX (.bool (((c:Int)) == (b:Int))) (oB (some (V.ptr lc 0)) λm=>oB (hZ m) λn=>oB (fF 6 n) λo=>oB (ez o h') λq=>oB (some (V.I (l[i]:Nat))) λr=>oB (gG 1 q r) λs=>oB (ez s h') λt=>oB (some (V.I p)) λx=>en .geq 3 t x)=some (.bool false):=by
  have l6:=C.ck.ld 6 rfl;simp only[fe,fP,fS,l6,O,P,oS,j6];congr 2;rw[wBj];intro R;simp[yl,IE,A4]at R;have:=by omega
  omega
 refine ed e ?_;refine fx (ed rfl (fx (ed rfl (fx (ed (fP _ _) (fx (ed (by rfl) (fx (ed (C.ck.ld 5 rfl) (fx (ed rfl (fx (ed G (fx (ed J (fx (ed rfl (pY ?_))))))))))))))))));refine Q7 C z ((C.Ug.iff c b z).2 hdom) (ed rfl (iJ (fU (by simp) ?_)));exact fI ⟨k-1,by omega,i+1,rfl,rfl,rfl,rfl,rfl,rfl,by omega,rfl⟩
theorem J5(C:Cx F h cs lc u vv vb vs bl pl GJ xs ys FI I){s b p:Nat}{fs:List Fm}(n:u.eh[s]? =some fs)(y:fs.length<=30/\∀f∈fs,f.locals.length<=40/\f.stack.length<=60)(o:b<u.blocks.length)
  (hs:∀w∈iq fs,∃c j,At u w c j/\(c=b->j<p)/\qM (next u) c b) (H:∀h',Sn F h F h'->ej F h' cs->Q (.bool true) h') :
  cP CS jx [.ptr lc 0,.I s,.I b,.I p] h Q:=by
 refine DS rfl rfl ?_;unfold vN
 let⟨l1,J,f,_,z,_,A,q⟩:=C.ck.u.st n
 refine ed (fP _ _) (ed (by rfl) (ed (by rfl) (ed (C.ck.ld 4 rfl) (ed z (ed (by rfl) (ed A (ed q.len ?_)))))))
 refine Bv (λk r t v d e g h'=>∃j,r = .ptr lc 0/\t = .I b/\v = .I p/\d=f/\e = .I fs.length/\g = .I (j:Nat)/\j+k=fs.length/\Sn F h F h'/\ej F h' cs) ?_ (k:=fs.length)
  ⟨0,rfl,rfl,rfl,rfl,rfl,rfl,by omega,Sn.refl _ _,C.ck.H⟩
 rintro k r t v d e g B ⟨j,rfl,rfl,rfl,rfl,rfl,rfl,hk,i,x⟩;unfold qS;by_cases hj:j<fs.length;rotate_left
 ·exact iI (H B i x)
 refine gy ?_
 let⟨l3,K,a,c,_,D,E,ja,jb⟩:=(q.since i).mN (hO hj)
 let⟨f1,f2⟩:=y.2 _ (AU hj)
 have G:∀w,w∈fs[j].locals\/w∈fs[j].stack->w∈iq fs:=by grind[iq,AU]
 refine ed D (ed E ?_);refine gW x rfl rfl (by simp only[LL,eo,ja.one,jb.one];rfl) λL l m=>?_;have C2:=C.since (i.trans m) l.tail;refine ed (by rfl) (ed (l.ld 0 rfl rfl) ?_);refine KU C2 (ja.since m) (by omega) o (by simp_all) (ed rfl ?_);refine fx (ed rfl (fx (ed (by rfl) (fx (ed (l.ld 0 rfl rfl) (fx (ed rfl (fx (ed rfl (pY ?_))))))))));refine KU C2 (jb.since m) (by omega) o (by simp_all) (ed rfl (iJ (fU (by simp) ?_)));exact fI ⟨k-1,by omega,j+1,rfl,rfl,rfl,rfl,rfl,rfl,by omega,i.trans m,l.tail⟩
theorem VP{w b k:Nat}(h:BI u w b k):∃c j,At u w c j/\(c=b->j<k)/\qM (next u) c b:=by
 let⟨c,j,d,a⟩:=h
 rcases a with⟨rfl,a⟩|⟨a,e⟩
 ·grind[qM.self]
 grind
theorem JJ{w b:Nat}{B:Bk}(f:u.blocks[b]? =some B)(h:rX u w b):∃c j,At u w c j/\(c=b->j<B.ef.length)/\qM (next u) c b:=by
 let⟨c,j,a,d⟩:=h
 refine⟨c,j,a,λe=>?_,d⟩;subst e
 let⟨B',g,i⟩:=a
 grind
theorem Yw{lv:Nat}{x:Vl}{w:V}{a0:V}{i k:Nat}(a:a0 = .ptr lc 0)(C:Cx F h (ey lv gP (mW x w)::cs) lc u vv vb vs bl pl GJ xs ys FI I)(hc:lv≠lc)(B:ez (.ptr lv 5) h=some (.I x.state))(D:i<u.blocks.length)
  (E:leaves x.op=true->∃fs,u.eh[x.state]? =some fs/\(fs.length<=30/\∀f∈fs,f.locals.length<=40/\f.stack.length<=60)/\∀w∈iq fs,∃c j,At u w c j/\(c=i->j<k)/\qM (next u) c i) {K:fo}
  (A:∀h',Sn F h F h'->ej F h' (ey lv gP (mW x w)::cs)->K (.bool false) h') :
  oP (fu true (.bool (leaves x.op))) λb=>
  oP (gV b (some a0)) λd=>
  oP (fu true (.bool (leaves x.op))) λe=>
  oP (gV e (fF 5 (.ptr lv 0))) λg=>
  oP (fu true (.bool (leaves x.op))) λl=>
  oP (gV l (ez g h)) λm=>
  oP (fu true (.bool (leaves x.op))) λn=>
  oP (gV n (some (.I i))) λo=>
  oP (fu true (.bool (leaves x.op))) λp=>
  oP (gV p (some (.I k))) λq=>
  oP (fu true (.bool (leaves x.op))) λr=>
  oP (gC r (some (jx,[d,m,o,q]))) λs=>qN CS s h λt G=>
  oP (fu true (.bool (leaves x.op))) λv=>
  oP (gV v (pA .not t)) λy=>
  oP (nt (.bool false) (jw (.bool (leaves x.op)) y (V.bool false))) λz=>K z G:=by
 subst a
 cases hq:leaves x.op with
 | true=>
   let⟨fs,J,L,M⟩:=E hq
   refine fV (ed rfl (fV (ed (by rfl) (fV (ed B (fV (ed rfl (fV (ed rfl (vI ?_))))))))))
   refine J5 C J L D M λh' s' N=>fV (ed rfl (ed rfl (A h' s' N)))
 |false=>exact ik (ik (ik (ik (ik (GY (ik (ed rfl (A h (Sn.refl _ _) C.ck.H))))))))
theorem zay(g:Good u)(C:Cx F h cs lc u vv vb vs bl pl GJ xs ys FI I)(ag:lc<h.next){i:Nat}{B:Bk}(d:u.blocks[i]? =some B)(H:∀F' h',Sn F h F' h'->ej F' h' cs->Q (.bool true) h'):cP CS mS [.ptr lc 0,.I i] h Q:=by
 refine IJ rfl rfl ?_;unfold z7;have nv:=g.nv;have nb:=g.nb;have q:i<u.blocks.length:=by grind
 have ah:∀s (fs:List Fm),u.eh[s]? =some fs->fs.length<=30/\∀f∈fs,f.locals.length<=40/\f.stack.length<=60:=λs fs a=>by
  let⟨_,h2,h3⟩:=g.st s fs a
  simp_all
 have ai:B.ef.length<=3000:=by
  have:=jA u.ef.length B.ef (JI g d) λv hv=>by
   let⟨k,hk⟩:=nT.1 hv
   exact g.jW v i k ⟨B,d,hk⟩
  omega
 let⟨l7,o7,bv,bn,bp,_,i1,i2,L,iN,ip,_⟩:=C.ck.u.nV d
 refine ed (fP _ _) (ed (by rfl) (ed (by rfl) (ed (C.ck.ld 3 rfl) (ed i1 (ed i2 ?_)))));refine gW C.ck.H rfl rfl (by simp only[lB,eo,L.one,iN.one,ip.one];rfl) λh2 Z M=>?_;have C2:=C.cons M Z;have L:=L.since M;have ip:=ip.since M;refine ed (by rfl) (ed (Z.ld 0 rfl rfl) (ed L.len (ed (by rfl) (ed (Z.ld 0 rfl rfl) (ed L.len ?_)))))
 refine FO (λk O R S T c l n h'=>∃(F':Nat->Prop) (j:Nat),O = .ptr lc 0/\R = .I i/\S = .ptr h.next 0/\T = .I B.ef.length/\c=bv/\l = .I B.ef.length/\n = .I j/\j+k=B.ef.length/\
  Sn F h2 F' h'/\ej F' h' (ey h.next 43 (lB B bv bn bp)::cs)) ?_ (k:=B.ef.length) ⟨F,0,rfl,rfl,rfl,rfl,rfl,rfl,rfl,by omega,Sn.refl _ _,Z⟩
 rintro k O R S T c l n h3 ⟨F3,j,rfl,rfl,rfl,rfl,aa,rfl,rfl,hk,r,t⟩;subst c;unfold xU;have C3:=C2.since r t;by_cases hj:j<B.ef.length;rotate_left
 ·refine iI ?_;refine ed (by rfl) (ed (t.ld 0 rfl rfl) ?_);by_cases c2:B.fin=2
  ·refine fZ (gj (by omega) ?_);refine ed (by rfl) (ed (t.ld 0 rfl rfl) ?_);refine zdC [B.cond] (rS _) t λF4 h4 v o s4 r4=>?_;refine KU (C3.since s4 o) r4 (by simp) q (λw hw=>?_) (H _ _ ((M.trans r).trans s4) o.tail);obtain rfl:=wBX.1 hw;exact JJ d (g.El i B d c2)
  refine fZ (fU (by omega) ?_);by_cases c3:B.fin=3
  ·refine fZ (gj (by omega) ?_);refine ed (by rfl) (ed (t.ld 0 rfl rfl) ?_);have oV:B.state<u.eh.length:=by
    rcases g.fin i B d with⟨D,_⟩|⟨D,_⟩|⟨_,_,D⟩
    ·omega
    ·omega
    ·exact D
   obtain⟨fs,a⟩:∃fs,u.eh[B.state]? =some fs:=by simp_all
   refine J5 C3 a (by grind) q (λw hw=>JJ d (g.Hc i B fs d c3 a w hw)) λh4 s4 o=>H _ _ ((M.trans r).trans s4) o.tail
  ·exact fZ (fU (by omega) (H _ _ (M.trans r) t.tail))
 refine gy ?_;have e:At u (B.ef[j]) i j:=⟨B,d,hO hj⟩
 have aj:=g.jW _ _ _ e;obtain⟨x,y⟩:∃x,u.ef[B.ef[j]]? =some x:=by simp_all
 have ab:B.eQ.length<=700:=by
  rw[g.eQ i B d,<-pR];have:=pS g (j:=0) (b:=i) (ju _) (by omega);omega
 have ac:x.op=21\/x.op=20->x.args.length<=700:=by
  rintro(D|D)
  ·rw[(g.Dz _ _ _ _ _ e y D d).2];exact ab
  ·rw[g.putAt _ x y D];omega
 let⟨l9,o9,_,j1,j2⟩:=(L.since r).nat (hO hj) .i64
 let⟨l10,ak,w,_,q1,q2,iw,_⟩:=C3.ck.u.val y
 refine ed j1 (ed j2 (ed (fP _ _) (ed (by rfl) (ed (by rfl) (ed (C3.ck.ld 2 rfl) (ed q1 (ed q2 ?_)))))));refine gW t rfl rfl (by simp only[mW,eo,iw.one];rfl) λh4 o s4=>?_;have C4:=C3.cons s4 o;have E:=iw.since s4;have al:=(t.ok 0 _ rfl).2.1;refine ed (by rfl) (ed (o.ld 0 rfl rfl) ?_);by_cases G:x.op=21
 ·refine fZ (gj (by omega) ?_);refine ed (by rfl) (ed (o.ld 0 rfl rfl) (ed E.len ?_));have am:=(g.Dz _ _ _ _ _ e y G d).2
  refine Fx (λk O R S T c l n J U V h'=>∃F' m,O = .ptr lc 0/\R = .I i/\S = .ptr h.next 0/\T = .I B.ef.length/\c=bv/\l = .I B.ef.length/\n = .I j/\J=w/\U = .I x.args.length/\V = .I (m:Nat)/\m+k=x.args.length/\
   Sn F3 h4 F' h'/\ej F' h' (ey h3.next 45 (mW x w)::ey h.next 43 (lB B bv bn bp)::cs)) ?_ (k:=x.args.length) ⟨F3,0,rfl,rfl,rfl,rfl,rfl,rfl,rfl,rfl,rfl,rfl,by omega,Sn.refl _ _,o⟩
  rintro k2 O R S T c l n J U V h5 ⟨F5,m,rfl,rfl,rfl,rfl,aa,rfl,rfl,an,rfl,rfl,ao,A,K⟩;subst c J;unfold xP;have C5:=C4.since A K;by_cases hm:m<x.args.length;rotate_left
  ·refine iI ?_;refine vG ?_;unfold pO;exact fI ⟨k-1,by omega,F5,j+1,rfl,rfl,rfl,rfl,rfl,rfl,rfl,by omega,(r.trans s4).trans A,K.tail⟩
  refine gy ?_
  let⟨l11,ap,hl11,m1,m2⟩:=(E.since A).nat (hO hm) .i64
  refine ed m1 (ed m2 ?_);have aq:m<B.eQ.length:=by omega
  obtain⟨p,hp⟩:∃p,B.eQ[m]? =some p:=by simp_all
  have ae:p<u.blocks.length:=by
   have:=DQ hp;rw[g.eQ i B d]at this;exact(g.YX (we.1 this)).1
  obtain⟨P,hP⟩:∃P,u.blocks[p]? =some P:=by simp_all
  rw[rS,g0]
  let⟨N,W,r6⟩:=K.ZY ev rfl (yd F5 h5 [x.args[m]]) false
  have g6:(h5.new (.cells 3 1 true false (gZ [x.args[m]]))).get h5.next=some (.cells 3 1 true false (gZ [x.args[m]])):=fh _ _;have C6:=C5.since W N
  let⟨l12,ar,_,n1,n2⟩:=(((ip.since r).since s4).since (A.trans W)).nat hp .i64
  let⟨l13,au,pv,pn,pp,_,p1,_,pvr,_,_,pa⟩:=C6.ck.u.nV hP
  refine ed (by rfl) (ed (N.ld 1 rfl rfl) (ed n1 (ed n2 (ed (fP _ _) (ed (by rfl) (ed (by rfl) (ed (C6.ck.ld 3 rfl) ?_)))))));refine ed (by rfl) (ed (N.ld 1 rfl rfl) (ed n1 (ed n2 (ed p1 (ed (by rfl) (ed pa.ef (ed pvr.len ⟨by simp_all,?_⟩)))))));refine KU C6 r6 (by simp) ae (λz X=>?_) ⟨ju _,xM (gj rfl ?_)⟩
  ·obtain rfl:=wBX.1 X;exact JJ hP (g.DO _ i j x B e y G d m _ p (by simp_all) hp)
  ·exact fI ⟨k2-1,by omega,_,m+1,rfl,rfl,rfl,rfl,rfl,rfl,rfl,rfl,rfl,rfl,by omega,A.trans W,N⟩
 refine fZ (fU (by omega) ?_);refine ed (o.tK 0 rfl rfl) ?_;refine KT o E (by omega) λF5 h5 v A K r5=>?_;have C5:=C4.since A K;refine KU C5 r5 (by grind[J0]) q (λz X=>VP (g.DD _ i j x e y G z X)) (ed rfl ?_);refine fx (ed (by rfl) (fx (ed (K.ld 0 rfl rfl) (pY ?_))));refine HV (fx (ed rfl ?_));refine Yw rfl C5 (by omega) (K.ld 0 rfl rfl) q (λY=>?_) λh6 W N=>?_
 ·have oV:=g.leave _ x y Y;obtain⟨fs,a⟩:∃fs,u.eh[x.state]? =some fs:=by simp_all
  exact⟨fs,a,by grind,λz X=>VP (g.GW _ i j x fs e y Y a z X)⟩
 ·refine iJ (fU (by simp) ?_);refine vG ?_;unfold pO;exact fI ⟨k-1,by omega,F5,j+1,rfl,rfl,rfl,rfl,rfl,rfl,rfl,by omega,((r.trans s4).trans A).trans W,N.tail⟩
end
open Un Dm
section
variable{F F':Nat->Prop}{h h':Hp}{cs:List Pc}{Q:fo}{u:U}{vv vb vs:V}
theorem zaw(g:Good u)(H0:ej F h cs)(hu:zQ F h u vv vb vs)(H:∀F' h',Sn F h F' h'->ej F' h' cs->Q (.bool true) h'):cP CS CH [.agg (uC u vv vb vs)] h Q:=by
 refine Tn rfl rfl ?_;unfold Mc;have nv:=g.nv;have nb:=g.nb;have L2:=g.L2;have ns:=g.ns;refine jM H0 hu.one λt x s1=>?_;have u1:=hu.since s1;have l2:ez (.ptr h.next (0+2)) t=some vv:=x.ld 0 rfl rfl;have l3:ez (.ptr h.next (0+3)) t=some vb:=x.ld 0 rfl rfl;have l4:ez (.ptr h.next (0+4)) t=some vs:=x.ld 0 rfl rfl;refine oF l2 (ed u1.v.len (ed (oT _ _ _ _) ?_));rw[OZ (by omega)];have e1:nt (.bool false) (oB (fF 3 (.ptr h.next 0)) λf=>oB (ez f t) λj=>oB (fD j) λk=>en .gtr 3 k (V.I 300))=some (.bool false):=by
  simp only[nr,fS,fe,l3,u1.b.len,oT];rw[OZ (by omega)]
 have e2:nt (.bool false) (oB (fF 4 (.ptr h.next 0)) λf=>oB (ez f t) λj=>oB (fD j) λk=>en .gtr 3 k (V.I 1000))=some (.bool false):=by
  simp only[nr,fS,fe,l4,u1.s.len,oT];rw[OZ (by omega)]
 have e3:nt (.bool false) (oB (fF 3 (.ptr h.next 0)) λf=>oB (ez f t) λj=>oB (fD j) λk=>en .eql 3 k (V.I 0))=some (.bool false):=by
  simp only[nr,fS,fe,l3,u1.b.len,gO];congr 2;rw[Uf];omega
 refine ed e1 (ed e2 (ed e3 (iJ (fU (by simp) ?_))));refine ed (x.tK 0 rfl rfl) (ed (show _=some (V.agg [.I u.func,.I u.pc,vv,vb,vs,.ee,.ee,.ee]) from rfl) ?_);refine jM x (by simp only[eo,u1.v.one,u1.b.one,u1.s.one];rfl) λC D s2=>?_;have u2:=u1.since s2;generalize t.next=lc at*;have l4:ez (.ptr h.next (0+4)) C=some vs:=D.ld 1 rfl rfl;refine oF l4 (ed u2.s.len ?_);have C2:Ck F C (ey lc 96 [.I u.func,.I u.pc,vv,vb,vs,.ee,.ee,.ee]::ey h.next 30 (uC u vv vb vs)::cs) lc u vv vb vs .ee .ee .ee:=⟨D,⟨0,_,rfl⟩,u2⟩
 refine OA (by omega) (λF' h'=>F' = F/\Sn F C F h'/\ej F h' (ey lc 96 [.I u.func,.I u.pc,vv,vb,vs,.ee,.ee,.ee]::ey h.next 30 (uC u vv vb vs)::cs)) ⟨rfl,Sn.refl _ _,D⟩ (λi hi F' h' hP n p=>?_) λF3 h3 hP=>?_
 ·obtain⟨rfl,s',l⟩:=hP;show cP CS mR [.ptr lc 0,.I i] h' n;have hs:=hO hi;obtain⟨g1,g2,g3⟩:=g.st i _ hs;exact YR (C2.since s' l) hs ⟨g1,g2⟩ g3 λa c d=>p F' a ⟨rfl,s'.trans c,d⟩
 obtain⟨rfl,E,H3⟩:=hP;refine ed rfl (fx (ed rfl (pY ?_)));refine zax g H3 (u2.since E) λJ K b' r xs ys s4 L rb rp std=>?_;refine ed rfl (fx (ed rfl ?_));have M:=(u2.since E).since s4;have N:Ck J K (ey lc 96 [.I u.func,.I u.pc,vv,vb,vs,b',r,.ee]::ey h.next 30 (uC u vv vb vs)::cs) lc u vv vb vs b' r .ee:=⟨L,⟨0,_,rfl⟩,M⟩
 have l2:ez (.ptr h.next (0+2)) K=some vv:=L.ld 1 rfl rfl;refine fx (ed (fS _ _ _) (fx (ed l2 (fx (ed M.v.len (fx (ed rfl (fx (ed rfl (pY ?_))))))))));refine OA (F:=J) (by omega) (λF' h'=>Sn J K F' h'/\ej F' h' (ey lc 96 [.I u.func,.I u.pc,vv,vb,vs,b',r,.ee]::ey h.next 30 (uC u vv vb vs)::cs)) ⟨Sn.refl _ _,L⟩ (λi hi F' h' hP n p=>?_) λF5 h5 hP=>?_
 ·obtain⟨s',l⟩:=hP;show cP CS kO [.ptr lc 0,.I i] h' n;exact zdk g (N.since s' l) (rb.since s') std hi (l.ok 0 _ rfl).2.1 λe a c d=>p e a ⟨s'.trans c,d⟩
 obtain⟨A,B⟩:=hP;have u5:=M.since A;have l3:ez (.ptr h.next (0+3)) h5=some vb:=B.ld 1 rfl rfl;refine ed rfl (fx (ed rfl (fx (ed (fS _ _ _) (fx (ed l3 (fx (ed u5.b.len (fx (ed rfl (fx (ed rfl (pY ?_)))))))))))));refine OA (F:=F5) (by omega) (λF' h'=>Sn F5 h5 F' h'/\ej F' h' (ey lc 96 [.I u.func,.I u.pc,vv,vb,vs,b',r,.ee]::ey h.next 30 (uC u vv vb vs)::cs)) ⟨Sn.refl _ _,B⟩ (λi hi F' h' hP n p=>?_) λF6 h6 hP=>?_
 ·obtain⟨s',l⟩:=hP;show cP CS nw [.ptr lc 0,.I i] h' n;exact za3 g ((N.since A B).since s' l) (hO hi) λe a c d=>p e a ⟨s'.trans c,d⟩
 obtain⟨O,P⟩:=hP;have u6:=u5.since O;have l3:ez (.ptr h.next (0+3)) h6=some vb:=P.ld 1 rfl rfl;refine ed rfl (fx (ed rfl (fx (ed (fS _ _ _) (fx (ed l3 (fx (ed u6.b.len (fx (ed rfl (fx (ed rfl (pY ?_)))))))))))));refine OA (F:=F6) (by omega) (λF' h'=>Sn F6 h6 F' h'/\ej F' h' (ey lc 96 [.I u.func,.I u.pc,vv,vb,vs,b',r,.ee]::ey h.next 30 (uC u vv vb vs)::cs)) ⟨Sn.refl _ _,P⟩ (λi hi F' h' hP n p=>?_) λF7 h7 hP=>?_
 ·obtain⟨s',l⟩:=hP;show cP CS oR [.ptr lc 0,.I i] h' n;exact zc9 g (((N.since A B).since O P).since s' l) (hO hi) λe a c d=>p e a ⟨s'.trans c,d⟩
 obtain ⟨s7,H7⟩:=hP;have u7:=u6.since s7;refine ed rfl (iJ (fU (by simp) ?_));refine IL rfl rfl ?_;unfold Ad;have lA:fX 5 (.ptr lc 0) h7=some (.agg (uC u vv vb vs)):=by
  rw[Eo (H7.get 0 rfl),EI (by simp)];rfl
 refine ed (fP _ _) (ed (fS _ _ _) (ed lA ?_));refine Tu g H7 u7 λF8 h8 vo seen post s8 R G ro=>?_;have S:=u7.since s8;have lo:=ro.len;rw[List.length_reverse,Sj g G]at lo;refine ed lo (oF (R.ld 1 rfl rfl) (ed S.b.len (tI (gj rfl ?_))));refine ed (R.tK 1 rfl rfl) ?_;refine O8 g R S λT h9 vd FI I U W G' s9 H9 rd d1 d2 d3 d4 d5=>?_;obtain⟨y,Nj,aa,q,w⟩:=H9.st 0 (o:=7) (u:=vd) rfl (by simp) rd.one;refine ed (fP _ _) (ed (fS _ _ _) ?_);rw[show V.ptr lc (0+7)=V.ptr lc 7 from rfl,Nj,ei];simp only[rV,mP]at q;have z:=(S.since s9).since w;refine oF (q.ld 1 rfl rfl) (ed z.b.len ?_);have m:=((((A.trans O).trans s7).trans s8).trans s9).trans w
 have X:Cx T y (ey lc 96 [.I u.func,.I u.pc,vv,vb,vs,b',r,vd]::ey h.next 30 (uC u vv vb vs)::cs) lc u vv vb vs b' r vd xs ys FI I:=
  ⟨⟨q,⟨0,_,rfl⟩,z⟩,rb.since m,rp.since m,rd.since w,std,⟨d1,d2,d3,⟨G'.gr.place,λb hb h0=>d4.up b hb h0⟩,d5⟩⟩
 refine OA (F:=T) (by omega) (λF' h'=>Sn T y F' h'/\ej F' h' (ey lc 96 [.I u.func,.I u.pc,vv,vb,vs,b',r,vd]::ey h.next 30 (uC u vv vb vs)::cs)) ⟨Sn.refl _ _,q⟩ (λi hi F' h' hP n p=>?_) λab ac hP=>?_
 ·obtain⟨s',l⟩:=hP;show cP CS mS [.ptr lc 0,.I i] h' n;exact zay g (X.since s' l) (l.ok 0 _ rfl).2.1 (hO hi) λe a c d=>p e a ⟨s'.trans c,d⟩
 obtain⟨Y,Z⟩:=hP;exact H _ _ (((((s1.trans s2).trans E).trans s4).trans m).trans Y) Z.tail.tail
end
