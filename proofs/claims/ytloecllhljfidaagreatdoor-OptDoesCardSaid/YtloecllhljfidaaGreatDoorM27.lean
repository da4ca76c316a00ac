/- Parts. -/
import Derived.Test.YtloecllhljfidaaGreatDoorM26
set_option maxHeartbeats 4000000
namespace Go.Proofs.YtloecllhljfidaaGreatDoor.Hx
open Un Dm
variable{S:Nat->Prop}{I:Nat->Nat}{G:Dm.Gr}{n:Nat}
structure zbX (G:Dm.Gr) (I:Nat->Nat) (S:Nat->Prop) (b:Nat):Prop where
 low:∀p,S p->G.BK p b->qD I (I b) p
 zeC:∀x,(∀p,S p->G.BK p b->qD I x p)->qD I x (I b)
theorem Ut(I:Nat->Nat)(b:Nat):Dm.set I b (I b)=I:=by
 grind[Dm.set]
theorem Wc{b:Nat}(h:S b):(λx=>S x\/x=b)=S:=by
 grind
theorem ZH{k:Nat}(o:Dm.Inv G I S k 1)(i:∀b,G.node b->S b)(f:∀b,G.node b->b≠0->zbX G I S b)(a:∀b,G.node b->G.place b<n)(c:∀p,p<n->∃b,G.node b/\G.place b=p):Dm.Inv G I S (k+1) 1:=by
 have d:∀m,1+m<=n->Dm.Inv G I S k (1+m):=by
  intro m
  induction m with
  |zero=>simp_all
  | succ m j=>
    intro q;have l:=j (by omega)
    let⟨b,hb,hp⟩:=c (1+m) (by omega)
    have h0:b≠0:=λe=>by subst e;rw[G.ES]at hp;omega
    have g:=(l.Pu hb h0 hp (f b hb h0).low (f b hb h0).zeC).1;rw[Ut,Wc (i b hb)]at g;exact g
 have r:1<=n:=by have:=a 0 G.first;omega
 have h:=d (n-1) (by omega);rw[show 1+(n-1)=n by omega]at h;exact h.pass a
theorem T2{k:Nat}(d:Dm.Inv G I S k 1)(e:∀b,G.node b->S b)(f:∀b,G.node b->b≠0->zbX G I S b)(a:∀b,G.node b->G.place b<n)(c:∀p,p<n->∃b,G.node b/\G.place b=p):∀m,Dm.Inv G I S (k+m) 1
 |0=>d
 |m+1=>ZH (T2 d e f a c m) e f a c
section
variable{u:U}{seen:List Bool}{post:List Nat}
theorem TF(g:Good u)(G:Iq u.blocks.length (next u) seen post []):∀b,b<u.blocks.length->b∈post:=by
 have a:∀b l,Pt (next u) b l->b∈post:=by
  intro b l hp
  induction hp with
  |nil=>let⟨p,hp⟩:=G.last rfl;simp_all
  | step _ c d=>
    have:=(G.iff _).1 (G.closed _ d _ c)
    simp_all
 intro b hb
 let⟨l,hl⟩:=g.reach b hb
 grind
theorem SR(g:Good u)(G:Iq u.blocks.length (next u) seen post []):post.length=u.blocks.length:=G.all (TF g G)
theorem zaX(G:Iq u.blocks.length (next u) seen post []):post.reverse.Nodup:=by
 have:=G.nodup
 grind
theorem Ot(G:Iq u.blocks.length (next u) seen post []){i b:Nat}(h:post.reverse[i]? =some b):G.gr.place b=i:=by
 show post.reverse.idxOf b=i;obtain⟨hi,rfl⟩:=jo.1 h;have a:=zaX G
 grind
end
section
variable{F F':Nat->Prop}{h h':Hp}{cs:List Pc}{Q:fq}{u:U}{vv vb vs:V}
structure WJ (S:Nat->Prop) (I:Nat->Nat) (n:Nat) (Ea:List Int):Prop where
 len:Ea.length=n
 yes:∀b,S b->Ea[b]? =some (I b:Int)
 no:∀b,b<n->¬S b->Ea[b]? =some (-1)
theorem zbj{j l t5 t6:Nat}{t vp:V}{Ea:List Int}{pl:List Nat}(c:ev F h cs){i5 i6 ii ip:Nat}(u:cs[i5]? =some (eJ j t5 [t]))(v:cs[i6]? =some (eJ l t6 [vp]))(hi:cs[ii]? =some (fg eZ eR Ea t))(hp:cs[ip]? =some (fg eN eR pl vp))
  (f:Tree G I S) (w:WJ S I n Ea) (i:∀b,G.node b->pl[b]? =some (G.place b)) {a b:Nat} (C:S a) (hb:S b)
  (H:∀d,S d->qD I d a->qD I d b->(∀x,qD I x a->qD I x b->qD I x d)->Q (.I (d:Nat)) h):cP CS jO [.I a,.I b,.ptr l 0,.ptr j 0] h Q:=by
 refine JE ?_
 refine FZ (λk y z A B h'=>∃a' b',y = .I (a':Nat)/\z = .I (b':Nat)/\A = .ptr l 0/\B = .ptr j 0/\h' = h/\k=G.place a' + G.place b'/\S a'/\S b'/\qD I a' a/\qD I b' b/\(∀x,qD I x a->qD I x b->qD I x a'/\qD I x b')) ?_
  ⟨a,b,rfl,rfl,rfl,rfl,rfl,rfl,C,hb,.refl _,.refl _,by simp_all⟩
 rintro k y z A B h' ⟨a',b',rfl,rfl,rfl,rfl,rfl,hk,sa,sb,m,o,hx⟩;unfold qH;by_cases e:a' = b'
 ·subst e;refine yq (fW rfl ?_);exact H a' sa m o λx p q=>(hx x p q).1
 refine yq (fP (by omega) ?_)
 let⟨lp,op,p1,p2⟩:=c.L6 ip hp (i a' (f.node _ sa)) .i64
 let⟨lq,oq,D,E⟩:=c.L6 ip hp (i b' (f.node _ sb)) .i64
 refine eh (c.ld i6 v rfl) (eh p1 (eh p2 (eh (c.ld i6 v rfl) (eh D (eh E ?_)))));by_cases Nr:G.place b' < G.place a'
 ·refine AQ (fW (by omega) ?_)
  let⟨li,oi,r,s⟩:=c.Sh ii hi (w.yes a' sa) .i64
  refine eh (c.ld i5 u rfl) (eh r (eh s ?_));have h0:a'≠0:=λe=>by subst e;rw[G.ES]at Nr;omega
  let⟨u1,u2⟩:=f.up a' sa h0
  exact⟨_,by omega,I a',b',rfl,rfl,rfl,rfl,rfl,rfl,u1,sb,(qD.up h0 (.refl _)).trans m,o,λx p q=>⟨f.zc7 sa sb Nr (by simp_all) (by simp_all),by simp_all⟩⟩
 ·refine AQ (fP (by omega) ?_)
  let⟨li,oi,r,s⟩:=c.Sh ii hi (w.yes b' sb) .i64
  refine eh (c.ld i5 u rfl) (eh r (eh s ?_));have g:G.place a' < G.place b':=by
   have:G.place a'≠G.place b':=λe'=>e (G.inj _ _ (f.node _ sa) (f.node _ sb) e');omega
  have h0:b'≠0:=λe=>by subst e;rw[G.ES]at g;omega
  let⟨u1,u2⟩:=f.up b' sb h0
  exact⟨_,by omega,a',I b',rfl,rfl,rfl,rfl,rfl,rfl,sa,u1,m,(qD.up h0 (.refl _)).trans o,λx p q=>⟨by simp_all,f.zc7 sb sa g (by simp_all) (by simp_all)⟩⟩
theorem Jf(g:Good u)(H0:ev F h cs)(hu:tL F h u vv vb vs)
  (H:∀F' h' v Ea I seen post (G:Iq u.blocks.length (next u) seen post []),Sn F h F' h'->ev F' h' cs->il eZ F' h' Ea v->Ea.length=u.blocks.length->Ea[0]? =some (-1)->(∀b,b≠0->b<u.blocks.length->Ea[b]? =some (I b:Int))->Tree G.gr I (λb=>b<u.blocks.length)->
   (∀x b,b<u.blocks.length->(qD I x b↔mz (next u) x b))->Q v h'):cP CS sQ [.agg (uC u vv vb vs)] h Q:=by
 refine LU ?_;have nb:=g.nb;have I5:=g.I5;refine j4 H0 hu.one λq H1 s1=>?_;have lA:=H1.mY 0 rfl rfl;refine eh lA (eh lA ?_);refine SM g H1 (hu.since s1) λF2 h2 vo seen post s2 H2 G r2=>⟨s2.next,H2.mY 0 rfl rfl,?_⟩
 refine Uv g H2 (hu.since (s1.trans s2)) λR W va s3 H3 r3=>⟨s3.next,?_⟩
 have u3:=hu.since ((s1.trans s2).trans s3);have r2:=r2.since s3;refine oF (H3.ld 0 rfl rfl) (eh u3.b.len ?_);rw[jE rfl (by decide) (by omega),gO];obtain⟨H4,s4⟩:=H3.make (E:=eZ) u.blocks.length rfl rfl;have n4:(W.new (.cells eR 1 true false (List.replicate u.blocks.length (V.I 0)))).next=W.next+1:=rfl;have g4:(W.new (.cells eR 1 true false (List.replicate u.blocks.length (V.I 0)))).get W.next=some (.cells 3 1 true false (List.replicate u.blocks.length (V.I 0))):=fm _ _;show oP (fI 3 (.ptr h.next 0)) _;generalize bY:W.new (.cells eR 1 true false (List.replicate u.blocks.length (V.I 0)))=X at*;refine oF (H4.ld 1 rfl rfl) (eh (u3.since s4).b.len ?_);rw[jE rfl (by decide) (by omega),gO];obtain⟨H5,s5⟩:=H4.make (E:=eN) u.blocks.length rfl rfl;have n5:(X.new (.cells eR 1 true false (List.replicate u.blocks.length (V.I 0)))).next=X.next+1:=rfl;have g5:(X.new (.cells eR 1 true false (List.replicate u.blocks.length (V.I 0)))).get X.next=some (.cells 3 1 true false (List.replicate u.blocks.length (V.I 0))):=fm _ _;have bg:=(fo (.cells eR 1 true false (List.replicate u.blocks.length (V.I 0))) (by omega)).trans g4;generalize bZ:X.new (.cells eR 1 true false (List.replicate u.blocks.length (V.I 0)))=h5 at*;rw[gO]
 let⟨H6,s6⟩:=H5.yP iU [V.ei]
 have n6:(h5.new (.cells iU 1 true false [V.ei])).next=h5.next+1:=rfl;have g6:(h5.new (.cells iU 1 true false [V.ei])).get h5.next=some (.cells 22 1 true false [V.ei]):=fm _ _;have bh:=(fo (.cells iU 1 true false [V.ei]) (by omega)).trans g5;have bi:=(fo (.cells iU 1 true false [V.ei]) (by omega)).trans bg;show xB _ (h5.new (.cells iU 1 true false [V.ei])) _;generalize b4:h5.new (.cells iU 1 true false [V.ei])=h6 at*;rw[gO]
 let⟨H7,s7⟩:=H6.yP iU [V.ei]
 have g7:(h6.new (.cells iU 1 true false [V.ei])).get h6.next=some (.cells 22 1 true false [V.ei]):=fm _ _;have g67:=(fo (.cells iU 1 true false [V.ei]) (by omega)).trans g6;have aG:=(fo (.cells iU 1 true false [V.ei]) (by omega)).trans bh;have bj:=(fo (.cells iU 1 true false [V.ei]) (by omega)).trans bi;show(((h6.new (.cells iU 1 true false [V.ei])).get h6.next=_/\_)/\_);generalize b5:h6.new (.cells iU 1 true false [V.ei])=h7 at*;refine⟨⟨g7,O.kE _ _ _ _ _⟩,⟨g67,O.kE _ _ _ _ _⟩,⟨aG,O.kE _ _ _ _ _⟩,H7.ld 4 rfl rfl,⟨bj,O.kE _ _ _ _ _⟩,H7.ld 4 rfl rfl,?_⟩
 let⟨h8,e8,n8,H8,s8,k8⟩:=H7.stk 1 (o:=0) (u:= .slice W.next 0 u.blocks.length) rfl (by simp) rfl
 rw[e8,en];refine⟨n8,⟨(k8 _ (by omega)).trans aG,O.kE _ _ _ _ _⟩,(by simp[ oU]at H8;exact H8.ld 4 rfl rfl),?_⟩;simp[ oU]at H8
 let⟨h9,e9,n9,H9,s9⟩:=H8.st 0 (o:=0) (u:= .slice X.next 0 u.blocks.length) rfl (by simp) rfl
 rw[e9,en];refine⟨n9,?_⟩;simp[oU]at H9;have ap:=((((s4.trans s5).trans s6).trans s7).trans s8).trans s9;have bm:=((s1.trans s2).trans s3).trans ap;have r2:=r2.since ap;have r3:=r3.since ap;generalize V.slice W.next 0 u.blocks.length=vi at*;generalize V.slice X.next 0 u.blocks.length=vp at*;generalize h6.next=l6 at*;generalize h5.next=T at*;generalize h.next=lb at*;have aH:=H9.len 3 rfl;rw[Wt]at aH;refine eh (H9.ld 1 rfl rfl) (eh aH ?_);have bo:=SR g G;have Y:post.reverse.length=u.blocks.length:=by simpa using bo
 refine IN (λk t w L x6 aI aJ h'=>∃(i:Nat) (xs:List Int),t=vo/\w=va/\L = .ptr T 0/\x6 = .ptr l6 0/\aI = .I u.blocks.length/\aJ = .I i/\i+k=u.blocks.length/\xs.length=u.blocks.length/\(∀j,j<i->xs[j]? =some (-1))/\
  Sn R h9 R h'/\ev R h' (eJ l6 iU [vp]::eJ T iU [vi]::fg eN eR (List.replicate u.blocks.length 0) vp::fg eZ eR xs vi::eJ lb 30 (uC u vv vb vs)::cs)) ?_ (k:=u.blocks.length)
  ⟨0,_,rfl,rfl,rfl,rfl,rfl,rfl,by omega,by simp,λj hj=>by omega,Sn.refl _ _,H9⟩
 rintro k t w L x6 aI aJ b6 ⟨i,xs,e3,e4,rfl,rfl,rfl,rfl,hk,aK,hm,aL,aM⟩;subst t w;unfold uE;by_cases hi:i<u.blocks.length
 ·refine gy ?_;obtain⟨b7,b8,b9,Yr,br,ca,aN,bt⟩:=aM.IH 3 rfl (k:=i) (by omega) rfl rfl rfl;refine eh (aM.ld 1 rfl rfl) (eh Yr ?_);rw[br,en];simp[pJ,oU]at aN;refine fF ⟨k-1,by omega,i+1,xs.set i (-1),rfl,rfl,rfl,rfl,rfl,rfl,by omega,by simp[aK],λj hj=>?_,aL.trans bt,aN⟩
  grind
 refine hY ?_;obtain rfl:i=u.blocks.length:=by omega
 have lo:=(r2.since aL).len;rw[Y]at lo;refine eh lo ?_
 refine Iz (λk t w L x6 aq aO aP h'=>∃i pl,t=vo/\w=va/\L = .ptr T 0/\x6 = .ptr l6 0/\aq=vo/\aO = .I u.blocks.length/\aP = .I (i:Nat)/\i+k=u.blocks.length/\pl.length=u.blocks.length/\(∀j b,j<i->post.reverse[j]? =some b->pl[b]? =some j)/\
  Sn R h9 R h'/\ev R h' (eJ l6 iU [vp]::eJ T iU [vi]::fg eN eR pl vp::fg eZ eR xs vi::eJ lb 30 (uC u vv vb vs)::cs)) ?_ (k:=u.blocks.length)
  (by grind)
 rintro k1 t w L x6 aq aO aP cb ⟨i,pl,e3,e4,rfl,rfl,cd,rfl,rfl,ce,aQ,bu,ah,ai⟩;subst t w aq;unfold uG;by_cases hi:i<u.blocks.length
 ·refine gy ?_;obtain⟨b,hb⟩:∃b,post.reverse[i]? =some b:=⟨_,gN (by omega)⟩
  have aj:b<u.blocks.length:=G.pre b (wBG.1 (zD hb))
  let⟨cf,cg,_,j1,j2⟩:=(r2.since ah).nat hb .i64
  obtain⟨ci,cj,cm,bw,ar,cn,aR,bx⟩:=ai.IH 2 rfl (k:=b) (by omega) rfl rfl rfl;refine eh j1 (eh j2 (eh (ai.ld 0 rfl rfl) (eh bw ?_)));rw[ar,en];simp[pJ,oU]at aR;refine fF ⟨k1-1,by omega,i+1,pl.set b i,rfl,rfl,rfl,rfl,rfl,rfl,rfl,by omega,by simp[aQ],λj c hj hc=>?_,ah.trans bx,aR⟩;by_cases e:c=b
  ·subst e;have q:=Ot G hb;have h2:=Ot G hc;obtain rfl:i=j:=by omega
   rw[MR (by omega)]
  grind
 refine hY ?_;obtain rfl:i=u.blocks.length:=by omega
 have ak:∀b,G.gr.node b->pl[b]? =some (G.gr.place b):=λb hb=>by
  have q:=UJ post.reverse b (wBG.2 hb);exact bu (post.reverse.idxOf b) b (by have:=(jo.1 q).1;omega) q
 have lo:=(r2.since ah).len;rw[Y]at lo;refine eh lo (fX (fP (by omega) ?_));obtain⟨co,cp,cq,ar,bz,cr,aS,bA⟩:=ai.IH 3 rfl (k:=0) (by omega) rfl rfl rfl;refine eh (ai.ld 1 rfl rfl) (eh ar ?_);rw[bz,en];simp[pJ,oU]at aS;have bC:WJ (λx=>x=0) (λ_=>0) u.blocks.length (xs.set 0 0):=⟨by simp[aK],λb hb=>by rw[hb,MR (by omega)];rfl,by grind⟩
 have f:∀b,G.gr.node b↔b<u.blocks.length:=λb=>⟨λhb=>G.pre b hb,λhb=>TF g G b hb⟩
 have am:∀b,G.gr.node b->G.gr.place b<u.blocks.length:=λb hb=>by
  have q:=UJ post.reverse b (wBG.2 hb);have:=(jo.1 q).1;show post.reverse.idxOf b<_;omega
 have aT:∀p,p<u.blocks.length->∃b,G.gr.node b/\G.gr.place b=p:=by grind
 refine IS (λk t w L B C h'=>∃c kk I S Ea,t=vo/\w=va/\L = .ptr T 0/\B = .func jO [] [.ptr l6 0,.ptr T 0]/\C = .bool c/\k+kk=u.blocks.length+2/\(c=true->kk<=u.blocks.length+1)/\
  (c=false->(∀b,G.gr.node b->S b)/\∀b,G.gr.node b->b≠0->zbX G.gr I S b)/\Dm.Inv G.gr I S kk 1/\WJ S I u.blocks.length Ea/\
  Sn R h9 R h'/\ev R h' (eJ l6 iU [vp]::eJ T iU [vi]::fg eN eR pl vp::fg eZ eR Ea vi::eJ lb 30 (uC u vv vb vs)::cs)) ?_ (k:=u.blocks.length+1)
  ⟨true,1,λ_=>0,λx=>x=0,_,rfl,rfl,rfl,rfl,rfl,by omega,λ_=>by omega,λh=>(by cases h),Dm.Inv.start,bC,ah.trans bA,aS⟩
 rintro k2 t w L B C ct ⟨c,kk,I,S,Ea,e3,e4,rfl,rfl,rfl,cu,bD,bE,hI,hR,al,au⟩;subst t w;unfold uA
 cases c with
 | false=>
   refine iB (fP (by simp) ?_)
   let⟨hS,hF⟩:=bE rfl
   have aU:=T2 hI hS hF am aT (u.blocks.length+1);obtain⟨cv,cw,aw,bG,bH,cx,n,D⟩:=au.IH 3 rfl (k:=0) (by rw[hR.len];omega) rfl rfl rfl;refine eh (au.ld 1 rfl rfl) (eh bG ?_);rw[bH,en];simp[pJ,oU]at n;refine eh (n.ld 1 rfl rfl) ?_
   let⟨aV,bI,bJ⟩:=n.jc 3 rfl
   simp[pJ,oU]at aV;refine H _ _ vi (Ea.set 0 (-1)) I seen post G (((bm.trans al).trans D).trans bI) aV.tail.tail.tail.tail.tail bJ (by simp[hR.len]) (by rw[MR (by rw[hR.len];omega)]) (λb h0 hb=>?_) ⟨by omega,λb hb=>(f b).2 hb,λb hb h0=>?_⟩ λx b hb=>?_
   ·rw[I9 λh=>h0 h.symm]
    exact hR.yes b (hS b ((f b).2 hb))
   ·let⟨q,h2⟩:=hI.tree.up b (hS b ((f b).2 hb)) h0
    exact⟨(f _).1 (hI.tree.node _ q),h2⟩
   ·rw[aU.exact (λb hb=>(f b).1 hb) (by omega) (hS b ((f b).2 hb))]
    exact(zaH λa b=>Iff.rfl).symm
 | true =>
   refine iB (fW rfl ?_);have cy:=bD rfl;obtain⟨ax,bK,ay⟩:=(r2.since al).cut (m:=1) (Qi _ _ _) (HH _) (by omega) (iZ _);rw[I2]at ay;refine eh bK (eh ay.len ?_);have aW:(post.reverse.drop 1).length=u.blocks.length-1:=by rw[wBx,Y]
   rw[aW]
   refine IM (λk t w L B C J Z aa h'=>∃i c I S Ea,t=vo/\w=va/\L = .ptr T 0/\B = .func jO [] [.ptr l6 0,.ptr T 0]/\C = .bool c/\J=ax/\Z = .I ((u.blocks.length-1:Nat):Int)/\aa = .I (i:Nat)/\i+k=u.blocks.length-1/\
     (c=true->kk<=u.blocks.length)/\(c=false->∀b,G.gr.node b->G.gr.place b<i+1->S b/\(b≠0->zbX G.gr I S b))/\Dm.Inv G.gr I S kk (i+1)/\WJ S I u.blocks.length Ea/\
     Sn R h9 R h'/\ev R h' (eJ l6 iU [vp]::eJ T iU [vi]::fg eN eR pl vp::fg eZ eR Ea vi::eJ lb 30 (uC u vv vb vs)::cs)) ?_ (k:=u.blocks.length-1)
     ⟨0,false,I,S,Ea,rfl,rfl,rfl,rfl,rfl,rfl,rfl,rfl,by omega,λh=>(by cases h),λ_ b hb bL=>by
       obtain rfl:b=0:=G.gr.inj b 0 hb G.gr.first (by have:=G.gr.ES;omega);exact⟨hI.tree.zero,λh=>absurd rfl h⟩,hI,hR,al,au⟩
   rintro k3 t w L B C J Z aa aw ⟨i,c,M,A,N,e3,e4,rfl,rfl,rfl,aX,rfl,rfl,cz,aY,bQ,ab,r,D,n⟩;subst t w J;unfold uB;by_cases hi:i<u.blocks.length-1;rotate_left
   ·refine hY ?_
    obtain rfl:i=u.blocks.length-1:=by omega
    have hp:=ab.pass λb hb=>by have:=am b hb;omega
    refine⟨k2-1,by omega,c,kk+1,M,A,N,rfl,rfl,rfl,rfl,rfl,by omega,λh=>by have:=aY h;omega,λh=>?_,hp,r,D,n⟩
    simp_all
   refine gy ?_;obtain⟨b,hb⟩:∃b,post.reverse[i+1]? =some b:=⟨_,gN (by omega)⟩
   have ac:G.gr.node b:=wBG.1 (zD hb);have aj:=(f b).1 ac;have aA:G.gr.place b=i+1:=Ot G hb;have aB:b≠0:=λe=>by subst e;rw[G.gr.ES]at aA;omega
   have aZ:il eN R aw (post.reverse.drop 1) ax:=ay.fk λl hl=>(D.fk l hl).trans (al.fk l hl).symm;obtain⟨cA,cB,_,j1,j2⟩:=aZ.nat (by rw[wBa,Nat.add_comm];exact hb) .i64
   let⟨cC,cD,bR,_,m1,m2,m3⟩:=(r3.since D).list (i:=b) (x:=Un.ahead u b) (by simp[aj]) .i64
   refine eh j1 (eh j2 (eh m1 (eh m2 (eh m3.len ?_))));have ad:∀p,G.gr.BK p b↔p∈Un.ahead u b:=λp=>wG.symm;have cE:(Un.ahead u b).length<=700:=by
     rw[<-pM];have:=pP g (j:=0) (b:=b) (iZ _) (by omega);omega
   refine IL (λk t w L B C a5 a6 J Z aa aC a7 a8 h'=>∃j dd,t=vo/\w=va/\L = .ptr T 0/\B = .func jO [] [.ptr l6 0,.ptr T 0]/\C = .bool c/\a5 = .I (b:Nat)/\a6 = .I dd/\J=ax/\Z = .I ((u.blocks.length-1:Nat):Int)/\aa = .I (i:Nat)/\
     aC=bR/\a7 = .I ((Un.ahead u b).length:Nat)/\a8 = .I (j:Nat)/\j+k=(Un.ahead u b).length/\h' = aw/\
     ((dd = -1/\∀p∈(Un.ahead u b).take j,¬A p)\/∃d:Nat,dd=(d:Int)/\A d/\(∀p∈(Un.ahead u b).take j,A p->qD M d p)/\∀x,(∀p∈(Un.ahead u b).take j,A p->qD M x p)->qD M x d)) ?_ (k:=(Un.ahead u b).length)
     ⟨0,-1,rfl,rfl,rfl,rfl,rfl,rfl,rfl,rfl,rfl,rfl,rfl,rfl,rfl,by omega,rfl,.inl ⟨rfl,λp hp=>by simp at hp⟩⟩
   rintro k4 t w L B C a5 a6 J Z aa aC a7 a8 bS ⟨j,dd,e3,e4,rfl,rfl,rfl,rfl,rfl,aX,rfl,rfl,cF,rfl,rfl,cG,rfl,U⟩;subst t w J aC;unfold uJ;by_cases hj:j<(Un.ahead u b).length
   ·refine gy ?_
    obtain⟨a,ha⟩:∃a,(Un.ahead u b)[j]? =some a:=⟨_,gN hj⟩
    have a9:a<u.blocks.length:=by
      have:=wG.1 (zD ha);exact(g.zar this).1
    have bU:(Un.ahead u b).take (j+1)=(Un.ahead u b).take j++[a]:=by
      obtain⟨q,rfl⟩:=jo.1 ha;exact M4 q
    let⟨cH,cI,_,q1,q2⟩:=m3.nat ha .i64
    refine eh q1 (eh q2 (eh (n.ld 1 rfl rfl) ?_));have s:∀p,p∈(Un.ahead u b).take (j+1)↔p∈(Un.ahead u b).take j\/p=a:=λp=>by rw[bU];simp
    by_cases hS:A a;rotate_left
    ·let⟨aD,aE,t1,t2⟩:=n.Sh 3 rfl (r.no a a9 hS) .i64
     refine eh t1 (eh t2 (gy ?_));refine rH ?_;unfold lT;refine ka (m:=1) (by omega) (by omega) ⟨k4-1,by omega,j+1,dd,rfl,rfl,rfl,rfl,rfl,rfl,rfl,rfl,rfl,rfl,rfl,rfl,rfl,by omega,rfl,?_⟩;have cJ:∀{P:Nat->Prop},(∀p∈(Un.ahead u b).take (j+1),A p->P p)↔(∀p∈(Un.ahead u b).take j,A p->P p):=λ{P}=>⟨λh p hp=>h p ((s p).2 (.inl hp)),by grind⟩
     simp_all
    let⟨aD,aE,t1,t2⟩:=n.Sh 3 rfl (r.yes a hS) .i64
    refine eh t1 (eh t2 (hY ?_));rcases U with⟨rfl,q⟩|⟨d,rfl,q,h2,W⟩
    ·refine gy ?_
     refine rH ?_;unfold lT;refine ka (m:=1) (by omega) (by omega) ⟨k4-1,by omega,j+1,(a:Int),rfl,rfl,rfl,rfl,rfl,rfl,rfl,rfl,rfl,rfl,rfl,rfl,rfl,by omega,rfl,?_⟩;refine .inr ⟨a,rfl,hS,λp hp hs=>?_,λx hx=>hx a ((s a).2 (.inr rfl)) hS⟩;rcases(s p).1 hp with X|rfl
     ·exact absurd hs (q p X)
     ·exact .refl _
    ·refine hY ?_
     show cP CS jO [.I (d:Nat),.I (a:Nat),.ptr l6 0,.ptr T 0] bS _;refine zbj n (i5:=1) (i6:=0) (ii:=3) (ip:=2) rfl rfl rfl rfl ab.tree r ak q hS λd' g1 g2 g3 g4=>?_;refine rH ?_;unfold lT;refine ka (m:=1) (by omega) (by omega) ⟨k4-1,by omega,j+1,(d':Int),rfl,rfl,rfl,rfl,rfl,rfl,rfl,rfl,rfl,rfl,rfl,rfl,rfl,by omega,rfl,?_⟩;refine .inr ⟨d',rfl,g1,λp hp hs=>?_,λx hx=>g4 x (W x λp hp hs=>hx p ((s p).2 (.inl hp)) hs) (hx a ((s a).2 (.inr rfl)) hS)⟩;rcases(s p).1 hp with X|rfl
     ·exact g2.trans (h2 p X hs)
     ·exact g3
   refine hY ?_;rw[wAz (by omega)]at U
   let⟨p0,hp0n,hp0e,hp0l⟩:=G.gr.early b ac aB
   have ba:A p0:=ab.done p0 hp0n (by omega);obtain⟨d,rfl,cK,aF,bb⟩:∃d:Nat,dd=(d:Int)/\A d/\(∀p∈Un.ahead u b,A p->qD M d p)/\∀x,(∀p∈Un.ahead u b,A p->qD M x p)->qD M x d:=by
     rcases U with⟨_,q⟩|q
     ·exact absurd ba (q p0 ((ad p0).1 hp0e))
     ·exact q
   have ae:∀p,A p->G.gr.BK p b->qD M d p:=λp hs he=>aF p ((ad p).1 he) hs;have z:∀x,(∀p,A p->G.gr.BK p b->qD M x p)->qD M x d:=by simp_all
   have bc:i<1000000000:=by clear U;omega
   have an:k3-1<k3:=by clear U;omega
   have ao:i+1+(k3-1)=u.blocks.length-1:=by clear U;omega
   have ag:=(ab.Pu ac aB aA ae z).1;refine eh (n.ld 1 rfl rfl) ?_;by_cases hsame:A b/\M b=d
   ·obtain ⟨K,rfl⟩:=hsame
    let⟨aD,aE,t1,t2⟩:=n.Sh 3 rfl (r.yes b K) .i64
    refine eh t1 (eh t2 (yq (fW rfl ?_)));refine zb ?_;unfold nV;rw[Ut,Wc K]at ag;refine ka bc (by decide) ⟨k3-1,an,i+1,c,M,A,N,rfl,rfl,rfl,rfl,rfl,rfl,rfl,rfl,ao,aY,λhc b' bd bL=>?_,ag,r,D,n⟩;rcases Ub (G.gr.place b') (i+1)with q|q
    ·exact bQ hc b' bd q
    ·obtain rfl:b' = b:=G.gr.inj _ _ bd ac (by omega)
     exact⟨K,λ_=>⟨ae,z⟩⟩
   ·obtain ⟨y,hy,be⟩:∃y,N[b]? =some y/\y≠(d:Int):=by
      by_cases K:A b
      ·refine⟨(M b:Int),r.yes b K,λe=>hsame ⟨K,?_⟩⟩
       exact Int.ofNat.inj e
      ·refine⟨-1,r.no b aj K,?_⟩
       omega
    let⟨aD,aE,t1,t2⟩:=n.Sh 3 rfl hy .i64
    refine eh t1 (eh t2 (yq (fP be ?_)));obtain⟨cL,cM,cN,bV,bW,cO,bf,bX⟩:=n.IH 3 rfl (by rw[r.len];exact aj) rfl rfl rfl;refine eh (n.ld 1 rfl rfl) (eh bV ?_);rw[bW,en];simp[pJ,oU]at bf;refine zb ?_;unfold nV;refine ka bc (by decide) ⟨k3-1,an,i+1,true,Dm.set M b d,λx=>A x\/x=b,N.set b (d:Int),rfl,rfl,rfl,rfl,rfl,rfl,rfl,rfl,ao,λ_=>?_,λh=>(by cases h),ag,⟨by simp[r.len],λx hx=>?_,λx hx hn=>?_⟩,D.trans bX,bf⟩
    ·rcases Ub u.blocks.length kk with q|q
     ·exfalso
      let⟨h2,W⟩:=ab.stay (λb hb=>(f b).1 hb) q ac aB aA ae z
      exact hsame ⟨h2,W.symm⟩
     ·exact q
    ·unfold Dm.set
     by_cases e:x=b
     ·grind
     ·rw[I9 λh=>e h.symm,if_neg e]
      exact r.yes x (hx.resolve_right e)
    ·have e:x≠b:=λe=>hn (.inr e)
     rw[I9 λh=>e h.symm];exact r.no x hx λh=>hn (.inl h)
end
open Un Dm
structure zgr (u:U) (Ea:List Int) (I:Nat->Nat):Prop where
 len:Ea.length=u.blocks.length
 zero:Ea[0]? =some (-1)
 at_:∀b,b≠0->b<u.blocks.length->Ea[b]? =some (I b:Int)
 zgn:∃r:Nat->Nat,∀b,b<u.blocks.length->b≠0->I b<u.blocks.length/\r (I b)<r b
 iff:∀x b,b<u.blocks.length->(qD I x b↔mz (next u) x b)
section
variable{F F':Nat->Prop}{h h':Hp}{cs:List Pc}{Q:fq}{u:U}{vv vb vs:V}{lc:Nat}{bl pl Hf:V}{xs ys Ea:List Int}{I:Nat->Nat}
structure Cx (F:Nat->Prop) (h:Hp) (cs:List Pc) (lc:Nat) (u:U) (vv vb vs bl pl Hf:V) (xs ys Ea:List Int) (I:Nat->Nat):Prop where
 ck:Ck F h cs lc u vv vb vs bl pl Hf
 rbl:il eZ F h xs bl
 rpl:il eZ F h ys pl
 rim:il eZ F h Ea Hf
 std:Std u u.blocks.length 0 xs ys
 Uz:zgr u Ea I
theorem Cx.since(C:Cx F h cs lc u vv vb vs bl pl Hf xs ys Ea I)(s:Sn F h F' h')(a:ev F' h' cs):Cx F' h' cs lc u vv vb vs bl pl Hf xs ys Ea I:=⟨C.ck.since s a,C.rbl.since s,C.rpl.since s,C.rim.since s,C.std,C.Uz⟩
theorem Cx.cons(C:Cx F h cs lc u vv vb vs bl pl Hf xs ys Ea I)(s:Sn F h F' h'){p:Pc}(a:ev F' h' (p::cs)):Cx F' h' (p::cs) lc u vv vb vs bl pl Hf xs ys Ea I:=⟨C.ck.cons s a,C.rbl.since s,C.rpl.since s,C.rim.since s,C.std,C.Uz⟩
theorem QJ(C:Cx F h cs lc u vv vb vs bl pl Hf xs ys Ea I){a b:Nat}(hb:b<u.blocks.length)(n:qD I a b)(H:Q (.bool true) h):cP CS pB [.ptr lc 0,.I a,.I b] h Q:=by
 refine DX ?_
 let⟨r,hr⟩:=C.Uz.zgn
 refine AG (λk f g i h'=>∃b',f = .ptr lc 0/\g = .I a/\i = .I (b':Nat)/\k=r b'/\b' < u.blocks.length/\qD I a b'/\h' = h) ?_ (k:=r b) (by grind);rintro k f g i h' ⟨b',rfl,rfl,rfl,hk,c,d,rfl⟩;unfold mV;refine PO (fW (by omega) ?_);by_cases e:a=b'
 ·exact fX (fW (by omega) H)
 refine fX (fP (by omega) ?_)
 cases d with
 |refl=>omega
 | up h0 p=>
   let⟨l,o,_,j,m⟩:=C.rim.int (C.Uz.at_ b' h0 c) .i64
   let⟨q,s⟩:=hr b' c h0
   exact eh (fS _ _) (eh (by rfl) (eh (C.ck.ld 7 rfl) (eh j (eh m (by grind)))))
theorem KU(C:Cx F h cs lc u vv vb vs bl pl Hf xs ys Ea I){l:List Nat}{v:V}{b p:Nat}(y:il eN F h l v)(S:l.length<1000000)(hb:b<u.blocks.length)(hs:∀w∈l,∃c j,At u w c j/\(c=b->j<p)/\mz (next u) c b)(H:Q (.bool true) h) :
  cP CS jP [.ptr lc 0,v,.I b,.I p] h Q:=by
 refine Js ?_;refine eh y.len ?_;refine Gj (λk z A D a d f h'=>∃i,z = .ptr lc 0/\A = .I b/\D = .I p/\a=v/\d = .I l.length/\f = .I (i:Nat)/\i+k=l.length/\h' = h) ?_ (k:=l.length) (by simp_all);rintro k z A D a d f h' ⟨i,rfl,rfl,rfl,rfl,rfl,rfl,hk,rfl⟩;unfold qA;by_cases hi:i<l.length;rotate_left
 ·exact hY H
 refine gy ?_
 let⟨c,j,AE,hcj,hdom⟩:=hs _ (zI hi)
 have g:c<u.blocks.length:=by
  let⟨B,T,_⟩:=AE
  exact by grind
 let⟨J,K⟩:=C.std.yes _ c j AE (.inl g)
 let⟨l1,U,_,L,M⟩:=y.nat (gN hi) .i64
 let⟨l2,W,_,E,G⟩:=C.rbl.int J .i64
 let⟨l3,X,_,N,O⟩:=C.rpl.int K .i64
 refine eh L (eh M (eh (fS _ _) (eh (by rfl) (eh (C.ck.ld 5 rfl) (eh E (eh G (eh (by rfl) ?_)))))));have e:jI (.bool (((c:Int)) == (b:Int))) (oB (some (V.ptr lc 0)) λm=>oB (gP m) λn=>oB (fI 6 n) λo=>oB (fe o h') λq=>oB (some (V.I (l[i]:Nat))) λr=>oB (gB 1 q r) λs=>oB (fe s h') λt=>oB (some (V.I p)) λx=>ez .geq 3 t x)=some (.bool false):=by
  have P:=C.ck.ld 6 rfl;simp only[ft,fS,gf,P,N,O,nW,mb];congr 2;rw[wBg];intro R;simp[vU,Bg,zX]at R;have:=by omega
  omega
 refine eh e ?_;refine fG (eh rfl (fG (eh rfl (fG (eh (fS _ _) (fG (eh (by rfl) (fG (eh (C.ck.ld 5 rfl) (fG (eh rfl (fG (eh E (fG (eh G (fG (eh rfl (xx ?_))))))))))))))))));refine QJ C hb ((C.Uz.iff c b hb).2 hdom) (eh rfl (iB (fP (by simp) ?_)));exact fF ⟨k-1,by omega,i+1,rfl,rfl,rfl,rfl,rfl,rfl,by omega,rfl⟩
theorem KK(C:Cx F h cs lc u vv vb vs bl pl Hf xs ys Ea I){s b p:Nat}{fs:List Fm}(n:u.eo[s]? =some fs)(x:fs.length<=30/\∀f∈fs,f.locals.length<=40/\f.stack.length<=60)(hb:b<u.blocks.length)
  (hs:∀w∈gL fs,∃c j,At u w c j/\(c=b->j<p)/\mz (next u) c b) (H:∀h',Sn F h F h'->ev F h' cs->Q (.bool true) h') :
  cP CS jW [.ptr lc 0,.I s,.I b,.I p] h Q:=by
 refine Dr ?_
 let⟨l1,G,f,_,y,_,z,o⟩:=C.ck.u.st n
 refine eh (fS _ _) (eh (by rfl) (eh (by rfl) (eh (C.ck.ld 4 rfl) (eh y (eh (by rfl) (eh z (eh o.len ?_)))))))
 refine AR (λk q r t d e g h'=>∃j,q = .ptr lc 0/\r = .I b/\t = .I p/\d=f/\e = .I fs.length/\g = .I (j:Nat)/\j+k=fs.length/\Sn F h F h'/\ev F h' cs) ?_ (k:=fs.length)
  ⟨0,rfl,rfl,rfl,rfl,rfl,rfl,by omega,Sn.refl _ _,C.ck.H⟩
 rintro k q r t d e g A ⟨j,rfl,rfl,rfl,rfl,rfl,rfl,hk,i,v⟩;unfold mM;by_cases hj:j<fs.length;rotate_left
 ·exact hY (H A i v)
 refine gy ?_
 let⟨l3,J,a,c,_,B,D,ja,jb⟩:=(o.since i).lV (gN hj)
 let⟨f1,f2⟩:=x.2 _ (zI hj)
 have E:∀w,w∈fs[j].locals\/w∈fs[j].stack->w∈gL fs:=by grind[gL,zI]
 refine eh B (eh D ?_);refine gQ v rfl rfl (by simp only[Pj,eQ,ja.one,jb.one];rfl) λK l m=>?_;have C2:=C.since (i.trans m) l.tail;refine eh (by rfl) (eh (l.ld 0 rfl rfl) ?_);refine KU C2 (ja.since m) (by omega) hb (by simp_all) (eh rfl ?_);refine fG (eh rfl (fG (eh (by rfl) (fG (eh (l.ld 0 rfl rfl) (fG (eh rfl (fG (eh rfl (xx ?_))))))))));refine KU C2 (jb.since m) (by omega) hb (by simp_all) (eh rfl (iB (fP (by simp) ?_)));exact fF ⟨k-1,by omega,j+1,rfl,rfl,rfl,rfl,rfl,rfl,by omega,i.trans m,l.tail⟩
theorem Ww{w b k:Nat}(h:qw u w b k):∃c j,At u w c j/\(c=b->j<k)/\mz (next u) c b:=by
 let⟨c,j,d,a⟩:=h
 rcases a with⟨rfl,a⟩|⟨a,e⟩
 ·grind[mz.self]
 grind
theorem JZ{w b:Nat}{B:Bk}(f:u.blocks[b]? =some B)(h:sP u w b):∃c j,At u w c j/\(c=b->j<B.ej.length)/\mz (next u) c b:=by
 let⟨c,j,a,d⟩:=h
 refine⟨c,j,a,λe=>?_,d⟩;subst e
 let⟨B',g,i⟩:=a
 grind
theorem Y8{lv:Nat}{x:Vl}{w:V}{a0:V}{i k:Nat}(a:a0 = .ptr lc 0)(C:Cx F h (eJ lv gK (mh x w)::cs) lc u vv vb vs bl pl Hf xs ys Ea I)(hc:lv≠lc)(B:fe (.ptr lv 5) h=some (.I x.state))(hb:i<u.blocks.length)
  (D:leaves x.op=true->∃fs,u.eo[x.state]? =some fs/\(fs.length<=30/\∀f∈fs,f.locals.length<=40/\f.stack.length<=60)/\∀w∈gL fs,∃c j,At u w c j/\(c=i->j<k)/\mz (next u) c i) {K:fq}
  (A:∀h',Sn F h F h'->ev F h' (eJ lv gK (mh x w)::cs)->K (.bool false) h') :
  oP (fH true (.bool (leaves x.op))) λb=>
  oP (gV b (some a0)) λd=>
  oP (fH true (.bool (leaves x.op))) λe=>
  oP (gV e (fI 5 (.ptr lv 0))) λg=>
  oP (fH true (.bool (leaves x.op))) λl=>
  oP (gV l (fe g h)) λm=>
  oP (fH true (.bool (leaves x.op))) λn=>
  oP (gV n (some (.I i))) λo=>
  oP (fH true (.bool (leaves x.op))) λp=>
  oP (gV p (some (.I k))) λq=>
  oP (fH true (.bool (leaves x.op))) λr=>
  oP (gC r (some (jW,[d,m,o,q]))) λs=>vB CS s h λt E=>
  oP (fH true (.bool (leaves x.op))) λv=>
  oP (gV v (pK .not t)) λy=>
  oP (nY (.bool false) (jA (.bool (leaves x.op)) y (V.bool false))) λz=>K z E:=by
 subst a
 cases hq:leaves x.op with
 | true=>
   let⟨fs,G,J,L⟩:=D hq
   refine gw (eh rfl (gw (eh (by rfl) (gw (eh B (gw (eh rfl (gw (eh rfl (yF ?_))))))))))
   refine KK C G J hb L λh' s' M=>gw (eh rfl (eh rfl (A h' s' M)))
 |false=>exact hV (hV (hV (hV (hV (Hg (hV (eh rfl (A h (Sn.refl _ _) C.ck.H))))))))
theorem YZ(g:Good u)(C:Cx F h cs lc u vv vb vs bl pl Hf xs ys Ea I)(ae:lc<h.next){i:Nat}{B:Bk}(d:u.blocks[i]? =some B)(H:∀F' h',Sn F h F' h'->ev F' h' cs->Q (.bool true) h'):cP CS pg [.ptr lc 0,.I i] h Q:=by
 refine Iy ?_;have nv:=g.nv;have nb:=g.nb;have q:i<u.blocks.length:=by grind
 have ag:∀s (fs:List Fm),u.eo[s]? =some fs->fs.length<=30/\∀f∈fs,f.locals.length<=40/\f.stack.length<=60:=λs fs a=>by
  let⟨_,h2,h3⟩:=g.st s fs a
  simp_all
 have ah:B.ej.length<=3000:=by
  have:=iP u.ej.length B.ej (J9 g d) λv hv=>by
   let⟨k,hk⟩:=mn.1 hv
   exact g.iM v i k ⟨B,d,hk⟩
  omega
 let⟨l7,o7,bv,bn,bp,_,i1,i2,K,iN,ip,_⟩:=C.ck.u.nJ d
 refine eh (fS _ _) (eh (by rfl) (eh (by rfl) (eh (C.ck.ld 3 rfl) (eh i1 (eh i2 ?_)))));refine gQ C.ck.H rfl rfl (by simp only[ku,eQ,K.one,iN.one,ip.one];rfl) λh2 Y L=>?_;have C2:=C.cons L Y;have K:=K.since L;have ip:=ip.since L;refine eh (by rfl) (eh (Y.ld 0 rfl rfl) (eh K.len (eh (by rfl) (eh (Y.ld 0 rfl rfl) (eh K.len ?_)))))
 refine Ey (λk N O R S c l n h'=>∃(F':Nat->Prop) (j:Nat),N = .ptr lc 0/\O = .I i/\R = .ptr h.next 0/\S = .I B.ej.length/\c=bv/\l = .I B.ej.length/\n = .I j/\j+k=B.ej.length/\
  Sn F h2 F' h'/\ev F' h' (eJ h.next 43 (ku B bv bn bp)::cs)) ?_ (k:=B.ej.length) ⟨F,0,rfl,rfl,rfl,rfl,rfl,rfl,rfl,by omega,Sn.refl _ _,Y⟩
 rintro k N O R S c l n h3 ⟨F3,j,rfl,rfl,rfl,rfl,aa,rfl,rfl,hk,r,t⟩;subst c;unfold qd;have C3:=C2.since r t;by_cases hj:j<B.ej.length;rotate_left
 ·refine hY ?_;refine eh (by rfl) (eh (t.ld 0 rfl rfl) ?_);by_cases c2:B.fin=2
  ·refine fX (fW (by omega) ?_);refine eh (by rfl) (eh (t.ld 0 rfl rfl) ?_);refine Q5 [B.cond] (mH _) t λF4 h4 v o s4 r4=>?_;refine KU (C3.since s4 o) r4 (by simp) q (λw hw=>?_) (H _ _ ((L.trans r).trans s4) o.tail);obtain rfl:=Pl.1 hw;exact JZ d (g.Ay i B d c2)
  refine fX (fP (by omega) ?_);by_cases c3:B.fin=3
  ·refine fX (fW (by omega) ?_);refine eh (by rfl) (eh (t.ld 0 rfl rfl) ?_);have oS:B.state<u.eo.length:=by
    rcases g.fin i B d with⟨A,_⟩|⟨A,_⟩|⟨_,_,A⟩
    ·omega
    ·omega
    ·exact A
   obtain⟨fs,a⟩:∃fs,u.eo[B.state]? =some fs:=by simp_all
   refine KK C3 a (by grind) q (λw hw=>JZ d (g.Dp i B fs d c3 a w hw)) λh4 s4 o=>H _ _ ((L.trans r).trans s4) o.tail
  ·exact fX (fP (by omega) (H _ _ (L.trans r) t.tail))
 refine gy ?_;have e:At u (B.ej[j]) i j:=⟨B,d,gN hj⟩
 have ai:=g.iM _ _ _ e;obtain⟨x,hx⟩:∃x,u.ej[B.ej[j]]? =some x:=by simp_all
 have ab:B.fh.length<=700:=by
  rw[g.fh i B d,<-pM];have:=pP g (j:=0) (b:=i) (iZ _) (by omega);omega
 have ac:x.op=21\/x.op=20->x.args.length<=700:=by
  rintro(A|A)
  ·rw[(g.Cd _ _ _ _ _ e hx A d).2];exact ab
  ·rw[g.putAt _ x hx A];omega
 let⟨l9,o9,_,j1,j2⟩:=(K.since r).nat (gN hj) .i64
 let⟨aj,ak,w,_,q1,q2,iw,_⟩:=C3.ck.u.val hx
 refine eh j1 (eh j2 (eh (fS _ _) (eh (by rfl) (eh (by rfl) (eh (C3.ck.ld 2 rfl) (eh q1 (eh q2 ?_)))))));refine gQ t rfl rfl (by simp only[mh,eQ,iw.one];rfl) λh4 o s4=>?_;have C4:=C3.cons s4 o;have D:=iw.since s4;have al:=(t.ok 0 _ rfl).2.1;refine eh (by rfl) (eh (o.ld 0 rfl rfl) ?_);by_cases E:x.op=21
 ·refine fX (fW (by omega) ?_);refine eh (by rfl) (eh (o.ld 0 rfl rfl) (eh D.len ?_));have am:=(g.Cd _ _ _ _ _ e hx E d).2
  refine Fg (λk N O R S c l n G T U h'=>∃F' m,N = .ptr lc 0/\O = .I i/\R = .ptr h.next 0/\S = .I B.ej.length/\c=bv/\l = .I B.ej.length/\n = .I j/\G=w/\T = .I x.args.length/\U = .I (m:Nat)/\m+k=x.args.length/\
   Sn F3 h4 F' h'/\ev F' h' (eJ h3.next 45 (mh x w)::eJ h.next 43 (ku B bv bn bp)::cs)) ?_ (k:=x.args.length) ⟨F3,0,rfl,rfl,rfl,rfl,rfl,rfl,rfl,rfl,rfl,rfl,by omega,Sn.refl _ _,o⟩
  rintro k2 N O R S c l n G T U Z ⟨F5,m,rfl,rfl,rfl,rfl,aa,rfl,rfl,an,rfl,rfl,ao,y,J⟩;subst c G;unfold pR;have C5:=C4.since y J;by_cases hm:m<x.args.length;rotate_left
  ·refine hY ?_;refine xh ?_;unfold lY;exact fF ⟨k-1,by omega,F5,j+1,rfl,rfl,rfl,rfl,rfl,rfl,rfl,by omega,(r.trans s4).trans y,J.tail⟩
  refine gy ?_
  let⟨ap,aq,hl11,m1,m2⟩:=(D.since y).nat (gN hm) .i64
  refine eh m1 (eh m2 ?_);have ar:m<B.fh.length:=by omega
  obtain⟨p,hp⟩:∃p,B.fh[m]? =some p:=by simp_all
  have ad:p<u.blocks.length:=by
   have:=zD hp;rw[g.fh i B d]at this;exact(g.zar (wG.1 this)).1
  obtain⟨P,hP⟩:∃P,u.blocks[p]? =some P:=by simp_all
  rw[mH,gO]
  let⟨M,V,r6⟩:=J.zaa eR rfl (xC F5 Z [x.args[m]]) false
  have g6:(Z.new (.cells 3 1 true false (ig [x.args[m]]))).get Z.next=some (.cells 3 1 true false (ig [x.args[m]])):=fm _ _;have C6:=C5.since V M
  let⟨au,aw,_,n1,n2⟩:=(((ip.since r).since s4).since (y.trans V)).nat hp .i64
  let⟨ax,ay,pv,pn,pp,_,p1,_,pvr,_,_,pa⟩:=C6.ck.u.nJ hP
  refine eh (by rfl) (eh (M.ld 1 rfl rfl) (eh n1 (eh n2 (eh (fS _ _) (eh (by rfl) (eh (by rfl) (eh (C6.ck.ld 3 rfl) ?_)))))));refine eh (by rfl) (eh (M.ld 1 rfl rfl) (eh n1 (eh n2 (eh p1 (eh (by rfl) (eh pa.ej (eh pvr.len ⟨by simp_all,?_⟩)))))));refine KU C6 r6 (by simp) ad (λz W=>?_) ⟨iZ _,pY (fW rfl ?_)⟩
  ·obtain rfl:=Pl.1 W;exact JZ hP (g.AU _ i j x B e hx E d m _ p (by simp_all) hp)
  ·exact fF ⟨k2-1,by omega,_,m+1,rfl,rfl,rfl,rfl,rfl,rfl,rfl,rfl,rfl,rfl,by omega,y.trans V,M⟩
 refine fX (fP (by omega) ?_);refine eh (o.mY 0 rfl rfl) ?_;refine KV o D (by omega) λF5 Z v y J r5=>?_;have C5:=C4.since y J;refine KU C5 r5 (by grind[Lb]) q (λz W=>Ww (g.yo _ i j x e hx E z W)) (eh rfl ?_);refine fG (eh (by rfl) (fG (eh (J.ld 0 rfl rfl) (xx ?_))));refine L9 (fG (eh rfl ?_));refine Y8 rfl C5 (by omega) (J.ld 0 rfl rfl) q (λX=>?_) λh6 V M=>?_
 ·have oS:=g.leave _ x hx X;obtain⟨fs,a⟩:∃fs,u.eo[x.state]? =some fs:=by simp_all
  exact⟨fs,a,by grind,λz W=>Ww (g.Dv _ i j x fs e hx X a z W)⟩
 ·refine iB (fP (by simp) ?_);refine xh ?_;unfold lY;exact fF ⟨k-1,by omega,F5,j+1,rfl,rfl,rfl,rfl,rfl,rfl,rfl,by omega,((r.trans s4).trans y).trans V,M.tail⟩
end
open Un Dm
section
variable{F F':Nat->Prop}{h h':Hp}{cs:List Pc}{Q:fq}{u:U}{vv vb vs:V}
theorem OH(g:Good u)(H0:ev F h cs)(Z:tL F h u vv vb vs)(H:∀F' h',Sn F h F' h'->ev F' h' cs->Q (.bool true) h'):cP CS zo [.agg (uC u vv vb vs)] h Q:=by
 refine T8 ?_;have nv:=g.nv;have nb:=g.nb;have I5:=g.I5;have ns:=g.ns;refine j4 H0 Z.one λt x s1=>?_;have u1:=Z.since s1;have l2:fe (.ptr h.next (0+2)) t=some vv:=x.ld 0 rfl rfl;have l3:fe (.ptr h.next (0+3)) t=some vb:=x.ld 0 rfl rfl;have l4:fe (.ptr h.next (0+4)) t=some vs:=x.ld 0 rfl rfl;refine oF l2 (eh u1.v.len (eh (nN _ _ _ _) ?_));rw[Li (by omega)];have e1:nY (.bool false) (oB (fI 3 (.ptr h.next 0)) λf=>oB (fe f t) λj=>oB (fE j) λk=>ez .gtr 3 k (V.I 300))=some (.bool false):=by
  simp only[mK,gf,ft,l3,u1.b.len,nN];rw[Li (by omega)]
 have e2:nY (.bool false) (oB (fI 4 (.ptr h.next 0)) λf=>oB (fe f t) λj=>oB (fE j) λk=>ez .gtr 3 k (V.I 1000))=some (.bool false):=by
  simp only[mK,gf,ft,l4,u1.s.len,nN];rw[Li (by omega)]
 have e3:nY (.bool false) (oB (fI 3 (.ptr h.next 0)) λf=>oB (fe f t) λj=>oB (fE j) λk=>ez .eql 3 k (V.I 0))=some (.bool false):=by
  simp only[mK,gf,ft,l3,u1.b.len,gR];congr 2;rw[PG];omega
 refine eh e1 (eh e2 (eh e3 (iB (fP (by simp) ?_))));refine eh (x.mY 0 rfl rfl) (eh (rfl) ?_);refine j4 x (by simp only[eQ,u1.v.one,u1.b.one,u1.s.one];rfl) λC D s2=>?_;have u2:=u1.since s2;generalize t.next=lc at*;have l4:fe (.ptr h.next (0+4)) C=some vs:=D.ld 1 rfl rfl;refine oF l4 (eh u2.s.len ?_);have C2:Ck F C (eJ lc 116 [.I u.func,.I u.pc,vv,vb,vs,.ei,.ei,.ei]::eJ h.next 30 (uC u vv vb vs)::cs) lc u vv vb vs .ei .ei .ei:=⟨D,⟨0,_,rfl⟩,u2⟩
 refine N4 (by omega) (λF' h'=>F' = F/\Sn F C F h'/\ev F h' (eJ lc 116 [.I u.func,.I u.pc,vv,vb,vs,.ei,.ei,.ei]::eJ h.next 30 (uC u vv vb vs)::cs)) ⟨rfl,Sn.refl _ _,D⟩ (λi hi F' h' hP n p=>?_) λF3 h3 hP=>?_
 ·obtain⟨rfl,s',l⟩:=hP;show cP CS pe [.ptr lc 0,.I i] h' n;have hs:=gN hi
  let⟨g1,g2,g3⟩:=g.st i _ hs
  exact YU (C2.since s' l) hs ⟨g1,g2⟩ g3 λa c d=>p F' a ⟨rfl,s'.trans c,d⟩
 obtain⟨rfl,E,H3⟩:=hP;refine eh rfl (fG (eh rfl (xx ?_)));refine Zi g H3 (u2.since E) λF4 J b' r xs ys s4 K rb rp std=>?_;refine eh rfl (fG (eh rfl ?_));have L:=(u2.since E).since s4;have M:Ck F4 J (eJ lc 116 [.I u.func,.I u.pc,vv,vb,vs,b',r,.ei]::eJ h.next 30 (uC u vv vb vs)::cs) lc u vv vb vs b' r .ei:=⟨K,⟨0,_,rfl⟩,L⟩
 have l2:fe (.ptr h.next (0+2)) J=some vv:=K.ld 1 rfl rfl;refine fG (eh (gf _ _ _) (fG (eh l2 (fG (eh L.v.len (fG (eh rfl (fG (eh rfl (xx ?_))))))))));refine N4 (by omega) (λF' h'=>Sn F4 J F' h'/\ev F' h' (eJ lc 116 [.I u.func,.I u.pc,vv,vb,vs,b',r,.ei]::eJ h.next 30 (uC u vv vb vs)::cs)) ⟨Sn.refl _ _,K⟩ (λi hi F' h' hP n p=>?_) λF5 h5 hP=>?_
 ·let⟨s',l⟩:=hP
  show cP CS kh [.ptr lc 0,.I i] h' n;exact zdo g (M.since s' l) (rb.since s') std hi (l.ok 0 _ rfl).2.1 λe a c d=>p e a ⟨s'.trans c,d⟩
 let⟨A,B⟩:=hP
 have u5:=L.since A;have l3:fe (.ptr h.next (0+3)) h5=some vb:=B.ld 1 rfl rfl;refine eh rfl (fG (eh rfl (fG (eh (gf _ _ _) (fG (eh l3 (fG (eh u5.b.len (fG (eh rfl (fG (eh rfl (xx ?_)))))))))))));refine N4 (by omega) (λF' h'=>Sn F5 h5 F' h'/\ev F' h' (eJ lc 116 [.I u.func,.I u.pc,vv,vb,vs,b',r,.ei]::eJ h.next 30 (uC u vv vb vs)::cs)) ⟨Sn.refl _ _,B⟩ (λi hi F' h' hP n p=>?_) λF6 h6 hP=>?_
 ·let⟨s',l⟩:=hP
  show cP CS p7 [.ptr lc 0,.I i] h' n;exact zch g ((M.since A B).since s' l) (gN hi) λe a c d=>p e a ⟨s'.trans c,d⟩
 let⟨N,O⟩:=hP
 have u6:=u5.since N;have l3:fe (.ptr h.next (0+3)) h6=some vb:=O.ld 1 rfl rfl;refine eh rfl (fG (eh rfl (fG (eh (gf _ _ _) (fG (eh l3 (fG (eh u6.b.len (fG (eh rfl (fG (eh rfl (xx ?_)))))))))))));refine N4 (by omega) (λF' h'=>Sn F6 h6 F' h'/\ev F' h' (eJ lc 116 [.I u.func,.I u.pc,vv,vb,vs,b',r,.ei]::eJ h.next 30 (uC u vv vb vs)::cs)) ⟨Sn.refl _ _,O⟩ (λi hi F' h' hP n p=>?_) λF7 h7 hP=>?_
 ·let⟨s',l⟩:=hP
  show cP CS qT [.ptr lc 0,.I i] h' n;exact zdG g (((M.since A B).since N O).since s' l) (gN hi) λe a c d=>p e a ⟨s'.trans c,d⟩
 let⟨s7,H7⟩:=hP
 have u7:=u6.since s7;refine eh rfl (iB (fP (by simp) ?_));refine ID ?_;have lA:fO 5 (.ptr lc 0) h7=some (.agg (uC u vv vb vs)):=by
  rw[Bf (H7.get 0 rfl),EN (by simp)];rfl
 refine eh (fS _ _) (eh (gf _ _ _) (eh lA ?_));refine SM g H7 u7 λF8 h8 vo seen post s8 P G ro=>?_;have R:=u7.since s8;have lo:=ro.len;rw[List.length_reverse,SR g G]at lo;refine eh lo (oF (P.ld 1 rfl rfl) (eh R.b.len (yq (fW rfl ?_))));refine eh (P.mY 1 rfl rfl) ?_;refine Jf g P R λF9 h9 vd Ea I S T G' s9 H9 rd d1 d2 d3 d4 d5=>?_
 let⟨y,U,aa,q,w⟩:=H9.st 0 (o:=7) rfl (by simp) rd.one
 refine eh (fS _ _) (eh (gf _ _ _) ?_);rw[show V.ptr lc (0+7)=V.ptr lc 7 from rfl,U,en];simp[pJ,oU]at q;have z:=(R.since s9).since w;refine oF (q.ld 1 rfl rfl) (eh z.b.len ?_);have m:=((((A.trans N).trans s7).trans s8).trans s9).trans w
 have W:Cx F9 y (eJ lc 116 [.I u.func,.I u.pc,vv,vb,vs,b',r,vd]::eJ h.next 30 (uC u vv vb vs)::cs) lc u vv vb vs b' r vd xs ys Ea I:=
  ⟨⟨q,⟨0,_,rfl⟩,z⟩,rb.since m,rp.since m,rd.since w,std,⟨d1,d2,d3,⟨G'.gr.place,λb hb h0=>d4.up b hb h0⟩,d5⟩⟩
 refine N4 (by omega) (λF' h'=>Sn F9 y F' h'/\ev F' h' (eJ lc 116 [.I u.func,.I u.pc,vv,vb,vs,b',r,vd]::eJ h.next 30 (uC u vv vb vs)::cs)) ⟨Sn.refl _ _,q⟩ (λi hi F' h' hP n p=>?_) λab ac hP=>?_
 ·let⟨s',l⟩:=hP
  show cP CS pg [.ptr lc 0,.I i] h' n;exact YZ g (W.since s' l) (l.ok 0 _ rfl).2.1 (gN hi) λe a c d=>p e a ⟨s'.trans c,d⟩
 let⟨X,Y⟩:=hP
 exact H _ _ (((((s1.trans s2).trans E).trans s4).trans m).trans X) Y.tail.tail
end
