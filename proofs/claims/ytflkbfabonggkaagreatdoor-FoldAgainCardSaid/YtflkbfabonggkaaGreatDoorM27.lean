/- Parts. -/
import Derived.Test.YtflkbfabonggkaaGreatDoorM26
set_option maxHeartbeats 4000000
namespace Go.Proofs.YtflkbfabonggkaaGreatDoor.Hx
open Un Dm
structure zaK (G:Dm.Gr) (I:Nat->Nat) (S:Nat->Prop) (b:Nat):Prop where
 low:∀p,S p->G.BF p b->qe I (I b) p
 zdB:∀x,(∀p,S p->G.BF p b->qe I x p)->qe I x (I b)
theorem Sj(I:Nat->Nat)(b:Nat):Dm.set I b (I b)=I:=by
 grind[Dm.set]
theorem VE{S:Nat->Prop}{b:Nat}(h:S b):(λx=>S x\/x=b)=S:=by
 grind
theorem Zb{G:Dm.Gr}{I:Nat->Nat}{S:Nat->Prop}{k n:Nat}(q:Dm.Inv G I S k 1)(j:∀b,G.node b->S b)(g:∀b,G.node b->b≠0->zaK G I S b)(a:∀b,G.node b->G.place b<n)(d:∀p,p<n->∃b,G.node b/\G.place b=p):Dm.Inv G I S (k+1) 1:=by
 have f:∀m,1+m<=n->Dm.Inv G I S k (1+m):=by
  intro m
  induction m with
  |zero=>simp_all
  | succ m l=>
    intro r;have o:=l (by omega);obtain⟨b,c,hp⟩:=d (1+m) (by omega);have h0:b≠0:=λe=>by subst e;rw[G.Ei]at hp;omega
    have h:=(o.Oo c h0 hp (g b c h0).low (g b c h0).zdB).1;rw[Sj,VE (j b c)]at h;exact h
 have s:1<=n:=by have:=a 0 G.first;omega
 have i:=f (n-1) (by omega);rw[show 1+(n-1)=n by omega]at i;exact i.pass a
theorem Sw{G:Dm.Gr}{I:Nat->Nat}{S:Nat->Prop}{k n:Nat}(d:Dm.Inv G I S k 1)(e:∀b,G.node b->S b)(f:∀b,G.node b->b≠0->zaK G I S b)(a:∀b,G.node b->G.place b<n)(c:∀p,p<n->∃b,G.node b/\G.place b=p):∀m,Dm.Inv G I S (k+m) 1
 |0=>d
 |m+1=>Zb (Sw d e f a c m) e f a c
section
variable{u:U}{seen:List Bool}{post:List Nat}
theorem Rj(g:Good u)(G:HS u.blocks.length (next u) seen post []):∀b,b<u.blocks.length->b∈post:=by
 have a:∀b l,Pt (next u) b l->b∈post:=by
  intro b l hp
  induction hp with
  |nil=>obtain⟨p,hp⟩:=G.last rfl;simp_all
  | step _ c d=>
    have:=(G.iff _).1 (G.closed _ d _ c)
    simp_all
 intro b e;obtain⟨l,f⟩:=g.reach b e
 grind
theorem Ru(g:Good u)(G:HS u.blocks.length (next u) seen post []):post.length=u.blocks.length:=G.all (Rj g G)
theorem zaY(G:HS u.blocks.length (next u) seen post []):post.reverse.Nodup:=by
 have:=G.nodup
 grind
theorem Nw(G:HS u.blocks.length (next u) seen post []){i b:Nat}(h:post.reverse[i]? =some b):G.gr.place b=i:=by
 show post.reverse.idxOf b=i;obtain⟨hi,rfl⟩:=jP.1 h;have a:=zaY G
 grind
end
section
variable{F F':Nat->Prop}{h h':Hp}{cs:List Pc}{Q:ft}{u:U}{vv vb vs:V}
structure U2 (S:Nat->Prop) (I:Nat->Nat) (n:Nat) (EA:List Int):Prop where
 len:EA.length=n
 yes:∀b,S b->EA[b]? =some (I b:Int)
 no:∀b,b<n->¬S b->EA[b]? =some (-1)
theorem zbq{G:Dm.Gr}{I:Nat->Nat}{S:Nat->Prop}{n l5 l6 t5 t6:Nat}{r vp:V}{EA:List Int}{pl:List Nat}(c:ej F h cs){i5 i6 ii ip:Nat}(s:cs[i5]? =some (ev l5 t5 [r]))(t:cs[i6]? =some (ev l6 t6 [vp]))(hi:cs[ii]? =some (eJ eZ eo EA r))(hp:cs[ip]? =some (eJ eN eo pl vp))
  (f:Tree G I S) (u:U2 S I n EA) (i:∀b,G.node b->pl[b]? =some (G.place b)) {a b:Nat} (A:S a) (B:S b)
  (H:∀d,S d->qe I d a->qe I d b->(∀x,qe I x a->qe I x b->qe I x d)->Q (.I (d:Nat)) h):cP CS ji [.I a,.I b,.ptr l6 0,.ptr l5 0] h Q:=by
 refine IH rfl rfl ?_;unfold Ai
 refine Fq (λk v w y z h'=>∃a' b':Nat,v = .I (a':Nat)/\w = .I (b':Nat)/\y = .ptr l6 0/\z = .ptr l5 0/\h' = h/\k=G.place a' + G.place b'/\S a'/\S b'/\qe I a' a/\qe I b' b/\(∀x,qe I x a->qe I x b->qe I x a'/\qe I x b')) ?_ (k:=G.place a+G.place b)
  ⟨a,b,rfl,rfl,rfl,rfl,rfl,rfl,A,B,.refl _,.refl _,by simp_all⟩
 rintro k v w y z h' ⟨a',b',rfl,rfl,rfl,rfl,rfl,hk,sa,sb,j,l,C⟩;unfold yc;by_cases e:a' = b'
 ·subst e;refine yg (gi rfl ?_);exact H a' sa j l λx m o=>(C x m o).1
 refine yg (fU (by omega) ?_);obtain⟨L,op,p1,p2⟩:=c.LW ip hp (i a' (f.node _ sa)) .i64;obtain⟨M,oq,D,E⟩:=c.LW ip hp (i b' (f.node _ sb)) .i64;refine ed (c.ld i6 t rfl) (ed p1 (ed p2 (ed (c.ld i6 t rfl) (ed D (ed E ?_)))));by_cases Ob:G.place b' < G.place a'
 ·refine Ik (gi (by omega) ?_);obtain⟨J,K,p,q⟩:=c.Uh ii hi (u.yes a' sa) .i64;refine ed (c.ld i5 s rfl) (ed p (ed q ?_));have h0:a'≠0:=λe=>by subst e;rw[G.Ei]at Ob;omega
  obtain⟨u1,u2⟩:=f.up a' sa h0;exact⟨_,by omega,I a',b',rfl,rfl,rfl,rfl,rfl,rfl,u1,sb,(qe.up h0 (.refl _)).trans j,l,λx m o=>⟨f.zb0 sa sb Ob (by simp_all) (by simp_all),by simp_all⟩⟩
 ·refine Ik (fU (by omega) ?_);obtain⟨J,K,p,q⟩:=c.Uh ii hi (u.yes b' sb) .i64;refine ed (c.ld i5 s rfl) (ed p (ed q ?_));have g:G.place a' < G.place b':=by
   have:G.place a'≠G.place b':=λe'=>e (G.inj _ _ (f.node _ sa) (f.node _ sb) e');omega
  have h0:b'≠0:=λe=>by subst e;rw[G.Ei]at g;omega
  obtain⟨u1,u2⟩:=f.up b' sb h0;exact⟨_,by omega,a',I b',rfl,rfl,rfl,rfl,rfl,rfl,sa,u1,j,(qe.up h0 (.refl _)).trans l,λx m o=>⟨by simp_all,f.zb0 sb sa g (by simp_all) (by simp_all)⟩⟩
theorem OA(g:Good u)(H0:ej F h cs)(hu:DA F h u vv vb vs)
  (H:∀F' h' v EA I seen post (G:HS u.blocks.length (next u) seen post []),Sn F h F' h'->ej F' h' cs->iy eZ F' h' EA v->EA.length=u.blocks.length->EA[0]? =some (-1)->(∀b,b≠0->b<u.blocks.length->EA[b]? =some (I b:Int))->Tree G.gr I (λb=>b<u.blocks.length)->
   (∀x b,b<u.blocks.length->(qe I x b↔qd (next u) x b))->Q v h'):cP CS qW [.agg (uC u vv vb vs)] h Q:=by
 refine K5 rfl rfl ?_;unfold C7;have nb:=g.nb;have KC:=g.KC;refine ml H0 hu.one λs H1 s1=>?_;have lA:=H1.zb (n:=5) 0 rfl rfl;refine ed lA (ed lA ?_);refine Sr g H1 (hu.since s1) λF2 h2 vo seen post s2 H2 G r2=>⟨s2.next,H2.zb 0 rfl rfl,?_⟩
 refine Rl g H2 (hu.since (s1.trans s2)) λX N va s3 H3 r3=>⟨s3.next,?_⟩
 have u3:=hu.since ((s1.trans s2).trans s3);have r2:=r2.since s3;refine oF (H3.ld 0 rfl rfl) (ed u3.b.len ?_);rw[kr (z:=V.I 0) rfl (by decide) (by omega),gR];obtain⟨H4,s4⟩:=H3.make (E:=eZ) (ty:=eo) (y:=0) (u:=V.I 0) u.blocks.length rfl rfl;have n4:(N.new (.cells eo 1 true false (List.replicate u.blocks.length (V.I 0)))).next=N.next+1:=rfl;have g4:(N.new (.cells eo 1 true false (List.replicate u.blocks.length (V.I 0)))).get N.next=some (.cells 3 1 true false (List.replicate u.blocks.length (V.I 0))):=fg _ _;show oP (fH 3 (.ptr h.next 0)) _;generalize bw:N.new (.cells eo 1 true false (List.replicate u.blocks.length (V.I 0)))=R at*;refine oF (H4.ld 1 rfl rfl) (ed (u3.since s4).b.len ?_);rw[kr (z:=V.I 0) rfl (by decide) (by omega),gR];obtain⟨H5,s5⟩:=H4.make (E:=eN) (ty:=eo) (y:=0) (u:=V.I 0) u.blocks.length rfl rfl;have n5:(R.new (.cells eo 1 true false (List.replicate u.blocks.length (V.I 0)))).next=R.next+1:=rfl;have g5:(R.new (.cells eo 1 true false (List.replicate u.blocks.length (V.I 0)))).get R.next=some (.cells 3 1 true false (List.replicate u.blocks.length (V.I 0))):=fg _ _;have aK:=(fj (h:=R) (.cells eo 1 true false (List.replicate u.blocks.length (V.I 0))) (l:=N.next) (by omega)).trans g4;generalize bx:R.new (.cells eo 1 true false (List.replicate u.blocks.length (V.I 0)))=h5 at*;rw[gR];obtain⟨H6,s6⟩:=H5.zo iQ [V.ee];have n6:(h5.new (.cells iQ 1 true false [V.ee])).next=h5.next+1:=rfl;have g6:(h5.new (.cells iQ 1 true false [V.ee])).get h5.next=some (.cells 22 1 true false [V.ee]):=fg _ _;have aL:=(fj (h:=h5) (.cells iQ 1 true false [V.ee]) (l:=R.next) (by omega)).trans g5;have aM:=(fj (h:=h5) (.cells iQ 1 true false [V.ee]) (l:=N.next) (by omega)).trans aK;show yn _ (h5.new (.cells iQ 1 true false [V.ee])) _;generalize bz:h5.new (.cells iQ 1 true false [V.ee])=Z at*;rw[gR];obtain⟨H7,s7⟩:=H6.zo iQ [V.ee];have n7:(Z.new (.cells iQ 1 true false [V.ee])).next=Z.next+1:=rfl;have g7:(Z.new (.cells iQ 1 true false [V.ee])).get Z.next=some (.cells 22 1 true false [V.ee]):=fg _ _;have aN:=(fj (h:=Z) (.cells iQ 1 true false [V.ee]) (l:=h5.next) (by omega)).trans g6;have au:=(fj (h:=Z) (.cells iQ 1 true false [V.ee]) (l:=R.next) (by omega)).trans aL;have aO:=(fj (h:=Z) (.cells iQ 1 true false [V.ee]) (l:=N.next) (by omega)).trans aM;show(((Z.new (.cells iQ 1 true false [V.ee])).get Z.next=_/\_)/\_);generalize bA:Z.new (.cells iQ 1 true false [V.ee])=h7 at*;refine⟨⟨g7,O.kF _ _ _ _ _⟩,⟨aN,O.kF _ _ _ _ _⟩,⟨au,O.kF _ _ _ _ _⟩,H7.ld 4 rfl rfl,⟨aO,O.kF _ _ _ _ _⟩,H7.ld 4 rfl rfl,?_⟩;obtain⟨h8,e8,n8,H8,s8,k8⟩:=H7.stk 1 (o:=0) (u:= .slice N.next 0 u.blocks.length) rfl (by simp) rfl;rw[e8,ei];refine⟨n8,⟨(k8 _ (by omega)).trans au,O.kF _ _ _ _ _⟩,(by simp only[mA,je]at H8;exact H8.ld 4 rfl rfl),?_⟩;simp only[mA,je]at H8;obtain⟨h9,e9,n9,H9,s9⟩:=H8.st 0 (o:=0) (u:= .slice R.next 0 u.blocks.length) rfl (by simp) rfl;rw[e9,ei];refine⟨n9,?_⟩;simp only[je]at H9;have aw:=((((s4.trans s5).trans s6).trans s7).trans s8).trans s9;have bC:=((s1.trans s2).trans s3).trans aw;have r2:=r2.since aw;have r3:=r3.since aw;clear g4 g5 g6 g7 aK aM aO aL au aN k8 e8 e9 bw bx bz bA H1 H2 H3 H4 H5 H6 H7 H8 s1 s2 s3 s4 s5 s6 s7 s8 s9 lA u3;generalize V.slice N.next 0 u.blocks.length=vi at*;generalize V.slice R.next 0 u.blocks.length=vp at*;generalize Z.next=l6 at*;generalize h5.next=l5 at*;generalize h.next=lb at*;have aP:=H9.len 3 (xs:=List.replicate u.blocks.length (0:Int)) rfl;rw[W9]at aP;refine ed (H9.ld 1 rfl rfl) (ed aP ?_);have bD:=Ru g G;have aa:post.reverse.length=u.blocks.length:=by simpa using bD
 refine HT (λk A B T x6 aQ aR h'=>∃(i:Nat) (xs:List Int),A=vo/\B=va/\T = .ptr l5 0/\x6 = .ptr l6 0/\aQ = .I u.blocks.length/\aR = .I i/\i+k=u.blocks.length/\xs.length=u.blocks.length/\(∀j,j<i->xs[j]? =some (-1))/\
  Sn X h9 X h'/\ej X h' (ev l6 iQ [vp]::ev l5 iQ [vi]::eJ eN eo (List.replicate u.blocks.length 0) vp::eJ eZ eo xs vi::ev lb 30 (uC u vv vb vs)::cs)) ?_ (k:=u.blocks.length)
  ⟨0,_,rfl,rfl,rfl,rfl,rfl,rfl,by omega,by simp,λj hj=>by omega,Sn.refl _ _,H9⟩
 rintro k A B T x6 aQ aR ce ⟨i,xs,e3,e4,rfl,rfl,rfl,rfl,hk,aS,hm,aT,aU⟩;subst A B;unfold zA;by_cases hi:i<u.blocks.length
 ·refine gG ?_;obtain⟨l11,cf,cg,bE,bG,ci,aV,bH⟩:=aU.Jj 3 rfl (k:=i) (y:=(-1:Int)) (u:=V.I (-1)) (by omega) rfl rfl rfl;refine ed (aU.ld 1 rfl rfl) (ed bE ?_);rw[bG,ei];simp only[mA,je]at aV;refine fL ⟨k-1,by omega,i+1,xs.set i (-1),rfl,rfl,rfl,rfl,rfl,rfl,by omega,by simp[aS],λj hj=>?_,aT.trans bH,aV⟩
  grind
 refine iJ ?_;obtain rfl:i=u.blocks.length:=by omega
 have lo:=(r2.since aT).len;rw[aa]at lo;refine ed lo ?_
 refine Hz (λk A B T x6 ax aW aX h'=>∃(i:Nat) (pl:List Nat),A=vo/\B=va/\T = .ptr l5 0/\x6 = .ptr l6 0/\ax=vo/\aW = .I u.blocks.length/\aX = .I i/\i+k=u.blocks.length/\pl.length=u.blocks.length/\(∀j b,j<i->post.reverse[j]? =some b->pl[b]? =some j)/\
  Sn X h9 X h'/\ej X h' (ev l6 iQ [vp]::ev l5 iQ [vi]::eJ eN eo pl vp::eJ eZ eo xs vi::ev lb 30 (uC u vv vb vs)::cs)) ?_ (k:=u.blocks.length)
  (by grind)
 rintro k1 A B T x6 ax aW aX cj ⟨i,pl,e3,e4,rfl,rfl,cl,rfl,rfl,cm,aY,bI,ak,al⟩;subst A B ax;unfold zJ;by_cases hi:i<u.blocks.length
 ·refine gG ?_;obtain⟨b,q⟩:∃b,post.reverse[i]? =some b:=⟨_,gW (by omega)⟩
  have am:b<u.blocks.length:=G.pre b (wBH.1 (Dh q));obtain⟨l13,cn,_,j1,j2⟩:=(r2.since ak).nat q .i64;obtain⟨l14,co,cp,bJ,ay,cq,aZ,bK⟩:=al.Jj 2 rfl (k:=b) (y:=i) (u:=V.I i) (by omega) rfl rfl rfl;refine ed j1 (ed j2 (ed (al.ld 0 rfl rfl) (ed bJ ?_)));rw[ay,ei];simp only[mA,je]at aZ;refine fL ⟨k1-1,by omega,i+1,pl.set b i,rfl,rfl,rfl,rfl,rfl,rfl,rfl,by omega,by simp[aY],λj c hj hc=>?_,ak.trans bK,aZ⟩;by_cases e:c=b
  ·subst e;have s:=Nw G q;have h2:=Nw G hc;obtain rfl:i=j:=by omega
   rw[O9 (by omega)]
  grind
 refine iJ ?_;obtain rfl:i=u.blocks.length:=by omega
 have an:∀b,G.gr.node b->pl[b]? =some (G.gr.place b):=λb q=>by
  have s:=TD post.reverse b (wBH.2 q);exact bI (post.reverse.idxOf b) b (by have:=(jP.1 s).1;omega) s
 have lo:=(r2.since ak).len;rw[aa]at lo;refine ed lo (fX (fU (by omega) ?_));obtain⟨cr,ct,cu,ay,bL,cv,a4,bQ⟩:=al.Jj 3 rfl (k:=0) (y:=(0:Int)) (u:=V.I 0) (by omega) rfl rfl rfl;refine ed (al.ld 1 rfl rfl) (ed ay ?_);rw[bL,ei];simp only[mA,je]at a4;have bR:U2 (λx=>x=0) (λ_=>0) u.blocks.length (xs.set 0 0):=⟨by simp[aS],λb q=>by rw[q,O9 (by omega)];rfl,by grind⟩
 have f:∀b,G.gr.node b↔b<u.blocks.length:=λb=>⟨λq=>G.pre b q,λq=>Rj g G b q⟩
 have ap:∀b,G.gr.node b->G.gr.place b<u.blocks.length:=λb q=>by
  have s:=TD post.reverse b (wBH.2 q);have:=(jP.1 s).1;show post.reverse.idxOf b<_;omega
 have a5:∀p,p<u.blocks.length->∃b,G.gr.node b/\G.gr.place b=p:=by grind
 refine HB (λk A B T D J h'=>∃(c:Bool) (kk:Nat) (I:Nat->Nat) (S:Nat->Prop) (EA:List Int),A=vo/\B=va/\T = .ptr l5 0/\D = .func ji [] [.ptr l6 0,.ptr l5 0]/\J = .bool c/\k+kk=u.blocks.length+2/\(c=true->kk<=u.blocks.length+1)/\
  (c=false->(∀b,G.gr.node b->S b)/\∀b,G.gr.node b->b≠0->zaK G.gr I S b)/\Dm.Inv G.gr I S kk 1/\U2 S I u.blocks.length EA/\
  Sn X h9 X h'/\ej X h' (ev l6 iQ [vp]::ev l5 iQ [vi]::eJ eN eo pl vp::eJ eZ eo EA vi::ev lb 30 (uC u vv vb vs)::cs)) ?_ (k:=u.blocks.length+1)
  ⟨true,1,λ_=>0,λx=>x=0,_,rfl,rfl,rfl,rfl,rfl,by omega,λ_=>by omega,λh=>(by cases h),Dm.Inv.start,bR,ak.trans bQ,a4⟩
 rintro k2 A B T D J cw ⟨c,kk,I,S,EA,e3,e4,rfl,rfl,rfl,cx,bS,bU,hI,hR,ao,aA⟩;subst A B;unfold zK
 cases c with
 | false=>
   refine iO (fU (by simp) ?_);obtain⟨hS,hF⟩:=bU rfl;have a6:=Sw hI hS hF ap a5 (u.blocks.length+1);obtain⟨l17,cy,aB,bV,bW,cz,r,K⟩:=aA.Jj 3 rfl (k:=0) (y:=(-1:Int)) (u:=V.I (-1)) (by rw[hR.len];omega) rfl rfl rfl;refine ed (aA.ld 1 rfl rfl) (ed bV ?_);rw[bW,ei];simp only[mA,je]at r;refine ed (r.ld 1 rfl rfl) ?_;obtain⟨a7,bX,bY⟩:=r.jI 3 rfl;simp only[mA,je]at a7;refine H _ _ vi (EA.set 0 (-1)) I seen post G (((bC.trans ao).trans K).trans bX) a7.tail.tail.tail.tail.tail bY (by simp[hR.len]) (by rw[O9 (by rw[hR.len];omega)]) (λb h0 q=>?_) ⟨by omega,λb q=>(f b).2 q,λb q h0=>?_⟩ λx b q=>?_
   ·rw[Kk λh=>h0 h.symm]
    exact hR.yes b (hS b ((f b).2 q))
   ·obtain⟨s,h2⟩:=hI.tree.up b (hS b ((f b).2 q)) h0
    exact⟨(f _).1 (hI.tree.node _ s),h2⟩
   ·rw[a6.exact (λb q=>(f b).1 q) (by omega) (hS b ((f b).2 q))]
    exact(XO λa b=>Iff.rfl).symm
 | true =>
   refine iO (gi rfl ?_);have cA:=bS rfl;obtain⟨aC,bZ,aD⟩:=(r2.since ao).cut (lo:=some (V.I ((1:Nat):Int))) (hi:=none) (m:=1) (n:=post.reverse.length) (Pu _ _ _) (GB _) (by omega) (iZ _);rw[JC]at aD;refine ed bZ (ed aD.len ?_);have a8:(post.reverse.drop 1).length=u.blocks.length-1:=by rw[wB1,aa]
   rw[a8]
   refine Hy (λk A B T D J L ab ac h'=>∃(i:Nat) (c:Bool) (I:Nat->Nat) (S:Nat->Prop) (EA:List Int),A=vo/\B=va/\T = .ptr l5 0/\D = .func ji [] [.ptr l6 0,.ptr l5 0]/\J = .bool c/\L=aC/\ab = .I ((u.blocks.length-1:Nat):Int)/\ac = .I (i:Nat)/\i+k=u.blocks.length-1/\
     (c=true->kk<=u.blocks.length)/\(c=false->∀b,G.gr.node b->G.gr.place b<i+1->S b/\(b≠0->zaK G.gr I S b))/\Dm.Inv G.gr I S kk (i+1)/\U2 S I u.blocks.length EA/\
     Sn X h9 X h'/\ej X h' (ev l6 iQ [vp]::ev l5 iQ [vi]::eJ eN eo pl vp::eJ eZ eo EA vi::ev lb 30 (uC u vv vb vs)::cs)) ?_ (k:=u.blocks.length-1)
     ⟨0,false,I,S,EA,rfl,rfl,rfl,rfl,rfl,rfl,rfl,rfl,by omega,λh=>(by cases h),λ_ b q b4=>by
       obtain rfl:b=0:=G.gr.inj b 0 q G.gr.first (by have:=G.gr.Ei;omega);exact⟨hI.tree.zero,λh=>absurd rfl h⟩,hI,hR,ao,aA⟩
   rintro k3 A B T D J L ab ac aB ⟨i,c,U,S1,W,e3,e4,rfl,rfl,rfl,a9,rfl,rfl,cB,ba,b5,ae,t,K,r⟩;subst A B L;unfold zI;by_cases hi:i<u.blocks.length-1;rotate_left
   ·refine iJ ?_
    obtain rfl:i=u.blocks.length-1:=by omega
    have hp:=ae.pass λb q=>by have:=ap b q;omega
    refine⟨k2-1,by omega,c,kk+1,U,S1,W,rfl,rfl,rfl,rfl,rfl,by omega,λh=>by have:=ba h;omega,λh=>?_,hp,t,K,r⟩
    simp_all
   refine gG ?_;obtain⟨b,q⟩:∃b,post.reverse[i+1]? =some b:=⟨_,gW (by omega)⟩
   have ag:G.gr.node b:=wBH.1 (Dh q);have am:=(f b).1 ag;have aE:G.gr.place b=i+1:=Nw G q;have aF:b≠0:=λe=>by subst e;rw[G.gr.Ei]at aE;omega
   have bb:iy eN X aB (post.reverse.drop 1) aC:=aD.fh λl hl=>(K.fh l hl).trans (ao.fh l hl).symm;obtain⟨l18,cC,_,j1,j2⟩:=bb.nat (i:=i) (x:=b) (by rw[wBW,Nat.add_comm];exact q) .i64;obtain⟨cD,cE,b6,_,m1,m2,m3⟩:=(r3.since K).list (i:=b) (x:=Un.ahead u b) (by simp[am]) .i64;refine ed j1 (ed j2 (ed m1 (ed m2 (ed m3.len ?_))));have ah:∀p,G.gr.BF p b↔p∈Un.ahead u b:=λp=>vO.symm;have cF:(Un.ahead u b).length<=700:=by
     rw[<-oZ];have:=oW g (i:=u.blocks.length) (j:=0) (b:=b) (iZ _) (by omega);omega
   refine HV (λk A B T D J bc bd L ab ac aG be bf h'=>∃(j:Nat) (dd:Int),A=vo/\B=va/\T = .ptr l5 0/\D = .func ji [] [.ptr l6 0,.ptr l5 0]/\J = .bool c/\bc = .I (b:Nat)/\bd = .I dd/\L=aC/\ab = .I ((u.blocks.length-1:Nat):Int)/\ac = .I (i:Nat)/\
     aG=b6/\be = .I ((Un.ahead u b).length:Nat)/\bf = .I (j:Nat)/\j+k=(Un.ahead u b).length/\h' = aB/\
     ((dd = -1/\∀p∈(Un.ahead u b).take j,¬S1 p)\/∃d:Nat,dd=(d:Int)/\S1 d/\(∀p∈(Un.ahead u b).take j,S1 p->qe U d p)/\∀x,(∀p∈(Un.ahead u b).take j,S1 p->qe U x p)->qe U x d)) ?_ (k:=(Un.ahead u b).length)
     ⟨0,-1,rfl,rfl,rfl,rfl,rfl,rfl,rfl,rfl,rfl,rfl,rfl,rfl,rfl,by omega,rfl,.inl ⟨rfl,λp hp=>by simp at hp⟩⟩
   rintro k4 A B T D J bc bd L ab ac aG be bf b7 ⟨j,dd,e3,e4,rfl,rfl,rfl,rfl,rfl,a9,rfl,rfl,cG,rfl,rfl,cH,rfl,Y⟩;subst A B L aG;unfold zv;by_cases hj:j<(Un.ahead u b).length
   ·refine gG ?_
    obtain⟨a,ha⟩:∃a,(Un.ahead u b)[j]? =some a:=⟨_,gW hj⟩
    have bg:a<u.blocks.length:=by
      have:=vO.1 (Dh ha);exact(g.Y3 this).1
    have b8:(Un.ahead u b).take (j+1)=(Un.ahead u b).take j++[a]:=by
      obtain⟨s,rfl⟩:=jP.1 ha;exact N6 s
    obtain⟨cI,cJ,_,q1,q2⟩:=m3.nat ha .i64;refine ed q1 (ed q2 (ed (r.ld 1 rfl rfl) ?_));have w:∀p,p∈(Un.ahead u b).take (j+1)↔p∈(Un.ahead u b).take j\/p=a:=λp=>by rw[b8];simp
    by_cases hS:S1 a;rotate_left
    ·obtain⟨aH,aI,t1,t2⟩:=r.Uh 3 rfl (t.no a bg hS) .i64
     refine ed t1 (ed t2 (gG ?_));refine qF ?_;unfold nH;refine kZ (m:=1) (by omega) (by omega) ⟨k4-1,by omega,j+1,dd,rfl,rfl,rfl,rfl,rfl,rfl,rfl,rfl,rfl,rfl,rfl,rfl,rfl,by omega,rfl,?_⟩;have cK:∀{P:Nat->Prop},(∀p∈(Un.ahead u b).take (j+1),S1 p->P p)↔(∀p∈(Un.ahead u b).take j,S1 p->P p):=λ{P}=>⟨λh p hp=>h p ((w p).2 (.inl hp)),by grind⟩
     simp_all
    obtain⟨aH,aI,t1,t2⟩:=r.Uh 3 rfl (t.yes a hS) .i64;refine ed t1 (ed t2 (iJ ?_));rcases Y with⟨rfl,s⟩|⟨d,rfl,s,h2,N⟩
    ·refine gG ?_
     refine qF ?_;unfold nH;refine kZ (m:=1) (by omega) (by omega) ⟨k4-1,by omega,j+1,(a:Int),rfl,rfl,rfl,rfl,rfl,rfl,rfl,rfl,rfl,rfl,rfl,rfl,rfl,by omega,rfl,?_⟩;refine .inr ⟨a,rfl,hS,λp hp hs=>?_,λx hx=>hx a ((w a).2 (.inr rfl)) hS⟩;rcases(w p).1 hp with R|rfl
     ·exact absurd hs (s p R)
     ·exact .refl _
    ·refine iJ ?_
     show cP CS ji [.I (d:Nat),.I (a:Nat),.ptr l6 0,.ptr l5 0] b7 _;refine zbq r (i5:=1) (i6:=0) (ii:=3) (ip:=2) rfl rfl rfl rfl ae.tree t an s hS λd' g1 g2 g3 g4=>?_;refine qF ?_;unfold nH;refine kZ (m:=1) (by omega) (by omega) ⟨k4-1,by omega,j+1,(d':Int),rfl,rfl,rfl,rfl,rfl,rfl,rfl,rfl,rfl,rfl,rfl,rfl,rfl,by omega,rfl,?_⟩;refine .inr ⟨d',rfl,g1,λp hp hs=>?_,λx hx=>g4 x (N x λp hp hs=>hx p ((w p).2 (.inl hp)) hs) (hx a ((w a).2 (.inr rfl)) hS)⟩;rcases(w p).1 hp with R|rfl
     ·exact g2.trans (h2 p R hs)
     ·exact g3
   refine iJ ?_;rw[ZU (by omega)]at Y;obtain⟨p0,bh,bi,cd⟩:=G.gr.early b ag aF;have bj:S1 p0:=ae.done p0 bh (by omega);obtain⟨d,rfl,cL,aJ,bm⟩:∃d:Nat,dd=(d:Int)/\S1 d/\(∀p∈Un.ahead u b,S1 p->qe U d p)/\∀x,(∀p∈Un.ahead u b,S1 p->qe U x p)->qe U x d:=by
     rcases Y with⟨_,s⟩|s
     ·exact absurd bj (s p0 ((ah p0).1 bi))
     ·exact s
   have ai:∀p,S1 p->G.gr.BF p b->qe U d p:=λp hs he=>aJ p ((ah p).1 he) hs;have C:∀x,(∀p,S1 p->G.gr.BF p b->qe U x p)->qe U x d:=by simp_all
   have bo:i<1000000000:=by clear Y;omega
   have aq:k3-1<k3:=by clear Y;omega
   have ar:i+1+(k3-1)=u.blocks.length-1:=by clear Y;omega
   have aj:=(ae.Oo ag aF aE ai C).1;refine ed (r.ld 1 rfl rfl) ?_;by_cases hsame:S1 b/\U b=d
   ·obtain ⟨M,rfl⟩:=hsame
    obtain⟨aH,aI,t1,t2⟩:=r.Uh 3 rfl (t.yes b M) .i64;refine ed t1 (ed t2 (yg (gi rfl ?_)));refine yJ ?_;unfold qz;rw[Sj,VE M]at aj;refine kZ (m:=1) bo (by decide) ⟨k3-1,aq,i+1,c,U,S1,W,rfl,rfl,rfl,rfl,rfl,rfl,rfl,rfl,ar,ba,λhc b' br b4=>?_,aj,t,K,r⟩;rcases Te (G.gr.place b') (i+1)with s|s
    ·exact b5 hc b' br s
    ·obtain rfl:b' = b:=G.gr.inj _ _ br ag (by omega)
     exact⟨M,λ_=>⟨ai,C⟩⟩
   ·obtain ⟨y,hy,bt⟩:∃y:Int,W[b]? =some y/\y≠(d:Int):=by
      by_cases M:S1 b
      ·refine⟨(U b:Int),t.yes b M,λe=>hsame ⟨M,?_⟩⟩
       exact Int.ofNat.inj e
      ·refine⟨-1,t.no b am M,?_⟩
       omega
    obtain⟨aH,aI,t1,t2⟩:=r.Uh 3 rfl hy .i64;refine ed t1 (ed t2 (yg (fU bt ?_)));obtain⟨cM,cN,cO,b9,ca,cQ,bu,cb⟩:=r.Jj 3 rfl (k:=b) (y:=(d:Int)) (u:=V.I (d:Nat)) (by rw[t.len];exact am) rfl rfl rfl;refine ed (r.ld 1 rfl rfl) (ed b9 ?_);rw[ca,ei];simp only[mA,je]at bu;refine yJ ?_;unfold qz;refine kZ (m:=1) bo (by decide) ⟨k3-1,aq,i+1,true,Dm.set U b d,λx=>S1 x\/x=b,W.set b (d:Int),rfl,rfl,rfl,rfl,rfl,rfl,rfl,rfl,ar,λ_=>?_,λh=>(by cases h),aj,⟨by simp[t.len],λx hx=>?_,λx hx hn=>?_⟩,K.trans cb,bu⟩
    ·rcases Te u.blocks.length kk with s|s
     ·exfalso
      obtain⟨h2,N⟩:=ae.stay (n:=u.blocks.length) (λb q=>(f b).1 q) s ag aF aE ai C;exact hsame ⟨h2,N.symm⟩
     ·exact s
    ·unfold Dm.set
     by_cases e:x=b
     ·grind
     ·rw[Kk λh=>e h.symm,if_neg e]
      exact t.yes x (hx.resolve_right e)
    ·have e:x≠b:=λe=>hn (.inr e)
     rw[Kk λh=>e h.symm];exact t.no x hx λh=>hn (.inl h)
end
open Un Dm
structure zfH (u:U) (EA:List Int) (I:Nat->Nat):Prop where
 len:EA.length=u.blocks.length
 zero:EA[0]? =some (-1)
 at_:∀b,b≠0->b<u.blocks.length->EA[b]? =some (I b:Int)
 zfu:∃r:Nat->Nat,∀b,b<u.blocks.length->b≠0->I b<u.blocks.length/\r (I b)<r b
 iff:∀x b,b<u.blocks.length->(qe I x b↔qd (next u) x b)
section
variable{F F':Nat->Prop}{h h':Hp}{cs:List Pc}{Q:ft}{u:U}{vv vb vs:V}{lc:Nat}{bl pl GL:V}{xs ys EA:List Int}{I:Nat->Nat}
structure Cx (F:Nat->Prop) (h:Hp) (cs:List Pc) (lc:Nat) (u:U) (vv vb vs bl pl GL:V) (xs ys EA:List Int) (I:Nat->Nat):Prop where
 ck:Ck F h cs lc u vv vb vs bl pl GL
 rbl:iy eZ F h xs bl
 rpl:iy eZ F h ys pl
 rim:iy eZ F h EA GL
 std:Std u u.blocks.length 0 xs ys
 Ta:zfH u EA I
theorem Cx.since(C:Cx F h cs lc u vv vb vs bl pl GL xs ys EA I)(s:Sn F h F' h')(a:ej F' h' cs):Cx F' h' cs lc u vv vb vs bl pl GL xs ys EA I:=⟨C.ck.since s a,C.rbl.since s,C.rpl.since s,C.rim.since s,C.std,C.Ta⟩
theorem Cx.cons(C:Cx F h cs lc u vv vb vs bl pl GL xs ys EA I)(s:Sn F h F' h'){p:Pc}(a:ej F' h' (p::cs)):Cx F' h' (p::cs) lc u vv vb vs bl pl GL xs ys EA I:=⟨C.ck.cons s a,C.rbl.since s,C.rpl.since s,C.rim.since s,C.std,C.Ta⟩
theorem PX(C:Cx F h cs lc u vv vb vs bl pl GL xs ys EA I){a b:Nat}(p:b<u.blocks.length)(q:qe I a b)(H:Q (.bool true) h):cP CS lU [.ptr lc 0,.I a,.I b] h Q:=by
 refine CN rfl rfl ?_;unfold vw;obtain⟨r,j⟩:=C.Ta.zfu;refine Al (λk f g i h'=>∃b':Nat,f = .ptr lc 0/\g = .I a/\i = .I (b':Nat)/\k=r b'/\b' < u.blocks.length/\qe I a b'/\h' = h) ?_ (k:=r b) (by grind);rintro k f g i h' ⟨b',rfl,rfl,rfl,hk,c,d,rfl⟩;unfold qo;refine UQ (gi (by omega) ?_);by_cases e:a=b'
 ·exact fX (gi (by omega) H)
 refine fX (fU (by omega) ?_)
 cases d with
 |refl=>omega
 | up h0 s=>
   obtain⟨l,o,_,m,n⟩:=C.rim.int (C.Ta.at_ b' h0 c) .i64;obtain⟨r1,t⟩:=j b' c h0;exact ed (fQ _ _) (ed (by rfl) (ed (C.ck.ld 7 rfl) (ed m (ed n (by grind)))))
theorem JX(C:Cx F h cs lc u vv vb vs bl pl GL xs ys EA I){l:List Nat}{v:V}{b p:Nat}(A:iy eN F h l v)(W:l.length<1000000)(D:b<u.blocks.length)(hs:∀w∈l,∃c j,At u w c j/\(c=b->j<p)/\qd (next u) c b)(H:Q (.bool true) h) :
  cP CS jl [.ptr lc 0,v,.I b,.I p] h Q:=by
 refine I9 rfl rfl ?_;unfold AT;refine ed A.len ?_;refine FG (λk E G J a d f h'=>∃i:Nat,E = .ptr lc 0/\G = .I b/\J = .I p/\a=v/\d = .I l.length/\f = .I (i:Nat)/\i+k=l.length/\h' = h) ?_ (k:=l.length) (by simp_all);rintro k E G J a d f h' ⟨i,rfl,rfl,rfl,rfl,rfl,rfl,hk,rfl⟩;unfold yh;by_cases hi:i<l.length;rotate_left
 ·exact iJ H
 refine gG ?_;obtain⟨c,j,g,M,m⟩:=hs _ (AW hi);have n:c<u.blocks.length:=by
  obtain⟨B,X,_⟩:=g;exact by grind
 obtain ⟨N,O⟩:=C.std.yes _ c j g (.inl n);obtain⟨l1,Y,_,P,R⟩:=A.nat (gW hi) .i64;obtain⟨l2,Z,_,K,L⟩:=C.rbl.int N .i64;obtain⟨l3,o3,_,S,T⟩:=C.rpl.int O .i64;refine ed P (ed R (ed (fQ _ _) (ed (by rfl) (ed (C.ck.ld 5 rfl) (ed K (ed L (ed (by rfl) ?_)))))));have e:jO (.bool (((c:Int)) == (b:Int))) (oB (some (V.ptr lc 0)) λo=>oB (gY o) λq=>oB (fH 6 q) λr=>oB (ez r h') λs=>oB (some (V.I (l[i]:Nat))) λt=>oB (gz 1 s t) λx=>oB (ez x h') λy=>oB (some (V.I p)) λz=>en .geq 3 y z)=some (.bool false):=by
  have l6:ez (.ptr lc (0+6)) h' = some pl:=C.ck.ld 6 rfl;simp only[fe,fQ,fT,l6,S,T,nM,jc];congr 2;rw[wBk];intro U;simp only[xg,HR,AQ]at U;have:=by omega
  omega
 refine ed e ?_;refine fD (ed rfl (fD (ed rfl (fD (ed (fQ _ _) (fD (ed (by rfl) (fD (ed (C.ck.ld 5 rfl) (fD (ed rfl (fD (ed K (fD (ed L (fD (ed rfl (yd ?_))))))))))))))))));refine PX C D ((C.Ta.iff c b D).2 m) (ed rfl (iO (fU (by simp) ?_)));exact fL ⟨k-1,by omega,i+1,rfl,rfl,rfl,rfl,rfl,rfl,by omega,rfl⟩
theorem JE(C:Cx F h cs lc u vv vb vs bl pl GL xs ys EA I){s b p:Nat}{fs:List Fm}(n:u.eh[s]? =some fs)(A:fs.length<=30/\∀f∈fs,f.locals.length<=40/\f.stack.length<=60)(o:b<u.blocks.length)
  (hs:∀w∈hO fs,∃c j,At u w c j/\(c=b->j<p)/\qd (next u) c b) (H:∀h',Sn F h F h'->ej F h' cs->Q (.bool true) h') :
  cP CS jb [.ptr lc 0,.I s,.I b,.I p] h Q:=by
 refine Dd rfl rfl ?_;unfold uT;obtain⟨l1,L,f,_,B,_,D,q⟩:=C.ck.u.st n;refine ed (fQ _ _) (ed (by rfl) (ed (by rfl) (ed (C.ck.ld 4 rfl) (ed B (ed (by rfl) (ed D (ed q.len ?_)))))))
 refine AI (λk r t v d e g h'=>∃j:Nat,r = .ptr lc 0/\t = .I b/\v = .I p/\d=f/\e = .I fs.length/\g = .I (j:Nat)/\j+k=fs.length/\Sn F h F h'/\ej F h' cs) ?_ (k:=fs.length)
  ⟨0,rfl,rfl,rfl,rfl,rfl,rfl,by omega,Sn.refl _ _,C.ck.H⟩
 rintro k r t v d e g E ⟨j,rfl,rfl,rfl,rfl,rfl,rfl,hk,i,x⟩;unfold ql;by_cases hj:j<fs.length;rotate_left
 ·exact iJ (H E i x)
 refine gG ?_;obtain⟨l3,M,a,c,_,G,J,y,z⟩:=(q.since i).l0 (gW hj);obtain⟨N,O⟩:=A.2 _ (AW hj);have K:∀w,w∈fs[j].locals\/w∈fs[j].stack->w∈hO fs:=by grind[hO,AW]
 refine ed G (ed J ?_);refine ir x rfl rfl (by simp only[Ou,ey,y.one,z.one];rfl) λP l m=>?_;have C2:=C.since (i.trans m) l.tail;refine ed (by rfl) (ed (l.ld 0 rfl rfl) ?_);refine JX C2 (y.since m) (by omega) o (by simp_all) (ed rfl ?_);refine fD (ed rfl (fD (ed (by rfl) (fD (ed (l.ld 0 rfl rfl) (fD (ed rfl (fD (ed rfl (yd ?_))))))))));refine JX C2 (z.since m) (by omega) o (by simp_all) (ed rfl (iO (fU (by simp) ?_)));exact fL ⟨k-1,by omega,j+1,rfl,rfl,rfl,rfl,rfl,rfl,by omega,i.trans m,l.tail⟩
theorem VJ{w b k:Nat}(h:Bn u w b k):∃c j,At u w c j/\(c=b->j<k)/\qd (next u) c b:=by
 obtain⟨c,j,d,a⟩:=h;rcases a with⟨rfl,a⟩|⟨a,e⟩
 ·grind[qd.self]
 grind
theorem IZ{w b:Nat}{B:Bk}(f:u.blocks[b]? =some B)(h:rh u w b):∃c j,At u w c j/\(c=b->j<B.ef.length)/\qd (next u) c b:=by
 obtain⟨c,j,a,d⟩:=h;refine⟨c,j,a,λe=>?_,d⟩;subst e;obtain⟨g,i,k⟩:=a
 grind
theorem YH{lv:Nat}{x:Vl}{w:V}{a0:V}{i k:Nat}(a:a0 = .ptr lc 0)(C:Cx F h (ev lv gL (my x w)::cs) lc u vv vb vs bl pl GL xs ys EA I)(hc:lv≠lc)(B:ez (.ptr lv 5) h=some (.I x.state))(D:i<u.blocks.length)
  (E:leaves x.op=true->∃fs,u.eh[x.state]? =some fs/\(fs.length<=30/\∀f∈fs,f.locals.length<=40/\f.stack.length<=60)/\∀w∈hO fs,∃c j,At u w c j/\(c=i->j<k)/\qd (next u) c i) {K:ft}
  (A:∀h',Sn F h F h'->ej F h' (ev lv gL (my x w)::cs)->K (.bool false) h') :
  oP (fy true (.bool (leaves x.op))) λb=>
  oP (gV b (some a0)) λd=>
  oP (fy true (.bool (leaves x.op))) λe=>
  oP (gV e (fH 5 (.ptr lv 0))) λg=>
  oP (fy true (.bool (leaves x.op))) λl=>
  oP (gV l (ez g h)) λm=>
  oP (fy true (.bool (leaves x.op))) λn=>
  oP (gV n (some (.I i))) λo=>
  oP (fy true (.bool (leaves x.op))) λp=>
  oP (gV p (some (.I k))) λq=>
  oP (fy true (.bool (leaves x.op))) λr=>
  oP (gC r (some (jb,[d,m,o,q]))) λs=>uj CS s h λt G=>
  oP (fy true (.bool (leaves x.op))) λv=>
  oP (gV v (pt .not t)) λy=>
  oP (nP (.bool false) (jt (.bool (leaves x.op)) y (V.bool false))) λz=>K z G:=by
 subst a
 cases hq:leaves x.op with
 | true=>
   obtain⟨fs,J,L,M⟩:=E hq;refine gq (ed rfl (gq (ed (by rfl) (gq (ed B (gq (ed rfl (gq (ed rfl (wS ?_))))))))))
   refine JE C J L D M λh' s' N=>gq (ed rfl (ed rfl (A h' s' N)))
 |false=>exact g0 (g0 (g0 (g0 (g0 (GP (g0 (ed rfl (A h (Sn.refl _ _) C.ck.H))))))))
theorem ZJ(g:Good u)(C:Cx F h cs lc u vv vb vs bl pl GL xs ys EA I)(aj:lc<h.next){i:Nat}{B:Bk}(d:u.blocks[i]? =some B)(H:∀F' h',Sn F h F' h'->ej F' h' cs->Q (.bool true) h'):cP CS mi [.ptr lc 0,.I i] h Q:=by
 refine HL rfl rfl ?_;unfold zF;have nv:=g.nv;have nb:=g.nb;have r:i<u.blocks.length:=by grind
 have ak:∀(s:Nat) (fs:List Fm),u.eh[s]? =some fs->fs.length<=30/\∀f∈fs,f.locals.length<=40/\f.stack.length<=60:=λs fs a=>by
  obtain⟨_,h2,h3⟩:=g.st s fs a
  simp_all
 have al:B.ef.length<=3000:=by
  have:=jj u.ef.length B.ef (IK g d) λv hv=>by
   obtain⟨k,hk⟩:=mQ.1 hv;exact g.jE v i k ⟨B,d,hk⟩
  omega
 obtain⟨l7,o7,bv,bn,bp,_,i1,i2,O,iN,ip,_⟩:=C.ck.u.nf d;refine ed (fQ _ _) (ed (by rfl) (ed (by rfl) (ed (C.ck.ld 3 rfl) (ed i1 (ed i2 ?_)))));refine ir C.ck.H rfl rfl (by simp only[kI,ey,O.one,iN.one,ip.one];rfl) λh2 H2 G=>?_;have C2:=C.cons G H2;have O:=O.since G;have iN:=iN.since G;have ip:=ip.since G;refine ed (by rfl) (ed (H2.ld 0 rfl rfl) (ed O.len (ed (by rfl) (ed (H2.ld 0 rfl rfl) (ed O.len ?_)))))
 refine EU (λk S T U V c l o h'=>∃(F':Nat->Prop) (j:Nat),S = .ptr lc 0/\T = .I i/\U = .ptr h.next 0/\V = .I B.ef.length/\c=bv/\l = .I B.ef.length/\o = .I j/\j+k=B.ef.length/\
  Sn F h2 F' h'/\ej F' h' (ev h.next 47 (kI B bv bn bp)::cs)) ?_ (k:=B.ef.length) ⟨F,0,rfl,rfl,rfl,rfl,rfl,rfl,rfl,by omega,Sn.refl _ _,H2⟩
 rintro k S T U V c l o h3 ⟨F3,j,rfl,rfl,rfl,rfl,ab,rfl,rfl,hk,t,y⟩;subst c;unfold vU;have C3:=C2.since t y;by_cases hj:j<B.ef.length;rotate_left
 ·refine iJ ?_;refine ed (by rfl) (ed (y.ld 0 rfl rfl) ?_);by_cases c2:B.fin=2
  ·refine fX (gi (by omega) ?_);refine ed (by rfl) (ed (y.ld 0 rfl rfl) ?_);refine zcR [B.cond] (qZ _) y λF4 h4 v q s4 r4=>?_;refine JX (C3.since s4 q) r4 (by simp) r (λw hw=>?_) (H _ _ ((G.trans t).trans s4) q.tail);obtain rfl:=wBX.1 hw;exact IZ d (g.Dk i B d c2)
  refine fX (fU (by omega) ?_);by_cases c3:B.fin=3
  ·refine fX (gi (by omega) ?_);refine ed (by rfl) (ed (y.ld 0 rfl rfl) ?_);have ng:B.state<u.eh.length:=by
    rcases g.fin i B d with⟨J,_⟩|⟨J,_⟩|⟨_,_,J⟩
    ·omega
    ·omega
    ·exact J
   obtain⟨fs,a⟩:∃fs,u.eh[B.state]? =some fs:=by simp_all
   refine JE C3 a (by grind) r (λw hw=>IZ d (g.Gc i B fs d c3 a w hw)) λh4 s4 q=>H _ _ ((G.trans t).trans s4) q.tail
  ·exact fX (fU (by omega) (H _ _ (G.trans t) y.tail))
 refine gG ?_;have e:At u (B.ef[j]) i j:=⟨B,d,gW hj⟩
 have am:=g.jE _ _ _ e;obtain⟨x,A⟩:∃x,u.ef[B.ef[j]]? =some x:=by simp_all
 have ac:B.eQ.length<=700:=by
  rw[g.eQ i B d,<-oZ];have:=oW g (i:=u.blocks.length) (j:=0) (b:=i) (iZ _) (by omega);omega
 have ae:x.op=21\/x.op=20->x.args.length<=700:=by
  rintro(J|J)
  ·rw[(g.CJ _ _ _ _ _ e A J d).2];exact ac
  ·rw[g.putAt _ x A J];omega
 obtain⟨l9,o9,_,j1,j2⟩:=(O.since t).nat (gW hj) .i64;obtain⟨l10,an,w,_,q1,q2,iw,_⟩:=C3.ck.u.val A;refine ed j1 (ed j2 (ed (fQ _ _) (ed (by rfl) (ed (by rfl) (ed (C3.ck.ld 2 rfl) (ed q1 (ed q2 ?_)))))));refine ir y rfl rfl (by simp only[my,ey,iw.one];rfl) λh4 q s4=>?_;have C4:=C3.cons s4 q;have K:=iw.since s4;have ao:h3.next<=h4.next:=s4.next;have ap:h.next<h3.next:=(y.ok 0 _ rfl).2.1;refine ed (by rfl) (ed (q.ld 0 rfl rfl) ?_);by_cases L:x.op=21
 ·refine fX (gi (by omega) ?_);refine ed (by rfl) (ed (q.ld 0 rfl rfl) (ed K.len ?_));have aq:=(g.CJ _ _ _ _ _ e A L d).2
  refine EX (λk S T U V c l o M W X h'=>∃(F':Nat->Prop) (m:Nat),S = .ptr lc 0/\T = .I i/\U = .ptr h.next 0/\V = .I B.ef.length/\c=bv/\l = .I B.ef.length/\o = .I j/\M=w/\W = .I x.args.length/\X = .I m/\m+k=x.args.length/\
   Sn F3 h4 F' h'/\ej F' h' (ev h3.next 49 (my x w)::ev h.next 47 (kI B bv bn bp)::cs)) ?_ (k:=x.args.length) ⟨F3,0,rfl,rfl,rfl,rfl,rfl,rfl,rfl,rfl,rfl,rfl,by omega,Sn.refl _ _,q⟩
  rintro k2 S T U V c l o M W X h5 ⟨F5,m,rfl,rfl,rfl,rfl,ab,rfl,rfl,ar,rfl,rfl,au,D,N⟩;subst c M;unfold wZ;have C5:=C4.since D N;by_cases hm:m<x.args.length;rotate_left
  ·refine iJ ?_;refine ve ?_;unfold oU;exact fL ⟨k-1,by omega,F5,j+1,rfl,rfl,rfl,rfl,rfl,rfl,rfl,by omega,(t.trans s4).trans D,N.tail⟩
  refine gG ?_;obtain⟨l11,aw,ai,m1,m2⟩:=(K.since D).nat (gW hm) .i64;refine ed m1 (ed m2 ?_);have ax:m<B.eQ.length:=by omega
  obtain⟨p,hp⟩:∃p,B.eQ[m]? =some p:=by simp_all
  have ag:p<u.blocks.length:=by
   have:=Dh hp;rw[g.eQ i B d]at this;exact(g.Y3 (vO.1 this)).1
  obtain⟨P,hP⟩:∃P,u.blocks[p]? =some P:=by simp_all
  rw[qZ,gR];obtain⟨R,Y,r6⟩:=N.ZF (E:=eN) (xs:=[x.args[m]]) (n:=1) eo rfl (wF F5 h5 [x.args[m]]) false;have g6:(h5.new (.cells 3 1 true false (gP [x.args[m]]))).get h5.next=some (.cells 3 1 true false (gP [x.args[m]])):=fg _ _;have C6:=C5.since Y R;obtain⟨l12,ay,_,n1,n2⟩:=(((ip.since t).since s4).since (D.trans Y)).nat hp .i64;obtain⟨l13,aA,pv,pn,pp,_,p1,_,ah,_,_,pa⟩:=C6.ck.u.nf hP;refine ed (by rfl) (ed (R.ld 1 rfl rfl) (ed n1 (ed n2 (ed (fQ _ _) (ed (by rfl) (ed (by rfl) (ed (C6.ck.ld 3 rfl) ?_)))))));refine ed (by rfl) (ed (R.ld 1 rfl rfl) (ed n1 (ed n2 (ed p1 (ed (by rfl) (ed pa.ef (ed ah.len ⟨by simp_all,?_⟩)))))));refine JX C6 r6 (by simp) ag (λz Z=>?_) ⟨iZ _,w5 (gi rfl ?_)⟩
  ·obtain rfl:=wBX.1 Z;exact IZ hP (g.Dn _ i j x B e A L d m _ p (by simp_all) hp)
  ·exact fL ⟨k2-1,by omega,_,m+1,rfl,rfl,rfl,rfl,rfl,rfl,rfl,rfl,rfl,rfl,by omega,D.trans Y,R⟩
 refine fX (fU (by omega) ?_);refine ed (q.zb 0 rfl rfl) ?_;refine Qy q K (by omega) λF5 h5 v D N r5=>?_;have C5:=C4.since D N;refine JX C5 r5 (by grind[Jx]) r (λz Z=>VJ (g.DD _ i j x e A L z Z)) (ed rfl ?_);refine fD (ed (by rfl) (fD (ed (N.ld 0 rfl rfl) (yd ?_))));refine Ld (fD (ed rfl ?_));refine YH rfl C5 (by omega) (N.ld 0 rfl rfl) r (λaa=>?_) λh6 Y R=>?_
 ·have ng:=g.leave _ x A aa;obtain⟨fs,a⟩:∃fs,u.eh[x.state]? =some fs:=by simp_all
  exact⟨fs,a,by grind,λz Z=>VJ (g.Gb _ i j x fs e A aa a z Z)⟩
 ·refine iO (fU (by simp) ?_);refine ve ?_;unfold oU;exact fL ⟨k-1,by omega,F5,j+1,rfl,rfl,rfl,rfl,rfl,rfl,rfl,by omega,((t.trans s4).trans D).trans Y,R.tail⟩
end
open Un Dm
section
variable{F F':Nat->Prop}{h h':Hp}{cs:List Pc}{Q:ft}{u:U}{vv vb vs:V}
theorem Zt(g:Good u)(H0:ej F h cs)(hu:DA F h u vv vb vs)(H:∀F' h',Sn F h F' h'->ej F' h' cs->Q (.bool true) h'):cP CS B3 [.agg (uC u vv vb vs)] h Q:=by
 refine RS rfl rfl ?_;unfold Ly;have nv:=g.nv;have nb:=g.nb;have KC:=g.KC;have ns:=g.ns;refine ml H0 hu.one λt x s1=>?_;have u1:=hu.since s1;have l2:ez (.ptr h.next (0+2)) t=some vv:=x.ld 0 rfl rfl;have l3:ez (.ptr h.next (0+3)) t=some vb:=x.ld 0 rfl rfl;have l4:ez (.ptr h.next (0+4)) t=some vs:=x.ld 0 rfl rfl;refine oF l2 (ed u1.v.len (ed (nw _ _ _ _) ?_));rw[N5 (by omega)];have e1:nP (.bool false) (oB (fH 3 (.ptr h.next 0)) λf=>oB (ez f t) λj=>oB (fE j) λk=>en .gtr 3 k (V.I 300))=some (.bool false):=by
  simp only[mF,fT,fe,l3,u1.b.len,nw];rw[N5 (by omega)]
 have e2:nP (.bool false) (oB (fH 4 (.ptr h.next 0)) λf=>oB (ez f t) λj=>oB (fE j) λk=>en .gtr 3 k (V.I 1000))=some (.bool false):=by
  simp only[mF,fT,fe,l4,u1.s.len,nw];rw[N5 (by omega)]
 have e3:nP (.bool false) (oB (fH 3 (.ptr h.next 0)) λf=>oB (ez f t) λj=>oB (fE j) λk=>en .eql 3 k (V.I 0))=some (.bool false):=by
  simp only[mF,fT,fe,l3,u1.b.len,ik];congr 2;rw[Ti];omega
 refine ed e1 (ed e2 (ed e3 (iO (fU (by simp) ?_))));refine ed (x.zb 0 rfl rfl) (ed (show _=some (V.agg [.I u.func,.I u.pc,vv,vb,vs,.ee,.ee,.ee]) from rfl) ?_);refine ml x (by simp only[ey,u1.v.one,u1.b.one,u1.s.one];rfl) λC D s2=>?_;have u2:=u1.since s2;generalize t.next=lc at*;have l4:ez (.ptr h.next (0+4)) C=some vs:=D.ld 1 rfl rfl;refine oF l4 (ed u2.s.len ?_);have C2:Ck F C (ev lc 89 [.I u.func,.I u.pc,vv,vb,vs,.ee,.ee,.ee]::ev h.next 30 (uC u vv vb vs)::cs) lc u vv vb vs .ee .ee .ee:=⟨D,⟨0,_,rfl⟩,u2⟩
 refine Nz (by omega) (λF' h'=>F' = F/\Sn F C F h'/\ej F h' (ev lc 89 [.I u.func,.I u.pc,vv,vb,vs,.ee,.ee,.ee]::ev h.next 30 (uC u vv vb vs)::cs)) ⟨rfl,Sn.refl _ _,D⟩ (λi hi F' h' hP n p=>?_) λF3 h3 hP=>?_
 ·obtain⟨rfl,s',l⟩:=hP;show cP CS mg [.ptr lc 0,.I i] h' n;have hs:=gW hi;obtain⟨g1,g2,g3⟩:=g.st i _ hs;exact Y7 (C2.since s' l) hs ⟨g1,g2⟩ g3 λa c d=>p F' a ⟨rfl,s'.trans c,d⟩
 obtain⟨rfl,E,H3⟩:=hP;refine ed rfl (fD (ed rfl (yd ?_)));refine X8 g H3 (u2.since E) λJ K b' r xs ys s4 L rb rp std=>?_;refine ed rfl (fD (ed rfl ?_));have M:=(u2.since E).since s4;have N:Ck J K (ev lc 89 [.I u.func,.I u.pc,vv,vb,vs,b',r,.ee]::ev h.next 30 (uC u vv vb vs)::cs) lc u vv vb vs b' r .ee:=⟨L,⟨0,_,rfl⟩,M⟩
 have l2:ez (.ptr h.next (0+2)) K=some vv:=L.ld 1 rfl rfl;refine fD (ed (fT _ _ _) (fD (ed l2 (fD (ed M.v.len (fD (ed rfl (fD (ed rfl (yd ?_))))))))));refine Nz (F:=J) (by omega) (λF' h'=>Sn J K F' h'/\ej F' h' (ev lc 89 [.I u.func,.I u.pc,vv,vb,vs,b',r,.ee]::ev h.next 30 (uC u vv vb vs)::cs)) ⟨Sn.refl _ _,L⟩ (λi hi F' h' hP n p=>?_) λF5 h5 hP=>?_
 ·obtain⟨s',l⟩:=hP;show cP CS ke [.ptr lc 0,.I i] h' n;exact zc8 g (N.since s' l) (rb.since s') std hi (l.ok 0 _ rfl).2.1 λe a c d=>p e a ⟨s'.trans c,d⟩
 obtain⟨A,B⟩:=hP;have u5:=M.since A;have l3:ez (.ptr h.next (0+3)) h5=some vb:=B.ld 1 rfl rfl;refine ed rfl (fD (ed rfl (fD (ed (fT _ _ _) (fD (ed l3 (fD (ed u5.b.len (fD (ed rfl (fD (ed rfl (yd ?_)))))))))))));refine Nz (F:=F5) (by omega) (λF' h'=>Sn F5 h5 F' h'/\ej F' h' (ev lc 89 [.I u.func,.I u.pc,vv,vb,vs,b',r,.ee]::ev h.next 30 (uC u vv vb vs)::cs)) ⟨Sn.refl _ _,B⟩ (λi hi F' h' hP n p=>?_) λF6 h6 hP=>?_
 ·obtain⟨s',l⟩:=hP;show cP CS mH [.ptr lc 0,.I i] h' n;exact zaX g ((N.since A B).since s' l) (gW hi) λe a c d=>p e a ⟨s'.trans c,d⟩
 obtain⟨O,P⟩:=hP;have u6:=u5.since O;have l3:ez (.ptr h.next (0+3)) h6=some vb:=P.ld 1 rfl rfl;refine ed rfl (fD (ed rfl (fD (ed (fT _ _ _) (fD (ed l3 (fD (ed u6.b.len (fD (ed rfl (fD (ed rfl (yd ?_)))))))))))));refine Nz (F:=F6) (by omega) (λF' h'=>Sn F6 h6 F' h'/\ej F' h' (ev lc 89 [.I u.func,.I u.pc,vv,vb,vs,b',r,.ee]::ev h.next 30 (uC u vv vb vs)::cs)) ⟨Sn.refl _ _,P⟩ (λi hi F' h' hP n p=>?_) λF7 h7 hP=>?_
 ·obtain⟨s',l⟩:=hP;show cP CS nJ [.ptr lc 0,.I i] h' n;exact zco g (((N.since A B).since O P).since s' l) (gW hi) λe a c d=>p e a ⟨s'.trans c,d⟩
 obtain ⟨s7,H7⟩:=hP;have u7:=u6.since s7;refine ed rfl (iO (fU (by simp) ?_));refine HO rfl rfl ?_;unfold zN;have lA:gv 5 (.ptr lc 0) h7=some (.agg (uC u vv vb vs)):=by
  rw[DU (H7.get 0 rfl),Er (by simp)];rfl
 refine ed (fQ _ _) (ed (fT _ _ _) (ed lA ?_));refine Sr g H7 u7 λF8 h8 vo seen post s8 R G ro=>?_;have S:=u7.since s8;have lo:=ro.len;rw[List.length_reverse,Ru g G]at lo;refine ed lo (oF (R.ld 1 rfl rfl) (ed S.b.len (yg (gi rfl ?_))));refine ed (R.zb 1 rfl rfl) ?_;refine OA g R S λT h9 vd EA I U W G' s9 H9 rd d1 d2 d3 d4 d5=>?_;obtain⟨y,X,ab,q,w⟩:=H9.st 0 (o:=7) (u:=vd) rfl (by simp) rd.one;refine ed (fQ _ _) (ed (fT _ _ _) ?_);rw[show V.ptr lc (0+7)=V.ptr lc 7 from rfl,X,ei];simp only[mA,je]at q;have z:=(S.since s9).since w;refine oF (q.ld 1 rfl rfl) (ed z.b.len ?_);have m:=((((A.trans O).trans s7).trans s8).trans s9).trans w
 have Y:Cx T y (ev lc 89 [.I u.func,.I u.pc,vv,vb,vs,b',r,vd]::ev h.next 30 (uC u vv vb vs)::cs) lc u vv vb vs b' r vd xs ys EA I:=
  ⟨⟨q,⟨0,_,rfl⟩,z⟩,rb.since m,rp.since m,rd.since w,std,⟨d1,d2,d3,⟨G'.gr.place,λb hb h0=>d4.up b hb h0⟩,d5⟩⟩
 refine Nz (F:=T) (by omega) (λF' h'=>Sn T y F' h'/\ej F' h' (ev lc 89 [.I u.func,.I u.pc,vv,vb,vs,b',r,vd]::ev h.next 30 (uC u vv vb vs)::cs)) ⟨Sn.refl _ _,q⟩ (λi hi F' h' hP n p=>?_) λac ae hP=>?_
 ·obtain⟨s',l⟩:=hP;show cP CS mi [.ptr lc 0,.I i] h' n;exact ZJ g (Y.since s' l) (l.ok 0 _ rfl).2.1 (gW hi) λe a c d=>p e a ⟨s'.trans c,d⟩
 obtain⟨Z,aa⟩:=hP;exact H _ _ (((((s1.trans s2).trans E).trans s4).trans m).trans Z) aa.tail.tail
end
