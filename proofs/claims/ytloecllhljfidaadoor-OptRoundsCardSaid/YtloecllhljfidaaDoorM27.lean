/- Parts. -/
import Derived.Test.YtloecllhljfidaaDoorM26
set_option maxHeartbeats 4000000
namespace Go.Proofs.YtloecllhljfidaaDoor.Hx
open Un Dm
structure YD (G:Dm.Gr) (I:Nat->Nat) (S:Nat->Prop) (b:Nat):Prop where
 low:∀p,S p->G.ze p b->oA I (I b) p
 zcH:∀x,(∀p,S p->G.ze p b->oA I x p)->oA I x (I b)
theorem P1(I:Nat->Nat)(b:Nat):Dm.set I b (I b)=I:=by
 grind[Dm.set]
theorem Tk{S:Nat->Prop}{b:Nat}(h:S b):(λx=>S x\/x=b)=S:=by
 grind
theorem XZ{G:Dm.Gr}{I:Nat->Nat}{S:Nat->Prop}{k n:Nat}(q:Dm.Inv G I S k 1)(j:∀b,G.node b->S b)(f:∀b,G.node b->b≠0->YD G I S b)(a:∀b,G.node b->G.place b<n)(c:∀p,p<n->∃b,G.node b/\G.place b=p):Dm.Inv G I S (k+1) 1:=by
 have d:∀m,1+m<=n->Dm.Inv G I S k (1+m):=by
  intro m
  induction m with
  |zero=>simp_all
  | succ m l=>
    intro r;have o:=l (by omega);obtain⟨b,hb,g⟩:=c (1+m) (by omega);have h0:b≠0:=λe=>by subst e;rw[G.By]at g;omega
    have h:=(o.Ms hb h0 g (f b hb h0).low (f b hb h0).zcH).1;rw[P1,Tk (j b hb)]at h;exact h
 have s:1<=n:=by have:=a 0 G.first;omega
 have i:=d (n-1) (by omega);rw[show 1+(n-1)=n by omega]at i;exact i.pass a
theorem Qu{G:Dm.Gr}{I:Nat->Nat}{S:Nat->Prop}{k n:Nat}(d:Dm.Inv G I S k 1)(e:∀b,G.node b->S b)(f:∀b,G.node b->b≠0->YD G I S b)(a:∀b,G.node b->G.place b<n)(c:∀p,p<n->∃b,G.node b/\G.place b=p):∀m,Dm.Inv G I S (k+m) 1
 |0=>d
 |m+1=>XZ (Qu d e f a c m) e f a c
section
variable{u:U}{seen:List Bool}{post:List Nat}
theorem Q3(g:Good u)(G:CL u.blocks.length (next u) seen post []):∀b,b<u.blocks.length->b∈post:=by
 have c:∀b l,Pt (next u) b l->b∈post:=by
  intro b l a
  induction a with
  |nil=>obtain⟨p,a⟩:=G.last rfl;simp_all
  | step _ d e=>
    have:=(G.iff _).1 (G.closed _ e _ d)
    simp_all
 intro b hb;obtain⟨l,f⟩:=g.reach b hb
 grind
theorem PO(g:Good u)(G:CL u.blocks.length (next u) seen post []):post.length=u.blocks.length:=G.all (Q3 g G)
theorem Yu(G:CL u.blocks.length (next u) seen post []):post.reverse.Nodup:=by
 have:=G.nodup
 grind
theorem K4(G:CL u.blocks.length (next u) seen post []){i b:Nat}(h:post.reverse[i]? =some b):G.gr.place b=i:=by
 show post.reverse.idxOf b=i;obtain⟨hi,rfl⟩:=jk.1 h;have a:=Yu G
 grind
end
section
variable{F F':Nat->Prop}{h h':Hp}{cs:List Pc}{Q:fq}{u:U}{vv vb vs:V}
structure Ut (S:Nat->Prop) (I:Nat->Nat) (n:Nat) (Al:List Int):Prop where
 len:Al.length=n
 yes:∀b,S b->Al[b]? =some (I b:Int)
 no:∀b,b<n->¬S b->Al[b]? =some (-1)
theorem YN{G:Dm.Gr}{I:Nat->Nat}{S:Nat->Prop}{n l5 l6 t5 t6:Nat}{r vp:V}{Al:List Int}{pl:List Nat}(c:ej F h cs){i5 i6 ii ip:Nat}(s:cs[i5]? =some (er l5 t5 [r]))(t:cs[i6]? =some (er l6 t6 [vp]))(hi:cs[ii]? =some (ev eZ en Al r))(u:cs[ip]? =some (ev eN en pl vp))
  (f:Tree G I S) (v:Ut S I n Al) (i:∀b,G.node b->pl[b]? =some (G.place b)) {a b:Nat} (B:S a) (hb:S b)
  (H:∀d,S d->oA I d a->oA I d b->(∀x,oA I x a->oA I x b->oA I x d)->Q (.I (d:Nat)) h):cP CS ja [.I a,.I b,.ptr l6 0,.ptr l5 0] h Q:=by
 refine GD rfl rfl ?_;unfold yJ
 refine Cs (λk w y z A h'=>∃a' b':Nat,w = .I (a':Nat)/\y = .I (b':Nat)/\z = .ptr l6 0/\A = .ptr l5 0/\h' = h/\k=G.place a' + G.place b'/\S a'/\S b'/\oA I a' a/\oA I b' b/\(∀x,oA I x a->oA I x b->oA I x a'/\oA I x b')) ?_ (k:=G.place a+G.place b)
  ⟨a,b,rfl,rfl,rfl,rfl,rfl,rfl,B,hb,.refl _,.refl _,by simp_all⟩
 rintro k w y z A h' ⟨a',b',rfl,rfl,rfl,rfl,rfl,hk,sa,sb,j,l,hx⟩;unfold uJ;by_cases e:a' = b'
 ·subst e;refine zs (gI rfl ?_);exact H a' sa j l λx m o=>(hx x m o).1
 refine zs (gv (by omega) ?_);obtain⟨L,op,p1,C⟩:=c.Ia ip u (i a' (f.node _ sa)) .i64;obtain⟨M,oq,D,E⟩:=c.Ia ip u (i b' (f.node _ sb)) .i64;refine ed (c.ld i6 t rfl) (ed p1 (ed C (ed (c.ld i6 t rfl) (ed D (ed E ?_)))));by_cases Mw:G.place b' < G.place a'
 ·refine Co (gI (by omega) ?_);obtain⟨J,K,p,q⟩:=c.NJ ii hi (v.yes a' sa) .i64;refine ed (c.ld i5 s rfl) (ed p (ed q ?_));have h0:a'≠0:=λe=>by subst e;rw[G.By]at Mw;omega
  obtain⟨u1,u2⟩:=f.up a' sa h0;exact⟨_,by omega,I a',b',rfl,rfl,rfl,rfl,rfl,rfl,u1,sb,(oA.up h0 (.refl _)).trans j,l,λx m o=>⟨f.zal sa sb Mw (by simp_all) (by simp_all),by simp_all⟩⟩
 ·refine Co (gv (by omega) ?_);obtain⟨J,K,p,q⟩:=c.NJ ii hi (v.yes b' sb) .i64;refine ed (c.ld i5 s rfl) (ed p (ed q ?_));have g:G.place a' < G.place b':=by
   have:G.place a'≠G.place b':=λe'=>e (G.inj _ _ (f.node _ sa) (f.node _ sb) e');omega
  have h0:b'≠0:=λe=>by subst e;rw[G.By]at g;omega
  obtain⟨u1,u2⟩:=f.up b' sb h0;exact⟨_,by omega,a',I b',rfl,rfl,rfl,rfl,rfl,rfl,sa,u1,j,(oA.up h0 (.refl _)).trans l,λx m o=>⟨by simp_all,f.zal sb sa g (by simp_all) (by simp_all)⟩⟩
theorem Fi(g:Good u)(H0:ej F h cs)(hu:tL F h u vv vb vs)
  (H:∀F' h' v Al I seen post (G:CL u.blocks.length (next u) seen post []),Sn F h F' h'->ej F' h' cs->iG eZ F' h' Al v->Al.length=u.blocks.length->Al[0]? =some (-1)->(∀b,b≠0->b<u.blocks.length->Al[b]? =some (I b:Int))->Tree G.gr I (λb=>b<u.blocks.length)->
   (∀x b,b<u.blocks.length->(oA I x b↔kV (next u) x b))->Q v h'):cP CS nt [.agg (uC u vv vb vs)] h Q:=by
 refine IJ rfl rfl ?_;unfold AQ;have nb:=g.nb;have JN:=g.JN;refine jP H0 hu.one λr H1 s1=>?_;have lA:=H1.oL (n:=5) 0 rfl rfl;refine ed lA (ed lA ?_);refine Qi g H1 (hu.since s1) λF2 h2 vo seen post s2 H2 G r2=>⟨s2.next,H2.oL 0 rfl rfl,?_⟩
 refine Rb g H2 (hu.since (s1.trans s2)) λW M va s3 H3 r3=>⟨s3.next,?_⟩
 have u3:=hu.since ((s1.trans s2).trans s3);have r2:=r2.since s3;refine oF (H3.ld 0 rfl rfl) (ed u3.b.len ?_);rw[oC (z:=V.I 0) rfl (by decide) (by omega),gZ];obtain⟨H4,s4⟩:=H3.make (E:=eZ) (ty:=en) (y:=0) (u:=V.I 0) u.blocks.length rfl rfl;have n4:(M.new (.cells en 1 true false (List.replicate u.blocks.length (V.I 0)))).next=M.next+1:=rfl;have g4:(M.new (.cells en 1 true false (List.replicate u.blocks.length (V.I 0)))).get M.next=some (.cells 3 1 true false (List.replicate u.blocks.length (V.I 0))):=fi _ _;show oP (fQ 3 (.ptr h.next 0)) _;generalize bt:M.new (.cells en 1 true false (List.replicate u.blocks.length (V.I 0)))=N at*;refine oF (H4.ld 1 rfl rfl) (ed (u3.since s4).b.len ?_);rw[oC (z:=V.I 0) rfl (by decide) (by omega),gZ];obtain⟨H5,s5⟩:=H4.make (E:=eN) (ty:=en) (y:=0) (u:=V.I 0) u.blocks.length rfl rfl;have n5:(N.new (.cells en 1 true false (List.replicate u.blocks.length (V.I 0)))).next=N.next+1:=rfl;have g5:(N.new (.cells en 1 true false (List.replicate u.blocks.length (V.I 0)))).get N.next=some (.cells 3 1 true false (List.replicate u.blocks.length (V.I 0))):=fi _ _;have aJ:=(fh (h:=N) (.cells en 1 true false (List.replicate u.blocks.length (V.I 0))) (l:=M.next) (by omega)).trans g4;generalize bu:N.new (.cells en 1 true false (List.replicate u.blocks.length (V.I 0)))=h5 at*;rw[gZ];obtain⟨H6,s6⟩:=H5.yO iP [V.ee];have n6:(h5.new (.cells iP 1 true false [V.ee])).next=h5.next+1:=rfl;have g6:(h5.new (.cells iP 1 true false [V.ee])).get h5.next=some (.cells 22 1 true false [V.ee]):=fi _ _;have aK:=(fh (h:=h5) (.cells iP 1 true false [V.ee]) (l:=N.next) (by omega)).trans g5;have aL:=(fh (h:=h5) (.cells iP 1 true false [V.ee]) (l:=M.next) (by omega)).trans aJ;show wP _ (h5.new (.cells iP 1 true false [V.ee])) _;generalize bv:h5.new (.cells iP 1 true false [V.ee])=Y at*;rw[gZ];obtain⟨H7,s7⟩:=H6.yO iP [V.ee];have n7:(Y.new (.cells iP 1 true false [V.ee])).next=Y.next+1:=rfl;have g7:(Y.new (.cells iP 1 true false [V.ee])).get Y.next=some (.cells 22 1 true false [V.ee]):=fi _ _;have aM:=(fh (h:=Y) (.cells iP 1 true false [V.ee]) (l:=h5.next) (by omega)).trans g6;have ar:=(fh (h:=Y) (.cells iP 1 true false [V.ee]) (l:=N.next) (by omega)).trans aK;have aN:=(fh (h:=Y) (.cells iP 1 true false [V.ee]) (l:=M.next) (by omega)).trans aL;show(((Y.new (.cells iP 1 true false [V.ee])).get Y.next=_/\_)/\_);generalize bw:Y.new (.cells iP 1 true false [V.ee])=h7 at*;refine⟨⟨g7,O.lC _ _ _ _ _⟩,⟨aM,O.lC _ _ _ _ _⟩,⟨ar,O.lC _ _ _ _ _⟩,H7.ld 4 rfl rfl,⟨aN,O.lC _ _ _ _ _⟩,H7.ld 4 rfl rfl,?_⟩;obtain⟨h8,e8,n8,H8,s8,k8⟩:=H7.stk 1 (o:=0) (u:= .slice M.next 0 u.blocks.length) rfl (by simp) rfl;rw[e8,ei];refine⟨n8,⟨(k8 _ (by omega)).trans ar,O.lC _ _ _ _ _⟩,(by simp only[lU,jx]at H8;exact H8.ld 4 rfl rfl),?_⟩;simp only[lU,jx]at H8;obtain⟨h9,e9,n9,H9,s9⟩:=H8.st 0 (o:=0) (u:= .slice N.next 0 u.blocks.length) rfl (by simp) rfl;rw[e9,ei];refine⟨n9,?_⟩;simp only[jx]at H9;have au:=((((s4.trans s5).trans s6).trans s7).trans s8).trans s9;have bx:=((s1.trans s2).trans s3).trans au;have r2:=r2.since au;have r3:=r3.since au;clear g4 g5 g6 g7 aJ aL aN aK ar aM k8 e8 e9 bt bu bv bw H1 H2 H3 H4 H5 H6 H7 H8 s1 s2 s3 s4 s5 s6 s7 s8 s9 lA u3;generalize V.slice M.next 0 u.blocks.length=vi at*;generalize V.slice N.next 0 u.blocks.length=vp at*;generalize Y.next=l6 at*;generalize h5.next=l5 at*;generalize h.next=lb at*;have aO:=H9.len 3 (xs:=List.replicate u.blocks.length (0:Int)) rfl;rw[wBY]at aO;refine ed (H9.ld 1 rfl rfl) (ed aO ?_);have bz:=PO g G;have Z:post.reverse.length=u.blocks.length:=by simpa using bz
 refine EP (λk w A R x6 aP aQ h'=>∃(i:Nat) (xs:List Int),w=vo/\A=va/\R = .ptr l5 0/\x6 = .ptr l6 0/\aP = .I u.blocks.length/\aQ = .I i/\i+k=u.blocks.length/\xs.length=u.blocks.length/\(∀j,j<i->xs[j]? =some (-1))/\
  Sn W h9 W h'/\ej W h' (er l6 iP [vp]::er l5 iP [vi]::ev eN en (List.replicate u.blocks.length 0) vp::ev eZ en xs vi::er lb 29 (uC u vv vb vs)::cs)) ?_ (k:=u.blocks.length)
  ⟨0,_,rfl,rfl,rfl,rfl,rfl,rfl,by omega,by simp,λj hj=>by omega,Sn.refl _ _,H9⟩
 rintro k w A R x6 aP aQ ca ⟨i,xs,e3,e4,rfl,rfl,rfl,rfl,hk,aR,hm,aS,aT⟩;subst w A;unfold xj;by_cases hi:i<u.blocks.length
 ·refine gR ?_;obtain⟨l11,cb,cd,bA,bC,ce,aU,bD⟩:=aT.Ma 3 rfl (k:=i) (y:=(-1:Int)) (u:=V.I (-1)) (by omega) rfl rfl rfl;refine ed (aT.ld 1 rfl rfl) (ed bA ?_);rw[bC,ei];simp only[lU,jx]at aU;refine fS ⟨k-1,by omega,i+1,xs.set i (-1),rfl,rfl,rfl,rfl,rfl,rfl,by omega,by simp[aR],λj hj=>?_,aS.trans bD,aU⟩
  grind
 refine jf ?_;obtain rfl:i=u.blocks.length:=by omega
 have lo:=(r2.since aS).len;rw[Z]at lo;refine ed lo ?_
 refine EV (λk w A R x6 aw aV aW h'=>∃(i:Nat) (pl:List Nat),w=vo/\A=va/\R = .ptr l5 0/\x6 = .ptr l6 0/\aw=vo/\aV = .I u.blocks.length/\aW = .I i/\i+k=u.blocks.length/\pl.length=u.blocks.length/\(∀j b,j<i->post.reverse[j]? =some b->pl[b]? =some j)/\
  Sn W h9 W h'/\ej W h' (er l6 iP [vp]::er l5 iP [vi]::ev eN en pl vp::ev eZ en xs vi::er lb 29 (uC u vv vb vs)::cs)) ?_ (k:=u.blocks.length)
  (by grind)
 rintro k1 w A R x6 aw aV aW cf ⟨i,pl,e3,e4,rfl,rfl,cg,rfl,rfl,ci,aX,bE,aj,ak⟩;subst w A aw;unfold xI;by_cases hi:i<u.blocks.length
 ·refine gR ?_;obtain⟨b,hb⟩:∃b,post.reverse[i]? =some b:=⟨_,g0 (by omega)⟩
  have al:b<u.blocks.length:=G.pre b (Xq.1 (yC hb));obtain⟨l13,cj,_,j1,j2⟩:=(r2.since aj).nat hb .i64;obtain⟨l14,cm,cn,bG,ax,co,aY,bH⟩:=ak.Ma 2 rfl (k:=b) (y:=i) (u:=V.I i) (by omega) rfl rfl rfl;refine ed j1 (ed j2 (ed (ak.ld 0 rfl rfl) (ed bG ?_)));rw[ax,ei];simp only[lU,jx]at aY;refine fS ⟨k1-1,by omega,i+1,pl.set b i,rfl,rfl,rfl,rfl,rfl,rfl,rfl,by omega,by simp[aX],λj c hj hc=>?_,aj.trans bH,aY⟩;by_cases e:c=b
  ·subst e;have r:=K4 G hb;have h2:=K4 G hc;obtain rfl:i=j:=by omega
   rw[Mt (by omega)]
  grind
 refine jf ?_;obtain rfl:i=u.blocks.length:=by omega
 have am:∀b,G.gr.node b->pl[b]? =some (G.gr.place b):=λb hb=>by
  have r:=Sg post.reverse b (Xq.2 hb);exact bE (post.reverse.idxOf b) b (by have:=(jk.1 r).1;omega) r
 have lo:=(r2.since aj).len;rw[Z]at lo;refine ed lo (gM (gv (by omega) ?_));obtain⟨cp,cq,cr,ax,bI,ct,aZ,bJ⟩:=ak.Ma 3 rfl (k:=0) (y:=(0:Int)) (u:=V.I 0) (by omega) rfl rfl rfl;refine ed (ak.ld 1 rfl rfl) (ed ax ?_);rw[bI,ei];simp only[lU,jx]at aZ;have bK:Ut (λx=>x=0) (λ_=>0) u.blocks.length (xs.set 0 0):=⟨by simp[aR],λb hb=>by rw[hb,Mt (by omega)];rfl,by grind⟩
 have f:∀b,G.gr.node b↔b<u.blocks.length:=λb=>⟨λhb=>G.pre b hb,λhb=>Q3 g G b hb⟩
 have ao:∀b,G.gr.node b->G.gr.place b<u.blocks.length:=λb hb=>by
  have r:=Sg post.reverse b (Xq.2 hb);have:=(jk.1 r).1;show post.reverse.idxOf b<_;omega
 have a5:∀p,p<u.blocks.length->∃b,G.gr.node b/\G.gr.place b=p:=by grind
 refine EO (λk w A R C D h'=>∃(c:Bool) (kk:Nat) (I:Nat->Nat) (S:Nat->Prop) (Al:List Int),w=vo/\A=va/\R = .ptr l5 0/\C = .func ja [] [.ptr l6 0,.ptr l5 0]/\D = .bool c/\k+kk=u.blocks.length+2/\(c=true->kk<=u.blocks.length+1)/\
  (c=false->(∀b,G.gr.node b->S b)/\∀b,G.gr.node b->b≠0->YD G.gr I S b)/\Dm.Inv G.gr I S kk 1/\Ut S I u.blocks.length Al/\
  Sn W h9 W h'/\ej W h' (er l6 iP [vp]::er l5 iP [vi]::ev eN en pl vp::ev eZ en Al vi::er lb 29 (uC u vv vb vs)::cs)) ?_ (k:=u.blocks.length+1)
  ⟨true,1,λ_=>0,λx=>x=0,_,rfl,rfl,rfl,rfl,rfl,by omega,λ_=>by omega,λh=>(by cases h),Dm.Inv.start,bK,aj.trans bJ,aZ⟩
 rintro k2 w A R C D cu ⟨c,kk,I,S,Al,e3,e4,rfl,rfl,rfl,cv,bL,bQ,hI,hR,an,ay⟩;subst w A;unfold xu
 cases c with
 | false=>
   refine jF (gv (by simp) ?_);obtain⟨hS,hF⟩:=bQ rfl;have a6:=Qu hI hS hF ao a5 (u.blocks.length+1);obtain⟨cw,cx,aA,bR,bS,cy,q,J⟩:=ay.Ma 3 rfl (k:=0) (y:=(-1:Int)) (u:=V.I (-1)) (by rw[hR.len];omega) rfl rfl rfl;refine ed (ay.ld 1 rfl rfl) (ed bR ?_);rw[bS,ei];simp only[lU,jx]at q;refine ed (q.ld 1 rfl rfl) ?_;obtain⟨a7,bU,bV⟩:=q.lH 3 rfl;simp only[lU,jx]at a7;refine H _ _ vi (Al.set 0 (-1)) I seen post G (((bx.trans an).trans J).trans bU) a7.tail.tail.tail.tail.tail bV (by simp[hR.len]) (by rw[Mt (by rw[hR.len];omega)]) (λb h0 hb=>?_) ⟨by omega,λb hb=>(f b).2 hb,λb hb h0=>?_⟩ λx b hb=>?_
   ·rw[IB λh=>h0 h.symm]
    exact hR.yes b (hS b ((f b).2 hb))
   ·obtain⟨r,h2⟩:=hI.tree.up b (hS b ((f b).2 hb)) h0
    exact⟨(f _).1 (hI.tree.node _ r),h2⟩
   ·rw[a6.exact (λb hb=>(f b).1 hb) (by omega) (hS b ((f b).2 hb))]
    exact(Xy λa b=>Iff.rfl).symm
 | true =>
   refine jF (gI rfl ?_);have cz:=bL rfl;obtain⟨aB,bW,aC⟩:=(r2.since an).cut (lo:=some (V.I ((1:Nat):Int))) (hi:=none) (m:=1) (n:=post.reverse.length) (ML _ _ _) (I6 _) (by omega) (jb _);rw[Hj]at aC;refine ed bW (ed aC.len ?_);have a8:(post.reverse.drop 1).length=u.blocks.length-1:=by rw[wB3,Z]
   rw[a8]
   refine EN (λk w A R C D K aa ab h'=>∃(i:Nat) (c:Bool) (I:Nat->Nat) (S:Nat->Prop) (Al:List Int),w=vo/\A=va/\R = .ptr l5 0/\C = .func ja [] [.ptr l6 0,.ptr l5 0]/\D = .bool c/\K=aB/\aa = .I ((u.blocks.length-1:Nat):Int)/\ab = .I (i:Nat)/\i+k=u.blocks.length-1/\
     (c=true->kk<=u.blocks.length)/\(c=false->∀b,G.gr.node b->G.gr.place b<i+1->S b/\(b≠0->YD G.gr I S b))/\Dm.Inv G.gr I S kk (i+1)/\Ut S I u.blocks.length Al/\
     Sn W h9 W h'/\ej W h' (er l6 iP [vp]::er l5 iP [vi]::ev eN en pl vp::ev eZ en Al vi::er lb 29 (uC u vv vb vs)::cs)) ?_ (k:=u.blocks.length-1)
     ⟨0,false,I,S,Al,rfl,rfl,rfl,rfl,rfl,rfl,rfl,rfl,by omega,λh=>(by cases h),λ_ b hb bX=>by
       obtain rfl:b=0:=G.gr.inj b 0 hb G.gr.first (by have:=G.gr.By;omega);exact⟨hI.tree.zero,λh=>absurd rfl h⟩,hI,hR,an,ay⟩
   rintro k3 w A R C D K aa ab aA ⟨i,c,T,S1,U,e3,e4,rfl,rfl,rfl,a9,rfl,rfl,cA,ba,bY,ac,s,J,q⟩;subst w A K;unfold xl;by_cases hi:i<u.blocks.length-1;rotate_left
   ·refine jf ?_
    obtain rfl:i=u.blocks.length-1:=by omega
    have hp:=ac.pass λb hb=>by have:=ao b hb;omega
    refine⟨k2-1,by omega,c,kk+1,T,S1,U,rfl,rfl,rfl,rfl,rfl,by omega,λh=>by have:=ba h;omega,λh=>?_,hp,s,J,q⟩
    simp_all
   refine gR ?_;obtain⟨b,hb⟩:∃b,post.reverse[i+1]? =some b:=⟨_,g0 (by omega)⟩
   have ae:G.gr.node b:=Xq.1 (yC hb);have al:=(f b).1 ae;have aD:G.gr.place b=i+1:=K4 G hb;have aE:b≠0:=λe=>by subst e;rw[G.gr.By]at aD;omega
   have bb:iG eN W aA (post.reverse.drop 1) aB:=aC.fe λl hl=>(J.fe l hl).trans (an.fe l hl).symm;obtain⟨l18,cB,_,j1,j2⟩:=bb.nat (i:=i) (x:=b) (by rw[wBr,Nat.add_comm];exact hb) .i64;obtain⟨cC,cD,bZ,_,m1,m2,m3⟩:=(r3.since J).list (i:=b) (x:=Un.ahead u b) (by simp[al]) .i64;refine ed j1 (ed j2 (ed m1 (ed m2 (ed m3.len ?_))));have ag:∀p,G.gr.ze p b↔p∈Un.ahead u b:=λp=>sY.symm;have cE:(Un.ahead u b).length<=700:=by
     rw[<-pG];have:=pU g (i:=u.blocks.length) (j:=0) (b:=b) (jb _) (by omega);omega
   refine EY (λk w A R C D bc bd K aa ab aF be bf h'=>∃(j:Nat) (dd:Int),w=vo/\A=va/\R = .ptr l5 0/\C = .func ja [] [.ptr l6 0,.ptr l5 0]/\D = .bool c/\bc = .I (b:Nat)/\bd = .I dd/\K=aB/\aa = .I ((u.blocks.length-1:Nat):Int)/\ab = .I (i:Nat)/\
     aF=bZ/\be = .I ((Un.ahead u b).length:Nat)/\bf = .I (j:Nat)/\j+k=(Un.ahead u b).length/\h' = aA/\
     ((dd = -1/\∀p∈(Un.ahead u b).take j,¬S1 p)\/∃d:Nat,dd=(d:Int)/\S1 d/\(∀p∈(Un.ahead u b).take j,S1 p->oA T d p)/\∀x,(∀p∈(Un.ahead u b).take j,S1 p->oA T x p)->oA T x d)) ?_ (k:=(Un.ahead u b).length)
     ⟨0,-1,rfl,rfl,rfl,rfl,rfl,rfl,rfl,rfl,rfl,rfl,rfl,rfl,rfl,by omega,rfl,.inl ⟨rfl,λp hp=>by simp at hp⟩⟩
   rintro k4 w A R C D bc bd K aa ab aF be bf b4 ⟨j,dd,e3,e4,rfl,rfl,rfl,rfl,rfl,a9,rfl,rfl,cF,rfl,rfl,cG,rfl,X⟩;subst w A K aF;unfold xC;by_cases hj:j<(Un.ahead u b).length
   ·refine gR ?_
    obtain⟨a,ha⟩:∃a,(Un.ahead u b)[j]? =some a:=⟨_,g0 hj⟩
    have bg:a<u.blocks.length:=by
      have:=sY.1 (yC ha);exact(g.W6 this).1
    have b5:(Un.ahead u b).take (j+1)=(Un.ahead u b).take j++[a]:=by
      obtain⟨r,rfl⟩:=jk.1 ha;exact Qs r
    obtain⟨cH,cI,_,q1,q2⟩:=m3.nat ha .i64;refine ed q1 (ed q2 (ed (q.ld 1 rfl rfl) ?_));have t:∀p,p∈(Un.ahead u b).take (j+1)↔p∈(Un.ahead u b).take j\/p=a:=λp=>by rw[b5];simp
    by_cases hS:S1 a;rotate_left
    ·obtain⟨aG,aH,t1,t2⟩:=q.NJ 3 rfl (s.no a bg hS) .i64
     refine ed t1 (ed t2 (gR ?_));refine p7 ?_;unfold mH;refine jZ (m:=1) (by omega) (by omega) ⟨k4-1,by omega,j+1,dd,rfl,rfl,rfl,rfl,rfl,rfl,rfl,rfl,rfl,rfl,rfl,rfl,rfl,by omega,rfl,?_⟩;have cJ:∀{P:Nat->Prop},(∀p∈(Un.ahead u b).take (j+1),S1 p->P p)↔(∀p∈(Un.ahead u b).take j,S1 p->P p):=λ{P}=>⟨λh p hp=>h p ((t p).2 (.inl hp)),by grind⟩
     simp_all
    obtain⟨aG,aH,t1,t2⟩:=q.NJ 3 rfl (s.yes a hS) .i64;refine ed t1 (ed t2 (jf ?_));rcases X with⟨rfl,r⟩|⟨d,rfl,r,h2,M⟩
    ·refine gR ?_
     refine p7 ?_;unfold mH;refine jZ (m:=1) (by omega) (by omega) ⟨k4-1,by omega,j+1,(a:Int),rfl,rfl,rfl,rfl,rfl,rfl,rfl,rfl,rfl,rfl,rfl,rfl,rfl,by omega,rfl,?_⟩;refine .inr ⟨a,rfl,hS,λp hp hs=>?_,λx hx=>hx a ((t a).2 (.inr rfl)) hS⟩;rcases(t p).1 hp with N|rfl
     ·exact absurd hs (r p N)
     ·exact .refl _
    ·refine jf ?_
     show cP CS ja [.I (d:Nat),.I (a:Nat),.ptr l6 0,.ptr l5 0] b4 _;refine YN q (i5:=1) (i6:=0) (ii:=3) (ip:=2) rfl rfl rfl rfl ac.tree s am r hS λd' g1 g2 g3 g4=>?_;refine p7 ?_;unfold mH;refine jZ (m:=1) (by omega) (by omega) ⟨k4-1,by omega,j+1,(d':Int),rfl,rfl,rfl,rfl,rfl,rfl,rfl,rfl,rfl,rfl,rfl,rfl,rfl,by omega,rfl,?_⟩;refine .inr ⟨d',rfl,g1,λp hp hs=>?_,λx hx=>g4 x (M x λp hp hs=>hx p ((t p).2 (.inl hp)) hs) (hx a ((t a).2 (.inr rfl)) hS)⟩;rcases(t p).1 hp with N|rfl
     ·exact g2.trans (h2 p N hs)
     ·exact g3
   refine jf ?_;rw[wBA (by omega)]at X;obtain⟨p0,bh,bi,b9⟩:=G.gr.early b ae aE;have bj:S1 p0:=ac.done p0 bh (by omega);obtain⟨d,rfl,cK,aI,bm⟩:∃d:Nat,dd=(d:Int)/\S1 d/\(∀p∈Un.ahead u b,S1 p->oA T d p)/\∀x,(∀p∈Un.ahead u b,S1 p->oA T x p)->oA T x d:=by
     rcases X with⟨_,r⟩|r
     ·exact absurd bj (r p0 ((ag p0).1 bi))
     ·exact r
   have ah:∀p,S1 p->G.gr.ze p b->oA T d p:=λp hs he=>aI p ((ag p).1 he) hs;have B:∀x,(∀p,S1 p->G.gr.ze p b->oA T x p)->oA T x d:=by simp_all
   have bn:i<1000000000:=by clear X;omega
   have ap:k3-1<k3:=by clear X;omega
   have aq:i+1+(k3-1)=u.blocks.length-1:=by clear X;omega
   have ai:=(ac.Ms ae aE aD ah B).1;refine ed (q.ld 1 rfl rfl) ?_;by_cases hsame:S1 b/\T b=d
   ·obtain ⟨L,rfl⟩:=hsame
    obtain⟨aG,aH,t1,t2⟩:=q.NJ 3 rfl (s.yes b L) .i64;refine ed t1 (ed t2 (zs (gI rfl ?_)));refine vZ ?_;unfold pM;rw[P1,Tk L]at ai;refine jZ (m:=1) bn (by decide) ⟨k3-1,ap,i+1,c,T,S1,U,rfl,rfl,rfl,rfl,rfl,rfl,rfl,rfl,aq,ba,λhc b' bo bX=>?_,ai,s,J,q⟩;rcases Re (G.gr.place b') (i+1)with r|r
    ·exact bY hc b' bo r
    ·obtain rfl:b' = b:=G.gr.inj _ _ bo ae (by omega)
     exact⟨L,λ_=>⟨ah,B⟩⟩
   ·obtain ⟨y,hy,bp⟩:∃y:Int,U[b]? =some y/\y≠(d:Int):=by
      by_cases L:S1 b
      ·refine⟨(T b:Int),s.yes b L,λe=>hsame ⟨L,?_⟩⟩
       exact Int.ofNat.inj e
      ·refine⟨-1,s.no b al L,?_⟩
       omega
    obtain⟨aG,aH,t1,t2⟩:=q.NJ 3 rfl hy .i64;refine ed t1 (ed t2 (zs (gv bp ?_)));obtain⟨cL,cM,cN,b6,b7,cO,br,b8⟩:=q.Ma 3 rfl (k:=b) (y:=(d:Int)) (u:=V.I (d:Nat)) (by rw[s.len];exact al) rfl rfl rfl;refine ed (q.ld 1 rfl rfl) (ed b6 ?_);rw[b7,ei];simp only[lU,jx]at br;refine vZ ?_;unfold pM;refine jZ (m:=1) bn (by decide) ⟨k3-1,ap,i+1,true,Dm.set T b d,λx=>S1 x\/x=b,U.set b (d:Int),rfl,rfl,rfl,rfl,rfl,rfl,rfl,rfl,aq,λ_=>?_,λh=>(by cases h),ai,⟨by simp[s.len],λx hx=>?_,λx hx hn=>?_⟩,J.trans b8,br⟩
    ·rcases Re u.blocks.length kk with r|r
     ·exfalso
      obtain⟨h2,M⟩:=ac.stay (n:=u.blocks.length) (λb hb=>(f b).1 hb) r ae aE aD ah B;exact hsame ⟨h2,M.symm⟩
     ·exact r
    ·unfold Dm.set
     by_cases e:x=b
     ·grind
     ·rw[IB λh=>e h.symm,if_neg e]
      exact s.yes x (hx.resolve_right e)
    ·have e:x≠b:=λe=>hn (.inr e)
     rw[IB λh=>e h.symm];exact s.no x hx λh=>hn (.inl h)
end
open Un Dm
structure zdk (u:U) (Al:List Int) (I:Nat->Nat):Prop where
 len:Al.length=u.blocks.length
 zero:Al[0]? =some (-1)
 at_:∀b,b≠0->b<u.blocks.length->Al[b]? =some (I b:Int)
 zcW:∃r:Nat->Nat,∀b,b<u.blocks.length->b≠0->I b<u.blocks.length/\r (I b)<r b
 iff:∀x b,b<u.blocks.length->(oA I x b↔kV (next u) x b)
section
variable{F F':Nat->Prop}{h h':Hp}{cs:List Pc}{Q:fq}{u:U}{vv vb vs:V}{lc:Nat}{bl pl CZ:V}{xs ys Al:List Int}{I:Nat->Nat}
structure Cx (F:Nat->Prop) (h:Hp) (cs:List Pc) (lc:Nat) (u:U) (vv vb vs bl pl CZ:V) (xs ys Al:List Int) (I:Nat->Nat):Prop where
 ck:Ck F h cs lc u vv vb vs bl pl CZ
 rbl:iG eZ F h xs bl
 rpl:iG eZ F h ys pl
 rim:iG eZ F h Al CZ
 std:Std u u.blocks.length 0 xs ys
 TD:zdk u Al I
theorem Cx.since(C:Cx F h cs lc u vv vb vs bl pl CZ xs ys Al I)(s:Sn F h F' h')(a:ej F' h' cs):Cx F' h' cs lc u vv vb vs bl pl CZ xs ys Al I:=⟨C.ck.since s a,C.rbl.since s,C.rpl.since s,C.rim.since s,C.std,C.TD⟩
theorem Cx.cons(C:Cx F h cs lc u vv vb vs bl pl CZ xs ys Al I)(s:Sn F h F' h'){p:Pc}(a:ej F' h' (p::cs)):Cx F' h' (p::cs) lc u vv vb vs bl pl CZ xs ys Al I:=⟨C.ck.cons s a,C.rbl.since s,C.rpl.since s,C.rim.since s,C.std,C.TD⟩
theorem OY(C:Cx F h cs lc u vv vb vs bl pl CZ xs ys Al I){a b:Nat}(hb:b<u.blocks.length)(p:oA I a b)(H:Q (.bool true) h):cP CS lD [.ptr lc 0,.I a,.I b] h Q:=by
 refine Am rfl rfl ?_;unfold rV;obtain⟨r,j⟩:=C.TD.zcW;refine yo (λk f g i h'=>∃b':Nat,f = .ptr lc 0/\g = .I a/\i = .I (b':Nat)/\k=r b'/\b' < u.blocks.length/\oA I a b'/\h' = h) ?_ (k:=r b) (by grind);rintro k f g i h' ⟨b',rfl,rfl,rfl,hk,c,d,rfl⟩;unfold pB;refine WH (gI (by omega) ?_);by_cases e:a=b'
 ·exact gM (gI (by omega) H)
 refine gM (gv (by omega) ?_)
 cases d with
 |refl=>omega
 | up h0 q=>
   obtain⟨l,o,_,m,n⟩:=C.rim.int (C.TD.at_ b' h0 c) .i64;obtain⟨r1,r2⟩:=j b' c h0;exact ed (fI _ _) (ed (by rfl) (ed (C.ck.ld 7 rfl) (ed m (ed n (by grind)))))
theorem GV(C:Cx F h cs lc u vv vb vs bl pl CZ xs ys Al I){l:List Nat}{v:V}{b p:Nat}(A:iG eN F h l v)(U:l.length<1000000)(hb:b<u.blocks.length)(hs:∀w∈l,∃c j,At u w c j/\(c=b->j<p)/\kV (next u) c b)(H:Q (.bool true) h) :
  cP CS iZ [.ptr lc 0,v,.I b,.I p] h Q:=by
 refine Gm rfl rfl ?_;unfold yU;refine ed A.len ?_;refine Cu (λk D E G a d f h'=>∃i:Nat,D = .ptr lc 0/\E = .I b/\G = .I p/\a=v/\d = .I l.length/\f = .I (i:Nat)/\i+k=l.length/\h' = h) ?_ (k:=l.length) (by simp_all);rintro k D E G a d f h' ⟨i,rfl,rfl,rfl,rfl,rfl,rfl,hk,rfl⟩;unfold vx;by_cases hi:i<l.length;rotate_left
 ·exact jf H
 refine gR ?_;obtain⟨c,j,g,L,m⟩:=hs _ (EA hi);have n:c<u.blocks.length:=by
  obtain⟨B,W,_⟩:=g;exact by grind
 obtain ⟨M,N⟩:=C.std.yes _ c j g (.inl n);obtain⟨l1,X,_,O,P⟩:=A.nat (g0 hi) .i64;obtain⟨l2,Y,_,J,K⟩:=C.rbl.int M .i64;obtain⟨l3,Z,_,R,S⟩:=C.rpl.int N .i64;refine ed O (ed P (ed (fI _ _) (ed (by rfl) (ed (C.ck.ld 5 rfl) (ed J (ed K (ed (by rfl) ?_)))))));have e:mn (.bool (((c:Int)) == (b:Int))) (oB (some (V.ptr lc 0)) λo=>oB (gU o) λq=>oB (fQ 6 q) λr=>oB (eQ r h') λs=>oB (some (V.I (l[i]:Nat))) λt=>oB (hV 1 s t) λx=>oB (eQ x h') λy=>oB (some (V.I p)) λz=>eJ .geq 3 y z)=some (.bool false):=by
  have l6:eQ (.ptr lc (0+6)) h' = some pl:=C.ck.ld 6 rfl;simp only[fy,fI,fR,l6,R,S,pq,jD];congr 2;rw[wB0];intro T;simp only[uF,EE,D1]at T;have:=by omega
  omega
 refine ed e ?_;refine hZ (ed rfl (hZ (ed rfl (hZ (ed (fI _ _) (hZ (ed (by rfl) (hZ (ed (C.ck.ld 5 rfl) (hZ (ed rfl (hZ (ed J (hZ (ed K (hZ (ed rfl (vw ?_))))))))))))))))));refine OY C hb ((C.TD.iff c b hb).2 m) (ed rfl (jF (gv (by simp) ?_)));exact fS ⟨k-1,by omega,i+1,rfl,rfl,rfl,rfl,rfl,rfl,by omega,rfl⟩
theorem HC(C:Cx F h cs lc u vv vb vs bl pl CZ xs ys Al I){s b p:Nat}{fs:List Fm}(n:u.eh[s]? =some fs)(z:fs.length<=30/\∀f∈fs,f.locals.length<=40/\f.stack.length<=60)(hb:b<u.blocks.length)
  (hs:∀w∈ic fs,∃c j,At u w c j/\(c=b->j<p)/\kV (next u) c b) (H:∀h',Sn F h F h'->ej F h' cs->Q (.bool true) h') :
  cP CS iS [.ptr lc 0,.I s,.I b,.I p] h Q:=by
 refine AN rfl rfl ?_;unfold tk;obtain⟨l1,K,f,_,A,_,B,o⟩:=C.ck.u.st n;refine ed (fI _ _) (ed (by rfl) (ed (by rfl) (ed (C.ck.ld 4 rfl) (ed A (ed (by rfl) (ed B (ed o.len ?_)))))))
 refine yR (λk q r t d e g h'=>∃j:Nat,q = .ptr lc 0/\r = .I b/\t = .I p/\d=f/\e = .I fs.length/\g = .I (j:Nat)/\j+k=fs.length/\Sn F h F h'/\ej F h' cs) ?_ (k:=fs.length)
  ⟨0,rfl,rfl,rfl,rfl,rfl,rfl,by omega,Sn.refl _ _,C.ck.H⟩
 rintro k q r t d e g D ⟨j,rfl,rfl,rfl,rfl,rfl,rfl,hk,i,v⟩;unfold pO;by_cases hj:j<fs.length;rotate_left
 ·exact jf (H D i v)
 refine gR ?_;obtain⟨l3,L,a,c,_,E,G,x,y⟩:=(o.since i).wB (g0 hj);obtain⟨M,N⟩:=z.2 _ (EA hj);have J:∀w,w∈fs[j].locals\/w∈fs[j].stack->w∈ic fs:=by grind[ic,EA]
 refine ed E (ed G ?_);refine gQ v rfl rfl (by simp only[Ji,eo,x.one,y.one];rfl) λO l m=>?_;have C2:=C.since (i.trans m) l.tail;refine ed (by rfl) (ed (l.ld 0 rfl rfl) ?_);refine GV C2 (x.since m) (by omega) hb (by simp_all) (ed rfl ?_);refine hZ (ed rfl (hZ (ed (by rfl) (hZ (ed (l.ld 0 rfl rfl) (hZ (ed rfl (hZ (ed rfl (vw ?_))))))))));refine GV C2 (y.since m) (by omega) hb (by simp_all) (ed rfl (jF (gv (by simp) ?_)));exact fS ⟨k-1,by omega,j+1,rfl,rfl,rfl,rfl,rfl,rfl,by omega,i.trans m,l.tail⟩
theorem Uc{w b k:Nat}(h:zh u w b k):∃c j,At u w c j/\(c=b->j<k)/\kV (next u) c b:=by
 obtain⟨c,j,d,a⟩:=h;rcases a with⟨rfl,a⟩|⟨a,e⟩
 ·grind[kV.self]
 grind
theorem FX{w b:Nat}{B:Bk}(f:u.blocks[b]? =some B)(h:rC u w b):∃c j,At u w c j/\(c=b->j<B.ef.length)/\kV (next u) c b:=by
 obtain⟨c,j,a,d⟩:=h;refine⟨c,j,a,λe=>?_,d⟩;subst e;obtain⟨g,i,k⟩:=a
 grind
theorem Wh{a:Nat}{x:Vl}{w:V}{a0:V}{i k:Nat}(b:a0 = .ptr lc 0)(C:Cx F h (er a gi (lW x w)::cs) lc u vv vb vs bl pl CZ xs ys Al I)(hc:a≠lc)(D:eQ (.ptr a 5) h=some (.I x.state))(hb:i<u.blocks.length)
  (E:leaves x.op=true->∃fs,u.eh[x.state]? =some fs/\(fs.length<=30/\∀f∈fs,f.locals.length<=40/\f.stack.length<=60)/\∀w∈ic fs,∃c j,At u w c j/\(c=i->j<k)/\kV (next u) c i) {K:fq}
  (B:∀h',Sn F h F h'->ej F h' (er a gi (lW x w)::cs)->K (.bool false) h') :
  oP (gq true (.bool (leaves x.op))) λd=>
  oP (gV d (some a0)) λe=>
  oP (gq true (.bool (leaves x.op))) λg=>
  oP (gV g (fQ 5 (.ptr a 0))) λl=>
  oP (gq true (.bool (leaves x.op))) λm=>
  oP (gV m (eQ l h)) λn=>
  oP (gq true (.bool (leaves x.op))) λo=>
  oP (gV o (some (.I i))) λp=>
  oP (gq true (.bool (leaves x.op))) λq=>
  oP (gV q (some (.I k))) λr=>
  oP (gq true (.bool (leaves x.op))) λs=>
  oP (gC s (some (iS,[e,n,p,r]))) λt=>vD CS t h λv G=>
  oP (gq true (.bool (leaves x.op))) λy=>
  oP (gV y (vC .not v)) λz=>
  oP (uP (.bool false) (nM (.bool (leaves x.op)) z (V.bool false))) λA=>K A G:=by
 subst b
 cases hq:leaves x.op with
 | true=>
   obtain⟨fs,J,L,M⟩:=E hq;refine gL (ed rfl (gL (ed (by rfl) (gL (ed D (gL (ed rfl (gL (ed rfl (uj ?_))))))))))
   refine HC C J L hb M λh' s' N=>gL (ed rfl (ed rfl (B h' s' N)))
 |false=>exact oe (oe (oe (oe (oe (Xe (oe (ed rfl (B h (Sn.refl _ _) C.ck.H))))))))
theorem XS(g:Good u)(C:Cx F h cs lc u vv vb vs bl pl CZ xs ys Al I)(ak:lc<h.next){i:Nat}{B:Bk}(d:u.blocks[i]? =some B)(H:∀F' h',Sn F h F' h'->ej F' h' cs->Q (.bool true) h'):cP CS lL [.ptr lc 0,.I i] h Q:=by
 refine E4 rfl rfl ?_;unfold xB;have nv:=g.nv;have nb:=g.nb;have t:i<u.blocks.length:=by grind
 have al:∀(s:Nat) (fs:List Fm),u.eh[s]? =some fs->fs.length<=30/\∀f∈fs,f.locals.length<=40/\f.stack.length<=60:=λs fs a=>by
  obtain⟨_,h2,h3⟩:=g.st s fs a
  simp_all
 have am:B.ef.length<=3000:=by
  have:=jr u.ef.length B.ef (GC g d) λv hv=>by
   obtain⟨k,hk⟩:=mr.1 hv;exact g.jz v i k ⟨B,d,hk⟩
  omega
 obtain⟨l7,o7,bv,bn,bp,_,i1,i2,O,iN,ip,_⟩:=C.ck.u.vf d;refine ed (fI _ _) (ed (by rfl) (ed (by rfl) (ed (C.ck.ld 3 rfl) (ed i1 (ed i2 ?_)))));refine gQ C.ck.H rfl rfl (by simp only[kS,eo,O.one,iN.one,ip.one];rfl) λh2 H2 G=>?_;have C2:=C.cons G H2;have O:=O.since G;have iN:=iN.since G;have ip:=ip.since G;refine ed (by rfl) (ed (H2.ld 0 rfl rfl) (ed O.len (ed (by rfl) (ed (H2.ld 0 rfl rfl) (ed O.len ?_)))))
 refine Bj (λk S T U V c l o h'=>∃(F':Nat->Prop) (j:Nat),S = .ptr lc 0/\T = .I i/\U = .ptr h.next 0/\V = .I B.ef.length/\c=bv/\l = .I B.ef.length/\o = .I j/\j+k=B.ef.length/\
  Sn F h2 F' h'/\ej F' h' (er h.next 38 (kS B bv bn bp)::cs)) ?_ (k:=B.ef.length) ⟨F,0,rfl,rfl,rfl,rfl,rfl,rfl,rfl,by omega,Sn.refl _ _,H2⟩
 rintro k S T U V c l o h3 ⟨F3,j,rfl,rfl,rfl,rfl,ab,rfl,rfl,hk,y,A⟩;subst c;unfold uh;have C3:=C2.since y A;by_cases hj:j<B.ef.length;rotate_left
 ·refine jf ?_;refine ed (by rfl) (ed (A.ld 0 rfl rfl) ?_);by_cases c2:B.fin=2
  ·refine gM (gI (by omega) ?_);refine ed (by rfl) (ed (A.ld 0 rfl rfl) ?_);refine Oz [B.cond] (mN _) A λF4 h4 v q r r4=>?_;refine GV (C3.since r q) r4 (by simp) t (λw hw=>?_) (H _ _ ((G.trans y).trans r) q.tail);obtain rfl:=Me.1 hw;exact FX d (g.zO i B d c2)
  refine gM (gv (by omega) ?_);by_cases c3:B.fin=3
  ·refine gM (gI (by omega) ?_);refine ed (by rfl) (ed (A.ld 0 rfl rfl) ?_);have ac:B.state<u.eh.length:=by
    rcases g.fin i B d with⟨J,_⟩|⟨J,_⟩|⟨_,_,J⟩
    ·omega
    ·omega
    ·exact J
   obtain⟨fs,a⟩:∃fs,u.eh[B.state]? =some fs:=by simp_all
   refine HC C3 a (by grind) t (λw hw=>FX d (g.Cf i B fs d c3 a w hw)) λh4 r q=>H _ _ ((G.trans y).trans r) q.tail
  ·exact gM (gv (by omega) (H _ _ (G.trans y) A.tail))
 refine gR ?_;have e:At u (B.ef[j]) i j:=⟨B,d,g0 hj⟩
 have an:=g.jz _ _ _ e;obtain⟨x,hx⟩:∃x,u.ef[B.ef[j]]? =some x:=by simp_all
 have ae:B.ez.length<=700:=by
  rw[g.ez i B d,<-pG];have:=pU g (i:=u.blocks.length) (j:=0) (b:=i) (jb _) (by omega);omega
 have ag:x.op=21\/x.op=20->x.args.length<=700:=by
  rintro(J|J)
  ·rw[(g.Ae _ _ _ _ _ e hx J d).2];exact ae
  ·rw[g.putAt _ x hx J];omega
 obtain⟨l9,o9,_,j1,j2⟩:=(O.since y).nat (g0 hj) .i64;obtain⟨l10,ao,w,_,q1,q2,iw,_⟩:=C3.ck.u.val hx;refine ed j1 (ed j2 (ed (fI _ _) (ed (by rfl) (ed (by rfl) (ed (C3.ck.ld 2 rfl) (ed q1 (ed q2 ?_)))))));refine gQ A rfl rfl (by simp only[lW,eo,iw.one];rfl) λh4 q r=>?_;have C4:=C3.cons r q;have K:=iw.since r;have ap:h3.next<=h4.next:=r.next;have aq:h.next<h3.next:=(A.ok 0 _ rfl).2.1;refine ed (by rfl) (ed (q.ld 0 rfl rfl) ?_);by_cases L:x.op=21
 ·refine gM (gI (by omega) ?_);refine ed (by rfl) (ed (q.ld 0 rfl rfl) (ed K.len ?_));have ar:=(g.Ae _ _ _ _ _ e hx L d).2
  refine Bq (λk S T U V c l o M W X h'=>∃(F':Nat->Prop) (m:Nat),S = .ptr lc 0/\T = .I i/\U = .ptr h.next 0/\V = .I B.ef.length/\c=bv/\l = .I B.ef.length/\o = .I j/\M=w/\W = .I x.args.length/\X = .I m/\m+k=x.args.length/\
   Sn F3 h4 F' h'/\ej F' h' (er h3.next 40 (lW x w)::er h.next 38 (kS B bv bn bp)::cs)) ?_ (k:=x.args.length) ⟨F3,0,rfl,rfl,rfl,rfl,rfl,rfl,rfl,rfl,rfl,rfl,by omega,Sn.refl _ _,q⟩
  rintro k2 S T U V c l o M W X h5 ⟨F5,m,rfl,rfl,rfl,rfl,ab,rfl,rfl,au,rfl,rfl,aw,D,N⟩;subst c M;unfold tT;have C5:=C4.since D N;by_cases hm:m<x.args.length;rotate_left
  ·refine jf ?_;refine sh ?_;unfold nK;exact fS ⟨k-1,by omega,F5,j+1,rfl,rfl,rfl,rfl,rfl,rfl,rfl,by omega,(y.trans r).trans D,N.tail⟩
  refine gR ?_;obtain⟨l11,ax,aj,m1,m2⟩:=(K.since D).nat (g0 hm) .i64;refine ed m1 (ed m2 ?_);have ay:m<B.ez.length:=by omega
  obtain⟨p,hp⟩:∃p,B.ez[m]? =some p:=by simp_all
  have ah:p<u.blocks.length:=by
   have:=yC hp;rw[g.ez i B d]at this;exact(g.W6 (sY.1 this)).1
  obtain⟨P,hP⟩:∃P,u.blocks[p]? =some P:=by simp_all
  rw[mN,gZ];obtain⟨R,Y,r6⟩:=N.Y3 (E:=eN) (xs:=[x.args[m]]) (n:=1) en rfl (wh F5 h5 [x.args[m]]) false;have g6:(h5.new (.cells 3 1 true false (iT [x.args[m]]))).get h5.next=some (.cells 3 1 true false (iT [x.args[m]])):=fi _ _;have C6:=C5.since Y R;obtain⟨l12,aA,_,n1,n2⟩:=(((ip.since y).since r).since (D.trans Y)).nat hp .i64;obtain⟨l13,aB,pv,pn,pp,_,p1,_,ai,_,_,pa⟩:=C6.ck.u.vf hP;refine ed (by rfl) (ed (R.ld 1 rfl rfl) (ed n1 (ed n2 (ed (fI _ _) (ed (by rfl) (ed (by rfl) (ed (C6.ck.ld 3 rfl) ?_)))))));refine ed (by rfl) (ed (R.ld 1 rfl rfl) (ed n1 (ed n2 (ed p1 (ed (by rfl) (ed pa.ef (ed ai.len ⟨by simp_all,?_⟩)))))));refine GV C6 r6 (by simp) ah (λz Z=>?_) ⟨jb _,wW (gI rfl ?_)⟩
  ·obtain rfl:=Me.1 Z;exact FX hP (g.zE _ i j x B e hx L d m _ p (by simp_all) hp)
  ·exact fS ⟨k2-1,by omega,_,m+1,rfl,rfl,rfl,rfl,rfl,rfl,rfl,rfl,rfl,rfl,by omega,D.trans Y,R⟩
 refine gM (gv (by omega) ?_);refine ed (q.oL 0 rfl rfl) ?_;refine BI q K (by omega) λF5 h5 v D N r5=>?_;have C5:=C4.since D N;refine GV C5 r5 (by grind[Py]) t (λz Z=>Uc (g.xG _ i j x e hx L z Z)) (ed rfl ?_);refine hZ (ed (by rfl) (hZ (ed (N.ld 0 rfl rfl) (vw ?_))));refine Ek (hZ (ed rfl ?_));refine Wh rfl C5 (by omega) (N.ld 0 rfl rfl) t (λaa=>?_) λh6 Y R=>?_
 ·have ac:=g.leave _ x hx aa;obtain⟨fs,a⟩:∃fs,u.eh[x.state]? =some fs:=by simp_all
  exact⟨fs,a,by grind,λz Z=>Uc (g.Cn _ i j x fs e hx aa a z Z)⟩
 ·refine jF (gv (by simp) ?_);refine sh ?_;unfold nK;exact fS ⟨k-1,by omega,F5,j+1,rfl,rfl,rfl,rfl,rfl,rfl,rfl,by omega,((y.trans r).trans D).trans Y,R.tail⟩
end
open Un Dm
section
variable{F F':Nat->Prop}{h h':Hp}{cs:List Pc}{Q:fq}{u:U}{vv vb vs:V}
theorem LD(g:Good u)(H0:ej F h cs)(hu:tL F h u vv vb vs)(H:∀F' h',Sn F h F' h'->ej F' h' cs->Q (.bool true) h'):cP CS rY [.agg (uC u vv vb vs)] h Q:=by
 refine QD rfl rfl ?_;unfold Jk;have nv:=g.nv;have nb:=g.nb;have JN:=g.JN;have ns:=g.ns;refine jP H0 hu.one λt x s1=>?_;have u1:=hu.since s1;have l2:eQ (.ptr h.next (0+2)) t=some vv:=x.ld 0 rfl rfl;have l3:eQ (.ptr h.next (0+3)) t=some vb:=x.ld 0 rfl rfl;have l4:eQ (.ptr h.next (0+4)) t=some vs:=x.ld 0 rfl rfl;refine oF l2 (ed u1.v.len (ed (pS _ _ _ _) ?_));rw[O9 (by omega)];have e1:uP (.bool false) (oB (fQ 3 (.ptr h.next 0)) λf=>oB (eQ f t) λj=>oB (fD j) λk=>eJ .gtr 3 k (V.I 300))=some (.bool false):=by
  simp only[qd,fR,fy,l3,u1.b.len,pS];rw[O9 (by omega)]
 have e2:uP (.bool false) (oB (fQ 4 (.ptr h.next 0)) λf=>oB (eQ f t) λj=>oB (fD j) λk=>eJ .gtr 3 k (V.I 1000))=some (.bool false):=by
  simp only[qd,fR,fy,l4,u1.s.len,pS];rw[O9 (by omega)]
 have e3:uP (.bool false) (oB (fQ 3 (.ptr h.next 0)) λf=>oB (eQ f t) λj=>oB (fD j) λk=>eJ .eql 3 k (V.I 0))=some (.bool false):=by
  simp only[qd,fR,fy,l3,u1.b.len,ie];congr 2;rw[SJ];omega
 refine ed e1 (ed e2 (ed e3 (jF (gv (by simp) ?_))));refine ed (x.oL 0 rfl rfl) (ed (show _=some (V.agg [.I u.func,.I u.pc,vv,vb,vs,.ee,.ee,.ee]) from rfl) ?_);refine jP x (by simp only[eo,u1.v.one,u1.b.one,u1.s.one];rfl) λC D s2=>?_;have u2:=u1.since s2;generalize t.next=lc at*;have l4:eQ (.ptr h.next (0+4)) C=some vs:=D.ld 1 rfl rfl;refine oF l4 (ed u2.s.len ?_);have C2:Ck F C (er lc 81 [.I u.func,.I u.pc,vv,vb,vs,.ee,.ee,.ee]::er h.next 29 (uC u vv vb vs)::cs) lc u vv vb vs .ee .ee .ee:=⟨D,⟨0,_,rfl⟩,u2⟩
 refine KT (by omega) (λF' h'=>F' = F/\Sn F C F h'/\ej F h' (er lc 81 [.I u.func,.I u.pc,vv,vb,vs,.ee,.ee,.ee]::er h.next 29 (uC u vv vb vs)::cs)) ⟨rfl,Sn.refl _ _,D⟩ (λi hi F' h' hP n p=>?_) λF3 h3 hP=>?_
 ·obtain⟨rfl,s',l⟩:=hP;show cP CS lJ [.ptr lc 0,.I i] h' n;have hs:=g0 hi;obtain⟨g1,g2,g3⟩:=g.st i _ hs;exact W2 (C2.since s' l) hs ⟨g1,g2⟩ g3 λa c d=>p F' a ⟨rfl,s'.trans c,d⟩
 obtain⟨rfl,E,H3⟩:=hP;refine ed rfl (hZ (ed rfl (vw ?_)));refine Xw g H3 (u2.since E) λJ K b' r xs ys s4 L rb rp std=>?_;refine ed rfl (hZ (ed rfl ?_));have M:=(u2.since E).since s4;have N:Ck J K (er lc 81 [.I u.func,.I u.pc,vv,vb,vs,b',r,.ee]::er h.next 29 (uC u vv vb vs)::cs) lc u vv vb vs b' r .ee:=⟨L,⟨0,_,rfl⟩,M⟩
 have l2:eQ (.ptr h.next (0+2)) K=some vv:=L.ld 1 rfl rfl;refine hZ (ed (fR _ _ _) (hZ (ed l2 (hZ (ed M.v.len (hZ (ed rfl (hZ (ed rfl (vw ?_))))))))));refine KT (F:=J) (by omega) (λF' h'=>Sn J K F' h'/\ej F' h' (er lc 81 [.I u.func,.I u.pc,vv,vb,vs,b',r,.ee]::er h.next 29 (uC u vv vb vs)::cs)) ⟨Sn.refl _ _,L⟩ (λi hi F' h' hP n p=>?_) λF5 h5 hP=>?_
 ·obtain⟨s',l⟩:=hP;show cP CS jQ [.ptr lc 0,.I i] h' n;exact zbn g (N.since s' l) (rb.since s') std hi (l.ok 0 _ rfl).2.1 λe a c d=>p e a ⟨s'.trans c,d⟩
 obtain⟨A,B⟩:=hP;have u5:=M.since A;have l3:eQ (.ptr h.next (0+3)) h5=some vb:=B.ld 1 rfl rfl;refine ed rfl (hZ (ed rfl (hZ (ed (fR _ _ _) (hZ (ed l3 (hZ (ed u5.b.len (hZ (ed rfl (hZ (ed rfl (vw ?_)))))))))))));refine KT (F:=F5) (by omega) (λF' h'=>Sn F5 h5 F' h'/\ej F' h' (er lc 81 [.I u.func,.I u.pc,vv,vb,vs,b',r,.ee]::er h.next 29 (uC u vv vb vs)::cs)) ⟨Sn.refl _ _,B⟩ (λi hi F' h' hP n p=>?_) λF6 h6 hP=>?_
 ·obtain⟨s',l⟩:=hP;show cP CS lX [.ptr lc 0,.I i] h' n;exact Zz g ((N.since A B).since s' l) (g0 hi) λe a c d=>p e a ⟨s'.trans c,d⟩
 obtain⟨O,P⟩:=hP;have u6:=u5.since O;have l3:eQ (.ptr h.next (0+3)) h6=some vb:=P.ld 1 rfl rfl;refine ed rfl (hZ (ed rfl (hZ (ed (fR _ _ _) (hZ (ed l3 (hZ (ed u6.b.len (hZ (ed rfl (hZ (ed rfl (vw ?_)))))))))))));refine KT (F:=F6) (by omega) (λF' h'=>Sn F6 h6 F' h'/\ej F' h' (er lc 81 [.I u.func,.I u.pc,vv,vb,vs,b',r,.ee]::er h.next 29 (uC u vv vb vs)::cs)) ⟨Sn.refl _ _,P⟩ (λi hi F' h' hP n p=>?_) λF7 h7 hP=>?_
 ·obtain⟨s',l⟩:=hP;show cP CS mL [.ptr lc 0,.I i] h' n;exact zaP g (((N.since A B).since O P).since s' l) (g0 hi) λe a c d=>p e a ⟨s'.trans c,d⟩
 obtain ⟨s7,H7⟩:=hP;have u7:=u6.since s7;refine ed rfl (jF (gv (by simp) ?_));refine EZ rfl rfl ?_;unfold xr;have lA:fM 5 (.ptr lc 0) h7=some (.agg (uC u vv vb vs)):=by
  rw[yL (H7.get 0 rfl),DZ (by simp)];rfl
 refine ed (fI _ _) (ed (fR _ _ _) (ed lA ?_));refine Qi g H7 u7 λF8 h8 vo seen post s8 R G ro=>?_;have S:=u7.since s8;have lo:=ro.len;rw[List.length_reverse,PO g G]at lo;refine ed lo (oF (R.ld 1 rfl rfl) (ed S.b.len (zs (gI rfl ?_))));refine ed (R.oL 1 rfl rfl) ?_;refine Fi g R S λT h9 vd Al I U W G' s9 H9 rd d1 d2 d3 d4 d5=>?_;obtain⟨y,X,ab,q,w⟩:=H9.st 0 (o:=7) (u:=vd) rfl (by simp) rd.one;refine ed (fI _ _) (ed (fR _ _ _) ?_);rw[show V.ptr lc (0+7)=V.ptr lc 7 from rfl,X,ei];simp only[lU,jx]at q;have z:=(S.since s9).since w;refine oF (q.ld 1 rfl rfl) (ed z.b.len ?_);have m:=((((A.trans O).trans s7).trans s8).trans s9).trans w
 have Y:Cx T y (er lc 81 [.I u.func,.I u.pc,vv,vb,vs,b',r,vd]::er h.next 29 (uC u vv vb vs)::cs) lc u vv vb vs b' r vd xs ys Al I:=
  ⟨⟨q,⟨0,_,rfl⟩,z⟩,rb.since m,rp.since m,rd.since w,std,⟨d1,d2,d3,⟨G'.gr.place,λb hb h0=>d4.up b hb h0⟩,d5⟩⟩
 refine KT (F:=T) (by omega) (λF' h'=>Sn T y F' h'/\ej F' h' (er lc 81 [.I u.func,.I u.pc,vv,vb,vs,b',r,vd]::er h.next 29 (uC u vv vb vs)::cs)) ⟨Sn.refl _ _,q⟩ (λi hi F' h' hP n p=>?_) λac ae hP=>?_
 ·obtain⟨s',l⟩:=hP;show cP CS lL [.ptr lc 0,.I i] h' n;exact XS g (Y.since s' l) (l.ok 0 _ rfl).2.1 (g0 hi) λe a c d=>p e a ⟨s'.trans c,d⟩
 obtain⟨Z,aa⟩:=hP;exact H _ _ (((((s1.trans s2).trans E).trans s4).trans m).trans Z) aa.tail.tail
end
