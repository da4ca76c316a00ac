/- Parts. -/
import Derived.Test.YtkpicojjjifmgabGreatDoorM26
set_option maxHeartbeats 4000000
namespace Go.Proofs.YtkpicojjjifmgabGreatDoor.Hx
open Un Dm
structure zaI (G:Dm.Gr) (I:Nat->Nat) (S:Nat->Prop) (b:Nat):Prop where
 low:∀p,S p->G.BY p b->qo I (I b) p
 ze1:∀x,(∀p,S p->G.BY p b->qo I x p)->qo I x (I b)
theorem RX(I:Nat->Nat)(b:Nat):Dm.set I b (I b)=I:=by
 grind[Dm.set]
theorem VF{S:Nat->Prop}{b:Nat}(h:S b):(λx=>S x\/x=b)=S:=by
 grind
theorem X0{G:Dm.Gr}{I:Nat->Nat}{S:Nat->Prop}{k n:Nat}(o:Dm.Inv G I S k 1)(i:∀b,G.node b->S b)(f:∀b,G.node b->b≠0->zaI G I S b)(a:∀b,G.node b->G.place b<n)(c:∀p,p<n->∃b,G.node b/\G.place b=p):Dm.Inv G I S (k+1) 1:=by
 have d:∀m,1+m<=n->Dm.Inv G I S k (1+m):=by
  intro m
  induction m with
  |zero=>simp_all
  | succ m j=>
    intro q;have l:=j (by omega);obtain⟨b,hb,hp⟩:=c (1+m) (by omega);have h0:b≠0:=λe=>by subst e;rw[G.EF]at hp;omega
    have g:=(l.OP hb h0 hp (f b hb h0).low (f b hb h0).ze1).1;rw[RX,VF (i b hb)]at g;exact g
 have r:1<=n:=by have:=a 0 G.first;omega
 have h:=d (n-1) (by omega);rw[show 1+(n-1)=n by omega]at h;exact h.pass a
theorem RS{G:Dm.Gr}{I:Nat->Nat}{S:Nat->Prop}{k n:Nat}(d:Dm.Inv G I S k 1)(e:∀b,G.node b->S b)(f:∀b,G.node b->b≠0->zaI G I S b)(a:∀b,G.node b->G.place b<n)(c:∀p,p<n->∃b,G.node b/\G.place b=p):∀m,Dm.Inv G I S (k+m) 1
 |0=>d
 |m+1=>X0 (RS d e f a c m) e f a c
section
variable{u:U}{seen:List Bool}{post:List Nat}
theorem Sj(g:Good u)(G:JN u.blocks.length (next u) seen post []):∀b,b<u.blocks.length->b∈post:=by
 have a:∀b l,Pt (next u) b l->b∈post:=by
  intro b l hp
  induction hp with
  |nil=>obtain⟨p,hp⟩:=G.last rfl;simp_all
  | step _ c d=>
    have:=(G.iff _).1 (G.closed _ d _ c)
    simp_all
 intro b hb;obtain⟨l,e⟩:=g.reach b hb
 grind
theorem Tw(g:Good u)(G:JN u.blocks.length (next u) seen post []):post.length=u.blocks.length:=G.all (Sj g G)
theorem zaJ(G:JN u.blocks.length (next u) seen post []):post.reverse.Nodup:=by
 have:=G.nodup
 grind
theorem NX(G:JN u.blocks.length (next u) seen post []){i b:Nat}(h:post.reverse[i]? =some b):G.gr.place b=i:=by
 show post.reverse.idxOf b=i;obtain⟨hi,rfl⟩:=ki.1 h;have a:=zaJ G
 grind
end
section
variable{F F':Nat->Prop}{h h':Hp}{cs:List Pc}{Q:fD}{u:U}{vv vb vs:V}
structure Vw (S:Nat->Prop) (I:Nat->Nat) (n:Nat) (DR:List Int):Prop where
 len:DR.length=n
 yes:∀b,S b->DR[b]? =some (I b:Int)
 no:∀b,b<n->¬S b->DR[b]? =some (-1)
theorem zal{G:Dm.Gr}{I:Nat->Nat}{S:Nat->Prop}{n l5 l6 t5 D:Nat}{u vp:V}{DR:List Int}{pl:List Nat}(g:eo F h cs){i5 i6 ii ip:Nat}(v:cs[i5]? =some (eQ l5 t5 [u]))(w:cs[i6]? =some (eQ l6 D [vp]))(hi:cs[ii]? =some (fg eZ eR DR u))(hp:cs[ip]? =some (fg eN eR pl vp))
  (i:Tree G I S) (y:Vw S I n DR) (l:∀b,G.node b->pl[b]? =some (G.place b)) {a b:Nat} (E:S a) (hb:S b)
  (H:∀d,S d->qo I d a->qo I d b->(∀x,qo I x a->qo I x b->qo I x d)->Q (.I (d:Nat)) h):cP CS jG [.I a,.I b,.ptr l6 0,.ptr l5 0] h Q:=by
 refine Ja rfl rfl ?_;unfold Bv
 refine FY (λk z A B C h'=>∃c f:Nat,z = .I (c:Nat)/\A = .I (f:Nat)/\B = .ptr l6 0/\C = .ptr l5 0/\h' = h/\k=G.place c+G.place f/\S c/\S f/\qo I c a/\qo I f b/\(∀x,qo I x a->qo I x b->qo I x c/\qo I x f)) ?_ (k:=G.place a+G.place b)
  ⟨a,b,rfl,rfl,rfl,rfl,rfl,rfl,E,hb,.refl _,.refl _,by simp_all⟩
 rintro k z A B C h' ⟨c,f,rfl,rfl,rfl,rfl,rfl,P,sa,sb,m,o,hx⟩;unfold yH;by_cases e:c=f
 ·subst e;refine yj (gz rfl ?_);exact H c sa m o λx p q=>(hx x p q).1
 refine yj (gh (by omega) ?_);obtain⟨R,op,p1,p2⟩:=g.Ng ip hp (l c (i.node _ sa)) .i64;obtain⟨T,oq,J,K⟩:=g.Ng ip hp (l f (i.node _ sb)) .i64;refine eh (g.ld i6 w rfl) (eh p1 (eh p2 (eh (g.ld i6 w rfl) (eh J (eh K ?_)))));by_cases OY:G.place f<G.place c
 ·refine DT (gz (by omega) ?_);obtain⟨L,M,r,s⟩:=g.Qd ii hi (y.yes c sa) .i64;refine eh (g.ld i5 v rfl) (eh r (eh s ?_));have h0:c≠0:=λe=>by subst e;rw[G.EF]at OY;omega
  obtain⟨t,N⟩:=i.up c sa h0;exact⟨_,by omega,I c,f,rfl,rfl,rfl,rfl,rfl,rfl,t,sb,(qo.up h0 (.refl _)).trans m,o,λx p q=>⟨i.zbW sa sb OY (by simp_all) (by simp_all),by simp_all⟩⟩
 ·refine DT (gh (by omega) ?_);obtain⟨L,M,r,s⟩:=g.Qd ii hi (y.yes f sb) .i64;refine eh (g.ld i5 v rfl) (eh r (eh s ?_));have j:G.place c<G.place f:=by
   have:G.place c≠G.place f:=λO=>e (G.inj _ _ (i.node _ sa) (i.node _ sb) O);omega
  have h0:f≠0:=λe=>by subst e;rw[G.EF]at j;omega
  obtain⟨t,N⟩:=i.up f sb h0;exact⟨_,by omega,c,I f,rfl,rfl,rfl,rfl,rfl,rfl,sa,t,m,(qo.up h0 (.refl _)).trans o,λx p q=>⟨by simp_all,i.zbW sb sa j (by simp_all) (by simp_all)⟩⟩
theorem IY(g:Good u)(H0:eo F h cs)(hu:wW F h u vv vb vs)
  (H:∀F' h' v DR I seen post (G:JN u.blocks.length (next u) seen post []),Sn F h F' h'->eo F' h' cs->im eZ F' h' DR v->DR.length=u.blocks.length->DR[0]? =some (-1)->(∀b,b≠0->b<u.blocks.length->DR[b]? =some (I b:Int))->Tree G.gr I (λb=>b<u.blocks.length)->
   (∀x b,b<u.blocks.length->(qo I x b↔o0 (next u) x b))->Q v h'):cP CS pT [.agg (uC u vv vb vs)] h Q:=by
 refine Li rfl rfl ?_;unfold DP;have nb:=g.nb;have MH:=g.MH;refine jH H0 hu.one λr H1 s1=>?_;have lA:=H1.pC (n:=5) 0 rfl rfl;refine eh lA (eh lA ?_);refine SK g H1 (hu.since s1) λF2 h2 vo seen post s2 H2 G r2=>⟨s2.next,H2.pC 0 rfl rfl,?_⟩
 refine RI g H2 (hu.since (s1.trans s2)) λW M va s3 H3 r3=>⟨s3.next,?_⟩
 have u3:=hu.since ((s1.trans s2).trans s3);have r2:=r2.since s3;refine oF (H3.ld 0 rfl rfl) (eh u3.b.len ?_);rw[ku (z:=V.I 0) rfl (by decide) (by omega),hX];obtain⟨H4,s4⟩:=H3.make (E:=eZ) (ty:=eR) (y:=0) (u:=V.I 0) u.blocks.length rfl rfl;have n4:(M.new (.cells eR 1 true false (List.replicate u.blocks.length (V.I 0)))).next=M.next+1:=rfl;have g4:(M.new (.cells eR 1 true false (List.replicate u.blocks.length (V.I 0)))).get M.next=some (.cells 3 1 true false (List.replicate u.blocks.length (V.I 0))):=fq _ _;show oP (fJ 3 (.ptr h.next 0)) _;generalize bu:M.new (.cells eR 1 true false (List.replicate u.blocks.length (V.I 0)))=N at*;refine oF (H4.ld 1 rfl rfl) (eh (u3.since s4).b.len ?_);rw[ku (z:=V.I 0) rfl (by decide) (by omega),hX];obtain⟨H5,s5⟩:=H4.make (E:=eN) (ty:=eR) (y:=0) (u:=V.I 0) u.blocks.length rfl rfl;have n5:(N.new (.cells eR 1 true false (List.replicate u.blocks.length (V.I 0)))).next=N.next+1:=rfl;have g5:(N.new (.cells eR 1 true false (List.replicate u.blocks.length (V.I 0)))).get N.next=some (.cells 3 1 true false (List.replicate u.blocks.length (V.I 0))):=fq _ _;have aJ:=(fk (h:=N) (.cells eR 1 true false (List.replicate u.blocks.length (V.I 0))) (l:=M.next) (by omega)).trans g4;generalize bw:N.new (.cells eR 1 true false (List.replicate u.blocks.length (V.I 0)))=h5 at*;rw[hX];obtain⟨H6,s6⟩:=H5.Aw iZ [V.ei];have n6:(h5.new (.cells iZ 1 true false [V.ei])).next=h5.next+1:=rfl;have g6:(h5.new (.cells iZ 1 true false [V.ei])).get h5.next=some (.cells 22 1 true false [V.ei]):=fq _ _;have aK:=(fk (h:=h5) (.cells iZ 1 true false [V.ei]) (l:=N.next) (by omega)).trans g5;have aL:=(fk (h:=h5) (.cells iZ 1 true false [V.ei]) (l:=M.next) (by omega)).trans aJ;show yp _ (h5.new (.cells iZ 1 true false [V.ei])) _;generalize bx:h5.new (.cells iZ 1 true false [V.ei])=Y at*;rw[hX];obtain⟨H7,s7⟩:=H6.Aw iZ [V.ei];have n7:(Y.new (.cells iZ 1 true false [V.ei])).next=Y.next+1:=rfl;have g7:(Y.new (.cells iZ 1 true false [V.ei])).get Y.next=some (.cells 22 1 true false [V.ei]):=fq _ _;have aM:=(fk (h:=Y) (.cells iZ 1 true false [V.ei]) (l:=h5.next) (by omega)).trans g6;have ar:=(fk (h:=Y) (.cells iZ 1 true false [V.ei]) (l:=N.next) (by omega)).trans aK;have aN:=(fk (h:=Y) (.cells iZ 1 true false [V.ei]) (l:=M.next) (by omega)).trans aL;show(((Y.new (.cells iZ 1 true false [V.ei])).get Y.next=_/\_)/\_);generalize bz:Y.new (.cells iZ 1 true false [V.ei])=h7 at*;refine⟨⟨g7,O.kF _ _ _ _ _⟩,⟨aM,O.kF _ _ _ _ _⟩,⟨ar,O.kF _ _ _ _ _⟩,H7.ld 4 rfl rfl,⟨aN,O.kF _ _ _ _ _⟩,H7.ld 4 rfl rfl,?_⟩;obtain⟨h8,e8,n8,H8,s8,k8⟩:=H7.stk 1 (o:=0) (u:= .slice M.next 0 u.blocks.length) rfl (by simp) rfl;rw[e8,en];refine⟨n8,⟨(k8 _ (by omega)).trans ar,O.kF _ _ _ _ _⟩,(by simp only[lO,ji]at H8;exact H8.ld 4 rfl rfl),?_⟩;simp only[lO,ji]at H8;obtain⟨h9,e9,n9,H9,s9⟩:=H8.st 0 (o:=0) (u:= .slice N.next 0 u.blocks.length) rfl (by simp) rfl;rw[e9,en];refine⟨n9,?_⟩;simp only[ji]at H9;have au:=((((s4.trans s5).trans s6).trans s7).trans s8).trans s9;have bA:=((s1.trans s2).trans s3).trans au;have r2:=r2.since au;have r3:=r3.since au;clear g4 g5 g6 g7 aJ aL aN aK ar aM k8 e8 e9 bu bw bx bz H1 H2 H3 H4 H5 H6 H7 H8 s1 s2 s3 s4 s5 s6 s7 s8 s9 lA u3;generalize V.slice M.next 0 u.blocks.length=vi at*;generalize V.slice N.next 0 u.blocks.length=vp at*;generalize Y.next=l6 at*;generalize h5.next=l5 at*;generalize h.next=lb at*;have aO:=H9.len 3 (xs:=List.replicate u.blocks.length (0:Int)) rfl;rw[WI]at aO;refine eh (H9.ld 1 rfl rfl) (eh aO ?_);have bC:=Tw g G;have Z:post.reverse.length=u.blocks.length:=by simpa using bC
 refine Ie (λk w A R x6 aP aQ h'=>∃(i:Nat) (xs:List Int),w=vo/\A=va/\R = .ptr l5 0/\x6 = .ptr l6 0/\aP = .I u.blocks.length/\aQ = .I i/\i+k=u.blocks.length/\xs.length=u.blocks.length/\(∀j,j<i->xs[j]? =some (-1))/\
  Sn W h9 W h'/\eo W h' (eQ l6 iZ [vp]::eQ l5 iZ [vi]::fg eN eR (List.replicate u.blocks.length 0) vp::fg eZ eR xs vi::eQ lb 30 (uC u vv vb vs)::cs)) ?_ (k:=u.blocks.length)
  ⟨0,_,rfl,rfl,rfl,rfl,rfl,rfl,by omega,by simp,λj hj=>by omega,Sn.refl _ _,H9⟩
 rintro k w A R x6 aP aQ cb ⟨i,xs,e3,e4,rfl,rfl,rfl,rfl,hk,aR,hm,aS,aT⟩;subst w A;unfold Aj;by_cases hi:i<u.blocks.length
 ·refine gK ?_;obtain⟨l11,cd,ce,Wh,bD,cf,aU,bE⟩:=aT.Kh 3 rfl (k:=i) (y:=(-1:Int)) (u:=V.I (-1)) (by omega) rfl rfl rfl;refine eh (aT.ld 1 rfl rfl) (eh Wh ?_);rw[bD,en];simp only[lO,ji]at aU;refine fL ⟨k-1,by omega,i+1,xs.set i (-1),rfl,rfl,rfl,rfl,rfl,rfl,by omega,by simp[aR],λj hj=>?_,aS.trans bE,aU⟩
  grind
 refine iQ ?_;obtain rfl:i=u.blocks.length:=by omega
 have lo:=(r2.since aS).len;rw[Z]at lo;refine eh lo ?_
 refine Il (λk w A R x6 aw aV aW h'=>∃(i:Nat) (pl:List Nat),w=vo/\A=va/\R = .ptr l5 0/\x6 = .ptr l6 0/\aw=vo/\aV = .I u.blocks.length/\aW = .I i/\i+k=u.blocks.length/\pl.length=u.blocks.length/\(∀j b,j<i->post.reverse[j]? =some b->pl[b]? =some j)/\
  Sn W h9 W h'/\eo W h' (eQ l6 iZ [vp]::eQ l5 iZ [vi]::fg eN eR pl vp::fg eZ eR xs vi::eQ lb 30 (uC u vv vb vs)::cs)) ?_ (k:=u.blocks.length)
  (by grind)
 rintro k1 w A R x6 aw aV aW cg ⟨i,pl,e3,e4,rfl,rfl,ci,rfl,rfl,cj,aX,bG,aj,ak⟩;subst w A aw;unfold An;by_cases hi:i<u.blocks.length
 ·refine gK ?_;obtain⟨b,hb⟩:∃b,post.reverse[i]? =some b:=⟨_,iy (by omega)⟩
  have al:b<u.blocks.length:=G.pre b (wBY.1 (DG hb));obtain⟨l13,cm,_,j1,j2⟩:=(r2.since aj).nat hb .i64;obtain⟨l14,cn,co,bH,ax,cp,aY,bI⟩:=ak.Kh 2 rfl (k:=b) (y:=i) (u:=V.I i) (by omega) rfl rfl rfl;refine eh j1 (eh j2 (eh (ak.ld 0 rfl rfl) (eh bH ?_)));rw[ax,en];simp only[lO,ji]at aY;refine fL ⟨k1-1,by omega,i+1,pl.set b i,rfl,rfl,rfl,rfl,rfl,rfl,rfl,by omega,by simp[aX],λj c hj hc=>?_,aj.trans bI,aY⟩;by_cases e:c=b
  ·subst e;have r:=NX G hb;have h2:=NX G hc;obtain rfl:i=j:=by omega
   rw[NZ (by omega)]
  grind
 refine iQ ?_;obtain rfl:i=u.blocks.length:=by omega
 have am:∀b,G.gr.node b->pl[b]? =some (G.gr.place b):=λb hb=>by
  have r:=UC post.reverse b (wBY.2 hb);exact bG (post.reverse.idxOf b) b (by have:=(ki.1 r).1;omega) r
 have lo:=(r2.since aj).len;rw[Z]at lo;refine eh lo (gy (gh (by omega) ?_));obtain⟨cq,cr,ct,ax,bJ,cu,aZ,bK⟩:=ak.Kh 3 rfl (k:=0) (y:=(0:Int)) (u:=V.I 0) (by omega) rfl rfl rfl;refine eh (ak.ld 1 rfl rfl) (eh ax ?_);rw[bJ,en];simp only[lO,ji]at aZ;have bL:Vw (λx=>x=0) (λ_=>0) u.blocks.length (xs.set 0 0):=⟨by simp[aR],λb hb=>by rw[hb,NZ (by omega)];rfl,by grind⟩
 have f:∀b,G.gr.node b↔b<u.blocks.length:=λb=>⟨λhb=>G.pre b hb,λhb=>Sj g G b hb⟩
 have ao:∀b,G.gr.node b->G.gr.place b<u.blocks.length:=λb hb=>by
  have r:=UC post.reverse b (wBY.2 hb);have:=(ki.1 r).1;show post.reverse.idxOf b<_;omega
 have a4:∀p,p<u.blocks.length->∃b,G.gr.node b/\G.gr.place b=p:=by grind
 refine Iu (λk w A R C D h'=>∃(c:Bool) (kk:Nat) (I:Nat->Nat) (S:Nat->Prop) (DR:List Int),w=vo/\A=va/\R = .ptr l5 0/\C = .func jG [] [.ptr l6 0,.ptr l5 0]/\D = .bool c/\k+kk=u.blocks.length+2/\(c=true->kk<=u.blocks.length+1)/\
  (c=false->(∀b,G.gr.node b->S b)/\∀b,G.gr.node b->b≠0->zaI G.gr I S b)/\Dm.Inv G.gr I S kk 1/\Vw S I u.blocks.length DR/\
  Sn W h9 W h'/\eo W h' (eQ l6 iZ [vp]::eQ l5 iZ [vi]::fg eN eR pl vp::fg eZ eR DR vi::eQ lb 30 (uC u vv vb vs)::cs)) ?_ (k:=u.blocks.length+1)
  ⟨true,1,λ_=>0,λx=>x=0,_,rfl,rfl,rfl,rfl,rfl,by omega,λ_=>by omega,λh=>(by cases h),Dm.Inv.start,bL,aj.trans bK,aZ⟩
 rintro k2 w A R C D cv ⟨c,kk,I,S,DR,e3,e4,rfl,rfl,rfl,cw,bQ,bR,hI,hR,an,ay⟩;subst w A;unfold Ab
 cases c with
 | false=>
   refine jj (gh (by simp) ?_);obtain⟨hS,hF⟩:=bR rfl;have a5:=RS hI hS hF ao a4 (u.blocks.length+1);obtain⟨l17,cx,aA,bS,bU,cy,q,J⟩:=ay.Kh 3 rfl (k:=0) (y:=(-1:Int)) (u:=V.I (-1)) (by rw[hR.len];omega) rfl rfl rfl;refine eh (ay.ld 1 rfl rfl) (eh bS ?_);rw[bU,en];simp only[lO,ji]at q;refine eh (q.ld 1 rfl rfl) ?_;obtain⟨a6,bV,bW⟩:=q.kL 3 rfl;simp only[lO,ji]at a6;refine H _ _ vi (DR.set 0 (-1)) I seen post G (((bA.trans an).trans J).trans bV) a6.tail.tail.tail.tail.tail bW (by simp[hR.len]) (by rw[NZ (by rw[hR.len];omega)]) (λb h0 hb=>?_) ⟨by omega,λb hb=>(f b).2 hb,λb hb h0=>?_⟩ λx b hb=>?_
   ·rw[KP λh=>h0 h.symm]
    exact hR.yes b (hS b ((f b).2 hb))
   ·obtain⟨r,h2⟩:=hI.tree.up b (hS b ((f b).2 hb)) h0
    exact⟨(f _).1 (hI.tree.node _ r),h2⟩
   ·rw[a5.exact (λb hb=>(f b).1 hb) (by omega) (hS b ((f b).2 hb))]
    exact(YT λa b=>Iff.rfl).symm
 | true =>
   refine jj (gz rfl ?_);have cz:=bQ rfl;obtain⟨aB,bX,aC⟩:=(r2.since an).cut (lo:=some (V.I ((1:Nat):Int))) (hi:=none) (m:=1) (n:=post.reverse.length) (Lk _ _ _) (GS _) (by omega) (jO _);rw[Ki]at aC;refine eh bX (eh aC.len ?_);have a7:(post.reverse.drop 1).length=u.blocks.length-1:=by rw[List.length_drop,Z]
   rw[a7]
   refine Ic (λk w A R C D K aa ab h'=>∃(i:Nat) (c:Bool) (I:Nat->Nat) (S:Nat->Prop) (DR:List Int),w=vo/\A=va/\R = .ptr l5 0/\C = .func jG [] [.ptr l6 0,.ptr l5 0]/\D = .bool c/\K=aB/\aa = .I ((u.blocks.length-1:Nat):Int)/\ab = .I (i:Nat)/\i+k=u.blocks.length-1/\
     (c=true->kk<=u.blocks.length)/\(c=false->∀b,G.gr.node b->G.gr.place b<i+1->S b/\(b≠0->zaI G.gr I S b))/\Dm.Inv G.gr I S kk (i+1)/\Vw S I u.blocks.length DR/\
     Sn W h9 W h'/\eo W h' (eQ l6 iZ [vp]::eQ l5 iZ [vi]::fg eN eR pl vp::fg eZ eR DR vi::eQ lb 30 (uC u vv vb vs)::cs)) ?_ (k:=u.blocks.length-1)
     ⟨0,false,I,S,DR,rfl,rfl,rfl,rfl,rfl,rfl,rfl,rfl,by omega,λh=>(by cases h),λ_ b hb bY=>by
       obtain rfl:b=0:=G.gr.inj b 0 hb G.gr.first (by have:=G.gr.EF;omega);exact⟨hI.tree.zero,λh=>absurd rfl h⟩,hI,hR,an,ay⟩
   rintro k3 w A R C D K aa ab aA ⟨i,c,T,S1,U,e3,e4,rfl,rfl,rfl,a8,rfl,rfl,cA,a9,bZ,ac,s,J,q⟩;subst w A K;unfold zW;by_cases hi:i<u.blocks.length-1;rotate_left
   ·refine iQ ?_
    obtain rfl:i=u.blocks.length-1:=by omega
    have hp:=ac.pass λb hb=>by have:=ao b hb;omega
    refine⟨k2-1,by omega,c,kk+1,T,S1,U,rfl,rfl,rfl,rfl,rfl,by omega,λh=>by have:=a9 h;omega,λh=>?_,hp,s,J,q⟩
    simp_all
   refine gK ?_;obtain⟨b,hb⟩:∃b,post.reverse[i+1]? =some b:=⟨_,iy (by omega)⟩
   have ae:G.gr.node b:=wBY.1 (DG hb);have al:=(f b).1 ae;have aD:G.gr.place b=i+1:=NX G hb;have aE:b≠0:=λe=>by subst e;rw[G.gr.EF]at aD;omega
   have ba:im eN W aA (post.reverse.drop 1) aB:=aC.fj λl hl=>(J.fj l hl).trans (an.fj l hl).symm;obtain⟨l18,cB,_,j1,j2⟩:=ba.nat (i:=i) (x:=b) (by rw[wBL,Nat.add_comm];exact hb) .i64;obtain⟨cC,cD,b4,_,m1,m2,m3⟩:=(r3.since J).list (i:=b) (x:=Un.ahead u b) (by simp[al]) .i64;refine eh j1 (eh j2 (eh m1 (eh m2 (eh m3.len ?_))));have ag:∀p,G.gr.BY p b↔p∈Un.ahead u b:=λp=>Hq.symm;have cE:(Un.ahead u b).length<=700:=by
     rw[<-pY];have:=pZ g (i:=u.blocks.length) (j:=0) (b:=b) (jO _) (by omega);omega
   refine Ib (λk w A R C D bb bc K aa ab aF bd be h'=>∃(j:Nat) (dd:Int),w=vo/\A=va/\R = .ptr l5 0/\C = .func jG [] [.ptr l6 0,.ptr l5 0]/\D = .bool c/\bb = .I (b:Nat)/\bc = .I dd/\K=aB/\aa = .I ((u.blocks.length-1:Nat):Int)/\ab = .I (i:Nat)/\
     aF=b4/\bd = .I ((Un.ahead u b).length:Nat)/\be = .I (j:Nat)/\j+k=(Un.ahead u b).length/\h' = aA/\
     ((dd = -1/\∀p∈(Un.ahead u b).take j,¬S1 p)\/∃d:Nat,dd=(d:Int)/\S1 d/\(∀p∈(Un.ahead u b).take j,S1 p->qo T d p)/\∀x,(∀p∈(Un.ahead u b).take j,S1 p->qo T x p)->qo T x d)) ?_ (k:=(Un.ahead u b).length)
     ⟨0,-1,rfl,rfl,rfl,rfl,rfl,rfl,rfl,rfl,rfl,rfl,rfl,rfl,rfl,by omega,rfl,.inl ⟨rfl,λp hp=>by simp at hp⟩⟩
   rintro k4 w A R C D bb bc K aa ab aF bd be b5 ⟨j,dd,e3,e4,rfl,rfl,rfl,rfl,rfl,a8,rfl,rfl,cF,rfl,rfl,cG,rfl,X⟩;subst w A K aF;unfold Ah;by_cases hj:j<(Un.ahead u b).length
   ·refine gK ?_
    obtain⟨a,ha⟩:∃a,(Un.ahead u b)[j]? =some a:=⟨_,iy hj⟩
    have bf:a<u.blocks.length:=by
      have:=Hq.1 (DG ha);exact(g.YM this).1
    have b6:(Un.ahead u b).take (j+1)=(Un.ahead u b).take j++[a]:=by
      obtain⟨r,rfl⟩:=ki.1 ha;exact MU r
    obtain⟨cH,cI,_,q1,q2⟩:=m3.nat ha .i64;refine eh q1 (eh q2 (eh (q.ld 1 rfl rfl) ?_));have t:∀p,p∈(Un.ahead u b).take (j+1)↔p∈(Un.ahead u b).take j\/p=a:=λp=>by rw[b6];simp
    by_cases hS:S1 a;rotate_left
    ·obtain⟨aG,aH,t1,t2⟩:=q.Qd 3 rfl (s.no a bf hS) .i64
     refine eh t1 (eh t2 (gK ?_));refine rl ?_;unfold oK;refine lZ (m:=1) (by omega) (by omega) ⟨k4-1,by omega,j+1,dd,rfl,rfl,rfl,rfl,rfl,rfl,rfl,rfl,rfl,rfl,rfl,rfl,rfl,by omega,rfl,?_⟩;have cJ:∀{P:Nat->Prop},(∀p∈(Un.ahead u b).take (j+1),S1 p->P p)↔(∀p∈(Un.ahead u b).take j,S1 p->P p):=λ{P}=>⟨λh p hp=>h p ((t p).2 (.inl hp)),by grind⟩
     simp_all
    obtain⟨aG,aH,t1,t2⟩:=q.Qd 3 rfl (s.yes a hS) .i64;refine eh t1 (eh t2 (iQ ?_));rcases X with⟨rfl,r⟩|⟨d,rfl,r,h2,M⟩
    ·refine gK ?_
     refine rl ?_;unfold oK;refine lZ (m:=1) (by omega) (by omega) ⟨k4-1,by omega,j+1,(a:Int),rfl,rfl,rfl,rfl,rfl,rfl,rfl,rfl,rfl,rfl,rfl,rfl,rfl,by omega,rfl,?_⟩;refine .inr ⟨a,rfl,hS,λp hp hs=>?_,λx hx=>hx a ((t a).2 (.inr rfl)) hS⟩;rcases(t p).1 hp with N|rfl
     ·exact absurd hs (r p N)
     ·exact .refl _
    ·refine iQ ?_
     show cP CS jG [.I (d:Nat),.I (a:Nat),.ptr l6 0,.ptr l5 0] b5 _;refine zal q (i5:=1) (i6:=0) (ii:=3) (ip:=2) rfl rfl rfl rfl ac.tree s am r hS λd' g1 g2 g3 g4=>?_;refine rl ?_;unfold oK;refine lZ (m:=1) (by omega) (by omega) ⟨k4-1,by omega,j+1,(d':Int),rfl,rfl,rfl,rfl,rfl,rfl,rfl,rfl,rfl,rfl,rfl,rfl,rfl,by omega,rfl,?_⟩;refine .inr ⟨d',rfl,g1,λp hp hs=>?_,λx hx=>g4 x (M x λp hp hs=>hx p ((t p).2 (.inl hp)) hs) (hx a ((t a).2 (.inr rfl)) hS)⟩;rcases(t p).1 hp with N|rfl
     ·exact g2.trans (h2 p N hs)
     ·exact g3
   refine iQ ?_;rw[ZJ (by omega)]at X;obtain⟨p0,bg,bh,ca⟩:=G.gr.early b ae aE;have bi:S1 p0:=ac.done p0 bg (by omega);obtain⟨d,rfl,cK,aI,bj⟩:∃d:Nat,dd=(d:Int)/\S1 d/\(∀p∈Un.ahead u b,S1 p->qo T d p)/\∀x,(∀p∈Un.ahead u b,S1 p->qo T x p)->qo T x d:=by
     rcases X with⟨_,r⟩|r
     ·exact absurd bi (r p0 ((ag p0).1 bh))
     ·exact r
   have ah:∀p,S1 p->G.gr.BY p b->qo T d p:=λp hs he=>aI p ((ag p).1 he) hs;have B:∀x,(∀p,S1 p->G.gr.BY p b->qo T x p)->qo T x d:=by simp_all
   have bm:i<1000000000:=by clear X;omega
   have ap:k3-1<k3:=by clear X;omega
   have aq:i+1+(k3-1)=u.blocks.length-1:=by clear X;omega
   have ai:=(ac.OP ae aE aD ah B).1;refine eh (q.ld 1 rfl rfl) ?_;by_cases hsame:S1 b/\T b=d
   ·obtain ⟨L,rfl⟩:=hsame
    obtain⟨aG,aH,t1,t2⟩:=q.Qd 3 rfl (s.yes b L) .i64;refine eh t1 (eh t2 (yj (gz rfl ?_)));refine zG ?_;unfold qW;rw[RX,VF L]at ai;refine lZ (m:=1) bm (by decide) ⟨k3-1,ap,i+1,c,T,S1,U,rfl,rfl,rfl,rfl,rfl,rfl,rfl,rfl,aq,a9,λhc b' bo bY=>?_,ai,s,J,q⟩;rcases Tj (G.gr.place b') (i+1)with r|r
    ·exact bZ hc b' bo r
    ·obtain rfl:b' = b:=G.gr.inj _ _ bo ae (by omega)
     exact⟨L,λ_=>⟨ah,B⟩⟩
   ·obtain ⟨y,hy,br⟩:∃y:Int,U[b]? =some y/\y≠(d:Int):=by
      by_cases L:S1 b
      ·refine⟨(T b:Int),s.yes b L,λe=>hsame ⟨L,?_⟩⟩
       exact Int.ofNat.inj e
      ·refine⟨-1,s.no b al L,?_⟩
       omega
    obtain⟨aG,aH,t1,t2⟩:=q.Qd 3 rfl hy .i64;refine eh t1 (eh t2 (yj (gh br ?_)));obtain⟨cL,cM,cN,b7,b8,cO,bt,b9⟩:=q.Kh 3 rfl (k:=b) (y:=(d:Int)) (u:=V.I (d:Nat)) (by rw[s.len];exact al) rfl rfl rfl;refine eh (q.ld 1 rfl rfl) (eh b7 ?_);rw[b8,en];simp only[lO,ji]at bt;refine zG ?_;unfold qW;refine lZ (m:=1) bm (by decide) ⟨k3-1,ap,i+1,true,Dm.set T b d,λx=>S1 x\/x=b,U.set b (d:Int),rfl,rfl,rfl,rfl,rfl,rfl,rfl,rfl,aq,λ_=>?_,λh=>(by cases h),ai,⟨by simp[s.len],λx hx=>?_,λx hx hn=>?_⟩,J.trans b9,bt⟩
    ·rcases Tj u.blocks.length kk with r|r
     ·exfalso
      obtain⟨h2,M⟩:=ac.stay (n:=u.blocks.length) (λb hb=>(f b).1 hb) r ae aE aD ah B;exact hsame ⟨h2,M.symm⟩
     ·exact r
    ·unfold Dm.set
     by_cases e:x=b
     ·grind
     ·rw[KP λh=>e h.symm,if_neg e]
      exact s.yes x (hx.resolve_right e)
    ·have e:x≠b:=λe=>hn (.inr e)
     rw[KP λh=>e h.symm];exact s.no x hx λh=>hn (.inl h)
end
open Un Dm
structure zfq (u:U) (DR:List Int) (I:Nat->Nat):Prop where
 len:DR.length=u.blocks.length
 zero:DR[0]? =some (-1)
 at_:∀b,b≠0->b<u.blocks.length->DR[b]? =some (I b:Int)
 zfs:∃r:Nat->Nat,∀b,b<u.blocks.length->b≠0->I b<u.blocks.length/\r (I b)<r b
 iff:∀x b,b<u.blocks.length->(qo I x b↔o0 (next u) x b)
section
variable{F F':Nat->Prop}{h h':Hp}{cs:List Pc}{Q:fD}{u:U}{vv vb vs:V}{lc:Nat}{bl pl GD:V}{xs ys DR:List Int}{I:Nat->Nat}
structure Cx (F:Nat->Prop) (h:Hp) (cs:List Pc) (lc:Nat) (u:U) (vv vb vs bl pl GD:V) (xs ys DR:List Int) (I:Nat->Nat):Prop where
 ck:Ck F h cs lc u vv vb vs bl pl GD
 rbl:im eZ F h xs bl
 rpl:im eZ F h ys pl
 rim:im eZ F h DR GD
 std:Std u u.blocks.length 0 xs ys
 TG:zfq u DR I
theorem Cx.since(C:Cx F h cs lc u vv vb vs bl pl GD xs ys DR I)(s:Sn F h F' h')(a:eo F' h' cs):Cx F' h' cs lc u vv vb vs bl pl GD xs ys DR I:=⟨C.ck.since s a,C.rbl.since s,C.rpl.since s,C.rim.since s,C.std,C.TG⟩
theorem Cx.cons(C:Cx F h cs lc u vv vb vs bl pl GD xs ys DR I)(s:Sn F h F' h'){p:Pc}(a:eo F' h' (p::cs)):Cx F' h' (p::cs) lc u vv vb vs bl pl GD xs ys DR I:=⟨C.ck.cons s a,C.rbl.since s,C.rpl.since s,C.rim.since s,C.std,C.TG⟩
theorem Qz(C:Cx F h cs lc u vv vb vs bl pl GD xs ys DR I){a b:Nat}(hb:b<u.blocks.length)(q:qo I a b)(H:Q (.bool true) h):cP CS mK [.ptr lc 0,.I a,.I b] h Q:=by
 refine DB rfl rfl ?_;unfold vM;obtain⟨r,m⟩:=C.TG.zfs;refine Bb (λk g i j h'=>∃c:Nat,g = .ptr lc 0/\i = .I a/\j = .I (c:Nat)/\k=r c/\c<u.blocks.length/\qo I a c/\h' = h) ?_ (k:=r b) (by grind);rintro k g i j h' ⟨c,rfl,rfl,rfl,s,d,f,rfl⟩;unfold rM;refine Pe (gz (by omega) ?_);by_cases e:a=c
 ·exact gy (gz (by omega) H)
 refine gy (gh (by omega) ?_)
 cases f with
 |refl=>omega
 | up h0 t=>
   obtain⟨l,o,_,n,p⟩:=C.rim.int (C.TG.at_ c h0 d) .i64;obtain⟨r1,r2⟩:=m c d h0;exact eh (fZ _ _) (eh (by rfl) (eh (C.ck.ld 7 rfl) (eh n (eh p (by grind)))))
theorem JS(C:Cx F h cs lc u vv vb vs bl pl GD xs ys DR I){l:List Nat}{v:V}{b p:Nat}(A:im eN F h l v)(U:l.length<1000000)(hb:b<u.blocks.length)(hs:∀w∈l,∃c j,At u w c j/\(c=b->j<p)/\o0 (next u) c b)(H:Q (.bool true) h) :
  cP CS jK [.ptr lc 0,v,.I b,.I p] h Q:=by
 refine Jz rfl rfl ?_;unfold Bl;refine eh A.len ?_;refine Ge (λk D E G a d f h'=>∃i:Nat,D = .ptr lc 0/\E = .I b/\G = .I p/\a=v/\d = .I l.length/\f = .I (i:Nat)/\i+k=l.length/\h' = h) ?_ (k:=l.length) (by simp_all);rintro k D E G a d f h' ⟨i,rfl,rfl,rfl,rfl,rfl,rfl,W,rfl⟩;unfold yD;by_cases hi:i<l.length;rotate_left
 ·exact iQ H
 refine gK ?_;obtain⟨c,j,g,L,m⟩:=hs _ (AY hi);have n:c<u.blocks.length:=by
  obtain⟨B,X,_⟩:=g;exact by grind
 obtain ⟨M,N⟩:=C.std.yes _ c j g (.inl n);obtain⟨l1,Y,_,O,P⟩:=A.nat (iy hi) .i64;obtain⟨l2,Z,_,J,K⟩:=C.rbl.int M .i64;obtain⟨l3,o3,_,R,S⟩:=C.rpl.int N .i64;refine eh O (eh P (eh (fZ _ _) (eh (by rfl) (eh (C.ck.ld 5 rfl) (eh J (eh K (eh (by rfl) ?_)))))));have e:kE (.bool (((c:Int)) == (b:Int))) (oB (some (V.ptr lc 0)) λo=>oB (iL o) λq=>oB (fJ 6 q) λr=>oB (fe r h') λs=>oB (some (V.I (l[i]:Nat))) λt=>oB (gB 1 s t) λx=>oB (fe x h') λy=>oB (some (V.I p)) λz=>ez .geq 3 y z)=some (.bool false):=by
  have l6:fe (.ptr lc (0+6)) h' = some pl:=C.ck.ld 6 rfl;simp only[fo,fZ,fM,l6,R,S,pP,j8];congr 2;rw[wBj];intro T;simp only[vH,Cw,CU]at T;have:=by omega
  omega
 refine eh e ?_;refine fG (eh rfl (fG (eh rfl (fG (eh (fZ _ _) (fG (eh (by rfl) (fG (eh (C.ck.ld 5 rfl) (fG (eh rfl (fG (eh J (fG (eh K (fG (eh rfl (pW ?_))))))))))))))))));refine Qz C hb ((C.TG.iff c b hb).2 m) (eh rfl (jj (gh (by simp) ?_)));exact fL ⟨k-1,by omega,i+1,rfl,rfl,rfl,rfl,rfl,rfl,by omega,rfl⟩
theorem JR(C:Cx F h cs lc u vv vb vs bl pl GD xs ys DR I){s b p:Nat}{fs:List Fm}(n:u.ev[s]? =some fs)(z:fs.length<=30/\∀f∈fs,f.locals.length<=40/\f.stack.length<=60)(hb:b<u.blocks.length)
  (hs:∀w∈ik fs,∃c j,At u w c j/\(c=b->j<p)/\o0 (next u) c b) (H:∀h',Sn F h F h'->eo F h' cs->Q (.bool true) h') :
  cP CS jE [.ptr lc 0,.I s,.I b,.I p] h Q:=by
 refine Er rfl rfl ?_;unfold wi;obtain⟨l1,K,f,_,A,_,B,o⟩:=C.ck.u.st n;refine eh (fZ _ _) (eh (by rfl) (eh (by rfl) (eh (C.ck.ld 4 rfl) (eh A (eh (by rfl) (eh B (eh o.len ?_)))))))
 refine Bt (λk q r t d e g h'=>∃j:Nat,q = .ptr lc 0/\r = .I b/\t = .I p/\d=f/\e = .I fs.length/\g = .I (j:Nat)/\j+k=fs.length/\Sn F h F h'/\eo F h' cs) ?_ (k:=fs.length)
  ⟨0,rfl,rfl,rfl,rfl,rfl,rfl,by omega,Sn.refl _ _,C.ck.H⟩
 rintro k q r t d e g D ⟨j,rfl,rfl,rfl,rfl,rfl,rfl,L,i,v⟩;unfold qS;by_cases hj:j<fs.length;rotate_left
 ·exact iQ (H D i v)
 refine gK ?_;obtain⟨l3,M,a,c,_,E,G,x,y⟩:=(o.since i).pG (iy hj);obtain⟨N,O⟩:=z.2 _ (AY hj);have J:∀w,w∈fs[j].locals\/w∈fs[j].stack->w∈ik fs:=by grind[ik,AY]
 refine eh E (eh G ?_);refine gZ v rfl rfl (by simp only[Ll,eJ,x.one,y.one];rfl) λP l m=>?_;have C2:=C.since (i.trans m) l.tail;refine eh (by rfl) (eh (l.ld 0 rfl rfl) ?_);refine JS C2 (x.since m) (by omega) hb (by simp_all) (eh rfl ?_);refine fG (eh rfl (fG (eh (by rfl) (fG (eh (l.ld 0 rfl rfl) (fG (eh rfl (fG (eh rfl (pW ?_))))))))));refine JS C2 (y.since m) (by omega) hb (by simp_all) (eh rfl (jj (gh (by simp) ?_)));exact fL ⟨k-1,by omega,j+1,rfl,rfl,rfl,rfl,rfl,rfl,by omega,i.trans m,l.tail⟩
theorem VK{w b k:Nat}(h:zE u w b k):∃c j,At u w c j/\(c=b->j<k)/\o0 (next u) c b:=by
 obtain⟨c,j,d,a⟩:=h;rcases a with⟨rfl,a⟩|⟨a,e⟩
 ·grind[o0.self]
 grind
theorem Ju{w b:Nat}{B:Bk}(f:u.blocks[b]? =some B)(h:zb u w b):∃c j,At u w c j/\(c=b->j<B.ej.length)/\o0 (next u) c b:=by
 obtain⟨c,j,a,d⟩:=h;refine⟨c,j,a,λe=>?_,d⟩;subst e;obtain⟨g,i,k⟩:=a
 grind
theorem XX{lv:Nat}{x:Vl}{w:V}{a0:V}{i k:Nat}(a:a0 = .ptr lc 0)(C:Cx F h (eQ lv hH (mF x w)::cs) lc u vv vb vs bl pl GD xs ys DR I)(hc:lv≠lc)(B:fe (.ptr lv 5) h=some (.I x.state))(hb:i<u.blocks.length)
  (D:leaves x.op=true->∃fs,u.ev[x.state]? =some fs/\(fs.length<=30/\∀f∈fs,f.locals.length<=40/\f.stack.length<=60)/\∀w∈ik fs,∃c j,At u w c j/\(c=i->j<k)/\o0 (next u) c i) {K:fD}
  (A:∀h',Sn F h F h'->eo F h' (eQ lv hH (mF x w)::cs)->K (.bool false) h') :
  oP (fF true (.bool (leaves x.op))) λb=>
  oP (gV b (some a0)) λd=>
  oP (fF true (.bool (leaves x.op))) λe=>
  oP (gV e (fJ 5 (.ptr lv 0))) λg=>
  oP (fF true (.bool (leaves x.op))) λl=>
  oP (gV l (fe g h)) λm=>
  oP (fF true (.bool (leaves x.op))) λn=>
  oP (gV n (some (.I i))) λo=>
  oP (fF true (.bool (leaves x.op))) λp=>
  oP (gV p (some (.I k))) λq=>
  oP (fF true (.bool (leaves x.op))) λr=>
  oP (gC r (some (jE,[d,m,o,q]))) λs=>qP CS s h λt E=>
  oP (fF true (.bool (leaves x.op))) λv=>
  oP (gV v (qf .not t)) λy=>
  oP (og (.bool false) (jB (.bool (leaves x.op)) y (V.bool false))) λz=>K z E:=by
 subst a
 cases hq:leaves x.op with
 | true=>
   obtain⟨fs,G,J,L⟩:=D hq;refine fY (eh rfl (fY (eh (by rfl) (fY (eh B (fY (eh rfl (fY (eh rfl (vS ?_))))))))))
   refine JR C G J hb L λh' s' M=>fY (eh rfl (eh rfl (A h' s' M)))
 |false=>exact iu (iu (iu (iu (iu (GL (iu (eh rfl (A h (Sn.refl _ _) C.ck.H))))))))
theorem YA(g:Good u)(C:Cx F h cs lc u vv vb vs bl pl GD xs ys DR I)(ai:lc<h.next){i:Nat}{B:Bk}(d:u.blocks[i]? =some B)(H:∀F' h',Sn F h F' h'->eo F' h' cs->Q (.bool true) h'):cP CS mV [.ptr lc 0,.I i] h Q:=by
 refine Ih rfl rfl ?_;unfold zY;have nv:=g.nv;have nb:=g.nb;have r:i<u.blocks.length:=by grind
 have aj:∀(s:Nat) (fs:List Fm),u.ev[s]? =some fs->fs.length<=30/\∀f∈fs,f.locals.length<=40/\f.stack.length<=60:=λs fs a=>by
  obtain⟨_,h2,h3⟩:=g.st s fs a
  simp_all
 have ak:B.ej.length<=3000:=by
  have:=jM u.ej.length B.ej (I5 g d) λv hv=>by
   obtain⟨k,hk⟩:=oY.1 hv;exact g.ko v i k ⟨B,d,hk⟩
  omega
 obtain⟨l7,o7,bv,bn,bp,_,i1,i2,N,iN,ip,_⟩:=C.ck.u.pE d;refine eh (fZ _ _) (eh (by rfl) (eh (by rfl) (eh (C.ck.ld 3 rfl) (eh i1 (eh i2 ?_)))));refine gZ C.ck.H rfl rfl (by simp only[km,eJ,N.one,iN.one,ip.one];rfl) λh2 H2 D=>?_;have C2:=C.cons D H2;have N:=N.since D;have iN:=iN.since D;have ip:=ip.since D;refine eh (by rfl) (eh (H2.ld 0 rfl rfl) (eh N.len (eh (by rfl) (eh (H2.ld 0 rfl rfl) (eh N.len ?_)))))
 refine Ez (λk R S T U c l o h'=>∃(F':Nat->Prop) (j:Nat),R = .ptr lc 0/\S = .I i/\T = .ptr h.next 0/\U = .I B.ej.length/\c=bv/\l = .I B.ej.length/\o = .I j/\j+k=B.ej.length/\
  Sn F h2 F' h'/\eo F' h' (eQ h.next 45 (km B bv bn bp)::cs)) ?_ (k:=B.ej.length) ⟨F,0,rfl,rfl,rfl,rfl,rfl,rfl,rfl,by omega,Sn.refl _ _,H2⟩
 rintro k R S T U c l o h3 ⟨F3,j,rfl,rfl,rfl,rfl,aa,rfl,rfl,hk,t,y⟩;subst c;unfold wZ;have C3:=C2.since t y;by_cases hj:j<B.ej.length;rotate_left
 ·refine iQ ?_;refine eh (by rfl) (eh (y.ld 0 rfl rfl) ?_);by_cases c2:B.fin=2
  ·refine gy (gz (by omega) ?_);refine eh (by rfl) (eh (y.ld 0 rfl rfl) ?_);refine zcS [B.cond] (qB _) y λF4 h4 v q s4 r4=>?_;refine JS (C3.since s4 q) r4 (by simp) r (λw hw=>?_) (H _ _ ((D.trans t).trans s4) q.tail);obtain rfl:=QJ.1 hw;exact Ju d (g.L8 i B d c2)
  refine gy (gh (by omega) ?_);by_cases c3:B.fin=3
  ·refine gy (gz (by omega) ?_);refine eh (by rfl) (eh (y.ld 0 rfl rfl) ?_);have oh:B.state<u.ev.length:=by
    rcases g.fin i B d with⟨G,_⟩|⟨G,_⟩|⟨_,_,G⟩
    ·omega
    ·omega
    ·exact G
   obtain⟨fs,a⟩:∃fs,u.ev[B.state]? =some fs:=by simp_all
   refine JR C3 a (by grind) r (λw hw=>Ju d (g.L4 i B fs d c3 a w hw)) λh4 s4 q=>H _ _ ((D.trans t).trans s4) q.tail
  ·exact gy (gh (by omega) (H _ _ (D.trans t) y.tail))
 refine gK ?_;have e:At u (B.ej[j]) i j:=⟨B,d,iy hj⟩
 have al:=g.ko _ _ _ e;obtain⟨x,hx⟩:∃x,u.ej[B.ej[j]]? =some x:=by simp_all
 have ab:B.fi.length<=700:=by
  rw[g.fi i B d,<-pY];have:=pZ g (i:=u.blocks.length) (j:=0) (b:=i) (jO _) (by omega);omega
 have ac:x.op=21\/x.op=20->x.args.length<=700:=by
  rintro(G|G)
  ·rw[(g.KN _ _ _ _ _ e hx G d).2];exact ab
  ·rw[g.putAt _ x hx G];omega
 obtain⟨l9,o9,_,j1,j2⟩:=(N.since t).nat (iy hj) .i64;obtain⟨l10,am,w,_,q1,q2,iw,_⟩:=C3.ck.u.val hx;refine eh j1 (eh j2 (eh (fZ _ _) (eh (by rfl) (eh (by rfl) (eh (C3.ck.ld 2 rfl) (eh q1 (eh q2 ?_)))))));refine gZ y rfl rfl (by simp only[mF,eJ,iw.one];rfl) λh4 q s4=>?_;have C4:=C3.cons s4 q;have J:=iw.since s4;have an:h3.next<=h4.next:=s4.next;have ao:h.next<h3.next:=(y.ok 0 _ rfl).2.1;refine eh (by rfl) (eh (q.ld 0 rfl rfl) ?_);by_cases K:x.op=21
 ·refine gy (gz (by omega) ?_);refine eh (by rfl) (eh (q.ld 0 rfl rfl) (eh J.len ?_));have ap:=(g.KN _ _ _ _ _ e hx K d).2
  refine Fq (λk R S T U c l o L V W h'=>∃(F':Nat->Prop) (m:Nat),R = .ptr lc 0/\S = .I i/\T = .ptr h.next 0/\U = .I B.ej.length/\c=bv/\l = .I B.ej.length/\o = .I j/\L=w/\V = .I x.args.length/\W = .I m/\m+k=x.args.length/\
   Sn F3 h4 F' h'/\eo F' h' (eQ h3.next 34 (mF x w)::eQ h.next 45 (km B bv bn bp)::cs)) ?_ (k:=x.args.length) ⟨F3,0,rfl,rfl,rfl,rfl,rfl,rfl,rfl,rfl,rfl,rfl,by omega,Sn.refl _ _,q⟩
  rintro k2 R S T U c l o L V W h5 ⟨F5,m,rfl,rfl,rfl,rfl,aa,rfl,rfl,aq,rfl,rfl,ar,A,M⟩;subst c L;unfold xW;have C5:=C4.since A M;by_cases hm:m<x.args.length;rotate_left
  ·refine iQ ?_;refine wH ?_;unfold pN;exact fL ⟨k-1,by omega,F5,j+1,rfl,rfl,rfl,rfl,rfl,rfl,rfl,by omega,(t.trans s4).trans A,M.tail⟩
  refine gK ?_;obtain⟨l11,au,ah,m1,m2⟩:=(J.since A).nat (iy hm) .i64;refine eh m1 (eh m2 ?_);have aw:m<B.fi.length:=by omega
  obtain⟨p,hp⟩:∃p,B.fi[m]? =some p:=by simp_all
  have ae:p<u.blocks.length:=by
   have:=DG hp;rw[g.fi i B d]at this;exact(g.YM (Hq.1 this)).1
  obtain⟨P,hP⟩:∃P,u.blocks[p]? =some P:=by simp_all
  rw[qB,hX];obtain⟨O,X,r6⟩:=M.za4 (E:=eN) (xs:=[x.args[m]]) (n:=1) eR rfl (zI F5 h5 [x.args[m]]) false;have g6:(h5.new (.cells 3 1 true false (ic [x.args[m]]))).get h5.next=some (.cells 3 1 true false (ic [x.args[m]])):=fq _ _;have C6:=C5.since X O;obtain⟨l12,ax,_,n1,n2⟩:=(((ip.since t).since s4).since (A.trans X)).nat hp .i64;obtain⟨l13,ay,pv,pn,pp,_,p1,_,ag,_,_,pa⟩:=C6.ck.u.pE hP;refine eh (by rfl) (eh (O.ld 1 rfl rfl) (eh n1 (eh n2 (eh (fZ _ _) (eh (by rfl) (eh (by rfl) (eh (C6.ck.ld 3 rfl) ?_)))))));refine eh (by rfl) (eh (O.ld 1 rfl rfl) (eh n1 (eh n2 (eh p1 (eh (by rfl) (eh pa.ej (eh ag.len ⟨by simp_all,?_⟩)))))));refine JS C6 r6 (by simp) ae (λz Y=>?_) ⟨jO _,rP (gz rfl ?_)⟩
  ·obtain rfl:=QJ.1 Y;exact Ju hP (g.L1 _ i j x B e hx K d m _ p (by simp_all) hp)
  ·exact fL ⟨k2-1,by omega,_,m+1,rfl,rfl,rfl,rfl,rfl,rfl,rfl,rfl,rfl,rfl,by omega,A.trans X,O⟩
 refine gy (gh (by omega) ?_);refine eh (q.pC 0 rfl rfl) ?_;refine KA q J (by omega) λF5 h5 v A M r5=>?_;have C5:=C4.since A M;refine JS C5 r5 (by grind[KI]) r (λz Y=>VK (g.GM _ i j x e hx K z Y)) (eh rfl ?_);refine fG (eh (by rfl) (fG (eh (M.ld 0 rfl rfl) (pW ?_))));refine Hm (fG (eh rfl ?_));refine XX rfl C5 (by omega) (M.ld 0 rfl rfl) r (λZ=>?_) λh6 X O=>?_
 ·have oh:=g.leave _ x hx Z;obtain⟨fs,a⟩:∃fs,u.ev[x.state]? =some fs:=by simp_all
  exact⟨fs,a,by grind,λz Y=>VK (g.Md _ i j x fs e hx Z a z Y)⟩
 ·refine jj (gh (by simp) ?_);refine wH ?_;unfold pN;exact fL ⟨k-1,by omega,F5,j+1,rfl,rfl,rfl,rfl,rfl,rfl,rfl,by omega,((t.trans s4).trans A).trans X,O.tail⟩
end
open Un Dm
section
variable{F F':Nat->Prop}{h h':Hp}{cs:List Pc}{Q:fD}{u:U}{vv vb vs:V}
theorem Yn(g:Good u)(H0:eo F h cs)(hu:wW F h u vv vb vs)(H:∀F' h',Sn F h F' h'->eo F' h' cs->Q (.bool true) h'):cP CS Cf [.agg (uC u vv vb vs)] h Q:=by
 refine SQ rfl rfl ?_;unfold Mc;have nv:=g.nv;have nb:=g.nb;have MH:=g.MH;have ns:=g.ns;refine jH H0 hu.one λx z s1=>?_;have r:=hu.since s1;have l2:fe (.ptr h.next (0+2)) x=some vv:=z.ld 0 rfl rfl;have l3:fe (.ptr h.next (0+3)) x=some vb:=z.ld 0 rfl rfl;have l4:fe (.ptr h.next (0+4)) x=some vs:=z.ld 0 rfl rfl;refine oF l2 (eh r.v.len (eh (qn _ _ _ _) ?_));rw[KM (by omega)];have e1:og (.bool false) (oB (fJ 3 (.ptr h.next 0)) λf=>oB (fe f x) λj=>oB (fI j) λk=>ez .gtr 3 k (V.I 300))=some (.bool false):=by
  simp only[oH,fM,fo,l3,r.b.len,qn];rw[KM (by omega)]
 have e2:og (.bool false) (oB (fJ 4 (.ptr h.next 0)) λf=>oB (fe f x) λj=>oB (fI j) λk=>ez .gtr 3 k (V.I 1000))=some (.bool false):=by
  simp only[oH,fM,fo,l4,r.s.len,qn];rw[KM (by omega)]
 have e3:og (.bool false) (oB (fJ 3 (.ptr h.next 0)) λf=>oB (fe f x) λj=>oB (fI j) λk=>ez .eql 3 k (V.I 0))=some (.bool false):=by
  simp only[oH,fM,fo,l3,r.b.len,g0];congr 2;rw[Wc];omega
 refine eh e1 (eh e2 (eh e3 (jj (gh (by simp) ?_))));refine eh (z.pC 0 rfl rfl) (eh (show _=some (V.agg [.I u.func,.I u.pc,vv,vb,vs,.ei,.ei,.ei]) from rfl) ?_);refine jH z (by simp only[eJ,r.v.one,r.b.one,r.s.one];rfl) λJ K s2=>?_;have C:=r.since s2;generalize x.next=lc at*;have l4:fe (.ptr h.next (0+4)) J=some vs:=K.ld 1 rfl rfl;refine oF l4 (eh C.s.len ?_);have C2:Ck F J (eQ lc 96 [.I u.func,.I u.pc,vv,vb,vs,.ei,.ei,.ei]::eQ h.next 30 (uC u vv vb vs)::cs) lc u vv vb vs .ei .ei .ei:=⟨K,⟨0,_,rfl⟩,C⟩
 refine NY (by omega) (λF' h'=>F' = F/\Sn F J F h'/\eo F h' (eQ lc 96 [.I u.func,.I u.pc,vv,vb,vs,.ei,.ei,.ei]::eQ h.next 30 (uC u vv vb vs)::cs)) ⟨rfl,Sn.refl _ _,K⟩ (λi hi F' h' hP n p=>?_) λF3 h3 hP=>?_
 ·obtain⟨rfl,s',l⟩:=hP;show cP CS mW [.ptr lc 0,.I i] h' n;have hs:=iy hi;obtain⟨g1,g2,g3⟩:=g.st i _ hs;exact Zp (C2.since s' l) hs ⟨g1,g2⟩ g3 λa c d=>p F' a ⟨rfl,s'.trans c,d⟩
 obtain⟨rfl,L,H3⟩:=hP;refine eh rfl (fG (eh rfl (pW ?_)));refine ZD g H3 (C.since L) λM N t w xs ys s4 O rb rp std=>?_;refine eh rfl (fG (eh rfl ?_));have P:=(C.since L).since s4;have R:Ck M N (eQ lc 96 [.I u.func,.I u.pc,vv,vb,vs,t,w,.ei]::eQ h.next 30 (uC u vv vb vs)::cs) lc u vv vb vs t w .ei:=⟨O,⟨0,_,rfl⟩,P⟩
 have l2:fe (.ptr h.next (0+2)) N=some vv:=O.ld 1 rfl rfl;refine fG (eh (fM _ _ _) (fG (eh l2 (fG (eh P.v.len (fG (eh rfl (fG (eh rfl (pW ?_))))))))));refine NY (F:=M) (by omega) (λF' h'=>Sn M N F' h'/\eo F' h' (eQ lc 96 [.I u.func,.I u.pc,vv,vb,vs,t,w,.ei]::eQ h.next 30 (uC u vv vb vs)::cs)) ⟨Sn.refl _ _,O⟩ (λi hi F' h' hP n p=>?_) λF5 h5 hP=>?_
 ·obtain⟨s',l⟩:=hP;show cP CS kQ [.ptr lc 0,.I i] h' n;exact zc9 g (R.since s' l) (rb.since s') std hi (l.ok 0 _ rfl).2.1 λe a c d=>p e a ⟨s'.trans c,d⟩
 obtain⟨D,E⟩:=hP;have u5:=P.since D;have l3:fe (.ptr h.next (0+3)) h5=some vb:=E.ld 1 rfl rfl;refine eh rfl (fG (eh rfl (fG (eh (fM _ _ _) (fG (eh l3 (fG (eh u5.b.len (fG (eh rfl (fG (eh rfl (pW ?_)))))))))))));refine NY (F:=F5) (by omega) (λF' h'=>Sn F5 h5 F' h'/\eo F' h' (eQ lc 96 [.I u.func,.I u.pc,vv,vb,vs,t,w,.ei]::eQ h.next 30 (uC u vv vb vs)::cs)) ⟨Sn.refl _ _,E⟩ (λi hi F' h' hP n p=>?_) λF6 h6 hP=>?_
 ·obtain⟨s',l⟩:=hP;show cP CS ny [.ptr lc 0,.I i] h' n;exact zaz g ((R.since D E).since s' l) (iy hi) λe a c d=>p e a ⟨s'.trans c,d⟩
 obtain⟨S,T⟩:=hP;have u6:=u5.since S;have l3:fe (.ptr h.next (0+3)) h6=some vb:=T.ld 1 rfl rfl;refine eh rfl (fG (eh rfl (fG (eh (fM _ _ _) (fG (eh l3 (fG (eh u6.b.len (fG (eh rfl (fG (eh rfl (pW ?_)))))))))))));refine NY (F:=F6) (by omega) (λF' h'=>Sn F6 h6 F' h'/\eo F' h' (eQ lc 96 [.I u.func,.I u.pc,vv,vb,vs,t,w,.ei]::eQ h.next 30 (uC u vv vb vs)::cs)) ⟨Sn.refl _ _,T⟩ (λi hi F' h' hP n p=>?_) λF7 h7 hP=>?_
 ·obtain⟨s',l⟩:=hP;show cP CS oW [.ptr lc 0,.I i] h' n;exact zcj g (((R.since D E).since S T).since s' l) (iy hi) λe a c d=>p e a ⟨s'.trans c,d⟩
 obtain ⟨s7,H7⟩:=hP;have u7:=u6.since s7;refine eh rfl (jj (gh (by simp) ?_));refine Ii rfl rfl ?_;unfold Af;have lA:fW 5 (.ptr lc 0) h7=some (.agg (uC u vv vb vs)):=by
  rw[AV (H7.get 0 rfl),EO (by simp)];rfl
 refine eh (fZ _ _) (eh (fM _ _ _) (eh lA ?_));refine SK g H7 u7 λF8 h8 vo seen post s8 U G ro=>?_;have W:=u7.since s8;have lo:=ro.len;rw[List.length_reverse,Tw g G]at lo;refine eh lo (oF (U.ld 1 rfl rfl) (eh W.b.len (yj (gz rfl ?_))));refine eh (U.pC 1 rfl rfl) ?_;refine IY g U W λX h9 vd DR I Y Z G' s9 H9 rd d1 d2 d3 d4 d5=>?_;obtain⟨A,aa,ag,q,y⟩:=H9.st 0 (o:=7) (u:=vd) rfl (by simp) rd.one;refine eh (fZ _ _) (eh (fM _ _ _) ?_);rw[show V.ptr lc (0+7)=V.ptr lc 7 from rfl,aa,en];simp only[lO,ji]at q;have B:=(W.since s9).since y;refine oF (q.ld 1 rfl rfl) (eh B.b.len ?_);have m:=((((D.trans S).trans s7).trans s8).trans s9).trans y
 have ab:Cx X A (eQ lc 96 [.I u.func,.I u.pc,vv,vb,vs,t,w,vd]::eQ h.next 30 (uC u vv vb vs)::cs) lc u vv vb vs t w vd xs ys DR I:=
  ⟨⟨q,⟨0,_,rfl⟩,B⟩,rb.since m,rp.since m,rd.since y,std,⟨d1,d2,d3,⟨G'.gr.place,λb hb h0=>d4.up b hb h0⟩,d5⟩⟩
 refine NY (F:=X) (by omega) (λF' h'=>Sn X A F' h'/\eo F' h' (eQ lc 96 [.I u.func,.I u.pc,vv,vb,vs,t,w,vd]::eQ h.next 30 (uC u vv vb vs)::cs)) ⟨Sn.refl _ _,q⟩ (λi hi F' h' hP n p=>?_) λah ai hP=>?_
 ·obtain⟨s',l⟩:=hP;show cP CS mV [.ptr lc 0,.I i] h' n;exact YA g (ab.since s' l) (l.ok 0 _ rfl).2.1 (iy hi) λe a c d=>p e a ⟨s'.trans c,d⟩
 obtain⟨ac,ae⟩:=hP;exact H _ _ (((((s1.trans s2).trans L).trans s4).trans m).trans ac) ae.tail.tail
end
