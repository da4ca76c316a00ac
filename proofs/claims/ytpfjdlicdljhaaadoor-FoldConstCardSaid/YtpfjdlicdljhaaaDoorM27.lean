/- Parts. -/
import Derived.Test.YtpfjdlicdljhaaaDoorM26
set_option maxHeartbeats 4000000
namespace Go.Proofs.YtpfjdlicdljhaaaDoor.Hx
open Un Dm
structure SN (G:Dm.Gr) (I:Nat->Nat) (S:Nat->Prop) (b:Nat):Prop where
 low:∀p,S p->G.xB p b->nL I (I b) p
 XJ:∀x,(∀p,S p->G.xB p b->nL I x p)->nL I x (I b)
theorem K7(I:Nat->Nat)(b:Nat):Dm.set I b (I b)=I:=by
 grind[Dm.set]
theorem Oh{S:Nat->Prop}{b:Nat}(h:S b):(λx=>S x\/x=b)=S:=by
 grind
theorem QK{G:Dm.Gr}{I:Nat->Nat}{S:Nat->Prop}{k n:Nat}(r:Dm.Inv G I S k 1)(l:∀b,G.node b->S b)(g:∀b,G.node b->b≠0->SN G I S b)(a:∀b,G.node b->G.place b<n)(d:∀p,p<n->∃b,G.node b/\G.place b=p):Dm.Inv G I S (k+1) 1:=by
 have f:∀m,1+m<=n->Dm.Inv G I S k (1+m):=by
  intro m
  induction m with
  |zero=>simp_all
  | succ m o=>
    intro s;have q:=o (by omega);obtain⟨b,c,h⟩:=d (1+m) (by omega);have h0:b≠0:=λe=>by subst e;rw[G.yU]at h;omega
    have i:=(q.HV c h0 h (g b c h0).low (g b c h0).XJ).1;rw[K7,Oh (l b c)]at i;exact i
 have t:1<=n:=by have:=a 0 G.first;omega
 have j:=f (n-1) (by omega);rw[show 1+(n-1)=n by omega]at j;exact j.pass a
theorem Lw{G:Dm.Gr}{I:Nat->Nat}{S:Nat->Prop}{k n:Nat}(d:Dm.Inv G I S k 1)(e:∀b,G.node b->S b)(f:∀b,G.node b->b≠0->SN G I S b)(a:∀b,G.node b->G.place b<n)(c:∀p,p<n->∃b,G.node b/\G.place b=p):∀m,Dm.Inv G I S (k+m) 1
 |0=>d
 |m+1=>QK (Lw d e f a c m) e f a c
section
variable{u:U}{seen:List Bool}{post:List Nat}
theorem Kv(g:Good u)(G:Bm u.blocks.length (next u) seen post []):∀b,b<u.blocks.length->b∈post:=by
 have c:∀b l,Pt (next u) b l->b∈post:=by
  intro b l a
  induction a with
  |nil=>obtain⟨p,a⟩:=G.last rfl;simp_all
  | step _ d e=>
    have:=(G.iff _).1 (G.closed _ e _ d)
    simp_all
 intro b f;obtain⟨l,h⟩:=g.reach b f
 grind
theorem Ln(g:Good u)(G:Bm u.blocks.length (next u) seen post []):post.length=u.blocks.length:=G.all (Kv g G)
theorem Tw(G:Bm u.blocks.length (next u) seen post []):post.reverse.Nodup:=by
 have:=G.nodup
 grind
theorem FT(G:Bm u.blocks.length (next u) seen post []){i b:Nat}(h:post.reverse[i]? =some b):G.gr.place b=i:=by
 show post.reverse.idxOf b=i;obtain⟨hi,rfl⟩:=gL.1 h;have a:=Tw G
 grind
end
section
variable{F F':Nat->Prop}{h h':Hp}{cs:List Pc}{Q:dg}{u:U}{vv vb vs:V}
structure N4 (S:Nat->Prop) (I:Nat->Nat) (n:Nat) (yA:List Int):Prop where
 len:yA.length=n
 yes:∀b,S b->yA[b]? =some (I b:Int)
 no:∀b,b<n->¬S b->yA[b]? =some (-1)
theorem Sy{G:Dm.Gr}{I:Nat->Nat}{S:Nat->Prop}{n l5 l6 t5 t6:Nat}{r vp:V}{yA:List Int}{pl:List Nat}(c:cS F h cs){i5 i6 ii ip:Nat}(s:cs[i5]? =some (cV l5 t5 [r]))(t:cs[i6]? =some (cV l6 t6 [vp]))(hi:cs[ii]? =some (cW eZ cT yA r))(u:cs[ip]? =some (cW eN cT pl vp))
  (f:Tree G I S) (v:N4 S I n yA) (i:∀b,G.node b->pl[b]? =some (G.place b)) {a b:Nat} (B:S a) (C:S b)
  (H:∀d,S d->nL I d a->nL I d b->(∀x,nL I x a->nL I x b->nL I x d)->Q (.I (d:Nat)) h):cP CS fC [.I a,.I b,.ptr l6 0,.ptr l5 0] h Q:=by
 refine B7 rfl rfl ?_;unfold uQ
 refine zL (λk w y z A h'=>∃a' b':Nat,w = .I (a':Nat)/\y = .I (b':Nat)/\z = .ptr l6 0/\A = .ptr l5 0/\h' = h/\k=G.place a' + G.place b'/\S a'/\S b'/\nL I a' a/\nL I b' b/\(∀x,nL I x a->nL I x b->nL I x a'/\nL I x b')) ?_ (k:=G.place a+G.place b)
  ⟨a,b,rfl,rfl,rfl,rfl,rfl,rfl,B,C,.refl _,.refl _,by simp_all⟩
 rintro k w y z A h' ⟨a',b',rfl,rfl,rfl,rfl,rfl,hk,sa,sb,j,l,D⟩;unfold rX;by_cases e:a' = b'
 ·subst e;refine xM (ei rfl ?_);exact H a' sa j l λx m o=>(D x m o).1
 refine xM (dM (by omega) ?_);obtain⟨N,op,p1,E⟩:=c.E2 ip u (i a' (f.node _ sa)) .i64;obtain⟨O,oq,J,K⟩:=c.E2 ip u (i b' (f.node _ sb)) .i64;refine cO (c.ld i6 t rfl) (cO p1 (cO E (cO (c.ld i6 t rfl) (cO J (cO K ?_)))));by_cases PL:G.place b' < G.place a'
 ·refine BM (ei (by omega) ?_);obtain⟨L,M,p,q⟩:=c.L9 ii hi (v.yes a' sa) .i64;refine cO (c.ld i5 s rfl) (cO p (cO q ?_));have h0:a'≠0:=λe=>by subst e;rw[G.yU]at PL;omega
  obtain⟨u1,u2⟩:=f.up a' sa h0;exact⟨_,by omega,I a',b',rfl,rfl,rfl,rfl,rfl,rfl,u1,sb,(nL.up h0 (.refl _)).trans j,l,λx m o=>⟨f.Up sa sb PL (by simp_all) (by simp_all),by simp_all⟩⟩
 ·refine BM (dM (by omega) ?_);obtain⟨L,M,p,q⟩:=c.L9 ii hi (v.yes b' sb) .i64;refine cO (c.ld i5 s rfl) (cO p (cO q ?_));have g:G.place a' < G.place b':=by
   have:G.place a'≠G.place b':=λe'=>e (G.inj _ _ (f.node _ sa) (f.node _ sb) e');omega
  have h0:b'≠0:=λe=>by subst e;rw[G.yU]at g;omega
  obtain⟨u1,u2⟩:=f.up b' sb h0;exact⟨_,by omega,a',I b',rfl,rfl,rfl,rfl,rfl,rfl,sa,u1,j,(nL.up h0 (.refl _)).trans l,λx m o=>⟨by simp_all,f.Up sb sa g (by simp_all) (by simp_all)⟩⟩
theorem HR(g:Good u)(H0:cS F h cs)(hu:zR F h u vv vb vs)
  (H:∀F' h' v yA I seen post (G:Bm u.blocks.length (next u) seen post []),Sn F h F' h'->cS F' h' cs->fJ eZ F' h' yA v->yA.length=u.blocks.length->yA[0]? =some (-1)->(∀b,b≠0->b<u.blocks.length->yA[b]? =some (I b:Int))->Tree G.gr I (λb=>b<u.blocks.length)->
   (∀x b,b<u.blocks.length->(nL I x b↔lE (next u) x b))->Q v h'):cP CS mn [.agg (uC u vv vb vs)] h Q:=by
 refine D3 rfl rfl ?_;unfold yg;have nb:=g.nb;have EE:=g.EE;refine kX H0 hu.one λs H1 s1=>?_;have lA:=H1.zt (n:=5) 0 rfl rfl;refine cO lA (cO lA ?_);refine Ki g H1 (hu.since s1) λF2 h2 vo seen post s2 H2 G r2=>⟨s2.next,H2.zt 0 rfl rfl,?_⟩
 refine Lu g H2 (hu.since (s1.trans s2)) λX N va s3 H3 r3=>⟨s3.next,?_⟩
 have u3:=hu.since ((s1.trans s2).trans s3);have r2:=r2.since s3;refine oF (H3.ld 0 rfl rfl) (cO u3.b.len ?_);rw[hV (z:=V.I 0) rfl (by decide) (by omega),fQ];obtain⟨H4,s4⟩:=H3.make (E:=eZ) (ty:=cT) (y:=0) (u:=V.I 0) u.blocks.length rfl rfl;have n4:(N.new (.cells cT 1 true false (List.replicate u.blocks.length (V.I 0)))).next=N.next+1:=rfl;have g4:(N.new (.cells cT 1 true false (List.replicate u.blocks.length (V.I 0)))).get N.next=some (.cells 3 1 true false (List.replicate u.blocks.length (V.I 0))):=dL _ _;show oP (dE 3 (.ptr h.next 0)) _;generalize bt:N.new (.cells cT 1 true false (List.replicate u.blocks.length (V.I 0)))=R at*;refine oF (H4.ld 1 rfl rfl) (cO (u3.since s4).b.len ?_);rw[hV (z:=V.I 0) rfl (by decide) (by omega),fQ];obtain⟨H5,s5⟩:=H4.make (E:=eN) (ty:=cT) (y:=0) (u:=V.I 0) u.blocks.length rfl rfl;have n5:(R.new (.cells cT 1 true false (List.replicate u.blocks.length (V.I 0)))).next=R.next+1:=rfl;have g5:(R.new (.cells cT 1 true false (List.replicate u.blocks.length (V.I 0)))).get R.next=some (.cells 3 1 true false (List.replicate u.blocks.length (V.I 0))):=dL _ _;have aK:=(ez (h:=R) (.cells cT 1 true false (List.replicate u.blocks.length (V.I 0))) (l:=N.next) (by omega)).trans g4;generalize bu:R.new (.cells cT 1 true false (List.replicate u.blocks.length (V.I 0)))=h5 at*;rw[fQ];obtain⟨H6,s6⟩:=H5.vW fO [V.cQ];have n6:(h5.new (.cells fO 1 true false [V.cQ])).next=h5.next+1:=rfl;have g6:(h5.new (.cells fO 1 true false [V.cQ])).get h5.next=some (.cells 22 1 true false [V.cQ]):=dL _ _;have aL:=(ez (h:=h5) (.cells fO 1 true false [V.cQ]) (l:=R.next) (by omega)).trans g5;have aM:=(ez (h:=h5) (.cells fO 1 true false [V.cQ]) (l:=N.next) (by omega)).trans aK;show E0 _ (h5.new (.cells fO 1 true false [V.cQ])) _;generalize bv:h5.new (.cells fO 1 true false [V.cQ])=Z at*;rw[fQ];obtain⟨H7,s7⟩:=H6.vW fO [V.cQ];have n7:(Z.new (.cells fO 1 true false [V.cQ])).next=Z.next+1:=rfl;have g7:(Z.new (.cells fO 1 true false [V.cQ])).get Z.next=some (.cells 22 1 true false [V.cQ]):=dL _ _;have aN:=(ez (h:=Z) (.cells fO 1 true false [V.cQ]) (l:=h5.next) (by omega)).trans g6;have au:=(ez (h:=Z) (.cells fO 1 true false [V.cQ]) (l:=R.next) (by omega)).trans aL;have aO:=(ez (h:=Z) (.cells fO 1 true false [V.cQ]) (l:=N.next) (by omega)).trans aM;show(((Z.new (.cells fO 1 true false [V.cQ])).get Z.next=_/\_)/\_);generalize bw:Z.new (.cells fO 1 true false [V.cQ])=h7 at*;refine⟨⟨g7,O.jz _ _ _ _ _⟩,⟨aN,O.jz _ _ _ _ _⟩,⟨au,O.jz _ _ _ _ _⟩,H7.ld 4 rfl rfl,⟨aO,O.jz _ _ _ _ _⟩,H7.ld 4 rfl rfl,?_⟩;obtain⟨h8,e8,n8,H8,s8,k8⟩:=H7.ZF 1 (o:=0) (u:= .slice N.next 0 u.blocks.length) rfl (by simp) rfl;rw[e8,cU];refine⟨n8,⟨(k8 _ (by omega)).trans au,O.jz _ _ _ _ _⟩,(by simp only[jq,fY]at H8;exact H8.ld 4 rfl rfl),?_⟩;simp only[jq,fY]at H8;obtain⟨h9,e9,n9,H9,s9⟩:=H8.st 0 (o:=0) (u:= .slice R.next 0 u.blocks.length) rfl (by simp) rfl;rw[e9,cU];refine⟨n9,?_⟩;simp only[fY]at H9;have aw:=((((s4.trans s5).trans s6).trans s7).trans s8).trans s9;have bx:=((s1.trans s2).trans s3).trans aw;have r2:=r2.since aw;have r3:=r3.since aw;clear g4 g5 g6 g7 aK aM aO aL au aN k8 e8 e9 bt bu bv bw H1 H2 H3 H4 H5 H6 H7 H8 s1 s2 s3 s4 s5 s6 s7 s8 s9 lA u3;generalize V.slice N.next 0 u.blocks.length=vi at*;generalize V.slice R.next 0 u.blocks.length=vp at*;generalize Z.next=l6 at*;generalize h5.next=l5 at*;generalize h.next=lb at*;have aP:=H9.len 3 (xs:=List.replicate u.blocks.length (0:Int)) rfl;rw[PU]at aP;refine cO (H9.ld 1 rfl rfl) (cO aP ?_);have bz:=Ln g G;have aa:post.reverse.length=u.blocks.length:=by simpa using bz
 refine Br (λk A B T x6 aQ aR h'=>∃(i:Nat) (xs:List Int),A=vo/\B=va/\T = .ptr l5 0/\x6 = .ptr l6 0/\aQ = .I u.blocks.length/\aR = .I i/\i+k=u.blocks.length/\xs.length=u.blocks.length/\(∀j,j<i->xs[j]? =some (-1))/\
  Sn X h9 X h'/\cS X h' (cV l6 fO [vp]::cV l5 fO [vi]::cW eN cT (List.replicate u.blocks.length 0) vp::cW eZ cT xs vi::cV lb 29 (uC u vv vb vs)::cs)) ?_ (k:=u.blocks.length)
  ⟨0,_,rfl,rfl,rfl,rfl,rfl,rfl,by omega,by simp,λj hj=>by omega,Sn.refl _ _,H9⟩
 rintro k A B T x6 aQ aR ca ⟨i,xs,e3,e4,rfl,rfl,rfl,rfl,hk,aS,hm,aT,aU⟩;subst A B;unfold tH;by_cases hi:i<u.blocks.length
 ·refine dZ ?_;obtain⟨Y7,cb,cd,bA,bC,ce,aV,bD⟩:=aU.D7 3 rfl (k:=i) (y:=(-1:Int)) (u:=V.I (-1)) (by omega) rfl rfl rfl;refine cO (aU.ld 1 rfl rfl) (cO bA ?_);rw[bC,cU];simp only[jq,fY]at aV;refine du ⟨k-1,by omega,i+1,xs.set i (-1),rfl,rfl,rfl,rfl,rfl,rfl,by omega,by simp[aS],λj hj=>?_,aT.trans bD,aV⟩
  grind
 refine fq ?_;obtain rfl:i=u.blocks.length:=by omega
 have lo:=(r2.since aT).len;rw[aa]at lo;refine cO lo ?_
 refine Be (λk A B T x6 ax aW aX h'=>∃(i:Nat) (pl:List Nat),A=vo/\B=va/\T = .ptr l5 0/\x6 = .ptr l6 0/\ax=vo/\aW = .I u.blocks.length/\aX = .I i/\i+k=u.blocks.length/\pl.length=u.blocks.length/\(∀j b,j<i->post.reverse[j]? =some b->pl[b]? =some j)/\
  Sn X h9 X h'/\cS X h' (cV l6 fO [vp]::cV l5 fO [vi]::cW eN cT pl vp::cW eZ cT xs vi::cV lb 29 (uC u vv vb vs)::cs)) ?_ (k:=u.blocks.length)
  (by grind)
 rintro k1 A B T x6 ax aW aX cf ⟨i,pl,e3,e4,rfl,rfl,cg,rfl,rfl,ci,aY,bE,ak,al⟩;subst A B ax;unfold tK;by_cases hi:i<u.blocks.length
 ·refine dZ ?_;obtain⟨b,q⟩:∃b,post.reverse[i]? =some b:=⟨_,fg (by omega)⟩
  have am:b<u.blocks.length:=G.pre b (Ta.1 (zD q));obtain⟨WJ,cj,_,j1,j2⟩:=(r2.since ak).nat q .i64;obtain⟨ZB,cl,cm,bG,ay,cn,aZ,bH⟩:=al.D7 2 rfl (k:=b) (y:=i) (u:=V.I i) (by omega) rfl rfl rfl;refine cO j1 (cO j2 (cO (al.ld 0 rfl rfl) (cO bG ?_)));rw[ay,cU];simp only[jq,fY]at aZ;refine du ⟨k1-1,by omega,i+1,pl.set b i,rfl,rfl,rfl,rfl,rfl,rfl,rfl,by omega,by simp[aY],λj c hj hc=>?_,ak.trans bH,aZ⟩;by_cases e:c=b
  ·subst e;have s:=FT G q;have h2:=FT G hc;obtain rfl:i=j:=by omega
   rw[HT (by omega)]
  grind
 refine fq ?_;obtain rfl:i=u.blocks.length:=by omega
 have an:∀b,G.gr.node b->pl[b]? =some (G.gr.place b):=λb q=>by
  have s:=L5 post.reverse b (Ta.2 q);exact bE (post.reverse.idxOf b) b (by have:=(gL.1 s).1;omega) s
 have lo:=(r2.since ak).len;rw[aa]at lo;refine cO lo (eh (dM (by omega) ?_));obtain⟨co,cp,cq,ay,bI,cr,a4,bJ⟩:=al.D7 3 rfl (k:=0) (y:=(0:Int)) (u:=V.I 0) (by omega) rfl rfl rfl;refine cO (al.ld 1 rfl rfl) (cO ay ?_);rw[bI,cU];simp only[jq,fY]at a4;have bK:N4 (λx=>x=0) (λ_=>0) u.blocks.length (xs.set 0 0):=⟨by simp[aS],λb q=>by rw[q,HT (by omega)];rfl,by grind⟩
 have f:∀b,G.gr.node b↔b<u.blocks.length:=λb=>⟨λq=>G.pre b q,λq=>Kv g G b q⟩
 have ap:∀b,G.gr.node b->G.gr.place b<u.blocks.length:=λb q=>by
  have s:=L5 post.reverse b (Ta.2 q);have:=(gL.1 s).1;show post.reverse.idxOf b<_;omega
 have a5:∀p,p<u.blocks.length->∃b,G.gr.node b/\G.gr.place b=p:=by grind
 refine Bd (λk A B T D J h'=>∃(c:Bool) (kk:Nat) (I:Nat->Nat) (S:Nat->Prop) (yA:List Int),A=vo/\B=va/\T = .ptr l5 0/\D = .func fC [] [.ptr l6 0,.ptr l5 0]/\J = .bool c/\k+kk=u.blocks.length+2/\(c=true->kk<=u.blocks.length+1)/\
  (c=false->(∀b,G.gr.node b->S b)/\∀b,G.gr.node b->b≠0->SN G.gr I S b)/\Dm.Inv G.gr I S kk 1/\N4 S I u.blocks.length yA/\
  Sn X h9 X h'/\cS X h' (cV l6 fO [vp]::cV l5 fO [vi]::cW eN cT pl vp::cW eZ cT yA vi::cV lb 29 (uC u vv vb vs)::cs)) ?_ (k:=u.blocks.length+1)
  ⟨true,1,λ_=>0,λx=>x=0,_,rfl,rfl,rfl,rfl,rfl,by omega,λ_=>by omega,λh=>(by cases h),Dm.Inv.start,bK,ak.trans bJ,a4⟩
 rintro k2 A B T D J ct ⟨c,kk,I,S,yA,e3,e4,rfl,rfl,rfl,cu,bL,bQ,hI,hR,ao,aA⟩;subst A B;unfold tS
 cases c with
 | false=>
   refine fK (dM (by simp) ?_);obtain⟨hS,hF⟩:=bQ rfl;have a6:=Lw hI hS hF ap a5 (u.blocks.length+1);obtain⟨cv,cw,aB,bR,bS,cx,r,K⟩:=aA.D7 3 rfl (k:=0) (y:=(-1:Int)) (u:=V.I (-1)) (by rw[hR.len];omega) rfl rfl rfl;refine cO (aA.ld 1 rfl rfl) (cO bR ?_);rw[bS,cU];simp only[jq,fY]at r;refine cO (r.ld 1 rfl rfl) ?_;obtain⟨a7,bU,bV⟩:=r.gh 3 rfl;simp only[jq,fY]at a7;refine H _ _ vi (yA.set 0 (-1)) I seen post G (((bx.trans ao).trans K).trans bU) a7.tail.tail.tail.tail.tail bV (by simp[hR.len]) (by rw[HT (by rw[hR.len];omega)]) (λb h0 q=>?_) ⟨by omega,λb q=>(f b).2 q,λb q h0=>?_⟩ λx b q=>?_
   ·rw[CL λh=>h0 h.symm]
    exact hR.yes b (hS b ((f b).2 q))
   ·obtain⟨s,h2⟩:=hI.tree.up b (hS b ((f b).2 q)) h0
    exact⟨(f _).1 (hI.tree.node _ s),h2⟩
   ·rw[a6.exact (λb q=>(f b).1 q) (by omega) (hS b ((f b).2 q))]
    exact(Qr λa b=>Iff.rfl).symm
 | true =>
   refine fK (ei rfl ?_);have cy:=bL rfl;obtain⟨aC,bW,aD⟩:=(r2.since ao).cut (lo:=some (V.I ((1:Nat):Int))) (hi:=none) (m:=1) (n:=post.reverse.length) (IN _ _ _) (Ar _) (by omega) (iC _);rw[E5]at aD;refine cO bW (cO aD.len ?_);have a8:(post.reverse.drop 1).length=u.blocks.length-1:=by rw[V6,aa]
   rw[a8]
   refine Bn (λk A B T D J L ab ac h'=>∃(i:Nat) (c:Bool) (I:Nat->Nat) (S:Nat->Prop) (yA:List Int),A=vo/\B=va/\T = .ptr l5 0/\D = .func fC [] [.ptr l6 0,.ptr l5 0]/\J = .bool c/\L=aC/\ab = .I ((u.blocks.length-1:Nat):Int)/\ac = .I (i:Nat)/\i+k=u.blocks.length-1/\
     (c=true->kk<=u.blocks.length)/\(c=false->∀b,G.gr.node b->G.gr.place b<i+1->S b/\(b≠0->SN G.gr I S b))/\Dm.Inv G.gr I S kk (i+1)/\N4 S I u.blocks.length yA/\
     Sn X h9 X h'/\cS X h' (cV l6 fO [vp]::cV l5 fO [vi]::cW eN cT pl vp::cW eZ cT yA vi::cV lb 29 (uC u vv vb vs)::cs)) ?_ (k:=u.blocks.length-1)
     ⟨0,false,I,S,yA,rfl,rfl,rfl,rfl,rfl,rfl,rfl,rfl,by omega,λh=>(by cases h),λ_ b q bX=>by
       obtain rfl:b=0:=G.gr.inj b 0 q G.gr.first (by have:=G.gr.yU;omega);exact⟨hI.tree.zero,λh=>absurd rfl h⟩,hI,hR,ao,aA⟩
   rintro k3 A B T D J L ab ac aB ⟨i,c,U,S1,W,e3,e4,rfl,rfl,rfl,a9,rfl,rfl,cz,ba,bY,ae,t,K,r⟩;subst A B L;unfold tB;by_cases hi:i<u.blocks.length-1;rotate_left
   ·refine fq ?_
    obtain rfl:i=u.blocks.length-1:=by omega
    have hp:=ae.pass λb q=>by have:=ap b q;omega
    refine⟨k2-1,by omega,c,kk+1,U,S1,W,rfl,rfl,rfl,rfl,rfl,by omega,λh=>by have:=ba h;omega,λh=>?_,hp,t,K,r⟩
    simp_all
   refine dZ ?_;obtain⟨b,q⟩:∃b,post.reverse[i+1]? =some b:=⟨_,fg (by omega)⟩
   have ag:G.gr.node b:=Ta.1 (zD q);have am:=(f b).1 ag;have aE:G.gr.place b=i+1:=FT G q;have aF:b≠0:=λe=>by subst e;rw[G.gr.yU]at aE;omega
   have bb:fJ eN X aB (post.reverse.drop 1) aC:=aD.dO λl hl=>(K.dO l hl).trans (ao.dO l hl).symm;obtain⟨Zu,cA,_,j1,j2⟩:=bb.nat (i:=i) (x:=b) (by rw[V1,Nat.add_comm];exact q) .i64;obtain⟨cB,cC,bZ,_,m1,m2,m3⟩:=(r3.since K).list (i:=b) (x:=Un.ahead u b) (by simp[am]) .i64;refine cO j1 (cO j2 (cO m1 (cO m2 (cO m3.len ?_))));have ah:∀p,G.gr.xB p b↔p∈Un.ahead u b:=λp=>pD.symm;have cD:(Un.ahead u b).length<=700:=by
     rw[<-kz];have:=kj g (i:=u.blocks.length) (j:=0) (b:=b) (iC _) (by omega);omega
   refine Bl (λk A B T D J bc bd L ab ac aG be bf h'=>∃(j:Nat) (dd:Int),A=vo/\B=va/\T = .ptr l5 0/\D = .func fC [] [.ptr l6 0,.ptr l5 0]/\J = .bool c/\bc = .I (b:Nat)/\bd = .I dd/\L=aC/\ab = .I ((u.blocks.length-1:Nat):Int)/\ac = .I (i:Nat)/\
     aG=bZ/\be = .I ((Un.ahead u b).length:Nat)/\bf = .I (j:Nat)/\j+k=(Un.ahead u b).length/\h' = aB/\
     ((dd = -1/\∀p∈(Un.ahead u b).take j,¬S1 p)\/∃d:Nat,dd=(d:Int)/\S1 d/\(∀p∈(Un.ahead u b).take j,S1 p->nL U d p)/\∀x,(∀p∈(Un.ahead u b).take j,S1 p->nL U x p)->nL U x d)) ?_ (k:=(Un.ahead u b).length)
     ⟨0,-1,rfl,rfl,rfl,rfl,rfl,rfl,rfl,rfl,rfl,rfl,rfl,rfl,rfl,by omega,rfl,.inl ⟨rfl,λp hp=>by simp at hp⟩⟩
   rintro k4 A B T D J bc bd L ab ac aG be bf b4 ⟨j,dd,e3,e4,rfl,rfl,rfl,rfl,rfl,a9,rfl,rfl,cE,rfl,rfl,cF,rfl,Y⟩;subst A B L aG;unfold tW;by_cases hj:j<(Un.ahead u b).length
   ·refine dZ ?_
    obtain⟨a,ha⟩:∃a,(Un.ahead u b)[j]? =some a:=⟨_,fg hj⟩
    have bg:a<u.blocks.length:=by
      have:=pD.1 (zD ha);exact(g.Qw this).1
    have b5:(Un.ahead u b).take (j+1)=(Un.ahead u b).take j++[a]:=by
      obtain⟨s,rfl⟩:=gL.1 ha;exact LV s
    obtain⟨cG,cH,_,q1,q2⟩:=m3.nat ha .i64;refine cO q1 (cO q2 (cO (r.ld 1 rfl rfl) ?_));have w:∀p,p∈(Un.ahead u b).take (j+1)↔p∈(Un.ahead u b).take j\/p=a:=λp=>by rw[b5];simp
    by_cases hS:S1 a;rotate_left
    ·obtain⟨aH,aI,t1,t2⟩:=r.L9 3 rfl (t.no a bg hS) .i64
     refine cO t1 (cO t2 (dZ ?_));refine lL ?_;unfold jC;refine sc (m:=1) (by omega) (by omega) ⟨k4-1,by omega,j+1,dd,rfl,rfl,rfl,rfl,rfl,rfl,rfl,rfl,rfl,rfl,rfl,rfl,rfl,by omega,rfl,?_⟩;have cI:∀{P:Nat->Prop},(∀p∈(Un.ahead u b).take (j+1),S1 p->P p)↔(∀p∈(Un.ahead u b).take j,S1 p->P p):=λ{P}=>⟨λh p hp=>h p ((w p).2 (.inl hp)),by grind⟩
     simp_all
    obtain⟨aH,aI,t1,t2⟩:=r.L9 3 rfl (t.yes a hS) .i64;refine cO t1 (cO t2 (fq ?_));rcases Y with⟨rfl,s⟩|⟨d,rfl,s,h2,N⟩
    ·refine dZ ?_
     refine lL ?_;unfold jC;refine sc (m:=1) (by omega) (by omega) ⟨k4-1,by omega,j+1,(a:Int),rfl,rfl,rfl,rfl,rfl,rfl,rfl,rfl,rfl,rfl,rfl,rfl,rfl,by omega,rfl,?_⟩;refine .inr ⟨a,rfl,hS,λp hp hs=>?_,λx hx=>hx a ((w a).2 (.inr rfl)) hS⟩;rcases(w p).1 hp with R|rfl
     ·exact absurd hs (s p R)
     ·exact .refl _
    ·refine fq ?_
     show cP CS fC [.I (d:Nat),.I (a:Nat),.ptr l6 0,.ptr l5 0] b4 _;refine Sy r (i5:=1) (i6:=0) (ii:=3) (ip:=2) rfl rfl rfl rfl ae.tree t an s hS λd' g1 g2 g3 g4=>?_;refine lL ?_;unfold jC;refine sc (m:=1) (by omega) (by omega) ⟨k4-1,by omega,j+1,(d':Int),rfl,rfl,rfl,rfl,rfl,rfl,rfl,rfl,rfl,rfl,rfl,rfl,rfl,by omega,rfl,?_⟩;refine .inr ⟨d',rfl,g1,λp hp hs=>?_,λx hx=>g4 x (N x λp hp hs=>hx p ((w p).2 (.inl hp)) hs) (hx a ((w a).2 (.inr rfl)) hS)⟩;rcases(w p).1 hp with R|rfl
     ·exact g2.trans (h2 p R hs)
     ·exact g3
   refine fq ?_;rw[SI (by omega)]at Y;obtain⟨p0,bh,bi,b9⟩:=G.gr.early b ag aF;have bj:S1 p0:=ae.done p0 bh (by omega);obtain⟨d,rfl,cJ,aJ,bm⟩:∃d:Nat,dd=(d:Int)/\S1 d/\(∀p∈Un.ahead u b,S1 p->nL U d p)/\∀x,(∀p∈Un.ahead u b,S1 p->nL U x p)->nL U x d:=by
     rcases Y with⟨_,s⟩|s
     ·exact absurd bj (s p0 ((ah p0).1 bi))
     ·exact s
   have ai:∀p,S1 p->G.gr.xB p b->nL U d p:=λp hs he=>aJ p ((ah p).1 he) hs;have C:∀x,(∀p,S1 p->G.gr.xB p b->nL U x p)->nL U x d:=by simp_all
   have bn:i<1000000000:=by clear Y;omega
   have aq:k3-1<k3:=by clear Y;omega
   have ar:i+1+(k3-1)=u.blocks.length-1:=by clear Y;omega
   have aj:=(ae.HV ag aF aE ai C).1;refine cO (r.ld 1 rfl rfl) ?_;by_cases hsame:S1 b/\U b=d
   ·obtain ⟨M,rfl⟩:=hsame
    obtain⟨aH,aI,t1,t2⟩:=r.L9 3 rfl (t.yes b M) .i64;refine cO t1 (cO t2 (xM (ei rfl ?_)));refine sN ?_;unfold lO;rw[K7,Oh M]at aj;refine sc (m:=1) bn (by decide) ⟨k3-1,aq,i+1,c,U,S1,W,rfl,rfl,rfl,rfl,rfl,rfl,rfl,rfl,ar,ba,λhc b' bo bX=>?_,aj,t,K,r⟩;rcases Mo (G.gr.place b') (i+1)with s|s
    ·exact bY hc b' bo s
    ·obtain rfl:b' = b:=G.gr.inj _ _ bo ag (by omega)
     exact⟨M,λ_=>⟨ai,C⟩⟩
   ·obtain ⟨y,hy,bp⟩:∃y:Int,W[b]? =some y/\y≠(d:Int):=by
      by_cases M:S1 b
      ·refine⟨(U b:Int),t.yes b M,λe=>hsame ⟨M,?_⟩⟩
       exact Int.ofNat.inj e
      ·refine⟨-1,t.no b am M,?_⟩
       omega
    obtain⟨aH,aI,t1,t2⟩:=r.L9 3 rfl hy .i64;refine cO t1 (cO t2 (xM (dM bp ?_)));obtain⟨cK,cL,cM,b6,b7,cN,br,b8⟩:=r.D7 3 rfl (k:=b) (y:=(d:Int)) (u:=V.I (d:Nat)) (by rw[t.len];exact am) rfl rfl rfl;refine cO (r.ld 1 rfl rfl) (cO b6 ?_);rw[b7,cU];simp only[jq,fY]at br;refine sN ?_;unfold lO;refine sc (m:=1) bn (by decide) ⟨k3-1,aq,i+1,true,Dm.set U b d,λx=>S1 x\/x=b,W.set b (d:Int),rfl,rfl,rfl,rfl,rfl,rfl,rfl,rfl,ar,λ_=>?_,λh=>(by cases h),aj,⟨by simp[t.len],λx hx=>?_,λx hx hn=>?_⟩,K.trans b8,br⟩
    ·rcases Mo u.blocks.length kk with s|s
     ·exfalso
      obtain⟨h2,N⟩:=ae.stay (n:=u.blocks.length) (λb q=>(f b).1 q) s ag aF aE ai C;exact hsame ⟨h2,N.symm⟩
     ·exact s
    ·unfold Dm.set
     by_cases e:x=b
     ·grind
     ·rw[CL λh=>e h.symm,if_neg e]
      exact t.yes x (hx.resolve_right e)
    ·have e:x≠b:=λe=>hn (.inr e)
     rw[CL λh=>e h.symm];exact t.no x hx λh=>hn (.inl h)
end
open Un Dm
structure YL (u:U) (yA:List Int) (I:Nat->Nat):Prop where
 len:yA.length=u.blocks.length
 zero:yA[0]? =some (-1)
 at_:∀b,b≠0->b<u.blocks.length->yA[b]? =some (I b:Int)
 Zb:∃r:Nat->Nat,∀b,b<u.blocks.length->b≠0->I b<u.blocks.length/\r (I b)<r b
 iff:∀x b,b<u.blocks.length->(nL I x b↔lE (next u) x b)
section
variable{F F':Nat->Prop}{h h':Hp}{cs:List Pc}{Q:dg}{u:U}{vv vb vs:V}{lc:Nat}{bl pl Ay:V}{xs ys yA:List Int}{I:Nat->Nat}
structure Cx (F:Nat->Prop) (h:Hp) (cs:List Pc) (lc:Nat) (u:U) (vv vb vs bl pl Ay:V) (xs ys yA:List Int) (I:Nat->Nat):Prop where
 ck:Ck F h cs lc u vv vb vs bl pl Ay
 YH:fJ eZ F h xs bl
 Zg:fJ eZ F h ys pl
 Zc:fJ eZ F h yA Ay
 Wa:Std u u.blocks.length 0 xs ys
 LW:YL u yA I
theorem Cx.since(C:Cx F h cs lc u vv vb vs bl pl Ay xs ys yA I)(s:Sn F h F' h')(a:cS F' h' cs):Cx F' h' cs lc u vv vb vs bl pl Ay xs ys yA I:=⟨C.ck.since s a,C.YH.since s,C.Zg.since s,C.Zc.since s,C.Wa,C.LW⟩
theorem Cx.cons(C:Cx F h cs lc u vv vb vs bl pl Ay xs ys yA I)(s:Sn F h F' h'){p:Pc}(a:cS F' h' (p::cs)):Cx F' h' (p::cs) lc u vv vb vs bl pl Ay xs ys yA I:=⟨C.ck.cons s a,C.YH.since s,C.Zg.since s,C.Zc.since s,C.Wa,C.LW⟩
theorem Js(C:Cx F h cs lc u vv vb vs bl pl Ay xs ys yA I){a b:Nat}(p:b<u.blocks.length)(q:nL I a b)(H:Q (.bool true) h):cP CS iA [.ptr lc 0,.I a,.I b] h Q:=by
 refine xK rfl rfl ?_;unfold pI;obtain⟨r,j⟩:=C.LW.Zb;refine uT (λk f g i h'=>∃b':Nat,f = .ptr lc 0/\g = .I a/\i = .I (b':Nat)/\k=r b'/\b' < u.blocks.length/\nL I a b'/\h' = h) ?_ (k:=r b) (by grind);rintro k f g i h' ⟨b',rfl,rfl,rfl,hk,c,d,rfl⟩;unfold lM;refine X1 (ei (by omega) ?_);by_cases e:a=b'
 ·exact eh (ei (by omega) H)
 refine eh (dM (by omega) ?_)
 cases d with
 |refl=>omega
 | up h0 s=>
   obtain⟨l,o,_,m,n⟩:=C.Zc.int (C.LW.at_ b' h0 c) .i64;obtain⟨r1,t⟩:=j b' c h0;exact cO (dq _ _) (cO (by rfl) (cO (C.ck.ld 7 rfl) (cO m (cO n (by grind)))))
theorem CJ(C:Cx F h cs lc u vv vb vs bl pl Ay xs ys yA I){l:List Nat}{v:V}{b p:Nat}(A:fJ eN F h l v)(W:l.length<1000000)(D:b<u.blocks.length)(hs:∀w∈l,∃c j,At u w c j/\(c=b->j<p)/\lE (next u) c b)(H:Q (.bool true) h) :
  cP CS fD [.ptr lc 0,v,.I b,.I p] h Q:=by
 refine B9 rfl rfl ?_;unfold uS;refine cO A.len ?_;refine zx (λk E G J a d f h'=>∃i:Nat,E = .ptr lc 0/\G = .I b/\J = .I p/\a=v/\d = .I l.length/\f = .I (i:Nat)/\i+k=l.length/\h' = h) ?_ (k:=l.length) (by simp_all);rintro k E G J a d f h' ⟨i,rfl,rfl,rfl,rfl,rfl,rfl,hk,rfl⟩;unfold ru;by_cases hi:i<l.length;rotate_left
 ·exact fq H
 refine dZ ?_;obtain⟨c,j,g,M,m⟩:=hs _ (ym hi);have n:c<u.blocks.length:=by
  obtain⟨B,X,_⟩:=g;exact by grind
 obtain ⟨N,O⟩:=C.Wa.yes _ c j g (.inl n);obtain⟨l1,Y,_,P,R⟩:=A.nat (fg hi) .i64;obtain⟨l2,Z,_,K,L⟩:=C.YH.int N .i64;obtain⟨l3,o3,_,S,T⟩:=C.Zg.int O .i64;refine cO P (cO R (cO (dq _ _) (cO (by rfl) (cO (C.ck.ld 5 rfl) (cO K (cO L (cO (by rfl) ?_)))))));have e:il (.bool (((c:Int)) == (b:Int))) (oB (some (V.ptr lc 0)) λo=>oB (fe o) λq=>oB (dE 6 q) λr=>oB (df r h') λs=>oB (some (V.I (l[i]:Nat))) λt=>oB (eX 1 s t) λx=>oB (df x h') λy=>oB (some (V.I p)) λz=>cX .geq 3 y z)=some (.bool false):=by
  have l6:df (.ptr lc (0+6)) h' = some pl:=C.ck.ld 6 rfl;simp only[c0,dq,dB,l6,S,T,oD,fW];congr 2;rw[Vu];intro U;simp only[rm,CG,zv]at U;have:=by omega
  omega
 refine cO e ?_;refine dr (cO rfl (dr (cO rfl (dr (cO (dq _ _) (dr (cO (by rfl) (dr (cO (C.ck.ld 5 rfl) (dr (cO rfl (dr (cO K (dr (cO L (dr (cO rfl (tD ?_))))))))))))))))));refine Js C D ((C.LW.iff c b D).2 m) (cO rfl (fK (dM (by simp) ?_)));exact du ⟨k-1,by omega,i+1,rfl,rfl,rfl,rfl,rfl,rfl,by omega,rfl⟩
theorem Cv(C:Cx F h cs lc u vv vb vs bl pl Ay xs ys yA I){s b p:Nat}{fs:List Fm}(n:u.cZ[s]? =some fs)(A:fs.length<=30/\∀f∈fs,f.locals.length<=40/\f.stack.length<=60)(o:b<u.blocks.length)
  (hs:∀w∈ff fs,∃c j,At u w c j/\(c=b->j<p)/\lE (next u) c b) (H:∀h',Sn F h F h'->cS F h' cs->Q (.bool true) h') :
  cP CS fB [.ptr lc 0,.I s,.I b,.I p] h Q:=by
 refine xA rfl rfl ?_;unfold pN;obtain⟨l1,L,f,_,B,_,D,q⟩:=C.ck.u.st n;refine cO (dq _ _) (cO (by rfl) (cO (by rfl) (cO (C.ck.ld 4 rfl) (cO B (cO (by rfl) (cO D (cO q.len ?_)))))))
 refine vt (λk r t v d e g h'=>∃j:Nat,r = .ptr lc 0/\t = .I b/\v = .I p/\d=f/\e = .I fs.length/\g = .I (j:Nat)/\j+k=fs.length/\Sn F h F h'/\cS F h' cs) ?_ (k:=fs.length)
  ⟨0,rfl,rfl,rfl,rfl,rfl,rfl,by omega,Sn.refl _ _,C.ck.H⟩
 rintro k r t v d e g E ⟨j,rfl,rfl,rfl,rfl,rfl,rfl,hk,i,x⟩;unfold mi;by_cases hj:j<fs.length;rotate_left
 ·exact fq (H E i x)
 refine dZ ?_;obtain⟨l3,M,a,c,_,G,J,y,z⟩:=(q.since i).tI (fg hj);obtain⟨N,O⟩:=A.2 _ (ym hj);have K:∀w,w∈fs[j].locals\/w∈fs[j].stack->w∈ff fs:=by grind[ff,ym]
 refine cO G (cO J ?_);refine fo x rfl rfl (by simp only[Jo,cY,y.one,z.one];rfl) λP l m=>?_;have C2:=C.since (i.trans m) l.tail;refine cO (by rfl) (cO (l.ld 0 rfl rfl) ?_);refine CJ C2 (y.since m) (by omega) o (by simp_all) (cO rfl ?_);refine dr (cO rfl (dr (cO (by rfl) (dr (cO (l.ld 0 rfl rfl) (dr (cO rfl (dr (cO rfl (tD ?_))))))))));refine CJ C2 (z.since m) (by omega) o (by simp_all) (cO rfl (fK (dM (by simp) ?_)));exact du ⟨k-1,by omega,j+1,rfl,rfl,rfl,rfl,rfl,rfl,by omega,i.trans m,l.tail⟩
theorem N7{w b k:Nat}(h:vQ u w b k):∃c j,At u w c j/\(c=b->j<k)/\lE (next u) c b:=by
 obtain⟨c,j,d,a⟩:=h;rcases a with⟨rfl,a⟩|⟨a,e⟩
 ·grind[lE.self]
 grind
theorem Cr{w b:Nat}{B:Bk}(f:u.blocks[b]? =some B)(h:oQ u w b):∃c j,At u w c j/\(c=b->j<B.cR.length)/\lE (next u) c b:=by
 obtain⟨c,j,a,d⟩:=h;refine⟨c,j,a,λe=>?_,d⟩;subst e;obtain⟨g,i,k⟩:=a
 grind
theorem Qu{a:Nat}{x:Vl}{w:V}{a0:V}{i k:Nat}(b:a0 = .ptr lc 0)(C:Cx F h (cV a dP (kN x w)::cs) lc u vv vb vs bl pl Ay xs ys yA I)(hc:a≠lc)(D:df (.ptr a 5) h=some (.I x.state))(E:i<u.blocks.length)
  (G:leaves x.op=true->∃fs,u.cZ[x.state]? =some fs/\(fs.length<=30/\∀f∈fs,f.locals.length<=40/\f.stack.length<=60)/\∀w∈ff fs,∃c j,At u w c j/\(c=i->j<k)/\lE (next u) c i) {K:dg}
  (B:∀h',Sn F h F h'->cS F h' (cV a dP (kN x w)::cs)->K (.bool false) h') :
  oP (dA true (.bool (leaves x.op))) λd=>
  oP (gV d (some a0)) λe=>
  oP (dA true (.bool (leaves x.op))) λg=>
  oP (gV g (dE 5 (.ptr a 0))) λl=>
  oP (dA true (.bool (leaves x.op))) λm=>
  oP (gV m (df l h)) λn=>
  oP (dA true (.bool (leaves x.op))) λo=>
  oP (gV o (some (.I i))) λp=>
  oP (dA true (.bool (leaves x.op))) λq=>
  oP (gV q (some (.I k))) λr=>
  oP (dA true (.bool (leaves x.op))) λs=>
  oP (gC s (some (fB,[e,n,p,r]))) λt=>tv CS t h λv J=>
  oP (dA true (.bool (leaves x.op))) λy=>
  oP (gV y (lB .not v)) λz=>
  oP (kI (.bool false) (js (.bool (leaves x.op)) z (V.bool false))) λA=>K A J:=by
 subst b
 cases hq:leaves x.op with
 | true=>
   obtain⟨fs,L,M,N⟩:=G hq;refine dV (cO rfl (dV (cO (by rfl) (dV (cO D (dV (cO rfl (dV (cO rfl (xN ?_))))))))))
   refine Cv C L M E N λh' s' O=>dV (cO rfl (cO rfl (B h' s' O)))
 |false=>exact er (er (er (er (er (Aa (er (cO rfl (B h (Sn.refl _ _) C.ck.H))))))))
theorem Q2(g:Good u)(C:Cx F h cs lc u vv vb vs bl pl Ay xs ys yA I)(ak:lc<h.next){i:Nat}{B:Bk}(d:u.blocks[i]? =some B)(H:∀F' h',Sn F h F' h'->cS F' h' cs->Q (.bool true) h'):cP CS iP [.ptr lc 0,.I i] h Q:=by
 refine Bb rfl rfl ?_;unfold tF;have nv:=g.nv;have nb:=g.nb;have t:i<u.blocks.length:=by grind
 have al:∀(s:Nat) (fs:List Fm),u.cZ[s]? =some fs->fs.length<=30/\∀f∈fs,f.locals.length<=40/\f.stack.length<=60:=λs fs a=>by
  obtain⟨_,h2,h3⟩:=g.st s fs a
  simp_all
 have am:B.cR.length<=3000:=by
  have:=gq u.cR.length B.cR (B3 g d) λv hv=>by
   obtain⟨k,hk⟩:=kh.1 hv;exact g.gz v i k ⟨B,d,hk⟩
  omega
 obtain⟨l7,o7,bv,bn,bp,_,i1,i2,R,iN,ip,_⟩:=C.ck.u.jB d;refine cO (dq _ _) (cO (by rfl) (cO (by rfl) (cO (C.ck.ld 3 rfl) (cO i1 (cO i2 ?_)))));refine fo C.ck.H rfl rfl (by simp only[nV,cY,R.one,iN.one,ip.one];rfl) λh2 H2 J=>?_;have C2:=C.cons J H2;have R:=R.since J;have iN:=iN.since J;have ip:=ip.since J;refine cO (by rfl) (cO (H2.ld 0 rfl rfl) (cO R.len (cO (by rfl) (cO (H2.ld 0 rfl rfl) (cO R.len ?_)))))
 refine za (λk T U V W c l o h'=>∃(F':Nat->Prop) (j:Nat),T = .ptr lc 0/\U = .I i/\V = .ptr h.next 0/\W = .I B.cR.length/\c=bv/\l = .I B.cR.length/\o = .I j/\j+k=B.cR.length/\
  Sn F h2 F' h'/\cS F' h' (cV h.next 41 (nV B bv bn bp)::cs)) ?_ (k:=B.cR.length) ⟨F,0,rfl,rfl,rfl,rfl,rfl,rfl,rfl,by omega,Sn.refl _ _,H2⟩
 rintro k T U V W c l o h3 ⟨F3,j,rfl,rfl,rfl,rfl,ab,rfl,rfl,hk,y,A⟩;subst c;unfold qm;have C3:=C2.since y A;by_cases hj:j<B.cR.length;rotate_left
 ·refine fq ?_;refine cO (by rfl) (cO (A.ld 0 rfl rfl) ?_);by_cases c2:B.fin=2
  ·refine eh (ei (by omega) ?_);refine cO (by rfl) (cO (A.ld 0 rfl rfl) ?_);refine V0 [B.cond] (kH _) A λF4 h4 v q r r4=>?_;refine CJ (C3.since r q) r4 (by simp) t (λw hw=>?_) (H _ _ ((J.trans y).trans r) q.tail);obtain rfl:=Ut.1 hw;exact Cr d (g.xQ i B d c2)
  refine eh (dM (by omega) ?_);by_cases c3:B.fin=3
  ·refine eh (ei (by omega) ?_);refine cO (by rfl) (cO (A.ld 0 rfl rfl) ?_);have ac:B.state<u.cZ.length:=by
    rcases g.fin i B d with⟨K,_⟩|⟨K,_⟩|⟨_,_,K⟩
    ·omega
    ·omega
    ·exact K
   obtain⟨fs,a⟩:∃fs,u.cZ[B.state]? =some fs:=by simp_all
   refine Cv C3 a (by grind) t (λw hw=>Cr d (g.zl i B fs d c3 a w hw)) λh4 r q=>H _ _ ((J.trans y).trans r) q.tail
  ·exact eh (dM (by omega) (H _ _ (J.trans y) A.tail))
 refine dZ ?_;have e:At u (B.cR[j]) i j:=⟨B,d,fg hj⟩
 have an:=g.gz _ _ _ e;obtain⟨x,D⟩:∃x,u.cR[B.cR[j]]? =some x:=by simp_all
 have ae:B.c8.length<=700:=by
  rw[g.c8 i B d,<-kz];have:=kj g (i:=u.blocks.length) (j:=0) (b:=i) (iC _) (by omega);omega
 have ag:x.op=21\/x.op=20->x.args.length<=700:=by
  rintro(K|K)
  ·rw[(g.xI _ _ _ _ _ e D K d).2];exact ae
  ·rw[g.putAt _ x D K];omega
 obtain⟨l9,o9,_,j1,j2⟩:=(R.since y).nat (fg hj) .i64;obtain⟨VB,ao,w,_,q1,q2,iw,_⟩:=C3.ck.u.val D;refine cO j1 (cO j2 (cO (dq _ _) (cO (by rfl) (cO (by rfl) (cO (C3.ck.ld 2 rfl) (cO q1 (cO q2 ?_)))))));refine fo A rfl rfl (by simp only[kN,cY,iw.one];rfl) λh4 q r=>?_;have C4:=C3.cons r q;have L:=iw.since r;have ap:h3.next<=h4.next:=r.next;have aq:h.next<h3.next:=(A.ok 0 _ rfl).2.1;refine cO (by rfl) (cO (q.ld 0 rfl rfl) ?_);by_cases M:x.op=21
 ·refine eh (ei (by omega) ?_);refine cO (by rfl) (cO (q.ld 0 rfl rfl) (cO L.len ?_));have ar:=(g.xI _ _ _ _ _ e D M d).2
  refine yB (λk T U V W c l o N X Y h'=>∃(F':Nat->Prop) (m:Nat),T = .ptr lc 0/\U = .I i/\V = .ptr h.next 0/\W = .I B.cR.length/\c=bv/\l = .I B.cR.length/\o = .I j/\N=w/\X = .I x.args.length/\Y = .I m/\m+k=x.args.length/\
   Sn F3 h4 F' h'/\cS F' h' (cV h3.next 38 (kN x w)::cV h.next 41 (nV B bv bn bp)::cs)) ?_ (k:=x.args.length) ⟨F3,0,rfl,rfl,rfl,rfl,rfl,rfl,rfl,rfl,rfl,rfl,by omega,Sn.refl _ _,q⟩
  rintro k2 T U V W c l o N X Y h5 ⟨F5,m,rfl,rfl,rfl,rfl,ab,rfl,rfl,au,rfl,rfl,aw,G,O⟩;subst c N;unfold qB;have C5:=C4.since G O;by_cases hm:m<x.args.length;rotate_left
  ·refine fq ?_;refine pE ?_;unfold j8;exact du ⟨k-1,by omega,F5,j+1,rfl,rfl,rfl,rfl,rfl,rfl,rfl,by omega,(y.trans r).trans G,O.tail⟩
  refine dZ ?_;obtain⟨Y7,ax,aj,m1,m2⟩:=(L.since G).nat (fg hm) .i64;refine cO m1 (cO m2 ?_);have ay:m<B.c8.length:=by omega
  obtain⟨p,hp⟩:∃p,B.c8[m]? =some p:=by simp_all
  have ah:p<u.blocks.length:=by
   have:=zD hp;rw[g.c8 i B d]at this;exact(g.Qw (pD.1 this)).1
  obtain⟨P,hP⟩:∃P,u.blocks[p]? =some P:=by simp_all
  rw[kH,fQ];obtain⟨S,Z,r6⟩:=O.Ou (E:=eN) (xs:=[x.args[m]]) (n:=1) cT rfl (vw F5 h5 [x.args[m]]) false;have g6:(h5.new (.cells 3 1 true false (fi [x.args[m]]))).get h5.next=some (.cells 3 1 true false (fi [x.args[m]])):=dL _ _;have C6:=C5.since Z S;obtain⟨YW,aA,_,n1,n2⟩:=(((ip.since y).since r).since (G.trans Z)).nat hp .i64;obtain⟨WJ,aB,pv,pn,pp,_,p1,_,ai,_,_,pa⟩:=C6.ck.u.jB hP;refine cO (by rfl) (cO (S.ld 1 rfl rfl) (cO n1 (cO n2 (cO (dq _ _) (cO (by rfl) (cO (by rfl) (cO (C6.ck.ld 3 rfl) ?_)))))));refine cO (by rfl) (cO (S.ld 1 rfl rfl) (cO n1 (cO n2 (cO p1 (cO (by rfl) (cO pa.cR (cO ai.len ⟨by simp_all,?_⟩)))))));refine CJ C6 r6 (by simp) ah (λz hz=>?_) ⟨iC _,qI (ei rfl ?_)⟩
  ·obtain rfl:=Ut.1 hz;exact Cr hP (g.xo _ i j x B e D M d m _ p (by simp_all) hp)
  ·exact du ⟨k2-1,by omega,_,m+1,rfl,rfl,rfl,rfl,rfl,rfl,rfl,rfl,rfl,rfl,by omega,G.trans Z,S⟩
 refine eh (dM (by omega) ?_);refine cO (q.zt 0 rfl rfl) ?_;refine I8 q L (by omega) λF5 h5 v G O r5=>?_;have C5:=C4.since G O;refine CJ C5 r5 (by grind[DB]) t (λz hz=>N7 (g.uN _ i j x e D M z hz)) (cO rfl ?_);refine dr (cO (by rfl) (dr (cO (O.ld 0 rfl rfl) (tD ?_))));refine DP (dr (cO rfl ?_));refine Qu rfl C5 (by omega) (O.ld 0 rfl rfl) t (λaa=>?_) λh6 Z S=>?_
 ·have ac:=g.leave _ x D aa;obtain⟨fs,a⟩:∃fs,u.cZ[x.state]? =some fs:=by simp_all
  exact⟨fs,a,by grind,λz hz=>N7 (g.Ad _ i j x fs e D aa a z hz)⟩
 ·refine fK (dM (by simp) ?_);refine pE ?_;unfold j8;exact du ⟨k-1,by omega,F5,j+1,rfl,rfl,rfl,rfl,rfl,rfl,rfl,by omega,((y.trans r).trans G).trans Z,S.tail⟩
end
open Un Dm
section
variable{F F':Nat->Prop}{h h':Hp}{cs:List Pc}{Q:dg}{u:U}{vv vb vs:V}
theorem RL(g:Good u)(H0:cS F h cs)(hu:zR F h u vv vb vs)(H:∀F' h',Sn F h F' h'->cS F' h' cs->Q (.bool true) h'):cP CS wz [.agg (uC u vv vb vs)] h Q:=by
 refine Lf rfl rfl ?_;unfold Ez;have nv:=g.nv;have nb:=g.nb;have EE:=g.EE;have ns:=g.ns;refine kX H0 hu.one λt x s1=>?_;have u1:=hu.since s1;have l2:df (.ptr h.next (0+2)) t=some vv:=x.ld 0 rfl rfl;have l3:df (.ptr h.next (0+3)) t=some vb:=x.ld 0 rfl rfl;have l4:df (.ptr h.next (0+4)) t=some vs:=x.ld 0 rfl rfl;refine oF l2 (cO u1.v.len (cO (qR _ _ _ _) ?_));rw[QV (by omega)];have e1:kI (.bool false) (oB (dE 3 (.ptr h.next 0)) λf=>oB (df f t) λj=>oB (dD j) λk=>cX .gtr 3 k (V.I 300))=some (.bool false):=by
  simp only[j6,dB,c0,l3,u1.b.len,qR];rw[QV (by omega)]
 have e2:kI (.bool false) (oB (dE 4 (.ptr h.next 0)) λf=>oB (df f t) λj=>oB (dD j) λk=>cX .gtr 3 k (V.I 1000))=some (.bool false):=by
  simp only[j6,dB,c0,l4,u1.s.len,qR];rw[QV (by omega)]
 have e3:kI (.bool false) (oB (dE 3 (.ptr h.next 0)) λf=>oB (df f t) λj=>oB (dD j) λk=>cX .eql 3 k (V.I 0))=some (.bool false):=by
  simp only[j6,dB,c0,l3,u1.b.len,fx];congr 2;rw[QO];omega
 refine cO e1 (cO e2 (cO e3 (fK (dM (by simp) ?_))));refine cO (x.zt 0 rfl rfl) (cO (show _=some (V.agg [.I u.func,.I u.pc,vv,vb,vs,.cQ,.cQ,.cQ]) from rfl) ?_);refine kX x (by simp only[cY,u1.v.one,u1.b.one,u1.s.one];rfl) λC D s2=>?_;have u2:=u1.since s2;generalize t.next=lc at*;have l4:df (.ptr h.next (0+4)) C=some vs:=D.ld 1 rfl rfl;refine oF l4 (cO u2.s.len ?_);have C2:Ck F C (cV lc 75 [.I u.func,.I u.pc,vv,vb,vs,.cQ,.cQ,.cQ]::cV h.next 29 (uC u vv vb vs)::cs) lc u vv vb vs .cQ .cQ .cQ:=⟨D,⟨0,_,rfl⟩,u2⟩
 refine FV (by omega) (λF' h'=>F' = F/\Sn F C F h'/\cS F h' (cV lc 75 [.I u.func,.I u.pc,vv,vb,vs,.cQ,.cQ,.cQ]::cV h.next 29 (uC u vv vb vs)::cs)) ⟨rfl,Sn.refl _ _,D⟩ (λi hi F' h' hP n p=>?_) λF3 h3 hP=>?_
 ·obtain⟨rfl,s',l⟩:=hP;show cP CS iQ [.ptr lc 0,.I i] h' n;have hs:=fg hi;obtain⟨g1,g2,g3⟩:=g.st i _ hs;exact RI (C2.since s' l) hs ⟨g1,g2⟩ g3 λa c d=>p F' a ⟨rfl,s'.trans c,d⟩
 obtain⟨rfl,E,H3⟩:=hP;refine cO rfl (dr (cO rfl (tD ?_)));refine Qe g H3 (u2.since E) λJ K b' r xs ys s4 L rb rp Wa=>?_;refine cO rfl (dr (cO rfl ?_));have M:=(u2.since E).since s4;have N:Ck J K (cV lc 75 [.I u.func,.I u.pc,vv,vb,vs,b',r,.cQ]::cV h.next 29 (uC u vv vb vs)::cs) lc u vv vb vs b' r .cQ:=⟨L,⟨0,_,rfl⟩,M⟩
 have l2:df (.ptr h.next (0+2)) K=some vv:=L.ld 1 rfl rfl;refine dr (cO (dB _ _ _) (dr (cO l2 (dr (cO M.v.len (dr (cO rfl (dr (cO rfl (tD ?_))))))))));refine FV (F:=J) (by omega) (λF' h'=>Sn J K F' h'/\cS F' h' (cV lc 75 [.I u.func,.I u.pc,vv,vb,vs,b',r,.cQ]::cV h.next 29 (uC u vv vb vs)::cs)) ⟨Sn.refl _ _,L⟩ (λi hi F' h' hP n p=>?_) λF5 h5 hP=>?_
 ·obtain⟨s',l⟩:=hP;show cP CS gP [.ptr lc 0,.I i] h' n;exact VW g (N.since s' l) (rb.since s') Wa hi (l.ok 0 _ rfl).2.1 λe a c d=>p e a ⟨s'.trans c,d⟩
 obtain⟨A,B⟩:=hP;have u5:=M.since A;have l3:df (.ptr h.next (0+3)) h5=some vb:=B.ld 1 rfl rfl;refine cO rfl (dr (cO rfl (dr (cO (dB _ _ _) (dr (cO l3 (dr (cO u5.b.len (dr (cO rfl (dr (cO rfl (tD ?_)))))))))))));refine FV (F:=F5) (by omega) (λF' h'=>Sn F5 h5 F' h'/\cS F' h' (cV lc 75 [.I u.func,.I u.pc,vv,vb,vs,b',r,.cQ]::cV h.next 29 (uC u vv vb vs)::cs)) ⟨Sn.refl _ _,B⟩ (λi hi F' h' hP n p=>?_) λF6 h6 hP=>?_
 ·obtain⟨s',l⟩:=hP;show cP CS jd [.ptr lc 0,.I i] h' n;exact SK g ((N.since A B).since s' l) (fg hi) λe a c d=>p e a ⟨s'.trans c,d⟩
 obtain⟨O,P⟩:=hP;have u6:=u5.since O;have l3:df (.ptr h.next (0+3)) h6=some vb:=P.ld 1 rfl rfl;refine cO rfl (dr (cO rfl (dr (cO (dB _ _ _) (dr (cO l3 (dr (cO u6.b.len (dr (cO rfl (dr (cO rfl (tD ?_)))))))))))));refine FV (F:=F6) (by omega) (λF' h'=>Sn F6 h6 F' h'/\cS F' h' (cV lc 75 [.I u.func,.I u.pc,vv,vb,vs,b',r,.cQ]::cV h.next 29 (uC u vv vb vs)::cs)) ⟨Sn.refl _ _,P⟩ (λi hi F' h' hP n p=>?_) λF7 h7 hP=>?_
 ·obtain⟨s',l⟩:=hP;show cP CS jE [.ptr lc 0,.I i] h' n;exact U0 g (((N.since A B).since O P).since s' l) (fg hi) λe a c d=>p e a ⟨s'.trans c,d⟩
 obtain ⟨s7,H7⟩:=hP;have u7:=u6.since s7;refine cO rfl (fK (dM (by simp) ?_));refine Bi rfl rfl ?_;unfold tX;have lA:eg 5 (.ptr lc 0) h7=some (.agg (uC u vv vb vs)):=by
  rw[xF (H7.get 0 rfl),yW (by simp)];rfl
 refine cO (dq _ _) (cO (dB _ _ _) (cO lA ?_));refine Ki g H7 u7 λF8 h8 vo seen post s8 R G ro=>?_;have S:=u7.since s8;have lo:=ro.len;rw[List.length_reverse,Ln g G]at lo;refine cO lo (oF (R.ld 1 rfl rfl) (cO S.b.len (xM (ei rfl ?_))));refine cO (R.zt 1 rfl rfl) ?_;refine HR g R S λT h9 vd yA I U W G' s9 H9 rd d1 d2 d3 d4 d5=>?_;obtain⟨y,X,ab,q,w⟩:=H9.st 0 (o:=7) (u:=vd) rfl (by simp) rd.one;refine cO (dq _ _) (cO (dB _ _ _) ?_);rw[show V.ptr lc (0+7)=V.ptr lc 7 from rfl,X,cU];simp only[jq,fY]at q;have z:=(S.since s9).since w;refine oF (q.ld 1 rfl rfl) (cO z.b.len ?_);have m:=((((A.trans O).trans s7).trans s8).trans s9).trans w
 have Y:Cx T y (cV lc 75 [.I u.func,.I u.pc,vv,vb,vs,b',r,vd]::cV h.next 29 (uC u vv vb vs)::cs) lc u vv vb vs b' r vd xs ys yA I:=
  ⟨⟨q,⟨0,_,rfl⟩,z⟩,rb.since m,rp.since m,rd.since w,Wa,⟨d1,d2,d3,⟨G'.gr.place,λb hb h0=>d4.up b hb h0⟩,d5⟩⟩
 refine FV (F:=T) (by omega) (λF' h'=>Sn T y F' h'/\cS F' h' (cV lc 75 [.I u.func,.I u.pc,vv,vb,vs,b',r,vd]::cV h.next 29 (uC u vv vb vs)::cs)) ⟨Sn.refl _ _,q⟩ (λi hi F' h' hP n p=>?_) λac ae hP=>?_
 ·obtain⟨s',l⟩:=hP;show cP CS iP [.ptr lc 0,.I i] h' n;exact Q2 g (Y.since s' l) (l.ok 0 _ rfl).2.1 (fg hi) λe a c d=>p e a ⟨s'.trans c,d⟩
 obtain⟨Z,aa⟩:=hP;exact H _ _ (((((s1.trans s2).trans E).trans s4).trans m).trans Z) aa.tail.tail
end
