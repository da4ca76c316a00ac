/- Parts. -/
import Derived.Test.YtpfjdlicdljhaaaDoorM26
set_option maxHeartbeats 4000000
namespace Go.Proofs.YtpfjdlicdljhaaaDoor.Hx
open Un Dm
structure XL (G:Dm.Gr) (I:Nat->Nat) (S:Nat->Prop) (b:Nat):Prop where
 low:∀p,S p->G.zH p b->oW I (I b) p
 zbb:∀x,(∀p,S p->G.zH p b->oW I x p)->oW I x (I b)
theorem PA(I:Nat->Nat)(b:Nat):Dm.set I b (I b)=I:=by
 grind[Dm.set]
theorem Tg{S:Nat->Prop}{b:Nat}(h:S b):(λx=>S x\/x=b)=S:=by
 grind
theorem Vo{G:Dm.Gr}{I:Nat->Nat}{S:Nat->Prop}{k n:Nat}(r:Dm.Inv G I S k 1)(l:∀b,G.node b->S b)(g:∀b,G.node b->b≠0->XL G I S b)(a:∀b,G.node b->G.place b<n)(d:∀p,p<n->∃b,G.node b/\G.place b=p):Dm.Inv G I S (k+1) 1:=by
 have f:∀m,1+m<=n->Dm.Inv G I S k (1+m):=by
  intro m
  induction m with
  |zero=>simp_all
  | succ m o=>
    intro s;have q:=o (by omega);obtain⟨b,c,h⟩:=d (1+m) (by omega);have h0:b≠0:=λe=>by subst e;rw[G.BQ]at h;omega
    have i:=(q.LV c h0 h (g b c h0).low (g b c h0).zbb).1;rw[PA,Tg (l b c)]at i;exact i
 have t:1<=n:=by have:=a 0 G.first;omega
 have j:=f (n-1) (by omega);rw[show 1+(n-1)=n by omega]at j;exact j.pass a
theorem OY{G:Dm.Gr}{I:Nat->Nat}{S:Nat->Prop}{k n:Nat}(d:Dm.Inv G I S k 1)(e:∀b,G.node b->S b)(f:∀b,G.node b->b≠0->XL G I S b)(a:∀b,G.node b->G.place b<n)(c:∀p,p<n->∃b,G.node b/\G.place b=p):∀m,Dm.Inv G I S (k+m) 1
 |0=>d
 |m+1=>Vo (OY d e f a c m) e f a c
section
variable{u:U}{seen:List Bool}{post:List Nat}
theorem PU(g:Good u)(G:E3 u.blocks.length (next u) seen post []):∀b,b<u.blocks.length->b∈post:=by
 have c:∀b l,Pt (next u) b l->b∈post:=by
  intro b l a
  induction a with
  |nil=>obtain⟨p,a⟩:=G.last rfl;simp_all
  | step _ d e=>
    have:=(G.iff _).1 (G.closed _ e _ d)
    simp_all
 intro b f;obtain⟨l,h⟩:=g.reach b f
 grind
theorem O3(g:Good u)(G:E3 u.blocks.length (next u) seen post []):post.length=u.blocks.length:=G.all (PU g G)
theorem YB(G:E3 u.blocks.length (next u) seen post []):post.reverse.Nodup:=by
 have:=G.nodup
 grind
theorem J6(G:E3 u.blocks.length (next u) seen post []){i b:Nat}(h:post.reverse[i]? =some b):G.gr.place b=i:=by
 show post.reverse.idxOf b=i;obtain⟨hi,rfl⟩:=jq.1 h;have a:=YB G
 grind
end
section
variable{F F':Nat->Prop}{h h':Hp}{cs:List Pc}{Q:fo}{u:U}{vv vb vs:V}
structure SM (S:Nat->Prop) (I:Nat->Nat) (n:Nat) (BH:List Int):Prop where
 len:BH.length=n
 yes:∀b,S b->BH[b]? =some (I b:Int)
 no:∀b,b<n->¬S b->BH[b]? =some (-1)
theorem YC{G:Dm.Gr}{I:Nat->Nat}{S:Nat->Prop}{n l5 l6 t5 t6:Nat}{r vp:V}{BH:List Int}{pl:List Nat}(c:ei F h cs){i5 i6 ii ip:Nat}(s:cs[i5]? =some (er l5 t5 [r]))(t:cs[i6]? =some (er l6 t6 [vp]))(hi:cs[ii]? =some (eJ eZ en BH r))(u:cs[ip]? =some (eJ eN en pl vp))
  (f:Tree G I S) (v:SM S I n BH) (i:∀b,G.node b->pl[b]? =some (G.place b)) {a b:Nat} (B:S a) (C:S b)
  (H:∀d,S d->oW I d a->oW I d b->(∀x,oW I x a->oW I x b->oW I x d)->Q (.I (d:Nat)) h):cP CS iS [.I a,.I b,.ptr l6 0,.ptr l5 0] h Q:=by
 refine Gx rfl rfl ?_;unfold yo
 refine CW (λk w y z A h'=>∃a' b':Nat,w = .I (a':Nat)/\y = .I (b':Nat)/\z = .ptr l6 0/\A = .ptr l5 0/\h' = h/\k=G.place a' + G.place b'/\S a'/\S b'/\oW I a' a/\oW I b' b/\(∀x,oW I x a->oW I x b->oW I x a'/\oW I x b')) ?_ (k:=G.place a+G.place b)
  ⟨a,b,rfl,rfl,rfl,rfl,rfl,rfl,B,C,.refl _,.refl _,by simp_all⟩
 rintro k w y z A h' ⟨a',b',rfl,rfl,rfl,rfl,rfl,hk,sa,sb,j,l,D⟩;unfold vE;by_cases e:a' = b'
 ·subst e;refine Cw (gw rfl ?_);exact H a' sa j l λx m o=>(D x m o).1
 refine Cw (fT (by omega) ?_);obtain⟨O,op,E,J⟩:=c.Jv ip u (i a' (f.node _ sa)) .i64;obtain⟨P,oq,K,L⟩:=c.Jv ip u (i b' (f.node _ sb)) .i64;refine ed (c.ld i6 t rfl) (ed E (ed J (ed (c.ld i6 t rfl) (ed K (ed L ?_)))));by_cases Me:G.place b' < G.place a'
 ·refine E7 (gw (by omega) ?_);obtain⟨M,N,p,q⟩:=c.Qx ii hi (v.yes a' sa) .i64;refine ed (c.ld i5 s rfl) (ed p (ed q ?_));have h0:a'≠0:=λe=>by subst e;rw[G.BQ]at Me;omega
  obtain⟨u1,u2⟩:=f.up a' sa h0;exact⟨_,by omega,I a',b',rfl,rfl,rfl,rfl,rfl,rfl,u1,sb,(oW.up h0 (.refl _)).trans j,l,λx m o=>⟨f.Za sa sb Me (by simp_all) (by simp_all),by simp_all⟩⟩
 ·refine E7 (fT (by omega) ?_);obtain⟨M,N,p,q⟩:=c.Qx ii hi (v.yes b' sb) .i64;refine ed (c.ld i5 s rfl) (ed p (ed q ?_));have g:G.place a' < G.place b':=by
   have:G.place a'≠G.place b':=λe'=>e (G.inj _ _ (f.node _ sa) (f.node _ sb) e');omega
  have h0:b'≠0:=λe=>by subst e;rw[G.BQ]at g;omega
  obtain⟨u1,u2⟩:=f.up b' sb h0;exact⟨_,by omega,a',I b',rfl,rfl,rfl,rfl,rfl,rfl,sa,u1,j,(oW.up h0 (.refl _)).trans l,λx m o=>⟨by simp_all,f.Za sb sa g (by simp_all) (by simp_all)⟩⟩
theorem L1(g:Good u)(H0:ei F h cs)(hu:CL F h u vv vb vs)
  (H:∀F' h' v BH I seen post (G:E3 u.blocks.length (next u) seen post []),Sn F h F' h'->ei F' h' cs->iA eZ F' h' BH v->BH.length=u.blocks.length->BH[0]? =some (-1)->(∀b,b≠0->b<u.blocks.length->BH[b]? =some (I b:Int))->Tree G.gr I (λb=>b<u.blocks.length)->
   (∀x b,b<u.blocks.length->(oW I x b↔oV (next u) x b))->Q v h'):cP CS p9 [.agg (uC u vv vb vs)] h Q:=by
 refine IM rfl rfl ?_;unfold Bb;have nb:=g.nb;have Jz:=g.Jz;refine nQ H0 hu.one λs H1 s1=>?_;have lA:=H1.C9 (n:=5) 0 rfl rfl;refine ed lA (ed lA ?_);refine Ov g H1 (hu.since s1) λF2 h2 vo seen post s2 H2 G r2=>⟨s2.next,H2.C9 0 rfl rfl,?_⟩
 refine Qd g H2 (hu.since (s1.trans s2)) λX N va s3 H3 r3=>⟨s3.next,?_⟩
 have u3:=hu.since ((s1.trans s2).trans s3);have r2:=r2.since s3;refine oF (H3.ld 0 rfl rfl) (ed u3.b.len ?_);rw[jY (z:=V.I 0) rfl (by decide) (by omega),ic];obtain⟨H4,s4⟩:=H3.make (E:=eZ) (ty:=en) (y:=0) (u:=V.I 0) u.blocks.length rfl rfl;have n4:(N.new (.cells en 1 true false (List.replicate u.blocks.length (V.I 0)))).next=N.next+1:=rfl;have g4:(N.new (.cells en 1 true false (List.replicate u.blocks.length (V.I 0)))).get N.next=some (.cells 3 1 true false (List.replicate u.blocks.length (V.I 0))):=fg _ _;show oP (fH 3 (.ptr h.next 0)) _;generalize bt:N.new (.cells en 1 true false (List.replicate u.blocks.length (V.I 0)))=R at*;refine oF (H4.ld 1 rfl rfl) (ed (u3.since s4).b.len ?_);rw[jY (z:=V.I 0) rfl (by decide) (by omega),ic];obtain⟨H5,s5⟩:=H4.make (E:=eN) (ty:=en) (y:=0) (u:=V.I 0) u.blocks.length rfl rfl;have n5:(R.new (.cells en 1 true false (List.replicate u.blocks.length (V.I 0)))).next=R.next+1:=rfl;have g5:(R.new (.cells en 1 true false (List.replicate u.blocks.length (V.I 0)))).get R.next=some (.cells 3 1 true false (List.replicate u.blocks.length (V.I 0))):=fg _ _;have aK:=(fm (h:=R) (.cells en 1 true false (List.replicate u.blocks.length (V.I 0))) (l:=N.next) (by omega)).trans g4;generalize bu:R.new (.cells en 1 true false (List.replicate u.blocks.length (V.I 0)))=h5 at*;rw[ic];obtain⟨H6,s6⟩:=H5.zt iy [V.ee];have n6:(h5.new (.cells iy 1 true false [V.ee])).next=h5.next+1:=rfl;have g6:(h5.new (.cells iy 1 true false [V.ee])).get h5.next=some (.cells 22 1 true false [V.ee]):=fg _ _;have aL:=(fm (h:=h5) (.cells iy 1 true false [V.ee]) (l:=R.next) (by omega)).trans g5;have aM:=(fm (h:=h5) (.cells iy 1 true false [V.ee]) (l:=N.next) (by omega)).trans aK;show xR _ (h5.new (.cells iy 1 true false [V.ee])) _;generalize bv:h5.new (.cells iy 1 true false [V.ee])=Z at*;rw[ic];obtain⟨H7,s7⟩:=H6.zt iy [V.ee];have n7:(Z.new (.cells iy 1 true false [V.ee])).next=Z.next+1:=rfl;have g7:(Z.new (.cells iy 1 true false [V.ee])).get Z.next=some (.cells 22 1 true false [V.ee]):=fg _ _;have aN:=(fm (h:=Z) (.cells iy 1 true false [V.ee]) (l:=h5.next) (by omega)).trans g6;have au:=(fm (h:=Z) (.cells iy 1 true false [V.ee]) (l:=R.next) (by omega)).trans aL;have aO:=(fm (h:=Z) (.cells iy 1 true false [V.ee]) (l:=N.next) (by omega)).trans aM;show(((Z.new (.cells iy 1 true false [V.ee])).get Z.next=_/\_)/\_);generalize bw:Z.new (.cells iy 1 true false [V.ee])=h7 at*;refine⟨⟨g7,O.jL _ _ _ _ _⟩,⟨aN,O.jL _ _ _ _ _⟩,⟨au,O.jL _ _ _ _ _⟩,H7.ld 4 rfl rfl,⟨aO,O.jL _ _ _ _ _⟩,H7.ld 4 rfl rfl,?_⟩;obtain⟨h8,e8,n8,H8,s8,k8⟩:=H7.stk 1 (o:=0) (u:= .slice N.next 0 u.blocks.length) rfl (by simp) rfl;rw[e8,ej];refine⟨n8,⟨(k8 _ (by omega)).trans au,O.jL _ _ _ _ _⟩,(by simp only[mZ,jx]at H8;exact H8.ld 4 rfl rfl),?_⟩;simp only[mZ,jx]at H8;obtain⟨h9,e9,n9,H9,s9⟩:=H8.st 0 (o:=0) (u:= .slice R.next 0 u.blocks.length) rfl (by simp) rfl;rw[e9,ej];refine⟨n9,?_⟩;simp only[jx]at H9;have aw:=((((s4.trans s5).trans s6).trans s7).trans s8).trans s9;have bx:=((s1.trans s2).trans s3).trans aw;have r2:=r2.since aw;have r3:=r3.since aw;clear g4 g5 g6 g7 aK aM aO aL au aN k8 e8 e9 bt bu bv bw H1 H2 H3 H4 H5 H6 H7 H8 s1 s2 s3 s4 s5 s6 s7 s8 s9 lA u3;generalize V.slice N.next 0 u.blocks.length=vi at*;generalize V.slice R.next 0 u.blocks.length=vp at*;generalize Z.next=l6 at*;generalize h5.next=l5 at*;generalize h.next=lb at*;have aP:=H9.len 3 (xs:=List.replicate u.blocks.length (0:Int)) rfl;rw[UO]at aP;refine ed (H9.ld 1 rfl rfl) (ed aP ?_);have bz:=O3 g G;have aa:post.reverse.length=u.blocks.length:=by simpa using bz
 refine EL (λk A B T x6 aQ aR h'=>∃(i:Nat) (xs:List Int),A=vo/\B=va/\T = .ptr l5 0/\x6 = .ptr l6 0/\aQ = .I u.blocks.length/\aR = .I i/\i+k=u.blocks.length/\xs.length=u.blocks.length/\(∀j,j<i->xs[j]? =some (-1))/\
  Sn X h9 X h'/\ei X h' (er l6 iy [vp]::er l5 iy [vi]::eJ eN en (List.replicate u.blocks.length 0) vp::eJ eZ en xs vi::er lb 29 (uC u vv vb vs)::cs)) ?_ (k:=u.blocks.length)
  ⟨0,_,rfl,rfl,rfl,rfl,rfl,rfl,by omega,by simp,λj hj=>by omega,Sn.refl _ _,H9⟩
 rintro k A B T x6 aQ aR ca ⟨i,xs,e3,e4,rfl,rfl,rfl,rfl,hk,aS,hm,aT,aU⟩;subst A B;unfold xH;by_cases hi:i<u.blocks.length
 ·refine gv ?_;obtain⟨l11,cb,cd,bA,bC,ce,aV,bD⟩:=aU.Ir 3 rfl (k:=i) (y:=(-1:Int)) (u:=V.I (-1)) (by omega) rfl rfl rfl;refine ed (aU.ld 1 rfl rfl) (ed bA ?_);rw[bC,ej];simp only[mZ,jx]at aV;refine fM ⟨k-1,by omega,i+1,xs.set i (-1),rfl,rfl,rfl,rfl,rfl,rfl,by omega,by simp[aS],λj hj=>?_,aT.trans bD,aV⟩
  grind
 refine ir ?_;obtain rfl:i=u.blocks.length:=by omega
 have lo:=(r2.since aT).len;rw[aa]at lo;refine ed lo ?_
 refine EZ (λk A B T x6 ax aW aX h'=>∃(i:Nat) (pl:List Nat),A=vo/\B=va/\T = .ptr l5 0/\x6 = .ptr l6 0/\ax=vo/\aW = .I u.blocks.length/\aX = .I i/\i+k=u.blocks.length/\pl.length=u.blocks.length/\(∀j b,j<i->post.reverse[j]? =some b->pl[b]? =some j)/\
  Sn X h9 X h'/\ei X h' (er l6 iy [vp]::er l5 iy [vi]::eJ eN en pl vp::eJ eZ en xs vi::er lb 29 (uC u vv vb vs)::cs)) ?_ (k:=u.blocks.length)
  (by grind)
 rintro k1 A B T x6 ax aW aX cf ⟨i,pl,e3,e4,rfl,rfl,cg,rfl,rfl,ci,aY,bE,ak,al⟩;subst A B ax;unfold xz;by_cases hi:i<u.blocks.length
 ·refine gv ?_;obtain⟨b,q⟩:∃b,post.reverse[i]? =some b:=⟨_,ig (by omega)⟩
  have am:b<u.blocks.length:=G.pre b (YL.1 (AI q));obtain⟨l13,cj,_,j1,j2⟩:=(r2.since ak).nat q .i64;obtain⟨l14,cl,cm,bG,ay,cn,aZ,bH⟩:=al.Ir 2 rfl (k:=b) (y:=i) (u:=V.I i) (by omega) rfl rfl rfl;refine ed j1 (ed j2 (ed (al.ld 0 rfl rfl) (ed bG ?_)));rw[ay,ej];simp only[mZ,jx]at aZ;refine fM ⟨k1-1,by omega,i+1,pl.set b i,rfl,rfl,rfl,rfl,rfl,rfl,rfl,by omega,by simp[aY],λj c hj hc=>?_,ak.trans bH,aZ⟩;by_cases e:c=b
  ·subst e;have s:=J6 G q;have h2:=J6 G hc;obtain rfl:i=j:=by omega
   rw[MT (by omega)]
  grind
 refine ir ?_;obtain rfl:i=u.blocks.length:=by omega
 have an:∀b,G.gr.node b->pl[b]? =some (G.gr.place b):=λb q=>by
  have s:=Qw post.reverse b (YL.2 q);exact bE (post.reverse.idxOf b) b (by have:=(jq.1 s).1;omega) s
 have lo:=(r2.since ak).len;rw[aa]at lo;refine ed lo (fP (fT (by omega) ?_));obtain⟨co,cp,cq,ay,bI,cr,a4,bJ⟩:=al.Ir 3 rfl (k:=0) (y:=(0:Int)) (u:=V.I 0) (by omega) rfl rfl rfl;refine ed (al.ld 1 rfl rfl) (ed ay ?_);rw[bI,ej];simp only[mZ,jx]at a4;have bK:SM (λx=>x=0) (λ_=>0) u.blocks.length (xs.set 0 0):=⟨by simp[aS],λb q=>by rw[q,MT (by omega)];rfl,by grind⟩
 have f:∀b,G.gr.node b↔b<u.blocks.length:=λb=>⟨λq=>G.pre b q,λq=>PU g G b q⟩
 have ap:∀b,G.gr.node b->G.gr.place b<u.blocks.length:=λb q=>by
  have s:=Qw post.reverse b (YL.2 q);have:=(jq.1 s).1;show post.reverse.idxOf b<_;omega
 have a5:∀p,p<u.blocks.length->∃b,G.gr.node b/\G.gr.place b=p:=by grind
 refine EW (λk A B T D J h'=>∃(c:Bool) (kk:Nat) (I:Nat->Nat) (S:Nat->Prop) (BH:List Int),A=vo/\B=va/\T = .ptr l5 0/\D = .func iS [] [.ptr l6 0,.ptr l5 0]/\J = .bool c/\k+kk=u.blocks.length+2/\(c=true->kk<=u.blocks.length+1)/\
  (c=false->(∀b,G.gr.node b->S b)/\∀b,G.gr.node b->b≠0->XL G.gr I S b)/\Dm.Inv G.gr I S kk 1/\SM S I u.blocks.length BH/\
  Sn X h9 X h'/\ei X h' (er l6 iy [vp]::er l5 iy [vi]::eJ eN en pl vp::eJ eZ en BH vi::er lb 29 (uC u vv vb vs)::cs)) ?_ (k:=u.blocks.length+1)
  ⟨true,1,λ_=>0,λx=>x=0,_,rfl,rfl,rfl,rfl,rfl,by omega,λ_=>by omega,λh=>(by cases h),Dm.Inv.start,bK,ak.trans bJ,a4⟩
 rintro k2 A B T D J ct ⟨c,kk,I,S,BH,e3,e4,rfl,rfl,rfl,cu,bL,bQ,hI,hR,ao,aA⟩;subst A B;unfold xi
 cases c with
 | false=>
   refine iI (fT (by simp) ?_);obtain⟨hS,hF⟩:=bQ rfl;have a6:=OY hI hS hF ap a5 (u.blocks.length+1);obtain⟨cv,cw,aB,bR,bS,cx,r,K⟩:=aA.Ir 3 rfl (k:=0) (y:=(-1:Int)) (u:=V.I (-1)) (by rw[hR.len];omega) rfl rfl rfl;refine ed (aA.ld 1 rfl rfl) (ed bR ?_);rw[bS,ej];simp only[mZ,jx]at r;refine ed (r.ld 1 rfl rfl) ?_;obtain⟨a7,bU,bV⟩:=r.jQ 3 rfl;simp only[mZ,jx]at a7;refine H _ _ vi (BH.set 0 (-1)) I seen post G (((bx.trans ao).trans K).trans bU) a7.tail.tail.tail.tail.tail bV (by simp[hR.len]) (by rw[MT (by rw[hR.len];omega)]) (λb h0 q=>?_) ⟨by omega,λb q=>(f b).2 q,λb q h0=>?_⟩ λx b q=>?_
   ·rw[HO λh=>h0 h.symm]
    exact hR.yes b (hS b ((f b).2 q))
   ·obtain⟨s,h2⟩:=hI.tree.up b (hS b ((f b).2 q)) h0
    exact⟨(f _).1 (hI.tree.node _ s),h2⟩
   ·rw[a6.exact (λb q=>(f b).1 q) (by omega) (hS b ((f b).2 q))]
    exact(WO λa b=>Iff.rfl).symm
 | true =>
   refine iI (gw rfl ?_);have cy:=bL rfl;obtain⟨aC,bW,aD⟩:=(r2.since ao).cut (lo:=some (V.I ((1:Nat):Int))) (hi:=none) (m:=1) (n:=post.reverse.length) (MN _ _ _) (DN _) (by omega) (iZ _);rw[Js]at aD;refine ed bW (ed aD.len ?_);have a8:(post.reverse.drop 1).length=u.blocks.length-1:=by rw[wBz,aa]
   rw[a8]
   refine E4 (λk A B T D J L ab ac h'=>∃(i:Nat) (c:Bool) (I:Nat->Nat) (S:Nat->Prop) (BH:List Int),A=vo/\B=va/\T = .ptr l5 0/\D = .func iS [] [.ptr l6 0,.ptr l5 0]/\J = .bool c/\L=aC/\ab = .I ((u.blocks.length-1:Nat):Int)/\ac = .I (i:Nat)/\i+k=u.blocks.length-1/\
     (c=true->kk<=u.blocks.length)/\(c=false->∀b,G.gr.node b->G.gr.place b<i+1->S b/\(b≠0->XL G.gr I S b))/\Dm.Inv G.gr I S kk (i+1)/\SM S I u.blocks.length BH/\
     Sn X h9 X h'/\ei X h' (er l6 iy [vp]::er l5 iy [vi]::eJ eN en pl vp::eJ eZ en BH vi::er lb 29 (uC u vv vb vs)::cs)) ?_ (k:=u.blocks.length-1)
     ⟨0,false,I,S,BH,rfl,rfl,rfl,rfl,rfl,rfl,rfl,rfl,by omega,λh=>(by cases h),λ_ b q bX=>by
       obtain rfl:b=0:=G.gr.inj b 0 q G.gr.first (by have:=G.gr.BQ;omega);exact⟨hI.tree.zero,λh=>absurd rfl h⟩,hI,hR,ao,aA⟩
   rintro k3 A B T D J L ab ac aB ⟨i,c,U,S1,W,e3,e4,rfl,rfl,rfl,a9,rfl,rfl,cz,ba,bY,ae,t,K,r⟩;subst A B L;unfold xr;by_cases hi:i<u.blocks.length-1;rotate_left
   ·refine ir ?_
    obtain rfl:i=u.blocks.length-1:=by omega
    have hp:=ae.pass λb q=>by have:=ap b q;omega
    refine⟨k2-1,by omega,c,kk+1,U,S1,W,rfl,rfl,rfl,rfl,rfl,by omega,λh=>by have:=ba h;omega,λh=>?_,hp,t,K,r⟩
    simp_all
   refine gv ?_;obtain⟨b,q⟩:∃b,post.reverse[i+1]? =some b:=⟨_,ig (by omega)⟩
   have ag:G.gr.node b:=YL.1 (AI q);have am:=(f b).1 ag;have aE:G.gr.place b=i+1:=J6 G q;have aF:b≠0:=λe=>by subst e;rw[G.gr.BQ]at aE;omega
   have bb:iA eN X aB (post.reverse.drop 1) aC:=aD.eR λl hl=>(K.eR l hl).trans (ao.eR l hl).symm;obtain⟨l18,cA,_,j1,j2⟩:=bb.nat (i:=i) (x:=b) (by rw[wBn,Nat.add_comm];exact q) .i64;obtain⟨cB,cC,bZ,_,m1,m2,m3⟩:=(r3.since K).list (i:=b) (x:=Un.ahead u b) (by simp[am]) .i64;refine ed j1 (ed j2 (ed m1 (ed m2 (ed m3.len ?_))));have ah:∀p,G.gr.zH p b↔p∈Un.ahead u b:=λp=>sX.symm;have cD:(Un.ahead u b).length<=700:=by
     rw[<-ny];have:=nw g (i:=u.blocks.length) (j:=0) (b:=b) (iZ _) (by omega);omega
   refine EM (λk A B T D J bc bd L ab ac aG be bf h'=>∃(j:Nat) (dd:Int),A=vo/\B=va/\T = .ptr l5 0/\D = .func iS [] [.ptr l6 0,.ptr l5 0]/\J = .bool c/\bc = .I (b:Nat)/\bd = .I dd/\L=aC/\ab = .I ((u.blocks.length-1:Nat):Int)/\ac = .I (i:Nat)/\
     aG=bZ/\be = .I ((Un.ahead u b).length:Nat)/\bf = .I (j:Nat)/\j+k=(Un.ahead u b).length/\h' = aB/\
     ((dd = -1/\∀p∈(Un.ahead u b).take j,¬S1 p)\/∃d:Nat,dd=(d:Int)/\S1 d/\(∀p∈(Un.ahead u b).take j,S1 p->oW U d p)/\∀x,(∀p∈(Un.ahead u b).take j,S1 p->oW U x p)->oW U x d)) ?_ (k:=(Un.ahead u b).length)
     ⟨0,-1,rfl,rfl,rfl,rfl,rfl,rfl,rfl,rfl,rfl,rfl,rfl,rfl,rfl,by omega,rfl,.inl ⟨rfl,λp hp=>by simp at hp⟩⟩
   rintro k4 A B T D J bc bd L ab ac aG be bf b4 ⟨j,dd,e3,e4,rfl,rfl,rfl,rfl,rfl,a9,rfl,rfl,cE,rfl,rfl,cF,rfl,Y⟩;subst A B L aG;unfold xk;by_cases hj:j<(Un.ahead u b).length
   ·refine gv ?_
    obtain⟨a,ha⟩:∃a,(Un.ahead u b)[j]? =some a:=⟨_,ig hj⟩
    have bg:a<u.blocks.length:=by
      have:=sX.1 (AI ha);exact(g.V3 this).1
    have b5:(Un.ahead u b).take (j+1)=(Un.ahead u b).take j++[a]:=by
      obtain⟨s,rfl⟩:=jq.1 ha;exact Qh s
    obtain⟨cG,cH,_,q1,q2⟩:=m3.nat ha .i64;refine ed q1 (ed q2 (ed (r.ld 1 rfl rfl) ?_));have w:∀p,p∈(Un.ahead u b).take (j+1)↔p∈(Un.ahead u b).take j\/p=a:=λp=>by rw[b5];simp
    by_cases hS:S1 a;rotate_left
    ·obtain⟨aH,aI,t1,t2⟩:=r.Qx 3 rfl (t.no a bg hS) .i64
     refine ed t1 (ed t2 (gv ?_));refine py ?_;unfold mq;refine kh (m:=1) (by omega) (by omega) ⟨k4-1,by omega,j+1,dd,rfl,rfl,rfl,rfl,rfl,rfl,rfl,rfl,rfl,rfl,rfl,rfl,rfl,by omega,rfl,?_⟩;have cI:∀{P:Nat->Prop},(∀p∈(Un.ahead u b).take (j+1),S1 p->P p)↔(∀p∈(Un.ahead u b).take j,S1 p->P p):=λ{P}=>⟨λh p hp=>h p ((w p).2 (.inl hp)),by grind⟩
     simp_all
    obtain⟨aH,aI,t1,t2⟩:=r.Qx 3 rfl (t.yes a hS) .i64;refine ed t1 (ed t2 (ir ?_));rcases Y with⟨rfl,s⟩|⟨d,rfl,s,h2,N⟩
    ·refine gv ?_
     refine py ?_;unfold mq;refine kh (m:=1) (by omega) (by omega) ⟨k4-1,by omega,j+1,(a:Int),rfl,rfl,rfl,rfl,rfl,rfl,rfl,rfl,rfl,rfl,rfl,rfl,rfl,by omega,rfl,?_⟩;refine .inr ⟨a,rfl,hS,λp hp hs=>?_,λx hx=>hx a ((w a).2 (.inr rfl)) hS⟩;rcases(w p).1 hp with R|rfl
     ·exact absurd hs (s p R)
     ·exact .refl _
    ·refine ir ?_
     show cP CS iS [.I (d:Nat),.I (a:Nat),.ptr l6 0,.ptr l5 0] b4 _;refine YC r (i5:=1) (i6:=0) (ii:=3) (ip:=2) rfl rfl rfl rfl ae.tree t an s hS λd' g1 g2 g3 g4=>?_;refine py ?_;unfold mq;refine kh (m:=1) (by omega) (by omega) ⟨k4-1,by omega,j+1,(d':Int),rfl,rfl,rfl,rfl,rfl,rfl,rfl,rfl,rfl,rfl,rfl,rfl,rfl,by omega,rfl,?_⟩;refine .inr ⟨d',rfl,g1,λp hp hs=>?_,λx hx=>g4 x (N x λp hp hs=>hx p ((w p).2 (.inl hp)) hs) (hx a ((w a).2 (.inr rfl)) hS)⟩;rcases(w p).1 hp with R|rfl
     ·exact g2.trans (h2 p R hs)
     ·exact g3
   refine ir ?_;rw[Xj (by omega)]at Y;obtain⟨p0,bh,bi,b9⟩:=G.gr.early b ag aF;have bj:S1 p0:=ae.done p0 bh (by omega);obtain⟨d,rfl,cJ,aJ,bm⟩:∃d:Nat,dd=(d:Int)/\S1 d/\(∀p∈Un.ahead u b,S1 p->oW U d p)/\∀x,(∀p∈Un.ahead u b,S1 p->oW U x p)->oW U x d:=by
     rcases Y with⟨_,s⟩|s
     ·exact absurd bj (s p0 ((ah p0).1 bi))
     ·exact s
   have ai:∀p,S1 p->G.gr.zH p b->oW U d p:=λp hs he=>aJ p ((ah p).1 he) hs;have C:∀x,(∀p,S1 p->G.gr.zH p b->oW U x p)->oW U x d:=by simp_all
   have bn:i<1000000000:=by clear Y;omega
   have aq:k3-1<k3:=by clear Y;omega
   have ar:i+1+(k3-1)=u.blocks.length-1:=by clear Y;omega
   have aj:=(ae.LV ag aF aE ai C).1;refine ed (r.ld 1 rfl rfl) ?_;by_cases hsame:S1 b/\U b=d
   ·obtain ⟨M,rfl⟩:=hsame
    obtain⟨aH,aI,t1,t2⟩:=r.Qx 3 rfl (t.yes b M) .i64;refine ed t1 (ed t2 (Cw (gw rfl ?_)));refine wT ?_;unfold pw;rw[PA,Tg M]at aj;refine kh (m:=1) bn (by decide) ⟨k3-1,aq,i+1,c,U,S1,W,rfl,rfl,rfl,rfl,rfl,rfl,rfl,rfl,ar,ba,λhc b' bo bX=>?_,aj,t,K,r⟩;rcases Rl (G.gr.place b') (i+1)with s|s
    ·exact bY hc b' bo s
    ·obtain rfl:b' = b:=G.gr.inj _ _ bo ag (by omega)
     exact⟨M,λ_=>⟨ai,C⟩⟩
   ·obtain ⟨y,hy,bp⟩:∃y:Int,W[b]? =some y/\y≠(d:Int):=by
      by_cases M:S1 b
      ·refine⟨(U b:Int),t.yes b M,λe=>hsame ⟨M,?_⟩⟩
       exact Int.ofNat.inj e
      ·refine⟨-1,t.no b am M,?_⟩
       omega
    obtain⟨aH,aI,t1,t2⟩:=r.Qx 3 rfl hy .i64;refine ed t1 (ed t2 (Cw (fT bp ?_)));obtain⟨cK,cL,cM,b6,b7,cN,br,b8⟩:=r.Ir 3 rfl (k:=b) (y:=(d:Int)) (u:=V.I (d:Nat)) (by rw[t.len];exact am) rfl rfl rfl;refine ed (r.ld 1 rfl rfl) (ed b6 ?_);rw[b7,ej];simp only[mZ,jx]at br;refine wT ?_;unfold pw;refine kh (m:=1) bn (by decide) ⟨k3-1,aq,i+1,true,Dm.set U b d,λx=>S1 x\/x=b,W.set b (d:Int),rfl,rfl,rfl,rfl,rfl,rfl,rfl,rfl,ar,λ_=>?_,λh=>(by cases h),aj,⟨by simp[t.len],λx hx=>?_,λx hx hn=>?_⟩,K.trans b8,br⟩
    ·rcases Rl u.blocks.length kk with s|s
     ·exfalso
      obtain⟨h2,N⟩:=ae.stay (n:=u.blocks.length) (λb q=>(f b).1 q) s ag aF aE ai C;exact hsame ⟨h2,N.symm⟩
     ·exact s
    ·unfold Dm.set
     by_cases e:x=b
     ·grind
     ·rw[HO λh=>e h.symm,if_neg e]
      exact t.yes x (hx.resolve_right e)
    ·have e:x≠b:=λe=>hn (.inr e)
     rw[HO λh=>e h.symm];exact t.no x hx λh=>hn (.inl h)
end
open Un Dm
structure zcf (u:U) (BH:List Int) (I:Nat->Nat):Prop where
 len:BH.length=u.blocks.length
 zero:BH[0]? =some (-1)
 at_:∀b,b≠0->b<u.blocks.length->BH[b]? =some (I b:Int)
 zco:∃r:Nat->Nat,∀b,b<u.blocks.length->b≠0->I b<u.blocks.length/\r (I b)<r b
 iff:∀x b,b<u.blocks.length->(oW I x b↔oV (next u) x b)
section
variable{F F':Nat->Prop}{h h':Hp}{cs:List Pc}{Q:fo}{u:U}{vv vb vs:V}{lc:Nat}{bl pl D0:V}{xs ys BH:List Int}{I:Nat->Nat}
structure Cx (F:Nat->Prop) (h:Hp) (cs:List Pc) (lc:Nat) (u:U) (vv vb vs bl pl D0:V) (xs ys BH:List Int) (I:Nat->Nat):Prop where
 ck:Ck F h cs lc u vv vb vs bl pl D0
 rbl:iA eZ F h xs bl
 rpl:iA eZ F h ys pl
 rim:iA eZ F h BH D0
 std:Std u u.blocks.length 0 xs ys
 Qg:zcf u BH I
theorem Cx.since(C:Cx F h cs lc u vv vb vs bl pl D0 xs ys BH I)(s:Sn F h F' h')(a:ei F' h' cs):Cx F' h' cs lc u vv vb vs bl pl D0 xs ys BH I:=⟨C.ck.since s a,C.rbl.since s,C.rpl.since s,C.rim.since s,C.std,C.Qg⟩
theorem Cx.cons(C:Cx F h cs lc u vv vb vs bl pl D0 xs ys BH I)(s:Sn F h F' h'){p:Pc}(a:ei F' h' (p::cs)):Cx F' h' (p::cs) lc u vv vb vs bl pl D0 xs ys BH I:=⟨C.ck.cons s a,C.rbl.since s,C.rpl.since s,C.rim.since s,C.std,C.Qg⟩
theorem NX(C:Cx F h cs lc u vv vb vs bl pl D0 xs ys BH I){a b:Nat}(p:b<u.blocks.length)(q:oW I a b)(H:Q (.bool true) h):cP CS kP [.ptr lc 0,.I a,.I b] h Q:=by
 refine AU rfl rfl ?_;unfold tz;obtain⟨r,j⟩:=C.Qg.zco;refine yn (λk f g i h'=>∃b':Nat,f = .ptr lc 0/\g = .I a/\i = .I (b':Nat)/\k=r b'/\b' < u.blocks.length/\oW I a b'/\h' = h) ?_ (k:=r b) (by grind);rintro k f g i h' ⟨b',rfl,rfl,rfl,hk,c,d,rfl⟩;unfold oY;refine zbr (gw (by omega) ?_);by_cases e:a=b'
 ·exact fP (gw (by omega) H)
 refine fP (fT (by omega) ?_)
 cases d with
 |refl=>omega
 | up h0 s=>
   obtain⟨l,o,_,m,n⟩:=C.rim.int (C.Qg.at_ b' h0 c) .i64;obtain⟨r1,r2⟩:=j b' c h0;exact ed (fI _ _) (ed (by rfl) (ed (C.ck.ld 7 rfl) (ed m (ed n (by grind)))))
theorem Hf(C:Cx F h cs lc u vv vb vs bl pl D0 xs ys BH I){l:List Nat}{v:V}{b p:Nat}(A:iA eN F h l v)(W:l.length<1000000)(D:b<u.blocks.length)(hs:∀w∈l,∃c j,At u w c j/\(c=b->j<p)/\oV (next u) c b)(H:Q (.bool true) h) :
  cP CS iQ [.ptr lc 0,v,.I b,.I p] h Q:=by
 refine FU rfl rfl ?_;unfold yU;refine ed A.len ?_;refine CI (λk E G J a d f h'=>∃i:Nat,E = .ptr lc 0/\G = .I b/\J = .I p/\a=v/\d = .I l.length/\f = .I (i:Nat)/\i+k=l.length/\h' = h) ?_ (k:=l.length) (by simp_all);rintro k E G J a d f h' ⟨i,rfl,rfl,rfl,rfl,rfl,rfl,hk,rfl⟩;unfold vn;by_cases hi:i<l.length;rotate_left
 ·exact ir H
 refine gv ?_;obtain⟨c,j,g,M,m⟩:=hs _ (BG hi);have n:c<u.blocks.length:=by
  obtain⟨B,X,_⟩:=g;exact by grind
 obtain ⟨N,O⟩:=C.std.yes _ c j g (.inl n);obtain⟨l1,Y,_,P,R⟩:=A.nat (ig hi) .i64;obtain⟨l2,Z,_,K,L⟩:=C.rbl.int N .i64;obtain⟨l3,o3,_,S,T⟩:=C.rpl.int O .i64;refine ed P (ed R (ed (fI _ _) (ed (by rfl) (ed (C.ck.ld 5 rfl) (ed K (ed L (ed (by rfl) ?_)))))));have e:jz (.bool (((c:Int)) == (b:Int))) (oB (some (V.ptr lc 0)) λo=>oB (ij o) λq=>oB (fH 6 q) λr=>oB (ey r h') λs=>oB (some (V.I (l[i]:Nat))) λt=>oB (gI 1 s t) λx=>oB (ey x h') λy=>oB (some (V.I p)) λz=>eo .geq 3 y z)=some (.bool false):=by
  have l6:ey (.ptr lc (0+6)) h' = some pl:=C.ck.ld 6 rfl;simp only[fe,fI,fJ,l6,S,T,po,iD];congr 2;rw[wBh];intro U;simp only[ve,IB,CH]at U;have:=by omega
  omega
 refine ed e ?_;refine fK (ed rfl (fK (ed rfl (fK (ed (fI _ _) (fK (ed (by rfl) (fK (ed (C.ck.ld 5 rfl) (fK (ed rfl (fK (ed K (fK (ed L (fK (ed rfl (xM ?_))))))))))))))))));refine NX C D ((C.Qg.iff c b D).2 m) (ed rfl (iI (fT (by simp) ?_)));exact fM ⟨k-1,by omega,i+1,rfl,rfl,rfl,rfl,rfl,rfl,by omega,rfl⟩
theorem GO(C:Cx F h cs lc u vv vb vs bl pl D0 xs ys BH I){s b p:Nat}{fs:List Fm}(n:u.eh[s]? =some fs)(A:fs.length<=30/\∀f∈fs,f.locals.length<=40/\f.stack.length<=60)(o:b<u.blocks.length)
  (hs:∀w∈gY fs,∃c j,At u w c j/\(c=b->j<p)/\oV (next u) c b) (H:∀h',Sn F h F h'->ei F h' cs->Q (.bool true) h') :
  cP CS iJ [.ptr lc 0,.I s,.I b,.I p] h Q:=by
 refine Ba rfl rfl ?_;unfold tA;obtain⟨l1,L,f,_,B,_,D,q⟩:=C.ck.u.st n;refine ed (fI _ _) (ed (by rfl) (ed (by rfl) (ed (C.ck.ld 4 rfl) (ed B (ed (by rfl) (ed D (ed q.len ?_)))))))
 refine yY (λk r t v d e g h'=>∃j:Nat,r = .ptr lc 0/\t = .I b/\v = .I p/\d=f/\e = .I fs.length/\g = .I (j:Nat)/\j+k=fs.length/\Sn F h F h'/\ei F h' cs) ?_ (k:=fs.length)
  ⟨0,rfl,rfl,rfl,rfl,rfl,rfl,by omega,Sn.refl _ _,C.ck.H⟩
 rintro k r t v d e g E ⟨j,rfl,rfl,rfl,rfl,rfl,rfl,hk,i,x⟩;unfold pd;by_cases hj:j<fs.length;rotate_left
 ·exact ir (H E i x)
 refine gv ?_;obtain⟨l3,M,a,c,_,G,J,y,z⟩:=(q.since i).xI (ig hj);obtain⟨N,O⟩:=A.2 _ (BG hj);have K:∀w,w∈fs[j].locals\/w∈fs[j].stack->w∈gY fs:=by grind[gY,BG]
 refine ed G (ed J ?_);refine iH x rfl rfl (by simp only[Ol,ev,y.one,z.one];rfl) λP l m=>?_;have C2:=C.since (i.trans m) l.tail;refine ed (by rfl) (ed (l.ld 0 rfl rfl) ?_);refine Hf C2 (y.since m) (by omega) o (by simp_all) (ed rfl ?_);refine fK (ed rfl (fK (ed (by rfl) (fK (ed (l.ld 0 rfl rfl) (fK (ed rfl (fK (ed rfl (xM ?_))))))))));refine Hf C2 (z.since m) (by omega) o (by simp_all) (ed rfl (iI (fT (by simp) ?_)));exact fM ⟨k-1,by omega,j+1,rfl,rfl,rfl,rfl,rfl,rfl,by omega,i.trans m,l.tail⟩
theorem SZ{w b k:Nat}(h:zk u w b k):∃c j,At u w c j/\(c=b->j<k)/\oV (next u) c b:=by
 obtain⟨c,j,d,a⟩:=h;rcases a with⟨rfl,a⟩|⟨a,e⟩
 ·grind[oV.self]
 grind
theorem FP{w b:Nat}{B:Bk}(f:u.blocks[b]? =some B)(h:pT u w b):∃c j,At u w c j/\(c=b->j<B.ef.length)/\oV (next u) c b:=by
 obtain⟨c,j,a,d⟩:=h;refine⟨c,j,a,λe=>?_,d⟩;subst e;obtain⟨g,i,k⟩:=a
 grind
theorem VD{a:Nat}{x:Vl}{w:V}{a0:V}{i k:Nat}(b:a0 = .ptr lc 0)(C:Cx F h (er a gi (lT x w)::cs) lc u vv vb vs bl pl D0 xs ys BH I)(hc:a≠lc)(D:ey (.ptr a 5) h=some (.I x.state))(E:i<u.blocks.length)
  (G:leaves x.op=true->∃fs,u.eh[x.state]? =some fs/\(fs.length<=30/\∀f∈fs,f.locals.length<=40/\f.stack.length<=60)/\∀w∈gY fs,∃c j,At u w c j/\(c=i->j<k)/\oV (next u) c i) {K:fo}
  (B:∀h',Sn F h F h'->ei F h' (er a gi (lT x w)::cs)->K (.bool false) h') :
  oP (fQ true (.bool (leaves x.op))) λd=>
  oP (gV d (some a0)) λe=>
  oP (fQ true (.bool (leaves x.op))) λg=>
  oP (gV g (fH 5 (.ptr a 0))) λl=>
  oP (fQ true (.bool (leaves x.op))) λm=>
  oP (gV m (ey l h)) λn=>
  oP (fQ true (.bool (leaves x.op))) λo=>
  oP (gV o (some (.I i))) λp=>
  oP (fQ true (.bool (leaves x.op))) λq=>
  oP (gV q (some (.I k))) λr=>
  oP (fQ true (.bool (leaves x.op))) λs=>
  oP (gC s (some (iJ,[e,n,p,r]))) λt=>xd CS t h λv J=>
  oP (fQ true (.bool (leaves x.op))) λy=>
  oP (gV y (oD .not v)) λz=>
  oP (om (.bool false) (l0 (.bool (leaves x.op)) z (V.bool false))) λA=>K A J:=by
 subst b
 cases hq:leaves x.op with
 | true=>
   obtain⟨fs,L,M,N⟩:=G hq;refine gj (ed rfl (gj (ed (by rfl) (gj (ed D (gj (ed rfl (gj (ed rfl (AQ ?_))))))))))
   refine GO C L M E N λh' s' O=>gj (ed rfl (ed rfl (B h' s' O)))
 |false=>exact gO (gO (gO (gO (gO (DX (gO (ed rfl (B h (Sn.refl _ _) C.ck.H))))))))
theorem WQ(g:Good u)(C:Cx F h cs lc u vv vb vs bl pl D0 xs ys BH I)(ak:lc<h.next){i:Nat}{B:Bk}(d:u.blocks[i]? =some B)(H:∀F' h',Sn F h F' h'->ei F' h' cs->Q (.bool true) h'):cP CS lg [.ptr lc 0,.I i] h Q:=by
 refine E0 rfl rfl ?_;unfold xC;have nv:=g.nv;have nb:=g.nb;have t:i<u.blocks.length:=by grind
 have al:∀(s:Nat) (fs:List Fm),u.eh[s]? =some fs->fs.length<=30/\∀f∈fs,f.locals.length<=40/\f.stack.length<=60:=λs fs a=>by
  obtain⟨_,h2,h3⟩:=g.st s fs a
  simp_all
 have am:B.ef.length<=3000:=by
  have:=jD u.ef.length B.ef (Gc g d) λv hv=>by
   obtain⟨k,hk⟩:=mm.1 hv;exact g.jA v i k ⟨B,d,hk⟩
  omega
 obtain⟨l7,o7,bv,bn,bp,_,i1,i2,R,iN,ip,_⟩:=C.ck.u.mh d;refine ed (fI _ _) (ed (by rfl) (ed (by rfl) (ed (C.ck.ld 3 rfl) (ed i1 (ed i2 ?_)))));refine iH C.ck.H rfl rfl (by simp only[lB,ev,R.one,iN.one,ip.one];rfl) λh2 H2 J=>?_;have C2:=C.cons J H2;have R:=R.since J;have iN:=iN.since J;have ip:=ip.since J;refine ed (by rfl) (ed (H2.ld 0 rfl rfl) (ed R.len (ed (by rfl) (ed (H2.ld 0 rfl rfl) (ed R.len ?_)))))
 refine Cb (λk T U V W c l o h'=>∃(F':Nat->Prop) (j:Nat),T = .ptr lc 0/\U = .I i/\V = .ptr h.next 0/\W = .I B.ef.length/\c=bv/\l = .I B.ef.length/\o = .I j/\j+k=B.ef.length/\
  Sn F h2 F' h'/\ei F' h' (er h.next 41 (lB B bv bn bp)::cs)) ?_ (k:=B.ef.length) ⟨F,0,rfl,rfl,rfl,rfl,rfl,rfl,rfl,by omega,Sn.refl _ _,H2⟩
 rintro k T U V W c l o h3 ⟨F3,j,rfl,rfl,rfl,rfl,ab,rfl,rfl,hk,y,A⟩;subst c;unfold uX;have C3:=C2.since y A;by_cases hj:j<B.ef.length;rotate_left
 ·refine ir ?_;refine ed (by rfl) (ed (A.ld 0 rfl rfl) ?_);by_cases c2:B.fin=2
  ·refine fP (gw (by omega) ?_);refine ed (by rfl) (ed (A.ld 0 rfl rfl) ?_);refine zan [B.cond] (pY _) A λF4 h4 v q r r4=>?_;refine Hf (C3.since r q) r4 (by simp) t (λw hw=>?_) (H _ _ ((J.trans y).trans r) q.tail);obtain rfl:=wBV.1 hw;exact FP d (g.A2 i B d c2)
  refine fP (fT (by omega) ?_);by_cases c3:B.fin=3
  ·refine fP (gw (by omega) ?_);refine ed (by rfl) (ed (A.ld 0 rfl rfl) ?_);have ac:B.state<u.eh.length:=by
    rcases g.fin i B d with⟨K,_⟩|⟨K,_⟩|⟨_,_,K⟩
    ·omega
    ·omega
    ·exact K
   obtain⟨fs,a⟩:∃fs,u.eh[B.state]? =some fs:=by simp_all
   refine GO C3 a (by grind) t (λw hw=>FP d (g.De i B fs d c3 a w hw)) λh4 r q=>H _ _ ((J.trans y).trans r) q.tail
  ·exact fP (fT (by omega) (H _ _ (J.trans y) A.tail))
 refine gv ?_;have e:At u (B.ef[j]) i j:=⟨B,d,ig hj⟩
 have an:=g.jA _ _ _ e;obtain⟨x,D⟩:∃x,u.ef[B.ef[j]]? =some x:=by simp_all
 have ae:B.ez.length<=700:=by
  rw[g.ez i B d,<-ny];have:=nw g (i:=u.blocks.length) (j:=0) (b:=i) (iZ _) (by omega);omega
 have ag:x.op=21\/x.op=20->x.args.length<=700:=by
  rintro(K|K)
  ·rw[(g.By _ _ _ _ _ e D K d).2];exact ae
  ·rw[g.putAt _ x D K];omega
 obtain⟨l9,o9,_,j1,j2⟩:=(R.since y).nat (ig hj) .i64;obtain⟨l10,ao,w,_,q1,q2,iw,_⟩:=C3.ck.u.val D;refine ed j1 (ed j2 (ed (fI _ _) (ed (by rfl) (ed (by rfl) (ed (C3.ck.ld 2 rfl) (ed q1 (ed q2 ?_)))))));refine iH A rfl rfl (by simp only[lT,ev,iw.one];rfl) λh4 q r=>?_;have C4:=C3.cons r q;have L:=iw.since r;have ap:h3.next<=h4.next:=r.next;have aq:h.next<h3.next:=(A.ok 0 _ rfl).2.1;refine ed (by rfl) (ed (q.ld 0 rfl rfl) ?_);by_cases M:x.op=21
 ·refine fP (gw (by omega) ?_);refine ed (by rfl) (ed (q.ld 0 rfl rfl) (ed L.len ?_));have ar:=(g.By _ _ _ _ _ e D M d).2
  refine BV (λk T U V W c l o N X Y h'=>∃(F':Nat->Prop) (m:Nat),T = .ptr lc 0/\U = .I i/\V = .ptr h.next 0/\W = .I B.ef.length/\c=bv/\l = .I B.ef.length/\o = .I j/\N=w/\X = .I x.args.length/\Y = .I m/\m+k=x.args.length/\
   Sn F3 h4 F' h'/\ei F' h' (er h3.next 38 (lT x w)::er h.next 41 (lB B bv bn bp)::cs)) ?_ (k:=x.args.length) ⟨F3,0,rfl,rfl,rfl,rfl,rfl,rfl,rfl,rfl,rfl,rfl,by omega,Sn.refl _ _,q⟩
  rintro k2 T U V W c l o N X Y h5 ⟨F5,m,rfl,rfl,rfl,rfl,ab,rfl,rfl,au,rfl,rfl,aw,G,O⟩;subst c N;unfold uR;have C5:=C4.since G O;by_cases hm:m<x.args.length;rotate_left
  ·refine ir ?_;refine sR ?_;unfold m0;exact fM ⟨k-1,by omega,F5,j+1,rfl,rfl,rfl,rfl,rfl,rfl,rfl,by omega,(y.trans r).trans G,O.tail⟩
  refine gv ?_;obtain⟨l11,ax,aj,m1,m2⟩:=(L.since G).nat (ig hm) .i64;refine ed m1 (ed m2 ?_);have ay:m<B.ez.length:=by omega
  obtain⟨p,hp⟩:∃p,B.ez[m]? =some p:=by simp_all
  have ah:p<u.blocks.length:=by
   have:=AI hp;rw[g.ez i B d]at this;exact(g.V3 (sX.1 this)).1
  obtain⟨P,hP⟩:∃P,u.blocks[p]? =some P:=by simp_all
  rw[pY,ic];obtain⟨S,Z,r6⟩:=O.U1 (E:=eN) (xs:=[x.args[m]]) (n:=1) en rfl (tP F5 h5 [x.args[m]]) false;have g6:(h5.new (.cells 3 1 true false (gJ [x.args[m]]))).get h5.next=some (.cells 3 1 true false (gJ [x.args[m]])):=fg _ _;have C6:=C5.since Z S;obtain⟨l12,aA,_,n1,n2⟩:=(((ip.since y).since r).since (G.trans Z)).nat hp .i64;obtain⟨l13,aB,pv,pn,pp,_,p1,_,ai,_,_,pa⟩:=C6.ck.u.mh hP;refine ed (by rfl) (ed (S.ld 1 rfl rfl) (ed n1 (ed n2 (ed (fI _ _) (ed (by rfl) (ed (by rfl) (ed (C6.ck.ld 3 rfl) ?_)))))));refine ed (by rfl) (ed (S.ld 1 rfl rfl) (ed n1 (ed n2 (ed p1 (ed (by rfl) (ed pa.ef (ed ai.len ⟨by simp_all,?_⟩)))))));refine Hf C6 r6 (by simp) ah (λz hz=>?_) ⟨iZ _,ue (gw rfl ?_)⟩
  ·obtain rfl:=wBV.1 hz;exact FP hP (g.AX _ i j x B e D M d m _ p (by simp_all) hp)
  ·exact fM ⟨k2-1,by omega,_,m+1,rfl,rfl,rfl,rfl,rfl,rfl,rfl,rfl,rfl,rfl,by omega,G.trans Z,S⟩
 refine fP (fT (by omega) ?_);refine ed (q.C9 0 rfl rfl) ?_;refine Ny q L (by omega) λF5 h5 v G O r5=>?_;have C5:=C4.since G O;refine Hf C5 r5 (by grind[GY]) t (λz hz=>SZ (g.A6 _ i j x e D M z hz)) (ed rfl ?_);refine fK (ed (by rfl) (fK (ed (O.ld 0 rfl rfl) (xM ?_))));refine Ik (fK (ed rfl ?_));refine VD rfl C5 (by omega) (O.ld 0 rfl rfl) t (λaa=>?_) λh6 Z S=>?_
 ·have ac:=g.leave _ x D aa;obtain⟨fs,a⟩:∃fs,u.eh[x.state]? =some fs:=by simp_all
  exact⟨fs,a,by grind,λz hz=>SZ (g.Dx _ i j x fs e D aa a z hz)⟩
 ·refine iI (fT (by simp) ?_);refine sR ?_;unfold m0;exact fM ⟨k-1,by omega,F5,j+1,rfl,rfl,rfl,rfl,rfl,rfl,rfl,by omega,((y.trans r).trans G).trans Z,S.tail⟩
end
open Un Dm
section
variable{F F':Nat->Prop}{h h':Hp}{cs:List Pc}{Q:fo}{u:U}{vv vb vs:V}
theorem WL(g:Good u)(H0:ei F h cs)(hu:CL F h u vv vb vs)(H:∀F' h',Sn F h F' h'->ei F' h' cs->Q (.bool true) h'):cP CS zM [.agg (uC u vv vb vs)] h Q:=by
 refine Pb rfl rfl ?_;unfold Jf;have nv:=g.nv;have nb:=g.nb;have Jz:=g.Jz;have ns:=g.ns;refine nQ H0 hu.one λt x s1=>?_;have u1:=hu.since s1;have l2:ey (.ptr h.next (0+2)) t=some vv:=x.ld 0 rfl rfl;have l3:ey (.ptr h.next (0+3)) t=some vb:=x.ld 0 rfl rfl;have l4:ey (.ptr h.next (0+4)) t=some vs:=x.ld 0 rfl rfl;refine oF l2 (ed u1.v.len (ed (pg _ _ _ _) ?_));rw[Vr (by omega)];have e1:om (.bool false) (oB (fH 3 (.ptr h.next 0)) λf=>oB (ey f t) λj=>oB (fy j) λk=>eo .gtr 3 k (V.I 300))=some (.bool false):=by
  simp only[ng,fJ,fe,l3,u1.b.len,pg];rw[Vr (by omega)]
 have e2:om (.bool false) (oB (fH 4 (.ptr h.next 0)) λf=>oB (ey f t) λj=>oB (fy j) λk=>eo .gtr 3 k (V.I 1000))=some (.bool false):=by
  simp only[ng,fJ,fe,l4,u1.s.len,pg];rw[Vr (by omega)]
 have e3:om (.bool false) (oB (fH 3 (.ptr h.next 0)) λf=>oB (ey f t) λj=>oB (fy j) λk=>eo .eql 3 k (V.I 0))=some (.bool false):=by
  simp only[ng,fJ,fe,l3,u1.b.len,ik];congr 2;rw[UT];omega
 refine ed e1 (ed e2 (ed e3 (iI (fT (by simp) ?_))));refine ed (x.C9 0 rfl rfl) (ed (show _=some (V.agg [.I u.func,.I u.pc,vv,vb,vs,.ee,.ee,.ee]) from rfl) ?_);refine nQ x (by simp only[ev,u1.v.one,u1.b.one,u1.s.one];rfl) λC D s2=>?_;have u2:=u1.since s2;generalize t.next=lc at*;have l4:ey (.ptr h.next (0+4)) C=some vs:=D.ld 1 rfl rfl;refine oF l4 (ed u2.s.len ?_);have C2:Ck F C (er lc 75 [.I u.func,.I u.pc,vv,vb,vs,.ee,.ee,.ee]::er h.next 29 (uC u vv vb vs)::cs) lc u vv vb vs .ee .ee .ee:=⟨D,⟨0,_,rfl⟩,u2⟩
 refine K0 (by omega) (λF' h'=>F' = F/\Sn F C F h'/\ei F h' (er lc 75 [.I u.func,.I u.pc,vv,vb,vs,.ee,.ee,.ee]::er h.next 29 (uC u vv vb vs)::cs)) ⟨rfl,Sn.refl _ _,D⟩ (λi hi F' h' hP n p=>?_) λF3 h3 hP=>?_
 ·obtain⟨rfl,s',l⟩:=hP;show cP CS lh [.ptr lc 0,.I i] h' n;have hs:=ig hi;obtain⟨g1,g2,g3⟩:=g.st i _ hs;exact Wk (C2.since s' l) hs ⟨g1,g2⟩ g3 λa c d=>p F' a ⟨rfl,s'.trans c,d⟩
 obtain⟨rfl,E,H3⟩:=hP;refine ed rfl (fK (ed rfl (xM ?_)));refine VM g H3 (u2.since E) λJ K b' r xs ys s4 L rb rp std=>?_;refine ed rfl (fK (ed rfl ?_));have M:=(u2.since E).since s4;have N:Ck J K (er lc 75 [.I u.func,.I u.pc,vv,vb,vs,b',r,.ee]::er h.next 29 (uC u vv vb vs)::cs) lc u vv vb vs b' r .ee:=⟨L,⟨0,_,rfl⟩,M⟩
 have l2:ey (.ptr h.next (0+2)) K=some vv:=L.ld 1 rfl rfl;refine fK (ed (fJ _ _ _) (fK (ed l2 (fK (ed M.v.len (fK (ed rfl (fK (ed rfl (xM ?_))))))))));refine K0 (F:=J) (by omega) (λF' h'=>Sn J K F' h'/\ei F' h' (er lc 75 [.I u.func,.I u.pc,vv,vb,vs,b',r,.ee]::er h.next 29 (uC u vv vb vs)::cs)) ⟨Sn.refl _ _,L⟩ (λi hi F' h' hP n p=>?_) λF5 h5 hP=>?_
 ·obtain⟨s',l⟩:=hP;show cP CS jH [.ptr lc 0,.I i] h' n;exact zas g (N.since s' l) (rb.since s') std hi (l.ok 0 _ rfl).2.1 λe a c d=>p e a ⟨s'.trans c,d⟩
 obtain⟨A,B⟩:=hP;have u5:=M.since A;have l3:ey (.ptr h.next (0+3)) h5=some vb:=B.ld 1 rfl rfl;refine ed rfl (fK (ed rfl (fK (ed (fJ _ _ _) (fK (ed l3 (fK (ed u5.b.len (fK (ed rfl (fK (ed rfl (xM ?_)))))))))))));refine K0 (F:=F5) (by omega) (λF' h'=>Sn F5 h5 F' h'/\ei F' h' (er lc 75 [.I u.func,.I u.pc,vv,vb,vs,b',r,.ee]::er h.next 29 (uC u vv vb vs)::cs)) ⟨Sn.refl _ _,B⟩ (λi hi F' h' hP n p=>?_) λF6 h6 hP=>?_
 ·obtain⟨s',l⟩:=hP;show cP CS lR [.ptr lc 0,.I i] h' n;exact XF g ((N.since A B).since s' l) (ig hi) λe a c d=>p e a ⟨s'.trans c,d⟩
 obtain⟨O,P⟩:=hP;have u6:=u5.since O;have l3:ey (.ptr h.next (0+3)) h6=some vb:=P.ld 1 rfl rfl;refine ed rfl (fK (ed rfl (fK (ed (fJ _ _ _) (fK (ed l3 (fK (ed u6.b.len (fK (ed rfl (fK (ed rfl (xM ?_)))))))))))));refine K0 (F:=F6) (by omega) (λF' h'=>Sn F6 h6 F' h'/\ei F' h' (er lc 75 [.I u.func,.I u.pc,vv,vb,vs,b',r,.ee]::er h.next 29 (uC u vv vb vs)::cs)) ⟨Sn.refl _ _,P⟩ (λi hi F' h' hP n p=>?_) λF7 h7 hP=>?_
 ·obtain⟨s',l⟩:=hP;show cP CS my [.ptr lc 0,.I i] h' n;exact zam g (((N.since A B).since O P).since s' l) (ig hi) λe a c d=>p e a ⟨s'.trans c,d⟩
 obtain ⟨s7,H7⟩:=hP;have u7:=u6.since s7;refine ed rfl (iI (fT (by simp) ?_));refine ER rfl rfl ?_;unfold xo;have lA:gy 5 (.ptr lc 0) h7=some (.agg (uC u vv vb vs)):=by
  rw[Bf (H7.get 0 rfl),BY (by simp)];rfl
 refine ed (fI _ _) (ed (fJ _ _ _) (ed lA ?_));refine Ov g H7 u7 λF8 h8 vo seen post s8 R G ro=>?_;have S:=u7.since s8;have lo:=ro.len;rw[List.length_reverse,O3 g G]at lo;refine ed lo (oF (R.ld 1 rfl rfl) (ed S.b.len (Cw (gw rfl ?_))));refine ed (R.C9 1 rfl rfl) ?_;refine L1 g R S λT h9 vd BH I U W G' s9 H9 rd d1 d2 d3 d4 d5=>?_;obtain⟨y,X,ab,q,w⟩:=H9.st 0 (o:=7) (u:=vd) rfl (by simp) rd.one;refine ed (fI _ _) (ed (fJ _ _ _) ?_);rw[show V.ptr lc (0+7)=V.ptr lc 7 from rfl,X,ej];simp only[mZ,jx]at q;have z:=(S.since s9).since w;refine oF (q.ld 1 rfl rfl) (ed z.b.len ?_);have m:=((((A.trans O).trans s7).trans s8).trans s9).trans w
 have Y:Cx T y (er lc 75 [.I u.func,.I u.pc,vv,vb,vs,b',r,vd]::er h.next 29 (uC u vv vb vs)::cs) lc u vv vb vs b' r vd xs ys BH I:=
  ⟨⟨q,⟨0,_,rfl⟩,z⟩,rb.since m,rp.since m,rd.since w,std,⟨d1,d2,d3,⟨G'.gr.place,λb hb h0=>d4.up b hb h0⟩,d5⟩⟩
 refine K0 (F:=T) (by omega) (λF' h'=>Sn T y F' h'/\ei F' h' (er lc 75 [.I u.func,.I u.pc,vv,vb,vs,b',r,vd]::er h.next 29 (uC u vv vb vs)::cs)) ⟨Sn.refl _ _,q⟩ (λi hi F' h' hP n p=>?_) λac ae hP=>?_
 ·obtain⟨s',l⟩:=hP;show cP CS lg [.ptr lc 0,.I i] h' n;exact WQ g (Y.since s' l) (l.ok 0 _ rfl).2.1 (ig hi) λe a c d=>p e a ⟨s'.trans c,d⟩
 obtain⟨Z,aa⟩:=hP;exact H _ _ (((((s1.trans s2).trans E).trans s4).trans m).trans Z) aa.tail.tail
end
