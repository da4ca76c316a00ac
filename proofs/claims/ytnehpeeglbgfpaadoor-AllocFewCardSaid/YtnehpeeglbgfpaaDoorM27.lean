/- Parts. -/
import Derived.Test.YtnehpeeglbgfpaaDoorM26
set_option maxHeartbeats 4000000
namespace Go.Proofs.YtnehpeeglbgfpaaDoor.Hx
open Un Dm
structure Sk (G:Dm.Gr) (I:Nat->Nat) (S:Nat->Prop) (b:Nat):Prop where
 low:∀p,S p->G.wj p b->mP I (I b) p
 Vw:∀x,(∀p,S p->G.wj p b->mP I x p)->mP I x (I b)
theorem J6(I:Nat->Nat)(b:Nat):Dm.set I b (I b)=I:=by
 grind[Dm.set]
theorem M7{S:Nat->Prop}{b:Nat}(h:S b):(λx=>S x\/x=b)=S:=by
 grind
theorem Py{G:Dm.Gr}{I:Nat->Nat}{S:Nat->Prop}{k n:Nat}(o:Dm.Inv G I S k 1)(i:∀b,G.node b->S b)(f:∀b,G.node b->b≠0->Sk G I S b)(a:∀b,G.node b->G.place b<n)(c:∀p,p<n->∃b,G.node b/\G.place b=p):Dm.Inv G I S (k+1) 1:=by
 have d:∀m,1+m<=n->Dm.Inv G I S k (1+m):=by
  intro m
  induction m with
  |zero=>simp_all
  | succ m j=>
    intro q;have l:=j (by omega)
    let⟨b,hb,hp⟩:=c (1+m) (by omega)
    have h0:b≠0:=λe=>by subst e;rw[G.yW]at hp;omega
    have g:=(l.Hv hb h0 hp (f b hb h0).low (f b hb h0).Vw).1;rw[J6,M7 (i b hb)]at g;exact g
 have r:1<=n:=by have:=a 0 G.first;omega
 have h:=d (n-1) (by omega);rw[show 1+(n-1)=n by omega]at h;exact h.pass a
theorem KG{G:Dm.Gr}{I:Nat->Nat}{S:Nat->Prop}{k n:Nat}(d:Dm.Inv G I S k 1)(e:∀b,G.node b->S b)(f:∀b,G.node b->b≠0->Sk G I S b)(a:∀b,G.node b->G.place b<n)(c:∀p,p<n->∃b,G.node b/\G.place b=p):∀m,Dm.Inv G I S (k+m) 1
 |0=>d
 |m+1=>Py (KG d e f a c m) e f a c
section
variable{u:U}{seen:List Bool}{post:List Nat}
theorem CK(g:Good u)(G:DP u.blocks.length (next u) seen post []):∀b,b<u.blocks.length->b∈post:=by
 have c:∀b l,Pt (next u) b l->b∈post:=by
  intro b l a
  induction a with
  |nil=>let⟨p,a⟩:=G.last rfl;simp_all
  | step _ d e=>
    have:=(G.iff _).1 (G.closed _ e _ d)
    simp_all
 intro b f
 let⟨l,hl⟩:=g.reach b f
 grind
theorem Cy(g:Good u)(G:DP u.blocks.length (next u) seen post []):post.length=u.blocks.length:=G.all (CK g G)
theorem IG(G:DP u.blocks.length (next u) seen post []):post.reverse.Nodup:=by
 have:=G.nodup
 grind
theorem FJ(G:DP u.blocks.length (next u) seen post []){i b:Nat}(h:post.reverse[i]? =some b):G.gr.place b=i:=by
 show post.reverse.idxOf b=i;obtain⟨hi,rfl⟩:=jv.1 h;have a:=IG G
 grind
end
section
variable{F F':Nat->Prop}{h h':Hp}{cs:List Pc}{Q:fu}{u:U}{vv vb vs:V}
structure MX (S:Nat->Prop) (I:Nat->Nat) (n:Nat) (yZ:List Int):Prop where
 len:yZ.length=n
 yes:∀b,S b->yZ[b]? =some (I b:Int)
 no:∀b,b<n->¬S b->yZ[b]? =some (-1)
theorem Rc{G:Dm.Gr}{I:Nat->Nat}{S:Nat->Prop}{n l5 l6 t5 t6:Nat}{u vp:V}{yZ:List Int}{pl:List Nat}(g:en F h cs){i5 i6 ii ip:Nat}(v:cs[i5]? =some (eE l5 t5 [u]))(w:cs[i6]? =some (eE l6 t6 [vp]))(hi:cs[ii]? =some (ft eZ fI yZ u))(y:cs[ip]? =some (ft eN fI pl vp))
  (i:Tree G I S) (z:MX S I n yZ) (l:∀b,G.node b->pl[b]? =some (G.place b)) {a b:Nat} (E:S a) (J:S b)
  (H:∀d,S d->mP I d a->mP I d b->(∀x,mP I x a->mP I x b->mP I x d)->Q (.I (d:Nat)) h):cP CS iA [.I a,.I b,.ptr l6 0,.ptr l5 0] h Q:=by
 refine B4 rfl rfl ?_;unfold vQ
 refine zz (λk A B C D h'=>∃c f,A = .I (c:Nat)/\B = .I (f:Nat)/\C = .ptr l6 0/\D = .ptr l5 0/\h' = h/\k=G.place c+G.place f/\S c/\S f/\mP I c a/\mP I f b/\(∀x,mP I x a->mP I x b->mP I x c/\mP I x f)) ?_
  ⟨a,b,rfl,rfl,rfl,rfl,rfl,rfl,E,J,.refl _,.refl _,by simp_all⟩
 rintro k A B C D h' ⟨c,f,rfl,rfl,rfl,rfl,rfl,R,sa,sb,m,o,K⟩;unfold rZ;by_cases e:c=f
 ·subst e;refine Hc (hV rfl ?_);exact H c sa m o λx p q=>(K x p q).1
 refine Hc (gJ (by omega) ?_)
 let⟨lp,op,L,M⟩:=g.RV ip y (l c (i.node _ sa)) .i64
 let⟨lq,oq,N,O⟩:=g.RV ip y (l f (i.node _ sb)) .i64
 refine ec (g.ld i6 w rfl) (ec L (ec M (ec (g.ld i6 w rfl) (ec N (ec O ?_)))));by_cases HG:G.place f<G.place c
 ·refine Ky (hV (by omega) ?_)
  let⟨li,oi,r,s⟩:=g.Cg ii hi (z.yes c sa) .i64
  refine ec (g.ld i5 v rfl) (ec r (ec s ?_));have h0:c≠0:=λe=>by subst e;rw[G.yW]at HG;omega
  let⟨t,P⟩:=i.up c sa h0
  exact⟨_,by omega,I c,f,rfl,rfl,rfl,rfl,rfl,rfl,t,sb,(mP.up h0 (.refl _)).trans m,o,λx p q=>⟨i.SB sa sb HG (by simp_all) (by simp_all),by simp_all⟩⟩
 ·refine Ky (gJ (by omega) ?_)
  let⟨li,oi,r,s⟩:=g.Cg ii hi (z.yes f sb) .i64
  refine ec (g.ld i5 v rfl) (ec r (ec s ?_));have j:G.place c<G.place f:=by
   have:G.place c≠G.place f:=λe'=>e (G.inj _ _ (i.node _ sa) (i.node _ sb) e');omega
  have h0:f≠0:=λe=>by subst e;rw[G.yW]at j;omega
  let⟨t,P⟩:=i.up f sb h0
  exact⟨_,by omega,c,I f,rfl,rfl,rfl,rfl,rfl,rfl,sa,t,m,(mP.up h0 (.refl _)).trans o,λx p q=>⟨by simp_all,i.SB sb sa j (by simp_all) (by simp_all)⟩⟩
theorem Ho(g:Good u)(H0:en F h cs)(hu:zr F h u vv vb vs)
  (H:∀F' h' v yZ I seen post (G:DP u.blocks.length (next u) seen post []),Sn F h F' h'->en F' h' cs->iB eZ F' h' yZ v->yZ.length=u.blocks.length->yZ[0]? =some (-1)->(∀b,b≠0->b<u.blocks.length->yZ[b]? =some (I b:Int))->Tree G.gr I (λb=>b<u.blocks.length)->
   (∀x b,b<u.blocks.length->(mP I x b↔vz (next u) x b))->Q v h'):cP CS nQ [.agg (uC u vv vb vs)] h Q:=by
 refine Ea rfl rfl ?_;unfold xY;have nb:=g.nb;have Mn:=g.Mn;refine su H0 hu.one λr H1 s1=>?_;have lA:=H1.HY 0 rfl rfl;refine ec lA (ec lA ?_);refine CE g H1 (hu.since s1) λF2 h2 vo seen post s2 H2 G r2=>⟨s2.next,H2.HY 0 rfl rfl,?_⟩
 refine J3 g H2 (hu.since (s1.trans s2)) λR U va s3 H3 r3=>⟨s3.next,?_⟩
 have u3:=hu.since ((s1.trans s2).trans s3);have r2:=r2.since s3;refine oF (H3.ld 0 rfl rfl) (ec u3.b.len ?_);rw[jY rfl (by decide) (by omega),hN];obtain⟨H4,s4⟩:=H3.make (E:=eZ) u.blocks.length rfl rfl;have n4:(U.new (.cells fI 1 true false (List.replicate u.blocks.length (V.I 0)))).next=U.next+1:=rfl;have g4:(U.new (.cells fI 1 true false (List.replicate u.blocks.length (V.I 0)))).get U.next=some (.cells 3 1 true false (List.replicate u.blocks.length (V.I 0))):=ey _ _;show oP (fP 3 (.ptr h.next 0)) _;generalize bR:U.new (.cells fI 1 true false (List.replicate u.blocks.length (V.I 0)))=W at*;refine oF (H4.ld 1 rfl rfl) (ec (u3.since s4).b.len ?_);rw[jY rfl (by decide) (by omega),hN];obtain⟨H5,s5⟩:=H4.make (E:=eN) u.blocks.length rfl rfl;have n5:(W.new (.cells fI 1 true false (List.replicate u.blocks.length (V.I 0)))).next=W.next+1:=rfl;have g5:(W.new (.cells fI 1 true false (List.replicate u.blocks.length (V.I 0)))).get W.next=some (.cells 3 1 true false (List.replicate u.blocks.length (V.I 0))):=ey _ _;have bb:=(eJ (.cells fI 1 true false (List.replicate u.blocks.length (V.I 0))) (by omega)).trans g4;generalize bS:W.new (.cells fI 1 true false (List.replicate u.blocks.length (V.I 0)))=h5 at*;rw[hN]
 let⟨H6,s6⟩:=H5.GZ iT [V.ed]
 have n6:(h5.new (.cells iT 1 true false [V.ed])).next=h5.next+1:=rfl;have g6:(h5.new (.cells iT 1 true false [V.ed])).get h5.next=some (.cells 22 1 true false [V.ed]):=ey _ _;have bc:=(eJ (.cells iT 1 true false [V.ed]) (by omega)).trans g5;have bd:=(eJ (.cells iT 1 true false [V.ed]) (by omega)).trans bb;show uY _ (h5.new (.cells iT 1 true false [V.ed])) _;generalize bU:h5.new (.cells iT 1 true false [V.ed])=h6 at*;rw[hN]
 let⟨H7,s7⟩:=H6.GZ iT [V.ed]
 have g7:(h6.new (.cells iT 1 true false [V.ed])).get h6.next=some (.cells 22 1 true false [V.ed]):=ey _ _;have be:=(eJ (.cells iT 1 true false [V.ed]) (by omega)).trans g6;have aG:=(eJ (.cells iT 1 true false [V.ed]) (by omega)).trans bc;have bf:=(eJ (.cells iT 1 true false [V.ed]) (by omega)).trans bd;show(((h6.new (.cells iT 1 true false [V.ed])).get h6.next=_/\_)/\_);generalize bV:h6.new (.cells iT 1 true false [V.ed])=h7 at*;refine⟨⟨g7,O.ie _ _ _ _ _⟩,⟨be,O.ie _ _ _ _ _⟩,⟨aG,O.ie _ _ _ _ _⟩,H7.ld 4 rfl rfl,⟨bf,O.ie _ _ _ _ _⟩,H7.ld 4 rfl rfl,?_⟩
 let⟨h8,e8,n8,H8,s8,k8⟩:=H7.XG 1 (o:=0) (u:= .slice U.next 0 u.blocks.length) rfl (by simp) rfl
 rw[e8,eh];refine⟨n8,⟨(k8 _ (by omega)).trans aG,O.ie _ _ _ _ _⟩,(by simp[ pP]at H8;exact H8.ld 4 rfl rfl),?_⟩;simp[ pP]at H8
 let⟨h9,e9,n9,H9,s9⟩:=H8.st 0 (o:=0) (u:= .slice W.next 0 u.blocks.length) rfl (by simp) rfl
 rw[e9,eh];refine⟨n9,?_⟩;simp[pP]at H9;have aq:=((((s4.trans s5).trans s6).trans s7).trans s8).trans s9;have bg:=((s1.trans s2).trans s3).trans aq;have r2:=r2.since aq;have r3:=r3.since aq;generalize V.slice U.next 0 u.blocks.length=vi at*;generalize V.slice W.next 0 u.blocks.length=vp at*;generalize h6.next=l6 at*;generalize h5.next=l5 at*;generalize h.next=lb at*;have aH:=H9.len 3 rfl;rw[List.length_replicate]at aH;refine ec (H9.ld 1 rfl rfl) (ec aH ?_);have bi:=Cy g G;have X:post.reverse.length=u.blocks.length:=by simpa using bi
 refine Bm (λk w z L x6 aI aJ h'=>∃(i:Nat) (xs:List Int),w=vo/\z=va/\L = .ptr l5 0/\x6 = .ptr l6 0/\aI = .I u.blocks.length/\aJ = .I i/\i+k=u.blocks.length/\xs.length=u.blocks.length/\(∀j,j<i->xs[j]? =some (-1))/\
  Sn R h9 R h'/\en R h' (eE l6 iT [vp]::eE l5 iT [vi]::ft eN fI (List.replicate u.blocks.length 0) vp::ft eZ fI xs vi::eE lb 29 (uC u vv vb vs)::cs)) ?_ (k:=u.blocks.length)
  ⟨0,_,rfl,rfl,rfl,rfl,rfl,rfl,by omega,by simp,λj hj=>by omega,Sn.refl _ _,H9⟩
 rintro k w z L x6 aI aJ bW ⟨i,xs,e3,e4,rfl,rfl,rfl,rfl,hk,aK,hm,aL,aM⟩;subst w z;unfold ua;by_cases hi:i<u.blocks.length
 ·refine ij ?_;obtain⟨FX,bX,bY,bj,bm,bZ,aN,bn⟩:=aM.zm 3 rfl (k:=i) (by omega) rfl rfl rfl;refine ec (aM.ld 1 rfl rfl) (ec bj ?_);rw[bm,eh];simp[Bt,pP]at aN;refine gv ⟨k-1,by omega,i+1,xs.set i (-1),rfl,rfl,rfl,rfl,rfl,rfl,by omega,by simp[aK],λj hj=>?_,aL.trans bn,aN⟩
  grind
 refine jZ ?_;obtain rfl:i=u.blocks.length:=by omega
 have lo:=(r2.since aL).len;rw[X]at lo;refine ec lo ?_
 refine Bd (λk w z L x6 ar aO aP h'=>∃i pl,w=vo/\z=va/\L = .ptr l5 0/\x6 = .ptr l6 0/\ar=vo/\aO = .I u.blocks.length/\aP = .I (i:Nat)/\i+k=u.blocks.length/\pl.length=u.blocks.length/\(∀j b,j<i->post.reverse[j]? =some b->pl[b]? =some j)/\
  Sn R h9 R h'/\en R h' (eE l6 iT [vp]::eE l5 iT [vi]::ft eN fI pl vp::ft eZ fI xs vi::eE lb 29 (uC u vv vb vs)::cs)) ?_ (k:=u.blocks.length)
  (by grind)
 rintro k1 w z L x6 ar aO aP b1 ⟨i,pl,e3,e4,rfl,rfl,b2,rfl,rfl,b3,aQ,bo,ah,ai⟩;subst w z ar;unfold uE;by_cases hi:i<u.blocks.length
 ·refine ij ?_;obtain⟨b,n⟩:∃b,post.reverse[i]? =some b:=⟨_,iQ (by omega)⟩
  have aj:b<u.blocks.length:=G.pre b (O4.1 (vS n))
  let⟨Uz,b4,_,j1,j2⟩:=(r2.since ah).nat n .i64
  obtain⟨b5,b6,b7,bp,au,b8,aR,bq⟩:=ai.zm 2 rfl (k:=b) (by omega) rfl rfl rfl;refine ec j1 (ec j2 (ec (ai.ld 0 rfl rfl) (ec bp ?_)));rw[au,eh];simp[Bt,pP]at aR;refine gv ⟨k1-1,by omega,i+1,pl.set b i,rfl,rfl,rfl,rfl,rfl,rfl,rfl,by omega,by simp[aQ],λj c hj hc=>?_,ah.trans bq,aR⟩;by_cases e:c=b
  ·subst e;have r:=FJ G n;have h2:=FJ G hc;obtain rfl:i=j:=by omega
   rw[Fz (by omega)]
  grind
 refine jZ ?_;obtain rfl:i=u.blocks.length:=by omega
 have ak:∀b,G.gr.node b->pl[b]? =some (G.gr.place b):=λb n=>by
  have r:=Lo post.reverse b (O4.2 n);exact bo (post.reverse.idxOf b) b (by have:=(jv.1 r).1;omega) r
 have lo:=(r2.since ah).len;rw[X]at lo;refine ec lo (gP (gJ (by omega) ?_));obtain⟨b9,ca,cb,au,br,cd,aS,bt⟩:=ai.zm 3 rfl (k:=0) (by omega) rfl rfl rfl;refine ec (ai.ld 1 rfl rfl) (ec au ?_);rw[br,eh];simp[Bt,pP]at aS;have bu:MX (λx=>x=0) (λ_=>0) u.blocks.length (xs.set 0 0):=⟨by simp[aK],λb n=>by rw[n,Fz (by omega)];rfl,by grind⟩
 have f:∀b,G.gr.node b↔b<u.blocks.length:=λb=>⟨λn=>G.pre b n,λn=>CK g G b n⟩
 have am:∀b,G.gr.node b->G.gr.place b<u.blocks.length:=λb n=>by
  have r:=Lo post.reverse b (O4.2 n);have:=(jv.1 r).1;show post.reverse.idxOf b<_;omega
 have aT:∀p,p<u.blocks.length->∃b,G.gr.node b/\G.gr.place b=p:=by grind
 refine Be (λk w z L B C h'=>∃c kk I S yZ,w=vo/\z=va/\L = .ptr l5 0/\B = .func iA [] [.ptr l6 0,.ptr l5 0]/\C = .bool c/\k+kk=u.blocks.length+2/\(c=true->kk<=u.blocks.length+1)/\
  (c=false->(∀b,G.gr.node b->S b)/\∀b,G.gr.node b->b≠0->Sk G.gr I S b)/\Dm.Inv G.gr I S kk 1/\MX S I u.blocks.length yZ/\
  Sn R h9 R h'/\en R h' (eE l6 iT [vp]::eE l5 iT [vi]::ft eN fI pl vp::ft eZ fI yZ vi::eE lb 29 (uC u vv vb vs)::cs)) ?_ (k:=u.blocks.length+1)
  ⟨true,1,λ_=>0,λx=>x=0,_,rfl,rfl,rfl,rfl,rfl,by omega,λ_=>by omega,λh=>(by cases h),Dm.Inv.start,bu,ah.trans bt,aS⟩
 rintro k2 w z L B C ce ⟨c,kk,I,S,yZ,e3,e4,rfl,rfl,rfl,cf,bv,bw,hI,hR,al,aw⟩;subst w z;unfold uK
 cases c with
 | false=>
   refine jL (gJ (by simp) ?_)
   let⟨hS,hF⟩:=bw rfl
   have aU:=KG hI hS hF am aT (u.blocks.length+1);obtain⟨cg,ci,ax,bz,bA,cj,q,D⟩:=aw.zm 3 rfl (k:=0) (by rw[hR.len];omega) rfl rfl rfl;refine ec (aw.ld 1 rfl rfl) (ec bz ?_);rw[bA,eh];simp[Bt,pP]at q;refine ec (q.ld 1 rfl rfl) ?_
   let⟨aV,bC,Xp⟩:=q.mO 3 rfl
   simp[Bt,pP]at aV;refine H _ _ vi (yZ.set 0 (-1)) I seen post G (((bg.trans al).trans D).trans bC) aV.tail.tail.tail.tail.tail Xp (by simp[hR.len]) (by rw[Fz (by rw[hR.len];omega)]) (λb h0 n=>?_) ⟨by omega,λb n=>(f b).2 n,λb n h0=>?_⟩ λx b n=>?_
   ·rw[GI λh=>h0 h.symm]
    exact hR.yes b (hS b ((f b).2 n))
   ·let⟨r,h2⟩:=hI.tree.up b (hS b ((f b).2 n)) h0
    exact⟨(f _).1 (hI.tree.node _ r),h2⟩
   ·rw[aU.exact (λb n=>(f b).1 n) (by omega) (hS b ((f b).2 n))]
    exact(P1 λa b=>Iff.rfl).symm
 | true =>
   refine jL (hV rfl ?_);have cl:=bv rfl;obtain⟨ay,bD,az⟩:=(r2.since al).cut (m:=1) (Ii _ _ _) (E3 _) (by omega) (je _);rw[List.take_length]at az;refine ec bD (ec az.len ?_);have aW:(post.reverse.drop 1).length=u.blocks.length-1:=by rw[List.length_drop,X]
   rw[aW]
   refine Bl (λk w z L B C J Y Z h'=>∃i c I S yZ,w=vo/\z=va/\L = .ptr l5 0/\B = .func iA [] [.ptr l6 0,.ptr l5 0]/\C = .bool c/\J=ay/\Y = .I ((u.blocks.length-1:Nat):Int)/\Z = .I (i:Nat)/\i+k=u.blocks.length-1/\
     (c=true->kk<=u.blocks.length)/\(c=false->∀b,G.gr.node b->G.gr.place b<i+1->S b/\(b≠0->Sk G.gr I S b))/\Dm.Inv G.gr I S kk (i+1)/\MX S I u.blocks.length yZ/\
     Sn R h9 R h'/\en R h' (eE l6 iT [vp]::eE l5 iT [vi]::ft eN fI pl vp::ft eZ fI yZ vi::eE lb 29 (uC u vv vb vs)::cs)) ?_ (k:=u.blocks.length-1)
     ⟨0,false,I,S,yZ,rfl,rfl,rfl,rfl,rfl,rfl,rfl,rfl,by omega,λh=>(by cases h),λ_ b n bE=>by
       obtain rfl:b=0:=G.gr.inj b 0 n G.gr.first (by have:=G.gr.yW;omega);exact⟨hI.tree.zero,λh=>absurd rfl h⟩,hI,hR,al,aw⟩
   rintro k3 w z L B C J Y Z ax ⟨i,c,M,S1,N,e3,e4,rfl,rfl,rfl,aX,rfl,rfl,cm,aY,bG,aa,s,D,q⟩;subst w z J;unfold uH;by_cases hi:i<u.blocks.length-1;rotate_left
   ·refine jZ ?_
    obtain rfl:i=u.blocks.length-1:=by omega
    have hp:=aa.pass λb n=>by have:=am b n;omega
    refine⟨k2-1,by omega,c,kk+1,M,S1,N,rfl,rfl,rfl,rfl,rfl,by omega,λh=>by have:=aY h;omega,λh=>?_,hp,s,D,q⟩
    simp_all
   refine ij ?_;obtain⟨b,n⟩:∃b,post.reverse[i+1]? =some b:=⟨_,iQ (by omega)⟩
   have ab:G.gr.node b:=O4.1 (vS n);have aj:=(f b).1 ab;have aA:G.gr.place b=i+1:=FJ G n;have aB:b≠0:=λe=>by subst e;rw[G.gr.yW]at aA;omega
   have aZ:iB eN R ax (post.reverse.drop 1) ay:=az.eC λl hl=>(D.eC l hl).trans (al.eC l hl).symm;obtain⟨XN,cn,_,j1,j2⟩:=aZ.nat (by rw[TC,Nat.add_comm];exact n) .i64
   let⟨co,cp,bH,_,m1,m2,m3⟩:=(r3.since D).list (i:=b) (x:=Un.ahead u b) (by simp[aj]) .i64
   refine ec j1 (ec j2 (ec m1 (ec m2 (ec m3.len ?_))));have ac:∀p,G.gr.wj p b↔p∈Un.ahead u b:=λp=>xM.symm;have cq:(Un.ahead u b).length<=700:=by
     rw[<-nt];have:=mW g (j:=0) (b:=b) (je _) (by omega);omega
   refine Bc (λk w z L B C a0 a1 J Y Z aC a2 a3 h'=>∃j dd,w=vo/\z=va/\L = .ptr l5 0/\B = .func iA [] [.ptr l6 0,.ptr l5 0]/\C = .bool c/\a0 = .I (b:Nat)/\a1 = .I dd/\J=ay/\Y = .I ((u.blocks.length-1:Nat):Int)/\Z = .I (i:Nat)/\
     aC=bH/\a2 = .I ((Un.ahead u b).length:Nat)/\a3 = .I (j:Nat)/\j+k=(Un.ahead u b).length/\h' = ax/\
     ((dd = -1/\∀p∈(Un.ahead u b).take j,¬S1 p)\/∃d:Nat,dd=(d:Int)/\S1 d/\(∀p∈(Un.ahead u b).take j,S1 p->mP M d p)/\∀x,(∀p∈(Un.ahead u b).take j,S1 p->mP M x p)->mP M x d)) ?_ (k:=(Un.ahead u b).length)
     ⟨0,-1,rfl,rfl,rfl,rfl,rfl,rfl,rfl,rfl,rfl,rfl,rfl,rfl,rfl,by omega,rfl,.inl ⟨rfl,λp hp=>by simp at hp⟩⟩
   rintro k4 w z L B C a0 a1 J Y Z aC a2 a3 bI ⟨j,dd,e3,e4,rfl,rfl,rfl,rfl,rfl,aX,rfl,rfl,cr,rfl,rfl,ct,rfl,T⟩;subst w z J aC;unfold uD;by_cases hj:j<(Un.ahead u b).length
   ·refine ij ?_
    obtain⟨a,ha⟩:∃a,(Un.ahead u b)[j]? =some a:=⟨_,iQ hj⟩
    have a4:a<u.blocks.length:=by
      have:=xM.1 (vS ha);exact(g.Qt this).1
    have bJ:(Un.ahead u b).take (j+1)=(Un.ahead u b).take j++[a]:=by
      obtain⟨r,rfl⟩:=jv.1 ha;exact Jo r
    let⟨cu,cv,_,q1,q2⟩:=m3.nat ha .i64
    refine ec q1 (ec q2 (ec (q.ld 1 rfl rfl) ?_));have t:∀p,p∈(Un.ahead u b).take (j+1)↔p∈(Un.ahead u b).take j\/p=a:=λp=>by rw[bJ];simp
    by_cases hS:S1 a;rotate_left
    ·let⟨aD,aE,t1,t2⟩:=q.Cg 3 rfl (s.no a a4 hS) .i64
     refine ec t1 (ec t2 (ij ?_));refine nz ?_;unfold kZ;refine iE (m:=1) (by omega) (by omega) ⟨k4-1,by omega,j+1,dd,rfl,rfl,rfl,rfl,rfl,rfl,rfl,rfl,rfl,rfl,rfl,rfl,rfl,by omega,rfl,?_⟩;have cw:∀{P:Nat->Prop},(∀p∈(Un.ahead u b).take (j+1),S1 p->P p)↔(∀p∈(Un.ahead u b).take j,S1 p->P p):=λ{P}=>⟨λh p hp=>h p ((t p).2 (.inl hp)),by grind⟩
     simp_all
    let⟨aD,aE,t1,t2⟩:=q.Cg 3 rfl (s.yes a hS) .i64
    refine ec t1 (ec t2 (jZ ?_));rcases T with⟨rfl,r⟩|⟨d,rfl,r,h2,U⟩
    ·refine ij ?_
     refine nz ?_;unfold kZ;refine iE (m:=1) (by omega) (by omega) ⟨k4-1,by omega,j+1,(a:Int),rfl,rfl,rfl,rfl,rfl,rfl,rfl,rfl,rfl,rfl,rfl,rfl,rfl,by omega,rfl,?_⟩;refine .inr ⟨a,rfl,hS,λp hp hs=>?_,λx hx=>hx a ((t a).2 (.inr rfl)) hS⟩;rcases(t p).1 hp with W|rfl
     ·exact absurd hs (r p W)
     ·exact .refl _
    ·refine jZ ?_
     show cP CS iA [.I (d:Nat),.I (a:Nat),.ptr l6 0,.ptr l5 0] bI _;refine Rc q (i5:=1) (i6:=0) (ii:=3) (ip:=2) rfl rfl rfl rfl aa.tree s ak r hS λd' g1 g2 g3 g4=>?_;refine nz ?_;unfold kZ;refine iE (m:=1) (by omega) (by omega) ⟨k4-1,by omega,j+1,(d':Int),rfl,rfl,rfl,rfl,rfl,rfl,rfl,rfl,rfl,rfl,rfl,rfl,rfl,by omega,rfl,?_⟩;refine .inr ⟨d',rfl,g1,λp hp hs=>?_,λx hx=>g4 x (U x λp hp hs=>hx p ((t p).2 (.inl hp)) hs) (hx a ((t a).2 (.inr rfl)) hS)⟩;rcases(t p).1 hp with W|rfl
     ·exact g2.trans (h2 p W hs)
     ·exact g3
   refine jZ ?_;rw[Hq (by omega)]at T
   let⟨p0,hp0n,hp0e,hp0l⟩:=G.gr.early b ab aB
   have a5:S1 p0:=aa.done p0 hp0n (by omega);obtain⟨d,rfl,cx,aF,a6⟩:∃d:Nat,dd=(d:Int)/\S1 d/\(∀p∈Un.ahead u b,S1 p->mP M d p)/\∀x,(∀p∈Un.ahead u b,S1 p->mP M x p)->mP M x d:=by
     rcases T with⟨_,r⟩|r
     ·exact absurd a5 (r p0 ((ac p0).1 hp0e))
     ·exact r
   have ae:∀p,S1 p->G.gr.wj p b->mP M d p:=λp hs he=>aF p ((ac p).1 he) hs;have A:∀x,(∀p,S1 p->G.gr.wj p b->mP M x p)->mP M x d:=by simp_all
   have a7:i<1000000000:=by clear T;omega
   have an:k3-1<k3:=by clear T;omega
   have ao:i+1+(k3-1)=u.blocks.length-1:=by clear T;omega
   have ag:=(aa.Hv ab aB aA ae A).1;refine ec (q.ld 1 rfl rfl) ?_;by_cases hsame:S1 b/\M b=d
   ·obtain ⟨K,rfl⟩:=hsame
    let⟨aD,aE,t1,t2⟩:=q.Cg 3 rfl (s.yes b K) .i64
    refine ec t1 (ec t2 (Hc (hV rfl ?_)));refine tA ?_;unfold nq;rw[J6,M7 K]at ag;refine iE a7 (by decide) ⟨k3-1,an,i+1,c,M,S1,N,rfl,rfl,rfl,rfl,rfl,rfl,rfl,rfl,ao,aY,λhc b' a8 bE=>?_,ag,s,D,q⟩;rcases HB (G.gr.place b') (i+1)with r|r
    ·exact bG hc b' a8 r
    ·obtain rfl:b' = b:=G.gr.inj _ _ a8 ab (by omega)
     exact⟨K,λ_=>⟨ae,A⟩⟩
   ·obtain ⟨y,hy,a9⟩:∃y,N[b]? =some y/\y≠(d:Int):=by
      by_cases K:S1 b
      ·refine⟨(M b:Int),s.yes b K,λe=>hsame ⟨K,?_⟩⟩
       exact Int.ofNat.inj e
      ·refine⟨-1,s.no b aj K,?_⟩
       omega
    let⟨aD,aE,t1,t2⟩:=q.Cg 3 rfl hy .i64
    refine ec t1 (ec t2 (Hc (gJ a9 ?_)));obtain⟨cy,cz,cA,bK,bL,cB,ba,bQ⟩:=q.zm 3 rfl (by rw[s.len];exact aj) rfl rfl rfl;refine ec (q.ld 1 rfl rfl) (ec bK ?_);rw[bL,eh];simp[Bt,pP]at ba;refine tA ?_;unfold nq;refine iE a7 (by decide) ⟨k3-1,an,i+1,true,Dm.set M b d,λx=>S1 x\/x=b,N.set b (d:Int),rfl,rfl,rfl,rfl,rfl,rfl,rfl,rfl,ao,λ_=>?_,λh=>(by cases h),ag,⟨by simp[s.len],λx hx=>?_,λx hx hn=>?_⟩,D.trans bQ,ba⟩
    ·rcases HB u.blocks.length kk with r|r
     ·exfalso
      let⟨h2,U⟩:=aa.stay (λb n=>(f b).1 n) r ab aB aA ae A
      exact hsame ⟨h2,U.symm⟩
     ·exact r
    ·unfold Dm.set
     by_cases e:x=b
     ·grind
     ·rw[GI λh=>e h.symm,if_neg e]
      exact s.yes x (hx.resolve_right e)
    ·have e:x≠b:=λe=>hn (.inr e)
     rw[GI λh=>e h.symm];exact s.no x hx λh=>hn (.inl h)
end
open Un Dm
structure W4 (u:U) (yZ:List Int) (I:Nat->Nat):Prop where
 len:yZ.length=u.blocks.length
 zero:yZ[0]? =some (-1)
 at_:∀b,b≠0->b<u.blocks.length->yZ[b]? =some (I b:Int)
 W0:∃r:Nat->Nat,∀b,b<u.blocks.length->b≠0->I b<u.blocks.length/\r (I b)<r b
 iff:∀x b,b<u.blocks.length->(mP I x b↔vz (next u) x b)
section
variable{F F':Nat->Prop}{h h':Hp}{cs:List Pc}{Q:fu}{u:U}{vv vb vs:V}{lc:Nat}{bl pl Ad:V}{xs ys yZ:List Int}{I:Nat->Nat}
structure Cx (F:Nat->Prop) (h:Hp) (cs:List Pc) (lc:Nat) (u:U) (vv vb vs bl pl Ad:V) (xs ys yZ:List Int) (I:Nat->Nat):Prop where
 ck:Ck F h cs lc u vv vb vs bl pl Ad
 W3:iB eZ F h xs bl
 WY:iB eZ F h ys pl
 Xo:iB eZ F h yZ Ad
 UA:Std u u.blocks.length 0 xs ys
 Nh:W4 u yZ I
theorem Cx.since(C:Cx F h cs lc u vv vb vs bl pl Ad xs ys yZ I)(s:Sn F h F' h')(a:en F' h' cs):Cx F' h' cs lc u vv vb vs bl pl Ad xs ys yZ I:=⟨C.ck.since s a,C.W3.since s,C.WY.since s,C.Xo.since s,C.UA,C.Nh⟩
theorem Cx.cons(C:Cx F h cs lc u vv vb vs bl pl Ad xs ys yZ I)(s:Sn F h F' h'){p:Pc}(a:en F' h' (p::cs)):Cx F' h' (p::cs) lc u vv vb vs bl pl Ad xs ys yZ I:=⟨C.ck.cons s a,C.W3.since s,C.WY.since s,C.Xo.since s,C.UA,C.Nh⟩
theorem IV(C:Cx F h cs lc u vv vb vs bl pl Ad xs ys yZ I){a b:Nat}(p:b<u.blocks.length)(q:mP I a b)(H:Q (.bool true) h):cP CS jN [.ptr lc 0,.I a,.I b] h Q:=by
 refine yi rfl rfl ?_;unfold ql
 let⟨r,hr⟩:=C.Nh.W0
 refine vK (λk g i j h'=>∃c,g = .ptr lc 0/\i = .I a/\j = .I (c:Nat)/\k=r c/\c<u.blocks.length/\mP I a c/\h' = h) ?_ (k:=r b) (by grind);rintro k g i j h' ⟨c,rfl,rfl,rfl,s,d,f,rfl⟩;unfold nf;refine BH (hV (by omega) ?_);by_cases e:a=c
 ·exact gP (hV (by omega) H)
 refine gP (gJ (by omega) ?_)
 cases f with
 |refl=>omega
 | up h0 t=>
   let⟨l,o,_,m,n⟩:=C.Xo.int (C.Nh.at_ c h0 d) .i64
   let⟨r1,r2⟩:=hr c d h0
   exact ec (fc _ _) (ec (by rfl) (ec (C.ck.ld 7 rfl) (ec m (ec n (by grind)))))
theorem CR(C:Cx F h cs lc u vv vb vs bl pl Ad xs ys yZ I){l:List Nat}{v:V}{b p:Nat}(y:iB eN F h l v)(T:l.length<1000000)(z:b<u.blocks.length)(K:∀w∈l,∃c j,At u w c j/\(c=b->j<p)/\vz (next u) c b)(H:Q (.bool true) h) :
  cP CS iy [.ptr lc 0,v,.I b,.I p] h Q:=by
 refine BL rfl rfl ?_;unfold vH;refine ec y.len ?_;refine zn (λk A D E a d f h'=>∃i,A = .ptr lc 0/\D = .I b/\E = .I p/\a=v/\d = .I l.length/\f = .I (i:Nat)/\i+k=l.length/\h' = h) ?_ (k:=l.length) (by simp_all);rintro k A D E a d f h' ⟨i,rfl,rfl,rfl,rfl,rfl,rfl,U,rfl⟩;unfold rN;by_cases hi:i<l.length;rotate_left
 ·exact jZ H
 refine ij ?_
 let⟨c,j,hat,hcj,hdom⟩:=K _ (B9 hi)
 have g:c<u.blocks.length:=by
  let⟨B,W,_⟩:=hat
  exact by grind
 let⟨L,M⟩:=C.UA.yes _ c j hat (.inl g)
 let⟨X,o1,_,N,O⟩:=y.nat (iQ hi) .i64
 let⟨l2,o2,_,G,J⟩:=C.W3.int L .i64
 let⟨l3,Y,_,P,R⟩:=C.WY.int M .i64
 refine ec N (ec O (ec (fc _ _) (ec (by rfl) (ec (C.ck.ld 5 rfl) (ec G (ec J (ec (by rfl) ?_)))))));have e:kH (.bool (((c:Int)) == (b:Int))) (oB (some (V.ptr lc 0)) λm=>oB (hJ m) λn=>oB (fP 6 n) λo=>oB (er o h') λq=>oB (some (V.I (l[i]:Nat))) λr=>oB (gM 1 q r) λs=>oB (er s h') λt=>oB (some (V.I p)) λx=>ej .geq 3 t x)=some (.bool false):=by
  have l6:=C.ck.ld 6 rfl;simp only[fg,fc,fM,l6,P,R,yd,jR];congr 2;rw[VI];intro S;simp[te,I8,MR]at S;have:=by omega
  omega
 refine ec e ?_;refine ig (ec rfl (ig (ec rfl (ig (ec (fc _ _) (ig (ec (by rfl) (ig (ec (C.ck.ld 5 rfl) (ig (ec rfl (ig (ec G (ig (ec J (ig (ec rfl (ye ?_))))))))))))))))));refine IV C z ((C.Nh.iff c b z).2 hdom) (ec rfl (jL (gJ (by simp) ?_)));exact gv ⟨k-1,by omega,i+1,rfl,rfl,rfl,rfl,rfl,rfl,by omega,rfl⟩
theorem Dp(C:Cx F h cs lc u vv vb vs bl pl Ad xs ys yZ I){s b p:Nat}{fs:List Fm}(m:u.ef[s]? =some fs)(x:fs.length<=30/\∀f∈fs,f.locals.length<=40/\f.stack.length<=60)(n:b<u.blocks.length)
  (G:∀w∈iU fs,∃c j,At u w c j/\(c=b->j<p)/\vz (next u) c b) (H:∀h',Sn F h F h'->en F h' cs->Q (.bool true) h') :
  cP CS iq [.ptr lc 0,.I s,.I b,.I p] h Q:=by
 refine xN rfl rfl ?_;unfold qn
 let⟨J,o1,f,_,y,_,z,o⟩:=C.ck.u.st m
 refine ec (fc _ _) (ec (by rfl) (ec (by rfl) (ec (C.ck.ld 4 rfl) (ec y (ec (by rfl) (ec z (ec o.len ?_)))))))
 refine vJ (λk q r t d e g h'=>∃j,q = .ptr lc 0/\r = .I b/\t = .I p/\d=f/\e = .I fs.length/\g = .I (j:Nat)/\j+k=fs.length/\Sn F h F h'/\en F h' cs) ?_ (k:=fs.length)
  ⟨0,rfl,rfl,rfl,rfl,rfl,rfl,by omega,Sn.refl _ _,C.ck.H⟩
 rintro k q r t d e g A ⟨j,rfl,rfl,rfl,rfl,rfl,rfl,K,s1,v⟩;unfold nw;by_cases hj:j<fs.length;rotate_left
 ·exact jZ (H A s1 v)
 refine ij ?_
 let⟨l3,L,a,c,_,B,D,ja,jb⟩:=(o.since s1).WU (iQ hj)
 let⟨f1,f2⟩:=x.2 _ (B9 hj)
 have E:∀w,w∈fs[j].locals\/w∈fs[j].stack->w∈iU fs:=by grind[iU,B9]
 refine ec B (ec D ?_);refine jH v rfl rfl (by simp only[UE,eR,ja.one,jb.one];rfl) λM i l=>?_;have C2:=C.since (s1.trans l) i.tail;refine ec (by rfl) (ec (i.ld 0 rfl rfl) ?_);refine CR C2 (ja.since l) (by omega) n (by simp_all) (ec rfl ?_);refine ig (ec rfl (ig (ec (by rfl) (ig (ec (i.ld 0 rfl rfl) (ig (ec rfl (ig (ec rfl (ye ?_))))))))));refine CR C2 (jb.since l) (by omega) n (by simp_all) (ec rfl (jL (gJ (by simp) ?_)));exact gv ⟨k-1,by omega,j+1,rfl,rfl,rfl,rfl,rfl,rfl,by omega,s1.trans l,i.tail⟩
theorem Ni{w b k:Nat}(h:NY u w b k):∃c j,At u w c j/\(c=b->j<k)/\vz (next u) c b:=by
 let⟨c,j,d,a⟩:=h
 rcases a with⟨rfl,a⟩|⟨a,e⟩
 ·grind[vz.self]
 grind
theorem BZ{w b:Nat}{B:Bk}(f:u.blocks[b]? =some B)(h:Cm u w b):∃c j,At u w c j/\(c=b->j<B.ee.length)/\vz (next u) c b:=by
 let⟨c,j,a,d⟩:=h
 refine⟨c,j,a,λe=>?_,d⟩;subst e
 let⟨B',g,i⟩:=a
 grind
theorem Qo{lv:Nat}{x:Vl}{w:V}{A:V}{i k:Nat}(a:A = .ptr lc 0)(C:Cx F h (eE lv tj (qq x w)::cs) lc u vv vb vs bl pl Ad xs ys yZ I)(hc:lv≠lc)(D:er (.ptr lv 5) h=some (.I x.state))(E:i<u.blocks.length)
  (G:leaves x.op=true->∃fs,u.ef[x.state]? =some fs/\(fs.length<=30/\∀f∈fs,f.locals.length<=40/\f.stack.length<=60)/\∀w∈iU fs,∃c j,At u w c j/\(c=i->j<k)/\vz (next u) c i) {K:fu}
  (B:∀h',Sn F h F h'->en F h' (eE lv tj (qq x w)::cs)->K (.bool false) h') :
  oP (gB true (.bool (leaves x.op))) λb=>
  oP (gV b (some A)) λd=>
  oP (gB true (.bool (leaves x.op))) λe=>
  oP (gV e (fP 5 (.ptr lv 0))) λg=>
  oP (gB true (.bool (leaves x.op))) λl=>
  oP (gV l (er g h)) λm=>
  oP (gB true (.bool (leaves x.op))) λn=>
  oP (gV n (some (.I i))) λo=>
  oP (gB true (.bool (leaves x.op))) λp=>
  oP (gV p (some (.I k))) λq=>
  oP (gB true (.bool (leaves x.op))) λr=>
  oP (gC r (some (iq,[d,m,o,q]))) λs=>yv CS s h λt J=>
  oP (gB true (.bool (leaves x.op))) λv=>
  oP (gV v (xF .not t)) λy=>
  oP (qe (.bool false) (rJ (.bool (leaves x.op)) y (V.bool false))) λz=>K z J:=by
 subst a
 cases hq:leaves x.op with
 | true=>
   let⟨fs,L,M,N⟩:=G hq
   refine iV (ec rfl (iV (ec (by rfl) (iV (ec D (iV (ec rfl (iV (ec rfl (EG ?_))))))))))
   refine Dp C L M E N λh' O P=>iV (ec rfl (ec rfl (B h' O P)))
 |false=>exact mV (mV (mV (mV (mV (PJ (mV (ec rfl (B h (Sn.refl _ _) C.ck.H))))))))
theorem Qd(g:Good u)(C:Cx F h cs lc u vv vb vs bl pl Ad xs ys yZ I)(ah:lc<h.next){i:Nat}{B:Bk}(d:u.blocks[i]? =some B)(H:∀F' h',Sn F h F' h'->en F' h' cs->Q (.bool true) h'):cP CS j6 [.ptr lc 0,.I i] h Q:=by
 refine Bo rfl rfl ?_;unfold ud;have nv:=g.nv;have nb:=g.nb;have r:i<u.blocks.length:=by grind
 have ai:∀s (fs:List Fm),u.ef[s]? =some fs->fs.length<=30/\∀f∈fs,f.locals.length<=40/\f.stack.length<=60:=λs fs a=>by
  let⟨_,h2,h3⟩:=g.st s fs a
  simp_all
 have aj:B.ee.length<=3000:=by
  have:=vx u.ee.length B.ee (Cc g d) λv hv=>by
   let⟨k,hk⟩:=mq.1 hv
   exact g.vX v i k ⟨B,d,hk⟩
  omega
 let⟨l7,o7,bv,bn,bp,_,i1,i2,M,iN,ip,_⟩:=C.ck.u.vT d
 refine ec (fc _ _) (ec (by rfl) (ec (by rfl) (ec (C.ck.ld 3 rfl) (ec i1 (ec i2 ?_)))));refine jH C.ck.H rfl rfl (by simp only[kJ,eR,M.one,iN.one,ip.one];rfl) λh2 H2 N=>?_;have C2:=C.cons N H2;have M:=M.since N;have ip:=ip.since N;refine ec (by rfl) (ec (H2.ld 0 rfl rfl) (ec M.len (ec (by rfl) (ec (H2.ld 0 rfl rfl) (ec M.len ?_)))))
 refine yC (λk R S T U c l n h'=>∃(F':Nat->Prop) (j:Nat),R = .ptr lc 0/\S = .I i/\T = .ptr h.next 0/\U = .I B.ee.length/\c=bv/\l = .I B.ee.length/\n = .I j/\j+k=B.ee.length/\
  Sn F h2 F' h'/\en F' h' (eE h.next 44 (kJ B bv bn bp)::cs)) ?_ (k:=B.ee.length) ⟨F,0,rfl,rfl,rfl,rfl,rfl,rfl,rfl,by omega,Sn.refl _ _,H2⟩
 rintro k R S T U c l n h3 ⟨F3,j,rfl,rfl,rfl,rfl,aa,rfl,rfl,hk,t,y⟩;subst c;unfold qT;have C3:=C2.since t y;by_cases hj:j<B.ee.length;rotate_left
 ·refine jZ ?_;refine ec (by rfl) (ec (y.ld 0 rfl rfl) ?_);by_cases c2:B.fin=2
  ·refine gP (hV (by omega) ?_);refine ec (by rfl) (ec (y.ld 0 rfl rfl) ?_);refine T7 [B.cond] (CB _) y λF4 h4 v o q r4=>?_;refine CR (C3.since q o) r4 (by simp) r (λw hw=>?_) (H _ _ ((N.trans t).trans q) o.tail);obtain rfl:=Hh.1 hw;exact BZ d (g.Pj i B d c2)
  refine gP (gJ (by omega) ?_);by_cases c3:B.fin=3
  ·refine gP (hV (by omega) ?_);refine ec (by rfl) (ec (y.ld 0 rfl rfl) ?_);have ab:B.state<u.ef.length:=by
    rcases g.fin i B d with⟨E,_⟩|⟨E,_⟩|⟨_,_,E⟩
    ·omega
    ·omega
    ·exact E
   obtain⟨fs,a⟩:∃fs,u.ef[B.state]? =some fs:=by simp_all
   refine Dp C3 a (by grind) r (λw hw=>BZ d (g.Pp i B fs d c3 a w hw)) λh4 q o=>H _ _ ((N.trans t).trans q) o.tail
  ·exact gP (gJ (by omega) (H _ _ (N.trans t) y.tail))
 refine ij ?_;have e:At u (B.ee[j]) i j:=⟨B,d,iQ hj⟩
 have ak:=g.vX _ _ _ e;obtain⟨x,A⟩:∃x,u.ee[B.ee[j]]? =some x:=by simp_all
 have ac:B.fk.length<=700:=by
  rw[g.fk i B d,<-nt];have:=mW g (j:=0) (b:=i) (je _) (by omega);omega
 have ae:x.op=21\/x.op=20->x.args.length<=700:=by
  rintro(E|E)
  ·rw[(g.Rm _ _ _ _ _ e A E d).2];exact ac
  ·rw[g.putAt _ x A E];omega
 let⟨l9,o9,_,j1,j2⟩:=(M.since t).nat (iQ hj) .i64
 let⟨M5,al,w,_,q1,q2,iw,_⟩:=C3.ck.u.val A
 refine ec j1 (ec j2 (ec (fc _ _) (ec (by rfl) (ec (by rfl) (ec (C3.ck.ld 2 rfl) (ec q1 (ec q2 ?_)))))));refine jH y rfl rfl (by simp only[qq,eR,iw.one];rfl) λh4 o q=>?_;have C4:=C3.cons q o;have G:=iw.since q;have am:=(y.ok 0 _ rfl).2.1;refine ec (by rfl) (ec (o.ld 0 rfl rfl) ?_);by_cases J:x.op=21
 ·refine gP (hV (by omega) ?_);refine ec (by rfl) (ec (o.ld 0 rfl rfl) (ec G.len ?_));have an:=(g.Rm _ _ _ _ _ e A J d).2
  refine yu (λk R S T U c l n K V W h'=>∃F' m,R = .ptr lc 0/\S = .I i/\T = .ptr h.next 0/\U = .I B.ee.length/\c=bv/\l = .I B.ee.length/\n = .I j/\K=w/\V = .I x.args.length/\W = .I (m:Nat)/\m+k=x.args.length/\
   Sn F3 h4 F' h'/\en F' h' (eE h3.next 46 (qq x w)::eE h.next 44 (kJ B bv bn bp)::cs)) ?_ (k:=x.args.length) ⟨F3,0,rfl,rfl,rfl,rfl,rfl,rfl,rfl,rfl,rfl,rfl,by omega,Sn.refl _ _,o⟩
  rintro k2 R S T U c l n K V W h5 ⟨F5,m,rfl,rfl,rfl,rfl,aa,rfl,rfl,ao,rfl,rfl,aq,D,L⟩;subst c K;unfold qW;have C5:=C4.since D L;by_cases hm:m<x.args.length;rotate_left
  ·refine jZ ?_;refine qh ?_;unfold lN;exact gv ⟨k-1,by omega,F5,j+1,rfl,rfl,rfl,rfl,rfl,rfl,rfl,by omega,(t.trans q).trans D,L.tail⟩
  refine ij ?_
  let⟨FX,ar,hl11,m1,m2⟩:=(G.since D).nat (iQ hm) .i64
  refine ec m1 (ec m2 ?_);have au:m<B.fk.length:=by omega
  obtain⟨p,hp⟩:∃p,B.fk[m]? =some p:=by simp_all
  have ag:p<u.blocks.length:=by
   have:=vS hp;rw[g.fk i B d]at this;exact(g.Qt (xM.1 this)).1
  obtain⟨P,hP⟩:∃P,u.blocks[p]? =some P:=by simp_all
  rw[CB,hN]
  let⟨O,X,r6⟩:=L.Pu fI rfl (sS F5 h5 [x.args[m]]) false
  have g6:(h5.new (.cells 3 1 true false (lF [x.args[m]]))).get h5.next=some (.cells 3 1 true false (lF [x.args[m]])):=ey _ _;have C6:=C5.since X O
  let⟨Sb,aw,_,n1,n2⟩:=(((ip.since t).since q).since (D.trans X)).nat hp .i64
  let⟨Uz,ax,pv,pn,pp,_,p1,_,pvr,_,_,pa⟩:=C6.ck.u.vT hP
  refine ec (by rfl) (ec (O.ld 1 rfl rfl) (ec n1 (ec n2 (ec (fc _ _) (ec (by rfl) (ec (by rfl) (ec (C6.ck.ld 3 rfl) ?_)))))));refine ec (by rfl) (ec (O.ld 1 rfl rfl) (ec n1 (ec n2 (ec p1 (ec (by rfl) (ec pa.ee (ec pvr.len ⟨by simp_all,?_⟩)))))));refine CR C6 r6 (by simp) ag (λz Y=>?_) ⟨je _,yS (hV rfl ?_)⟩
  ·obtain rfl:=Hh.1 Y;exact BZ hP (g.Pw _ i j x B e A J d m _ p (by simp_all) hp)
  ·exact gv ⟨k2-1,by omega,_,m+1,rfl,rfl,rfl,rfl,rfl,rfl,rfl,rfl,rfl,rfl,by omega,D.trans X,O⟩
 refine gP (gJ (by omega) ?_);refine ec (o.HY 0 rfl rfl) ?_;refine Js o G (by omega) λF5 h5 v D L r5=>?_;have C5:=C4.since D L;refine CR C5 r5 (by grind[zI]) r (λz Y=>Ni (g.MQ _ i j x e A J z Y)) (ec rfl ?_);refine ig (ec (by rfl) (ig (ec (L.ld 0 rfl rfl) (ye ?_))));refine Ij (ig (ec rfl ?_));refine Qo rfl C5 (by omega) (L.ld 0 rfl rfl) r (λZ=>?_) λh6 X O=>?_
 ·have ab:=g.leave _ x A Z;obtain⟨fs,a⟩:∃fs,u.ef[x.state]? =some fs:=by simp_all
  exact⟨fs,a,by grind,λz Y=>Ni (g.Mz _ i j x fs e A Z a z Y)⟩
 ·refine jL (gJ (by simp) ?_);refine qh ?_;unfold lN;exact gv ⟨k-1,by omega,F5,j+1,rfl,rfl,rfl,rfl,rfl,rfl,rfl,by omega,((t.trans q).trans D).trans X,O.tail⟩
end
open Un Dm
section
variable{F F':Nat->Prop}{h h':Hp}{cs:List Pc}{Q:fu}{u:U}{vv vb vs:V}
theorem Pz(g:Good u)(H0:en F h cs)(hu:zr F h u vv vb vs)(H:∀F' h',Sn F h F' h'->en F' h' cs->Q (.bool true) h'):cP CS wE [.agg (uC u vv vb vs)] h Q:=by
 refine J8 rfl rfl ?_;unfold EH;have nv:=g.nv;have nb:=g.nb;have Mn:=g.Mn;have ns:=g.ns;refine su H0 hu.one λz B s1=>?_;have w:=hu.since s1;have l2:er (.ptr h.next (0+2)) z=some vv:=B.ld 0 rfl rfl;have l3:er (.ptr h.next (0+3)) z=some vb:=B.ld 0 rfl rfl;have l4:er (.ptr h.next (0+4)) z=some vs:=B.ld 0 rfl rfl;refine oF l2 (ec w.v.len (ec (ml _ _ _ _) ?_));rw[ML (by omega)];have e1:qe (.bool false) (oB (fP 3 (.ptr h.next 0)) λk=>oB (er k z) λl=>oB (fJ l) λm=>ej .gtr 3 m (V.I 300))=some (.bool false):=by
  simp only[qd,fM,fg,l3,w.b.len,ml];rw[ML (by omega)]
 have e2:qe (.bool false) (oB (fP 4 (.ptr h.next 0)) λk=>oB (er k z) λl=>oB (fJ l) λm=>ej .gtr 3 m (V.I 1000))=some (.bool false):=by
  simp only[qd,fM,fg,l4,w.s.len,ml];rw[ML (by omega)]
 have e3:qe (.bool false) (oB (fP 3 (.ptr h.next 0)) λk=>oB (er k z) λl=>oB (fJ l) λm=>ej .eql 3 m (V.I 0))=some (.bool false):=by
  simp only[qd,fM,fg,l3,w.b.len,hD];congr 2;rw[VW];omega
 refine ec e1 (ec e2 (ec e3 (jL (gJ (by simp) ?_))));refine ec (B.HY 0 rfl rfl) (ec (show _=some (V.agg [.I u.func,.I u.pc,vv,vb,vs,.ed,.ed,.ed]) from rfl) ?_);refine su B (by simp only[eR,w.v.one,w.b.one,w.s.one];rfl) λL M s2=>?_;have E:=w.since s2;generalize z.next=lc at*;have l4:er (.ptr h.next (0+4)) L=some vs:=M.ld 1 rfl rfl;refine oF l4 (ec E.s.len ?_);have C2:Ck F L (eE lc 76 [.I u.func,.I u.pc,vv,vb,vs,.ed,.ed,.ed]::eE h.next 29 (uC u vv vb vs)::cs) lc u vv vb vs .ed .ed .ed:=⟨M,⟨0,_,rfl⟩,E⟩
 refine Gq (by omega) (λF' h'=>F' = F/\Sn F L F h'/\en F h' (eE lc 76 [.I u.func,.I u.pc,vv,vb,vs,.ed,.ed,.ed]::eE h.next 29 (uC u vv vb vs)::cs)) ⟨rfl,Sn.refl _ _,M⟩ (λi hi F' h' a q r=>?_) λF3 h3 a=>?_
 ·obtain⟨rfl,f,n⟩:=a;show cP CS j7 [.ptr lc 0,.I i] h' q;have hs:=iQ hi;obtain⟨g1,g2,g3⟩:=g.st i _ hs;exact Qs (C2.since f n) hs ⟨g1,g2⟩ g3 λc d e=>r F' c ⟨rfl,f.trans d,e⟩
 obtain⟨rfl,N,H3⟩:=a;refine ec rfl (ig (ec rfl (ye ?_)));refine O9 g H3 (E.since N) λO P x y xs ys s4 R rb rp UA=>?_;refine ec rfl (ig (ec rfl ?_));have S:=(E.since N).since s4;have T:Ck O P (eE lc 76 [.I u.func,.I u.pc,vv,vb,vs,x,y,.ed]::eE h.next 29 (uC u vv vb vs)::cs) lc u vv vb vs x y .ed:=⟨R,⟨0,_,rfl⟩,S⟩
 have l2:er (.ptr h.next (0+2)) P=some vv:=R.ld 1 rfl rfl;refine ig (ec (fM _ _ _) (ig (ec l2 (ig (ec S.v.len (ig (ec rfl (ig (ec rfl (ye ?_))))))))));refine Gq (F:=O) (by omega) (λF' h'=>Sn O P F' h'/\en F' h' (eE lc 76 [.I u.func,.I u.pc,vv,vb,vs,x,y,.ed]::eE h.next 29 (uC u vv vb vs)::cs)) ⟨Sn.refl _ _,R⟩ (λi hi F' h' a q r=>?_) λF5 h5 a=>?_
 ·obtain⟨f,n⟩:=a;show cP CS jj [.ptr lc 0,.I i] h' q;exact Uk g (T.since f n) (rb.since f) UA hi (n.ok 0 _ rfl).2.1 λj c d e=>r j c ⟨f.trans d,e⟩
 obtain⟨J,K⟩:=a;have u5:=S.since J;have l3:er (.ptr h.next (0+3)) h5=some vb:=K.ld 1 rfl rfl;refine ec rfl (ig (ec rfl (ig (ec (fM _ _ _) (ig (ec l3 (ig (ec u5.b.len (ig (ec rfl (ig (ec rfl (ye ?_)))))))))))));refine Gq (F:=F5) (by omega) (λF' h'=>Sn F5 h5 F' h'/\en F' h' (eE lc 76 [.I u.func,.I u.pc,vv,vb,vs,x,y,.ed]::eE h.next 29 (uC u vv vb vs)::cs)) ⟨Sn.refl _ _,K⟩ (λi hi F' h' a q r=>?_) λF6 h6 a=>?_
 ·obtain⟨f,n⟩:=a;show cP CS kj [.ptr lc 0,.I i] h' q;exact Ry g ((T.since J K).since f n) (iQ hi) λj c d e=>r j c ⟨f.trans d,e⟩
 obtain⟨U,W⟩:=a;have u6:=u5.since U;have l3:er (.ptr h.next (0+3)) h6=some vb:=W.ld 1 rfl rfl;refine ec rfl (ig (ec rfl (ig (ec (fM _ _ _) (ig (ec l3 (ig (ec u6.b.len (ig (ec rfl (ig (ec rfl (ye ?_)))))))))))));refine Gq (F:=F6) (by omega) (λF' h'=>Sn F6 h6 F' h'/\en F' h' (eE lc 76 [.I u.func,.I u.pc,vv,vb,vs,x,y,.ed]::eE h.next 29 (uC u vv vb vs)::cs)) ⟨Sn.refl _ _,W⟩ (λi hi F' h' a q r=>?_) λF7 h7 a=>?_
 ·obtain⟨f,n⟩:=a;show cP CS kR [.ptr lc 0,.I i] h' q;exact TU g (((T.since J K).since U W).since f n) (iQ hi) λj c d e=>r j c ⟨f.trans d,e⟩
 obtain ⟨s7,H7⟩:=a;have u7:=u6.since s7;refine ec rfl (jL (gJ (by simp) ?_));refine A7 rfl rfl ?_;unfold uh;have lA:hH 5 (.ptr lc 0) h7=some (.agg (uC u vv vb vs)):=by
  rw[Di (H7.get 0 rfl),Cd (by simp)];rfl
 refine ec (fc _ _) (ec (fM _ _ _) (ec lA ?_));refine CE g H7 u7 λF8 h8 vo seen post s8 X G ro=>?_;have Y:=u7.since s8;have lo:=ro.len;rw[List.length_reverse,Cy g G]at lo;refine ec lo (oF (X.ld 1 rfl rfl) (ec Y.b.len (Hc (hV rfl ?_))));refine ec (X.HY 1 rfl rfl) ?_;refine Ho g X Y λZ h9 vd yZ I aa ab G' s9 H9 rd d1 d2 d3 d4 d5=>?_;obtain⟨C,ac,ai,t,A⟩:=H9.st 0 (o:=7) (u:=vd) rfl (by simp) rd.one;refine ec (fc _ _) (ec (fM _ _ _) ?_);rw[show V.ptr lc (0+7)=V.ptr lc 7 from rfl,ac,eh];simp only[Bt,pP]at t;have D:=(Y.since s9).since A;refine oF (t.ld 1 rfl rfl) (ec D.b.len ?_);have p:=((((J.trans U).trans s7).trans s8).trans s9).trans A
 have ae:Cx Z C (eE lc 76 [.I u.func,.I u.pc,vv,vb,vs,x,y,vd]::eE h.next 29 (uC u vv vb vs)::cs) lc u vv vb vs x y vd xs ys yZ I:=
  ⟨⟨t,⟨0,_,rfl⟩,D⟩,rb.since p,rp.since p,rd.since A,UA,⟨d1,d2,d3,⟨G'.gr.place,λb hb h0=>d4.up b hb h0⟩,d5⟩⟩
 refine Gq (F:=Z) (by omega) (λF' h'=>Sn Z C F' h'/\en F' h' (eE lc 76 [.I u.func,.I u.pc,vv,vb,vs,x,y,vd]::eE h.next 29 (uC u vv vb vs)::cs)) ⟨Sn.refl _ _,t⟩ (λi hi F' h' a q r=>?_) λaj ak a=>?_
 ·obtain⟨f,n⟩:=a;show cP CS j6 [.ptr lc 0,.I i] h' q;exact Qd g (ae.since f n) (n.ok 0 _ rfl).2.1 (iQ hi) λj c d e=>r j c ⟨f.trans d,e⟩
 obtain⟨ag,ah⟩:=a;exact H _ _ (((((s1.trans s2).trans N).trans s4).trans p).trans ag) ah.tail.tail
end
