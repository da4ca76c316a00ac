/- Parts. -/
import Derived.Test.YtpnddokajmjpbaaDoorM26
namespace Go.Proofs.YtpnddokajmjpbaaDoor.Hx
open Go.Proofs.YtpnddokajmjpbaaDoor.Un Go.Proofs.YtpnddokajmjpbaaDoor.Dm
structure W2 (G:Dm.Gr) (I:Nat->Nat) (S:Nat->Prop) (b:Nat):Prop where
 low:∀p,S p->G.xZ p b->ot I (I b) p
 zak:∀x,(∀p,S p->G.xZ p b->ot I x p)->ot I x (I b)
theorem NI (I:Nat->Nat)(b:Nat):Dm.set I b (I b)=I:=by
 funext x;unfold Dm.set;split
 ·rename_i h;rw[h]
 ·rfl
theorem Q0 {S:Nat->Prop}{b:Nat}(h:S b):(λx=>S x\/x=b)=S:=by
 funext x;exact propext ⟨λhx=>hx.elim id λe=>e▸h,.inl⟩
theorem US {G:Dm.Gr}{I:Nat->Nat}{S:Nat->Prop}{k n:Nat}(j:Dm.Inv G I S k 1)(l:∀b,G.node b->S b)(f:∀b,G.node b->b≠0->W2 G I S b)(a:∀b,G.node b->G.place b<n)(c:∀p,p<n->∃b,G.node b/\G.place b=p):Dm.Inv G I S (k+1) 1:=by
 have d:∀m,1+m<=n->Dm.Inv G I S k (1+m):=by
  intro m
  induction m with
  |zero=>exact λ_=>j
  | succ m o=>
    intro r;have q:=o (by omega);obtain⟨b,hb,g⟩:=c (1+m) (by omega);have h0:b≠0:=λe=>by subst e;rw[G.B8]at g;omega
    have h:=(q.Ld hb h0 g (f b hb h0).low (f b hb h0).zak).1;rw[NI,Q0 (l b hb)]at h;exact h
 have s:1<=n:=by have:=a 0 G.first;omega
 have i:=d (n-1) (by omega);rw[show 1+(n-1)=n by omega]at i;exact i.pass a
theorem NU {G:Dm.Gr}{I:Nat->Nat}{S:Nat->Prop}{k n:Nat}(d:Dm.Inv G I S k 1)(e:∀b,G.node b->S b)(f:∀b,G.node b->b≠0->W2 G I S b)(a:∀b,G.node b->G.place b<n)(c:∀p,p<n->∃b,G.node b/\G.place b=p):∀m,Dm.Inv G I S (k+m) 1
 |0=>d
 |m+1=>US (NU d e f a c m) e f a c
section
variable{u:U}{seen:List Bool}{post:List Nat}
theorem OL (g:Good u)(G:FX u.blocks.length (next u) seen post []):∀b,b<u.blocks.length->b∈post:=by
 have a:∀b l,Pt (next u) b l->b∈post:=by
  intro b l c
  induction c with
  |nil=>obtain⟨p,c⟩:=G.last rfl;rw[c];simp
  | step _ d e=>
    have:=(G.iff _).1 (G.closed _ e _ d);simpa using this
 intro b hb;obtain⟨l,f⟩:=g.reach b hb;exact a b l f
theorem OT (g:Good u)(G:FX u.blocks.length (next u) seen post []):post.length=u.blocks.length:=G.all (OL g G)
theorem Xs (G:FX u.blocks.length (next u) seen post []):post.reverse.Nodup:=by
 have:=G.nodup;simp only[Qz,Co]at this;rw[wBl]at this⊢;rw[List.pairwise_reverse];exact this.imp λh e=>h e.symm
theorem Gc (G:FX u.blocks.length (next u) seen post []){i b:Nat}(h:post.reverse[i]? =some b):G.gr.place b=i:=by
 show post.reverse.idxOf b=i;obtain⟨hi,rfl⟩:=iB.1 h;have a:=Xs G;have f:=Ic post.reverse post.reverse[i] (AO hi);obtain⟨d,e⟩:=iB.1 f;rcases V2 (post.reverse.idxOf post.reverse[i]) i with c|c|c
 ·rw[wBl,VQ]at a;exact absurd e (a _ _ d hi c)
 ·exact c
 ·rw[wBl,VQ]at a;exact absurd e.symm (a _ _ hi d c)
end
section
variable{F F':Nat->Prop}{h h':Hp}{cs:List Pc}{Q:fx}{u:U}{vv vb vs:V}
structure Rn (S:Nat->Prop) (I:Nat->Nat) (n:Nat) (A3:List Int):Prop where
 len:A3.length=n
 yes:∀b,S b->A3[b]? =some (I b:Int)
 no:∀b,b<n->¬S b->A3[b]? =some (-1)
theorem WJ {G:Dm.Gr}{I:Nat->Nat}{S:Nat->Prop}{n l5 l6 E J:Nat}{u vp:V}{A3:List Int}{pl:List Nat}(j:ei F h cs){i5 i6 ii ip:Nat}(v:cs[i5]? =some (eo l5 E [u]))(w:cs[i6]? =some (eo l6 J [vp]))(hi:cs[ii]? =some (eQ eZ en A3 u))(y:cs[ip]? =some (eQ eN en pl vp))
  (l:Tree G I S) (z:Rn S I n A3) (o:∀b,G.node b->pl[b]? =some (G.place b)) {a b:Nat} (K:S a) (hb:S b)
  (H:∀d,S d->ot I d a->ot I d b->(∀x,ot I x a->ot I x b->ot I x d)->Q (.int .i64 (d:Nat)) h):cP CS iU [.int .i64 a,.int .i64 b,.ptr l6 0,.ptr l5 0] h Q:=by
 refine Ft rfl rfl ?_;unfold yn
 refine CI (λk A B C D h'=>∃c f:Nat,A = .int .i64 (c:Nat)/\B = .int .i64 (f:Nat)/\C = .ptr l6 0/\D = .ptr l5 0/\h' = h/\k=G.place c+G.place f/\S c/\S f/\ot I c a/\ot I f b/\(∀x,ot I x a->ot I x b->ot I x c/\ot I x f)) ?_ (k:=G.place a+G.place b)
  ⟨a,b,rfl,rfl,rfl,rfl,rfl,rfl,K,hb,.refl _,.refl _,λx g i=>⟨g,i⟩⟩
 rintro k A B C D h' ⟨c,f,rfl,rfl,rfl,rfl,rfl,W,sa,sb,p,q,hx⟩;unfold vB;by_cases e:c=f
 ·subst e;refine E6 (ig rfl ?_);exact H c sa p q λx g i=>(hx x g i).1
 refine E6 (gG (by omega) ?_);obtain⟨X,op,L,M⟩:=j.HX ip y (o c (l.node _ sa)) .i64;obtain⟨Y,oq,N,O⟩:=j.HX ip y (o f (l.node _ sb)) .i64;refine ed (j.ld i6 w rfl) (ed L (ed M (ed (j.ld i6 w rfl) (ed N (ed O ?_)))));by_cases IH:G.place f<G.place c
 ·refine AM (ig (by omega) ?_);obtain⟨P,R,r,s⟩:=j.M9 ii hi (z.yes c sa) .i64;refine ed (j.ld i5 v rfl) (ed r (ed s ?_));have h0:c≠0:=λe=>by subst e;rw[G.B8]at IH;omega
  obtain⟨t,T⟩:=l.up c sa h0;exact⟨_,by omega,I c,f,rfl,rfl,rfl,rfl,rfl,rfl,t,sb,(ot.up h0 (.refl _)).trans p,q,λx g i=>⟨l.XY sa sb IH (hx x g i).1 (hx x g i).2,(hx x g i).2⟩⟩
 ·refine AM (gG (by omega) ?_);obtain⟨P,R,r,s⟩:=j.M9 ii hi (z.yes f sb) .i64;refine ed (j.ld i5 v rfl) (ed r (ed s ?_));have m:G.place c<G.place f:=by
   have:G.place c≠G.place f:=λU=>e (G.inj _ _ (l.node _ sa) (l.node _ sb) U);omega
  have h0:f≠0:=λe=>by subst e;rw[G.B8]at m;omega
  obtain⟨t,T⟩:=l.up f sb h0;exact⟨_,by omega,c,I f,rfl,rfl,rfl,rfl,rfl,rfl,sa,t,p,(ot.up h0 (.refl _)).trans q,λx g i=>⟨(hx x g i).1,l.XY sb sa m (hx x g i).2 (hx x g i).1⟩⟩
theorem E9 (g:Good u)(H0:ei F h cs)(hu:zf F h u vv vb vs)
  (H:∀F' h' v A3 I seen post (G:FX u.blocks.length (next u) seen post []),Sn F h F' h'->ei F' h' cs->ik eZ F' h' A3 v->A3.length=u.blocks.length->A3[0]? =some (-1)->(∀b,b≠0->b<u.blocks.length->A3[b]? =some (I b:Int))->Tree G.gr I (λb=>b<u.blocks.length)->
   (∀x b,b<u.blocks.length->(ot I x b↔mg (next u) x b))->Q v h'):cP CS nB [.agg (uC u vv vb vs)] h Q:=by
 refine Ia rfl rfl ?_;unfold AK;have nb:=g.nb;have Ju:=g.Ju;refine mf H0 hu.one λq H1 s1=>?_;have lA:=H1.wH (n:=5) 0 rfl rfl;refine ed lA (ed lA ?_);refine ND g H1 (hu.since s1) λF2 h2 vo seen post s2 H2 G r2=>⟨s2.next,H2.wH 0 rfl rfl,?_⟩
 refine NX g H2 (hu.since (s1.trans s2)) λF3 K va s3 H3 r3=>⟨s3.next,?_⟩
 have u3:=hu.since ((s1.trans s2).trans s3);have r2:=r2.since s3;refine oF (H3.ld 0 rfl rfl) (ed u3.b.len ?_);rw[jk (z:=V.int .i64 0) rfl (by decide) (by omega),gY];obtain⟨H4,s4⟩:=H3.make (E:=eZ) (ty:=en) (y:=0) (u:=V.int .i64 0) u.blocks.length rfl rfl;have n4:(K.new (.cells en 1 true false (List.replicate u.blocks.length (V.int .i64 0)))).next=K.next+1:=rfl;have g4:(K.new (.cells en 1 true false (List.replicate u.blocks.length (V.int .i64 0)))).get K.next=some (.cells 3 1 true false (List.replicate u.blocks.length (V.int .i64 0))):=fg _ _;show oP (fH 3 (.ptr h.next 0)) _;generalize bt:K.new (.cells en 1 true false (List.replicate u.blocks.length (V.int .i64 0)))=U at*;refine oF (H4.ld 1 rfl rfl) (ed (u3.since s4).b.len ?_);rw[jk (z:=V.int .i64 0) rfl (by decide) (by omega),gY];obtain⟨H5,s5⟩:=H4.make (E:=eN) (ty:=en) (y:=0) (u:=V.int .i64 0) u.blocks.length rfl rfl;have n5:(U.new (.cells en 1 true false (List.replicate u.blocks.length (V.int .i64 0)))).next=U.next+1:=rfl;have g5:(U.new (.cells en 1 true false (List.replicate u.blocks.length (V.int .i64 0)))).get U.next=some (.cells 3 1 true false (List.replicate u.blocks.length (V.int .i64 0))):=fg _ _;have aM:=(fk (h:=U) (.cells en 1 true false (List.replicate u.blocks.length (V.int .i64 0))) (l:=K.next) (by omega)).trans g4;generalize bu:U.new (.cells en 1 true false (List.replicate u.blocks.length (V.int .i64 0)))=h5 at*;rw[gY];obtain⟨H6,s6⟩:=H5.yP hZ [V.ec];have n6:(h5.new (.cells hZ 1 true false [V.ec])).next=h5.next+1:=rfl;have g6:(h5.new (.cells hZ 1 true false [V.ec])).get h5.next=some (.cells 23 1 true false [V.ec]):=fg _ _;have aN:=(fk (h:=h5) (.cells hZ 1 true false [V.ec]) (l:=U.next) (by omega)).trans g5;have aO:=(fk (h:=h5) (.cells hZ 1 true false [V.ec]) (l:=K.next) (by omega)).trans aM;show wS _ (h5.new (.cells hZ 1 true false [V.ec])) _;generalize bv:h5.new (.cells hZ 1 true false [V.ec])=h6 at*;rw[gY];obtain⟨H7,s7⟩:=H6.yP hZ [V.ec];have n7:(h6.new (.cells hZ 1 true false [V.ec])).next=h6.next+1:=rfl;have g7:(h6.new (.cells hZ 1 true false [V.ec])).get h6.next=some (.cells 23 1 true false [V.ec]):=fg _ _;have aP:=(fk (h:=h6) (.cells hZ 1 true false [V.ec]) (l:=h5.next) (by omega)).trans g6;have ar:=(fk (h:=h6) (.cells hZ 1 true false [V.ec]) (l:=U.next) (by omega)).trans aN;have aQ:=(fk (h:=h6) (.cells hZ 1 true false [V.ec]) (l:=K.next) (by omega)).trans aO;show(((h6.new (.cells hZ 1 true false [V.ec])).get h6.next=_/\_)/\_);generalize bw:h6.new (.cells hZ 1 true false [V.ec])=h7 at*;refine⟨⟨g7,O.gL _ _ _ _ _⟩,⟨aP,O.gL _ _ _ _ _⟩,⟨ar,O.gL _ _ _ _ _⟩,H7.ld 4 rfl rfl,⟨aQ,O.gL _ _ _ _ _⟩,H7.ld 4 rfl rfl,?_⟩;obtain⟨h8,e8,n8,H8,s8,k8⟩:=H7.stk 1 (o:=0) (u:= .slice K.next 0 u.blocks.length) rfl (by simp) rfl;rw[e8,ef];refine⟨n8,⟨(k8 _ (by omega)).trans ar,O.gL _ _ _ _ _⟩,(by simp only[kZ,iO]at H8;exact H8.ld 4 rfl rfl),?_⟩;simp only[kZ,iO]at H8;obtain⟨h9,e9,n9,H9,s9⟩:=H8.st 0 (o:=0) (u:= .slice U.next 0 u.blocks.length) rfl (by simp) rfl;rw[e9,ef];refine⟨n9,?_⟩;simp only[iO]at H9;have au:=((((s4.trans s5).trans s6).trans s7).trans s8).trans s9;have bx:=((s1.trans s2).trans s3).trans au;have r2:=r2.since au;have r3:=r3.since au;clear g4 g5 g6 g7 aM aO aQ aN ar aP k8 e8 e9 bt bu bv bw H1 H2 H3 H4 H5 H6 H7 H8 s1 s2 s3 s4 s5 s6 s7 s8 s9 lA u3;generalize V.slice K.next 0 u.blocks.length=vi at*;generalize V.slice U.next 0 u.blocks.length=vp at*;generalize h6.next=l6 at*;generalize h5.next=l5 at*;generalize h.next=lb at*;have aR:=H9.len 3 (xs:=List.replicate u.blocks.length (0:Int)) rfl;rw[Nt]at aR;refine ed (H9.ld 1 rfl rfl) (ed aR ?_);have bz:=OT g G;have aa:post.reverse.length=u.blocks.length:=by simpa using bz
 refine Ew (λk w A W x6 aS aT h'=>∃(i:Nat) (xs:List Int),w=vo/\A=va/\W = .ptr l5 0/\x6 = .ptr l6 0/\aS = .int .i64 u.blocks.length/\aT = .int .i64 i/\i+k=u.blocks.length/\xs.length=u.blocks.length/\(∀j,j<i->xs[j]? =some (-1))/\
  Sn F3 h9 F3 h'/\ei F3 h' (eo l6 hZ [vp]::eo l5 hZ [vi]::eQ eN en (List.replicate u.blocks.length 0) vp::eQ eZ en xs vi::eo lb 30 (uC u vv vb vs)::cs)) ?_ (k:=u.blocks.length)
  ⟨0,_,rfl,rfl,rfl,rfl,rfl,rfl,by omega,by simp,λj hj=>by omega,Sn.refl _ _,H9⟩
 rintro k w A W x6 aS aT b7 ⟨i,xs,e3,e4,rfl,rfl,rfl,rfl,hk,aU,hm,aw,ax⟩;subst w A;unfold xA;by_cases hi:i<u.blocks.length
 ·refine gw ?_;obtain⟨l11,b8,b9,bA,bC,ca,aV,bD⟩:=ax.G7 3 rfl (k:=i) (y:=(-1:Int)) (u:=V.int .i64 (-1)) (by omega) rfl rfl rfl;refine ed (ax.ld 1 rfl rfl) (ed bA ?_);rw[bC,ef];simp only[kZ,iO]at aV;refine fM ⟨k-1,by omega,i+1,xs.set i (-1),rfl,rfl,rfl,rfl,rfl,rfl,by omega,by simp[aU],λj hj=>?_,aw.trans bD,aV⟩;by_cases e:j=i
  ·subst e;rw[Ct (by omega)]
  ·rw[AR λh=>e h.symm];exact hm j (by omega)
 refine iC ?_;obtain rfl:i=u.blocks.length:=by omega
 have lo:=(r2.since aw).len;rw[aa]at lo;refine ed lo ?_
 refine EE (λk w A W x6 ay aW aX h'=>∃(i:Nat) (pl:List Nat),w=vo/\A=va/\W = .ptr l5 0/\x6 = .ptr l6 0/\ay=vo/\aW = .int .i64 u.blocks.length/\aX = .int .i64 i/\i+k=u.blocks.length/\pl.length=u.blocks.length/\(∀j b,j<i->post.reverse[j]? =some b->pl[b]? =some j)/\
  Sn F3 h9 F3 h'/\ei F3 h' (eo l6 hZ [vp]::eo l5 hZ [vi]::eQ eN en pl vp::eQ eZ en xs vi::eo lb 30 (uC u vv vb vs)::cs)) ?_ (k:=u.blocks.length)
  ⟨0,_,rfl,rfl,rfl,rfl,rfl,rfl,rfl,by omega,by simp,λj b hj=>by omega,aw,ax⟩
 rintro k1 w A W x6 ay aW aX cb ⟨i,pl,e3,e4,rfl,rfl,cd,rfl,rfl,ce,aY,aZ,al,am⟩;subst w A ay;unfold xx;by_cases hi:i<u.blocks.length
 ·refine gw ?_;obtain⟨b,hb⟩:∃b,post.reverse[i]? =some b:=⟨_,gQ (by omega)⟩
  have ab:b<u.blocks.length:=G.pre b (VB.1 (xQ hb));obtain⟨l13,cf,_,j1,j2⟩:=(r2.since al).nat hb .i64;obtain⟨l14,cg,ci,bE,aA,cj,a4,bG⟩:=am.G7 2 rfl (k:=b) (y:=i) (u:=V.int .i64 i) (by omega) rfl rfl rfl;refine ed j1 (ed j2 (ed (am.ld 0 rfl rfl) (ed bE ?_)));rw[aA,ef];simp only[kZ,iO]at a4;refine fM ⟨k1-1,by omega,i+1,pl.set b i,rfl,rfl,rfl,rfl,rfl,rfl,rfl,by omega,by simp[aY],λj c hj hc=>?_,al.trans bG,a4⟩;by_cases e:c=b
  ·subst e;have q:=Gc G hb;have h2:=Gc G hc;obtain rfl:i=j:=by omega
   rw[Ct (by omega)]
  ·rw [AR λh=>e h.symm];refine aZ j c ?_ hc;rcases Nq j i with q|q
   ·exact q
   ·obtain rfl:j=i:=by omega
    rw[hb]at hc;exact absurd (Option.some.inj hc).symm e
 refine iC ?_;obtain rfl:i=u.blocks.length:=by omega
 have an:∀b,G.gr.node b->pl[b]? =some (G.gr.place b):=λb hb=>by
  have q:=Ic post.reverse b (VB.2 hb);exact aZ (post.reverse.idxOf b) b (by have:=(iB.1 q).1;omega) q
 have lo:=(r2.since al).len;rw[aa]at lo;refine ed lo (gO (gG (by omega) ?_));obtain⟨cm,cn,co,aA,bH,cp,a5,bI⟩:=am.G7 3 rfl (k:=0) (y:=(0:Int)) (u:=V.int .i64 0) (by omega) rfl rfl rfl;refine ed (am.ld 1 rfl rfl) (ed aA ?_);rw[bH,ef];simp only[kZ,iO]at a5;have bJ:Rn (λx=>x=0) (λ_=>0) u.blocks.length (xs.set 0 0):=⟨by simp[aU],λb hb=>by rw[hb,Ct (by omega)];rfl,λb hb hn=>by rw[AR λh=>hn h.symm];exact hm b hb⟩
 have f:∀b,G.gr.node b↔b<u.blocks.length:=λb=>⟨λhb=>G.pre b hb,λhb=>OL g G b hb⟩
 have X:∀b,G.gr.node b->G.gr.place b<u.blocks.length:=λb hb=>by
  have q:=Ic post.reverse b (VB.2 hb);have:=(iB.1 q).1;show post.reverse.idxOf b<_;omega
 have a6:∀p,p<u.blocks.length->∃b,G.gr.node b/\G.gr.place b=p:=λp C=>by
  obtain⟨b,hb⟩:∃b,post.reverse[p]? =some b:=⟨_,gQ (by omega)⟩
  exact⟨b,VB.1 (xQ hb),Gc G hb⟩
 refine Ex (λk w A W D J h'=>∃(c:Bool) (kk:Nat) (I:Nat->Nat) (S:Nat->Prop) (A3:List Int),w=vo/\A=va/\W = .ptr l5 0/\D = .func iU [] [.ptr l6 0,.ptr l5 0]/\J = .bool c/\k+kk=u.blocks.length+2/\(c=true->kk<=u.blocks.length+1)/\
  (c=false->(∀b,G.gr.node b->S b)/\∀b,G.gr.node b->b≠0->W2 G.gr I S b)/\Dm.Inv G.gr I S kk 1/\Rn S I u.blocks.length A3/\
  Sn F3 h9 F3 h'/\ei F3 h' (eo l6 hZ [vp]::eo l5 hZ [vi]::eQ eN en pl vp::eQ eZ en A3 vi::eo lb 30 (uC u vv vb vs)::cs)) ?_ (k:=u.blocks.length+1)
  ⟨true,1,λ_=>0,λx=>x=0,_,rfl,rfl,rfl,rfl,rfl,by omega,λ_=>by omega,λh=>(by cases h),Dm.Inv.start,bJ,al.trans bI,a5⟩
 rintro k2 w A W D J cq ⟨c,kk,I,S,A3,e3,e4,rfl,rfl,rfl,cr,bK,bL,hI,hR,ao,aB⟩;subst w A;unfold xN
 cases c with
 | false=>
   refine jH (gG (by simp) ?_);obtain⟨hS,hF⟩:=bL rfl;have a7:=NU hI hS hF X a6 (u.blocks.length+1);obtain⟨ct,cu,aC,bQ,bR,cv,r,L⟩:=aB.G7 3 rfl (k:=0) (y:=(-1:Int)) (u:=V.int .i64 (-1)) (by rw[hR.len];omega) rfl rfl rfl;refine ed (aB.ld 1 rfl rfl) (ed bQ ?_);rw[bR,ef];simp only[kZ,iO]at r;refine ed (r.ld 1 rfl rfl) ?_;obtain⟨a8,bS,r18⟩:=r.kE 3 rfl;simp only[kZ,iO]at a8;refine H _ _ vi (A3.set 0 (-1)) I seen post G (((bx.trans ao).trans L).trans bS) a8.tail.tail.tail.tail.tail r18 (by simp[hR.len]) (by rw[Ct (by rw[hR.len];omega)]) (λb h0 hb=>?_) ⟨by omega,λb hb=>(f b).2 hb,λb hb h0=>?_⟩ λx b hb=>?_
   ·rw[AR λh=>h0 h.symm]
    exact hR.yes b (hS b ((f b).2 hb))
   ·obtain⟨q,h2⟩:=hI.tree.up b (hS b ((f b).2 hb)) h0
    exact⟨(f _).1 (hI.tree.node _ q),h2⟩
   ·rw[a7.exact (λb hb=>(f b).1 hb) (by omega) (hS b ((f b).2 hb))]
    exact(Vr λa b=>Iff.rfl).symm
 | true =>
   refine jH (ig rfl ?_);have cw:=bK rfl;obtain⟨aD,bU,aE⟩:=(r2.since ao).cut (lo:=some (V.int .i64 ((1:Nat):Int))) (hi:=none) (m:=1) (n:=post.reverse.length) (Eg _ _ _) (CU _) (by omega) (iW _);rw[IT]at aE;refine ed bU (ed aE.len ?_);have a9:(post.reverse.drop 1).length=u.blocks.length-1:=by rw[YD,aa]
   rw[a9]
   refine ED (λk w A W D J M ac ae h'=>∃(i:Nat) (c:Bool) (I:Nat->Nat) (S:Nat->Prop) (A3:List Int),w=vo/\A=va/\W = .ptr l5 0/\D = .func iU [] [.ptr l6 0,.ptr l5 0]/\J = .bool c/\M=aD/\ac = .int .i64 ((u.blocks.length-1:Nat):Int)/\ae = .int .i64 (i:Nat)/\i+k=u.blocks.length-1/\
     (c=true->kk<=u.blocks.length)/\(c=false->∀b,G.gr.node b->G.gr.place b<i+1->S b/\(b≠0->W2 G.gr I S b))/\Dm.Inv G.gr I S kk (i+1)/\Rn S I u.blocks.length A3/\
     Sn F3 h9 F3 h'/\ei F3 h' (eo l6 hZ [vp]::eo l5 hZ [vi]::eQ eN en pl vp::eQ eZ en A3 vi::eo lb 30 (uC u vv vb vs)::cs)) ?_ (k:=u.blocks.length-1)
     ⟨0,false,I,S,A3,rfl,rfl,rfl,rfl,rfl,rfl,rfl,rfl,by omega,λh=>(by cases h),λ_ b hb bV=>by
       obtain rfl:b=0:=G.gr.inj b 0 hb G.gr.first (by have:=G.gr.B8;omega);exact⟨hI.tree.zero,λh=>absurd rfl h⟩,hI,hR,ao,aB⟩
   rintro k3 w A W D J M ac ae aC ⟨i,c,Y,S1,Z,e3,e4,rfl,rfl,rfl,ba,rfl,rfl,cx,bb,aF,ag,s,L,r⟩;subst w A M;unfold xj;by_cases hi:i<u.blocks.length-1;rotate_left
   ·refine iC ?_
    obtain rfl:i=u.blocks.length-1:=by omega
    have C:=ag.pass λb hb=>by have:=X b hb;omega
    refine⟨k2-1,by omega,c,kk+1,Y,S1,Z,rfl,rfl,rfl,rfl,rfl,by omega,λh=>by have:=bb h;omega,λh=>?_,C,s,L,r⟩;exact⟨λb hb=>(aF h b hb (by have:=X b hb;omega)).1,λb hb h0=>(aF h b hb (by have:=X b hb;omega)).2 h0⟩
   refine gw ?_;obtain⟨b,hb⟩:∃b,post.reverse[i+1]? =some b:=⟨_,gQ (by omega)⟩
   have ah:G.gr.node b:=VB.1 (xQ hb);have ab:=(f b).1 ah;have aG:G.gr.place b=i+1:=Gc G hb;have aH:b≠0:=λe=>by subst e;rw[G.gr.B8]at aG;omega
   have bc:ik eN F3 aC (post.reverse.drop 1) aD:=aE.fc λl hl=>(L.fc l hl).trans (ao.fc l hl).symm;obtain⟨l18,cy,_,j1,j2⟩:=bc.nat (i:=i) (x:=b) (by rw[Tj,Nat.add_comm];exact hb) .i64;obtain⟨cz,cA,bW,_,m1,m2,m3⟩:=(r3.since L).list (i:=b) (x:=Un.ahead u b) (by simp[ab]) .i64;refine ed j1 (ed j2 (ed m1 (ed m2 (ed m3.len ?_))));have N:∀p,G.gr.xZ p b↔p∈Un.ahead u b:=λp=>Eo.symm;have cB:(Un.ahead u b).length<=700:=by
     rw[<-nM];have:=nK g (i:=u.blocks.length) (j:=0) (b:=b) (iW _) (by omega);omega
   refine EC (λk w A W D J bd be M ac ae aI bf bg h'=>∃(j:Nat) (dd:Int),w=vo/\A=va/\W = .ptr l5 0/\D = .func iU [] [.ptr l6 0,.ptr l5 0]/\J = .bool c/\bd = .int .i64 (b:Nat)/\be = .int .i64 dd/\M=aD/\ac = .int .i64 ((u.blocks.length-1:Nat):Int)/\ae = .int .i64 (i:Nat)/\
     aI=bW/\bf = .int .i64 ((Un.ahead u b).length:Nat)/\bg = .int .i64 (j:Nat)/\j+k=(Un.ahead u b).length/\h' = aC/\
     ((dd = -1/\∀p∈(Un.ahead u b).take j,¬S1 p)\/∃d:Nat,dd=(d:Int)/\S1 d/\(∀p∈(Un.ahead u b).take j,S1 p->ot Y d p)/\∀x,(∀p∈(Un.ahead u b).take j,S1 p->ot Y x p)->ot Y x d)) ?_ (k:=(Un.ahead u b).length)
     ⟨0,-1,rfl,rfl,rfl,rfl,rfl,rfl,rfl,rfl,rfl,rfl,rfl,rfl,rfl,by omega,rfl,.inl ⟨rfl,λp C=>by simp at C⟩⟩
   rintro k4 w A W D J bd be M ac ae aI bf bg bX ⟨j,dd,e3,e4,rfl,rfl,rfl,rfl,rfl,ba,rfl,rfl,cC,rfl,rfl,cD,rfl,R⟩;subst w A M aI;unfold xB;by_cases hj:j<(Un.ahead u b).length
   ·refine gw ?_
    obtain⟨a,ha⟩:∃a,(Un.ahead u b)[j]? =some a:=⟨_,gQ hj⟩
    have bh:a<u.blocks.length:=by
      have:=Eo.1 (xQ ha);exact(g.TX this).1
    have bY:(Un.ahead u b).take (j+1)=(Un.ahead u b).take j++[a]:=by
      obtain⟨q,rfl⟩:=iB.1 ha;exact Nw q
    obtain⟨cE,cF,_,q1,q2⟩:=m3.nat ha .i64;refine ed q1 (ed q2 (ed (r.ld 1 rfl rfl) ?_));have t:∀p,p∈(Un.ahead u b).take (j+1)↔p∈(Un.ahead u b).take j\/p=a:=λp=>by rw[bY];simp
    by_cases hS:S1 a;rotate_left
    ·obtain⟨aJ,aK,t1,t2⟩:=r.M9 3 rfl (s.no a bh hS) .i64
     refine ed t1 (ed t2 (gw ?_));refine pw ?_;unfold mm;refine j7 (m:=1) (by omega) (by omega) ⟨k4-1,by omega,j+1,dd,rfl,rfl,rfl,rfl,rfl,rfl,rfl,rfl,rfl,rfl,rfl,rfl,rfl,by omega,rfl,?_⟩;have bi:∀{P:Nat->Prop},(∀p∈(Un.ahead u b).take (j+1),S1 p->P p)↔(∀p∈(Un.ahead u b).take j,S1 p->P p):=λ{P}=>⟨λh p C=>h p ((t p).2 (.inl C)),λh p C hs=>((t p).1 C).elim (λq=>h p q hs) λe=>absurd (e▸hs) hS⟩
     rcases R with⟨rfl,q⟩|⟨d,rfl,q,h2,K⟩
     ·exact .inl ⟨rfl,λp C=>((t p).1 C).elim (q p) λe=>e▸hS⟩
     ·exact .inr ⟨d,rfl,q,bi.2 h2,λx hx=>K x (bi.1 hx)⟩
    obtain⟨aJ,aK,t1,t2⟩:=r.M9 3 rfl (s.yes a hS) .i64;refine ed t1 (ed t2 (iC ?_));rcases R with⟨rfl,q⟩|⟨d,rfl,q,h2,K⟩
    ·refine gw ?_
     refine pw ?_;unfold mm;refine j7 (m:=1) (by omega) (by omega) ⟨k4-1,by omega,j+1,(a:Int),rfl,rfl,rfl,rfl,rfl,rfl,rfl,rfl,rfl,rfl,rfl,rfl,rfl,by omega,rfl,?_⟩;refine .inr ⟨a,rfl,hS,λp C hs=>?_,λx hx=>hx a ((t a).2 (.inr rfl)) hS⟩;rcases(t p).1 C with U|rfl
     ·exact absurd hs (q p U)
     ·exact .refl _
    ·refine iC ?_
     show cP CS iU [.int .i64 (d:Nat),.int .i64 (a:Nat),.ptr l6 0,.ptr l5 0] bX _;refine WJ r (i5:=1) (i6:=0) (ii:=3) (ip:=2) rfl rfl rfl rfl ag.tree s an q hS λd' g1 g2 g3 g4=>?_;refine pw ?_;unfold mm;refine j7 (m:=1) (by omega) (by omega) ⟨k4-1,by omega,j+1,(d':Int),rfl,rfl,rfl,rfl,rfl,rfl,rfl,rfl,rfl,rfl,rfl,rfl,rfl,by omega,rfl,?_⟩;refine .inr ⟨d',rfl,g1,λp C hs=>?_,λx hx=>g4 x (K x λp C hs=>hx p ((t p).2 (.inl C)) hs) (hx a ((t a).2 (.inr rfl)) hS)⟩;rcases(t p).1 C with U|rfl
     ·exact g2.trans (h2 p U hs)
     ·exact g3
   refine iC ?_;rw[VE (by omega)]at R;obtain⟨p0,bj,bm,b6⟩:=G.gr.early b ah aH;have bn:S1 p0:=ag.done p0 bj (by omega);obtain⟨d,rfl,cG,aL,ai⟩:∃d:Nat,dd=(d:Int)/\S1 d/\(∀p∈Un.ahead u b,S1 p->ot Y d p)/\∀x,(∀p∈Un.ahead u b,S1 p->ot Y x p)->ot Y x d:=by
     rcases R with⟨_,q⟩|q
     ·exact absurd bn (q p0 ((N p0).1 bm))
     ·exact q
   have aj:∀p,S1 p->G.gr.xZ p b->ot Y d p:=λp hs he=>aL p ((N p).1 he) hs;have B:∀x,(∀p,S1 p->G.gr.xZ p b->ot Y x p)->ot Y x d:=λx hx=>ai x λp C hs=>hx p hs ((N p).2 C);have bo:i<1000000000:=by clear R;omega
   have ap:k3-1<k3:=by clear R;omega
   have aq:i+1+(k3-1)=u.blocks.length-1:=by clear R;omega
   have ak:=(ag.Ld ah aH aG aj B).1;refine ed (r.ld 1 rfl rfl) ?_;by_cases hsame:S1 b/\Y b=d
   ·obtain ⟨T,rfl⟩:=hsame
    obtain⟨aJ,aK,t1,t2⟩:=r.M9 3 rfl (s.yes b T) .i64;refine ed t1 (ed t2 (E6 (ig rfl ?_)));refine wL ?_;unfold pM;rw[NI,Q0 T]at ak;refine j7 (m:=1) bo (by decide) ⟨k3-1,ap,i+1,c,Y,S1,Z,rfl,rfl,rfl,rfl,rfl,rfl,rfl,rfl,aq,bb,λhc b' bp bV=>?_,ak,s,L,r⟩;rcases Nq (G.gr.place b') (i+1)with q|q
    ·exact aF hc b' bp q
    ·obtain rfl:b' = b:=G.gr.inj _ _ bp ah (by omega)
     exact⟨T,λ_=>⟨aj,B⟩⟩
   ·obtain ⟨y,hy,bq⟩:∃y:Int,Z[b]? =some y/\y≠(d:Int):=by
      by_cases T:S1 b
      ·refine⟨(Y b:Int),s.yes b T,λe=>hsame ⟨T,?_⟩⟩
       exact Int.ofNat.inj e
      ·refine⟨-1,s.no b ab T,?_⟩
       omega
    obtain⟨aJ,aK,t1,t2⟩:=r.M9 3 rfl hy .i64;refine ed t1 (ed t2 (E6 (gG bq ?_)));obtain⟨cH,cI,cJ,bZ,b4,cK,br,b5⟩:=r.G7 3 rfl (k:=b) (y:=(d:Int)) (u:=V.int .i64 (d:Nat)) (by rw[s.len];exact ab) rfl rfl rfl;refine ed (r.ld 1 rfl rfl) (ed bZ ?_);rw[b4,ef];simp only[kZ,iO]at br;refine wL ?_;unfold pM;refine j7 (m:=1) bo (by decide) ⟨k3-1,ap,i+1,true,Dm.set Y b d,λx=>S1 x\/x=b,Z.set b (d:Int),rfl,rfl,rfl,rfl,rfl,rfl,rfl,rfl,aq,λ_=>?_,λh=>(by cases h),ak,⟨by simp[s.len],λx hx=>?_,λx hx hn=>?_⟩,L.trans b5,br⟩
    ·rcases Nq u.blocks.length kk with q|q
     ·exfalso
      obtain⟨h2,K⟩:=ag.stay (n:=u.blocks.length) (λb hb=>(f b).1 hb) q ah aH aG aj B;exact hsame ⟨h2,K.symm⟩
     ·exact q
    ·unfold Dm.set
     by_cases e:x=b
     ·subst e
      rw[Ct (by rw[s.len];exact ab),if_pos rfl]
     ·rw[AR λh=>e h.symm,if_neg e]
      exact s.yes x (hx.resolve_right e)
    ·have e:x≠b:=λe=>hn (.inr e)
     rw[AR λh=>e h.symm];exact s.no x hx λh=>hn (.inl h)
end
open Go.Proofs.YtpnddokajmjpbaaDoor.Un Go.Proofs.YtpnddokajmjpbaaDoor.Dm
structure zbb (u:U) (A3:List Int) (I:Nat->Nat):Prop where
 len:A3.length=u.blocks.length
 zero:A3[0]? =some (-1)
 at_:∀b,b≠0->b<u.blocks.length->A3[b]? =some (I b:Int)
 zbs:∃r:Nat->Nat,∀b,b<u.blocks.length->b≠0->I b<u.blocks.length/\r (I b)<r b
 iff:∀x b,b<u.blocks.length->(ot I x b↔mg (next u) x b)
section
variable{F F':Nat->Prop}{h h':Hp}{cs:List Pc}{Q:fx}{u:U}{vv vb vs:V}{lc:Nat}{bl pl DD:V}{xs ys A3:List Int}{I:Nat->Nat}
structure Cx (F:Nat->Prop) (h:Hp) (cs:List Pc) (lc:Nat) (u:U) (vv vb vs bl pl DD:V) (xs ys A3:List Int) (I:Nat->Nat):Prop where
 ck:Ck F h cs lc u vv vb vs bl pl DD
 rbl:ik eZ F h xs bl
 rpl:ik eZ F h ys pl
 rim:ik eZ F h A3 DD
 ZK:Std u u.blocks.length 0 xs ys
 Pe:zbb u A3 I
theorem Cx.since (C:Cx F h cs lc u vv vb vs bl pl DD xs ys A3 I)(s:Sn F h F' h')(a:ei F' h' cs):Cx F' h' cs lc u vv vb vs bl pl DD xs ys A3 I:=⟨C.ck.since s a,C.rbl.since s,C.rpl.since s,C.rim.since s,C.ZK,C.Pe⟩
theorem Cx.cons (C:Cx F h cs lc u vv vb vs bl pl DD xs ys A3 I)(s:Sn F h F' h'){p:Pc}(a:ei F' h' (p::cs)):Cx F' h' (p::cs) lc u vv vb vs bl pl DD xs ys A3 I:=⟨C.ck.cons s a,C.rbl.since s,C.rpl.since s,C.rim.since s,C.ZK,C.Pe⟩
theorem Ni (C:Cx F h cs lc u vv vb vs bl pl DD xs ys A3 I){a b:Nat}(hb:b<u.blocks.length)(m:ot I a b)(H:Q (.bool true) h):cP CS kS [.ptr lc 0,.int .i64 a,.int .i64 b] h Q:=by
 refine Bh rfl rfl ?_;unfold tJ;obtain⟨r,n⟩:=C.Pe.zbs;refine yl (λk g i j h'=>∃c:Nat,g = .ptr lc 0/\i = .int .i64 a/\j = .int .i64 (c:Nat)/\k=r c/\c<u.blocks.length/\ot I a c/\h' = h) ?_ (k:=r b) ⟨b,rfl,rfl,rfl,rfl,hb,m,rfl⟩;rintro k g i j h' ⟨c,rfl,rfl,rfl,t,d,f,rfl⟩;unfold pJ;refine Ve (ig (by omega) ?_);by_cases e:a=c
 ·exact gO (ig (by omega) H)
 refine gO (gG (by omega) ?_)
 cases f with
 |refl=>exact absurd rfl e
 | up h0 p=>
   obtain⟨l,o,_,q,s⟩:=C.rim.int (C.Pe.at_ c h0 d) .i64;obtain⟨r1,r2⟩:=n c d h0;exact oN (C.ck.ld 7 rfl) (ed q (ed s ⟨r (I c),by omega,I c,rfl,rfl,rfl,rfl,r1,p,rfl⟩))
theorem GK (C:Cx F h cs lc u vv vb vs bl pl DD xs ys A3 I){l:List Nat}{v:V}{b p:Nat}(D:ik eN F h l v)(W:l.length<1000000)(hb:b<u.blocks.length)(hs:∀w∈l,∃c j,At u w c j/\(c=b->j<p)/\mg (next u) c b)(H:Q (.bool true) h) :
  cP CS iQ [.ptr lc 0,v,.int .i64 b,.int .i64 p] h Q:=by
 refine FW rfl rfl ?_;unfold yO;refine ed D.len ?_;refine CJ (λk E G J a d f h'=>∃i:Nat,E = .ptr lc 0/\G = .int .i64 b/\J = .int .i64 p/\a=v/\d = .int .i64 l.length/\f = .int .i64 (i:Nat)/\i+k=l.length/\h' = h) ?_ (k:=l.length) ⟨0,rfl,rfl,rfl,rfl,rfl,rfl,by omega,rfl⟩;rintro k E G J a d f h' ⟨i,rfl,rfl,rfl,rfl,rfl,rfl,X,rfl⟩;unfold uZ;by_cases hi:i<l.length;rotate_left
 ·exact iC H
 refine gw ?_;obtain⟨c,j,g,n,m⟩:=hs _ (AO hi);have o:c<u.blocks.length:=by
  obtain⟨B,M,_⟩:=g;exact(iB.1 M).1
 obtain ⟨N,O⟩:=C.ZK.yes _ c j g (.inl o);obtain⟨l1,Y,_,P,R⟩:=D.nat (gQ hi) .i64;obtain⟨l2,Z,_,K,L⟩:=C.rbl.int N .i64;obtain⟨l3,o3,_,S,T⟩:=C.rpl.int O .i64;refine ed P (ed R (oN (C.ck.ld 5 rfl) (ed K (ed L (ed (iA _ _ _ _) ?_)))));have e:jK (.bool (((c:Int)) == (b:Int))) (oB (some (V.ptr lc 0)) λq=>oB (iq q) λr=>oB (fH 6 r) λs=>oB (ev s h') λt=>oB (some (V.int .i64 (l[i]:Nat))) λx=>oB (gD 1 t x) λy=>oB (ev y h') λz=>oB (some (V.int .i64 p)) λA=>er .geq 3 z A)=some (.bool false):=by
  have l6:ev (.ptr lc (0+6)) h' = some pl:=C.ck.ld 6 rfl;simp only[fh,fT,ez,l6,S,T,mY,ji];congr 2;rw[Y1];intro U;simp only[tN,CN,DY]at U;have:=n (by omega);omega
 refine ed e ?_;refine fK (ed rfl (fK (ed rfl (fK (ed (fT _ _) (fK (ed (ez _ _ _) (fK (ed (C.ck.ld 5 rfl) (fK (ed rfl (fK (ed K (fK (ed L (fK (ed rfl (xi ?_))))))))))))))))));refine Ni C hb ((C.Pe.iff c b hb).2 m) (ed rfl (jH (gG (by simp) ?_)));exact fM ⟨k-1,by omega,i+1,rfl,rfl,rfl,rfl,rfl,rfl,by omega,rfl⟩
theorem GP (C:Cx F h cs lc u vv vb vs bl pl DD xs ys A3 I){s b p:Nat}{fs:List Fm}(q:u.eh[s]? =some fs)(B:fs.length<=30/\∀f∈fs,f.locals.length<=40/\f.stack.length<=60)(hb:b<u.blocks.length)
  (hs:∀w∈ie fs,∃c j,At u w c j/\(c=b->j<p)/\mg (next u) c b) (H:∀h',Sn F h F h'->ei F h' cs->Q (.bool true) h') :
  cP CS iL [.ptr lc 0,.int .i64 s,.int .i64 b,.int .i64 p] h Q:=by
 refine A5 rfl rfl ?_;unfold sR;obtain⟨l1,L,f,_,D,_,E,r⟩:=C.ck.u.st q;refine ed (fT _ _) (ed (ez _ _ _) (oF (C.ck.ld 4 rfl) (ed D (oF E (ed r.len ?_)))))
 refine yS (λk t v x d e g h'=>∃j:Nat,t = .ptr lc 0/\v = .int .i64 b/\x = .int .i64 p/\d=f/\e = .int .i64 fs.length/\g = .int .i64 (j:Nat)/\j+k=fs.length/\Sn F h F h'/\ei F h' cs) ?_ (k:=fs.length)
  ⟨0,rfl,rfl,rfl,rfl,rfl,rfl,by omega,Sn.refl _ _,C.ck.H⟩
 rintro k t v x d e g G ⟨j,rfl,rfl,rfl,rfl,rfl,rfl,M,m,y⟩;unfold pb;by_cases hj:j<fs.length;rotate_left
 ·exact iC (H G m y)
 refine gw ?_;obtain⟨l3,N,a,c,_,J,K,z,A⟩:=(r.since m).frm (gQ hj);obtain⟨O,P⟩:=B.2 _ (AO hj);have i:∀w,w∈fs[j].locals\/w∈fs[j].stack->w∈ie fs:=λw l=>by
  unfold ie;rw[Pp];exact⟨fs[j],AO hj,xX.2 l⟩
 refine ed J (ed K ?_);refine iK y rfl rfl (by simp only[Nr,eJ,z.one,A.one];rfl) λR n o=>?_;have C2:=C.since (m.trans o) n.tail;refine oF (n.ld 0 rfl rfl) ?_;refine GK C2 (z.since o) (by omega) hb (λw l=>hs w (i w (.inl l))) (ed rfl ?_);refine fK (ed rfl (fK (ed (ez _ _ _) (fK (ed (n.ld 0 rfl rfl) (fK (ed rfl (fK (ed rfl (xi ?_))))))))));refine GK C2 (A.since o) (by omega) hb (λw l=>hs w (i w (.inr l))) (ed rfl (jH (gG (by simp) ?_)));exact fM ⟨k-1,by omega,j+1,rfl,rfl,rfl,rfl,rfl,rfl,by omega,m.trans o,n.tail⟩
theorem Rb {w b k:Nat}(h:Sb u w b k):∃c j,At u w c j/\(c=b->j<k)/\mg (next u) c b:=by
 obtain⟨c,j,d,a⟩:=h;rcases a with⟨rfl,a⟩|⟨a,f⟩
 ·exact⟨c,j,d,λ_=>a,mg.self _ _⟩
 ·exact⟨c,j,d,λe=>absurd e a,f⟩
theorem Fl {w b:Nat}{B:Bk}(f:u.blocks[b]? =some B)(h:ye u w b):∃c j,At u w c j/\(c=b->j<B.ee.length)/\mg (next u) c b:=by
 obtain⟨c,j,a,g⟩:=h;refine⟨c,j,a,λe=>?_,g⟩;subst e;obtain⟨k,d,i⟩:=a;rw[f]at d;cases d;exact(iB.1 i).1
theorem UG {a:Nat}{x:Vl}{w:V}{a0:V}{i k:Nat}(b:a0 = .ptr lc 0)(C:Cx F h (eo a gy (ll x w)::cs) lc u vv vb vs bl pl DD xs ys A3 I)(hc:a≠lc)(D:ev (.ptr a 5) h=some (.int .i64 x.state))(hb:i<u.blocks.length)
  (E:leaves x.op=true->∃fs,u.eh[x.state]? =some fs/\(fs.length<=30/\∀f∈fs,f.locals.length<=40/\f.stack.length<=60)/\∀w∈ie fs,∃c j,At u w c j/\(c=i->j<k)/\mg (next u) c i) {K:fx}
  (B:∀h',Sn F h F h'->ei F h' (eo a gy (ll x w)::cs)->K (.bool false) h') :
  oP (fO true (.bool (leaves x.op))) λd=>
  oP (gV d (some a0)) λe=>
  oP (fO true (.bool (leaves x.op))) λg=>
  oP (gV g (fH 5 (.ptr a 0))) λl=>
  oP (fO true (.bool (leaves x.op))) λm=>
  oP (gV m (ev l h)) λn=>
  oP (fO true (.bool (leaves x.op))) λo=>
  oP (gV o (some (.int .i64 i))) λp=>
  oP (fO true (.bool (leaves x.op))) λq=>
  oP (gV q (some (.int .i64 k))) λr=>
  oP (fO true (.bool (leaves x.op))) λs=>
  oP (gC s (some (iL,[e,n,p,r]))) λt=>wR CS t h λv G=>
  oP (fO true (.bool (leaves x.op))) λy=>
  oP (gV y (sr .not v)) λz=>
  oP (pN (.bool false) (lJ (.bool (leaves x.op)) z (V.bool false))) λA=>K A G:=by
 subst b
 cases hq:leaves x.op with
 | true=>
   obtain⟨fs,J,L,M⟩:=E hq;refine fY (ed rfl (fY (ed (ez _ _ _) (fY (ed D (fY (ed rfl (fY (ed rfl (zR ?_))))))))))
   refine GP C J L hb M λh' N O=>fY (ed rfl (ed rfl (B h' N O)))
 |false=>exact gz (gz (gz (gz (gz (Cr (gz (ed rfl (B h (Sn.refl _ _) C.ck.H))))))))
theorem Vi (g:Good u)(C:Cx F h cs lc u vv vb vs bl pl DD xs ys A3 I)(am:lc<h.next){i:Nat}{B:Bk}(c:u.blocks[i]? =some B)(H:∀F' h',Sn F h F' h'->ei F' h' cs->Q (.bool true) h'):cP CS lh [.ptr lc 0,.int .i64 i] h Q:=by
 refine Et rfl rfl ?_;unfold xm;have nv:=g.nv;have nb:=g.nb;have y:i<u.blocks.length:=(iB.1 c).1;have W:∀(s:Nat) (fs:List Fm),u.eh[s]? =some fs->fs.length<=30/\∀f∈fs,f.locals.length<=40/\f.stack.length<=60:=λs fs a=>by
  obtain⟨_,h2,T⟩:=g.st s fs a;exact⟨h2,λf hf=>⟨(T f hf).1,(T f hf).2.1⟩⟩
 have an:B.ee.length<=3000:=by
  have:=jy u.ee.length B.ee (Fj g c) λv hv=>by
   obtain⟨k,hk⟩:=mA.1 hv;exact g.l0 v i k ⟨B,c,hk⟩
  omega
 obtain⟨l7,o7,bv,bn,bp,_,i1,i2,U,iN,ip,_⟩:=C.ck.u.mS c;refine ed (fT _ _) (ed (ez _ _ _) (oF (C.ck.ld 3 rfl) (ed i1 (ed i2 ?_))));refine iK C.ck.H rfl rfl (by simp only[kM,eJ,U.one,iN.one,ip.one];rfl) λh2 H2 A=>?_;have C2:=C.cons A H2;have U:=U.since A;have iN:=iN.since A;have ip:=ip.since A;refine oF (H2.ld 0 rfl rfl) (ed U.len (oF (H2.ld 0 rfl rfl) (ed U.len ?_)))
 refine B3 (λk X Y Z x6 d l o h'=>∃(F':Nat->Prop) (j:Nat),X = .ptr lc 0/\Y = .int .i64 i/\Z = .ptr h.next 0/\x6 = .int .i64 B.ee.length/\d=bv/\l = .int .i64 B.ee.length/\o = .int .i64 j/\j+k=B.ee.length/\
  Sn F h2 F' h'/\ei F' h' (eo h.next 44 (kM B bv bn bp)::cs)) ?_ (k:=B.ee.length) ⟨F,0,rfl,rfl,rfl,rfl,rfl,rfl,rfl,by omega,Sn.refl _ _,H2⟩
 rintro k X Y Z x6 d l o T ⟨F3,j,rfl,rfl,rfl,rfl,ag,rfl,rfl,hk,D,G⟩;subst d;unfold um;have C3:=C2.since D G;by_cases hj:j<B.ee.length;rotate_left
 ·refine iC ?_;refine oF (G.ld 0 rfl rfl) ?_;by_cases c2:B.fin=2
  ·refine gO (ig (by omega) ?_);refine oF (G.ld 0 rfl rfl) ?_;refine Y3 [B.cond] (oI _) G λF4 h4 v q r r4=>?_;refine GK (C3.since r q) r4 (by simp) y (λw hw=>?_) (H _ _ ((A.trans D).trans r) q.tail);obtain rfl:=EB.1 hw;exact Fl c (g.JA i B c c2)
  refine gO (gG (by omega) ?_);by_cases c3:B.fin=3
  ·refine gO (ig (by omega) ?_);refine oF (G.ld 0 rfl rfl) ?_;have K:B.state<u.eh.length:=by
    rcases g.fin i B c with⟨L,_⟩|⟨L,_⟩|⟨_,_,L⟩
    ·omega
    ·omega
    ·exact L
   obtain⟨fs,a⟩:∃fs,u.eh[B.state]? =some fs:=⟨_,gQ K⟩
   refine GP C3 a (W _ _ a) y (λw hw=>Fl c (g.J2 i B fs c c3 a w hw)) λh4 r q=>H _ _ ((A.trans D).trans r) q.tail
  ·exact gO (gG (by omega) (H _ _ (A.trans D) G.tail))
 refine gw ?_;have e:At u (B.ee[j]) i j:=⟨B,c,gQ hj⟩
 have ah:=g.l0 _ _ _ e;obtain⟨x,hx⟩:∃x,u.ee[B.ee[j]]? =some x:=⟨_,gQ ah⟩
 have ai:B.fe.length<=700:=by
  rw[g.fe i B c,<-nM];have:=nK g (i:=u.blocks.length) (j:=0) (b:=i) (iW _) (by omega);omega
 have t:x.op=21\/x.op=20->x.args.length<=700:=by
  rintro(L|L)
  ·rw[(g.IE _ _ _ _ _ e hx L c).2];exact ai
  ·rw[g.putAt _ x hx L];omega
 obtain⟨l9,o9,_,j1,j2⟩:=(U.since D).nat (gQ hj) .i64;obtain⟨Zl,ao,w,_,q1,q2,iw,_⟩:=C3.ck.u.val hx;refine ed j1 (ed j2 (ed (fT _ _) (ed (ez _ _ _) (oF (C3.ck.ld 2 rfl) (ed q1 (ed q2 ?_))))));refine iK G rfl rfl (by simp only[ll,eJ,iw.one];rfl) λh4 q r=>?_;have C4:=C3.cons r q;have M:=iw.since r;have ap:T.next<=h4.next:=r.next;have aq:h.next<T.next:=(G.ok 0 _ rfl).2.1;refine oF (q.ld 0 rfl rfl) ?_;by_cases N:x.op=21
 ·refine gO (ig (by omega) ?_);refine oF (q.ld 0 rfl rfl) (ed M.len ?_);have ar:=(g.IE _ _ _ _ _ e hx N c).2
  refine BA (λk X Y Z x6 d l o R aa ab h'=>∃(F':Nat->Prop) (m:Nat),X = .ptr lc 0/\Y = .int .i64 i/\Z = .ptr h.next 0/\x6 = .int .i64 B.ee.length/\d=bv/\l = .int .i64 B.ee.length/\o = .int .i64 j/\R=w/\aa = .int .i64 x.args.length/\ab = .int .i64 m/\m+k=x.args.length/\
   Sn F3 h4 F' h'/\ei F' h' (eo T.next 42 (ll x w)::eo h.next 44 (kM B bv bn bp)::cs)) ?_ (k:=x.args.length) ⟨F3,0,rfl,rfl,rfl,rfl,rfl,rfl,rfl,rfl,rfl,rfl,by omega,Sn.refl _ _,q⟩
  rintro k2 X Y Z x6 d l o R aa ab h5 ⟨F5,m,rfl,rfl,rfl,rfl,ag,rfl,rfl,au,rfl,rfl,aw,J,S⟩;subst d R;unfold ua;have C5:=C4.since J S;by_cases hm:m<x.args.length;rotate_left
  ·refine iC ?_;refine tG ?_;unfold nj;exact fM ⟨k-1,by omega,F5,j+1,rfl,rfl,rfl,rfl,rfl,rfl,rfl,by omega,(D.trans r).trans J,S.tail⟩
  refine gw ?_;obtain⟨l11,ax,al,m1,m2⟩:=(M.since J).nat (gQ hm) .i64;refine ed m1 (ed m2 ?_);have aj:m<B.fe.length:=by omega
  obtain⟨p,hp⟩:∃p,B.fe[m]? =some p:=⟨_,gQ aj⟩
  have ac:p<u.blocks.length:=by
   have:=xQ hp;rw[g.fe i B c]at this;exact(g.TX (Eo.1 this)).1
  obtain⟨P,hP⟩:∃P,u.blocks[p]? =some P:=⟨_,gQ ac⟩
  rw[oI,gY];obtain⟨V,s6,r6⟩:=S.Wz (E:=eN) (xs:=[x.args[m]]) (n:=1) en rfl (wo F5 h5 [x.args[m]]) false;have g6:(h5.new (.cells 3 1 true false (gN [x.args[m]]))).get h5.next=some (.cells 3 1 true false (gN [x.args[m]])):=fg _ _;have C6:=C5.since s6 V;obtain⟨l12,ay,_,n1,n2⟩:=(((ip.since D).since r).since (J.trans s6)).nat hp .i64;obtain⟨l13,aA,pv,pn,pp,_,p1,_,ak,_,_,pa⟩:=C6.ck.u.mS hP;refine oF (V.ld 1 rfl rfl) (ed n1 (ed n2 (ed (fT _ _) (ed (ez _ _ _) (oF (C6.ck.ld 3 rfl) ?_)))));refine oF (V.ld 1 rfl rfl) (ed n1 (ed n2 (ed p1 (oF pa.ee (ed ak.len ⟨⟨g6,O.gL _ _ _ _ _⟩,?_⟩)))));refine GK C6 r6 (by simp) ac (λz hz=>?_) ⟨iW _,pj (ig rfl ?_)⟩
  ·obtain rfl:=EB.1 hz;exact Fl hP (g.JU _ i j x B e hx N c m _ p (gQ hm) hp)
  ·exact fM ⟨k2-1,by omega,_,m+1,rfl,rfl,rfl,rfl,rfl,rfl,rfl,rfl,rfl,rfl,by omega,J.trans s6,V⟩
 refine gO (gG (by omega) ?_);refine ed (q.wH 0 rfl rfl) ?_;refine Nb q M (λh=>by have:=t h;omega) λF5 h5 v J S r5=>?_;have C5:=C4.since J S;refine GK C5 r5 (by have:=GM t;omega) y (λz hz=>Rb (g.IB _ i j x e hx N z hz)) (ed rfl ?_);refine fK (ed (ez _ _ _) (fK (ed (S.ld 0 rfl rfl) (xi ?_))));refine HP (fK (ed rfl ?_));refine UG rfl C5 (by have:=A.next;omega) (S.ld 0 rfl rfl) y (λae=>?_) λh6 s6 V=>?_
 ·have K:=g.leave _ x hx ae;obtain⟨fs,a⟩:∃fs,u.eh[x.state]? =some fs:=⟨_,gQ K⟩
  exact⟨fs,a,W _ _ a,λz hz=>Rb (g.J4 _ i j x fs e hx ae a z hz)⟩
 ·refine jH (gG (by simp) ?_);refine tG ?_;unfold nj;exact fM ⟨k-1,by omega,F5,j+1,rfl,rfl,rfl,rfl,rfl,rfl,rfl,by omega,((D.trans r).trans J).trans s6,V.tail⟩
end
open Go.Proofs.YtpnddokajmjpbaaDoor.Un Go.Proofs.YtpnddokajmjpbaaDoor.Dm
section
variable{F F':Nat->Prop}{h h':Hp}{cs:List Pc}{Q:fx}{u:U}{vv vb vs:V}
theorem TL (g:Good u)(H0:ei F h cs)(hu:zf F h u vv vb vs)(H:∀F' h',Sn F h F' h'->ei F' h' cs->Q (.bool true) h'):cP CS Aa [.agg (uC u vv vb vs)] h Q:=by
 refine N5 rfl rfl ?_;unfold Il;have nv:=g.nv;have nb:=g.nb;have Ju:=g.Ju;have ns:=g.ns;refine mf H0 hu.one λz B s1=>?_;have w:=hu.since s1;have l2:ev (.ptr h.next (0+2)) z=some vv:=B.ld 0 rfl rfl;have l3:ev (.ptr h.next (0+3)) z=some vb:=B.ld 0 rfl rfl;have l4:ev (.ptr h.next (0+4)) z=some vs:=B.ld 0 rfl rfl;refine oF l2 (ed w.v.len (ed (pU _ _ _ _) ?_));rw[K3 (by omega)];have e1:pN (.bool false) (oB (fH 3 (.ptr h.next 0)) λk=>oB (ev k z) λl=>oB (fD l) λm=>er .gtr 3 m (V.int .i64 300))=some (.bool false):=by
  simp only[nq,ez,fh,l3,w.b.len,pU];rw[K3 (by omega)]
 have e2:pN (.bool false) (oB (fH 4 (.ptr h.next 0)) λk=>oB (ev k z) λl=>oB (fD l) λm=>er .gtr 3 m (V.int .i64 1000))=some (.bool false):=by
  simp only[nq,ez,fh,l4,w.s.len,pU];rw[K3 (by omega)]
 have e3:pN (.bool false) (oB (fH 3 (.ptr h.next 0)) λk=>oB (ev k z) λl=>oB (fD l) λm=>er .eql 3 m (V.int .i64 0))=some (.bool false):=by
  simp only[nq,ez,fh,l3,w.b.len,iA];congr 2;rw[Tw];omega
 refine ed e1 (ed e2 (ed e3 (jH (gG (by simp) ?_))));refine ed (B.wH 0 rfl rfl) (ed (show _=some (V.agg [.int .i64 u.func,.int .i64 u.pc,vv,vb,vs,.ec,.ec,.ec]) from rfl) ?_);refine mf B (by simp only[eJ,w.v.one,w.b.one,w.s.one];rfl) λL M s2=>?_;have E:=w.since s2;generalize z.next=lc at*;have l4:ev (.ptr h.next (0+4)) L=some vs:=M.ld 1 rfl rfl;refine oF l4 (ed E.s.len ?_);have C2:Ck F L (eo lc 104 [.int .i64 u.func,.int .i64 u.pc,vv,vb,vs,.ec,.ec,.ec]::eo h.next 30 (uC u vv vb vs)::cs) lc u vv vb vs .ec .ec .ec:=⟨M,⟨0,_,rfl⟩,E⟩
 refine KL (by omega) (λF' h'=>F' = F/\Sn F L F h'/\ei F h' (eo lc 104 [.int .i64 u.func,.int .i64 u.pc,vv,vb,vs,.ec,.ec,.ec]::eo h.next 30 (uC u vv vb vs)::cs)) ⟨rfl,Sn.refl _ _,M⟩ (λi hi F' h' a q r=>?_) λF3 h3 a=>?_
 ·obtain⟨rfl,f,n⟩:=a;show cP CS kY [.ptr lc 0,.int .i64 i] h' q;have hs:=gQ hi;obtain⟨g1,g2,g3⟩:=g.st i _ hs;exact UF (C2.since f n) hs ⟨g1,g2⟩ g3 λc d e=>r F' c ⟨rfl,f.trans d,e⟩
 obtain⟨rfl,N,H3⟩:=a;refine ed rfl (fK (ed rfl (xi ?_)));refine TF g H3 (E.since N) λO P x y xs ys s4 R rb rp ZK=>?_;refine ed rfl (fK (ed rfl ?_));have S:=(E.since N).since s4;have T:Ck O P (eo lc 104 [.int .i64 u.func,.int .i64 u.pc,vv,vb,vs,x,y,.ec]::eo h.next 30 (uC u vv vb vs)::cs) lc u vv vb vs x y .ec:=⟨R,⟨0,_,rfl⟩,S⟩
 have l2:ev (.ptr h.next (0+2)) P=some vv:=R.ld 1 rfl rfl;refine fK (ed (ez _ _ _) (fK (ed l2 (fK (ed S.v.len (fK (ed rfl (fK (ed rfl (xi ?_))))))))));refine KL (F:=O) (by omega) (λF' h'=>Sn O P F' h'/\ei F' h' (eo lc 104 [.int .i64 u.func,.int .i64 u.pc,vv,vb,vs,x,y,.ec]::eo h.next 30 (uC u vv vb vs)::cs)) ⟨Sn.refl _ _,R⟩ (λi hi F' h' a q r=>?_) λF5 h5 a=>?_
 ·obtain⟨f,n⟩:=a;show cP CS jG [.ptr lc 0,.int .i64 i] h' q;exact Yv g (T.since f n) (rb.since f) ZK hi (n.ok 0 _ rfl).2.1 λj c d e=>r j c ⟨f.trans d,e⟩
 obtain⟨J,K⟩:=a;have u5:=S.since J;have l3:ev (.ptr h.next (0+3)) h5=some vb:=K.ld 1 rfl rfl;refine ed rfl (fK (ed rfl (fK (ed (ez _ _ _) (fK (ed l3 (fK (ed u5.b.len (fK (ed rfl (fK (ed rfl (xi ?_)))))))))))));refine KL (F:=F5) (by omega) (λF' h'=>Sn F5 h5 F' h'/\ei F' h' (eo lc 104 [.int .i64 u.func,.int .i64 u.pc,vv,vb,vs,x,y,.ec]::eo h.next 30 (uC u vv vb vs)::cs)) ⟨Sn.refl _ _,K⟩ (λi hi F' h' a q r=>?_) λF6 h6 a=>?_
 ·obtain⟨f,n⟩:=a;show cP CS lU [.ptr lc 0,.int .i64 i] h' q;exact W1 g ((T.since J K).since f n) (gQ hi) λj c d e=>r j c ⟨f.trans d,e⟩
 obtain⟨U,W⟩:=a;have u6:=u5.since U;have l3:ev (.ptr h.next (0+3)) h6=some vb:=W.ld 1 rfl rfl;refine ed rfl (fK (ed rfl (fK (ed (ez _ _ _) (fK (ed l3 (fK (ed u6.b.len (fK (ed rfl (fK (ed rfl (xi ?_)))))))))))));refine KL (F:=F6) (by omega) (λF' h'=>Sn F6 h6 F' h'/\ei F' h' (eo lc 104 [.int .i64 u.func,.int .i64 u.pc,vv,vb,vs,x,y,.ec]::eo h.next 30 (uC u vv vb vs)::cs)) ⟨Sn.refl _ _,W⟩ (λi hi F' h' a q r=>?_) λF7 h7 a=>?_
 ·obtain⟨f,n⟩:=a;show cP CS mn [.ptr lc 0,.int .i64 i] h' q;exact Zx g (((T.since J K).since U W).since f n) (gQ hi) λj c d e=>r j c ⟨f.trans d,e⟩
 obtain ⟨s7,H7⟩:=a;have u7:=u6.since s7;refine ed rfl (jH (gG (by simp) ?_));refine EH rfl rfl ?_;unfold xk;have lA:gg 5 (.ptr lc 0) h7=some (.agg (uC u vv vb vs)):=by
  rw[yW (H7.get 0 rfl),AE (by simp)];rfl
 refine ed (fT _ _) (ed (ez _ _ _) (ed lA ?_));refine ND g H7 u7 λF8 h8 vo seen post s8 X G ro=>?_;have Y:=u7.since s8;have lo:=ro.len;rw[List.length_reverse,OT g G]at lo;refine ed lo (oF (X.ld 1 rfl rfl) (ed Y.b.len (E6 (ig rfl ?_))));refine ed (X.wH 1 rfl rfl) ?_;refine E9 g X Y λZ h9 vd A3 I aa ab G' s9 H9 rd d1 d2 d3 d4 d5=>?_;obtain⟨C,ac,ai,t,A⟩:=H9.st 0 (o:=7) (u:=vd) rfl (by simp) rd.one;refine ed (fT _ _) (ed (ez _ _ _) ?_);rw[show V.ptr lc (0+7)=V.ptr lc 7 from rfl,ac,ef];simp only[kZ,iO]at t;have D:=(Y.since s9).since A;refine oF (t.ld 1 rfl rfl) (ed D.b.len ?_);have p:=((((J.trans U).trans s7).trans s8).trans s9).trans A
 have ae:Cx Z C (eo lc 104 [.int .i64 u.func,.int .i64 u.pc,vv,vb,vs,x,y,vd]::eo h.next 30 (uC u vv vb vs)::cs) lc u vv vb vs x y vd xs ys A3 I:=
  ⟨⟨t,⟨0,_,rfl⟩,D⟩,rb.since p,rp.since p,rd.since A,ZK,⟨d1,d2,d3,⟨G'.gr.place,λb hb h0=>d4.up b hb h0⟩,d5⟩⟩
 refine KL (F:=Z) (by omega) (λF' h'=>Sn Z C F' h'/\ei F' h' (eo lc 104 [.int .i64 u.func,.int .i64 u.pc,vv,vb,vs,x,y,vd]::eo h.next 30 (uC u vv vb vs)::cs)) ⟨Sn.refl _ _,t⟩ (λi hi F' h' a q r=>?_) λaj ak a=>?_
 ·obtain⟨f,n⟩:=a;show cP CS lh [.ptr lc 0,.int .i64 i] h' q;exact Vi g (ae.since f n) (n.ok 0 _ rfl).2.1 (gQ hi) λj c d e=>r j c ⟨f.trans d,e⟩
 obtain⟨ag,ah⟩:=a;exact H _ _ (((((s1.trans s2).trans N).trans s4).trans p).trans ag) ah.tail.tail
end
