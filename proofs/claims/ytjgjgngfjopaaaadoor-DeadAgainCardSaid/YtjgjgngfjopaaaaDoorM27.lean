/- Parts. -/
import Derived.Test.YtjgjgngfjopaaaaDoorM26
namespace Go.Proofs.YtjgjgngfjopaaaaDoor.Hx
open Un Dm
structure YY (G:Dm.Gr) (I:Nat->Nat) (S:Nat->Prop) (b:Nat):Prop where
 low:∀p,S p->G.zj p b->pQ I (I b) p
 zdk:∀x,(∀p,S p->G.zj p b->pQ I x p)->pQ I x (I b)
theorem PK(I:Nat->Nat)(b:Nat):Dm.set I b (I b)=I:=by
 funext x;unfold Dm.set;split
 ·rename_i h;rw[h]
 ·rfl
theorem TM{S:Nat->Prop}{b:Nat}(h:S b):(λx=>S x\/x=b)=S:=by
 funext x;exact propext ⟨λa=>a.elim id λe=>e▸h,.inl⟩
theorem Xb{G:Dm.Gr}{I:Nat->Nat}{S:Nat->Prop}{k n:Nat}(j:Dm.Inv G I S k 1)(l:∀b,G.node b->S b)(g:∀b,G.node b->b≠0->YY G I S b)(a:∀b,G.node b->G.place b<n)(d:∀p,p<n->∃b,G.node b/\G.place b=p):Dm.Inv G I S (k+1) 1:=by
 have f:∀m,1+m<=n->Dm.Inv G I S k (1+m):=by
  intro m
  induction m with
  |zero=>exact λ_=>j
  | succ m o=>
    intro r;have q:=o (by omega);obtain⟨b,c,hp⟩:=d (1+m) (by omega);have h0:b≠0:=λe=>by subst e;rw[G.CU]at hp;omega
    have h:=(q.MW c h0 hp (g b c h0).low (g b c h0).zdk).1;rw[PK,TM (l b c)]at h;exact h
 have s:1<=n:=by have:=a 0 G.first;omega
 have i:=f (n-1) (by omega);rw[show 1+(n-1)=n by omega]at i;exact i.pass a
theorem QX{G:Dm.Gr}{I:Nat->Nat}{S:Nat->Prop}{k n:Nat}(d:Dm.Inv G I S k 1)(e:∀b,G.node b->S b)(f:∀b,G.node b->b≠0->YY G I S b)(a:∀b,G.node b->G.place b<n)(c:∀p,p<n->∃b,G.node b/\G.place b=p):∀m,Dm.Inv G I S (k+m) 1
 |0=>d
 |m+1=>Xb (QX d e f a c m) e f a c
section
variable{u:U}{seen:List Bool}{post:List Nat}
theorem PV(g:Good u)(G:Ie u.blocks.length (next u) seen post []):∀b,b<u.blocks.length->b∈post:=by
 have a:∀b l,Pt (next u) b l->b∈post:=by
  intro b l hp
  induction hp with
  |nil=>obtain⟨p,hp⟩:=G.last rfl;rw[hp];simp
  | step _ c d=>
    have:=(G.iff _).1 (G.closed _ d _ c);simpa using this
 intro b e;obtain⟨l,f⟩:=g.reach b e;exact a b l f
theorem Pz(g:Good u)(G:Ie u.blocks.length (next u) seen post []):post.length=u.blocks.length:=G.all (PV g G)
theorem Ys(G:Ie u.blocks.length (next u) seen post []):post.reverse.Nodup:=by
 have:=G.nodup;simp only[SM,Eo]at this;rw[wBm]at this⊢;rw[List.pairwise_reverse];exact this.imp λh e=>h e.symm
theorem Im(G:Ie u.blocks.length (next u) seen post []){i b:Nat}(h:post.reverse[i]? =some b):G.gr.place b=i:=by
 show post.reverse.idxOf b=i;obtain⟨hi,rfl⟩:=iR.1 h;have a:=Ys G;have f:=Jw post.reverse post.reverse[i] (zq hi);obtain⟨d,e⟩:=iR.1 f;rcases wBp (post.reverse.idxOf post.reverse[i]) i with c|c|c
 ·rw[wBm,Zp]at a;exact absurd e (a _ _ d hi c)
 ·exact c
 ·rw[wBm,Zp]at a;exact absurd e.symm (a _ _ hi d c)
end
section
variable{F F':Nat->Prop}{h h':Hp}{cs:List Pc}{Q:fy}{u:U}{vv vb vs:V}
structure TB (S:Nat->Prop) (I:Nat->Nat) (n:Nat) (DO:List Int):Prop where
 len:DO.length=n
 yes:∀b,S b->DO[b]? =some (I b:Int)
 no:∀b,b<n->¬S b->DO[b]? =some (-1)
theorem Y8{G:Dm.Gr}{I:Nat->Nat}{S:Nat->Prop}{n l5 l6 t5 E:Nat}{v vp:V}{DO:List Int}{pl:List Nat}(j:en F h cs){i5 i6 ii ip:Nat}(w:cs[i5]? =some (ev l5 t5 [v]))(y:cs[i6]? =some (ev l6 E [vp]))(hi:cs[ii]? =some (eR eZ ey DO v))(hp:cs[ip]? =some (eR eN ey pl vp))
  (l:Tree G I S) (z:TB S I n DO) (p:∀b,G.node b->pl[b]? =some (G.place b)) {a b:Nat} (J:S a) (K:S b)
  (H:∀d,S d->pQ I d a->pQ I d b->(∀x,pQ I x a->pQ I x b->pQ I x d)->Q (.I (d:Nat)) h):cP CS jw [.I a,.I b,.ptr l6 0,.ptr l5 0] h Q:=by
 refine Hj rfl rfl ?_;unfold zR
 refine Eh (λk A B C D h'=>∃c f:Nat,A = .I (c:Nat)/\B = .I (f:Nat)/\C = .ptr l6 0/\D = .ptr l5 0/\h' = h/\k=G.place c+G.place f/\S c/\S f/\pQ I c a/\pQ I f b/\(∀x,pQ I x a->pQ I x b->pQ I x c/\pQ I x f)) ?_ (k:=G.place a+G.place b)
  ⟨a,b,rfl,rfl,rfl,rfl,rfl,rfl,J,K,.refl _,.refl _,λx g i=>⟨g,i⟩⟩
 rintro k A B C D h' ⟨c,f,rfl,rfl,rfl,rfl,rfl,T,sa,sb,q,r,o⟩;unfold wR;by_cases e:c=f
 ·subst e;refine zN (gw rfl ?_);exact H c sa q r λx g i=>(o x g i).1
 refine zN (gi (by omega) ?_);obtain⟨U,op,p1,p2⟩:=j.KO ip hp (p c (l.node _ sa)) .i64;obtain⟨W,oq,L,M⟩:=j.KO ip hp (p f (l.node _ sb)) .i64;refine ed (j.ld i6 y rfl) (ed p1 (ed p2 (ed (j.ld i6 y rfl) (ed L (ed M ?_)))));by_cases Kh:G.place f<G.place c
 ·refine DY (gw (by omega) ?_);obtain⟨N,O,s,t⟩:=j.RD ii hi (z.yes c sa) .i64;refine ed (j.ld i5 w rfl) (ed s (ed t ?_));have h0:c≠0:=λe=>by subst e;rw[G.CU]at Kh;omega
  obtain⟨u,P⟩:=l.up c sa h0;exact⟨_,by omega,I c,f,rfl,rfl,rfl,rfl,rfl,rfl,u,sb,(pQ.up h0 (.refl _)).trans q,r,λx g i=>⟨l.Z0 sa sb Kh (o x g i).1 (o x g i).2,(o x g i).2⟩⟩
 ·refine DY (gi (by omega) ?_);obtain⟨N,O,s,t⟩:=j.RD ii hi (z.yes f sb) .i64;refine ed (j.ld i5 w rfl) (ed s (ed t ?_));have m:G.place c<G.place f:=by
   have:G.place c≠G.place f:=λR=>e (G.inj _ _ (l.node _ sa) (l.node _ sb) R);omega
  have h0:f≠0:=λe=>by subst e;rw[G.CU]at m;omega
  obtain⟨u,P⟩:=l.up f sb h0;exact⟨_,by omega,c,I f,rfl,rfl,rfl,rfl,rfl,rfl,sa,u,q,(pQ.up h0 (.refl _)).trans r,λx g i=>⟨(o x g i).1,l.Z0 sb sa m (o x g i).2 (o x g i).1⟩⟩
theorem M4(g:Good u)(H0:en F h cs)(hu:A0 F h u vv vb vs)
  (H:∀F' h' v DO I seen post (G:Ie u.blocks.length (next u) seen post []),Sn F h F' h'->en F' h' cs->iC eZ F' h' DO v->DO.length=u.blocks.length->DO[0]? =some (-1)->(∀b,b≠0->b<u.blocks.length->DO[b]? =some (I b:Int))->Tree G.gr I (λb=>b<u.blocks.length)->
   (∀x b,b<u.blocks.length->(pQ I x b↔ve (next u) x b))->Q v h'):cP CS qD [.agg (uC u vv vb vs)] h Q:=by
 refine Jj rfl rfl ?_;unfold Cw;have nb:=g.nb;have OC:=g.OC;refine mH H0 hu.one λr H1 s1=>?_;have lA:=H1.wS (n:=5) 0 rfl rfl;refine ed lA (ed lA ?_);refine PI g H1 (hu.since s1) λF2 h2 vo seen post s2 H2 G r2=>⟨s2.next,H2.wS 0 rfl rfl,?_⟩
 refine Qg g H2 (hu.since (s1.trans s2)) λF3 K va s3 H3 r3=>⟨s3.next,?_⟩
 have u3:=hu.since ((s1.trans s2).trans s3);have r2:=r2.since s3;refine oF (H3.ld 0 rfl rfl) (ed u3.b.len ?_);rw[jQ (z:=V.I 0) rfl (by decide) (by omega),hK];obtain⟨H4,s4⟩:=H3.make (E:=eZ) (ty:=ey) (y:=0) (u:=V.I 0) u.blocks.length rfl rfl;have n4:(K.new (.cells ey 1 true false (List.replicate u.blocks.length (V.I 0)))).next=K.next+1:=rfl;have g4:(K.new (.cells ey 1 true false (List.replicate u.blocks.length (V.I 0)))).get K.next=some (.cells 3 1 true false (List.replicate u.blocks.length (V.I 0))):=fi _ _;show oP (fH 3 (.ptr h.next 0)) _;generalize bx:K.new (.cells ey 1 true false (List.replicate u.blocks.length (V.I 0)))=U at*;refine oF (H4.ld 1 rfl rfl) (ed (u3.since s4).b.len ?_);rw[jQ (z:=V.I 0) rfl (by decide) (by omega),hK];obtain⟨H5,s5⟩:=H4.make (E:=eN) (ty:=ey) (y:=0) (u:=V.I 0) u.blocks.length rfl rfl;have n5:(U.new (.cells ey 1 true false (List.replicate u.blocks.length (V.I 0)))).next=U.next+1:=rfl;have g5:(U.new (.cells ey 1 true false (List.replicate u.blocks.length (V.I 0)))).get U.next=some (.cells 3 1 true false (List.replicate u.blocks.length (V.I 0))):=fi _ _;have aM:=(fo (h:=U) (.cells ey 1 true false (List.replicate u.blocks.length (V.I 0))) (l:=K.next) (by omega)).trans g4;generalize bz:U.new (.cells ey 1 true false (List.replicate u.blocks.length (V.I 0)))=h5 at*;rw[hK];obtain⟨H6,s6⟩:=H5.zf iP [V.ee];have n6:(h5.new (.cells iP 1 true false [V.ee])).next=h5.next+1:=rfl;have g6:(h5.new (.cells iP 1 true false [V.ee])).get h5.next=some (.cells 22 1 true false [V.ee]):=fi _ _;have aN:=(fo (h:=h5) (.cells iP 1 true false [V.ee]) (l:=U.next) (by omega)).trans g5;have aO:=(fo (h:=h5) (.cells iP 1 true false [V.ee]) (l:=K.next) (by omega)).trans aM;show wU _ (h5.new (.cells iP 1 true false [V.ee])) _;generalize bA:h5.new (.cells iP 1 true false [V.ee])=h6 at*;rw[hK];obtain⟨H7,s7⟩:=H6.zf iP [V.ee];have n7:(h6.new (.cells iP 1 true false [V.ee])).next=h6.next+1:=rfl;have g7:(h6.new (.cells iP 1 true false [V.ee])).get h6.next=some (.cells 22 1 true false [V.ee]):=fi _ _;have aP:=(fo (h:=h6) (.cells iP 1 true false [V.ee]) (l:=h5.next) (by omega)).trans g6;have ar:=(fo (h:=h6) (.cells iP 1 true false [V.ee]) (l:=U.next) (by omega)).trans aN;have aQ:=(fo (h:=h6) (.cells iP 1 true false [V.ee]) (l:=K.next) (by omega)).trans aO;show(((h6.new (.cells iP 1 true false [V.ee])).get h6.next=_/\_)/\_);generalize bC:h6.new (.cells iP 1 true false [V.ee])=h7 at*;refine⟨⟨g7,O.gO _ _ _ _ _⟩,⟨aP,O.gO _ _ _ _ _⟩,⟨ar,O.gO _ _ _ _ _⟩,H7.ld 4 rfl rfl,⟨aQ,O.gO _ _ _ _ _⟩,H7.ld 4 rfl rfl,?_⟩;obtain⟨h8,e8,n8,H8,s8,k8⟩:=H7.stk 1 (o:=0) (u:= .slice K.next 0 u.blocks.length) rfl (by simp) rfl;rw[e8,ei];refine⟨n8,⟨(k8 _ (by omega)).trans ar,O.gO _ _ _ _ _⟩,(by simp only[lj,iY]at H8;exact H8.ld 4 rfl rfl),?_⟩;simp only[lj,iY]at H8;obtain⟨h9,e9,n9,H9,s9⟩:=H8.st 0 (o:=0) (u:= .slice U.next 0 u.blocks.length) rfl (by simp) rfl;rw[e9,ei];refine⟨n9,?_⟩;simp only[iY]at H9;have au:=((((s4.trans s5).trans s6).trans s7).trans s8).trans s9;have bD:=((s1.trans s2).trans s3).trans au;have r2:=r2.since au;have r3:=r3.since au;clear g4 g5 g6 g7 aM aO aQ aN ar aP k8 e8 e9 bx bz bA bC H1 H2 H3 H4 H5 H6 H7 H8 s1 s2 s3 s4 s5 s6 s7 s8 s9 lA u3;generalize V.slice K.next 0 u.blocks.length=vi at*;generalize V.slice U.next 0 u.blocks.length=vp at*;generalize h6.next=l6 at*;generalize h5.next=l5 at*;generalize h.next=lb at*;have aR:=H9.len 3 (xs:=List.replicate u.blocks.length (0:Int)) rfl;rw[Pl]at aR;refine ed (H9.ld 1 rfl rfl) (ed aR ?_);have bE:=Pz g G;have aa:post.reverse.length=u.blocks.length:=by simpa using bE
 refine GL (λk A B W x6 aS aT h'=>∃(i:Nat) (xs:List Int),A=vo/\B=va/\W = .ptr l5 0/\x6 = .ptr l6 0/\aS = .I u.blocks.length/\aT = .I i/\i+k=u.blocks.length/\xs.length=u.blocks.length/\(∀j,j<i->xs[j]? =some (-1))/\
  Sn F3 h9 F3 h'/\en F3 h' (ev l6 iP [vp]::ev l5 iP [vi]::eR eN ey (List.replicate u.blocks.length 0) vp::eR eZ ey xs vi::ev lb 30 (uC u vv vb vs)::cs)) ?_ (k:=u.blocks.length)
  ⟨0,_,rfl,rfl,rfl,rfl,rfl,rfl,by omega,by simp,λj hj=>by omega,Sn.refl _ _,H9⟩
 rintro k A B W x6 aS aT cd ⟨i,xs,e3,e4,rfl,rfl,rfl,rfl,hk,aU,hm,aw,ax⟩;subst A B;unfold yT;by_cases hi:i<u.blocks.length
 ·refine gG ?_;obtain⟨l11,ce,cf,bG,bH,cg,aV,bI⟩:=ax.Ig 3 rfl (k:=i) (y:=(-1:Int)) (u:=V.I (-1)) (by omega) rfl rfl rfl;refine ed (ax.ld 1 rfl rfl) (ed bG ?_);rw[bH,ei];simp only[lj,iY]at aV;refine fN ⟨k-1,by omega,i+1,xs.set i (-1),rfl,rfl,rfl,rfl,rfl,rfl,by omega,by simp[aU],λj hj=>?_,aw.trans bI,aV⟩;by_cases e:j=i
  ·subst e;rw[EK (by omega)]
  ·rw[C8 λh=>e h.symm];exact hm j (by omega)
 refine iI ?_;obtain rfl:i=u.blocks.length:=by omega
 have lo:=(r2.since aw).len;rw[aa]at lo;refine ed lo ?_
 refine GG (λk A B W x6 ay aW aX h'=>∃(i:Nat) (pl:List Nat),A=vo/\B=va/\W = .ptr l5 0/\x6 = .ptr l6 0/\ay=vo/\aW = .I u.blocks.length/\aX = .I i/\i+k=u.blocks.length/\pl.length=u.blocks.length/\(∀j b,j<i->post.reverse[j]? =some b->pl[b]? =some j)/\
  Sn F3 h9 F3 h'/\en F3 h' (ev l6 iP [vp]::ev l5 iP [vi]::eR eN ey pl vp::eR eZ ey xs vi::ev lb 30 (uC u vv vb vs)::cs)) ?_ (k:=u.blocks.length)
  ⟨0,_,rfl,rfl,rfl,rfl,rfl,rfl,rfl,by omega,by simp,λj b hj=>by omega,aw,ax⟩
 rintro k1 A B W x6 ay aW aX ci ⟨i,pl,e3,e4,rfl,rfl,cj,rfl,rfl,cl,aY,aZ,al,am⟩;subst A B ay;unfold yM;by_cases hi:i<u.blocks.length
 ·refine gG ?_;obtain⟨b,f⟩:∃b,post.reverse[i]? =some b:=⟨_,gP (by omega)⟩
  have ab:b<u.blocks.length:=G.pre b (Xd.1 (A7 f));obtain⟨l13,cm,_,j1,j2⟩:=(r2.since al).nat f .i64;obtain⟨l14,cn,co,bJ,aA,cp,a5,bK⟩:=am.Ig 2 rfl (k:=b) (y:=i) (u:=V.I i) (by omega) rfl rfl rfl;refine ed j1 (ed j2 (ed (am.ld 0 rfl rfl) (ed bJ ?_)));rw[aA,ei];simp only[lj,iY]at a5;refine fN ⟨k1-1,by omega,i+1,pl.set b i,rfl,rfl,rfl,rfl,rfl,rfl,rfl,by omega,by simp[aY],λj c hj hc=>?_,al.trans bK,a5⟩;by_cases e:c=b
  ·subst e;have r:=Im G f;have h2:=Im G hc;obtain rfl:i=j:=by omega
   rw[EK (by omega)]
  ·rw [C8 λh=>e h.symm];refine aZ j c ?_ hc;rcases Pm j i with r|r
   ·exact r
   ·obtain rfl:j=i:=by omega
    rw[f]at hc;exact absurd (Option.some.inj hc).symm e
 refine iI ?_;obtain rfl:i=u.blocks.length:=by omega
 have an:∀b,G.gr.node b->pl[b]? =some (G.gr.place b):=λb f=>by
  have r:=Jw post.reverse b (Xd.2 f);exact aZ (post.reverse.idxOf b) b (by have:=(iR.1 r).1;omega) r
 have lo:=(r2.since al).len;rw[aa]at lo;refine ed lo (gj (gi (by omega) ?_));obtain⟨cq,cr,ct,aA,bL,cu,a6,bQ⟩:=am.Ig 3 rfl (k:=0) (y:=(0:Int)) (u:=V.I 0) (by omega) rfl rfl rfl;refine ed (am.ld 1 rfl rfl) (ed aA ?_);rw[bL,ei];simp only[lj,iY]at a6;have bR:TB (λx=>x=0) (λ_=>0) u.blocks.length (xs.set 0 0):=⟨by simp[aU],λb f=>by rw[f,EK (by omega)];rfl,λb f hn=>by rw[C8 λh=>hn h.symm];exact hm b f⟩
 have q:∀b,G.gr.node b↔b<u.blocks.length:=λb=>⟨λf=>G.pre b f,λf=>PV g G b f⟩
 have X:∀b,G.gr.node b->G.gr.place b<u.blocks.length:=λb f=>by
  have r:=Jw post.reverse b (Xd.2 f);have:=(iR.1 r).1;show post.reverse.idxOf b<_;omega
 have a7:∀p,p<u.blocks.length->∃b,G.gr.node b/\G.gr.place b=p:=λp hp=>by
  obtain⟨b,f⟩:∃b,post.reverse[p]? =some b:=⟨_,gP (by omega)⟩
  exact⟨b,Xd.1 (A7 f),Im G f⟩
 refine Gu (λk A B W D J h'=>∃(c:Bool) (kk:Nat) (I:Nat->Nat) (S:Nat->Prop) (DO:List Int),A=vo/\B=va/\W = .ptr l5 0/\D = .func jw [] [.ptr l6 0,.ptr l5 0]/\J = .bool c/\k+kk=u.blocks.length+2/\(c=true->kk<=u.blocks.length+1)/\
  (c=false->(∀b,G.gr.node b->S b)/\∀b,G.gr.node b->b≠0->YY G.gr I S b)/\Dm.Inv G.gr I S kk 1/\TB S I u.blocks.length DO/\
  Sn F3 h9 F3 h'/\en F3 h' (ev l6 iP [vp]::ev l5 iP [vi]::eR eN ey pl vp::eR eZ ey DO vi::ev lb 30 (uC u vv vb vs)::cs)) ?_ (k:=u.blocks.length+1)
  ⟨true,1,λ_=>0,λx=>x=0,_,rfl,rfl,rfl,rfl,rfl,by omega,λ_=>by omega,λh=>(by cases h),Dm.Inv.start,bR,al.trans bQ,a6⟩
 rintro k2 A B W D J cv ⟨c,kk,I,S,DO,e3,e4,rfl,rfl,rfl,cw,bS,bU,hI,hR,ao,aB⟩;subst A B;unfold yU
 cases c with
 | false=>
   refine js (gi (by simp) ?_);obtain⟨hS,hF⟩:=bU rfl;have a8:=QX hI hS hF X a7 (u.blocks.length+1);obtain⟨l17,cx,aC,bV,bW,cy,s,L⟩:=aB.Ig 3 rfl (k:=0) (y:=(-1:Int)) (u:=V.I (-1)) (by rw[hR.len];omega) rfl rfl rfl;refine ed (aB.ld 1 rfl rfl) (ed bV ?_);rw[bW,ei];simp only[lj,iY]at s;refine ed (s.ld 1 rfl rfl) ?_;obtain⟨a9,bX,bY⟩:=s.lO 3 rfl;simp only[lj,iY]at a9;refine H _ _ vi (DO.set 0 (-1)) I seen post G (((bD.trans ao).trans L).trans bX) a9.tail.tail.tail.tail.tail bY (by simp[hR.len]) (by rw[EK (by rw[hR.len];omega)]) (λb h0 f=>?_) ⟨by omega,λb f=>(q b).2 f,λb f h0=>?_⟩ λx b f=>?_
   ·rw[C8 λh=>h0 h.symm]
    exact hR.yes b (hS b ((q b).2 f))
   ·obtain⟨r,h2⟩:=hI.tree.up b (hS b ((q b).2 f)) h0
    exact⟨(q _).1 (hI.tree.node _ r),h2⟩
   ·rw[a8.exact (λb f=>(q b).1 f) (by omega) (hS b ((q b).2 f))]
    exact(Ww λa b=>Iff.rfl).symm
 | true =>
   refine js (gw rfl ?_);have cz:=bS rfl;obtain⟨aD,bZ,aE⟩:=(r2.since ao).cut (lo:=some (V.I ((1:Nat):Int))) (hi:=none) (m:=1) (n:=post.reverse.length) (Gn _ _ _) (Fa _) (by omega) (jj _);rw[Jh]at aE;refine ed bZ (ed aE.len ?_);have ba:(post.reverse.drop 1).length=u.blocks.length-1:=by rw[wB2,aa]
   rw[ba]
   refine Gv (λk A B W D J M ac ae h'=>∃(i:Nat) (c:Bool) (I:Nat->Nat) (S:Nat->Prop) (DO:List Int),A=vo/\B=va/\W = .ptr l5 0/\D = .func jw [] [.ptr l6 0,.ptr l5 0]/\J = .bool c/\M=aD/\ac = .I ((u.blocks.length-1:Nat):Int)/\ae = .I (i:Nat)/\i+k=u.blocks.length-1/\
     (c=true->kk<=u.blocks.length)/\(c=false->∀b,G.gr.node b->G.gr.place b<i+1->S b/\(b≠0->YY G.gr I S b))/\Dm.Inv G.gr I S kk (i+1)/\TB S I u.blocks.length DO/\
     Sn F3 h9 F3 h'/\en F3 h' (ev l6 iP [vp]::ev l5 iP [vi]::eR eN ey pl vp::eR eZ ey DO vi::ev lb 30 (uC u vv vb vs)::cs)) ?_ (k:=u.blocks.length-1)
     ⟨0,false,I,S,DO,rfl,rfl,rfl,rfl,rfl,rfl,rfl,rfl,by omega,λh=>(by cases h),λ_ b f b4=>by
       obtain rfl:b=0:=G.gr.inj b 0 f G.gr.first (by have:=G.gr.CU;omega);exact⟨hI.tree.zero,λh=>absurd rfl h⟩,hI,hR,ao,aB⟩
   rintro k3 A B W D J M ac ae aC ⟨i,c,Y,S1,Z,e3,e4,rfl,rfl,rfl,bb,rfl,rfl,cA,bc,aF,ag,t,L,s⟩;subst A B M;unfold yV;by_cases hi:i<u.blocks.length-1;rotate_left
   ·refine iI ?_
    obtain rfl:i=u.blocks.length-1:=by omega
    have hp:=ag.pass λb f=>by have:=X b f;omega
    refine⟨k2-1,by omega,c,kk+1,Y,S1,Z,rfl,rfl,rfl,rfl,rfl,by omega,λh=>by have:=bc h;omega,λh=>?_,hp,t,L,s⟩;exact⟨λb f=>(aF h b f (by have:=X b f;omega)).1,λb f h0=>(aF h b f (by have:=X b f;omega)).2 h0⟩
   refine gG ?_;obtain⟨b,f⟩:∃b,post.reverse[i+1]? =some b:=⟨_,gP (by omega)⟩
   have ah:G.gr.node b:=Xd.1 (A7 f);have ab:=(q b).1 ah;have aG:G.gr.place b=i+1:=Im G f;have aH:b≠0:=λe=>by subst e;rw[G.gr.CU]at aG;omega
   have bd:iC eN F3 aC (post.reverse.drop 1) aD:=aE.fk λl hl=>(L.fk l hl).trans (ao.fk l hl).symm;obtain⟨l18,cB,_,j1,j2⟩:=bd.nat (i:=i) (x:=b) (by rw[Vr,Nat.add_comm];exact f) .i64;obtain⟨cC,cD,b5,_,m1,m2,m3⟩:=(r3.since L).list (i:=b) (x:=Un.ahead u b) (by simp[ab]) .i64;refine ed j1 (ed j2 (ed m1 (ed m2 (ed m3.len ?_))));have N:∀p,G.gr.zj p b↔p∈Un.ahead u b:=λp=>Gc.symm;have cE:(Un.ahead u b).length<=700:=by
     rw[<-oE];have:=oG g (i:=u.blocks.length) (j:=0) (b:=b) (jj _) (by omega);omega
   refine GK (λk A B W D J be bf M ac ae aI bg bh h'=>∃(j:Nat) (dd:Int),A=vo/\B=va/\W = .ptr l5 0/\D = .func jw [] [.ptr l6 0,.ptr l5 0]/\J = .bool c/\be = .I (b:Nat)/\bf = .I dd/\M=aD/\ac = .I ((u.blocks.length-1:Nat):Int)/\ae = .I (i:Nat)/\
     aI=b5/\bg = .I ((Un.ahead u b).length:Nat)/\bh = .I (j:Nat)/\j+k=(Un.ahead u b).length/\h' = aC/\
     ((dd = -1/\∀p∈(Un.ahead u b).take j,¬S1 p)\/∃d:Nat,dd=(d:Int)/\S1 d/\(∀p∈(Un.ahead u b).take j,S1 p->pQ Y d p)/\∀x,(∀p∈(Un.ahead u b).take j,S1 p->pQ Y x p)->pQ Y x d)) ?_ (k:=(Un.ahead u b).length)
     ⟨0,-1,rfl,rfl,rfl,rfl,rfl,rfl,rfl,rfl,rfl,rfl,rfl,rfl,rfl,by omega,rfl,.inl ⟨rfl,λp hp=>by simp at hp⟩⟩
   rintro k4 A B W D J be bf M ac ae aI bg bh b6 ⟨j,dd,e3,e4,rfl,rfl,rfl,rfl,rfl,bb,rfl,rfl,cF,rfl,rfl,cG,rfl,R⟩;subst A B M aI;unfold yR;by_cases hj:j<(Un.ahead u b).length
   ·refine gG ?_
    obtain⟨a,ha⟩:∃a,(Un.ahead u b)[j]? =some a:=⟨_,gP hj⟩
    have bi:a<u.blocks.length:=by
      have:=Gc.1 (A7 ha);exact(g.VF this).1
    have b7:(Un.ahead u b).take (j+1)=(Un.ahead u b).take j++[a]:=by
      obtain⟨r,rfl⟩:=iR.1 ha;exact M9 r
    obtain⟨cH,cI,_,q1,q2⟩:=m3.nat ha .i64;refine ed q1 (ed q2 (ed (s.ld 1 rfl rfl) ?_));have w:∀p,p∈(Un.ahead u b).take (j+1)↔p∈(Un.ahead u b).take j\/p=a:=λp=>by rw[b7];simp
    by_cases hS:S1 a;rotate_left
    ·obtain⟨aJ,aK,t1,t2⟩:=s.RD 3 rfl (t.no a bi hS) .i64
     refine ed t1 (ed t2 (gG ?_));refine pS ?_;unfold mQ;refine jO (m:=1) (by omega) (by omega) ⟨k4-1,by omega,j+1,dd,rfl,rfl,rfl,rfl,rfl,rfl,rfl,rfl,rfl,rfl,rfl,rfl,rfl,by omega,rfl,?_⟩;have bj:∀{P:Nat->Prop},(∀p∈(Un.ahead u b).take (j+1),S1 p->P p)↔(∀p∈(Un.ahead u b).take j,S1 p->P p):=λ{P}=>⟨λh p hp=>h p ((w p).2 (.inl hp)),λh p hp hs=>((w p).1 hp).elim (λr=>h p r hs) λe=>absurd (e▸hs) hS⟩
     rcases R with⟨rfl,r⟩|⟨d,rfl,r,h2,K⟩
     ·exact .inl ⟨rfl,λp hp=>((w p).1 hp).elim (r p) λe=>e▸hS⟩
     ·exact .inr ⟨d,rfl,r,bj.2 h2,λx hx=>K x (bj.1 hx)⟩
    obtain⟨aJ,aK,t1,t2⟩:=s.RD 3 rfl (t.yes a hS) .i64;refine ed t1 (ed t2 (iI ?_));rcases R with⟨rfl,r⟩|⟨d,rfl,r,h2,K⟩
    ·refine gG ?_
     refine pS ?_;unfold mQ;refine jO (m:=1) (by omega) (by omega) ⟨k4-1,by omega,j+1,(a:Int),rfl,rfl,rfl,rfl,rfl,rfl,rfl,rfl,rfl,rfl,rfl,rfl,rfl,by omega,rfl,?_⟩;refine .inr ⟨a,rfl,hS,λp hp hs=>?_,λx hx=>hx a ((w a).2 (.inr rfl)) hS⟩;rcases(w p).1 hp with U|rfl
     ·exact absurd hs (r p U)
     ·exact .refl _
    ·refine iI ?_
     show cP CS jw [.I (d:Nat),.I (a:Nat),.ptr l6 0,.ptr l5 0] b6 _;refine Y8 s (i5:=1) (i6:=0) (ii:=3) (ip:=2) rfl rfl rfl rfl ag.tree t an r hS λd' g1 g2 g3 g4=>?_;refine pS ?_;unfold mQ;refine jO (m:=1) (by omega) (by omega) ⟨k4-1,by omega,j+1,(d':Int),rfl,rfl,rfl,rfl,rfl,rfl,rfl,rfl,rfl,rfl,rfl,rfl,rfl,by omega,rfl,?_⟩;refine .inr ⟨d',rfl,g1,λp hp hs=>?_,λx hx=>g4 x (K x λp hp hs=>hx p ((w p).2 (.inl hp)) hs) (hx a ((w a).2 (.inr rfl)) hS)⟩;rcases(w p).1 hp with U|rfl
     ·exact g2.trans (h2 p U hs)
     ·exact g3
   refine iI ?_;rw[X0 (by omega)]at R;obtain⟨p0,bm,bo,cb⟩:=G.gr.early b ah aH;have bq:S1 p0:=ag.done p0 bm (by omega);obtain⟨d,rfl,cJ,aL,ai⟩:∃d:Nat,dd=(d:Int)/\S1 d/\(∀p∈Un.ahead u b,S1 p->pQ Y d p)/\∀x,(∀p∈Un.ahead u b,S1 p->pQ Y x p)->pQ Y x d:=by
     rcases R with⟨_,r⟩|r
     ·exact absurd bq (r p0 ((N p0).1 bo))
     ·exact r
   have aj:∀p,S1 p->G.gr.zj p b->pQ Y d p:=λp hs he=>aL p ((N p).1 he) hs;have C:∀x,(∀p,S1 p->G.gr.zj p b->pQ Y x p)->pQ Y x d:=λx hx=>ai x λp hp hs=>hx p hs ((N p).2 hp);have br:i<1000000000:=by clear R;omega
   have ap:k3-1<k3:=by clear R;omega
   have aq:i+1+(k3-1)=u.blocks.length-1:=by clear R;omega
   have ak:=(ag.MW ah aH aG aj C).1;refine ed (s.ld 1 rfl rfl) ?_;by_cases hsame:S1 b/\Y b=d
   ·obtain ⟨T,rfl⟩:=hsame
    obtain⟨aJ,aK,t1,t2⟩:=s.RD 3 rfl (t.yes b T) .i64;refine ed t1 (ed t2 (zN (gw rfl ?_)));refine yl ?_;unfold qw;rw[PK,TM T]at ak;refine jO (m:=1) br (by decide) ⟨k3-1,ap,i+1,c,Y,S1,Z,rfl,rfl,rfl,rfl,rfl,rfl,rfl,rfl,aq,bc,λhc b' bt b4=>?_,ak,t,L,s⟩;rcases Pm (G.gr.place b') (i+1)with r|r
    ·exact aF hc b' bt r
    ·obtain rfl:b' = b:=G.gr.inj _ _ bt ah (by omega)
     exact⟨T,λ_=>⟨aj,C⟩⟩
   ·obtain ⟨y,hy,bu⟩:∃y:Int,Z[b]? =some y/\y≠(d:Int):=by
      by_cases T:S1 b
      ·refine⟨(Y b:Int),t.yes b T,λe=>hsame ⟨T,?_⟩⟩
       exact Int.ofNat.inj e
      ·refine⟨-1,t.no b ab T,?_⟩
       omega
    obtain⟨aJ,aK,t1,t2⟩:=s.RD 3 rfl hy .i64;refine ed t1 (ed t2 (zN (gi bu ?_)));obtain⟨cK,cL,cM,b8,b9,cN,bw,ca⟩:=s.Ig 3 rfl (k:=b) (y:=(d:Int)) (u:=V.I (d:Nat)) (by rw[t.len];exact ab) rfl rfl rfl;refine ed (s.ld 1 rfl rfl) (ed b8 ?_);rw[b9,ei];simp only[lj,iY]at bw;refine yl ?_;unfold qw;refine jO (m:=1) br (by decide) ⟨k3-1,ap,i+1,true,Dm.set Y b d,λx=>S1 x\/x=b,Z.set b (d:Int),rfl,rfl,rfl,rfl,rfl,rfl,rfl,rfl,aq,λ_=>?_,λh=>(by cases h),ak,⟨by simp[t.len],λx hx=>?_,λx hx hn=>?_⟩,L.trans ca,bw⟩
    ·rcases Pm u.blocks.length kk with r|r
     ·exfalso
      obtain⟨h2,K⟩:=ag.stay (n:=u.blocks.length) (λb f=>(q b).1 f) r ah aH aG aj C;exact hsame ⟨h2,K.symm⟩
     ·exact r
    ·unfold Dm.set
     by_cases e:x=b
     ·subst e
      rw[EK (by rw[t.len];exact ab),if_pos rfl]
     ·rw[C8 λh=>e h.symm,if_neg e]
      exact t.yes x (hx.resolve_right e)
    ·have e:x≠b:=λe=>hn (.inr e)
     rw[C8 λh=>e h.symm];exact t.no x hx λh=>hn (.inl h)
end
open Un Dm
structure zd3 (u:U) (DO:List Int) (I:Nat->Nat):Prop where
 len:DO.length=u.blocks.length
 zero:DO[0]? =some (-1)
 at_:∀b,b≠0->b<u.blocks.length->DO[b]? =some (I b:Int)
 zdV:∃r:Nat->Nat,∀b,b<u.blocks.length->b≠0->I b<u.blocks.length/\r (I b)<r b
 iff:∀x b,b<u.blocks.length->(pQ I x b↔ve (next u) x b)
section
variable{F F':Nat->Prop}{h h':Hp}{cs:List Pc}{Q:fy}{u:U}{vv vb vs:V}{lc:Nat}{bl pl Fo:V}{xs ys DO:List Int}{I:Nat->Nat}
structure Cx (F:Nat->Prop) (h:Hp) (cs:List Pc) (lc:Nat) (u:U) (vv vb vs bl pl Fo:V) (xs ys DO:List Int) (I:Nat->Nat):Prop where
 ck:Ck F h cs lc u vv vb vs bl pl Fo
 rbl:iC eZ F h xs bl
 rpl:iC eZ F h ys pl
 rim:iC eZ F h DO Fo
 std:Std u u.blocks.length 0 xs ys
 Rg:zd3 u DO I
theorem Cx.since(C:Cx F h cs lc u vv vb vs bl pl Fo xs ys DO I)(s:Sn F h F' h')(a:en F' h' cs):Cx F' h' cs lc u vv vb vs bl pl Fo xs ys DO I:=⟨C.ck.since s a,C.rbl.since s,C.rpl.since s,C.rim.since s,C.std,C.Rg⟩
theorem Cx.cons(C:Cx F h cs lc u vv vb vs bl pl Fo xs ys DO I)(s:Sn F h F' h'){p:Pc}(a:en F' h' (p::cs)):Cx F' h' (p::cs) lc u vv vb vs bl pl Fo xs ys DO I:=⟨C.ck.cons s a,C.rbl.since s,C.rpl.since s,C.rim.since s,C.std,C.Rg⟩
theorem Oj(C:Cx F h cs lc u vv vb vs bl pl Fo xs ys DO I){a b:Nat}(m:b<u.blocks.length)(n:pQ I a b)(H:Q (.bool true) h):cP CS lI [.ptr lc 0,.I a,.I b] h Q:=by
 refine Cm rfl rfl ?_;unfold uN;obtain⟨r,p⟩:=C.Rg.zdV;refine zQ (λk g i j h'=>∃c:Nat,g = .ptr lc 0/\i = .I a/\j = .I (c:Nat)/\k=r c/\c<u.blocks.length/\pQ I a c/\h' = h) ?_ (k:=r b) ⟨b,rfl,rfl,rfl,rfl,m,n,rfl⟩;rintro k g i j h' ⟨c,rfl,rfl,rfl,v,d,f,rfl⟩;unfold pV;refine TN (gw (by omega) ?_);by_cases e:a=c
 ·exact gj (gw (by omega) H)
 refine gj (gi (by omega) ?_)
 cases f with
 |refl=>exact absurd rfl e
 | up h0 q=>
   obtain⟨l,o,_,s,t⟩:=C.rim.int (C.Rg.at_ c h0 d) .i64;obtain⟨r1,w⟩:=p c d h0;exact oN (C.ck.ld 7 rfl) (ed s (ed t ⟨r (I c),by omega,I c,rfl,rfl,rfl,rfl,r1,q,rfl⟩))
theorem Ih(C:Cx F h cs lc u vv vb vs bl pl Fo xs ys DO I){l:List Nat}{v:V}{b p:Nat}(D:iC eN F h l v)(X:l.length<1000000)(E:b<u.blocks.length)(hs:∀w∈l,∃c j,At u w c j/\(c=b->j<p)/\ve (next u) c b)(H:Q (.bool true) h) :
  cP CS jn [.ptr lc 0,v,.I b,.I p] h Q:=by
 refine Hh rfl rfl ?_;unfold zX;refine ed D.len ?_;refine Ed (λk G J K a d f h'=>∃i:Nat,G = .ptr lc 0/\J = .I b/\K = .I p/\a=v/\d = .I l.length/\f = .I (i:Nat)/\i+k=l.length/\h' = h) ?_ (k:=l.length) ⟨0,rfl,rfl,rfl,rfl,rfl,rfl,by omega,rfl⟩;rintro k G J K a d f h' ⟨i,rfl,rfl,rfl,rfl,rfl,rfl,Y,rfl⟩;unfold wQ;by_cases hi:i<l.length;rotate_left
 ·exact iI H
 refine gG ?_;obtain⟨c,j,g,n,m⟩:=hs _ (zq hi);have o:c<u.blocks.length:=by
  obtain⟨B,N,_⟩:=g;exact(iR.1 N).1
 obtain ⟨O,P⟩:=C.std.yes _ c j g (.inl o);obtain⟨l1,Z,_,R,S⟩:=D.nat (gP hi) .i64;obtain⟨l2,o2,_,L,M⟩:=C.rbl.int O .i64;obtain⟨l3,o3,_,T,U⟩:=C.rpl.int P .i64;refine ed R (ed S (oN (C.ck.ld 5 rfl) (ed L (ed M (ed (gQ _ _ _ _) ?_)))));have e:jZ (.bool (((c:Int)) == (b:Int))) (oB (some (V.ptr lc 0)) λq=>oB (ij q) λr=>oB (fH 6 r) λs=>oB (ez s h') λt=>oB (some (V.I (l[i]:Nat))) λx=>oB (gD 1 t x) λy=>oB (ez y h') λz=>oB (some (V.I p)) λA=>eo .geq 3 z A)=some (.bool false):=by
  have l6:ez (.ptr lc (0+6)) h' = some pl:=C.ck.ld 6 rfl;simp only[fj,fX,eJ,l6,T,U,mW,jU];congr 2;rw[wBw];intro W;simp only[uZ,z8,AW]at W;have:=n (by omega);omega
 refine ed e ?_;refine fG (ed rfl (fG (ed rfl (fG (ed (fX _ _) (fG (ed (eJ _ _ _) (fG (ed (C.ck.ld 5 rfl) (fG (ed rfl (fG (ed L (fG (ed M (fG (ed rfl (wW ?_))))))))))))))))));refine Oj C E ((C.Rg.iff c b E).2 m) (ed rfl (js (gi (by simp) ?_)));exact fN ⟨k-1,by omega,i+1,rfl,rfl,rfl,rfl,rfl,rfl,by omega,rfl⟩
theorem Iy(C:Cx F h cs lc u vv vb vs bl pl Fo xs ys DO I){s b p:Nat}{fs:List Fm}(q:u.eh[s]? =some fs)(D:fs.length<=30/\∀f∈fs,f.locals.length<=40/\f.stack.length<=60)(r:b<u.blocks.length)
  (hs:∀w∈gJ fs,∃c j,At u w c j/\(c=b->j<p)/\ve (next u) c b) (H:∀h',Sn F h F h'->en F h' cs->Q (.bool true) h') :
  cP CS jl [.ptr lc 0,.I s,.I b,.I p] h Q:=by
 refine Ci rfl rfl ?_;unfold ue;obtain⟨l1,M,f,_,E,_,G,t⟩:=C.ck.u.st q;refine ed (fX _ _) (ed (eJ _ _ _) (oF (C.ck.ld 4 rfl) (ed E (oF G (ed t.len ?_)))))
 refine Ac (λk v x y d e g h'=>∃j:Nat,v = .ptr lc 0/\x = .I b/\y = .I p/\d=f/\e = .I fs.length/\g = .I (j:Nat)/\j+k=fs.length/\Sn F h F h'/\en F h' cs) ?_ (k:=fs.length)
  ⟨0,rfl,rfl,rfl,rfl,rfl,rfl,by omega,Sn.refl _ _,C.ck.H⟩
 rintro k v x y d e g J ⟨j,rfl,rfl,rfl,rfl,rfl,rfl,N,m,z⟩;unfold qt;by_cases hj:j<fs.length;rotate_left
 ·exact iI (H J m z)
 refine gG ?_;obtain⟨l3,O,a,c,_,K,L,A,B⟩:=(t.since m).oA (gP hj);obtain⟨P,R⟩:=D.2 _ (zq hj);have i:∀w,w∈fs[j].locals\/w∈fs[j].stack->w∈gJ fs:=λw l=>by
  unfold gJ;rw[Ni];exact⟨fs[j],zq hj,BK.2 l⟩
 refine ed K (ed L ?_);refine iG z rfl rfl (by simp only[MH,eQ,A.one,B.one];rfl) λS n o=>?_;have C2:=C.since (m.trans o) n.tail;refine oF (n.ld 0 rfl rfl) ?_;refine Ih C2 (A.since o) (by omega) r (λw l=>hs w (i w (.inl l))) (ed rfl ?_);refine fG (ed rfl (fG (ed (eJ _ _ _) (fG (ed (n.ld 0 rfl rfl) (fG (ed rfl (fG (ed rfl (wW ?_))))))))));refine Ih C2 (B.since o) (by omega) r (λw l=>hs w (i w (.inr l))) (ed rfl (js (gi (by simp) ?_)));exact fN ⟨k-1,by omega,j+1,rfl,rfl,rfl,rfl,rfl,rfl,by omega,m.trans o,n.tail⟩
theorem TL{w b k:Nat}(h:JH u w b k):∃c j,At u w c j/\(c=b->j<k)/\ve (next u) c b:=by
 obtain⟨c,j,d,a⟩:=h;rcases a with⟨rfl,a⟩|⟨a,f⟩
 ·exact⟨c,j,d,λ_=>a,ve.self _ _⟩
 ·exact⟨c,j,d,λe=>absurd e a,f⟩
theorem Hs{w b:Nat}{B:Bk}(f:u.blocks[b]? =some B)(h:xI u w b):∃c j,At u w c j/\(c=b->j<B.ef.length)/\ve (next u) c b:=by
 obtain⟨c,j,a,g⟩:=h;refine⟨c,j,a,λe=>?_,g⟩;subst e;obtain⟨k,d,i⟩:=a;rw[f]at d;cases d;exact(iR.1 i).1
theorem VM{lv:Nat}{x:Vl}{w:V}{a0:V}{i k:Nat}(a:a0 = .ptr lc 0)(C:Cx F h (ev lv hH (mz x w)::cs) lc u vv vb vs bl pl Fo xs ys DO I)(hc:lv≠lc)(B:ez (.ptr lv 5) h=some (.I x.state))(D:i<u.blocks.length)
  (E:leaves x.op=true->∃fs,u.eh[x.state]? =some fs/\(fs.length<=30/\∀f∈fs,f.locals.length<=40/\f.stack.length<=60)/\∀w∈gJ fs,∃c j,At u w c j/\(c=i->j<k)/\ve (next u) c i) {K:fy}
  (A:∀h',Sn F h F h'->en F h' (ev lv hH (mz x w)::cs)->K (.bool false) h') :
  oP (fx true (.bool (leaves x.op))) λb=>
  oP (gV b (some a0)) λd=>
  oP (fx true (.bool (leaves x.op))) λe=>
  oP (gV e (fH 5 (.ptr lv 0))) λg=>
  oP (fx true (.bool (leaves x.op))) λl=>
  oP (gV l (ez g h)) λm=>
  oP (fx true (.bool (leaves x.op))) λn=>
  oP (gV n (some (.I i))) λo=>
  oP (fx true (.bool (leaves x.op))) λp=>
  oP (gV p (some (.I k))) λq=>
  oP (fx true (.bool (leaves x.op))) λr=>
  oP (gC r (some (jl,[d,m,o,q]))) λs=>qB CS s h λt G=>
  oP (fx true (.bool (leaves x.op))) λv=>
  oP (gV v (qz .not t)) λy=>
  oP (oD (.bool false) (iO (.bool (leaves x.op)) y (V.bool false))) λz=>K z G:=by
 subst a
 cases hq:leaves x.op with
 | true=>
   obtain⟨fs,J,L,M⟩:=E hq;refine fU (ed rfl (fU (ed (eJ _ _ _) (fU (ed B (fU (ed rfl (fU (ed rfl (uS ?_))))))))))
   refine Iy C J L D M λh' s' N=>fU (ed rfl (ed rfl (A h' s' N)))
 |false=>exact hY (hY (hY (hY (hY (E0 (hY (ed rfl (A h (Sn.refl _ _) C.ck.H))))))))
theorem Xt(g:Good u)(C:Cx F h cs lc u vv vb vs bl pl Fo xs ys DO I)(am:lc<h.next){i:Nat}{B:Bk}(c:u.blocks[i]? =some B)(H:∀F' h',Sn F h F' h'->en F' h' cs->Q (.bool true) h'):cP CS mc [.ptr lc 0,.I i] h Q:=by
 refine GH rfl rfl ?_;unfold yO;have nv:=g.nv;have nb:=g.nb;have t:i<u.blocks.length:=(iR.1 c).1;have V:∀(s:Nat) (fs:List Fm),u.eh[s]? =some fs->fs.length<=30/\∀f∈fs,f.locals.length<=40/\f.stack.length<=60:=λs fs a=>by
  obtain⟨_,h2,S⟩:=g.st s fs a;exact⟨h2,λf hf=>⟨(S f hf).1,(S f hf).2.1⟩⟩
 have an:B.ef.length<=3000:=by
  have:=jK u.ef.length B.ef (Hi g c) λv hv=>by
   obtain⟨k,hk⟩:=mK.1 hv;exact g.mb v i k ⟨B,c,hk⟩
  omega
 obtain⟨l7,o7,bv,bn,bp,_,i1,i2,T,iN,ip,_⟩:=C.ck.u.nW c;refine ed (fX _ _) (ed (eJ _ _ _) (oF (C.ck.ld 3 rfl) (ed i1 (ed i2 ?_))));refine iG C.ck.H rfl rfl (by simp only[kr,eQ,T.one,iN.one,ip.one];rfl) λh2 H2 y=>?_;have C2:=C.cons y H2;have T:=T.since y;have iN:=iN.since y;have ip:=ip.since y;refine oF (H2.ld 0 rfl rfl) (ed T.len (oF (H2.ld 0 rfl rfl) (ed T.len ?_)))
 refine Dp (λk W X Y Z d l o h'=>∃(F':Nat->Prop) (j:Nat),W = .ptr lc 0/\X = .I i/\Y = .ptr h.next 0/\Z = .I B.ef.length/\d=bv/\l = .I B.ef.length/\o = .I j/\j+k=B.ef.length/\
  Sn F h2 F' h'/\en F' h' (ev h.next 50 (kr B bv bn bp)::cs)) ?_ (k:=B.ef.length) ⟨F,0,rfl,rfl,rfl,rfl,rfl,rfl,rfl,by omega,Sn.refl _ _,H2⟩
 rintro k W X Y Z d l o S ⟨F3,j,rfl,rfl,rfl,rfl,ag,rfl,rfl,hk,A,D⟩;subst d;unfold wu;have C3:=C2.since A D;by_cases hj:j<B.ef.length;rotate_left
 ·refine iI ?_;refine oF (D.ld 0 rfl rfl) ?_;by_cases c2:B.fin=2
  ·refine gj (gw (by omega) ?_);refine oF (D.ld 0 rfl rfl) ?_;refine Ol [B.cond] (nR _) D λF4 h4 v q s4 r4=>?_;refine Ih (C3.since s4 q) r4 (by simp) t (λw hw=>?_) (H _ _ ((y.trans A).trans s4) q.tail);obtain rfl:=Jd.1 hw;exact Hs c (g.NC i B c c2)
  refine gj (gi (by omega) ?_);by_cases c3:B.fin=3
  ·refine gj (gw (by omega) ?_);refine oF (D.ld 0 rfl rfl) ?_;have lT:B.state<u.eh.length:=by
    rcases g.fin i B c with⟨K,_⟩|⟨K,_⟩|⟨_,_,K⟩
    ·omega
    ·omega
    ·exact K
   obtain⟨fs,a⟩:∃fs,u.eh[B.state]? =some fs:=⟨_,gP lT⟩
   refine Iy C3 a (V _ _ a) t (λw hw=>Hs c (g.Nt i B fs c c3 a w hw)) λh4 s4 q=>H _ _ ((y.trans A).trans s4) q.tail
  ·exact gj (gi (by omega) (H _ _ (y.trans A) D.tail))
 refine gG ?_;have e:At u (B.ef[j]) i j:=⟨B,c,gP hj⟩
 have ah:=g.mb _ _ _ e;obtain⟨x,G⟩:∃x,u.ef[B.ef[j]]? =some x:=⟨_,gP ah⟩
 have ai:B.fg.length<=700:=by
  rw[g.fg i B c,<-oE];have:=oG g (i:=u.blocks.length) (j:=0) (b:=i) (jj _) (by omega);omega
 have r:x.op=21\/x.op=20->x.args.length<=700:=by
  rintro(K|K)
  ·rw[(g.Ko _ _ _ _ _ e G K c).2];exact ai
  ·rw[g.putAt _ x G K];omega
 obtain⟨l9,o9,_,j1,j2⟩:=(T.since A).nat (gP hj) .i64;obtain⟨l10,ao,w,_,q1,q2,iw,_⟩:=C3.ck.u.val G;refine ed j1 (ed j2 (ed (fX _ _) (ed (eJ _ _ _) (oF (C3.ck.ld 2 rfl) (ed q1 (ed q2 ?_))))));refine iG D rfl rfl (by simp only[mz,eQ,iw.one];rfl) λh4 q s4=>?_;have C4:=C3.cons s4 q;have L:=iw.since s4;have ap:S.next<=h4.next:=s4.next;have aq:h.next<S.next:=(D.ok 0 _ rfl).2.1;refine oF (q.ld 0 rfl rfl) ?_;by_cases M:x.op=21
 ·refine gj (gw (by omega) ?_);refine oF (q.ld 0 rfl rfl) (ed L.len ?_);have ar:=(g.Ko _ _ _ _ _ e G M c).2
  refine DR (λk W X Y Z d l o N aa ab h'=>∃(F':Nat->Prop) (m:Nat),W = .ptr lc 0/\X = .I i/\Y = .ptr h.next 0/\Z = .I B.ef.length/\d=bv/\l = .I B.ef.length/\o = .I j/\N=w/\aa = .I x.args.length/\ab = .I m/\m+k=x.args.length/\
   Sn F3 h4 F' h'/\en F' h' (ev S.next 46 (mz x w)::ev h.next 50 (kr B bv bn bp)::cs)) ?_ (k:=x.args.length) ⟨F3,0,rfl,rfl,rfl,rfl,rfl,rfl,rfl,rfl,rfl,rfl,by omega,Sn.refl _ _,q⟩
  rintro k2 W X Y Z d l o N aa ab h5 ⟨F5,m,rfl,rfl,rfl,rfl,ag,rfl,rfl,au,rfl,rfl,aw,J,R⟩;subst d N;unfold vS;have C5:=C4.since J R;by_cases hm:m<x.args.length;rotate_left
  ·refine iI ?_;refine uo ?_;unfold om;exact fN ⟨k-1,by omega,F5,j+1,rfl,rfl,rfl,rfl,rfl,rfl,rfl,by omega,(A.trans s4).trans J,R.tail⟩
  refine gG ?_;obtain⟨l11,ax,al,m1,m2⟩:=(L.since J).nat (gP hm) .i64;refine ed m1 (ed m2 ?_);have aj:m<B.fg.length:=by omega
  obtain⟨p,hp⟩:∃p,B.fg[m]? =some p:=⟨_,gP aj⟩
  have ac:p<u.blocks.length:=by
   have:=A7 hp;rw[g.fg i B c]at this;exact(g.VF (Gc.1 this)).1
  obtain⟨P,hP⟩:∃P,u.blocks[p]? =some P:=⟨_,gP ac⟩
  rw[nR,hK];obtain⟨U,s6,r6⟩:=R.ZS (E:=eN) (xs:=[x.args[m]]) (n:=1) ey rfl (xU F5 h5 [x.args[m]]) false;have g6:(h5.new (.cells 3 1 true false (hO [x.args[m]]))).get h5.next=some (.cells 3 1 true false (hO [x.args[m]])):=fi _ _;have C6:=C5.since s6 U;obtain⟨l12,ay,_,n1,n2⟩:=(((ip.since A).since s4).since (J.trans s6)).nat hp .i64;obtain⟨l13,aA,pv,pn,pp,_,p1,_,ak,_,_,pa⟩:=C6.ck.u.nW hP;refine oF (U.ld 1 rfl rfl) (ed n1 (ed n2 (ed (fX _ _) (ed (eJ _ _ _) (oF (C6.ck.ld 3 rfl) ?_)))));refine oF (U.ld 1 rfl rfl) (ed n1 (ed n2 (ed p1 (oF pa.ef (ed ak.len ⟨⟨g6,O.gO _ _ _ _ _⟩,?_⟩)))));refine Ih C6 r6 (by simp) ac (λz hz=>?_) ⟨jj _,qi (gw rfl ?_)⟩
  ·obtain rfl:=Jd.1 hz;exact Hs hP (g.NX _ i j x B e G M c m _ p (gP hm) hp)
  ·exact fN ⟨k2-1,by omega,_,m+1,rfl,rfl,rfl,rfl,rfl,rfl,rfl,rfl,rfl,rfl,by omega,J.trans s6,U⟩
 refine gj (gi (by omega) ?_);refine ed (q.wS 0 rfl rfl) ?_;refine Ou q L (λh=>by have:=r h;omega) λF5 h5 v J R r5=>?_;have C5:=C4.since J R;refine Ih C5 r5 (by have:=Ij r;omega) t (λz hz=>TL (g.NU _ i j x e G M z hz)) (ed rfl ?_);refine fG (ed (eJ _ _ _) (fG (ed (R.ld 0 rfl rfl) (wW ?_))));refine J5 (fG (ed rfl ?_));refine VM rfl C5 (by have:=y.next;omega) (R.ld 0 rfl rfl) t (λae=>?_) λh6 s6 U=>?_
 ·have lT:=g.leave _ x G ae;obtain⟨fs,a⟩:∃fs,u.eh[x.state]? =some fs:=⟨_,gP lT⟩
  exact⟨fs,a,V _ _ a,λz hz=>TL (g.Oa _ i j x fs e G ae a z hz)⟩
 ·refine js (gi (by simp) ?_);refine uo ?_;unfold om;exact fN ⟨k-1,by omega,F5,j+1,rfl,rfl,rfl,rfl,rfl,rfl,rfl,by omega,((A.trans s4).trans J).trans s6,U.tail⟩
end
open Un Dm
section
variable{F F':Nat->Prop}{h h':Hp}{cs:List Pc}{Q:fy}{u:U}{vv vb vs:V}
theorem XK(g:Good u)(H0:en F h cs)(hu:A0 F h u vv vb vs)(H:∀F' h',Sn F h F' h'->en F' h' cs->Q (.bool true) h'):cP CS A4 [.agg (uC u vv vb vs)] h Q:=by
 refine Pp rfl rfl ?_;unfold Kf;have nv:=g.nv;have nb:=g.nb;have OC:=g.OC;have ns:=g.ns;refine mH H0 hu.one λy A s1=>?_;have t:=hu.since s1;have l2:ez (.ptr h.next (0+2)) y=some vv:=A.ld 0 rfl rfl;have l3:ez (.ptr h.next (0+3)) y=some vb:=A.ld 0 rfl rfl;have l4:ez (.ptr h.next (0+4)) y=some vs:=A.ld 0 rfl rfl;refine oF l2 (ed t.v.len (ed (nf _ _ _ _) ?_));rw[La (by omega)];have e1:oD (.bool false) (oB (fH 3 (.ptr h.next 0)) λj=>oB (ez j y) λk=>oB (fF k) λl=>eo .gtr 3 l (V.I 300))=some (.bool false):=by
  simp only[mn,eJ,fj,l3,t.b.len,nf];rw[La (by omega)]
 have e2:oD (.bool false) (oB (fH 4 (.ptr h.next 0)) λj=>oB (ez j y) λk=>oB (fF k) λl=>eo .gtr 3 l (V.I 1000))=some (.bool false):=by
  simp only[mn,eJ,fj,l4,t.s.len,nf];rw[La (by omega)]
 have e3:oD (.bool false) (oB (fH 3 (.ptr h.next 0)) λj=>oB (ez j y) λk=>oB (fF k) λl=>eo .eql 3 l (V.I 0))=some (.bool false):=by
  simp only[mn,eJ,fj,l3,t.b.len,gQ];congr 2;rw[MU];omega
 refine ed e1 (ed e2 (ed e3 (js (gi (by simp) ?_))));refine ed (A.wS 0 rfl rfl) (ed (show _=some (V.agg [.I u.func,.I u.pc,vv,vb,vs,.ee,.ee,.ee]) from rfl) ?_);refine mH A (by simp only[eQ,t.v.one,t.b.one,t.s.one];rfl) λK L s2=>?_;have D:=t.since s2;generalize y.next=lc at*;have l4:ez (.ptr h.next (0+4)) K=some vs:=L.ld 1 rfl rfl;refine oF l4 (ed D.s.len ?_);have C2:Ck F K (ev lc 90 [.I u.func,.I u.pc,vv,vb,vs,.ee,.ee,.ee]::ev h.next 30 (uC u vv vb vs)::cs) lc u vv vb vs .ee .ee .ee:=⟨L,⟨0,_,rfl⟩,D⟩
 refine MP (by omega) (λF' h'=>F' = F/\Sn F K F h'/\en F h' (ev lc 90 [.I u.func,.I u.pc,vv,vb,vs,.ee,.ee,.ee]::ev h.next 30 (uC u vv vb vs)::cs)) ⟨rfl,Sn.refl _ _,L⟩ (λi hi F' h' a p q=>?_) λF3 h3 a=>?_
 ·obtain⟨rfl,s',m⟩:=a;show cP CS me [.ptr lc 0,.I i] h' p;have hs:=gP hi;obtain⟨g1,g2,g3⟩:=g.st i _ hs;exact XJ (C2.since s' m) hs ⟨g1,g2⟩ g3 λc d e=>q F' c ⟨rfl,s'.trans d,e⟩
 obtain⟨rfl,M,H3⟩:=a;refine ed rfl (fG (ed rfl (wW ?_)));refine WE g H3 (D.since M) λN O w x xs ys s4 P rb rp std=>?_;refine ed rfl (fG (ed rfl ?_));have R:=(D.since M).since s4;have S:Ck N O (ev lc 90 [.I u.func,.I u.pc,vv,vb,vs,w,x,.ee]::ev h.next 30 (uC u vv vb vs)::cs) lc u vv vb vs w x .ee:=⟨P,⟨0,_,rfl⟩,R⟩
 have l2:ez (.ptr h.next (0+2)) O=some vv:=P.ld 1 rfl rfl;refine fG (ed (eJ _ _ _) (fG (ed l2 (fG (ed R.v.len (fG (ed rfl (fG (ed rfl (wW ?_))))))))));refine MP (F:=N) (by omega) (λF' h'=>Sn N O F' h'/\en F' h' (ev lc 90 [.I u.func,.I u.pc,vv,vb,vs,w,x,.ee]::ev h.next 30 (uC u vv vb vs)::cs)) ⟨Sn.refl _ _,P⟩ (λi hi F' h' a p q=>?_) λF5 h5 a=>?_
 ·obtain⟨s',m⟩:=a;show cP CS j9 [.ptr lc 0,.I i] h' p;exact zbh g (S.since s' m) (rb.since s') std hi (m.ok 0 _ rfl).2.1 λf c d e=>q f c ⟨s'.trans d,e⟩
 obtain⟨E,J⟩:=a;have u5:=R.since E;have l3:ez (.ptr h.next (0+3)) h5=some vb:=J.ld 1 rfl rfl;refine ed rfl (fG (ed rfl (fG (ed (eJ _ _ _) (fG (ed l3 (fG (ed u5.b.len (fG (ed rfl (fG (ed rfl (wW ?_)))))))))))));refine MP (F:=F5) (by omega) (λF' h'=>Sn F5 h5 F' h'/\en F' h' (ev lc 90 [.I u.func,.I u.pc,vv,vb,vs,w,x,.ee]::ev h.next 30 (uC u vv vb vs)::cs)) ⟨Sn.refl _ _,J⟩ (λi hi F' h' a p q=>?_) λF6 h6 a=>?_
 ·obtain⟨s',m⟩:=a;show cP CS mB [.ptr lc 0,.I i] h' p;exact Yw g ((S.since E J).since s' m) (gP hi) λf c d e=>q f c ⟨s'.trans d,e⟩
 obtain⟨T,U⟩:=a;have u6:=u5.since T;have l3:ez (.ptr h.next (0+3)) h6=some vb:=U.ld 1 rfl rfl;refine ed rfl (fG (ed rfl (fG (ed (eJ _ _ _) (fG (ed l3 (fG (ed u6.b.len (fG (ed rfl (fG (ed rfl (wW ?_)))))))))))));refine MP (F:=F6) (by omega) (λF' h'=>Sn F6 h6 F' h'/\en F' h' (ev lc 90 [.I u.func,.I u.pc,vv,vb,vs,w,x,.ee]::ev h.next 30 (uC u vv vb vs)::cs)) ⟨Sn.refl _ _,U⟩ (λi hi F' h' a p q=>?_) λF7 h7 a=>?_
 ·obtain⟨s',m⟩:=a;show cP CS mY [.ptr lc 0,.I i] h' p;exact zbn g (((S.since E J).since T U).since s' m) (gP hi) λf c d e=>q f c ⟨s'.trans d,e⟩
 obtain ⟨s7,H7⟩:=a;have u7:=u6.since s7;refine ed rfl (js (gi (by simp) ?_));refine GJ rfl rfl ?_;unfold yL;have lA:gg 5 (.ptr lc 0) h7=some (.agg (uC u vv vb vs)):=by
  rw[ET (H7.get 0 rfl),Fz (by simp)];rfl
 refine ed (fX _ _) (ed (eJ _ _ _) (ed lA ?_));refine PI g H7 u7 λF8 h8 vo seen post s8 W G ro=>?_;have X:=u7.since s8;have lo:=ro.len;rw[List.length_reverse,Pz g G]at lo;refine ed lo (oF (W.ld 1 rfl rfl) (ed X.b.len (zN (gw rfl ?_))));refine ed (W.wS 1 rfl rfl) ?_;refine M4 g W X λY h9 vd DO I Z aa G' s9 H9 rd d1 d2 d3 d4 d5=>?_;obtain⟨B,ab,ah,r,z⟩:=H9.st 0 (o:=7) (u:=vd) rfl (by simp) rd.one;refine ed (fX _ _) (ed (eJ _ _ _) ?_);rw[show V.ptr lc (0+7)=V.ptr lc 7 from rfl,ab,ei];simp only[lj,iY]at r;have C:=(X.since s9).since z;refine oF (r.ld 1 rfl rfl) (ed C.b.len ?_);have n:=((((E.trans T).trans s7).trans s8).trans s9).trans z
 have ac:Cx Y B (ev lc 90 [.I u.func,.I u.pc,vv,vb,vs,w,x,vd]::ev h.next 30 (uC u vv vb vs)::cs) lc u vv vb vs w x vd xs ys DO I:=
  ⟨⟨r,⟨0,_,rfl⟩,C⟩,rb.since n,rp.since n,rd.since z,std,⟨d1,d2,d3,⟨G'.gr.place,λb hb h0=>d4.up b hb h0⟩,d5⟩⟩
 refine MP (F:=Y) (by omega) (λF' h'=>Sn Y B F' h'/\en F' h' (ev lc 90 [.I u.func,.I u.pc,vv,vb,vs,w,x,vd]::ev h.next 30 (uC u vv vb vs)::cs)) ⟨Sn.refl _ _,r⟩ (λi hi F' h' a p q=>?_) λai aj a=>?_
 ·obtain⟨s',m⟩:=a;show cP CS mc [.ptr lc 0,.I i] h' p;exact Xt g (ac.since s' m) (m.ok 0 _ rfl).2.1 (gP hi) λf c d e=>q f c ⟨s'.trans d,e⟩
 obtain⟨ae,ag⟩:=a;exact H _ _ (((((s1.trans s2).trans M).trans s4).trans n).trans ae) ag.tail.tail
end
