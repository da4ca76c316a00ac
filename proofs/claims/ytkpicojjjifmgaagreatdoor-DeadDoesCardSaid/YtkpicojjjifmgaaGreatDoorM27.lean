/- Parts. -/
import Derived.Test.YtkpicojjjifmgaaGreatDoorM26
namespace Go.Proofs.YtkpicojjjifmgaaGreatDoor.Hx
open Un Dm
structure ZU (G:Dm.Gr) (I:Nat->Nat) (S:Nat->Prop) (b:Nat):Prop where
 low:∀p,S p->G.AJ p b->qp I (I b) p
 zcU:∀x,(∀p,S p->G.AJ p b->qp I x p)->qp I x (I b)
theorem QH(I:Nat->Nat)(b:Nat):Dm.set I b (I b)=I:=by
 funext x;unfold Dm.set;split
 ·rename_i h;rw[h]
 ·rfl
theorem TQ{S:Nat->Prop}{b:Nat}(h:S b):(λx=>S x\/x=b)=S:=by
 funext x;exact propext ⟨λa=>a.elim id λe=>e▸h,.inl⟩
theorem Wv{G:Dm.Gr}{I:Nat->Nat}{S:Nat->Prop}{k n:Nat}(j:Dm.Inv G I S k 1)(l:∀b,G.node b->S b)(g:∀b,G.node b->b≠0->ZU G I S b)(a:∀b,G.node b->G.place b<n)(d:∀p,p<n->∃b,G.node b/\G.place b=p):Dm.Inv G I S (k+1) 1:=by
 have f:∀m,1+m<=n->Dm.Inv G I S k (1+m):=by
  intro m
  induction m with
  |zero=>exact λ_=>j
  | succ m o=>
    intro r;have q:=o (by omega);obtain⟨b,c,hp⟩:=d (1+m) (by omega);have h0:b≠0:=λe=>by subst e;rw[G.DQ]at hp;omega
    have h:=(q.Nn c h0 hp (g b c h0).low (g b c h0).zcU).1;rw[QH,TQ (l b c)]at h;exact h
 have s:1<=n:=by have:=a 0 G.first;omega
 have i:=f (n-1) (by omega);rw[show 1+(n-1)=n by omega]at i;exact i.pass a
theorem RP{G:Dm.Gr}{I:Nat->Nat}{S:Nat->Prop}{k n:Nat}(d:Dm.Inv G I S k 1)(e:∀b,G.node b->S b)(f:∀b,G.node b->b≠0->ZU G I S b)(a:∀b,G.node b->G.place b<n)(c:∀p,p<n->∃b,G.node b/\G.place b=p):∀m,Dm.Inv G I S (k+m) 1
 |0=>d
 |m+1=>Wv (RP d e f a c m) e f a c
section
variable{u:U}{seen:List Bool}{post:List Nat}
theorem QE(g:Good u)(G:IH u.blocks.length (next u) seen post []):∀b,b<u.blocks.length->b∈post:=by
 have a:∀b l,Pt (next u) b l->b∈post:=by
  intro b l hp
  induction hp with
  |nil=>obtain⟨p,hp⟩:=G.last rfl;rw[hp];simp
  | step _ c d=>
    have:=(G.iff _).1 (G.closed _ d _ c);simpa using this
 intro b e;obtain⟨l,f⟩:=g.reach b e;exact a b l f
theorem Qw(g:Good u)(G:IH u.blocks.length (next u) seen post []):post.length=u.blocks.length:=G.all (QE g G)
theorem ZP(G:IH u.blocks.length (next u) seen post []):post.reverse.Nodup:=by
 have:=G.nodup;simp only[Yp,GP]at this;rw[wBY]at this⊢;rw[List.pairwise_reverse];exact this.imp λh e=>h e.symm
theorem Jv(G:IH u.blocks.length (next u) seen post []){i b:Nat}(h:post.reverse[i]? =some b):G.gr.place b=i:=by
 show post.reverse.idxOf b=i;obtain⟨hi,rfl⟩:=jR.1 h;have a:=ZP G;have f:=OZ post.reverse post.reverse[i] (zd hi);obtain⟨d,e⟩:=jR.1 f;rcases wBi (post.reverse.idxOf post.reverse[i]) i with c|c|c
 ·rw[wBY,Zm]at a;exact absurd e (a _ _ d hi c)
 ·exact c
 ·rw[wBY,Zm]at a;exact absurd e.symm (a _ _ hi d c)
end
section
variable{F F':Nat->Prop}{h h':Hp}{cs:List Pc}{Q:fy}{u:U}{vv vb vs:V}
structure Ut (S:Nat->Prop) (I:Nat->Nat) (n:Nat) (Df:List Int):Prop where
 len:Df.length=n
 yes:∀b,S b->Df[b]? =some (I b:Int)
 no:∀b,b<n->¬S b->Df[b]? =some (-1)
theorem zaa{G:Dm.Gr}{I:Nat->Nat}{S:Nat->Prop}{n l5 l6 t5 t6:Nat}{v vp:V}{Df:List Int}{pl:List Nat}(j:eo F h cs){i5 i6 ii ip:Nat}(w:cs[i5]? =some (ez l5 t5 [v]))(y:cs[i6]? =some (ez l6 t6 [vp]))(hi:cs[ii]? =some (eR eZ eJ Df v))(hp:cs[ip]? =some (eR eN eJ pl vp))
  (l:Tree G I S) (z:Ut S I n Df) (p:∀b,G.node b->pl[b]? =some (G.place b)) {a b:Nat} (E:S a) (J:S b)
  (H:∀d,S d->qp I d a->qp I d b->(∀x,qp I x a->qp I x b->qp I x d)->Q (.I (d:Nat)) h):cP CS jC [.I a,.I b,.ptr l6 0,.ptr l5 0] h Q:=by
 refine Ib rfl rfl ?_;unfold AA
 refine EI (λk A B C D h'=>∃c f:Nat,A = .I (c:Nat)/\B = .I (f:Nat)/\C = .ptr l6 0/\D = .ptr l5 0/\h' = h/\k=G.place c+G.place f/\S c/\S f/\qp I c a/\qp I f b/\(∀x,qp I x a->qp I x b->qp I x c/\qp I x f)) ?_ (k:=G.place a+G.place b)
  ⟨a,b,rfl,rfl,rfl,rfl,rfl,rfl,E,J,.refl _,.refl _,λx g i=>⟨g,i⟩⟩
 rintro k A B C D h' ⟨c,f,rfl,rfl,rfl,rfl,rfl,R,sa,sb,q,r,o⟩;unfold xy;by_cases e:c=f
 ·subst e;refine xe (gv rfl ?_);exact H c sa q r λx g i=>(o x g i).1
 refine xe (gg (by omega) ?_);obtain⟨T,op,p1,p2⟩:=j.K7 ip hp (p c (l.node _ sa)) .i64;obtain⟨U,oq,K,L⟩:=j.K7 ip hp (p f (l.node _ sb)) .i64;refine ee (j.ld i6 y rfl) (ee p1 (ee p2 (ee (j.ld i6 y rfl) (ee K (ee L ?_)))));by_cases Nr:G.place f<G.place c
 ·refine El (gv (by omega) ?_);obtain⟨M,N,s,t⟩:=j.SJ ii hi (z.yes c sa) .i64;refine ee (j.ld i5 w rfl) (ee s (ee t ?_));have h0:c≠0:=λe=>by subst e;rw[G.DQ]at Nr;omega
  obtain⟨u,O⟩:=l.up c sa h0;exact⟨_,by omega,I c,f,rfl,rfl,rfl,rfl,rfl,rfl,u,sb,(qp.up h0 (.refl _)).trans q,r,λx g i=>⟨l.zaz sa sb Nr (o x g i).1 (o x g i).2,(o x g i).2⟩⟩
 ·refine El (gg (by omega) ?_);obtain⟨M,N,s,t⟩:=j.SJ ii hi (z.yes f sb) .i64;refine ee (j.ld i5 w rfl) (ee s (ee t ?_));have m:G.place c<G.place f:=by
   have:G.place c≠G.place f:=λP=>e (G.inj _ _ (l.node _ sa) (l.node _ sb) P);omega
  have h0:f≠0:=λe=>by subst e;rw[G.DQ]at m;omega
  obtain⟨u,O⟩:=l.up f sb h0;exact⟨_,by omega,c,I f,rfl,rfl,rfl,rfl,rfl,rfl,sa,u,q,(qp.up h0 (.refl _)).trans r,λx g i=>⟨(o x g i).1,l.zaz sb sa m (o x g i).2 (o x g i).1⟩⟩
theorem NK(g:Good u)(H0:eo F h cs)(hu:ym F h u vv vb vs)
  (H:∀F' h' v Df I seen post (G:IH u.blocks.length (next u) seen post []),Sn F h F' h'->eo F' h' cs->iq eZ F' h' Df v->Df.length=u.blocks.length->Df[0]? =some (-1)->(∀b,b≠0->b<u.blocks.length->Df[b]? =some (I b:Int))->Tree G.gr I (λb=>b<u.blocks.length)->
   (∀x b,b<u.blocks.length->(qp I x b↔vO (next u) x b))->Q v h'):cP CS rl [.agg (uC u vv vb vs)] h Q:=by
 refine Ka rfl rfl ?_;unfold CL;have nb:=g.nb;have OV:=g.OV;refine jS H0 hu.one λr H1 s1=>?_;have lA:=H1.rh (n:=5) 0 rfl rfl;refine ee lA (ee lA ?_);refine QJ g H1 (hu.since s1) λF2 h2 vo seen post s2 H2 G r2=>⟨s2.next,H2.rh 0 rfl rfl,?_⟩
 refine Qn g H2 (hu.since (s1.trans s2)) λF3 K va s3 H3 r3=>⟨s3.next,?_⟩
 have u3:=hu.since ((s1.trans s2).trans s3);have r2:=r2.since s3;refine oF (H3.ld 0 rfl rfl) (ee u3.b.len ?_);rw[ka (z:=V.I 0) rfl (by decide) (by omega),hV];obtain⟨H4,s4⟩:=H3.make (E:=eZ) (ty:=eJ) (y:=0) (u:=V.I 0) u.blocks.length rfl rfl;have n4:(K.new (.cells eJ 1 true false (List.replicate u.blocks.length (V.I 0)))).next=K.next+1:=rfl;have g4:(K.new (.cells eJ 1 true false (List.replicate u.blocks.length (V.I 0)))).get K.next=some (.cells 3 1 true false (List.replicate u.blocks.length (V.I 0))):=fj _ _;show oP (fI 3 (.ptr h.next 0)) _;generalize bz:K.new (.cells eJ 1 true false (List.replicate u.blocks.length (V.I 0)))=U at*;refine oF (H4.ld 1 rfl rfl) (ee (u3.since s4).b.len ?_);rw[ka (z:=V.I 0) rfl (by decide) (by omega),hV];obtain⟨H5,s5⟩:=H4.make (E:=eN) (ty:=eJ) (y:=0) (u:=V.I 0) u.blocks.length rfl rfl;have n5:(U.new (.cells eJ 1 true false (List.replicate u.blocks.length (V.I 0)))).next=U.next+1:=rfl;have g5:(U.new (.cells eJ 1 true false (List.replicate u.blocks.length (V.I 0)))).get U.next=some (.cells 3 1 true false (List.replicate u.blocks.length (V.I 0))):=fj _ _;have aM:=(fo (h:=U) (.cells eJ 1 true false (List.replicate u.blocks.length (V.I 0))) (l:=K.next) (by omega)).trans g4;generalize bA:U.new (.cells eJ 1 true false (List.replicate u.blocks.length (V.I 0)))=h5 at*;rw[hV];obtain⟨H6,s6⟩:=H5.zI jb [V.ef];have n6:(h5.new (.cells jb 1 true false [V.ef])).next=h5.next+1:=rfl;have g6:(h5.new (.cells jb 1 true false [V.ef])).get h5.next=some (.cells 22 1 true false [V.ef]):=fj _ _;have aN:=(fo (h:=h5) (.cells jb 1 true false [V.ef]) (l:=U.next) (by omega)).trans g5;have aO:=(fo (h:=h5) (.cells jb 1 true false [V.ef]) (l:=K.next) (by omega)).trans aM;show xE _ (h5.new (.cells jb 1 true false [V.ef])) _;generalize bC:h5.new (.cells jb 1 true false [V.ef])=h6 at*;rw[hV];obtain⟨H7,s7⟩:=H6.zI jb [V.ef];have n7:(h6.new (.cells jb 1 true false [V.ef])).next=h6.next+1:=rfl;have g7:(h6.new (.cells jb 1 true false [V.ef])).get h6.next=some (.cells 22 1 true false [V.ef]):=fj _ _;have aP:=(fo (h:=h6) (.cells jb 1 true false [V.ef]) (l:=h5.next) (by omega)).trans g6;have ar:=(fo (h:=h6) (.cells jb 1 true false [V.ef]) (l:=U.next) (by omega)).trans aN;have aQ:=(fo (h:=h6) (.cells jb 1 true false [V.ef]) (l:=K.next) (by omega)).trans aO;show(((h6.new (.cells jb 1 true false [V.ef])).get h6.next=_/\_)/\_);generalize bD:h6.new (.cells jb 1 true false [V.ef])=h7 at*;refine⟨⟨g7,O.iK _ _ _ _ _⟩,⟨aP,O.iK _ _ _ _ _⟩,⟨ar,O.iK _ _ _ _ _⟩,H7.ld 4 rfl rfl,⟨aQ,O.iK _ _ _ _ _⟩,H7.ld 4 rfl rfl,?_⟩;obtain⟨h8,e8,n8,H8,s8,k8⟩:=H7.stk 1 (o:=0) (u:= .slice K.next 0 u.blocks.length) rfl (by simp) rfl;rw[e8,ei];refine⟨n8,⟨(k8 _ (by omega)).trans ar,O.iK _ _ _ _ _⟩,(by simp only[l0,jo]at H8;exact H8.ld 4 rfl rfl),?_⟩;simp only[l0,jo]at H8;obtain⟨h9,e9,n9,H9,s9⟩:=H8.st 0 (o:=0) (u:= .slice U.next 0 u.blocks.length) rfl (by simp) rfl;rw[e9,ei];refine⟨n9,?_⟩;simp only[jo]at H9;have au:=((((s4.trans s5).trans s6).trans s7).trans s8).trans s9;have bE:=((s1.trans s2).trans s3).trans au;have r2:=r2.since au;have r3:=r3.since au;clear g4 g5 g6 g7 aM aO aQ aN ar aP k8 e8 e9 bz bA bC bD H1 H2 H3 H4 H5 H6 H7 H8 s1 s2 s3 s4 s5 s6 s7 s8 s9 lA u3;generalize V.slice K.next 0 u.blocks.length=vi at*;generalize V.slice U.next 0 u.blocks.length=vp at*;generalize h6.next=l6 at*;generalize h5.next=l5 at*;generalize h.next=lb at*;have aR:=H9.len 3 (xs:=List.replicate u.blocks.length (0:Int)) rfl;rw[PV]at aR;refine ee (H9.ld 1 rfl rfl) (ee aR ?_);have bG:=Qw g G;have aa:post.reverse.length=u.blocks.length:=by simpa using bG
 refine G1 (λk A B W x6 aS aT h'=>∃(i:Nat) (xs:List Int),A=vo/\B=va/\W = .ptr l5 0/\x6 = .ptr l6 0/\aS = .I u.blocks.length/\aT = .I i/\i+k=u.blocks.length/\xs.length=u.blocks.length/\(∀j,j<i->xs[j]? =some (-1))/\
  Sn F3 h9 F3 h'/\eo F3 h' (ez l6 jb [vp]::ez l5 jb [vi]::eR eN eJ (List.replicate u.blocks.length 0) vp::eR eZ eJ xs vi::ez lb 30 (uC u vv vb vs)::cs)) ?_ (k:=u.blocks.length)
  ⟨0,_,rfl,rfl,rfl,rfl,rfl,rfl,by omega,by simp,λj hj=>by omega,Sn.refl _ _,H9⟩
 rintro k A B W x6 aS aT ce ⟨i,xs,e3,e4,rfl,rfl,rfl,rfl,hk,aU,hm,aw,ax⟩;subst A B;unfold zl;by_cases hi:i<u.blocks.length
 ·refine gB ?_;obtain⟨l11,cf,cg,bH,bI,ci,aV,bJ⟩:=ax.IG 3 rfl (k:=i) (y:=(-1:Int)) (u:=V.I (-1)) (by omega) rfl rfl rfl;refine ee (ax.ld 1 rfl rfl) (ee bH ?_);rw[bI,ei];simp only[l0,jo]at aV;refine fM ⟨k-1,by omega,i+1,xs.set i (-1),rfl,rfl,rfl,rfl,rfl,rfl,by omega,by simp[aU],λj hj=>?_,aw.trans bJ,aV⟩;by_cases e:j=i
  ·subst e;rw[Hf (by omega)]
  ·rw[ES λh=>e h.symm];exact hm j (by omega)
 refine iJ ?_;obtain rfl:i=u.blocks.length:=by omega
 have lo:=(r2.since aw).len;rw[aa]at lo;refine ee lo ?_
 refine G3 (λk A B W x6 ay aW aX h'=>∃(i:Nat) (pl:List Nat),A=vo/\B=va/\W = .ptr l5 0/\x6 = .ptr l6 0/\ay=vo/\aW = .I u.blocks.length/\aX = .I i/\i+k=u.blocks.length/\pl.length=u.blocks.length/\(∀j b,j<i->post.reverse[j]? =some b->pl[b]? =some j)/\
  Sn F3 h9 F3 h'/\eo F3 h' (ez l6 jb [vp]::ez l5 jb [vi]::eR eN eJ pl vp::eR eZ eJ xs vi::ez lb 30 (uC u vv vb vs)::cs)) ?_ (k:=u.blocks.length)
  ⟨0,_,rfl,rfl,rfl,rfl,rfl,rfl,rfl,by omega,by simp,λj b hj=>by omega,aw,ax⟩
 rintro k1 A B W x6 ay aW aX cj ⟨i,pl,e3,e4,rfl,rfl,cl,rfl,rfl,cm,aY,aZ,al,am⟩;subst A B ay;unfold zx;by_cases hi:i<u.blocks.length
 ·refine gB ?_;obtain⟨b,f⟩:∃b,post.reverse[i]? =some b:=⟨_,hO (by omega)⟩
  have ab:b<u.blocks.length:=G.pre b (wBP.1 (Ik f));obtain⟨l13,cn,_,j1,j2⟩:=(r2.since al).nat f .i64;obtain⟨l14,co,cp,bK,aA,cq,a5,bL⟩:=am.IG 2 rfl (k:=b) (y:=i) (u:=V.I i) (by omega) rfl rfl rfl;refine ee j1 (ee j2 (ee (am.ld 0 rfl rfl) (ee bK ?_)));rw[aA,ei];simp only[l0,jo]at a5;refine fM ⟨k1-1,by omega,i+1,pl.set b i,rfl,rfl,rfl,rfl,rfl,rfl,rfl,by omega,by simp[aY],λj c hj hc=>?_,al.trans bL,a5⟩;by_cases e:c=b
  ·subst e;have r:=Jv G f;have h2:=Jv G hc;obtain rfl:i=j:=by omega
   rw[Hf (by omega)]
  ·rw [ES λh=>e h.symm];refine aZ j c ?_ hc;rcases P9 j i with r|r
   ·exact r
   ·obtain rfl:j=i:=by omega
    rw[f]at hc;exact absurd (Option.some.inj hc).symm e
 refine iJ ?_;obtain rfl:i=u.blocks.length:=by omega
 have an:∀b,G.gr.node b->pl[b]? =some (G.gr.place b):=λb f=>by
  have r:=OZ post.reverse b (wBP.2 f);exact aZ (post.reverse.idxOf b) b (by have:=(jR.1 r).1;omega) r
 have lo:=(r2.since al).len;rw[aa]at lo;refine ee lo (gi (gg (by omega) ?_));obtain⟨cr,ct,cu,aA,bQ,cv,a6,bR⟩:=am.IG 3 rfl (k:=0) (y:=(0:Int)) (u:=V.I 0) (by omega) rfl rfl rfl;refine ee (am.ld 1 rfl rfl) (ee aA ?_);rw[bQ,ei];simp only[l0,jo]at a6;have bS:Ut (λx=>x=0) (λ_=>0) u.blocks.length (xs.set 0 0):=⟨by simp[aU],λb f=>by rw[f,Hf (by omega)];rfl,λb f hn=>by rw[ES λh=>hn h.symm];exact hm b f⟩
 have q:∀b,G.gr.node b↔b<u.blocks.length:=λb=>⟨λf=>G.pre b f,λf=>QE g G b f⟩
 have X:∀b,G.gr.node b->G.gr.place b<u.blocks.length:=λb f=>by
  have r:=OZ post.reverse b (wBP.2 f);have:=(jR.1 r).1;show post.reverse.idxOf b<_;omega
 have a7:∀p,p<u.blocks.length->∃b,G.gr.node b/\G.gr.place b=p:=λp hp=>by
  obtain⟨b,f⟩:∃b,post.reverse[p]? =some b:=⟨_,hO (by omega)⟩
  exact⟨b,wBP.1 (Ik f),Jv G f⟩
 refine GV (λk A B W D J h'=>∃(c:Bool) (kk:Nat) (I:Nat->Nat) (S:Nat->Prop) (Df:List Int),A=vo/\B=va/\W = .ptr l5 0/\D = .func jC [] [.ptr l6 0,.ptr l5 0]/\J = .bool c/\k+kk=u.blocks.length+2/\(c=true->kk<=u.blocks.length+1)/\
  (c=false->(∀b,G.gr.node b->S b)/\∀b,G.gr.node b->b≠0->ZU G.gr I S b)/\Dm.Inv G.gr I S kk 1/\Ut S I u.blocks.length Df/\
  Sn F3 h9 F3 h'/\eo F3 h' (ez l6 jb [vp]::ez l5 jb [vi]::eR eN eJ pl vp::eR eZ eJ Df vi::ez lb 30 (uC u vv vb vs)::cs)) ?_ (k:=u.blocks.length+1)
  ⟨true,1,λ_=>0,λx=>x=0,_,rfl,rfl,rfl,rfl,rfl,by omega,λ_=>by omega,λh=>(by cases h),Dm.Inv.start,bS,al.trans bR,a6⟩
 rintro k2 A B W D J cw ⟨c,kk,I,S,Df,e3,e4,rfl,rfl,rfl,cx,bU,bV,hI,hR,ao,aB⟩;subst A B;unfold zg
 cases c with
 | false=>
   refine jd (gg (by simp) ?_);obtain⟨hS,hF⟩:=bV rfl;have a8:=RP hI hS hF X a7 (u.blocks.length+1);obtain⟨l17,cy,aC,bW,bX,cz,s,L⟩:=aB.IG 3 rfl (k:=0) (y:=(-1:Int)) (u:=V.I (-1)) (by rw[hR.len];omega) rfl rfl rfl;refine ee (aB.ld 1 rfl rfl) (ee bW ?_);rw[bX,ei];simp only[l0,jo]at s;refine ee (s.ld 1 rfl rfl) ?_;obtain⟨a9,bY,bZ⟩:=s.ma 3 rfl;simp only[l0,jo]at a9;refine H _ _ vi (Df.set 0 (-1)) I seen post G (((bE.trans ao).trans L).trans bY) a9.tail.tail.tail.tail.tail bZ (by simp[hR.len]) (by rw[Hf (by rw[hR.len];omega)]) (λb h0 f=>?_) ⟨by omega,λb f=>(q b).2 f,λb f h0=>?_⟩ λx b f=>?_
   ·rw[ES λh=>h0 h.symm]
    exact hR.yes b (hS b ((q b).2 f))
   ·obtain⟨r,h2⟩:=hI.tree.up b (hS b ((q b).2 f)) h0
    exact⟨(q _).1 (hI.tree.node _ r),h2⟩
   ·rw[a8.exact (λb f=>(q b).1 f) (by omega) (hS b ((q b).2 f))]
    exact(WV λa b=>Iff.rfl).symm
 | true =>
   refine jd (gv rfl ?_);have cA:=bU rfl;obtain⟨aD,b4,aE⟩:=(r2.since ao).cut (lo:=some (V.I ((1:Nat):Int))) (hi:=none) (m:=1) (n:=post.reverse.length) (GG _ _ _) (FU _) (by omega) (jK _);rw[JF]at aE;refine ee b4 (ee aE.len ?_);have ba:(post.reverse.drop 1).length=u.blocks.length-1:=by rw[wBr,aa]
   rw[ba]
   refine G4 (λk A B W D J M ac ae h'=>∃(i:Nat) (c:Bool) (I:Nat->Nat) (S:Nat->Prop) (Df:List Int),A=vo/\B=va/\W = .ptr l5 0/\D = .func jC [] [.ptr l6 0,.ptr l5 0]/\J = .bool c/\M=aD/\ac = .I ((u.blocks.length-1:Nat):Int)/\ae = .I (i:Nat)/\i+k=u.blocks.length-1/\
     (c=true->kk<=u.blocks.length)/\(c=false->∀b,G.gr.node b->G.gr.place b<i+1->S b/\(b≠0->ZU G.gr I S b))/\Dm.Inv G.gr I S kk (i+1)/\Ut S I u.blocks.length Df/\
     Sn F3 h9 F3 h'/\eo F3 h' (ez l6 jb [vp]::ez l5 jb [vi]::eR eN eJ pl vp::eR eZ eJ Df vi::ez lb 30 (uC u vv vb vs)::cs)) ?_ (k:=u.blocks.length-1)
     ⟨0,false,I,S,Df,rfl,rfl,rfl,rfl,rfl,rfl,rfl,rfl,by omega,λh=>(by cases h),λ_ b f b5=>by
       obtain rfl:b=0:=G.gr.inj b 0 f G.gr.first (by have:=G.gr.DQ;omega);exact⟨hI.tree.zero,λh=>absurd rfl h⟩,hI,hR,ao,aB⟩
   rintro k3 A B W D J M ac ae aC ⟨i,c,Y,S1,Z,e3,e4,rfl,rfl,rfl,bb,rfl,rfl,cB,bc,aF,ag,t,L,s⟩;subst A B M;unfold zw;by_cases hi:i<u.blocks.length-1;rotate_left
   ·refine iJ ?_
    obtain rfl:i=u.blocks.length-1:=by omega
    have hp:=ag.pass λb f=>by have:=X b f;omega
    refine⟨k2-1,by omega,c,kk+1,Y,S1,Z,rfl,rfl,rfl,rfl,rfl,by omega,λh=>by have:=bc h;omega,λh=>?_,hp,t,L,s⟩;exact⟨λb f=>(aF h b f (by have:=X b f;omega)).1,λb f h0=>(aF h b f (by have:=X b f;omega)).2 h0⟩
   refine gB ?_;obtain⟨b,f⟩:∃b,post.reverse[i+1]? =some b:=⟨_,hO (by omega)⟩
   have ah:G.gr.node b:=wBP.1 (Ik f);have ab:=(q b).1 ah;have aG:G.gr.place b=i+1:=Jv G f;have aH:b≠0:=λe=>by subst e;rw[G.gr.DQ]at aG;omega
   have bd:iq eN F3 aC (post.reverse.drop 1) aD:=aE.fm λl hl=>(L.fm l hl).trans (ao.fm l hl).symm;obtain⟨l18,cC,_,j1,j2⟩:=bd.nat (i:=i) (x:=b) (by rw[wBN,Nat.add_comm];exact f) .i64;obtain⟨cD,cE,b6,_,m1,m2,m3⟩:=(r3.since L).list (i:=b) (x:=Un.ahead u b) (by simp[ab]) .i64;refine ee j1 (ee j2 (ee m1 (ee m2 (ee m3.len ?_))));have N:∀p,G.gr.AJ p b↔p∈Un.ahead u b:=λp=>Gj.symm;have cF:(Un.ahead u b).length<=700:=by
     rw[<-pt];have:=pq g (i:=u.blocks.length) (j:=0) (b:=b) (jK _) (by omega);omega
   refine GU (λk A B W D J be bf M ac ae aI bg bh h'=>∃(j:Nat) (dd:Int),A=vo/\B=va/\W = .ptr l5 0/\D = .func jC [] [.ptr l6 0,.ptr l5 0]/\J = .bool c/\be = .I (b:Nat)/\bf = .I dd/\M=aD/\ac = .I ((u.blocks.length-1:Nat):Int)/\ae = .I (i:Nat)/\
     aI=b6/\bg = .I ((Un.ahead u b).length:Nat)/\bh = .I (j:Nat)/\j+k=(Un.ahead u b).length/\h' = aC/\
     ((dd = -1/\∀p∈(Un.ahead u b).take j,¬S1 p)\/∃d:Nat,dd=(d:Int)/\S1 d/\(∀p∈(Un.ahead u b).take j,S1 p->qp Y d p)/\∀x,(∀p∈(Un.ahead u b).take j,S1 p->qp Y x p)->qp Y x d)) ?_ (k:=(Un.ahead u b).length)
     ⟨0,-1,rfl,rfl,rfl,rfl,rfl,rfl,rfl,rfl,rfl,rfl,rfl,rfl,rfl,by omega,rfl,.inl ⟨rfl,λp hp=>by simp at hp⟩⟩
   rintro k4 A B W D J be bf M ac ae aI bg bh b7 ⟨j,dd,e3,e4,rfl,rfl,rfl,rfl,rfl,bb,rfl,rfl,cG,rfl,rfl,cH,rfl,R⟩;subst A B M aI;unfold zs;by_cases hj:j<(Un.ahead u b).length
   ·refine gB ?_
    obtain⟨a,ha⟩:∃a,(Un.ahead u b)[j]? =some a:=⟨_,hO hj⟩
    have bi:a<u.blocks.length:=by
      have:=Gj.1 (Ik ha);exact(g.W8 this).1
    have b8:(Un.ahead u b).take (j+1)=(Un.ahead u b).take j++[a]:=by
      obtain⟨r,rfl⟩:=jR.1 ha;exact NG r
    obtain⟨cI,cJ,_,q1,q2⟩:=m3.nat ha .i64;refine ee q1 (ee q2 (ee (s.ld 1 rfl rfl) ?_));have w:∀p,p∈(Un.ahead u b).take (j+1)↔p∈(Un.ahead u b).take j\/p=a:=λp=>by rw[b8];simp
    by_cases hS:S1 a;rotate_left
    ·obtain⟨aJ,aK,t1,t2⟩:=s.SJ 3 rfl (t.no a bi hS) .i64
     refine ee t1 (ee t2 (gB ?_));refine qT ?_;unfold nU;refine j8 (m:=1) (by omega) (by omega) ⟨k4-1,by omega,j+1,dd,rfl,rfl,rfl,rfl,rfl,rfl,rfl,rfl,rfl,rfl,rfl,rfl,rfl,by omega,rfl,?_⟩;have bj:∀{P:Nat->Prop},(∀p∈(Un.ahead u b).take (j+1),S1 p->P p)↔(∀p∈(Un.ahead u b).take j,S1 p->P p):=λ{P}=>⟨λh p hp=>h p ((w p).2 (.inl hp)),λh p hp hs=>((w p).1 hp).elim (λr=>h p r hs) λe=>absurd (e▸hs) hS⟩
     rcases R with⟨rfl,r⟩|⟨d,rfl,r,h2,K⟩
     ·exact .inl ⟨rfl,λp hp=>((w p).1 hp).elim (r p) λe=>e▸hS⟩
     ·exact .inr ⟨d,rfl,r,bj.2 h2,λx hx=>K x (bj.1 hx)⟩
    obtain⟨aJ,aK,t1,t2⟩:=s.SJ 3 rfl (t.yes a hS) .i64;refine ee t1 (ee t2 (iJ ?_));rcases R with⟨rfl,r⟩|⟨d,rfl,r,h2,K⟩
    ·refine gB ?_
     refine qT ?_;unfold nU;refine j8 (m:=1) (by omega) (by omega) ⟨k4-1,by omega,j+1,(a:Int),rfl,rfl,rfl,rfl,rfl,rfl,rfl,rfl,rfl,rfl,rfl,rfl,rfl,by omega,rfl,?_⟩;refine .inr ⟨a,rfl,hS,λp hp hs=>?_,λx hx=>hx a ((w a).2 (.inr rfl)) hS⟩;rcases(w p).1 hp with U|rfl
     ·exact absurd hs (r p U)
     ·exact .refl _
    ·refine iJ ?_
     show cP CS jC [.I (d:Nat),.I (a:Nat),.ptr l6 0,.ptr l5 0] b7 _;refine zaa s (i5:=1) (i6:=0) (ii:=3) (ip:=2) rfl rfl rfl rfl ag.tree t an r hS λd' g1 g2 g3 g4=>?_;refine qT ?_;unfold nU;refine j8 (m:=1) (by omega) (by omega) ⟨k4-1,by omega,j+1,(d':Int),rfl,rfl,rfl,rfl,rfl,rfl,rfl,rfl,rfl,rfl,rfl,rfl,rfl,by omega,rfl,?_⟩;refine .inr ⟨d',rfl,g1,λp hp hs=>?_,λx hx=>g4 x (K x λp hp hs=>hx p ((w p).2 (.inl hp)) hs) (hx a ((w a).2 (.inr rfl)) hS)⟩;rcases(w p).1 hp with U|rfl
     ·exact g2.trans (h2 p U hs)
     ·exact g3
   refine iJ ?_;rw[Yq (by omega)]at R;obtain⟨p0,bm,bo,cd⟩:=G.gr.early b ah aH;have br:S1 p0:=ag.done p0 bm (by omega);obtain⟨d,rfl,cK,aL,ai⟩:∃d:Nat,dd=(d:Int)/\S1 d/\(∀p∈Un.ahead u b,S1 p->qp Y d p)/\∀x,(∀p∈Un.ahead u b,S1 p->qp Y x p)->qp Y x d:=by
     rcases R with⟨_,r⟩|r
     ·exact absurd br (r p0 ((N p0).1 bo))
     ·exact r
   have aj:∀p,S1 p->G.gr.AJ p b->qp Y d p:=λp hs he=>aL p ((N p).1 he) hs;have C:∀x,(∀p,S1 p->G.gr.AJ p b->qp Y x p)->qp Y x d:=λx hx=>ai x λp hp hs=>hx p hs ((N p).2 hp);have bt:i<1000000000:=by clear R;omega
   have ap:k3-1<k3:=by clear R;omega
   have aq:i+1+(k3-1)=u.blocks.length-1:=by clear R;omega
   have ak:=(ag.Nn ah aH aG aj C).1;refine ee (s.ld 1 rfl rfl) ?_;by_cases hsame:S1 b/\Y b=d
   ·obtain ⟨T,rfl⟩:=hsame
    obtain⟨aJ,aK,t1,t2⟩:=s.SJ 3 rfl (t.yes b T) .i64;refine ee t1 (ee t2 (xe (gv rfl ?_)));refine yM ?_;unfold qD;rw[QH,TQ T]at ak;refine j8 (m:=1) bt (by decide) ⟨k3-1,ap,i+1,c,Y,S1,Z,rfl,rfl,rfl,rfl,rfl,rfl,rfl,rfl,aq,bc,λhc b' bu b5=>?_,ak,t,L,s⟩;rcases P9 (G.gr.place b') (i+1)with r|r
    ·exact aF hc b' bu r
    ·obtain rfl:b' = b:=G.gr.inj _ _ bu ah (by omega)
     exact⟨T,λ_=>⟨aj,C⟩⟩
   ·obtain ⟨y,hy,bw⟩:∃y:Int,Z[b]? =some y/\y≠(d:Int):=by
      by_cases T:S1 b
      ·refine⟨(Y b:Int),t.yes b T,λe=>hsame ⟨T,?_⟩⟩
       exact Int.ofNat.inj e
      ·refine⟨-1,t.no b ab T,?_⟩
       omega
    obtain⟨aJ,aK,t1,t2⟩:=s.SJ 3 rfl hy .i64;refine ee t1 (ee t2 (xe (gg bw ?_)));obtain⟨cL,cM,cN,b9,ca,cO,bx,cb⟩:=s.IG 3 rfl (k:=b) (y:=(d:Int)) (u:=V.I (d:Nat)) (by rw[t.len];exact ab) rfl rfl rfl;refine ee (s.ld 1 rfl rfl) (ee b9 ?_);rw[ca,ei];simp only[l0,jo]at bx;refine yM ?_;unfold qD;refine j8 (m:=1) bt (by decide) ⟨k3-1,ap,i+1,true,Dm.set Y b d,λx=>S1 x\/x=b,Z.set b (d:Int),rfl,rfl,rfl,rfl,rfl,rfl,rfl,rfl,aq,λ_=>?_,λh=>(by cases h),ak,⟨by simp[t.len],λx hx=>?_,λx hx hn=>?_⟩,L.trans cb,bx⟩
    ·rcases P9 u.blocks.length kk with r|r
     ·exfalso
      obtain⟨h2,K⟩:=ag.stay (n:=u.blocks.length) (λb f=>(q b).1 f) r ah aH aG aj C;exact hsame ⟨h2,K.symm⟩
     ·exact r
    ·unfold Dm.set
     by_cases e:x=b
     ·subst e
      rw[Hf (by rw[t.len];exact ab),if_pos rfl]
     ·rw[ES λh=>e h.symm,if_neg e]
      exact t.yes x (hx.resolve_right e)
    ·have e:x≠b:=λe=>hn (.inr e)
     rw[ES λh=>e h.symm];exact t.no x hx λh=>hn (.inl h)
end
open Un Dm
structure zef (u:U) (Df:List Int) (I:Nat->Nat):Prop where
 len:Df.length=u.blocks.length
 zero:Df[0]? =some (-1)
 at_:∀b,b≠0->b<u.blocks.length->Df[b]? =some (I b:Int)
 zd3:∃r:Nat->Nat,∀b,b<u.blocks.length->b≠0->I b<u.blocks.length/\r (I b)<r b
 iff:∀x b,b<u.blocks.length->(qp I x b↔vO (next u) x b)
section
variable{F F':Nat->Prop}{h h':Hp}{cs:List Pc}{Q:fy}{u:U}{vv vb vs:V}{lc:Nat}{bl pl Fc:V}{xs ys Df:List Int}{I:Nat->Nat}
structure Cx (F:Nat->Prop) (h:Hp) (cs:List Pc) (lc:Nat) (u:U) (vv vb vs bl pl Fc:V) (xs ys Df:List Int) (I:Nat->Nat):Prop where
 ck:Ck F h cs lc u vv vb vs bl pl Fc
 rbl:iq eZ F h xs bl
 rpl:iq eZ F h ys pl
 rim:iq eZ F h Df Fc
 std:Std u u.blocks.length 0 xs ys
 RV:zef u Df I
theorem Cx.since(C:Cx F h cs lc u vv vb vs bl pl Fc xs ys Df I)(s:Sn F h F' h')(a:eo F' h' cs):Cx F' h' cs lc u vv vb vs bl pl Fc xs ys Df I:=⟨C.ck.since s a,C.rbl.since s,C.rpl.since s,C.rim.since s,C.std,C.RV⟩
theorem Cx.cons(C:Cx F h cs lc u vv vb vs bl pl Fc xs ys Df I)(s:Sn F h F' h'){p:Pc}(a:eo F' h' (p::cs)):Cx F' h' (p::cs) lc u vv vb vs bl pl Fc xs ys Df I:=⟨C.ck.cons s a,C.rbl.since s,C.rpl.since s,C.rim.since s,C.std,C.RV⟩
theorem O2(C:Cx F h cs lc u vv vb vs bl pl Fc xs ys Df I){a b:Nat}(m:b<u.blocks.length)(n:qp I a b)(H:Q (.bool true) h):cP CS mh [.ptr lc 0,.I a,.I b] h Q:=by
 refine Cp rfl rfl ?_;unfold vt;obtain⟨r,p⟩:=C.RV.zd3;refine Ah (λk g i j h'=>∃c:Nat,g = .ptr lc 0/\i = .I a/\j = .I (c:Nat)/\k=r c/\c<u.blocks.length/\qp I a c/\h' = h) ?_ (k:=r b) ⟨b,rfl,rfl,rfl,rfl,m,n,rfl⟩;rintro k g i j h' ⟨c,rfl,rfl,rfl,v,d,f,rfl⟩;unfold qL;refine UI (gv (by omega) ?_);by_cases e:a=c
 ·exact gi (gv (by omega) H)
 refine gi (gg (by omega) ?_)
 cases f with
 |refl=>exact absurd rfl e
 | up h0 q=>
   obtain⟨l,o,_,s,t⟩:=C.rim.int (C.RV.at_ c h0 d) .i64;obtain⟨r1,w⟩:=p c d h0;exact oN (C.ck.ld 7 rfl) (ee s (ee t ⟨r (I c),by omega,I c,rfl,rfl,rfl,rfl,r1,q,rfl⟩))
theorem Jx(C:Cx F h cs lc u vv vb vs bl pl Fc xs ys Df I){l:List Nat}{v:V}{b p:Nat}(D:iq eN F h l v)(X:l.length<1000000)(E:b<u.blocks.length)(hs:∀w∈l,∃c j,At u w c j/\(c=b->j<p)/\vO (next u) c b)(H:Q (.bool true) h) :
  cP CS jI [.ptr lc 0,v,.I b,.I p] h Q:=by
 refine Il rfl rfl ?_;unfold Ae;refine ee D.len ?_;refine EL (λk G J K a d f h'=>∃i:Nat,G = .ptr lc 0/\J = .I b/\K = .I p/\a=v/\d = .I l.length/\f = .I (i:Nat)/\i+k=l.length/\h' = h) ?_ (k:=l.length) ⟨0,rfl,rfl,rfl,rfl,rfl,rfl,by omega,rfl⟩;rintro k G J K a d f h' ⟨i,rfl,rfl,rfl,rfl,rfl,rfl,Y,rfl⟩;unfold xL;by_cases hi:i<l.length;rotate_left
 ·exact iJ H
 refine gB ?_;obtain⟨c,j,g,n,m⟩:=hs _ (zd hi);have o:c<u.blocks.length:=by
  obtain⟨B,N,_⟩:=g;exact(jR.1 N).1
 obtain ⟨O,P⟩:=C.std.yes _ c j g (.inl o);obtain⟨l1,Z,_,R,S⟩:=D.nat (hO hi) .i64;obtain⟨l2,o2,_,L,M⟩:=C.rbl.int O .i64;obtain⟨l3,o3,_,T,U⟩:=C.rpl.int P .i64;refine ee R (ee S (oN (C.ck.ld 5 rfl) (ee L (ee M (ee (gI _ _ _ _) ?_)))));have e:kv (.bool (((c:Int)) == (b:Int))) (oB (some (V.ptr lc 0)) λq=>oB (iF q) λr=>oB (fI 6 r) λs=>oB (eQ s h') λt=>oB (some (V.I (l[i]:Nat))) λx=>oB (gJ 1 t x) λy=>oB (eQ y h') λz=>oB (some (V.I p)) λA=>ev .geq 3 z A)=some (.bool false):=by
  have l6:eQ (.ptr lc (0+6)) h' = some pl:=C.ck.ld 6 rfl;simp only[fi,gj,fe,l6,T,U,nW,ke];congr 2;rw[wBl];intro W;simp only[vR,C9,BP]at W;have:=n (by omega);omega
 refine ee e ?_;refine fE (ee rfl (fE (ee rfl (fE (ee (gj _ _) (fE (ee (fe _ _ _) (fE (ee (C.ck.ld 5 rfl) (fE (ee rfl (fE (ee L (fE (ee M (fE (ee rfl (po ?_))))))))))))))))));refine O2 C E ((C.RV.iff c b E).2 m) (ee rfl (jd (gg (by simp) ?_)));exact fM ⟨k-1,by omega,i+1,rfl,rfl,rfl,rfl,rfl,rfl,by omega,rfl⟩
theorem I2(C:Cx F h cs lc u vv vb vs bl pl Fc xs ys Df I){s b p:Nat}{fs:List Fm}(q:u.en[s]? =some fs)(D:fs.length<=30/\∀f∈fs,f.locals.length<=40/\f.stack.length<=60)(r:b<u.blocks.length)
  (hs:∀w∈gN fs,∃c j,At u w c j/\(c=b->j<p)/\vO (next u) c b) (H:∀h',Sn F h F h'->eo F h' cs->Q (.bool true) h') :
  cP CS jB [.ptr lc 0,.I s,.I b,.I p] h Q:=by
 refine CV rfl rfl ?_;unfold uJ;obtain⟨l1,M,f,_,E,_,G,t⟩:=C.ck.u.st q;refine ee (gj _ _) (ee (fe _ _ _) (oF (C.ck.ld 4 rfl) (ee E (oF G (ee t.len ?_)))))
 refine zY (λk v x y d e g h'=>∃j:Nat,v = .ptr lc 0/\x = .I b/\y = .I p/\d=f/\e = .I fs.length/\g = .I (j:Nat)/\j+k=fs.length/\Sn F h F h'/\eo F h' cs) ?_ (k:=fs.length)
  ⟨0,rfl,rfl,rfl,rfl,rfl,rfl,by omega,Sn.refl _ _,C.ck.H⟩
 rintro k v x y d e g J ⟨j,rfl,rfl,rfl,rfl,rfl,rfl,N,m,z⟩;unfold qW;by_cases hj:j<fs.length;rotate_left
 ·exact iJ (H J m z)
 refine gB ?_;obtain⟨l3,O,a,c,_,K,L,A,B⟩:=(t.since m).pg (hO hj);obtain⟨P,R⟩:=D.2 _ (zd hj);have i:∀w,w∈fs[j].locals\/w∈fs[j].stack->w∈gN fs:=λw l=>by
  unfold gN;rw[RT];exact⟨fs[j],zd hj,Hi.2 l⟩
 refine ee K (ee L ?_);refine gY z rfl rfl (by simp only[JD,ey,A.one,B.one];rfl) λS n o=>?_;have C2:=C.since (m.trans o) n.tail;refine oF (n.ld 0 rfl rfl) ?_;refine Jx C2 (A.since o) (by omega) r (λw l=>hs w (i w (.inl l))) (ee rfl ?_);refine fE (ee rfl (fE (ee (fe _ _ _) (fE (ee (n.ld 0 rfl rfl) (fE (ee rfl (fE (ee rfl (po ?_))))))))));refine Jx C2 (B.since o) (by omega) r (λw l=>hs w (i w (.inr l))) (ee rfl (jd (gg (by simp) ?_)));exact fM ⟨k-1,by omega,j+1,rfl,rfl,rfl,rfl,rfl,rfl,by omega,m.trans o,n.tail⟩
theorem Ub{w b k:Nat}(h:Kh u w b k):∃c j,At u w c j/\(c=b->j<k)/\vO (next u) c b:=by
 obtain⟨c,j,d,a⟩:=h;rcases a with⟨rfl,a⟩|⟨a,f⟩
 ·exact⟨c,j,d,λ_=>a,vO.self _ _⟩
 ·exact⟨c,j,d,λe=>absurd e a,f⟩
theorem Io{w b:Nat}{B:Bk}(f:u.blocks[b]? =some B)(h:yj u w b):∃c j,At u w c j/\(c=b->j<B.eh.length)/\vO (next u) c b:=by
 obtain⟨c,j,a,g⟩:=h;refine⟨c,j,a,λe=>?_,g⟩;subst e;obtain⟨k,d,i⟩:=a;rw[f]at d;cases d;exact(jR.1 i).1
theorem Xt{lv:Nat}{x:Vl}{w:V}{a0:V}{i k:Nat}(a:a0 = .ptr lc 0)(C:Cx F h (ez lv hK (mI x w)::cs) lc u vv vb vs bl pl Fc xs ys Df I)(hc:lv≠lc)(B:eQ (.ptr lv 5) h=some (.I x.state))(D:i<u.blocks.length)
  (E:leaves x.op=true->∃fs,u.en[x.state]? =some fs/\(fs.length<=30/\∀f∈fs,f.locals.length<=40/\f.stack.length<=60)/\∀w∈gN fs,∃c j,At u w c j/\(c=i->j<k)/\vO (next u) c i) {K:fy}
  (A:∀h',Sn F h F h'->eo F h' (ez lv hK (mI x w)::cs)->K (.bool false) h') :
  oP (fD true (.bool (leaves x.op))) λb=>
  oP (gV b (some a0)) λd=>
  oP (fD true (.bool (leaves x.op))) λe=>
  oP (gV e (fI 5 (.ptr lv 0))) λg=>
  oP (fD true (.bool (leaves x.op))) λl=>
  oP (gV l (eQ g h)) λm=>
  oP (fD true (.bool (leaves x.op))) λn=>
  oP (gV n (some (.I i))) λo=>
  oP (fD true (.bool (leaves x.op))) λp=>
  oP (gV p (some (.I k))) λq=>
  oP (fD true (.bool (leaves x.op))) λr=>
  oP (gC r (some (jB,[d,m,o,q]))) λs=>qo CS s h λt G=>
  oP (fD true (.bool (leaves x.op))) λv=>
  oP (gV v (pI .not t)) λy=>
  oP (nt (.bool false) (js (.bool (leaves x.op)) y (V.bool false))) λz=>K z G:=by
 subst a
 cases hq:leaves x.op with
 | true=>
   obtain⟨fs,J,L,M⟩:=E hq;refine fU (ee rfl (fU (ee (fe _ _ _) (fU (ee B (fU (ee rfl (fU (ee rfl (vf ?_))))))))))
   refine I2 C J L D M λh' s' N=>fU (ee rfl (ee rfl (A h' s' N)))
 |false=>exact im (im (im (im (im (EY (im (ee rfl (A h (Sn.refl _ _) C.ck.H))))))))
theorem W1(g:Good u)(C:Cx F h cs lc u vv vb vs bl pl Fc xs ys Df I)(am:lc<h.next){i:Nat}{B:Bk}(c:u.blocks[i]? =some B)(H:∀F' h',Sn F h F' h'->eo F' h' cs->Q (.bool true) h'):cP CS mE [.ptr lc 0,.I i] h Q:=by
 refine GS rfl rfl ?_;unfold za;have nv:=g.nv;have nb:=g.nb;have t:i<u.blocks.length:=(jR.1 c).1;have V:∀(s:Nat) (fs:List Fm),u.en[s]? =some fs->fs.length<=30/\∀f∈fs,f.locals.length<=40/\f.stack.length<=60:=λs fs a=>by
  obtain⟨_,h2,S⟩:=g.st s fs a;exact⟨h2,λf hf=>⟨(S f hf).1,(S f hf).2.1⟩⟩
 have an:B.eh.length<=3000:=by
  have:=kj u.eh.length B.eh (Ie g c) λv hv=>by
   obtain⟨k,hk⟩:=oD.1 hv;exact g.mH v i k ⟨B,c,hk⟩
  omega
 obtain⟨l7,o7,bv,bn,bp,_,i1,i2,T,iN,ip,_⟩:=C.ck.u.oW c;refine ee (gj _ _) (ee (fe _ _ _) (oF (C.ck.ld 3 rfl) (ee i1 (ee i2 ?_))));refine gY C.ck.H rfl rfl (by simp only[kE,ey,T.one,iN.one,ip.one];rfl) λh2 H2 y=>?_;have C2:=C.cons y H2;have T:=T.since y;have iN:=iN.since y;have ip:=ip.since y;refine oF (H2.ld 0 rfl rfl) (ee T.len (oF (H2.ld 0 rfl rfl) (ee T.len ?_)))
 refine Dd (λk W X Y Z d l o h'=>∃(F':Nat->Prop) (j:Nat),W = .ptr lc 0/\X = .I i/\Y = .ptr h.next 0/\Z = .I B.eh.length/\d=bv/\l = .I B.eh.length/\o = .I j/\j+k=B.eh.length/\
  Sn F h2 F' h'/\eo F' h' (ez h.next 43 (kE B bv bn bp)::cs)) ?_ (k:=B.eh.length) ⟨F,0,rfl,rfl,rfl,rfl,rfl,rfl,rfl,by omega,Sn.refl _ _,H2⟩
 rintro k W X Y Z d l o S ⟨F3,j,rfl,rfl,rfl,rfl,ag,rfl,rfl,hk,A,D⟩;subst d;unfold vV;have C3:=C2.since A D;by_cases hj:j<B.eh.length;rotate_left
 ·refine iJ ?_;refine oF (D.ld 0 rfl rfl) ?_;by_cases c2:B.fin=2
  ·refine gi (gv (by omega) ?_);refine oF (D.ld 0 rfl rfl) ?_;refine Pq [B.cond] (oV _) D λF4 h4 v q s4 r4=>?_;refine Jx (C3.since s4 q) r4 (by simp) t (λw hw=>?_) (H _ _ ((y.trans A).trans s4) q.tail);obtain rfl:=Nf.1 hw;exact Io c (g.OB i B c c2)
  refine gi (gg (by omega) ?_);by_cases c3:B.fin=3
  ·refine gi (gv (by omega) ?_);refine oF (D.ld 0 rfl rfl) ?_;have mM:B.state<u.en.length:=by
    rcases g.fin i B c with⟨K,_⟩|⟨K,_⟩|⟨_,_,K⟩
    ·omega
    ·omega
    ·exact K
   obtain⟨fs,a⟩:∃fs,u.en[B.state]? =some fs:=⟨_,hO mM⟩
   refine I2 C3 a (V _ _ a) t (λw hw=>Io c (g.N9 i B fs c c3 a w hw)) λh4 s4 q=>H _ _ ((y.trans A).trans s4) q.tail
  ·exact gi (gg (by omega) (H _ _ (y.trans A) D.tail))
 refine gB ?_;have e:At u (B.eh[j]) i j:=⟨B,c,hO hj⟩
 have ah:=g.mH _ _ _ e;obtain⟨x,G⟩:∃x,u.eh[B.eh[j]]? =some x:=⟨_,hO ah⟩
 have ai:B.fh.length<=700:=by
  rw[g.fh i B c,<-pt];have:=pq g (i:=u.blocks.length) (j:=0) (b:=i) (jK _) (by omega);omega
 have r:x.op=21\/x.op=20->x.args.length<=700:=by
  rintro(K|K)
  ·rw[(g.KO _ _ _ _ _ e G K c).2];exact ai
  ·rw[g.putAt _ x G K];omega
 obtain⟨l9,o9,_,j1,j2⟩:=(T.since A).nat (hO hj) .i64;obtain⟨l10,ao,w,_,q1,q2,iw,_⟩:=C3.ck.u.val G;refine ee j1 (ee j2 (ee (gj _ _) (ee (fe _ _ _) (oF (C3.ck.ld 2 rfl) (ee q1 (ee q2 ?_))))));refine gY D rfl rfl (by simp only[mI,ey,iw.one];rfl) λh4 q s4=>?_;have C4:=C3.cons s4 q;have L:=iw.since s4;have ap:S.next<=h4.next:=s4.next;have aq:h.next<S.next:=(D.ok 0 _ rfl).2.1;refine oF (q.ld 0 rfl rfl) ?_;by_cases M:x.op=21
 ·refine gi (gv (by omega) ?_);refine oF (q.ld 0 rfl rfl) (ee L.len ?_);have ar:=(g.KO _ _ _ _ _ e G M c).2
  refine DH (λk W X Y Z d l o N aa ab h'=>∃(F':Nat->Prop) (m:Nat),W = .ptr lc 0/\X = .I i/\Y = .ptr h.next 0/\Z = .I B.eh.length/\d=bv/\l = .I B.eh.length/\o = .I j/\N=w/\aa = .I x.args.length/\ab = .I m/\m+k=x.args.length/\
   Sn F3 h4 F' h'/\eo F' h' (ez S.next 45 (mI x w)::ez h.next 43 (kE B bv bn bp)::cs)) ?_ (k:=x.args.length) ⟨F3,0,rfl,rfl,rfl,rfl,rfl,rfl,rfl,rfl,rfl,rfl,by omega,Sn.refl _ _,q⟩
  rintro k2 W X Y Z d l o N aa ab h5 ⟨F5,m,rfl,rfl,rfl,rfl,ag,rfl,rfl,au,rfl,rfl,aw,J,R⟩;subst d N;unfold wY;have C5:=C4.since J R;by_cases hm:m<x.args.length;rotate_left
  ·refine iJ ?_;refine vC ?_;unfold o0;exact fM ⟨k-1,by omega,F5,j+1,rfl,rfl,rfl,rfl,rfl,rfl,rfl,by omega,(A.trans s4).trans J,R.tail⟩
  refine gB ?_;obtain⟨l11,ax,al,m1,m2⟩:=(L.since J).nat (hO hm) .i64;refine ee m1 (ee m2 ?_);have aj:m<B.fh.length:=by omega
  obtain⟨p,hp⟩:∃p,B.fh[m]? =some p:=⟨_,hO aj⟩
  have ac:p<u.blocks.length:=by
   have:=Ik hp;rw[g.fh i B c]at this;exact(g.W8 (Gj.1 this)).1
  obtain⟨P,hP⟩:∃P,u.blocks[p]? =some P:=⟨_,hO ac⟩
  rw[oV,hV];obtain⟨U,s6,r6⟩:=R.ZW (E:=eN) (xs:=[x.args[m]]) (n:=1) eJ rfl (yy F5 h5 [x.args[m]]) false;have g6:(h5.new (.cells 3 1 true false (hZ [x.args[m]]))).get h5.next=some (.cells 3 1 true false (hZ [x.args[m]])):=fj _ _;have C6:=C5.since s6 U;obtain⟨l12,ay,_,n1,n2⟩:=(((ip.since A).since s4).since (J.trans s6)).nat hp .i64;obtain⟨l13,aA,pv,pn,pp,_,p1,_,ak,_,_,pa⟩:=C6.ck.u.oW hP;refine oF (U.ld 1 rfl rfl) (ee n1 (ee n2 (ee (gj _ _) (ee (fe _ _ _) (oF (C6.ck.ld 3 rfl) ?_)))));refine oF (U.ld 1 rfl rfl) (ee n1 (ee n2 (ee p1 (oF pa.eh (ee ak.len ⟨⟨g6,O.iK _ _ _ _ _⟩,?_⟩)))));refine Jx C6 r6 (by simp) ac (λz hz=>?_) ⟨jK _,qt (gv rfl ?_)⟩
  ·obtain rfl:=Nf.1 hz;exact Io hP (g.Oa _ i j x B e G M c m _ p (hO hm) hp)
  ·exact fM ⟨k2-1,by omega,_,m+1,rfl,rfl,rfl,rfl,rfl,rfl,rfl,rfl,rfl,rfl,by omega,J.trans s6,U⟩
 refine gi (gg (by omega) ?_);refine ee (q.rh 0 rfl rfl) ?_;refine IT q L (λh=>by have:=r h;omega) λF5 h5 v J R r5=>?_;have C5:=C4.since J R;refine Jx C5 r5 (by have:=I0 r;omega) t (λz hz=>Ub (g.NN _ i j x e G M z hz)) (ee rfl ?_);refine fE (ee (fe _ _ _) (fE (ee (R.ld 0 rfl rfl) (po ?_))));refine GJ (fE (ee rfl ?_));refine Xt rfl C5 (by have:=y.next;omega) (R.ld 0 rfl rfl) t (λae=>?_) λh6 s6 U=>?_
 ·have mM:=g.leave _ x G ae;obtain⟨fs,a⟩:∃fs,u.en[x.state]? =some fs:=⟨_,hO mM⟩
  exact⟨fs,a,V _ _ a,λz hz=>Ub (g.N5 _ i j x fs e G ae a z hz)⟩
 ·refine jd (gg (by simp) ?_);refine vC ?_;unfold o0;exact fM ⟨k-1,by omega,F5,j+1,rfl,rfl,rfl,rfl,rfl,rfl,rfl,by omega,((A.trans s4).trans J).trans s6,U.tail⟩
end
open Un Dm
section
variable{F F':Nat->Prop}{h h':Hp}{cs:List Pc}{Q:fy}{u:U}{vv vb vs:V}
theorem We(g:Good u)(H0:eo F h cs)(hu:ym F h u vv vb vs)(H:∀F' h',Sn F h F' h'->eo F' h' cs->Q (.bool true) h'):cP CS BB [.agg (uC u vv vb vs)] h Q:=by
 refine Q9 rfl rfl ?_;unfold KC;have nv:=g.nv;have nb:=g.nb;have OV:=g.OV;have ns:=g.ns;refine jS H0 hu.one λx z s1=>?_;have r:=hu.since s1;have l2:eQ (.ptr h.next (0+2)) x=some vv:=z.ld 0 rfl rfl;have l3:eQ (.ptr h.next (0+3)) x=some vb:=z.ld 0 rfl rfl;have l4:eQ (.ptr h.next (0+4)) x=some vs:=z.ld 0 rfl rfl;refine oF l2 (ee r.v.len (ee (nQ _ _ _ _) ?_));rw[Lh (by omega)];have e1:nt (.bool false) (oB (fI 3 (.ptr h.next 0)) λf=>oB (eQ f x) λj=>oB (fH j) λk=>ev .gtr 3 k (V.I 300))=some (.bool false):=by
  simp only[mU,fe,fi,l3,r.b.len,nQ];rw[Lh (by omega)]
 have e2:nt (.bool false) (oB (fI 4 (.ptr h.next 0)) λf=>oB (eQ f x) λj=>oB (fH j) λk=>ev .gtr 3 k (V.I 1000))=some (.bool false):=by
  simp only[mU,fe,fi,l4,r.s.len,nQ];rw[Lh (by omega)]
 have e3:nt (.bool false) (oB (fI 3 (.ptr h.next 0)) λf=>oB (eQ f x) λj=>oB (fH j) λk=>ev .eql 3 k (V.I 0))=some (.bool false):=by
  simp only[mU,fe,fi,l3,r.b.len,gI];congr 2;rw[Nj];omega
 refine ee e1 (ee e2 (ee e3 (jd (gg (by simp) ?_))));refine ee (z.rh 0 rfl rfl) (ee (show _=some (V.agg [.I u.func,.I u.pc,vv,vb,vs,.ef,.ef,.ef]) from rfl) ?_);refine jS z (by simp only[ey,r.v.one,r.b.one,r.s.one];rfl) λJ K s2=>?_;have C:=r.since s2;generalize x.next=lc at*;have l4:eQ (.ptr h.next (0+4)) J=some vs:=K.ld 1 rfl rfl;refine oF l4 (ee C.s.len ?_);have C2:Ck F J (ez lc 97 [.I u.func,.I u.pc,vv,vb,vs,.ef,.ef,.ef]::ez h.next 30 (uC u vv vb vs)::cs) lc u vv vb vs .ef .ef .ef:=⟨K,⟨0,_,rfl⟩,C⟩
 refine MK (by omega) (λF' h'=>F' = F/\Sn F J F h'/\eo F h' (ez lc 97 [.I u.func,.I u.pc,vv,vb,vs,.ef,.ef,.ef]::ez h.next 30 (uC u vv vb vs)::cs)) ⟨rfl,Sn.refl _ _,K⟩ (λi hi F' h' hP n p=>?_) λF3 h3 hP=>?_
 ·obtain⟨rfl,s',l⟩:=hP;show cP CS mF [.ptr lc 0,.I i] h' n;have hs:=hO hi;obtain⟨g1,g2,g3⟩:=g.st i _ hs;exact Xo (C2.since s' l) hs ⟨g1,g2⟩ g3 λa c d=>p F' a ⟨rfl,s'.trans c,d⟩
 obtain⟨rfl,L,H3⟩:=hP;refine ee rfl (fE (ee rfl (po ?_)));refine Xj g H3 (C.since L) λM N t w xs ys s4 O rb rp std=>?_;refine ee rfl (fE (ee rfl ?_));have P:=(C.since L).since s4;have R:Ck M N (ez lc 97 [.I u.func,.I u.pc,vv,vb,vs,t,w,.ef]::ez h.next 30 (uC u vv vb vs)::cs) lc u vv vb vs t w .ef:=⟨O,⟨0,_,rfl⟩,P⟩
 have l2:eQ (.ptr h.next (0+2)) N=some vv:=O.ld 1 rfl rfl;refine fE (ee (fe _ _ _) (fE (ee l2 (fE (ee P.v.len (fE (ee rfl (fE (ee rfl (po ?_))))))))));refine MK (F:=M) (by omega) (λF' h'=>Sn M N F' h'/\eo F' h' (ez lc 97 [.I u.func,.I u.pc,vv,vb,vs,t,w,.ef]::ez h.next 30 (uC u vv vb vs)::cs)) ⟨Sn.refl _ _,O⟩ (λi hi F' h' hP n p=>?_) λF5 h5 hP=>?_
 ·obtain⟨s',l⟩:=hP;show cP CS kM [.ptr lc 0,.I i] h' n;exact zbH g (R.since s' l) (rb.since s') std hi (l.ok 0 _ rfl).2.1 λe a c d=>p e a ⟨s'.trans c,d⟩
 obtain⟨D,E⟩:=hP;have u5:=P.since D;have l3:eQ (.ptr h.next (0+3)) h5=some vb:=E.ld 1 rfl rfl;refine ee rfl (fE (ee rfl (fE (ee (fe _ _ _) (fE (ee l3 (fE (ee u5.b.len (fE (ee rfl (fE (ee rfl (po ?_)))))))))))));refine MK (F:=F5) (by omega) (λF' h'=>Sn F5 h5 F' h'/\eo F' h' (ez lc 97 [.I u.func,.I u.pc,vv,vb,vs,t,w,.ef]::ez h.next 30 (uC u vv vb vs)::cs)) ⟨Sn.refl _ _,E⟩ (λi hi F' h' hP n p=>?_) λF6 h6 hP=>?_
 ·obtain⟨s',l⟩:=hP;show cP CS mV [.ptr lc 0,.I i] h' n;exact ZO g ((R.since D E).since s' l) (hO hi) λe a c d=>p e a ⟨s'.trans c,d⟩
 obtain⟨S,T⟩:=hP;have u6:=u5.since S;have l3:eQ (.ptr h.next (0+3)) h6=some vb:=T.ld 1 rfl rfl;refine ee rfl (fE (ee rfl (fE (ee (fe _ _ _) (fE (ee l3 (fE (ee u6.b.len (fE (ee rfl (fE (ee rfl (po ?_)))))))))))));refine MK (F:=F6) (by omega) (λF' h'=>Sn F6 h6 F' h'/\eo F' h' (ez lc 97 [.I u.func,.I u.pc,vv,vb,vs,t,w,.ef]::ez h.next 30 (uC u vv vb vs)::cs)) ⟨Sn.refl _ _,T⟩ (λi hi F' h' hP n p=>?_) λF7 h7 hP=>?_
 ·obtain⟨s',l⟩:=hP;show cP CS nN [.ptr lc 0,.I i] h' n;exact zbk g (((R.since D E).since S T).since s' l) (hO hi) λe a c d=>p e a ⟨s'.trans c,d⟩
 obtain ⟨s7,H7⟩:=hP;have u7:=u6.since s7;refine ee rfl (jd (gg (by simp) ?_));refine G0 rfl rfl ?_;unfold y6;have lA:fY 5 (.ptr lc 0) h7=some (.agg (uC u vv vb vs)):=by
  rw[FE (H7.get 0 rfl),FZ (by simp)];rfl
 refine ee (gj _ _) (ee (fe _ _ _) (ee lA ?_));refine QJ g H7 u7 λF8 h8 vo seen post s8 U G ro=>?_;have W:=u7.since s8;have lo:=ro.len;rw[List.length_reverse,Qw g G]at lo;refine ee lo (oF (U.ld 1 rfl rfl) (ee W.b.len (xe (gv rfl ?_))));refine ee (U.rh 1 rfl rfl) ?_;refine NK g U W λX h9 vd Df I Y Z G' s9 H9 rd d1 d2 d3 d4 d5=>?_;obtain⟨A,K6,ae,q,y⟩:=H9.st 0 (o:=7) (u:=vd) rfl (by simp) rd.one;refine ee (gj _ _) (ee (fe _ _ _) ?_);rw[show V.ptr lc (0+7)=V.ptr lc 7 from rfl,K6,ei];simp only[l0,jo]at q;have B:=(W.since s9).since y;refine oF (q.ld 1 rfl rfl) (ee B.b.len ?_);have m:=((((D.trans S).trans s7).trans s8).trans s9).trans y
 have aa:Cx X A (ez lc 97 [.I u.func,.I u.pc,vv,vb,vs,t,w,vd]::ez h.next 30 (uC u vv vb vs)::cs) lc u vv vb vs t w vd xs ys Df I:=
  ⟨⟨q,⟨0,_,rfl⟩,B⟩,rb.since m,rp.since m,rd.since y,std,⟨d1,d2,d3,⟨G'.gr.place,λb hb h0=>d4.up b hb h0⟩,d5⟩⟩
 refine MK (F:=X) (by omega) (λF' h'=>Sn X A F' h'/\eo F' h' (ez lc 97 [.I u.func,.I u.pc,vv,vb,vs,t,w,vd]::ez h.next 30 (uC u vv vb vs)::cs)) ⟨Sn.refl _ _,q⟩ (λi hi F' h' hP n p=>?_) λag ah hP=>?_
 ·obtain⟨s',l⟩:=hP;show cP CS mE [.ptr lc 0,.I i] h' n;exact W1 g (aa.since s' l) (l.ok 0 _ rfl).2.1 (hO hi) λe a c d=>p e a ⟨s'.trans c,d⟩
 obtain⟨ab,ac⟩:=hP;exact H _ _ (((((s1.trans s2).trans L).trans s4).trans m).trans ab) ac.tail.tail
end
