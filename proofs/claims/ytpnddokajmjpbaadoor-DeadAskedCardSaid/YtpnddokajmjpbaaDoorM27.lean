/- Parts. -/
import Derived.Test.YtpnddokajmjpbaaDoorM26
namespace Go.Proofs.YtpnddokajmjpbaaDoor.Hx
open Go.Proofs.YtpnddokajmjpbaaDoor.Un Go.Proofs.YtpnddokajmjpbaaDoor.Dm
structure Fix_ (G:Dm.Gr) (I:Nat->Nat) (S:Nat->Prop) (b:Nat):Prop where
 low:∀p,S p->G.edge p b->Anc I (I b) p
 great:∀x,(∀p,S p->G.edge p b->Anc I x p)->Anc I x (I b)
theorem DZ (I:Nat->Nat)(b:Nat):Dm.set I b (I b)=I:=by
 funext x;unfold Dm.set;split
 ·rename_i h;rw[h]
 ·rfl
theorem Fk {S:Nat->Prop}{b:Nat}(h:S b):(λx=>S x\/x=b)=S:=by
 funext x;exact propext ⟨λa=>a.elim id λe=>e▸h,.inl⟩
theorem invAgain {G:Dm.Gr}{I:Nat->Nat}{S:Nat->Prop}{k n:Nat}(l:Dm.Inv G I S k 1)(o:∀b,G.node b->S b)(g:∀b,G.node b->b≠0->Fix_ G I S b)(a:∀b,G.node b->G.place b<n)(d:∀p,p<n->∃b,G.node b/\G.place b=p):Dm.Inv G I S (k+1) 1:=by
 have f:∀m,1+m<=n->Dm.Inv G I S k (1+m):=by
  intro m
  induction m with
  |zero=>exact λ_=>l
  | succ m q=>
    intro s;have r:=q (by omega);obtain⟨b,c,h⟩:=d (1+m) (by omega);have h0:b≠0:=λe=>by subst e;rw[G.place0]at h;omega
    have i:=(r.upd c h0 h (g b c h0).low (g b c h0).great).1;rw[DZ,Fk (o b c)]at i;exact i
 have t:1<=n:=by have:=a 0 G.first;omega
 have j:=f (n-1) (by omega);rw[show 1+(n-1)=n by omega]at j;exact j.pass a
theorem invFixed {G:Dm.Gr}{I:Nat->Nat}{S:Nat->Prop}{k n:Nat}(d:Dm.Inv G I S k 1)(e:∀b,G.node b->S b)(f:∀b,G.node b->b≠0->Fix_ G I S b)(a:∀b,G.node b->G.place b<n)(c:∀p,p<n->∃b,G.node b/\G.place b=p):∀m,Dm.Inv G I S (k+m) 1
 |0=>d
 |m+1=>invAgain (invFixed d e f a c m) e f a c
section
variable{u:U}{seen:List Bool}{post:List Nat}
theorem Et (g:Good u)(G:Go_ u.blocks.length (next u) seen post []):∀b,b<u.blocks.length->b∈post:=by
 have a:∀b l,Pt (next u) b l->b∈post:=by
  intro b l c
  induction c with
  |nil=>obtain⟨p,c⟩:=G.last rfl;rw[c];simp
  | step _ d e=>
    have:=(G.iff _).1 (G.closed _ e _ d);simpa using this
 intro b f;obtain⟨l,h⟩:=g.reach b f;exact a b l h
theorem DR (g:Good u)(G:Go_ u.blocks.length (next u) seen post []):post.length=u.blocks.length:=G.all (Et g G)
theorem I8 (G:Go_ u.blocks.length (next u) seen post []):post.reverse.Nodup:=by
 have:=G.nodup;simp only[wBa,wAa]at this;rw[wBj]at this⊢;rw[List.pairwise_reverse];exact this.imp λh e=>h e.symm
theorem zf (G:Go_ u.blocks.length (next u) seen post []){i b:Nat}(h:post.reverse[i]? =some b):G.gr.place b=i:=by
 show post.reverse.idxOf b=i;obtain⟨hi,rfl⟩:=wAB.1 h;have a:=I8 G;have f:=z6 post.reverse post.reverse[i] (wAR hi);obtain⟨d,e⟩:=wAB.1 f;rcases wBq (post.reverse.idxOf post.reverse[i]) i with c|c|c
 ·rw[wBj,wA3]at a;exact absurd e (a _ _ d hi c)
 ·exact c
 ·rw[wBj,wA3]at a;exact absurd e.symm (a _ _ hi d c)
end
section
variable{F F':Nat->Prop}{h h':Hp}{cs:List Pc}{Q:QP1}{u:U}{vv vb vs:V}
structure IdomR (S:Nat->Prop) (I:Nat->Nat) (n:Nat) (idl:List Int):Prop where
 len:idl.length=n
 yes:∀b,S b->idl[b]? =some (I b:Int)
 no:∀b,b<n->¬S b->idl[b]? =some (-1)
theorem Ip {G:Dm.Gr}{I:Nat->Nat}{S:Nat->Prop}{n l5 l6 J K:Nat}{v vp:V}{idl:List Int}{pl:List Nat}(j:Hold F h cs){i5 i6 ii ip:Nat}(w:cs[i5]? =some (cellP l5 J [v]))(y:cs[i6]? =some (cellP l6 K [vp]))(hi:cs[ii]? =some (rowP eZ tyInt idl v))(z:cs[ip]? =some (rowP eN tyInt pl vp))
  (l:Tree G I S) (A:IdomR S I n idl) (p:∀b,G.node b->pl[b]? =some (G.place b)) {a b:Nat} (L:S a) (M:S b)
  (H:∀d,S d->Anc I d a->Anc I d b->(∀x,Anc I x a->Anc I x b->Anc I x d)->Q (.int .i64 (d:Nat)) h):cP CS fY [.int .i64 a,.int .i64 b,.ptr l6 0,.ptr l5 0] h Q:=by
 refine yI rfl rfl ?_;unfold sH
 refine wj (λk B C D E h'=>∃c f:Nat,B = .int .i64 (c:Nat)/\C = .int .i64 (f:Nat)/\D = .ptr l6 0/\E = .ptr l5 0/\h' = h/\k=G.place c+G.place f/\S c/\S f/\Anc I c a/\Anc I f b/\(∀x,Anc I x a->Anc I x b->Anc I x c/\Anc I x f)) ?_ (k:=G.place a+G.place b)
  ⟨a,b,rfl,rfl,rfl,rfl,rfl,rfl,L,M,.refl _,.refl _,λx g i=>⟨g,i⟩⟩
 rintro k B C D E h' ⟨c,f,rfl,rfl,rfl,rfl,rfl,Y,sa,sb,q,r,o⟩;unfold pZ;by_cases e:c=f
 ·subst e;refine yU (if_t rfl ?_);exact H c sa q r λx g i=>(o x g i).1
 refine yU (if_f (by omega) ?_);obtain⟨Z,op,N,O⟩:=j.natR ip z (p c (l.node _ sa)) .i64;obtain⟨lq,oq,P,R⟩:=j.natR ip z (p f (l.node _ sb)) .i64;refine d9 (j.ld i6 y rfl) (d9 N (d9 O (d9 (j.ld i6 y rfl) (d9 P (d9 R ?_)))));by_cases hlt:G.place f<G.place c
 ·refine tS (if_t (by omega) ?_);obtain⟨T,U,s,t⟩:=j.intR ii hi (A.yes c sa) .i64;refine d9 (j.ld i5 w rfl) (d9 s (d9 t ?_));have h0:c≠0:=λe=>by subst e;rw[G.place0]at hlt;omega
  obtain⟨u,W⟩:=l.up c sa h0;exact⟨_,by omega,I c,f,rfl,rfl,rfl,rfl,rfl,rfl,u,sb,(Anc.up h0 (.refl _)).trans q,r,λx g i=>⟨l.meetL sa sb hlt (o x g i).1 (o x g i).2,(o x g i).2⟩⟩
 ·refine tS (if_f (by omega) ?_);obtain⟨T,U,s,t⟩:=j.intR ii hi (A.yes f sb) .i64;refine d9 (j.ld i5 w rfl) (d9 s (d9 t ?_));have m:G.place c<G.place f:=by
   have:G.place c≠G.place f:=λX=>e (G.inj _ _ (l.node _ sa) (l.node _ sb) X);omega
  have h0:f≠0:=λe=>by subst e;rw[G.place0]at m;omega
  obtain⟨u,W⟩:=l.up f sb h0;exact⟨_,by omega,c,I f,rfl,rfl,rfl,rfl,rfl,rfl,sa,u,q,(Anc.up h0 (.refl _)).trans r,λx g i=>⟨(o x g i).1,l.meetL sb sa m (o x g i).2 (o x g i).1⟩⟩
theorem B4 (g:Good u)(H0:Hold F h cs)(hu:URd F h u vv vb vs)
  (H:∀F' h' v idl I seen post (G:Go_ u.blocks.length (next u) seen post []),Sn F h F' h'->Hold F' h' cs->SlR eZ F' h' idl v->idl.length=u.blocks.length->idl[0]? =some (-1)->(∀b,b≠0->b<u.blocks.length->idl[b]? =some (I b:Int))->Tree G.gr I (λb=>b<u.blocks.length)->
   (∀x b,b<u.blocks.length->(Anc I x b↔Domi (next u) x b))->Q v h'):cP CS lC [.agg (uC u vv vb vs)] h Q:=by
 refine zN rfl rfl ?_;unfold uH;have nb:=g.nb;have nb0:=g.nb0;refine kh H0 hu.one λr H1 s1=>?_;have lA:=H1.ldA (n:=5) 0 rfl rfl;refine d9 lA (d9 lA ?_);refine DT g H1 (hu.since s1) λF2 h2 vo seen post s2 H2 G r2=>⟨s2.next,H2.ldA 0 rfl rfl,?_⟩
 refine DM g H2 (hu.since (s1.trans s2)) λF3 L va s3 H3 r3=>⟨s3.next,?_⟩
 have u3:=hu.since ((s1.trans s2).trans s3);have r2:=r2.since s3;refine oF (H3.ld 0 rfl rfl) (d9 u3.b.len ?_);rw[gh (z:=V.int .i64 0) rfl (by decide) (by omega),fD];obtain⟨H4,s4⟩:=H3.make (E:=eZ) (ty:=tyInt) (y:=0) (u:=V.int .i64 0) u.blocks.length rfl rfl;have n4:(L.new (.cells tyInt 1 true false (List.replicate u.blocks.length (V.int .i64 0)))).next=L.next+1:=rfl;have g4:(L.new (.cells tyInt 1 true false (List.replicate u.blocks.length (V.int .i64 0)))).get L.next=some (.cells 3 1 true false (List.replicate u.blocks.length (V.int .i64 0))):=ef _ _;show oP (pFA 3 (.ptr h.next 0)) _;generalize bw:L.new (.cells tyInt 1 true false (List.replicate u.blocks.length (V.int .i64 0)))=W at*;refine oF (H4.ld 1 rfl rfl) (d9 (u3.since s4).b.len ?_);rw[gh (z:=V.int .i64 0) rfl (by decide) (by omega),fD];obtain⟨H5,s5⟩:=H4.make (E:=eN) (ty:=tyInt) (y:=0) (u:=V.int .i64 0) u.blocks.length rfl rfl;have n5:(W.new (.cells tyInt 1 true false (List.replicate u.blocks.length (V.int .i64 0)))).next=W.next+1:=rfl;have g5:(W.new (.cells tyInt 1 true false (List.replicate u.blocks.length (V.int .i64 0)))).get W.next=some (.cells 3 1 true false (List.replicate u.blocks.length (V.int .i64 0))):=ef _ _;have aO:=(er (h:=W) (.cells tyInt 1 true false (List.replicate u.blocks.length (V.int .i64 0))) (l:=L.next) (by omega)).trans g4;generalize bx:W.new (.cells tyInt 1 true false (List.replicate u.blocks.length (V.int .i64 0)))=h5 at*;rw[fD];obtain⟨H6,s6⟩:=H5.newC tyInts [V.nilSlice];have n6:(h5.new (.cells tyInts 1 true false [V.nilSlice])).next=h5.next+1:=rfl;have g6:(h5.new (.cells tyInts 1 true false [V.nilSlice])).get h5.next=some (.cells 23 1 true false [V.nilSlice]):=ef _ _;have aP:=(er (h:=h5) (.cells tyInts 1 true false [V.nilSlice]) (l:=W.next) (by omega)).trans g5;have aQ:=(er (h:=h5) (.cells tyInts 1 true false [V.nilSlice]) (l:=L.next) (by omega)).trans aO;show alO _ (h5.new (.cells tyInts 1 true false [V.nilSlice])) _;generalize bz:h5.new (.cells tyInts 1 true false [V.nilSlice])=h6 at*;rw[fD];obtain⟨H7,s7⟩:=H6.newC tyInts [V.nilSlice];have n7:(h6.new (.cells tyInts 1 true false [V.nilSlice])).next=h6.next+1:=rfl;have g7:(h6.new (.cells tyInts 1 true false [V.nilSlice])).get h6.next=some (.cells 23 1 true false [V.nilSlice]):=ef _ _;have aR:=(er (h:=h6) (.cells tyInts 1 true false [V.nilSlice]) (l:=h5.next) (by omega)).trans g6;have aw:=(er (h:=h6) (.cells tyInts 1 true false [V.nilSlice]) (l:=W.next) (by omega)).trans aP;have aS:=(er (h:=h6) (.cells tyInts 1 true false [V.nilSlice]) (l:=L.next) (by omega)).trans aQ;show(((h6.new (.cells tyInts 1 true false [V.nilSlice])).get h6.next=_/\_)/\_);generalize bA:h6.new (.cells tyInts 1 true false [V.nilSlice])=h7 at*;refine⟨⟨g7,O.beq_cells _ _ _ _ _⟩,⟨aR,O.beq_cells _ _ _ _ _⟩,⟨aw,O.beq_cells _ _ _ _ _⟩,H7.ld 4 rfl rfl,⟨aS,O.beq_cells _ _ _ _ _⟩,H7.ld 4 rfl rfl,?_⟩;obtain⟨h8,e8,n8,H8,s8,k8⟩:=H7.stk 1 (o:=0) (u:= .slice L.next 0 u.blocks.length) rfl (by simp) rfl;rw[e8,ec];refine⟨n8,⟨(k8 _ (by omega)).trans aw,O.beq_cells _ _ _ _ _⟩,(by simp only[wAE,wAC]at H8;exact H8.ld 4 rfl rfl),?_⟩;simp only[wAE,wAC]at H8;obtain⟨h9,e9,n9,H9,s9⟩:=H8.st 0 (o:=0) (u:= .slice W.next 0 u.blocks.length) rfl (by simp) rfl;rw[e9,ec];refine⟨n9,?_⟩;simp only[wAC]at H9;have ax:=((((s4.trans s5).trans s6).trans s7).trans s8).trans s9;have bC:=((s1.trans s2).trans s3).trans ax;have r2:=r2.since ax;have r3:=r3.since ax;clear g4 g5 g6 g7 aO aQ aS aP aw aR k8 e8 e9 bw bx bz bA H1 H2 H3 H4 H5 H6 H7 H8 s1 s2 s3 s4 s5 s6 s7 s8 s9 lA u3;generalize V.slice L.next 0 u.blocks.length=vi at*;generalize V.slice W.next 0 u.blocks.length=vp at*;generalize h6.next=l6 at*;generalize h5.next=l5 at*;generalize h.next=lb at*;have aT:=H9.len 3 (xs:=List.replicate u.blocks.length (0:Int)) rfl;rw[wAi]at aT;refine d9 (H9.ld 1 rfl rfl) (d9 aT ?_);have bD:=DR g G;have ab:post.reverse.length=u.blocks.length:=by simpa using bD
 refine xV (λk A B X x6 aU aV h'=>∃(i:Nat) (xs:List Int),A=vo/\B=va/\X = .ptr l5 0/\x6 = .ptr l6 0/\aU = .int .i64 u.blocks.length/\aV = .int .i64 i/\i+k=u.blocks.length/\xs.length=u.blocks.length/\(∀j,j<i->xs[j]? =some (-1))/\
  Sn F3 h9 F3 h'/\Hold F3 h' (cellP l6 tyInts [vp]::cellP l5 tyInts [vi]::rowP eN tyInt (List.replicate u.blocks.length 0) vp::rowP eZ tyInt xs vi::cellP lb 30 (uC u vv vb vs)::cs)) ?_ (k:=u.blocks.length)
  ⟨0,_,rfl,rfl,rfl,rfl,rfl,rfl,by omega,by simp,λj hj=>by omega,Sn.refl _ _,H9⟩
 rintro k A B X x6 aU aV ca ⟨i,xs,e3,e4,rfl,rfl,rfl,rfl,hk,aW,hm,ay,aA⟩;subst A B;unfold rG;by_cases hi:i<u.blocks.length
 ·refine ltYes ?_;obtain⟨l11,cb,cd,bE,bG,ce,aX,bH⟩:=aA.stR 3 rfl (k:=i) (y:=(-1:Int)) (u:=V.int .i64 (-1)) (by omega) rfl rfl rfl;refine d9 (aA.ld 1 rfl rfl) (d9 bE ?_);rw[bG,ec];simp only[wAE,wAC]at aX;refine addOne ⟨k-1,by omega,i+1,xs.set i (-1),rfl,rfl,rfl,rfl,rfl,rfl,by omega,by simp[aW],λj hj=>?_,ay.trans bH,aX⟩;by_cases e:j=i
  ·subst e;rw[wAK (by omega)]
  ·rw[wAN λh=>e h.symm];exact hm j (by omega)
 refine ltNo ?_;obtain rfl:i=u.blocks.length:=by omega
 have lo:=(r2.since ay).len;rw[ab]at lo;refine d9 lo ?_
 refine xS (λk A B X x6 aB aY aZ h'=>∃(i:Nat) (pl:List Nat),A=vo/\B=va/\X = .ptr l5 0/\x6 = .ptr l6 0/\aB=vo/\aY = .int .i64 u.blocks.length/\aZ = .int .i64 i/\i+k=u.blocks.length/\pl.length=u.blocks.length/\(∀j b,j<i->post.reverse[j]? =some b->pl[b]? =some j)/\
  Sn F3 h9 F3 h'/\Hold F3 h' (cellP l6 tyInts [vp]::cellP l5 tyInts [vi]::rowP eN tyInt pl vp::rowP eZ tyInt xs vi::cellP lb 30 (uC u vv vb vs)::cs)) ?_ (k:=u.blocks.length)
  ⟨0,_,rfl,rfl,rfl,rfl,rfl,rfl,rfl,by omega,by simp,λj b hj=>by omega,ay,aA⟩
 rintro k1 A B X x6 aB aY aZ cf ⟨i,pl,e3,e4,rfl,rfl,cg,rfl,rfl,ci,a5,a6,an,ao⟩;subst A B aB;unfold rz;by_cases hi:i<u.blocks.length
 ·refine ltYes ?_;obtain⟨b,f⟩:∃b,post.reverse[i]? =some b:=⟨_,wAA (by omega)⟩
  have ac:b<u.blocks.length:=G.pre b (wBD.1 (wAI f));obtain⟨l13,cj,_,j1,j2⟩:=(r2.since an).nat f .i64;obtain⟨l14,cl,cm,bI,aC,cn,a7,bJ⟩:=ao.stR 2 rfl (k:=b) (y:=i) (u:=V.int .i64 i) (by omega) rfl rfl rfl;refine d9 j1 (d9 j2 (d9 (ao.ld 0 rfl rfl) (d9 bI ?_)));rw[aC,ec];simp only[wAE,wAC]at a7;refine addOne ⟨k1-1,by omega,i+1,pl.set b i,rfl,rfl,rfl,rfl,rfl,rfl,rfl,by omega,by simp[a5],λj c hj hc=>?_,an.trans bJ,a7⟩;by_cases e:c=b
  ·subst e;have r:=zf G f;have h2:=zf G hc;obtain rfl:i=j:=by omega
   rw[wAK (by omega)]
  ·rw [wAN λh=>e h.symm];refine a6 j c ?_ hc;rcases wBK j i with r|r
   ·exact r
   ·obtain rfl:j=i:=by omega
    rw[f]at hc;exact absurd (Option.some.inj hc).symm e
 refine ltNo ?_;obtain rfl:i=u.blocks.length:=by omega
 have ap:∀b,G.gr.node b->pl[b]? =some (G.gr.place b):=λb f=>by
  have r:=z6 post.reverse b (wBD.2 f);exact a6 (post.reverse.idxOf b) b (by have:=(wAB.1 r).1;omega) r
 have lo:=(r2.since an).len;rw[ab]at lo;refine d9 lo (fk (if_f (by omega) ?_));obtain⟨co,cp,cq,aC,bK,cr,a8,bL⟩:=ao.stR 3 rfl (k:=0) (y:=(0:Int)) (u:=V.int .i64 0) (by omega) rfl rfl rfl;refine d9 (ao.ld 1 rfl rfl) (d9 aC ?_);rw[bK,ec];simp only[wAE,wAC]at a8;have bQ:IdomR (λx=>x=0) (λ_=>0) u.blocks.length (xs.set 0 0):=⟨by simp[aW],λb f=>by rw[f,wAK (by omega)];rfl,λb f hn=>by rw[wAN λh=>hn h.symm];exact hm b f⟩
 have q:∀b,G.gr.node b↔b<u.blocks.length:=λb=>⟨λf=>G.pre b f,λf=>Et g G b f⟩
 have Y:∀b,G.gr.node b->G.gr.place b<u.blocks.length:=λb f=>by
  have r:=z6 post.reverse b (wBD.2 f);have:=(wAB.1 r).1;show post.reverse.idxOf b<_;omega
 have a9:∀p,p<u.blocks.length->∃b,G.gr.node b/\G.gr.place b=p:=λp D=>by
  obtain⟨b,f⟩:∃b,post.reverse[p]? =some b:=⟨_,wAA (by omega)⟩
  exact⟨b,wBD.1 (wAI f),zf G f⟩
 refine xQ (λk A B X J K h'=>∃(c:Bool) (kk:Nat) (I:Nat->Nat) (S:Nat->Prop) (idl:List Int),A=vo/\B=va/\X = .ptr l5 0/\J = .func fY [] [.ptr l6 0,.ptr l5 0]/\K = .bool c/\k+kk=u.blocks.length+2/\(c=true->kk<=u.blocks.length+1)/\
  (c=false->(∀b,G.gr.node b->S b)/\∀b,G.gr.node b->b≠0->Fix_ G.gr I S b)/\Dm.Inv G.gr I S kk 1/\IdomR S I u.blocks.length idl/\
  Sn F3 h9 F3 h'/\Hold F3 h' (cellP l6 tyInts [vp]::cellP l5 tyInts [vi]::rowP eN tyInt pl vp::rowP eZ tyInt idl vi::cellP lb 30 (uC u vv vb vs)::cs)) ?_ (k:=u.blocks.length+1)
  ⟨true,1,λ_=>0,λx=>x=0,_,rfl,rfl,rfl,rfl,rfl,by omega,λ_=>by omega,λh=>(by cases h),Dm.Inv.start,bQ,an.trans bL,a8⟩
 rintro k2 A B X J K ct ⟨c,kk,I,S,idl,e3,e4,rfl,rfl,rfl,cu,bR,bS,hI,hR,aq,aD⟩;subst A B;unfold rL
 cases c with
 | false=>
   refine st_b (if_f (by simp) ?_);obtain⟨hS,hF⟩:=bS rfl;have ba:=invFixed hI hS hF Y a9 (u.blocks.length+1);obtain⟨cv,cw,aE,bU,bV,cx,s,M⟩:=aD.stR 3 rfl (k:=0) (y:=(-1:Int)) (u:=V.int .i64 (-1)) (by rw[hR.len];omega) rfl rfl rfl;refine d9 (aD.ld 1 rfl rfl) (d9 bU ?_);rw[bV,ec];simp only[wAE,wAC]at s;refine d9 (s.ld 1 rfl rfl) ?_;obtain⟨bb,bW,r18⟩:=s.freezeR 3 rfl;simp only[wAE,wAC]at bb;refine H _ _ vi (idl.set 0 (-1)) I seen post G (((bC.trans aq).trans M).trans bW) bb.tail.tail.tail.tail.tail r18 (by simp[hR.len]) (by rw[wAK (by rw[hR.len];omega)]) (λb h0 f=>?_) ⟨by omega,λb f=>(q b).2 f,λb f h0=>?_⟩ λx b f=>?_
   ·rw[wAN λh=>h0 h.symm]
    exact hR.yes b (hS b ((q b).2 f))
   ·obtain⟨r,h2⟩:=hI.tree.up b (hS b ((q b).2 f)) h0
    exact⟨(q _).1 (hI.tree.node _ r),h2⟩
   ·rw[ba.exact (λb f=>(q b).1 f) (by omega) (hS b ((q b).2 f))]
    exact(HZ λa b=>Iff.rfl).symm
 | true =>
   refine st_b (if_t rfl ?_);have cy:=bR rfl;obtain⟨aF,bX,aG⟩:=(r2.since aq).cut (lo:=some (V.int .i64 ((1:Nat):Int))) (hi:=none) (m:=1) (n:=post.reverse.length) (xI _ _ _) (wP _) (by omega) (wAF _);rw[wAg]at aG;refine d9 bX (d9 aG.len ?_);have bc:(post.reverse.drop 1).length=u.blocks.length-1:=by rw[wBy,ab]
   rw[bc]
   refine xR (λk A B X J K N ae ag h'=>∃(i:Nat) (c:Bool) (I:Nat->Nat) (S:Nat->Prop) (idl:List Int),A=vo/\B=va/\X = .ptr l5 0/\J = .func fY [] [.ptr l6 0,.ptr l5 0]/\K = .bool c/\N=aF/\ae = .int .i64 ((u.blocks.length-1:Nat):Int)/\ag = .int .i64 (i:Nat)/\i+k=u.blocks.length-1/\
     (c=true->kk<=u.blocks.length)/\(c=false->∀b,G.gr.node b->G.gr.place b<i+1->S b/\(b≠0->Fix_ G.gr I S b))/\Dm.Inv G.gr I S kk (i+1)/\IdomR S I u.blocks.length idl/\
     Sn F3 h9 F3 h'/\Hold F3 h' (cellP l6 tyInts [vp]::cellP l5 tyInts [vi]::rowP eN tyInt pl vp::rowP eZ tyInt idl vi::cellP lb 30 (uC u vv vb vs)::cs)) ?_ (k:=u.blocks.length-1)
     ⟨0,false,I,S,idl,rfl,rfl,rfl,rfl,rfl,rfl,rfl,rfl,by omega,λh=>(by cases h),λ_ b f bY=>by
       obtain rfl:b=0:=G.gr.inj b 0 f G.gr.first (by have:=G.gr.place0;omega);exact⟨hI.tree.zero,λh=>absurd rfl h⟩,hI,hR,aq,aD⟩
   rintro k3 A B X J K N ae ag aE ⟨i,c,Z,S1,aa,e3,e4,rfl,rfl,rfl,bd,rfl,rfl,cz,be,aH,ah,t,M,s⟩;subst A B N;unfold rC;by_cases hi:i<u.blocks.length-1;rotate_left
   ·refine ltNo ?_
    obtain rfl:i=u.blocks.length-1:=by omega
    have D:=ah.pass λb f=>by have:=Y b f;omega
    refine⟨k2-1,by omega,c,kk+1,Z,S1,aa,rfl,rfl,rfl,rfl,rfl,by omega,λh=>by have:=be h;omega,λh=>?_,D,t,M,s⟩;exact⟨λb f=>(aH h b f (by have:=Y b f;omega)).1,λb f h0=>(aH h b f (by have:=Y b f;omega)).2 h0⟩
   refine ltYes ?_;obtain⟨b,f⟩:∃b,post.reverse[i+1]? =some b:=⟨_,wAA (by omega)⟩
   have ai:G.gr.node b:=wBD.1 (wAI f);have ac:=(q b).1 ai;have aI:G.gr.place b=i+1:=zf G f;have aJ:b≠0:=λe=>by subst e;rw[G.gr.place0]at aI;omega
   have bf:SlR eN F3 aE (post.reverse.drop 1) aF:=aG.keep λl hl=>(M.keep l hl).trans (aq.keep l hl).symm;obtain⟨l18,cA,_,j1,j2⟩:=bf.nat (i:=i) (x:=b) (by rw[wBI,Nat.add_comm];exact f) .i64;obtain⟨cB,cC,bZ,_,m1,m2,m3⟩:=(r3.since M).list (i:=b) (x:=Un.ahead u b) (by simp[ac]) .i64;refine d9 j1 (d9 j2 (d9 m1 (d9 m2 (d9 m3.len ?_))));have R:∀p,G.gr.edge p b↔p∈Un.ahead u b:=λp=>xr.symm;have cD:(Un.ahead u b).length<=700:=by
     rw[<-jO];have:=jR g (i:=u.blocks.length) (j:=0) (b:=b) (wAF _) (by omega);omega
   refine xW (λk A B X J K bg bh N ae ag aK bi bj h'=>∃(j:Nat) (dd:Int),A=vo/\B=va/\X = .ptr l5 0/\J = .func fY [] [.ptr l6 0,.ptr l5 0]/\K = .bool c/\bg = .int .i64 (b:Nat)/\bh = .int .i64 dd/\N=aF/\ae = .int .i64 ((u.blocks.length-1:Nat):Int)/\ag = .int .i64 (i:Nat)/\
     aK=bZ/\bi = .int .i64 ((Un.ahead u b).length:Nat)/\bj = .int .i64 (j:Nat)/\j+k=(Un.ahead u b).length/\h' = aE/\
     ((dd = -1/\∀p∈(Un.ahead u b).take j,¬S1 p)\/∃d:Nat,dd=(d:Int)/\S1 d/\(∀p∈(Un.ahead u b).take j,S1 p->Anc Z d p)/\∀x,(∀p∈(Un.ahead u b).take j,S1 p->Anc Z x p)->Anc Z x d)) ?_ (k:=(Un.ahead u b).length)
     ⟨0,-1,rfl,rfl,rfl,rfl,rfl,rfl,rfl,rfl,rfl,rfl,rfl,rfl,rfl,by omega,rfl,.inl ⟨rfl,λp D=>by simp at D⟩⟩
   rintro k4 A B X J K bg bh N ae ag aK bi bj b4 ⟨j,dd,e3,e4,rfl,rfl,rfl,rfl,rfl,bd,rfl,rfl,cE,rfl,rfl,cF,rfl,T⟩;subst A B N aK;unfold rJ;by_cases hj:j<(Un.ahead u b).length
   ·refine ltYes ?_
    obtain⟨a,ha⟩:∃a,(Un.ahead u b)[j]? =some a:=⟨_,wAA hj⟩
    have bm:a<u.blocks.length:=by
      have:=xr.1 (wAI ha);exact(g.nextLt this).1
    have b5:(Un.ahead u b).take (j+1)=(Un.ahead u b).take j++[a]:=by
      obtain⟨r,rfl⟩:=wAB.1 ha;exact wAT r
    obtain⟨cG,cH,_,q1,q2⟩:=m3.nat ha .i64;refine d9 q1 (d9 q2 (d9 (s.ld 1 rfl rfl) ?_));have w:∀p,p∈(Un.ahead u b).take (j+1)↔p∈(Un.ahead u b).take j\/p=a:=λp=>by rw[b5];simp
    by_cases hS:S1 a;rotate_left
    ·obtain⟨aL,aM,t1,t2⟩:=s.intR 3 rfl (t.no a bm hS) .i64
     refine d9 t1 (d9 t2 (ltYes ?_));refine kZ ?_;unfold iU;refine gj (m:=1) (by omega) (by omega) ⟨k4-1,by omega,j+1,dd,rfl,rfl,rfl,rfl,rfl,rfl,rfl,rfl,rfl,rfl,rfl,rfl,rfl,by omega,rfl,?_⟩;have bn:∀{P:Nat->Prop},(∀p∈(Un.ahead u b).take (j+1),S1 p->P p)↔(∀p∈(Un.ahead u b).take j,S1 p->P p):=λ{P}=>⟨λh p D=>h p ((w p).2 (.inl D)),λh p D hs=>((w p).1 D).elim (λr=>h p r hs) λe=>absurd (e▸hs) hS⟩
     rcases T with⟨rfl,r⟩|⟨d,rfl,r,h2,L⟩
     ·exact .inl ⟨rfl,λp D=>((w p).1 D).elim (r p) λe=>e▸hS⟩
     ·exact .inr ⟨d,rfl,r,bn.2 h2,λx hx=>L x (bn.1 hx)⟩
    obtain⟨aL,aM,t1,t2⟩:=s.intR 3 rfl (t.yes a hS) .i64;refine d9 t1 (d9 t2 (ltNo ?_));rcases T with⟨rfl,r⟩|⟨d,rfl,r,h2,L⟩
    ·refine ltYes ?_
     refine kZ ?_;unfold iU;refine gj (m:=1) (by omega) (by omega) ⟨k4-1,by omega,j+1,(a:Int),rfl,rfl,rfl,rfl,rfl,rfl,rfl,rfl,rfl,rfl,rfl,rfl,rfl,by omega,rfl,?_⟩;refine .inr ⟨a,rfl,hS,λp D hs=>?_,λx hx=>hx a ((w a).2 (.inr rfl)) hS⟩;rcases(w p).1 D with W|rfl
     ·exact absurd hs (r p W)
     ·exact .refl _
    ·refine ltNo ?_
     show cP CS fY [.int .i64 (d:Nat),.int .i64 (a:Nat),.ptr l6 0,.ptr l5 0] b4 _;refine Ip s (i5:=1) (i6:=0) (ii:=3) (ip:=2) rfl rfl rfl rfl ah.tree t ap r hS λd' g1 g2 g3 g4=>?_;refine kZ ?_;unfold iU;refine gj (m:=1) (by omega) (by omega) ⟨k4-1,by omega,j+1,(d':Int),rfl,rfl,rfl,rfl,rfl,rfl,rfl,rfl,rfl,rfl,rfl,rfl,rfl,by omega,rfl,?_⟩;refine .inr ⟨d',rfl,g1,λp D hs=>?_,λx hx=>g4 x (L x λp D hs=>hx p ((w p).2 (.inl D)) hs) (hx a ((w a).2 (.inr rfl)) hS)⟩;rcases(w p).1 D with W|rfl
     ·exact g2.trans (h2 p W hs)
     ·exact g3
   refine ltNo ?_;rw[wA1 (by omega)]at T;obtain⟨p0,bo,bp,b9⟩:=G.gr.early b ai aJ;have bq:S1 p0:=ah.done p0 bo (by omega);obtain⟨d,rfl,cI,aN,aj⟩:∃d:Nat,dd=(d:Int)/\S1 d/\(∀p∈Un.ahead u b,S1 p->Anc Z d p)/\∀x,(∀p∈Un.ahead u b,S1 p->Anc Z x p)->Anc Z x d:=by
     rcases T with⟨_,r⟩|r
     ·exact absurd bq (r p0 ((R p0).1 bp))
     ·exact r
   have al:∀p,S1 p->G.gr.edge p b->Anc Z d p:=λp hs he=>aN p ((R p).1 he) hs;have C:∀x,(∀p,S1 p->G.gr.edge p b->Anc Z x p)->Anc Z x d:=λx hx=>aj x λp D hs=>hx p hs ((R p).2 D);have br:i<1000000000:=by clear T;omega
   have ar:k3-1<k3:=by clear T;omega
   have au:i+1+(k3-1)=u.blocks.length-1:=by clear T;omega
   have am:=(ah.upd ai aJ aI al C).1;refine d9 (s.ld 1 rfl rfl) ?_;by_cases hsame:S1 b/\Z b=d
   ·obtain ⟨U,rfl⟩:=hsame
    obtain⟨aL,aM,t1,t2⟩:=s.intR 3 rfl (t.yes b U) .i64;refine d9 t1 (d9 t2 (yU (if_t rfl ?_)));refine qY ?_;unfold lj;rw[DZ,Fk U]at am;refine gj (m:=1) br (by decide) ⟨k3-1,ar,i+1,c,Z,S1,aa,rfl,rfl,rfl,rfl,rfl,rfl,rfl,rfl,au,be,λhc b' bt bY=>?_,am,t,M,s⟩;rcases wBK (G.gr.place b') (i+1)with r|r
    ·exact aH hc b' bt r
    ·obtain rfl:b' = b:=G.gr.inj _ _ bt ai (by omega)
     exact⟨U,λ_=>⟨al,C⟩⟩
   ·obtain ⟨y,hy,bu⟩:∃y:Int,aa[b]? =some y/\y≠(d:Int):=by
      by_cases U:S1 b
      ·refine⟨(Z b:Int),t.yes b U,λe=>hsame ⟨U,?_⟩⟩
       exact Int.ofNat.inj e
      ·refine⟨-1,t.no b ac U,?_⟩
       omega
    obtain⟨aL,aM,t1,t2⟩:=s.intR 3 rfl hy .i64;refine d9 t1 (d9 t2 (yU (if_f bu ?_)));obtain⟨cJ,cK,cL,b6,b7,cM,bv,b8⟩:=s.stR 3 rfl (k:=b) (y:=(d:Int)) (u:=V.int .i64 (d:Nat)) (by rw[t.len];exact ac) rfl rfl rfl;refine d9 (s.ld 1 rfl rfl) (d9 b6 ?_);rw[b7,ec];simp only[wAE,wAC]at bv;refine qY ?_;unfold lj;refine gj (m:=1) br (by decide) ⟨k3-1,ar,i+1,true,Dm.set Z b d,λx=>S1 x\/x=b,aa.set b (d:Int),rfl,rfl,rfl,rfl,rfl,rfl,rfl,rfl,au,λ_=>?_,λh=>(by cases h),am,⟨by simp[t.len],λx hx=>?_,λx hx hn=>?_⟩,M.trans b8,bv⟩
    ·rcases wBK u.blocks.length kk with r|r
     ·exfalso
      obtain⟨h2,L⟩:=ah.stay (n:=u.blocks.length) (λb f=>(q b).1 f) r ai aJ aI al C;exact hsame ⟨h2,L.symm⟩
     ·exact r
    ·unfold Dm.set
     by_cases e:x=b
     ·subst e
      rw[wAK (by rw[t.len];exact ac),if_pos rfl]
     ·rw[wAN λh=>e h.symm,if_neg e]
      exact t.yes x (hx.resolve_right e)
    ·have e:x≠b:=λe=>hn (.inr e)
     rw[wAN λh=>e h.symm];exact t.no x hx λh=>hn (.inl h)
end
open Go.Proofs.YtpnddokajmjpbaaDoor.Un Go.Proofs.YtpnddokajmjpbaaDoor.Dm
structure DomI (u:U) (idl:List Int) (I:Nat->Nat):Prop where
 len:idl.length=u.blocks.length
 zero:idl[0]? =some (-1)
 at_:∀b,b≠0->b<u.blocks.length->idl[b]? =some (I b:Int)
 rank:∃r:Nat->Nat,∀b,b<u.blocks.length->b≠0->I b<u.blocks.length/\r (I b)<r b
 iff:∀x b,b<u.blocks.length->(Anc I x b↔Domi (next u) x b)
section
variable{F F':Nat->Prop}{h h':Hp}{cs:List Pc}{Q:QP1}{u:U}{vv vb vs:V}{lc:Nat}{bl pl idm:V}{xs ys idl:List Int}{I:Nat->Nat}
structure Cx (F:Nat->Prop) (h:Hp) (cs:List Pc) (lc:Nat) (u:U) (vv vb vs bl pl idm:V) (xs ys idl:List Int) (I:Nat->Nat):Prop where
 ck:Ck F h cs lc u vv vb vs bl pl idm
 rbl:SlR eZ F h xs bl
 rpl:SlR eZ F h ys pl
 rim:SlR eZ F h idl idm
 std:Std u u.blocks.length 0 xs ys
 dom:DomI u idl I
theorem Cx.since (C:Cx F h cs lc u vv vb vs bl pl idm xs ys idl I)(s:Sn F h F' h')(a:Hold F' h' cs):Cx F' h' cs lc u vv vb vs bl pl idm xs ys idl I:=⟨C.ck.since s a,C.rbl.since s,C.rpl.since s,C.rim.since s,C.std,C.dom⟩
theorem Cx.cons (C:Cx F h cs lc u vv vb vs bl pl idm xs ys idl I)(s:Sn F h F' h'){p:Pc}(a:Hold F' h' (p::cs)):Cx F' h' (p::cs) lc u vv vb vs bl pl idm xs ys idl I:=⟨C.ck.cons s a,C.rbl.since s,C.rpl.since s,C.rim.since s,C.std,C.dom⟩
theorem CZ (C:Cx F h cs lc u vv vb vs bl pl idm xs ys idl I){a b:Nat}(m:b<u.blocks.length)(n:Anc I a b)(H:Q (.bool true) h):cP CS ij [.ptr lc 0,.int .i64 a,.int .i64 b] h Q:=by
 refine uK rfl rfl ?_;unfold oQ;obtain⟨r,p⟩:=C.dom.rank;refine sR (λk g i j h'=>∃c:Nat,g = .ptr lc 0/\i = .int .i64 a/\j = .int .i64 (c:Nat)/\k=r c/\c<u.blocks.length/\Anc I a c/\h' = h) ?_ (k:=r b) ⟨b,rfl,rfl,rfl,rfl,m,n,rfl⟩;rintro k g i j h' ⟨c,rfl,rfl,rfl,v,d,f,rfl⟩;unfold li;refine Ki (if_t (by omega) ?_);by_cases e:a=c
 ·exact fk (if_t (by omega) H)
 refine fk (if_f (by omega) ?_)
 cases f with
 |refl=>exact absurd rfl e
 | up h0 q=>
   obtain⟨l,o,_,s,t⟩:=C.rim.int (C.dom.at_ c h0 d) .i64;obtain⟨r1,r2⟩:=p c d h0;exact oN (C.ck.ld 7 rfl) (d9 s (d9 t ⟨r (I c),by omega,I c,rfl,rfl,rfl,rfl,r1,q,rfl⟩))
theorem zm (C:Cx F h cs lc u vv vb vs bl pl idm xs ys idl I){l:List Nat}{v:V}{b p:Nat}(D:SlR eN F h l v)(X:l.length<1000000)(E:b<u.blocks.length)(hs:∀w∈l,∃c j,At u w c j/\(c=b->j<p)/\Domi (next u) c b)(H:Q (.bool true) h) :
  cP CS fW [.ptr lc 0,v,.int .i64 b,.int .i64 p] h Q:=by
 refine yN rfl rfl ?_;unfold sW;refine d9 D.len ?_;refine v6 (λk G J K a d f h'=>∃i:Nat,G = .ptr lc 0/\J = .int .i64 b/\K = .int .i64 p/\a=v/\d = .int .i64 l.length/\f = .int .i64 (i:Nat)/\i+k=l.length/\h' = h) ?_ (k:=l.length) ⟨0,rfl,rfl,rfl,rfl,rfl,rfl,by omega,rfl⟩;rintro k G J K a d f h' ⟨i,rfl,rfl,rfl,rfl,rfl,rfl,Y,rfl⟩;unfold qc;by_cases hi:i<l.length;rotate_left
 ·exact ltNo H
 refine ltYes ?_;obtain⟨c,j,g,n,m⟩:=hs _ (wAR hi);have o:c<u.blocks.length:=by
  obtain⟨B,N,_⟩:=g;exact(wAB.1 N).1
 obtain ⟨O,P⟩:=C.std.yes _ c j g (.inl o);obtain⟨l1,Z,_,R,S⟩:=D.nat (wAA hi) .i64;obtain⟨l2,o2,_,L,M⟩:=C.rbl.int O .i64;obtain⟨l3,o3,_,T,U⟩:=C.rpl.int P .i64;refine d9 R (d9 S (oN (C.ck.ld 5 rfl) (d9 L (d9 M (d9 (fF _ _ _ _) ?_)))));have e:pAnd (.bool (((c:Int)) == (b:Int))) (oB (some (V.ptr lc 0)) λq=>oB (pNil q) λr=>oB (pFA 6 r) λs=>oB (pLd s h') λt=>oB (some (V.int .i64 (l[i]:Nat))) λx=>oB (pIx 1 t x) λy=>oB (pLd y h') λz=>oB (some (V.int .i64 p)) λA=>hbin .geq 3 z A)=some (.bool false):=by
  have l6:pLd (.ptr lc (0+6)) h' = some pl:=C.ck.ld 6 rfl;simp only[en,fc,ed,l6,T,U,kX,gv];congr 2;rw[wBt];intro W;simp only[wAJ,wAt,wAe]at W;have:=n (by omega);omega
 refine d9 e ?_;refine ez (d9 rfl (ez (d9 rfl (ez (d9 (fc _ _) (ez (d9 (ed _ _ _) (ez (d9 (C.ck.ld 5 rfl) (ez (d9 rfl (ez (d9 L (ez (d9 M (ez (d9 rfl (rr ?_))))))))))))))))));refine CZ C E ((C.dom.iff c b E).2 m) (d9 rfl (st_b (if_f (by simp) ?_)));exact addOne ⟨k-1,by omega,i+1,rfl,rfl,rfl,rfl,rfl,rfl,by omega,rfl⟩
theorem zk (C:Cx F h cs lc u vv vb vs bl pl idm xs ys idl I){s b p:Nat}{fs:List Fm}(q:u.states[s]? =some fs)(D:fs.length<=30/\∀f∈fs,f.locals.length<=40/\f.stack.length<=60)(r:b<u.blocks.length)
  (hs:∀w∈frames fs,∃c j,At u w c j/\(c=b->j<p)/\Domi (next u) c b) (H:∀h',Sn F h F h'->Hold F h' cs->Q (.bool true) h') :
  cP CS fT [.ptr lc 0,.int .i64 s,.int .i64 b,.int .i64 p] h Q:=by
 refine uE rfl rfl ?_;unfold nK;obtain⟨l1,M,f,_,E,_,G,t⟩:=C.ck.u.st q;refine d9 (fc _ _) (d9 (ed _ _ _) (oF (C.ck.ld 4 rfl) (d9 E (oF G (d9 t.len ?_)))))
 refine se (λk v x y d e g h'=>∃j:Nat,v = .ptr lc 0/\x = .int .i64 b/\y = .int .i64 p/\d=f/\e = .int .i64 fs.length/\g = .int .i64 (j:Nat)/\j+k=fs.length/\Sn F h F h'/\Hold F h' cs) ?_ (k:=fs.length)
  ⟨0,rfl,rfl,rfl,rfl,rfl,rfl,by omega,Sn.refl _ _,C.ck.H⟩
 rintro k v x y d e g J ⟨j,rfl,rfl,rfl,rfl,rfl,rfl,N,m,z⟩;unfold kQ;by_cases hj:j<fs.length;rotate_left
 ·exact ltNo (H J m z)
 refine ltYes ?_;obtain⟨l3,O,a,c,_,K,L,A,B⟩:=(t.since m).frm (wAA hj);obtain⟨P,R⟩:=D.2 _ (wAR hj);have i:∀w,w∈fs[j].locals\/w∈fs[j].stack->w∈frames fs:=λw l=>by
  unfold frames;rw[wAy];exact⟨fs[j],wAR hj,wAV.2 l⟩
 refine d9 K (d9 L ?_);refine fU z rfl rfl (by simp only[fmC,ee,A.one,B.one];rfl) λS n o=>?_;have C2:=C.since (m.trans o) n.tail;refine oF (n.ld 0 rfl rfl) ?_;refine zm C2 (A.since o) (by omega) r (λw l=>hs w (i w (.inl l))) (d9 rfl ?_);refine ez (d9 rfl (ez (d9 (ed _ _ _) (ez (d9 (n.ld 0 rfl rfl) (ez (d9 rfl (ez (d9 rfl (rr ?_))))))))));refine zm C2 (B.since o) (by omega) r (λw l=>hs w (i w (.inr l))) (d9 rfl (st_b (if_f (by simp) ?_)));exact addOne ⟨k-1,by omega,j+1,rfl,rfl,rfl,rfl,rfl,rfl,by omega,m.trans o,n.tail⟩
theorem Fr {w b k:Nat}(h:Sees u w b k):∃c j,At u w c j/\(c=b->j<k)/\Domi (next u) c b:=by
 obtain⟨c,j,d,a⟩:=h;rcases a with⟨rfl,a⟩|⟨a,f⟩
 ·exact⟨c,j,d,λ_=>a,Domi.self _ _⟩
 ·exact⟨c,j,d,λe=>absurd e a,f⟩
theorem yD {w b:Nat}{B:Bk}(f:u.blocks[b]? =some B)(h:SeesEnd u w b):∃c j,At u w c j/\(c=b->j<B.vals.length)/\Domi (next u) c b:=by
 obtain⟨c,j,a,g⟩:=h;refine⟨c,j,a,λe=>?_,g⟩;subst e;obtain⟨k,d,i⟩:=a;rw[f]at d;cases d;exact(wAB.1 i).1
theorem G9 {lv:Nat}{x:Vl}{w:V}{a0:V}{i k:Nat}(a:a0 = .ptr lc 0)(C:Cx F h (cellP lv tyVal (vlC x w)::cs) lc u vv vb vs bl pl idm xs ys idl I)(hc:lv≠lc)(B:pLd (.ptr lv 5) h=some (.int .i64 x.state))(D:i<u.blocks.length)
  (E:leaves x.op=true->∃fs,u.states[x.state]? =some fs/\(fs.length<=30/\∀f∈fs,f.locals.length<=40/\f.stack.length<=60)/\∀w∈frames fs,∃c j,At u w c j/\(c=i->j<k)/\Domi (next u) c i) {K:QP1}
  (A:∀h',Sn F h F h'->Hold F h' (cellP lv tyVal (vlC x w)::cs)->K (.bool false) h') :
  oP (pGd true (.bool (leaves x.op))) λb=>
  oP (gV b (some a0)) λd=>
  oP (pGd true (.bool (leaves x.op))) λe=>
  oP (gV e (pFA 5 (.ptr lv 0))) λg=>
  oP (pGd true (.bool (leaves x.op))) λl=>
  oP (gV l (pLd g h)) λm=>
  oP (pGd true (.bool (leaves x.op))) λn=>
  oP (gV n (some (.int .i64 i))) λo=>
  oP (pGd true (.bool (leaves x.op))) λp=>
  oP (gV p (some (.int .i64 k))) λq=>
  oP (pGd true (.bool (leaves x.op))) λr=>
  oP (gC r (some (fT,[d,m,o,q]))) λs=>cgP CS s h λt G=>
  oP (pGd true (.bool (leaves x.op))) λv=>
  oP (gV v (hun .not t)) λy=>
  oP (pOr (.bool false) (pPick (.bool (leaves x.op)) y (V.bool false))) λz=>K z G:=by
 subst a
 cases hq:leaves x.op with
 | true=>
   obtain⟨fs,J,L,M⟩:=E hq;refine fi (d9 rfl (fi (d9 (ed _ _ _) (fi (d9 B (fi (d9 rfl (fi (d9 rfl (uU ?_))))))))))
   refine zk C J L D M λh' N O=>fi (d9 rfl (d9 rfl (A h' N O)))
 |false=>exact ft (ft (ft (ft (ft (wZ (ft (d9 rfl (A h (Sn.refl _ _) C.ck.H))))))))
theorem He (g:Good u)(C:Cx F h cs lc u vv vb vs bl pl idm xs ys idl I)(an:lc<h.next){i:Nat}{B:Bk}(c:u.blocks[i]? =some B)(H:∀F' h',Sn F h F' h'->Hold F' h' cs->Q (.bool true) h'):cP CS iu [.ptr lc 0,.int .i64 i] h Q:=by
 refine ye rfl rfl ?_;unfold rx;have nv:=g.nv;have nb:=g.nb;have y:i<u.blocks.length:=(wAB.1 c).1;have X:∀(s:Nat) (fs:List Fm),u.states[s]? =some fs->fs.length<=30/\∀f∈fs,f.locals.length<=40/\f.stack.length<=60:=λs fs a=>by
  obtain⟨_,h2,U⟩:=g.st s fs a;exact⟨h2,λf hf=>⟨(U f hf).1,(U f hf).2.1⟩⟩
 have ao:B.vals.length<=3000:=by
  have:=iy u.vals.length B.vals (yx g c) λv hv=>by
   obtain⟨k,hk⟩:=wAD.1 hv;exact g.atlt v i k ⟨B,c,hk⟩
  omega
 obtain⟨l7,o7,bv,bn,bp,_,i1,i2,V,iN,ip,_⟩:=C.ck.u.blk c;refine d9 (fc _ _) (d9 (ed _ _ _) (oF (C.ck.ld 3 rfl) (d9 i1 (d9 i2 ?_))));refine fU C.ck.H rfl rfl (by simp only[bkC,ee,V.one,iN.one,ip.one];rfl) λh2 H2 A=>?_;have C2:=C.cons A H2;have V:=V.since A;have iN:=iN.since A;have ip:=ip.since A;refine oF (H2.ld 0 rfl rfl) (d9 V.len (oF (H2.ld 0 rfl rfl) (d9 V.len ?_)))
 refine vn (λk Y Z x5 x6 d l o h'=>∃(F':Nat->Prop) (j:Nat),Y = .ptr lc 0/\Z = .int .i64 i/\x5 = .ptr h.next 0/\x6 = .int .i64 B.vals.length/\d=bv/\l = .int .i64 B.vals.length/\o = .int .i64 j/\j+k=B.vals.length/\
  Sn F h2 F' h'/\Hold F' h' (cellP h.next 44 (bkC B bv bn bp)::cs)) ?_ (k:=B.vals.length) ⟨F,0,rfl,rfl,rfl,rfl,rfl,rfl,rfl,by omega,Sn.refl _ _,H2⟩
 rintro k Y Z x5 x6 d l o U ⟨F3,j,rfl,rfl,rfl,rfl,ag,rfl,rfl,hk,D,G⟩;subst d;unfold oT;have C3:=C2.since D G;by_cases hj:j<B.vals.length;rotate_left
 ·refine ltNo ?_;refine oF (G.ld 0 rfl rfl) ?_;by_cases c2:B.fin=2
  ·refine fk (if_t (by omega) ?_);refine oF (G.ld 0 rfl rfl) ?_;refine Dl [B.cond] (iY _) G λF4 h4 v q r r4=>?_;refine zm (C3.since r q) r4 (by simp) y (λw hw=>?_) (H _ _ ((A.trans D).trans r) q.tail);obtain rfl:=wAW.1 hw;exact yD c (g.seesC i B c c2)
  refine fk (if_f (by omega) ?_);by_cases c3:B.fin=3
  ·refine fk (if_t (by omega) ?_);refine oF (G.ld 0 rfl rfl) ?_;have L:B.state<u.states.length:=by
    rcases g.fin i B c with⟨M,_⟩|⟨M,_⟩|⟨_,_,M⟩
    ·omega
    ·omega
    ·exact M
   obtain⟨fs,a⟩:∃fs,u.states[B.state]? =some fs:=⟨_,wAA L⟩
   refine zk C3 a (X _ _ a) y (λw hw=>yD c (g.seesO i B fs c c3 a w hw)) λh4 r q=>H _ _ ((A.trans D).trans r) q.tail
  ·exact fk (if_f (by omega) (H _ _ (A.trans D) G.tail))
 refine ltYes ?_;have e:At u (B.vals[j]) i j:=⟨B,c,wAA hj⟩
 have ah:=g.atlt _ _ _ e;obtain⟨x,J⟩:∃x,u.vals[B.vals[j]]? =some x:=⟨_,wAA ah⟩
 have ai:B.preds.length<=700:=by
  rw[g.preds i B c,<-jO];have:=jR g (i:=u.blocks.length) (j:=0) (b:=i) (wAF _) (by omega);omega
 have t:x.op=21\/x.op=20->x.args.length<=700:=by
  rintro(M|M)
  ·rw[(g.phi _ _ _ _ _ e J M c).2];exact ai
  ·rw[g.putAt _ x J M];omega
 obtain⟨l9,o9,_,j1,j2⟩:=(V.since D).nat (wAA hj) .i64;obtain⟨l10,ap,w,_,q1,q2,iw,_⟩:=C3.ck.u.val J;refine d9 j1 (d9 j2 (d9 (fc _ _) (d9 (ed _ _ _) (oF (C3.ck.ld 2 rfl) (d9 q1 (d9 q2 ?_))))));refine fU G rfl rfl (by simp only[vlC,ee,iw.one];rfl) λh4 q r=>?_;have C4:=C3.cons r q;have N:=iw.since r;have aq:U.next<=h4.next:=r.next;have ar:h.next<U.next:=(G.ok 0 _ rfl).2.1;refine oF (q.ld 0 rfl rfl) ?_;by_cases R:x.op=21
 ·refine fk (if_t (by omega) ?_);refine oF (q.ld 0 rfl rfl) (d9 N.len ?_);have au:=(g.phi _ _ _ _ _ e J R c).2
  refine vx (λk Y Z x5 x6 d l o S aa ab h'=>∃(F':Nat->Prop) (m:Nat),Y = .ptr lc 0/\Z = .int .i64 i/\x5 = .ptr h.next 0/\x6 = .int .i64 B.vals.length/\d=bv/\l = .int .i64 B.vals.length/\o = .int .i64 j/\S=w/\aa = .int .i64 x.args.length/\ab = .int .i64 m/\m+k=x.args.length/\
   Sn F3 h4 F' h'/\Hold F' h' (cellP U.next 42 (vlC x w)::cellP h.next 44 (bkC B bv bn bp)::cs)) ?_ (k:=x.args.length) ⟨F3,0,rfl,rfl,rfl,rfl,rfl,rfl,rfl,rfl,rfl,rfl,by omega,Sn.refl _ _,q⟩
  rintro k2 Y Z x5 x6 d l o S aa ab h5 ⟨F5,m,rfl,rfl,rfl,rfl,ag,rfl,rfl,aw,rfl,rfl,ax,K,T⟩;subst d S;unfold o0;have C5:=C4.since K T;by_cases hm:m<x.args.length;rotate_left
  ·refine ltNo ?_;refine ot ?_;unfold jA;exact addOne ⟨k-1,by omega,F5,j+1,rfl,rfl,rfl,rfl,rfl,rfl,rfl,by omega,(D.trans r).trans K,T.tail⟩
  refine ltYes ?_;obtain⟨l11,ay,am,m1,m2⟩:=(N.since K).nat (wAA hm) .i64;refine d9 m1 (d9 m2 ?_);have aj:m<B.preds.length:=by omega
  obtain⟨p,hp⟩:∃p,B.preds[m]? =some p:=⟨_,wAA aj⟩
  have ac:p<u.blocks.length:=by
   have:=wAI hp;rw[g.preds i B c]at this;exact(g.nextLt (xr.1 this)).1
  obtain⟨P,hP⟩:∃P,u.blocks[p]? =some P:=⟨_,wAA ac⟩
  rw[iY,fD];obtain⟨W,s6,r6⟩:=T.newF (E:=eN) (xs:=[x.args[m]]) (n:=1) tyInt rfl (qB F5 h5 [x.args[m]]) false;have g6:(h5.new (.cells 3 1 true false (nats [x.args[m]]))).get h5.next=some (.cells 3 1 true false (nats [x.args[m]])):=ef _ _;have C6:=C5.since s6 W;obtain⟨l12,aA,_,n1,n2⟩:=(((ip.since D).since r).since (K.trans s6)).nat hp .i64;obtain⟨l13,aB,pv,pn,pp,_,p1,_,al,_,_,pa⟩:=C6.ck.u.blk hP;refine oF (W.ld 1 rfl rfl) (d9 n1 (d9 n2 (d9 (fc _ _) (d9 (ed _ _ _) (oF (C6.ck.ld 3 rfl) ?_)))));refine oF (W.ld 1 rfl rfl) (d9 n1 (d9 n2 (d9 p1 (oF pa.vals (d9 al.len ⟨⟨g6,O.beq_cells _ _ _ _ _⟩,?_⟩)))));refine zm C6 r6 (by simp) ac (λz hz=>?_) ⟨wAF _,jE (if_t rfl ?_)⟩
  ·obtain rfl:=wAW.1 hz;exact yD hP (g.seesP _ i j x B e J R c m _ p (wAA hm) hp)
  ·exact addOne ⟨k2-1,by omega,_,m+1,rfl,rfl,rfl,rfl,rfl,rfl,rfl,rfl,rfl,rfl,by omega,K.trans s6,W⟩
 refine fk (if_f (by omega) ?_);refine d9 (q.ldA 0 rfl rfl) ?_;refine Do q N (λh=>by have:=t h;omega) λF5 h5 v K T r5=>?_;have C5:=C4.since K T;refine zm C5 r5 (by have:=w9 t;omega) y (λz hz=>Fr (g.seesV _ i j x e J R z hz)) (d9 rfl ?_);refine ez (d9 (ed _ _ _) (ez (d9 (T.ld 0 rfl rfl) (rr ?_))));refine zX (ez (d9 rfl ?_));refine G9 rfl C5 (by have:=A.next;omega) (T.ld 0 rfl rfl) y (λae=>?_) λh6 s6 W=>?_
 ·have L:=g.leave _ x J ae;obtain⟨fs,a⟩:∃fs,u.states[x.state]? =some fs:=⟨_,wAA L⟩
  exact⟨fs,a,X _ _ a,λz hz=>Fr (g.seesS _ i j x fs e J ae a z hz)⟩
 ·refine st_b (if_f (by simp) ?_);refine ot ?_;unfold jA;exact addOne ⟨k-1,by omega,F5,j+1,rfl,rfl,rfl,rfl,rfl,rfl,rfl,by omega,((D.trans r).trans K).trans s6,W.tail⟩
end
open Go.Proofs.YtpnddokajmjpbaaDoor.Un Go.Proofs.YtpnddokajmjpbaaDoor.Dm
section
variable{F F':Nat->Prop}{h h':Hp}{cs:List Pc}{Q:QP1}{u:U}{vv vb vs:V}
theorem Ij (g:Good u)(H0:Hold F h cs)(hu:URd F h u vv vb vs)(H:∀F' h',Sn F h F' h'->Hold F' h' cs->Q (.bool true) h'):cP CS tN [.agg (uC u vv vb vs)] h Q:=by
 refine DI rfl rfl ?_;unfold An;have nv:=g.nv;have nb:=g.nb;have nb0:=g.nb0;have ns:=g.ns;refine kh H0 hu.one λz B s1=>?_;have w:=hu.since s1;have l2:pLd (.ptr h.next (0+2)) z=some vv:=B.ld 0 rfl rfl;have l3:pLd (.ptr h.next (0+3)) z=some vb:=B.ld 0 rfl rfl;have l4:pLd (.ptr h.next (0+4)) z=some vs:=B.ld 0 rfl rfl;refine oF l2 (d9 w.v.len (d9 (kK _ _ _ _) ?_));rw[wBL (by omega)];have e1:pOr (.bool false) (oB (pFA 3 (.ptr h.next 0)) λk=>oB (pLd k z) λl=>oB (pLen l) λm=>hbin .gtr 3 m (V.int .i64 300))=some (.bool false):=by
  simp only[jC,ed,en,l3,w.b.len,kK];rw[wBL (by omega)]
 have e2:pOr (.bool false) (oB (pFA 4 (.ptr h.next 0)) λk=>oB (pLd k z) λl=>oB (pLen l) λm=>hbin .gtr 3 m (V.int .i64 1000))=some (.bool false):=by
  simp only[jC,ed,en,l4,w.s.len,kK];rw[wBL (by omega)]
 have e3:pOr (.bool false) (oB (pFA 3 (.ptr h.next 0)) λk=>oB (pLd k z) λl=>oB (pLen l) λm=>hbin .eql 3 m (V.int .i64 0))=some (.bool false):=by
  simp only[jC,ed,en,l3,w.b.len,fF];congr 2;rw[wAz];omega
 refine d9 e1 (d9 e2 (d9 e3 (st_b (if_f (by simp) ?_))));refine d9 (B.ldA 0 rfl rfl) (d9 (show _=some (V.agg [.int .i64 u.func,.int .i64 u.pc,vv,vb,vs,.nilSlice,.nilSlice,.nilSlice]) from rfl) ?_);refine kh B (by simp only[ee,w.v.one,w.b.one,w.s.one];rfl) λL M s2=>?_;have E:=w.since s2;generalize z.next=lc at*;have l4:pLd (.ptr h.next (0+4)) L=some vs:=M.ld 1 rfl rfl;refine oF l4 (d9 E.s.len ?_);have C2:Ck F L (cellP lc 104 [.int .i64 u.func,.int .i64 u.pc,vv,vb,vs,.nilSlice,.nilSlice,.nilSlice]::cellP h.next 30 (uC u vv vb vs)::cs) lc u vv vb vs .nilSlice .nilSlice .nilSlice:=⟨M,⟨0,_,rfl⟩,E⟩
 refine A1 (by omega) (λF' h'=>F' = F/\Sn F L F h'/\Hold F h' (cellP lc 104 [.int .i64 u.func,.int .i64 u.pc,vv,vb,vs,.nilSlice,.nilSlice,.nilSlice]::cellP h.next 30 (uC u vv vb vs)::cs)) ⟨rfl,Sn.refl _ _,M⟩ (λi hi F' h' a q r=>?_) λF3 h3 a=>?_
 ·obtain⟨rfl,f,n⟩:=a;show cP CS iz [.ptr lc 0,.int .i64 i] h' q;have hs:=wAA hi;obtain⟨g1,g2,g3⟩:=g.st i _ hs;exact If (C2.since f n) hs ⟨g1,g2⟩ g3 λc d e=>r F' c ⟨rfl,f.trans d,e⟩
 obtain⟨rfl,N,H3⟩:=a;refine d9 rfl (ez (d9 rfl (rr ?_)));refine HB g H3 (E.since N) λO P x y xs ys s4 R rb rp std=>?_;refine d9 rfl (ez (d9 rfl ?_));have S:=(E.since N).since s4;have T:Ck O P (cellP lc 104 [.int .i64 u.func,.int .i64 u.pc,vv,vb,vs,x,y,.nilSlice]::cellP h.next 30 (uC u vv vb vs)::cs) lc u vv vb vs x y .nilSlice:=⟨R,⟨0,_,rfl⟩,S⟩
 have l2:pLd (.ptr h.next (0+2)) P=some vv:=R.ld 1 rfl rfl;refine ez (d9 (ed _ _ _) (ez (d9 l2 (ez (d9 S.v.len (ez (d9 rfl (ez (d9 rfl (rr ?_))))))))));refine A1 (F:=O) (by omega) (λF' h'=>Sn O P F' h'/\Hold F' h' (cellP lc 104 [.int .i64 u.func,.int .i64 u.pc,vv,vb,vs,x,y,.nilSlice]::cellP h.next 30 (uC u vv vb vs)::cs)) ⟨Sn.refl _ _,R⟩ (λi hi F' h' a q r=>?_) λF5 h5 a=>?_
 ·obtain⟨f,n⟩:=a;show cP CS gD [.ptr lc 0,.int .i64 i] h' q;exact JD g (T.since f n) (rb.since f) std hi (n.ok 0 _ rfl).2.1 λj c d e=>r j c ⟨f.trans d,e⟩
 obtain⟨J,K⟩:=a;have u5:=S.since J;have l3:pLd (.ptr h.next (0+3)) h5=some vb:=K.ld 1 rfl rfl;refine d9 rfl (ez (d9 rfl (ez (d9 (ed _ _ _) (ez (d9 l3 (ez (d9 u5.b.len (ez (d9 rfl (ez (d9 rfl (rr ?_)))))))))))));refine A1 (F:=F5) (by omega) (λF' h'=>Sn F5 h5 F' h'/\Hold F' h' (cellP lc 104 [.int .i64 u.func,.int .i64 u.pc,vv,vb,vs,x,y,.nilSlice]::cellP h.next 30 (uC u vv vb vs)::cs)) ⟨Sn.refl _ _,K⟩ (λi hi F' h' a q r=>?_) λF6 h6 a=>?_
 ·obtain⟨f,n⟩:=a;show cP CS iF [.ptr lc 0,.int .i64 i] h' q;exact IT g ((T.since J K).since f n) (wAA hi) λj c d e=>r j c ⟨f.trans d,e⟩
 obtain⟨U,W⟩:=a;have u6:=u5.since U;have l3:pLd (.ptr h.next (0+3)) h6=some vb:=W.ld 1 rfl rfl;refine d9 rfl (ez (d9 rfl (ez (d9 (ed _ _ _) (ez (d9 l3 (ez (d9 u6.b.len (ez (d9 rfl (ez (d9 rfl (rr ?_)))))))))))));refine A1 (F:=F6) (by omega) (λF' h'=>Sn F6 h6 F' h'/\Hold F' h' (cellP lc 104 [.int .i64 u.func,.int .i64 u.pc,vv,vb,vs,x,y,.nilSlice]::cellP h.next 30 (uC u vv vb vs)::cs)) ⟨Sn.refl _ _,W⟩ (λi hi F' h' a q r=>?_) λF7 h7 a=>?_
 ·obtain⟨f,n⟩:=a;show cP CS iW [.ptr lc 0,.int .i64 i] h' q;exact JW g (((T.since J K).since U W).since f n) (wAA hi) λj c d e=>r j c ⟨f.trans d,e⟩
 obtain ⟨s7,H7⟩:=a;have u7:=u6.since s7;refine d9 rfl (st_b (if_f (by simp) ?_));refine xY rfl rfl ?_;unfold rq;have lA:pLdA 5 (.ptr lc 0) h7=some (.agg (uC u vv vb vs)):=by
  rw[wK (H7.get 0 rfl),ve (by simp)];rfl
 refine d9 (fc _ _) (d9 (ed _ _ _) (d9 lA ?_));refine DT g H7 u7 λF8 h8 vo seen post s8 X G ro=>?_;have Y:=u7.since s8;have lo:=ro.len;rw[List.length_reverse,DR g G]at lo;refine d9 lo (oF (X.ld 1 rfl rfl) (d9 Y.b.len (yU (if_t rfl ?_))));refine d9 (X.ldA 1 rfl rfl) ?_;refine B4 g X Y λZ h9 vd idl I aa ab G' s9 H9 rd d1 d2 d3 d4 d5=>?_;obtain⟨C,ac,ai,t,A⟩:=H9.st 0 (o:=7) (u:=vd) rfl (by simp) rd.one;refine d9 (fc _ _) (d9 (ed _ _ _) ?_);rw[show V.ptr lc (0+7)=V.ptr lc 7 from rfl,ac,ec];simp only[wAE,wAC]at t;have D:=(Y.since s9).since A;refine oF (t.ld 1 rfl rfl) (d9 D.b.len ?_);have p:=((((J.trans U).trans s7).trans s8).trans s9).trans A
 have ae:Cx Z C (cellP lc 104 [.int .i64 u.func,.int .i64 u.pc,vv,vb,vs,x,y,vd]::cellP h.next 30 (uC u vv vb vs)::cs) lc u vv vb vs x y vd xs ys idl I:=
  ⟨⟨t,⟨0,_,rfl⟩,D⟩,rb.since p,rp.since p,rd.since A,std,⟨d1,d2,d3,⟨G'.gr.place,λb hb h0=>d4.up b hb h0⟩,d5⟩⟩
 refine A1 (F:=Z) (by omega) (λF' h'=>Sn Z C F' h'/\Hold F' h' (cellP lc 104 [.int .i64 u.func,.int .i64 u.pc,vv,vb,vs,x,y,vd]::cellP h.next 30 (uC u vv vb vs)::cs)) ⟨Sn.refl _ _,t⟩ (λi hi F' h' a q r=>?_) λaj al a=>?_
 ·obtain⟨f,n⟩:=a;show cP CS iu [.ptr lc 0,.int .i64 i] h' q;exact He g (ae.since f n) (n.ok 0 _ rfl).2.1 (wAA hi) λj c d e=>r j c ⟨f.trans d,e⟩
 obtain⟨ag,ah⟩:=a;exact H _ _ (((((s1.trans s2).trans N).trans s4).trans p).trans ag) ah.tail.tail
end
