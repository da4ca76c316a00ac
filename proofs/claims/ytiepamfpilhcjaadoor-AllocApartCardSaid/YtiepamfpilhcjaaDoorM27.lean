/- Parts of the proof. -/
import Derived.Test.YtiepamfpilhcjaaDoorM26
namespace Go.Proofs.YtiepamfpilhcjaaDoor.Hx
open Go.Proofs.YtiepamfpilhcjaaDoor.Un Go.Proofs.YtiepamfpilhcjaaDoor.Dm
structure Fix_ (G:Dm.Gr) (I:Nat→Nat) (S:Nat→Prop) (b:Nat):Prop where
 low:∀p,S p→G.edge p b→Anc I (I b) p
 great:∀x,(∀p,S p→G.edge p b→Anc I x p)→Anc I x (I b)
theorem set_same (I:Nat→Nat)(b:Nat):Dm.set I b (I b)=I:=by
 funext x
 unfold Dm.set
 split
 ·rename_i h;rw [h]
 ·rfl
theorem or_same {S:Nat→Prop}{b:Nat}(h:S b):(fun x=>S x∨x=b)=S:=by
 funext x
 exact propext ⟨fun hx=>hx.elim id fun e=>e▸h, .inl⟩
theorem invAgain {G:Dm.Gr}{I:Nat→Nat}{S:Nat→Prop}{k n:Nat}(hI:Dm.Inv G I S k 1)(hS:∀b,G.node b→S b)(hF:∀b,G.node b→b≠0→Fix_ G I S b)(hpl:∀b,G.node b→G.place b<n)(hat:∀p,p<n→∃b,G.node b∧G.place b=p):Dm.Inv G I S (k+1) 1:=by
 have key:∀m,1+m≤n→Dm.Inv G I S k (1+m):=by
  intro m
  induction m with
  | zero=>exact fun _=>hI
  | succ m ih =>
    intro hm
    have h1 := ih (by omega)
    obtain ⟨b, hb, hp⟩ := hat (1 + m) (by omega)
    have h0 : b ≠ 0 := fun e => by subst e; rw [G.place0] at hp; omega
    have h2 := (h1.upd hb h0 hp (hF b hb h0).low (hF b hb h0).great).1
    rw [set_same, or_same (hS b hb)] at h2
    exact h2
 have hn:1≤n:=by have:=hpl 0 G.first;omega
 have h3:=key (n - 1) (by omega)
 rw [show 1+(n - 1)=n by omega] at h3
 exact h3.pass hpl
theorem invFixed {G:Dm.Gr}{I:Nat→Nat}{S:Nat→Prop}{k n:Nat}(hI:Dm.Inv G I S k 1)(hS:∀b,G.node b→S b)(hF:∀b,G.node b→b≠0→Fix_ G I S b)(hpl:∀b,G.node b→G.place b<n)(hat:∀p,p<n→∃b,G.node b∧G.place b=p):∀m,Dm.Inv G I S (k+m) 1
 | 0=>hI
 | m+1=>invAgain (invFixed hI hS hF hpl hat m) hS hF hpl hat
section
variable {u:U} {seen:List Bool} {post:List Nat}
theorem all_post (g:Good u)(G:Go_ u.blocks.length (next u) seen post []):∀b,b<u.blocks.length→b∈post:=by
 have key:∀b l,Pt (next u) b l→b∈post:=by
  intro b l hp
  induction hp with
  | nil=>obtain ⟨p,hp⟩:=G.last rfl;rw [hp];simp
  | step _ he ih =>
    have := (G.iff _).1 (G.closed _ ih _ he)
    simpa using this
 intro b hb
 obtain ⟨l,hl⟩:=g.reach b hb
 exact key b l hl
theorem post_len (g:Good u)(G:Go_ u.blocks.length (next u) seen post []):post.length=u.blocks.length:=G.all (all_post g G)
theorem post_nd (G:Go_ u.blocks.length (next u) seen post []):post.reverse.Nodup:=by
 have:=G.nodup
 simp only [List.map_nil,List.append_nil] at this
 rw [List.nodup_iff_pairwise_ne] at this ⊢
 rw [List.pairwise_reverse]
 exact this.imp fun h e=>h e.symm
theorem place_at (G:Go_ u.blocks.length (next u) seen post []){i b:Nat}(h:post.reverse[i]? = some b):G.gr.place b=i:=by
 show post.reverse.idxOf b=i
 obtain ⟨hi,rfl⟩:=List.getElem?_eq_some_iff.1 h
 have hnd:=post_nd G
 have h1:=at_idx post.reverse post.reverse[i] (List.getElem_mem hi)
 obtain ⟨h2,h3⟩:=List.getElem?_eq_some_iff.1 h1
 rcases Nat.lt_trichotomy (post.reverse.idxOf post.reverse[i]) i with h4 | h4 | h4
 ·rw [List.nodup_iff_pairwise_ne,List.pairwise_iff_getElem] at hnd
  exact absurd h3 (hnd _ _ h2 hi h4)
 ·exact h4
 ·rw [List.nodup_iff_pairwise_ne,List.pairwise_iff_getElem] at hnd
  exact absurd h3.symm (hnd _ _ hi h2 h4)
end
section
variable {F F' : Nat→Prop} {h h' : Hp} {cs:List Pc} {Q:QP1} {u:U} {vv vb vs:V}
structure IdomR (S:Nat→Prop) (I:Nat→Nat) (n:Nat) (idl:List Int):Prop where
 len:idl.length=n
 yes:∀b,S b→idl[b]? = some (I b:Int)
 no:∀b,b<n→¬S b→idl[b]? = some (-1)
theorem ct_meet {G:Dm.Gr}{I:Nat→Nat}{S:Nat→Prop}{n l5 l6 t5 t6:Nat}{vi vp:V}{idl:List Int}{pl:List Nat}(H0:Hold F h cs){i5 i6 ii ip:Nat}(h5:cs[i5]? = some (cellP l5 t5 [vi]))(h6:cs[i6]? = some (cellP l6 t6 [vp]))(hi:cs[ii]? = some (rowP eZ tyInt idl vi))(hp:cs[ip]? = some (rowP eN tyInt pl vp))
  (hT:Tree G I S) (hI:IdomR S I n idl) (hpl:∀b,G.node b→pl[b]? = some (G.place b)) {a b:Nat} (ha:S a) (hb:S b)
  (H:∀d,S d→Anc I d a→Anc I d b→(∀x,Anc I x a→Anc I x b→Anc I x d)→Q (.int .i64 (d:Nat)) h):cP CS n_ssa_Dominators_1 [.int .i64 (a:Nat), .int .i64 (b:Nat), .ptr l6 0, .ptr l5 0] h Q:=by
 refine c_ssa_Dominators_1 rfl rfl ?_
 unfold B_ssa_Dominators_1
 refine l_ssa_Dominators_1_L0 (fun k x0 x1 x2 x3 h'=>∃a' b' : Nat,x0 = .int .i64 (a' : Nat)∧x1 = .int .i64 (b' : Nat)∧x2 = .ptr l6 0∧x3 = .ptr l5 0∧h' = h∧k=G.place a' + G.place b'∧S a'∧S b'∧Anc I a' a∧Anc I b' b∧(∀x,Anc I x a→Anc I x b→Anc I x a'∧Anc I x b')) ?_ (k:=G.place a+G.place b)
  ⟨a,b,rfl,rfl,rfl,rfl,rfl,rfl,ha,hb, .refl _, .refl _,fun x h1 h2=>⟨h1,h2⟩⟩
 rintro k x0 x1 x2 x3 h' ⟨a',b',rfl,rfl,rfl,rfl,rfl,hk,sa,sb,aa,ab,hx⟩
 unfold B_ssa_Dominators_1_L0
 by_cases e:a' = b'
 ·subst e
  refine st_ne (if_t rfl ?_)
  exact H a' sa aa ab fun x h1 h2=>(hx x h1 h2).1
 refine st_ne (if_f (by omega) ?_)
 obtain ⟨lp,op,p1,p2⟩:=H0.natR ip hp (hpl a' (hT.node _ sa)) .i64
 obtain ⟨lq,oq,q1,q2⟩:=H0.natR ip hp (hpl b' (hT.node _ sb)) .i64
 refine oP_mk (H0.ld i6 h6 rfl) (oP_mk p1 (oP_mk p2 (oP_mk (H0.ld i6 h6 rfl) (oP_mk q1 (oP_mk q2 ?_)))))
 by_cases hlt:G.place b' < G.place a'
 ·refine st_gt (if_t (by omega) ?_)
  obtain ⟨li,oi,j1,j2⟩:=H0.intR ii hi (hI.yes a' sa) .i64
  refine oP_mk (H0.ld i5 h5 rfl) (oP_mk j1 (oP_mk j2 ?_))
  have h0:a'≠0:=fun e=>by subst e;rw [G.place0] at hlt;omega
  obtain ⟨u1,u2⟩:=hT.up a' sa h0
  exact ⟨_,by omega,I a',b',rfl,rfl,rfl,rfl,rfl,rfl,u1,sb,(Anc.up h0 (.refl _)).trans aa,ab,fun x h1 h2=>⟨hT.meetL sa sb hlt (hx x h1 h2).1 (hx x h1 h2).2,(hx x h1 h2).2⟩⟩
 ·refine st_gt (if_f (by omega) ?_)
  obtain ⟨li,oi,j1,j2⟩:=H0.intR ii hi (hI.yes b' sb) .i64
  refine oP_mk (H0.ld i5 h5 rfl) (oP_mk j1 (oP_mk j2 ?_))
  have hlt' : G.place a' < G.place b':=by
   have:G.place a'≠G.place b':=fun e'=>e (G.inj _ _ (hT.node _ sa) (hT.node _ sb) e')
   omega
  have h0:b'≠0:=fun e=>by subst e;rw [G.place0] at hlt';omega
  obtain ⟨u1,u2⟩:=hT.up b' sb h0
  exact ⟨_,by omega,a',I b',rfl,rfl,rfl,rfl,rfl,rfl,sa,u1,aa,(Anc.up h0 (.refl _)).trans ab,fun x h1 h2=>⟨(hx x h1 h2).1,hT.meetL sb sa hlt' (hx x h1 h2).2 (hx x h1 h2).1⟩⟩
theorem ct_Dominators (g:Good u)(H0:Hold F h cs)(hu:URd F h u vv vb vs)
  (H:∀F' h' v idl I seen post (G:Go_ u.blocks.length (next u) seen post []),Sn F h F' h'→Hold F' h' cs→SlR eZ F' h' idl v→idl.length=u.blocks.length→idl[0]? = some (-1)→(∀b,b≠0→b<u.blocks.length→idl[b]? = some (I b:Int))→Tree G.gr I (fun b=>b<u.blocks.length)→
   (∀x b,b<u.blocks.length→(Anc I x b↔Domi (next u) x b))→Q v h'):cP CS n_ssa_Dominators [.agg (uC u vv vb vs)] h Q:=by
 refine c_ssa_Dominators rfl rfl ?_
 unfold B_ssa_Dominators
 have nb:=g.nb
 have nb0:=g.nb0
 refine st_box H0 hu.one fun h1 H1 s1=>?_
 have lA:=H1.ldA (n:=5) 0 rfl rfl
 refine oP_mk lA (oP_mk lA ?_)
 refine ct_Order g H1 (hu.since s1) fun F2 h2 vo seen post s2 H2 G r2=>⟨s2.next,H2.ldA 0 rfl rfl,?_⟩
 refine ct_Ahead g H2 (hu.since (s1.trans s2)) fun F3 h3 va s3 H3 r3=>⟨s3.next,?_⟩
 have u3:=hu.since ((s1.trans s2).trans s3)
 have r2:=r2.since s3
 refine oP_mk (pFA_ptr _ _ _) (oP_mk (H3.ld 0 rfl rfl) (oP_mk u3.b.len ?_))
 rw [hmake_of (z:=V.int .i64 0) rfl (by decide) (by omega),alO_some]
 obtain ⟨H4,s4⟩:=H3.make (E:=eZ) (ty:=tyInt) (y:=0) (u:=V.int .i64 0) u.blocks.length rfl rfl
 have n4:(h3.new (.cells tyInt 1 true false (List.replicate u.blocks.length (V.int .i64 0)))).next=h3.next+1:=rfl
 have g4:(h3.new (.cells tyInt 1 true false (List.replicate u.blocks.length (V.int .i64 0)))).get h3.next=some (.cells 3 1 true false (List.replicate u.blocks.length (V.int .i64 0))):=get_new_self _ _
 show oP (pFA 3 (.ptr h.next 0)) _
 generalize hz4:h3.new (.cells tyInt 1 true false (List.replicate u.blocks.length (V.int .i64 0)))=h4 at *
 refine oP_mk (pFA_ptr _ _ _) (oP_mk (H4.ld 1 rfl rfl) (oP_mk (u3.since s4).b.len ?_))
 rw [hmake_of (z:=V.int .i64 0) rfl (by decide) (by omega),alO_some]
 obtain ⟨H5,s5⟩:=H4.make (E:=eN) (ty:=tyInt) (y:=0) (u:=V.int .i64 0) u.blocks.length rfl rfl
 have n5:(h4.new (.cells tyInt 1 true false (List.replicate u.blocks.length (V.int .i64 0)))).next=h4.next+1:=rfl
 have g5:(h4.new (.cells tyInt 1 true false (List.replicate u.blocks.length (V.int .i64 0)))).get h4.next=some (.cells 3 1 true false (List.replicate u.blocks.length (V.int .i64 0))):=get_new_self _ _
 have g45:=(get_new_lt (h:=h4) (.cells tyInt 1 true false (List.replicate u.blocks.length (V.int .i64 0))) (l:=h3.next) (by omega)).trans g4
 generalize hz5:h4.new (.cells tyInt 1 true false (List.replicate u.blocks.length (V.int .i64 0)))=h5 at *
 rw [alO_some]
 obtain ⟨H6,s6⟩:=H5.newC tyInts [V.nilSlice]
 have n6:(h5.new (.cells tyInts 1 true false [V.nilSlice])).next=h5.next+1:=rfl
 have g6:(h5.new (.cells tyInts 1 true false [V.nilSlice])).get h5.next=some (.cells 22 1 true false [V.nilSlice]):=get_new_self _ _
 have g56:=(get_new_lt (h:=h5) (.cells tyInts 1 true false [V.nilSlice]) (l:=h4.next) (by omega)).trans g5
 have g46:=(get_new_lt (h:=h5) (.cells tyInts 1 true false [V.nilSlice]) (l:=h3.next) (by omega)).trans g45
 show alO _ (h5.new (.cells tyInts 1 true false [V.nilSlice])) _
 generalize hz6:h5.new (.cells tyInts 1 true false [V.nilSlice])=h6 at *
 rw [alO_some]
 obtain ⟨H7,s7⟩:=H6.newC tyInts [V.nilSlice]
 have n7:(h6.new (.cells tyInts 1 true false [V.nilSlice])).next=h6.next+1:=rfl
 have g7:(h6.new (.cells tyInts 1 true false [V.nilSlice])).get h6.next=some (.cells 22 1 true false [V.nilSlice]):=get_new_self _ _
 have g67:=(get_new_lt (h:=h6) (.cells tyInts 1 true false [V.nilSlice]) (l:=h5.next) (by omega)).trans g6
 have g57:=(get_new_lt (h:=h6) (.cells tyInts 1 true false [V.nilSlice]) (l:=h4.next) (by omega)).trans g56
 have g47:=(get_new_lt (h:=h6) (.cells tyInts 1 true false [V.nilSlice]) (l:=h3.next) (by omega)).trans g46
 show (((h6.new (.cells tyInts 1 true false [V.nilSlice])).get h6.next=_∧_)∧_)
 generalize hz7:h6.new (.cells tyInts 1 true false [V.nilSlice])=h7 at *
 refine ⟨⟨g7,O.beq_cells _ _ _ _ _⟩,⟨g67,O.beq_cells _ _ _ _ _⟩,⟨g57,O.beq_cells _ _ _ _ _⟩,H7.ld 4 rfl rfl,⟨g47,O.beq_cells _ _ _ _ _⟩,H7.ld 4 rfl rfl,?_⟩
 obtain ⟨h8,e8,n8,H8,s8,k8⟩:=H7.stk 1 (o:=0) (u:= .slice h3.next 0 u.blocks.length) rfl (by simp) rfl
 rw [e8,valP_some]
 refine ⟨n8,⟨(k8 _ (by omega)).trans g57,O.beq_cells _ _ _ _ _⟩,(by simp only [List.set_cons_succ,List.set_cons_zero] at H8;exact H8.ld 4 rfl rfl),?_⟩
 simp only [List.set_cons_succ,List.set_cons_zero] at H8
 obtain ⟨h9,e9,n9,H9,s9⟩:=H8.st 0 (o:=0) (u:= .slice h4.next 0 u.blocks.length) rfl (by simp) rfl
 rw [e9,valP_some]
 refine ⟨n9,?_⟩
 simp only [List.set_cons_zero] at H9
 have s39:=((((s4.trans s5).trans s6).trans s7).trans s8).trans s9
 have s09:=((s1.trans s2).trans s3).trans s39
 have r2:=r2.since s39
 have r3:=r3.since s39
 clear g4 g5 g6 g7 g45 g46 g47 g56 g57 g67 k8 e8 e9 hz4 hz5 hz6 hz7 H1 H2 H3 H4 H5 H6 H7 H8 s1 s2 s3 s4 s5 s6 s7 s8 s9 lA u3
 generalize V.slice h3.next 0 u.blocks.length=vi at *
 generalize V.slice h4.next 0 u.blocks.length=vp at *
 generalize h6.next=l6 at *
 generalize h5.next=l5 at *
 generalize h.next=lb at *
 have lvi:=H9.len 3 (xs:=List.replicate u.blocks.length (0:Int)) rfl
 rw [List.length_replicate] at lvi
 refine oP_mk (H9.ld 1 rfl rfl) (oP_mk lvi ?_)
 have hpl:=post_len g G
 have hord:post.reverse.length=u.blocks.length:=by simpa using hpl
 refine l_ssa_Dominators_L0 (fun k x3 x4 x5 x6 x30 x31 h'=>∃(i:Nat) (xs:List Int),x3=vo∧x4=va∧x5 = .ptr l5 0∧x6 = .ptr l6 0∧x30 = .int .i64 (u.blocks.length:Nat)∧x31 = .int .i64 (i:Nat)∧i+k=u.blocks.length∧xs.length=u.blocks.length∧(∀j,j<i→xs[j]? = some (-1))∧
  Sn F3 h9 F3 h'∧Hold F3 h' (cellP l6 tyInts [vp]::cellP l5 tyInts [vi]::rowP eN tyInt (List.replicate u.blocks.length 0) vp::rowP eZ tyInt xs vi::cellP lb 29 (uC u vv vb vs)::cs)) ?_ (k:=u.blocks.length)
  ⟨0,_,rfl,rfl,rfl,rfl,rfl,rfl,by omega,by simp,fun j hj=>by omega,Sn.refl _ _,H9⟩
 rintro k x3 x4 x5 x6 x30 x31 h10 ⟨i,xs,e3,e4,rfl,rfl,rfl,rfl,hk,hxs,hm,s10,H10⟩
 subst x3 x4
 unfold B_ssa_Dominators_L0
 by_cases hi:i<u.blocks.length
 ·refine st_lt (if_t (by omega) ?_)
  obtain ⟨l11,o11,h11,e11,e12,n11,H11,s11⟩:=H10.stR 3 rfl (k:=i) (y:=(-1:Int)) (u:=V.int .i64 (-1)) (by omega) rfl rfl rfl
  refine oP_mk (H10.ld 1 rfl rfl) (oP_mk e11 ?_)
  rw [e12,valP_some]
  simp only [List.set_cons_succ,List.set_cons_zero] at H11
  refine st_add (m:=1) (by omega) (by omega) ⟨k - 1,by omega,i+1,xs.set i (-1),rfl,rfl,rfl,rfl,rfl,rfl,by omega,by simp [hxs],fun j hj=>?_,s10.trans s11,H11⟩
  by_cases e:j=i
  ·subst e;rw [List.getElem?_set_self (by omega)]
  ·rw [List.getElem?_set_ne fun h=>e h.symm];exact hm j (by omega)
 refine st_lt (if_f (by omega) ?_)
 obtain rfl:i=u.blocks.length:=by omega
 have lo:=(r2.since s10).len
 rw [hord] at lo
 refine oP_mk lo ?_
 refine l_ssa_Dominators_L1 (fun k x3 x4 x5 x6 x38 x39 x40 h'=>∃(i:Nat) (pl:List Nat),x3=vo∧x4=va∧x5 = .ptr l5 0∧x6 = .ptr l6 0∧x38=vo∧x39 = .int .i64 (u.blocks.length:Nat)∧x40 = .int .i64 (i:Nat)∧i+k=u.blocks.length∧pl.length=u.blocks.length∧(∀j b,j<i→post.reverse[j]? = some b→pl[b]? = some j)∧
  Sn F3 h9 F3 h'∧Hold F3 h' (cellP l6 tyInts [vp]::cellP l5 tyInts [vi]::rowP eN tyInt pl vp::rowP eZ tyInt xs vi::cellP lb 29 (uC u vv vb vs)::cs)) ?_ (k:=u.blocks.length)
  ⟨0,_,rfl,rfl,rfl,rfl,rfl,rfl,rfl,by omega,by simp,fun j b hj=>by omega,s10,H10⟩
 rintro k1 x3 x4 x5 x6 x38 x39 x40 h12 ⟨i,pl,e3,e4,rfl,rfl,e38,rfl,rfl,hk1,hpll,hpm,s12,H12⟩
 subst x3 x4 x38
 unfold B_ssa_Dominators_L1
 by_cases hi:i<u.blocks.length
 ·refine st_lt (if_t (by omega) ?_)
  obtain ⟨b,hb⟩:∃b,post.reverse[i]? = some b:=⟨_,List.getElem?_eq_getElem (by omega)⟩
  have hbl:b<u.blocks.length:=G.pre b (List.mem_reverse.1 (List.mem_of_getElem? hb))
  obtain ⟨l13,o13,_,j1,j2⟩:=(r2.since s12).nat hb .i64
  obtain ⟨l14,o14,h14,e14,e15,n14,H14,s14⟩:=H12.stR 2 rfl (k:=b) (y:=i) (u:=V.int .i64 (i:Nat)) (by omega) rfl rfl rfl
  refine oP_mk j1 (oP_mk j2 (oP_mk (H12.ld 0 rfl rfl) (oP_mk e14 ?_)))
  rw [e15,valP_some]
  simp only [List.set_cons_succ,List.set_cons_zero] at H14
  refine st_add (m:=1) (by omega) (by omega) ⟨k1 - 1,by omega,i+1,pl.set b i,rfl,rfl,rfl,rfl,rfl,rfl,rfl,by omega,by simp [hpll],fun j c hj hc=>?_,s12.trans s14,H14⟩
  by_cases e:c=b
  ·subst e
   have h1:=place_at G hb
   have h2:=place_at G hc
   obtain rfl:i=j:=by omega
   rw [List.getElem?_set_self (by omega)]
  ·rw [List.getElem?_set_ne fun h=>e h.symm]
   refine hpm j c ?_ hc
   rcases Nat.lt_or_ge j i with h1 | h1
   ·exact h1
   ·obtain rfl:j=i:=by omega
    rw [hb] at hc
    exact absurd (Option.some.inj hc).symm e
 refine st_lt (if_f (by omega) ?_)
 obtain rfl:i=u.blocks.length:=by omega
 have hplace:∀b,G.gr.node b→pl[b]? = some (G.gr.place b):=fun b hb=>by
  have h1:=at_idx post.reverse b (List.mem_reverse.2 hb)
  exact hpm (post.reverse.idxOf b) b (by have:=(List.getElem?_eq_some_iff.1 h1).1;omega) h1
 have lo:=(r2.since s12).len
 rw [hord] at lo
 refine oP_mk lo (st_eq (if_f (by omega) ?_))
 obtain ⟨l15,o15,h15,e15,e16,n15,H15,s15⟩:=H12.stR 3 rfl (k:=0) (y:=(0:Int)) (u:=V.int .i64 0) (by omega) rfl rfl rfl
 refine oP_mk (H12.ld 1 rfl rfl) (oP_mk e15 ?_)
 rw [e16,valP_some]
 simp only [List.set_cons_succ,List.set_cons_zero] at H15
 have hR0:IdomR (fun x=>x=0) (fun _=>0) u.blocks.length (xs.set 0 0):=⟨by simp [hxs],fun b hb=>by rw [hb,List.getElem?_set_self (by omega)];rfl,fun b hb hn=>by rw [List.getElem?_set_ne fun h=>hn h.symm];exact hm b hb⟩
 have hnode:∀b,G.gr.node b↔b<u.blocks.length:=fun b=>⟨fun hb=>G.pre b hb,fun hb=>all_post g G b hb⟩
 have hgpl:∀b,G.gr.node b→G.gr.place b<u.blocks.length:=fun b hb=>by
  have h1:=at_idx post.reverse b (List.mem_reverse.2 hb)
  have:=(List.getElem?_eq_some_iff.1 h1).1
  show post.reverse.idxOf b<_
  omega
 have hgat:∀p,p<u.blocks.length→∃b,G.gr.node b∧G.gr.place b=p:=fun p hp=>by
  obtain ⟨b,hb⟩:∃b,post.reverse[p]? = some b:=⟨_,List.getElem?_eq_getElem (by omega)⟩
  exact ⟨b,List.mem_reverse.1 (List.mem_of_getElem? hb),place_at G hb⟩
 refine l_ssa_Dominators_L2 (fun k x3 x4 x5 x10 x11 h'=>∃(c:Bool) (kk:Nat) (I:Nat→Nat) (S:Nat→Prop) (idl:List Int),x3=vo∧x4=va∧x5 = .ptr l5 0∧x10 = .func n_ssa_Dominators_1 [] [.ptr l6 0, .ptr l5 0]∧x11 = .bool c∧k+kk=u.blocks.length+2∧(c=true→kk≤u.blocks.length+1)∧
  (c=false→(∀b,G.gr.node b→S b)∧∀b,G.gr.node b→b≠0→Fix_ G.gr I S b)∧Dm.Inv G.gr I S kk 1∧IdomR S I u.blocks.length idl∧
  Sn F3 h9 F3 h'∧Hold F3 h' (cellP l6 tyInts [vp]::cellP l5 tyInts [vi]::rowP eN tyInt pl vp::rowP eZ tyInt idl vi::cellP lb 29 (uC u vv vb vs)::cs)) ?_ (k:=u.blocks.length+1)
  ⟨true,1,fun _=>0,fun x=>x=0,_,rfl,rfl,rfl,rfl,rfl,by omega,fun _=>by omega,fun h=>(by cases h),Dm.Inv.start,hR0,s12.trans s15,H15⟩
 rintro k2 x3 x4 x5 x10 x11 h16 ⟨c,kk,I,S,idl,e3,e4,rfl,rfl,rfl,hk2,hc1,hc2,hI,hR,s16,H16⟩
 subst x3 x4
 unfold B_ssa_Dominators_L2
 cases c with
 | false =>
   refine st_b (if_f (by simp) ?_)
   obtain ⟨hS, hF⟩ := hc2 rfl
   have hfix := invFixed hI hS hF hgpl hgat (u.blocks.length + 1)
   obtain ⟨l17, o17, h17, e17, e18, n17, H17, s17⟩ := H16.stR 3 rfl (k := 0) (y := (-1 : Int)) (u := V.int .i64 (-1)) (by rw [hR.len]; omega) rfl rfl rfl
   refine oP_mk (H16.ld 1 rfl rfl) (oP_mk e17 ?_)
   rw [e18, valP_some]
   simp only [List.set_cons_succ, List.set_cons_zero] at H17
   refine oP_mk (H17.ld 1 rfl rfl) ?_
   obtain ⟨H18, s18, r18⟩ := H17.freezeR 3 rfl
   simp only [List.set_cons_succ, List.set_cons_zero] at H18
   refine H _ _ vi (idl.set 0 (-1)) I seen post G (((s09.trans s16).trans s17).trans s18) H18.tail.tail.tail.tail.tail r18 (by simp [hR.len]) (by rw [List.getElem?_set_self (by rw [hR.len]; omega)]) (fun b h0 hb => ?_) ⟨by omega, fun b hb => (hnode b).2 hb, fun b hb h0 => ?_⟩ fun x b hb => ?_
   · rw [List.getElem?_set_ne fun h => h0 h.symm]
     exact hR.yes b (hS b ((hnode b).2 hb))
   · obtain ⟨h1, h2⟩ := hI.tree.up b (hS b ((hnode b).2 hb)) h0
     exact ⟨(hnode _).1 (hI.tree.node _ h1), h2⟩
   · rw [hfix.exact (fun b hb => (hnode b).1 hb) (by omega) (hS b ((hnode b).2 hb))]
     exact (domi_iff fun a b => Iff.rfl).symm
 | true =>
   refine st_b (if_t rfl ?_)
   have hkk := hc1 rfl
   obtain ⟨v59, e59, r59⟩ := (r2.since s16).cut (lo := some (V.int .i64 ((1 : Nat) : Int))) (hi := none) (m := 1) (n := post.reverse.length) (hbound_at _ _ _) (hbound_none _) (by omega) (Nat.le_refl _)
   rw [List.take_length] at r59
   refine oP_mk e59 (oP_mk r59.len ?_)
   have hl59 : (post.reverse.drop 1).length = u.blocks.length - 1 := by rw [List.length_drop, hord]
   rw [hl59]
   refine l_ssa_Dominators_L3 (fun k x3 x4 x5 x10 x11 x59 x60 x61 h' => ∃ (i : Nat) (c : Bool) (I : Nat → Nat) (S : Nat → Prop) (idl : List Int), x3 = vo ∧ x4 = va ∧ x5 = .ptr l5 0 ∧ x10 = .func n_ssa_Dominators_1 [] [.ptr l6 0, .ptr l5 0] ∧ x11 = .bool c ∧ x59 = v59 ∧ x60 = .int .i64 ((u.blocks.length - 1 : Nat) : Int) ∧ x61 = .int .i64 (i : Nat) ∧ i + k = u.blocks.length - 1 ∧
     (c = true → kk ≤ u.blocks.length) ∧ (c = false → ∀ b, G.gr.node b → G.gr.place b < i + 1 → S b ∧ (b ≠ 0 → Fix_ G.gr I S b)) ∧ Dm.Inv G.gr I S kk (i + 1) ∧ IdomR S I u.blocks.length idl ∧
     Sn F3 h9 F3 h' ∧ Hold F3 h' (cellP l6 tyInts [vp] :: cellP l5 tyInts [vi] :: rowP eN tyInt pl vp :: rowP eZ tyInt idl vi :: cellP lb 29 (uC u vv vb vs) :: cs)) ?_ (k := u.blocks.length - 1)
     ⟨0, false, I, S, idl, rfl, rfl, rfl, rfl, rfl, rfl, rfl, rfl, by omega, fun h => (by cases h), fun _ b hb hlt => by
       obtain rfl : b = 0 := G.gr.inj b 0 hb G.gr.first (by have := G.gr.place0; omega)
       exact ⟨hI.tree.zero, fun h => absurd rfl h⟩, hI, hR, s16, H16⟩
   rintro k3 x3 x4 x5 x10 x11 x59 x60 x61 h17 ⟨i, c, I1, S1, idl1, e3, e4, rfl, rfl, rfl, e59', rfl, rfl, hk3, hd1, hd2, hI1, hR1, s17, H17⟩
   subst x3 x4 x59
   unfold B_ssa_Dominators_L3
   by_cases hi : i < u.blocks.length - 1
   rotate_left
   · refine st_lt (if_f (by omega) ?_)
     obtain rfl : i = u.blocks.length - 1 := by omega
     have hp := hI1.pass fun b hb => by have := hgpl b hb; omega
     refine ⟨k2 - 1, by omega, c, kk + 1, I1, S1, idl1, rfl, rfl, rfl, rfl, rfl, by omega, fun h => by have := hd1 h; omega, fun h => ?_, hp, hR1, s17, H17⟩
     exact ⟨fun b hb => (hd2 h b hb (by have := hgpl b hb; omega)).1, fun b hb h0 => (hd2 h b hb (by have := hgpl b hb; omega)).2 h0⟩
   refine st_lt (if_t (by omega) ?_)
   obtain ⟨b, hb⟩ : ∃ b, post.reverse[i + 1]? = some b := ⟨_, List.getElem?_eq_getElem (by omega)⟩
   have hbn : G.gr.node b := List.mem_reverse.1 (List.mem_of_getElem? hb)
   have hbl := (hnode b).1 hbn
   have hbp : G.gr.place b = i + 1 := place_at G hb
   have hb0 : b ≠ 0 := fun e => by subst e; rw [G.gr.place0] at hbp; omega
   have r59' : SlR eN F3 h17 (post.reverse.drop 1) v59 := r59.keep fun l hl => (s17.keep l hl).trans (s16.keep l hl).symm
   obtain ⟨l18, o18, _, j1, j2⟩ := r59'.nat (i := i) (x := b) (by rw [List.getElem?_drop, Nat.add_comm]; exact hb) .i64
   obtain ⟨l19, o19, w19, _, m1, m2, m3⟩ := (r3.since s17).list (i := b) (x := Un.ahead u b) (by simp [hbl]) .i64
   refine oP_mk j1 (oP_mk j2 (oP_mk m1 (oP_mk m2 (oP_mk m3.len ?_))))
   have hedge : ∀ p, G.gr.edge p b ↔ p ∈ Un.ahead u b := fun p => mem_ahead.symm
   have hal : (Un.ahead u b).length ≤ 700 := by
     rw [← aheadUp_all]
     have := aheadUp_len g (i := u.blocks.length) (j := 0) (b := b) (Nat.le_refl _) (by omega)
     omega
   refine l_ssa_Dominators_L4 (fun k x3 x4 x5 x10 x11 x13 x14 x59 x60 x61 x68 x69 x70 h' => ∃ (j : Nat) (dd : Int), x3 = vo ∧ x4 = va ∧ x5 = .ptr l5 0 ∧ x10 = .func n_ssa_Dominators_1 [] [.ptr l6 0, .ptr l5 0] ∧ x11 = .bool c ∧ x13 = .int .i64 (b : Nat) ∧ x14 = .int .i64 dd ∧ x59 = v59 ∧ x60 = .int .i64 ((u.blocks.length - 1 : Nat) : Int) ∧ x61 = .int .i64 (i : Nat) ∧
     x68 = w19 ∧ x69 = .int .i64 ((Un.ahead u b).length : Nat) ∧ x70 = .int .i64 (j : Nat) ∧ j + k = (Un.ahead u b).length ∧ h' = h17 ∧
     ((dd = -1 ∧ ∀ p ∈ (Un.ahead u b).take j, ¬ S1 p) ∨ ∃ d : Nat, dd = (d : Int) ∧ S1 d ∧ (∀ p ∈ (Un.ahead u b).take j, S1 p → Anc I1 d p) ∧ ∀ x, (∀ p ∈ (Un.ahead u b).take j, S1 p → Anc I1 x p) → Anc I1 x d)) ?_ (k := (Un.ahead u b).length)
     ⟨0, -1, rfl, rfl, rfl, rfl, rfl, rfl, rfl, rfl, rfl, rfl, rfl, rfl, rfl, by omega, rfl, .inl ⟨rfl, fun p hp => by simp at hp⟩⟩
   rintro k4 x3 x4 x5 x10 x11 x13 x14 x59 x60 x61 x68 x69 x70 h18 ⟨j, dd, e3, e4, rfl, rfl, rfl, rfl, rfl, e59', rfl, rfl, e68, rfl, rfl, hk4, rfl, hdd⟩
   subst x3 x4 x59 x68
   unfold B_ssa_Dominators_L4
   by_cases hj : j < (Un.ahead u b).length
   · refine st_lt (if_t (by omega) ?_)
     obtain ⟨a, ha⟩ : ∃ a, (Un.ahead u b)[j]? = some a := ⟨_, List.getElem?_eq_getElem hj⟩
     have hal2 : a < u.blocks.length := by
       have := mem_ahead.1 (List.mem_of_getElem? ha)
       exact (g.nextLt this).1
     have htk : (Un.ahead u b).take (j + 1) = (Un.ahead u b).take j ++ [a] := by
       obtain ⟨h1, rfl⟩ := List.getElem?_eq_some_iff.1 ha
       exact List.take_succ_eq_append_getElem h1
     obtain ⟨l20, o20, _, q1, q2⟩ := m3.nat ha .i64
     refine oP_mk q1 (oP_mk q2 (oP_mk (H17.ld 1 rfl rfl) ?_))
     have hmem : ∀ p, p ∈ (Un.ahead u b).take (j + 1) ↔ p ∈ (Un.ahead u b).take j ∨ p = a := fun p => by rw [htk]; simp
     by_cases hS : S1 a
     rotate_left
     · obtain ⟨l21, o21, t1, t2⟩ := H17.intR 3 rfl (hR1.no a hal2 hS) .i64
       refine oP_mk t1 (oP_mk t2 (st_lt (if_t (by omega) ?_)))
       refine j_ssa_Dominators_R39 ?_
       unfold B_ssa_Dominators_R39
       refine st_add (m := 1) (by omega) (by omega) ⟨k4 - 1, by omega, j + 1, dd, rfl, rfl, rfl, rfl, rfl, rfl, rfl, rfl, rfl, rfl, rfl, rfl, rfl, by omega, rfl, ?_⟩
       have hno : ∀ {P : Nat → Prop}, (∀ p ∈ (Un.ahead u b).take (j + 1), S1 p → P p) ↔ (∀ p ∈ (Un.ahead u b).take j, S1 p → P p) := fun {P} => ⟨fun h p hp => h p ((hmem p).2 (.inl hp)), fun h p hp hs => ((hmem p).1 hp).elim (fun h1 => h p h1 hs) fun e => absurd (e ▸ hs) hS⟩
       rcases hdd with ⟨rfl, h1⟩ | ⟨d, rfl, h1, h2, h3⟩
       · exact .inl ⟨rfl, fun p hp => ((hmem p).1 hp).elim (h1 p) fun e => e ▸ hS⟩
       · exact .inr ⟨d, rfl, h1, hno.2 h2, fun x hx => h3 x (hno.1 hx)⟩
     obtain ⟨l21, o21, t1, t2⟩ := H17.intR 3 rfl (hR1.yes a hS) .i64
     refine oP_mk t1 (oP_mk t2 (st_lt (if_f (by omega) ?_)))
     rcases hdd with ⟨rfl, h1⟩ | ⟨d, rfl, h1, h2, h3⟩
     · refine st_lt (if_t (by omega) ?_)
       refine j_ssa_Dominators_R39 ?_
       unfold B_ssa_Dominators_R39
       refine st_add (m := 1) (by omega) (by omega) ⟨k4 - 1, by omega, j + 1, (a : Int), rfl, rfl, rfl, rfl, rfl, rfl, rfl, rfl, rfl, rfl, rfl, rfl, rfl, by omega, rfl, ?_⟩
       refine .inr ⟨a, rfl, hS, fun p hp hs => ?_, fun x hx => hx a ((hmem a).2 (.inr rfl)) hS⟩
       rcases (hmem p).1 hp with h4 | rfl
       · exact absurd hs (h1 p h4)
       · exact .refl _
     · refine st_lt (if_f (by omega) ?_)
       show cP CS n_ssa_Dominators_1 [.int .i64 (d : Nat), .int .i64 (a : Nat), .ptr l6 0, .ptr l5 0] h18 _
       refine ct_meet H17 (i5 := 1) (i6 := 0) (ii := 3) (ip := 2) rfl rfl rfl rfl hI1.tree hR1 hplace h1 hS fun d' g1 g2 g3 g4 => ?_
       refine j_ssa_Dominators_R39 ?_
       unfold B_ssa_Dominators_R39
       refine st_add (m := 1) (by omega) (by omega) ⟨k4 - 1, by omega, j + 1, (d' : Int), rfl, rfl, rfl, rfl, rfl, rfl, rfl, rfl, rfl, rfl, rfl, rfl, rfl, by omega, rfl, ?_⟩
       refine .inr ⟨d', rfl, g1, fun p hp hs => ?_, fun x hx => g4 x (h3 x fun p hp hs => hx p ((hmem p).2 (.inl hp)) hs) (hx a ((hmem a).2 (.inr rfl)) hS)⟩
       rcases (hmem p).1 hp with h4 | rfl
       · exact g2.trans (h2 p h4 hs)
       · exact g3
   refine st_lt (if_f (by omega) ?_)
   rw [List.take_of_length_le (by omega)] at hdd
   obtain ⟨p0, hp0n, hp0e, hp0l⟩ := G.gr.early b hbn hb0
   have hp0S : S1 p0 := hI1.done p0 hp0n (by omega)
   obtain ⟨d, rfl, hdS, hlow0, hgreat0⟩ : ∃ d : Nat, dd = (d : Int) ∧ S1 d ∧ (∀ p ∈ Un.ahead u b, S1 p → Anc I1 d p) ∧ ∀ x, (∀ p ∈ Un.ahead u b, S1 p → Anc I1 x p) → Anc I1 x d := by
     rcases hdd with ⟨_, h1⟩ | h1
     · exact absurd hp0S (h1 p0 ((hedge p0).1 hp0e))
     · exact h1
   have hlow : ∀ p, S1 p → G.gr.edge p b → Anc I1 d p := fun p hs he => hlow0 p ((hedge p).1 he) hs
   have hgreat : ∀ x, (∀ p, S1 p → G.gr.edge p b → Anc I1 x p) → Anc I1 x d := fun x hx => hgreat0 x fun p hp hs => hx p hs ((hedge p).2 hp)
   have hib : i < 1000000000 := by clear hdd; omega
   have hk31 : k3 - 1 < k3 := by clear hdd; omega
   have hk32 : i + 1 + (k3 - 1) = u.blocks.length - 1 := by clear hdd; omega
   have hupd := (hI1.upd hbn hb0 hbp hlow hgreat).1
   refine oP_mk (H17.ld 1 rfl rfl) ?_
   by_cases hsame : S1 b ∧ I1 b = d
   · obtain ⟨hSb, rfl⟩ := hsame
     obtain ⟨l21, o21, t1, t2⟩ := H17.intR 3 rfl (hR1.yes b hSb) .i64
     refine oP_mk t1 (oP_mk t2 (st_ne (if_t rfl ?_)))
     refine j_ssa_Dominators_R31 ?_
     unfold B_ssa_Dominators_R31
     rw [set_same, or_same hSb] at hupd
     refine st_add (m := 1) hib (by decide) ⟨k3 - 1, hk31, i + 1, c, I1, S1, idl1, rfl, rfl, rfl, rfl, rfl, rfl, rfl, rfl, hk32, hd1, fun hc b' hb' hlt => ?_, hupd, hR1, s17, H17⟩
     rcases Nat.lt_or_ge (G.gr.place b') (i + 1) with h1 | h1
     · exact hd2 hc b' hb' h1
     · obtain rfl : b' = b := G.gr.inj _ _ hb' hbn (by omega)
       exact ⟨hSb, fun _ => ⟨hlow, hgreat⟩⟩
   · obtain ⟨y, hy, hyne⟩ : ∃ y : Int, idl1[b]? = some y ∧ y ≠ (d : Int) := by
       by_cases hSb : S1 b
       · refine ⟨(I1 b : Int), hR1.yes b hSb, fun e => hsame ⟨hSb, ?_⟩⟩
         exact Int.ofNat.inj e
       · refine ⟨-1, hR1.no b hbl hSb, ?_⟩
         omega
     obtain ⟨l21, o21, t1, t2⟩ := H17.intR 3 rfl hy .i64
     refine oP_mk t1 (oP_mk t2 (st_ne (if_f hyne ?_)))
     obtain ⟨l22, o22, h22, e22, e23, n22, H22, s22⟩ := H17.stR 3 rfl (k := b) (y := (d : Int)) (u := V.int .i64 (d : Nat)) (by rw [hR1.len]; exact hbl) rfl rfl rfl
     refine oP_mk (H17.ld 1 rfl rfl) (oP_mk e22 ?_)
     rw [e23, valP_some]
     simp only [List.set_cons_succ, List.set_cons_zero] at H22
     refine j_ssa_Dominators_R31 ?_
     unfold B_ssa_Dominators_R31
     refine st_add (m := 1) hib (by decide) ⟨k3 - 1, hk31, i + 1, true, Dm.set I1 b d, fun x => S1 x ∨ x = b, idl1.set b (d : Int), rfl, rfl, rfl, rfl, rfl, rfl, rfl, rfl, hk32, fun _ => ?_, fun h => (by cases h), hupd, ⟨by simp [hR1.len], fun x hx => ?_, fun x hx hn => ?_⟩, s17.trans s22, H22⟩
     · rcases Nat.lt_or_ge u.blocks.length kk with h1 | h1
       · exfalso
         obtain ⟨h2, h3⟩ := hI1.stay (n := u.blocks.length) (fun b hb => (hnode b).1 hb) h1 hbn hb0 hbp hlow hgreat
         exact hsame ⟨h2, h3.symm⟩
       · exact h1
     · unfold Dm.set
       by_cases e : x = b
       · subst e
         rw [List.getElem?_set_self (by rw [hR1.len]; exact hbl), if_pos rfl]
       · rw [List.getElem?_set_ne fun h => e h.symm, if_neg e]
         exact hR1.yes x (hx.resolve_right e)
     · have e : x ≠ b := fun e => hn (.inr e)
       rw [List.getElem?_set_ne fun h => e h.symm]
       exact hR1.no x hx fun h => hn (.inl h)
end
end Go.Proofs.YtiepamfpilhcjaaDoor.Hx
namespace Go.Proofs.YtiepamfpilhcjaaDoor.Hx
open Go.Proofs.YtiepamfpilhcjaaDoor.Un Go.Proofs.YtiepamfpilhcjaaDoor.Dm
structure DomI (u:U) (idl:List Int) (I:Nat→Nat):Prop where
 len:idl.length=u.blocks.length
 zero:idl[0]? = some (-1)
 at_:∀b,b≠0→b<u.blocks.length→idl[b]? = some (I b:Int)
 rank:∃r:Nat→Nat,∀b,b<u.blocks.length→b≠0→I b<u.blocks.length∧r (I b)<r b
 iff:∀x b,b<u.blocks.length→(Anc I x b↔Domi (next u) x b)
section
variable {F F' : Nat→Prop} {h h' : Hp} {cs:List Pc} {Q:QP1} {u:U} {vv vb vs:V} {lc:Nat} {bl pl idm:V} {xs ys idl:List Int} {I:Nat→Nat}
structure Cx (F:Nat→Prop) (h:Hp) (cs:List Pc) (lc:Nat) (u:U) (vv vb vs bl pl idm:V) (xs ys idl:List Int) (I:Nat→Nat):Prop where
 ck:Ck F h cs lc u vv vb vs bl pl idm
 rbl:SlR eZ F h xs bl
 rpl:SlR eZ F h ys pl
 rim:SlR eZ F h idl idm
 std:Std u u.blocks.length 0 xs ys
 dom:DomI u idl I
theorem Cx.since (C:Cx F h cs lc u vv vb vs bl pl idm xs ys idl I)(s:Sn F h F' h') (H' : Hold F' h' cs):Cx F' h' cs lc u vv vb vs bl pl idm xs ys idl I:=⟨C.ck.since s H',C.rbl.since s,C.rpl.since s,C.rim.since s,C.std,C.dom⟩
theorem Cx.cons (C:Cx F h cs lc u vv vb vs bl pl idm xs ys idl I)(s:Sn F h F' h'){p:Pc} (H' : Hold F' h' (p::cs)):Cx F' h' (p::cs) lc u vv vb vs bl pl idm xs ys idl I:=⟨C.ck.cons s H',C.rbl.since s,C.rpl.since s,C.rim.since s,C.std,C.dom⟩
theorem ck_dominates (C:Cx F h cs lc u vv vb vs bl pl idm xs ys idl I){a b:Nat}(hb:b<u.blocks.length)(ha:Anc I a b)(H:Q (.bool true) h):cP CS n_ssa_checker_dominates [.ptr lc 0, .int .i64 (a:Nat), .int .i64 (b:Nat)] h Q:=by
 refine c_ssa_checker_dominates rfl rfl ?_
 unfold B_ssa_checker_dominates
 obtain ⟨r,hr⟩:=C.dom.rank
 refine l_ssa_checker_dominates_L0 (fun k x0 x1 x2 h'=>∃b' : Nat,x0 = .ptr lc 0∧x1 = .int .i64 (a:Nat)∧x2 = .int .i64 (b' : Nat)∧k=r b'∧b' < u.blocks.length∧Anc I a b'∧h' = h) ?_ (k:=r b) ⟨b,rfl,rfl,rfl,rfl,hb,ha,rfl⟩
 rintro k x0 x1 x2 h' ⟨b',rfl,rfl,rfl,hk,hb',ha',rfl⟩
 unfold B_ssa_checker_dominates_L0
 refine st_ge (if_t (by omega) ?_)
 by_cases e:a=b'
 ·exact st_eq (if_t (by omega) H)
 refine st_eq (if_f (by omega) ?_)
 cases ha' with
 | refl=>exact absurd rfl e
 | up h0 hu =>
   obtain ⟨l, o, _, i1, i2⟩ := C.rim.int (C.dom.at_ b' h0 hb') .i64
   obtain ⟨r1, r2⟩ := hr b' hb' h0
   exact oP_mk (pNil_ptr _ _) (oP_mk (pFA_ptr _ _ _) (oP_mk (C.ck.ld 7 rfl) (oP_mk i1 (oP_mk i2 ⟨r (I b'), by omega, I b', rfl, rfl, rfl, rfl, r1, hu, rfl⟩))))
theorem ck_seen (C:Cx F h cs lc u vv vb vs bl pl idm xs ys idl I){l:List Nat}{v:V}{b p:Nat}(hl:SlR eN F h l v)(hn:l.length<1000000)(hb:b<u.blocks.length)(hs:∀w∈l,∃c j,At u w c j∧(c=b→j<p)∧Domi (next u) c b)(H:Q (.bool true) h) :
  cP CS n_ssa_checker_seen [.ptr lc 0,v, .int .i64 (b:Nat), .int .i64 (p:Nat)] h Q:=by
 refine c_ssa_checker_seen rfl rfl ?_
 unfold B_ssa_checker_seen
 refine oP_mk hl.len ?_
 refine l_ssa_checker_seen_L0 (fun k x0 x2 x3 x11 x12 x13 h'=>∃i:Nat,x0 = .ptr lc 0∧x2 = .int .i64 (b:Nat)∧x3 = .int .i64 (p:Nat)∧x11=v∧x12 = .int .i64 (l.length:Nat)∧x13 = .int .i64 (i:Nat)∧i+k=l.length∧h' = h) ?_ (k:=l.length) ⟨0,rfl,rfl,rfl,rfl,rfl,rfl,by omega,rfl⟩
 rintro k x0 x2 x3 x11 x12 x13 h' ⟨i,rfl,rfl,rfl,rfl,rfl,rfl,hk,rfl⟩
 unfold B_ssa_checker_seen_L0
 by_cases hi:i<l.length
 rotate_left
 ·exact st_lt (if_f (by omega) H)
 refine st_lt (if_t (by omega) ?_)
 obtain ⟨c,j,hat,hcj,hdom⟩:=hs _ (List.getElem_mem hi)
 have hcl:c<u.blocks.length:=by
  obtain ⟨B,h1,_⟩:=hat
  exact (List.getElem?_eq_some_iff.1 h1).1
 obtain ⟨y1,y2⟩:=C.std.yes _ c j hat (.inl hcl)
 obtain ⟨l1,o1,_,i1,i2⟩:=hl.nat (List.getElem?_eq_getElem hi) .i64
 obtain ⟨l2,o2,_,j1,j2⟩:=C.rbl.int y1 .i64
 obtain ⟨l3,o3,_,k1,k2⟩:=C.rpl.int y2 .i64
 refine oP_mk i1 (oP_mk i2 (oP_mk (pNil_ptr _ _) (oP_mk (pFA_ptr _ _ _) (oP_mk (C.ck.ld 5 rfl) (oP_mk j1 (oP_mk j2 (oP_mk (hbin_eql _ _ _ _) ?_)))))))
 have e:pAnd (.bool (((c:Int)) == (b:Int))) (oB (some (V.ptr lc 0)) fun v27=>oB (pNil v27) fun v28=>oB (pFA 6 v28) fun v29=>oB (pLd v29 h') fun v30=>oB (some (V.int .i64 (l[i]:Nat))) fun v31=>oB (pIx 1 v30 v31) fun v32=>oB (pLd v32 h') fun v33=>oB (some (V.int .i64 (p:Nat))) fun v34=>hbin .geq 3 v33 v34)=some (.bool false):=by
  have l6:pLd (.ptr lc (0+6)) h' = some pl:=C.ck.ld 6 rfl
  simp only [oB_some',pNil_ptr,pFA_ptr,l6,k1,k2,hbin_geq,pAnd_bool]
  congr 2
  rw [Bool.eq_false_iff]
  intro hh
  simp only [Bool.and_eq_true,beq_iff_eq,decide_eq_true_eq] at hh
  have:=hcj (by omega)
  omega
 refine oP_mk e ?_
 refine gd_ff (oP_mk rfl (gd_ff (oP_mk rfl (gd_ff (oP_mk (pNil_ptr _ _) (gd_ff (oP_mk (pFA_ptr _ _ _) (gd_ff (oP_mk (C.ck.ld 5 rfl) (gd_ff (oP_mk rfl (gd_ff (oP_mk j1 (gd_ff (oP_mk j2 (gd_ff (oP_mk rfl (gc_ff ?_))))))))))))))))))
 refine ck_dominates C hb ((C.dom.iff c b hb).2 hdom) (oP_mk rfl (st_b (if_f (by simp) ?_)))
 exact st_add (m:=1) (by omega) (by omega) ⟨k - 1,by omega,i+1,rfl,rfl,rfl,rfl,rfl,rfl,by omega,rfl⟩
theorem ck_seenState (C:Cx F h cs lc u vv vb vs bl pl idm xs ys idl I){s b p:Nat}{fs:List Fm}(hfs:u.states[s]? = some fs)(hf:fs.length≤30∧∀f∈fs,f.locals.length≤40∧f.stack.length≤60)(hb:b<u.blocks.length)
  (hs:∀w∈frames fs,∃c j,At u w c j∧(c=b→j<p)∧Domi (next u) c b) (H:∀h',Sn F h F h'→Hold F h' cs→Q (.bool true) h') :
  cP CS n_ssa_checker_seenState [.ptr lc 0, .int .i64 (s:Nat), .int .i64 (b:Nat), .int .i64 (p:Nat)] h Q:=by
 refine c_ssa_checker_seenState rfl rfl ?_
 unfold B_ssa_checker_seenState
 obtain ⟨l1,o1,f,_,i1,_,i3,i4⟩:=C.ck.u.st hfs
 refine oP_mk (pNil_ptr _ _) (oP_mk (pFA_ptr _ _ _) (oP_mk (pFA_ptr _ _ _) (oP_mk (C.ck.ld 4 rfl) (oP_mk i1 (oP_mk (pFA_ptr _ _ _) (oP_mk i3 (oP_mk i4.len ?_)))))))
 refine l_ssa_checker_seenState_L0 (fun k x0 x2 x3 x19 x20 x21 h'=>∃j:Nat,x0 = .ptr lc 0∧x2 = .int .i64 (b:Nat)∧x3 = .int .i64 (p:Nat)∧x19=f∧x20 = .int .i64 (fs.length:Nat)∧x21 = .int .i64 (j:Nat)∧j+k=fs.length∧Sn F h F h'∧Hold F h' cs) ?_ (k:=fs.length)
  ⟨0,rfl,rfl,rfl,rfl,rfl,rfl,by omega,Sn.refl _ _,C.ck.H⟩
 rintro k x0 x2 x3 x19 x20 x21 h1 ⟨j,rfl,rfl,rfl,rfl,rfl,rfl,hk,s1,H1⟩
 unfold B_ssa_checker_seenState_L0
 by_cases hj:j<fs.length
 rotate_left
 ·exact st_lt (if_f (by omega) (H h1 s1 H1))
 refine st_lt (if_t (by omega) ?_)
 obtain ⟨l3,o3,a,c,_,j1,j2,ja,jb⟩:=(i4.since s1).frm (List.getElem?_eq_getElem hj)
 obtain ⟨f1,f2⟩:=hf.2 _ (List.getElem_mem hj)
 have hin:∀w,w∈fs[j].locals∨w∈fs[j].stack→w∈frames fs:=fun w hw=>by
  unfold frames
  rw [List.mem_flatMap]
  exact ⟨fs[j],List.getElem_mem hj,List.mem_append.2 hw⟩
 refine oP_mk j1 (oP_mk j2 ?_)
 refine st_copy H1 rfl rfl (by simp only [fmC,allOne_cons,ja.one,jb.one];rfl) fun h2 H2 s2=>?_
 have C2:=C.since (s1.trans s2) H2.tail
 refine oP_mk (pFA_ptr _ _ _) (oP_mk (H2.ld 0 rfl rfl) ?_)
 refine ck_seen C2 (ja.since s2) (by omega) hb (fun w hw=>hs w (hin w (.inl hw))) (oP_mk rfl ?_)
 refine gd_ff (oP_mk rfl (gd_ff (oP_mk (pFA_ptr _ _ _) (gd_ff (oP_mk (H2.ld 0 rfl rfl) (gd_ff (oP_mk rfl (gd_ff (oP_mk rfl (gc_ff ?_))))))))))
 refine ck_seen C2 (jb.since s2) (by omega) hb (fun w hw=>hs w (hin w (.inr hw))) (oP_mk rfl (st_b (if_f (by simp) ?_)))
 exact st_add (m:=1) (by omega) (by omega) ⟨k - 1,by omega,j+1,rfl,rfl,rfl,rfl,rfl,rfl,by omega,s1.trans s2,H2.tail⟩
theorem sees_of {w b k:Nat}(h:Sees u w b k):∃c j,At u w c j∧(c=b→j<k)∧Domi (next u) c b:=by
 obtain ⟨c,j,h1,h2⟩:=h
 rcases h2 with ⟨rfl,h2⟩ | ⟨h2,h3⟩
 ·exact ⟨c,j,h1,fun _=>h2,Domi.self _ _⟩
 ·exact ⟨c,j,h1,fun e=>absurd e h2,h3⟩
theorem seesEnd_of {w b:Nat}{B:Bk}(hB:u.blocks[b]? = some B)(h:SeesEnd u w b):∃c j,At u w c j∧(c=b→j<B.vals.length)∧Domi (next u) c b:=by
 obtain ⟨c,j,h1,h2⟩:=h
 refine ⟨c,j,h1,fun e=>?_,h2⟩
 subst e
 obtain ⟨B',h3,h4⟩:=h1
 rw [hB] at h3;cases h3
 exact (List.getElem?_eq_some_iff.1 h4).1
theorem ss_chain {lv:Nat}{x:Vl}{w:V}{a0:V}{i k:Nat}(ha0:a0 = .ptr lc 0)(C:Cx F h (cellP lv tyVal (vlC x w)::cs) lc u vv vb vs bl pl idm xs ys idl I)(hc:lv≠lc)(H0:pLd (.ptr lv 5) h=some (.int .i64 (x.state:Nat)))(hb:i<u.blocks.length)
  (hl:leaves x.op=true→∃fs,u.states[x.state]? = some fs∧(fs.length≤30∧∀f∈fs,f.locals.length≤40∧f.stack.length≤60)∧∀w∈frames fs,∃c j,At u w c j∧(c=i→j<k)∧Domi (next u) c i) {K:QP1}
  (HK:∀h',Sn F h F h'→Hold F h' (cellP lv tyVal (vlC x w)::cs)→K (.bool false) h') :
  oP (pGd true (.bool (leaves x.op))) fun b12=>
  oP (gV b12 (some a0)) fun v87=>
  oP (pGd true (.bool (leaves x.op))) fun b13=>
  oP (gV b13 (pFA 5 (.ptr lv 0))) fun v88=>
  oP (pGd true (.bool (leaves x.op))) fun b14=>
  oP (gV b14 (pLd v88 h)) fun v89=>
  oP (pGd true (.bool (leaves x.op))) fun b15=>
  oP (gV b15 (some (.int .i64 (i:Nat)))) fun v90=>
  oP (pGd true (.bool (leaves x.op))) fun b16=>
  oP (gV b16 (some (.int .i64 (k:Nat)))) fun v91=>
  oP (pGd true (.bool (leaves x.op))) fun b17=>
  oP (gC b17 (some (n_ssa_checker_seenState,[v87,v89,v90,v91]))) fun y17=>cgP CS y17 h fun v92 h6=>
  oP (pGd true (.bool (leaves x.op))) fun b18=>
  oP (gV b18 (hun .not v92)) fun v93=>
  oP (pOr (.bool false) (pPick (.bool (leaves x.op)) v93 (V.bool false))) fun v95=>K v95 h6:=by
 subst ha0
 cases hq:leaves x.op with
 | true =>
   obtain ⟨fs, h1, h2, h3⟩ := hl hq
   refine gd_tt (oP_mk rfl (gd_tt (oP_mk (pFA_ptr _ _ _) (gd_tt (oP_mk H0 (gd_tt (oP_mk rfl (gd_tt (oP_mk rfl (gc_tt ?_))))))))))
   refine ck_seenState C h1 h2 hb h3 fun h' s' H' => gd_tt (oP_mk rfl (oP_mk rfl (HK h' s' H')))
 | false=>exact gd_tf (gd_tf (gd_tf (gd_tf (gd_tf (gc_tf (gd_tf (oP_mk rfl (HK h (Sn.refl _ _) C.ck.H))))))))
theorem ck_taken (g:Good u)(C:Cx F h cs lc u vv vb vs bl pl idm xs ys idl I)(hlc:lc<h.next){i:Nat}{B:Bk}(hB:u.blocks[i]? = some B)(H:∀F' h',Sn F h F' h'→Hold F' h' cs→Q (.bool true) h'):cP CS n_ssa_checker_taken [.ptr lc 0, .int .i64 (i:Nat)] h Q:=by
 refine c_ssa_checker_taken rfl rfl ?_
 unfold B_ssa_checker_taken
 have nv:=g.nv
 have nb:=g.nb
 have hib:i<u.blocks.length:=(List.getElem?_eq_some_iff.1 hB).1
 have hst:∀(s:Nat) (fs:List Fm),u.states[s]? = some fs→fs.length≤30∧∀f∈fs,f.locals.length≤40∧f.stack.length≤60:=fun s fs hfs=>by
  obtain ⟨_,h2,h3⟩:=g.st s fs hfs
  exact ⟨h2,fun f hf=>⟨(h3 f hf).1,(h3 f hf).2.1⟩⟩
 have hbv:B.vals.length≤3000:=by
  have:=nodup_le u.vals.length B.vals (vals_nodup g hB) fun v hv=>by
   obtain ⟨k,hk⟩:=List.mem_iff_getElem?.1 hv
   exact g.atlt v i k ⟨B,hB,hk⟩
  omega
 obtain ⟨l7,o7,bv,bn,bp,_,i1,i2,iv,iN,ip,_⟩:=C.ck.u.blk hB
 refine oP_mk (pNil_ptr _ _) (oP_mk (pFA_ptr _ _ _) (oP_mk (pFA_ptr _ _ _) (oP_mk (C.ck.ld 3 rfl) (oP_mk i1 (oP_mk i2 ?_)))))
 refine st_copy C.ck.H rfl rfl (by simp only [bkC,allOne_cons,iv.one,iN.one,ip.one];rfl) fun h2 H2 s2=>?_
 have C2:=C.cons s2 H2
 have iv:=iv.since s2
 have iN:=iN.since s2
 have ip:=ip.since s2
 refine oP_mk (pFA_ptr _ _ _) (oP_mk (H2.ld 0 rfl rfl) (oP_mk iv.len (oP_mk (pFA_ptr _ _ _) (oP_mk (H2.ld 0 rfl rfl) (oP_mk iv.len ?_)))))
 refine l_ssa_checker_taken_L0 (fun k x0 x1 x5 x6 x24 x25 x26 h'=>∃(F' : Nat→Prop) (j:Nat),x0 = .ptr lc 0∧x1 = .int .i64 (i:Nat)∧x5 = .ptr h.next 0∧x6 = .int .i64 (B.vals.length:Nat)∧x24=bv∧x25 = .int .i64 (B.vals.length:Nat)∧x26 = .int .i64 (j:Nat)∧j+k=B.vals.length∧
  Sn F h2 F' h'∧Hold F' h' (cellP h.next 36 (bkC B bv bn bp)::cs)) ?_ (k:=B.vals.length) ⟨F,0,rfl,rfl,rfl,rfl,rfl,rfl,rfl,by omega,Sn.refl _ _,H2⟩
 rintro k x0 x1 x5 x6 x24 x25 x26 h3 ⟨F3,j,rfl,rfl,rfl,rfl,e24,rfl,rfl,hk,s3,H3⟩
 subst x24
 unfold B_ssa_checker_taken_L0
 have C3:=C2.since s3 H3
 by_cases hj:j<B.vals.length
 rotate_left
 ·refine st_lt (if_f (by omega) ?_)
  refine oP_mk (pFA_ptr _ _ _) (oP_mk (H3.ld 0 rfl rfl) ?_)
  by_cases c2:B.fin=2
  ·refine st_eq (if_t (by omega) ?_)
   refine oP_mk (pFA_ptr _ _ _) (oP_mk (H3.ld 0 rfl rfl) ?_)
   refine st_row [B.cond] (pBS_nat _) H3 fun F4 h4 v H4 s4 r4=>?_
   refine ck_seen (C3.since s4 H4) r4 (by simp) hib (fun w hw=>?_) (H _ _ ((s2.trans s3).trans s4) H4.tail)
   obtain rfl:=List.mem_singleton.1 hw
   exact seesEnd_of hB (g.seesC i B hB c2)
  refine st_eq (if_f (by omega) ?_)
  by_cases c3:B.fin=3
  ·refine st_eq (if_t (by omega) ?_)
   refine oP_mk (pFA_ptr _ _ _) (oP_mk (H3.ld 0 rfl rfl) ?_)
   have hsl:B.state<u.states.length:=by
    rcases g.fin i B hB with ⟨h1,_⟩ | ⟨h1,_⟩ | ⟨_,_,h1⟩
    ·omega
    ·omega
    ·exact h1
   obtain ⟨fs,hfs⟩:∃fs,u.states[B.state]? = some fs:=⟨_,List.getElem?_eq_getElem hsl⟩
   refine ck_seenState C3 hfs (hst _ _ hfs) hib (fun w hw=>seesEnd_of hB (g.seesO i B fs hB c3 hfs w hw)) fun h4 s4 H4=>H _ _ ((s2.trans s3).trans s4) H4.tail
  ·exact st_eq (if_f (by omega) (H _ _ (s2.trans s3) H3.tail))
 refine st_lt (if_t (by omega) ?_)
 have hat:At u (B.vals[j]) i j:=⟨B,hB,List.getElem?_eq_getElem hj⟩
 have hvl:=g.atlt _ _ _ hat
 obtain ⟨x,hx⟩:∃x,u.vals[B.vals[j]]? = some x:=⟨_,List.getElem?_eq_getElem hvl⟩
 have hbn:B.preds.length≤700:=by
  rw [g.preds i B hB,←aheadUp_all]
  have:=aheadUp_len g (i:=u.blocks.length) (j:=0) (b:=i) (Nat.le_refl _) (by omega)
  omega
 have hargs:x.op=21∨x.op=20→x.args.length≤700:=by
  rintro (h1 | h1)
  ·rw [(g.phi _ _ _ _ _ hat hx h1 hB).2];exact hbn
  ·rw [g.putAt _ x hx h1];omega
 obtain ⟨l9,o9,_,j1,j2⟩:=(iv.since s3).nat (List.getElem?_eq_getElem hj) .i64
 obtain ⟨l10,o10,w,_,q1,q2,iw,_⟩:=C3.ck.u.val hx
 refine oP_mk j1 (oP_mk j2 (oP_mk (pNil_ptr _ _) (oP_mk (pFA_ptr _ _ _) (oP_mk (pFA_ptr _ _ _) (oP_mk (C3.ck.ld 2 rfl) (oP_mk q1 (oP_mk q2 ?_)))))))
 refine st_copy H3 rfl rfl (by simp only [vlC,allOne_cons,iw.one];rfl) fun h4 H4 s4=>?_
 have C4:=C3.cons s4 H4
 have iw4:=iw.since s4
 have hn4:h3.next≤h4.next:=s4.next
 have hl3:h.next<h3.next:=(H3.ok 0 _ rfl).2.1
 refine oP_mk (pFA_ptr _ _ _) (oP_mk (H4.ld 0 rfl rfl) ?_)
 by_cases c21:x.op=21
 ·refine st_eq (if_t (by omega) ?_)
  refine oP_mk (pFA_ptr _ _ _) (oP_mk (H4.ld 0 rfl rfl) (oP_mk iw4.len ?_))
  have hpl:=(g.phi _ _ _ _ _ hat hx c21 hB).2
  refine l_ssa_checker_taken_L1 (fun k x0 x1 x5 x6 x24 x25 x26 x43 x44 x45 h'=>∃(F' : Nat→Prop) (m:Nat),x0 = .ptr lc 0∧x1 = .int .i64 (i:Nat)∧x5 = .ptr h.next 0∧x6 = .int .i64 (B.vals.length:Nat)∧x24=bv∧x25 = .int .i64 (B.vals.length:Nat)∧x26 = .int .i64 (j:Nat)∧x43=w∧x44 = .int .i64 (x.args.length:Nat)∧x45 = .int .i64 (m:Nat)∧m+k=x.args.length∧
   Sn F3 h4 F' h'∧Hold F' h' (cellP h3.next 39 (vlC x w)::cellP h.next 36 (bkC B bv bn bp)::cs)) ?_ (k:=x.args.length) ⟨F3,0,rfl,rfl,rfl,rfl,rfl,rfl,rfl,rfl,rfl,rfl,by omega,Sn.refl _ _,H4⟩
  rintro k2 x0 x1 x5 x6 x24 x25 x26 x43 x44 x45 h5 ⟨F5,m,rfl,rfl,rfl,rfl,e24,rfl,rfl,e43,rfl,rfl,hk2,s5,H5⟩
  subst x24 x43
  unfold B_ssa_checker_taken_L1
  have C5:=C4.since s5 H5
  by_cases hm:m<x.args.length
  rotate_left
  ·refine st_lt (if_f (by omega) ?_)
   refine j_ssa_checker_taken_R14 ?_
   unfold B_ssa_checker_taken_R14
   exact st_add (m:=1) (by omega) (by omega) ⟨k - 1,by omega,F5,j+1,rfl,rfl,rfl,rfl,rfl,rfl,rfl,by omega,(s3.trans s4).trans s5,H5.tail⟩
  refine st_lt (if_t (by omega) ?_)
  obtain ⟨l11,o11,hl11,m1,m2⟩:=(iw4.since s5).nat (List.getElem?_eq_getElem hm) .i64
  refine oP_mk m1 (oP_mk m2 ?_)
  have hpm:m<B.preds.length:=by omega
  obtain ⟨p,hp⟩:∃p,B.preds[m]? = some p:=⟨_,List.getElem?_eq_getElem hpm⟩
  have hpb:p<u.blocks.length:=by
   have:=List.mem_of_getElem? hp
   rw [g.preds i B hB] at this
   exact (g.nextLt (mem_ahead.1 this)).1
  obtain ⟨P,hP⟩:∃P,u.blocks[p]? = some P:=⟨_,List.getElem?_eq_getElem hpb⟩
  rw [pBS_nat,alO_some]
  obtain ⟨H6,s6,r6⟩:=H5.newF (E:=eN) (xs:=[x.args[m]]) (n:=1) tyInt rfl (win_nats F5 h5 [x.args[m]]) false
  have g6:(h5.new (.cells 3 1 true false (nats [x.args[m]]))).get h5.next=some (.cells 3 1 true false (nats [x.args[m]])):=get_new_self _ _
  have C6:=C5.since s6 H6
  obtain ⟨l12,o12,_,n1,n2⟩:=(((ip.since s3).since s4).since (s5.trans s6)).nat hp .i64
  obtain ⟨l13,o13,pv,pn,pp,_,p1,_,pvr,_,_,pa⟩:=C6.ck.u.blk hP
  refine oP_mk (pFA_ptr _ _ _) (oP_mk (H6.ld 1 rfl rfl) (oP_mk n1 (oP_mk n2 (oP_mk (pNil_ptr _ _) (oP_mk (pFA_ptr _ _ _) (oP_mk (pFA_ptr _ _ _) (oP_mk (C6.ck.ld 3 rfl) ?_)))))))
  refine oP_mk (pFA_ptr _ _ _) (oP_mk (H6.ld 1 rfl rfl) (oP_mk n1 (oP_mk n2 (oP_mk p1 (oP_mk (pFA_ptr _ _ _) (oP_mk pa.vals (oP_mk pvr.len ⟨⟨g6,O.beq_cells _ _ _ _ _⟩,?_⟩)))))))
  refine ck_seen C6 r6 (by simp) hpb (fun z hz=>?_) ⟨Nat.le_refl _,st_not (if_t rfl ?_)⟩
  ·obtain rfl:=List.mem_singleton.1 hz
   exact seesEnd_of hP (g.seesP _ i j x B hat hx c21 hB m _ p (List.getElem?_eq_getElem hm) hp)
  ·exact st_add (m:=1) (by omega) (by omega) ⟨k2 - 1,by omega,_,m+1,rfl,rfl,rfl,rfl,rfl,rfl,rfl,rfl,rfl,rfl,by omega,s5.trans s6,H6⟩
 refine st_eq (if_f (by omega) ?_)
 refine oP_mk (H4.ldA 0 rfl rfl) ?_
 refine ct_Uses H4 iw4 (fun h=>by have:=hargs h;omega) fun F5 h5 v s5 H5 r5=>?_
 have C5:=C4.since s5 H5
 refine ck_seen C5 r5 (by have:=uses_len hargs;omega) hib (fun z hz=>sees_of (g.seesV _ i j x hat hx c21 z hz)) (oP_mk rfl ?_)
 refine gd_ff (oP_mk (pFA_ptr _ _ _) (gd_ff (oP_mk (H5.ld 0 rfl rfl) (gc_ff ?_))))
 refine ct_leaves (gd_ff (oP_mk rfl ?_))
 refine ss_chain rfl C5 (by have:=s2.next;omega) (H5.ld 0 rfl rfl) hib (fun hlv=>?_) fun h6 s6 H6=>?_
 ·have hsl:=g.leave _ x hx hlv
  obtain ⟨fs,hfs⟩:∃fs,u.states[x.state]? = some fs:=⟨_,List.getElem?_eq_getElem hsl⟩
  exact ⟨fs,hfs,hst _ _ hfs,fun z hz=>sees_of (g.seesS _ i j x fs hat hx hlv hfs z hz)⟩
 ·refine st_b (if_f (by simp) ?_)
  refine j_ssa_checker_taken_R14 ?_
  unfold B_ssa_checker_taken_R14
  exact st_add (m:=1) (by omega) (by omega) ⟨k - 1,by omega,F5,j+1,rfl,rfl,rfl,rfl,rfl,rfl,rfl,by omega,((s3.trans s4).trans s5).trans s6,H6.tail⟩
end
end Go.Proofs.YtiepamfpilhcjaaDoor.Hx
namespace Go.Proofs.YtiepamfpilhcjaaDoor.Hx
open Go.Proofs.YtiepamfpilhcjaaDoor.Un Go.Proofs.YtiepamfpilhcjaaDoor.Dm
section
variable {F F' : Nat→Prop} {h h' : Hp} {cs:List Pc} {Q:QP1} {u:U} {vv vb vs:V}
theorem ct_Check (g:Good u)(H0:Hold F h cs)(hu:URd F h u vv vb vs)(H:∀F' h',Sn F h F' h'→Hold F' h' cs→Q (.bool true) h'):cP CS n_ssa_Check [.agg (uC u vv vb vs)] h Q:=by
 refine c_ssa_Check rfl rfl ?_
 unfold B_ssa_Check
 have nv:=g.nv
 have nb:=g.nb
 have nb0:=g.nb0
 have ns:=g.ns
 refine st_box H0 hu.one fun h1 H1 s1=>?_
 have u1:=hu.since s1
 have l2:pLd (.ptr h.next (0+2)) h1=some vv:=H1.ld 0 rfl rfl
 have l3:pLd (.ptr h.next (0+3)) h1=some vb:=H1.ld 0 rfl rfl
 have l4:pLd (.ptr h.next (0+4)) h1=some vs:=H1.ld 0 rfl rfl
 refine oP_mk (pFA_ptr _ _ _) (oP_mk l2 (oP_mk u1.v.len (oP_mk (hbin_gtr _ _ _ _) ?_)))
 rw [decide_eq_false (by omega)]
 have e1:pOr (.bool false) (oB (pFA 3 (.ptr h.next 0)) fun v10=>oB (pLd v10 h1) fun v11=>oB (pLen v11) fun v12=>hbin .gtr 3 v12 (V.int .i64 300))=some (.bool false):=by
  simp only [pOr_false,pFA_ptr,oB_some',l3,u1.b.len,hbin_gtr]
  rw [decide_eq_false (by omega)]
 have e2:pOr (.bool false) (oB (pFA 4 (.ptr h.next 0)) fun v10=>oB (pLd v10 h1) fun v11=>oB (pLen v11) fun v12=>hbin .gtr 3 v12 (V.int .i64 1000))=some (.bool false):=by
  simp only [pOr_false,pFA_ptr,oB_some',l4,u1.s.len,hbin_gtr]
  rw [decide_eq_false (by omega)]
 have e3:pOr (.bool false) (oB (pFA 3 (.ptr h.next 0)) fun v10=>oB (pLd v10 h1) fun v11=>oB (pLen v11) fun v12=>hbin .eql 3 v12 (V.int .i64 0))=some (.bool false):=by
  simp only [pOr_false,pFA_ptr,oB_some',l3,u1.b.len,hbin_eql]
  congr 2
  rw [beq_eq_false_iff_ne]
  omega
 refine oP_mk e1 (oP_mk e2 (oP_mk e3 (st_b (if_f (by simp) ?_))))
 refine oP_mk (H1.ldA 0 rfl rfl) (oP_mk (show _=some (V.agg [.int .i64 u.func, .int .i64 u.pc,vv,vb,vs, .nilSlice, .nilSlice, .nilSlice]) from rfl) ?_)
 refine st_box H1 (by simp only [allOne_cons,u1.v.one,u1.b.one,u1.s.one];rfl) fun h2 H2 s2=>?_
 have u2:=u1.since s2
 generalize h1.next=lc at *
 have l4:pLd (.ptr h.next (0+4)) h2=some vs:=H2.ld 1 rfl rfl
 refine oP_mk (pFA_ptr _ _ _) (oP_mk l4 (oP_mk u2.s.len ?_))
 have C2:Ck F h2 (cellP lc 80 [.int .i64 u.func, .int .i64 u.pc,vv,vb,vs, .nilSlice, .nilSlice, .nilSlice]::cellP h.next 29 (uC u vv vb vs)::cs) lc u vv vb vs .nilSlice .nilSlice .nilSlice:=⟨H2,⟨0,80,rfl⟩,u2⟩
 refine ct_all (by omega) (fun F' h'=>F' = F∧Sn F h2 F h'∧Hold F h' (cellP lc 80 [.int .i64 u.func, .int .i64 u.pc,vv,vb,vs, .nilSlice, .nilSlice, .nilSlice]::cellP h.next 29 (uC u vv vb vs)::cs)) ⟨rfl,Sn.refl _ _,H2⟩ (fun i hi F' h' hP Q' hQ=>?_) fun F3 h3 hP=>?_
 ·obtain ⟨rfl,s',H'⟩:=hP
  show cP CS n_ssa_checker_state [.ptr lc 0, .int .i64 (i:Nat)] h' Q'
  have hs:=List.getElem?_eq_getElem hi
  obtain ⟨g1,g2,g3⟩:=g.st i _ hs
  exact ck_state (C2.since s' H') hs ⟨g1,g2⟩ g3 fun h'' s'' H''=>hQ F' h'' ⟨rfl,s'.trans s'',H''⟩
 obtain ⟨rfl,s3,H3⟩:=hP
 refine oP_mk rfl (gd_ff (oP_mk rfl (gc_ff ?_)))
 refine ck_stand g H3 (u2.since s3) fun F4 h4 b' p' xs ys s4 H4 rb rp std=>?_
 refine oP_mk rfl (gd_ff (oP_mk rfl ?_))
 have u4:=(u2.since s3).since s4
 have C4:Ck F4 h4 (cellP lc 80 [.int .i64 u.func, .int .i64 u.pc,vv,vb,vs,b',p', .nilSlice]::cellP h.next 29 (uC u vv vb vs)::cs) lc u vv vb vs b' p' .nilSlice:=⟨H4,⟨0,80,rfl⟩,u4⟩
 have l2:pLd (.ptr h.next (0+2)) h4=some vv:=H4.ld 1 rfl rfl
 refine gd_ff (oP_mk (pFA_ptr _ _ _) (gd_ff (oP_mk l2 (gd_ff (oP_mk u4.v.len (gd_ff (oP_mk rfl (gd_ff (oP_mk rfl (gc_ff ?_))))))))))
 refine ct_all (F:=F4) (by omega) (fun F' h'=>Sn F4 h4 F' h'∧Hold F' h' (cellP lc 80 [.int .i64 u.func, .int .i64 u.pc,vv,vb,vs,b',p', .nilSlice]::cellP h.next 29 (uC u vv vb vs)::cs)) ⟨Sn.refl _ _,H4⟩ (fun i hi F' h' hP Q' hQ=>?_) fun F5 h5 hP=>?_
 ·obtain ⟨s',H'⟩:=hP
  show cP CS n_ssa_checker_val [.ptr lc 0, .int .i64 (i:Nat)] h' Q'
  exact ck_val g (C4.since s' H') (rb.since s') std hi (H'.ok 0 _ rfl).2.1 fun F'' h'' s'' H''=>hQ F'' h'' ⟨s'.trans s'',H''⟩
 obtain ⟨s5,H5⟩:=hP
 have u5:=u4.since s5
 have l3:pLd (.ptr h.next (0+3)) h5=some vb:=H5.ld 1 rfl rfl
 refine oP_mk rfl (gd_ff (oP_mk rfl (gd_ff (oP_mk (pFA_ptr _ _ _) (gd_ff (oP_mk l3 (gd_ff (oP_mk u5.b.len (gd_ff (oP_mk rfl (gd_ff (oP_mk rfl (gc_ff ?_)))))))))))))
 refine ct_all (F:=F5) (by omega) (fun F' h'=>Sn F5 h5 F' h'∧Hold F' h' (cellP lc 80 [.int .i64 u.func, .int .i64 u.pc,vv,vb,vs,b',p', .nilSlice]::cellP h.next 29 (uC u vv vb vs)::cs)) ⟨Sn.refl _ _,H5⟩ (fun i hi F' h' hP Q' hQ=>?_) fun F6 h6 hP=>?_
 ·obtain ⟨s',H'⟩:=hP
  show cP CS n_ssa_checker_ends [.ptr lc 0, .int .i64 (i:Nat)] h' Q'
  exact ck_ends g ((C4.since s5 H5).since s' H') (List.getElem?_eq_getElem hi) fun F'' h'' s'' H''=>hQ F'' h'' ⟨s'.trans s'',H''⟩
 obtain ⟨s6,H6⟩:=hP
 have u6:=u5.since s6
 have l3:pLd (.ptr h.next (0+3)) h6=some vb:=H6.ld 1 rfl rfl
 refine oP_mk rfl (gd_ff (oP_mk rfl (gd_ff (oP_mk (pFA_ptr _ _ _) (gd_ff (oP_mk l3 (gd_ff (oP_mk u6.b.len (gd_ff (oP_mk rfl (gd_ff (oP_mk rfl (gc_ff ?_)))))))))))))
 refine ct_all (F:=F6) (by omega) (fun F' h'=>Sn F6 h6 F' h'∧Hold F' h' (cellP lc 80 [.int .i64 u.func, .int .i64 u.pc,vv,vb,vs,b',p', .nilSlice]::cellP h.next 29 (uC u vv vb vs)::cs)) ⟨Sn.refl _ _,H6⟩ (fun i hi F' h' hP Q' hQ=>?_) fun F7 h7 hP=>?_
 ·obtain ⟨s',H'⟩:=hP
  show cP CS n_ssa_checker_led [.ptr lc 0, .int .i64 (i:Nat)] h' Q'
  exact ck_led g (((C4.since s5 H5).since s6 H6).since s' H') (List.getElem?_eq_getElem hi) fun F'' h'' s'' H''=>hQ F'' h'' ⟨s'.trans s'',H''⟩
 obtain ⟨s7,H7⟩:=hP
 have u7:=u6.since s7
 refine oP_mk rfl (st_b (if_f (by simp) ?_))
 refine c_ssa_checker_order rfl rfl ?_
 unfold B_ssa_checker_order
 have lA:pLdA 5 (.ptr lc 0) h7=some (.agg (uC u vv vb vs)):=by
  rw [pLdA_ptr (H7.get 0 rfl),sub_of (by simp)]
  rfl
 refine oP_mk (pNil_ptr _ _) (oP_mk (pFA_ptr _ _ _) (oP_mk lA ?_))
 refine ct_Order g H7 u7 fun F8 h8 vo seen post s8 H8 G ro=>?_
 have u8:=u7.since s8
 have lo:=ro.len
 rw [List.length_reverse,post_len g G] at lo
 refine oP_mk lo (oP_mk (pFA_ptr _ _ _) (oP_mk (H8.ld 1 rfl rfl) (oP_mk u8.b.len (st_ne (if_t rfl ?_)))))
 refine oP_mk (H8.ldA 1 rfl rfl) ?_
 refine ct_Dominators g H8 u8 fun F9 h9 vd idl I seen' post' G' s9 H9 rd d1 d2 d3 d4 d5=>?_
 obtain ⟨h10,e10,n10,H10,s10⟩:=H9.st 0 (o:=7) (u:=vd) rfl (by simp) rd.one
 refine oP_mk (pNil_ptr _ _) (oP_mk (pFA_ptr _ _ _) ?_)
 rw [show V.ptr lc (0+7)=V.ptr lc 7 from rfl,e10,valP_some]
 simp only [List.set_cons_succ,List.set_cons_zero] at H10
 have u10:=(u8.since s9).since s10
 refine oP_mk (pFA_ptr _ _ _) (oP_mk (H10.ld 1 rfl rfl) (oP_mk u10.b.len ?_))
 have s410:=((((s5.trans s6).trans s7).trans s8).trans s9).trans s10
 have C10:Cx F9 h10 (cellP lc 80 [.int .i64 u.func, .int .i64 u.pc,vv,vb,vs,b',p',vd]::cellP h.next 29 (uC u vv vb vs)::cs) lc u vv vb vs b' p' vd xs ys idl I:=
  ⟨⟨H10,⟨0,80,rfl⟩,u10⟩,rb.since s410,rp.since s410,rd.since s10,std,⟨d1,d2,d3,⟨G'.gr.place,fun b hb h0=>d4.up b hb h0⟩,d5⟩⟩
 refine ct_all (F:=F9) (by omega) (fun F' h'=>Sn F9 h10 F' h'∧Hold F' h' (cellP lc 80 [.int .i64 u.func, .int .i64 u.pc,vv,vb,vs,b',p',vd]::cellP h.next 29 (uC u vv vb vs)::cs)) ⟨Sn.refl _ _,H10⟩ (fun i hi F' h' hP Q' hQ=>?_) fun F11 h11 hP=>?_
 ·obtain ⟨s',H'⟩:=hP
  show cP CS n_ssa_checker_taken [.ptr lc 0, .int .i64 (i:Nat)] h' Q'
  exact ck_taken g (C10.since s' H') (H'.ok 0 _ rfl).2.1 (List.getElem?_eq_getElem hi) fun F'' h'' s'' H''=>hQ F'' h'' ⟨s'.trans s'',H''⟩
 obtain ⟨s11,H11⟩:=hP
 exact H _ _ (((((s1.trans s2).trans s3).trans s4).trans s410).trans s11) H11.tail.tail
end
end Go.Proofs.YtiepamfpilhcjaaDoor.Hx
