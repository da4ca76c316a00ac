/- Parts of the proof. -/
import Derived.Test.YtiepamfpilhcjaaDoorM28
namespace Go.Proofs.YtiepamfpilhcjaaDoor.Hx
open Go.Proofs.YtiepamfpilhcjaaDoor.Un Go.Proofs.YtiepamfpilhcjaaDoor.Dm
theorem bk_congr {u:U}{r:List Nat} {P P' : Nat→Prop}(h:∀w,P w↔P' w)(w:Nat):bk u r P w↔bk u r P' w:=⟨bk_mono (fun x hx=>(h x).1 hx) w,bk_mono (fun x hx=>(h x).2 hx) w⟩
section
variable {F F' : Nat→Prop} {h h' : Hp} {cs:List Pc} {Q:QP1} {u:U} {vv vb vs:V} {lv:Nat} {vin vout:V} {ins outs:List (List Bool)}
theorem lv_block (g:Good u)(H0:Hold F h (rowP (eL eB) tyBools ins vin::rowP (eL eB) tyBools outs vout::cellP lv tyLiver [.int .i64 u.func, .int .i64 u.pc,vv,vb,vs,vin,vout]::cs))(hu:URd F h u vv vb vs)
  (hi1:ins.length=u.blocks.length) (hi2:∀r∈ins,r.length=u.vals.length) (ho1:outs.length=u.blocks.length) {b:Nat} {B:Bk} (hB:u.blocks[b]? = some B)
  (H:∀F' h' c row orow,Sn F h F' h'→Hold F' h' (rowP (eL eB) tyBools (ins.set b row) vin::rowP (eL eB) tyBools (outs.set b orow) vout::cellP lv tyLiver [.int .i64 u.func, .int .i64 u.pc,vv,vb,vs,vin,vout]::cs)→row.length=u.vals.length→orow.length=u.vals.length→
   (∀w,On orow w↔EndP u (headIn u) (inOf ins) b w)→(∀w,On row w↔BackP u b (On orow) w)→(c=false→ins[b]? = some row)→(c=true→ins[b]?≠some row)→Q (.bool c) h') :
  cP CS n_alloc_liver_block [.ptr lv 0, .int .i64 (b:Nat)] h Q:=by
 refine c_alloc_liver_block rfl rfl ?_
 unfold B_alloc_liver_block
 have nv:=g.nv
 have nb:=g.nb
 have hbl:=(List.getElem?_eq_some_iff.1 hB).1
 have C0:Lk F h _ lv u vv vb vs vin vout:=⟨H0,⟨2,rfl⟩,hu⟩
 refine lv_end g C0 (ii:=0) rfl hi1 hi2 hB fun F1 h1 orow vl s1 H1 hol hoe=>?_
 refine oP_mk (pNil_ptr _ _) (oP_mk (pFA_ptr _ _ _) (oP_mk (H1.ld 3 rfl rfl) ?_))
 rw [pBS_zero,alO_some]
 obtain ⟨H2,s2⟩:=H1.newR (E:=eB) (xs:=[]) (ws:=[]) (n:=0) tyBool rfl trivial rfl
 have H2:Hold F1 (h1.new (.cells 4 1 true false [])) (rowP eB tyBool [] (.slice h1.next 0 0)::rowP eB tyBool orow vl::_):=H2
 have s2:Sn F1 h1 F1 (h1.new (.cells 4 1 true false [])):=s2
 have g2:(h1.new (.cells 4 1 true false [])).get h1.next=some (.cells 4 1 true false []):=get_new_self _ _
 generalize h1.new (.cells 4 1 true false [])=h2 at *
 refine ⟨⟨g2,O.beq_cells _ _ _ _ _⟩,H2.ld 4 rfl rfl,?_⟩
 obtain ⟨v3,h3,e3,n3,H3,s3⟩:=H2.appO 0 1 rfl rfl (by_:=1) (by decide) (by decide) (by simp;omega)
 have e3' : happend 4 1 1 (.slice h1.next 0 0) vl h2=some (.val v3 h3):=e3
 rw [e3',valP_some]
 simp only [List.set_cons_zero,List.nil_append] at H3
 obtain ⟨H4,s4,r4⟩:=H3.freezeR 0 rfl
 simp only [List.set_cons_zero] at H4
 obtain ⟨l5,o5,h5,e5,e6,n5,H5,s5⟩:=H4.stR 3 rfl (k:=b) (y:=orow) (u:=v3) (show b<outs.length by omega) rfl r4.one ⟨v3,rfl,r4⟩
 refine ⟨n3,oP_mk e5 ⟨H3.ld 4 rfl rfl,?_⟩⟩
 rw [e6,valP_some]
 refine ⟨n5,?_⟩
 simp only [List.set_cons_succ,List.set_cons_zero] at H5
 have H5:=H5.tail
 have s05:=(((s1.trans s2).trans s3).trans s4).trans s5
 have hu5:=hu.since s05
 generalize (fun l=>F1 l∨Loc v3 l)=F5 at *
 have C5:Lk F5 h5 _ lv u vv vb vs vin vout:=⟨H5,⟨3,rfl⟩,hu5⟩
 obtain ⟨l6,o6,bv,bn,bp,_,i1,i2,iv,iN,ip,ba⟩:=hu5.blk hB
 refine oP_mk (pNil_ptr _ _) (oP_mk (pFA_ptr _ _ _) (oP_mk (pFA_ptr _ _ _) (oP_mk (C5.ld 3 rfl) (oP_mk i1 (oP_mk (pFA_ptr _ _ _) (oP_mk ba.vals (oP_mk iv.len ?_)))))))
 have hbv:=good_vals g hB
 have hvo:valsOf u b=B.vals:=by unfold valsOf;rw [hB]
 have wsub:∀n:Nat,n≤3000→wrapF .i64 (((n:Nat):Int) - 1)=(n:Int) - 1:=fun n hn=>by rw [wrapF_in (by simp only [inK];omega)]
 refine oP_mk (hbin_sub _ _ _ _) ?_
 rw [wsub _ hbv]
 obtain ⟨r0,hr0⟩:∃r,ins[b]? = some r:=⟨_,List.getElem?_eq_getElem (show b<ins.length by omega)⟩
 have hr0l:=hi2 r0 (List.mem_of_getElem? hr0)
 have fin:∀(F6:Nat→Prop) (h6:Hp) (cur:List Bool),Sn F5 h5 F6 h6→Hold F6 h6 (rowP eB tyBool cur vl::rowP (eL eB) tyBools ins vin::rowP (eL eB) tyBools (outs.set b orow) vout::cellP lv tyLiver [.int .i64 u.func, .int .i64 u.pc,vv,vb,vs,vin,vout]::cs)→cur.length=u.vals.length→
   (∀w,On cur w↔BackP u b (On orow) w)→J_alloc_liver_block_L1 CS Q (.ptr lv 0) (.int .i64 (b:Nat)) vl (.bool false) vl (.int .i64 (u.vals.length:Nat)) (.int .i64 0) h6:=by
  intro F6 h6 cur s6 H6 hcl hcb
  refine l_alloc_liver_block_L1 (fun k x0 x1 x5 x8 x55 x56 x57 h'=>∃(i:Nat) (c:Bool),x0 = .ptr lv 0∧x1 = .int .i64 (b:Nat)∧x5=vl∧x8 = .bool c∧x55=vl∧x56 = .int .i64 (u.vals.length:Nat)∧x57 = .int .i64 (i:Nat)∧i+k=u.vals.length∧h' = h6∧(c=false↔cur.take i=r0.take i)) ?_ (k:=u.vals.length)
   ⟨0,false,rfl,rfl,rfl,rfl,rfl,rfl,rfl,by omega,rfl,by simp⟩
  rintro k x0 x1 x5 x8 x55 x56 x57 h' ⟨i,c,rfl,rfl,e5,rfl,e55,rfl,rfl,hk,rfl,hcc⟩
  subst x5 x55
  unfold B_alloc_liver_block_L1
  by_cases hi:i<u.vals.length
  ·refine st_lt (if_t (by omega) ?_)
   obtain ⟨y,hy⟩:∃y,cur[i]? = some y:=⟨_,List.getElem?_eq_getElem (show i<cur.length by omega)⟩
   obtain ⟨z,hz⟩:∃z,r0[i]? = some z:=⟨_,List.getElem?_eq_getElem (show i<r0.length by omega)⟩
   obtain ⟨l7,o7,p1,p2⟩:=H6.boolR 0 rfl hy .i64
   obtain ⟨l8,o8,w8,q1,q2,q3⟩:=H6.listR 1 rfl hr0
   obtain ⟨l9,o9,_,t1,t2⟩:=q3.bool hz .i64
   have l5' : pLd (.ptr lv (0+5)) h' = some vin:=H6.ld 3 rfl rfl
   have eO:pOr (.bool c) (oB (some (V.bool y)) fun v64=>oB (some (V.ptr lv 0)) fun v65=>oB (pNil v65) fun v66=>oB (pFA 5 v66) fun v67=>oB (pLd v67 h') fun v68=>oB (some (V.int .i64 (b:Nat))) fun v69=>oB (pIx 1 v68 v69) fun v70=>oB (pLd v70 h') fun v71=>oB (some (V.int .i64 (i:Nat))) fun v72=>oB (pIx 1 v71 v72) fun v73=>oB (pLd v73 h') fun v74=>hbin .neq 4 v64 v74)=some (.bool (c || (y != z))):=by
    simp only [oB_some',pNil_ptr,pFA_ptr,l5',q1,q2,t1,t2]
    rw [show hbin .neq 4 (V.bool y) (V.bool z)=some (.bool (y != z)) from hbin_neqB y z,pOr_bool]
   refine oP_mk p1 (oP_mk p2 (oP_mk eO ?_))
   refine st_add (m:=1) (by omega) (by omega) ⟨k - 1,by omega,i+1,c || (y != z),rfl,rfl,rfl,rfl,rfl,rfl,rfl,by omega,rfl,?_⟩
   obtain ⟨hy1,rfl⟩:=List.getElem?_eq_some_iff.1 hy
   obtain ⟨hz1,rfl⟩:=List.getElem?_eq_some_iff.1 hz
   rw [List.take_succ_eq_append_getElem hy1,List.take_succ_eq_append_getElem hz1,Bool.or_eq_false_iff,hcc]
   constructor
   ·rintro ⟨h1,h2⟩
    rw [h1]
    congr 2
    simpa using h2
   ·intro h1
    obtain ⟨h2,h3⟩:=List.append_inj h1 (by simp;omega)
    refine ⟨h2,?_⟩
    simp at h3
    simp [h3]
  ·refine st_lt (if_f (by omega) ?_)
   obtain rfl:i=u.vals.length:=by omega
   obtain ⟨H7,s7,r7⟩:=H6.freezeR 0 rfl
   simp only [List.set_cons_zero] at H7
   obtain ⟨l8,o8,h8,e8,e9,n8,H8,s8⟩:=H7.stR 1 rfl (k:=b) (y:=cur) (u:=vl) (show b<ins.length by omega) rfl r7.one ⟨vl,rfl,r7⟩
   refine oP_mk (pNil_ptr _ _) (oP_mk (pFA_ptr _ _ _) (oP_mk (H6.ld 3 rfl rfl) (oP_mk e8 ?_)))
   rw [e9,valP_some]
   simp only [List.set_cons_succ,List.set_cons_zero] at H8
   rw [List.take_of_length_le (by omega),List.take_of_length_le (by omega)] at hcc
   refine H _ _ c cur orow (((s05.trans s6).trans s7).trans s8) H8.tail hcl hol hoe hcb (fun hc=>?_) fun hc he=>?_
   ·rw [hcc.1 hc];exact hr0
   ·rw [hr0] at he
    have:=hcc.2 (Option.some.inj he).symm
    rw [hc] at this;cases this
 refine l_alloc_liver_block_L0 (fun k x0 x1 x5 x6 x7 h'=>∃(F' : Nat→Prop) (l d:List Nat) (cur:List Bool),x0 = .ptr lv 0∧x1 = .int .i64 (b:Nat)∧x5=vl∧x6=bv∧x7 = .int .i64 ((l.length:Int) - 1)∧k=l.length∧B.vals=l++d∧Sn F5 h5 F' h'∧cur.length=u.vals.length∧
  Hold F' h' (rowP eB tyBool cur vl::rowP (eL eB) tyBools ins vin::rowP (eL eB) tyBools (outs.set b orow) vout::cellP lv tyLiver [.int .i64 u.func, .int .i64 u.pc,vv,vb,vs,vin,vout]::cs)∧∀w,bk u l.reverse (On cur) w↔BackP u b (On orow) w) ?_ (k:=B.vals.length)
  ⟨F5,B.vals,[],orow,rfl,rfl,rfl,rfl,rfl,rfl,by simp,Sn.refl _ _,hol,H5,fun w=>by unfold BackP;rw [hvo]⟩
 rintro k x0 x1 x5 x6 x7 h6 ⟨F6,l,d,cur,rfl,rfl,e5',e6',rfl,hk,hld,s6,hcl,H6,hbk⟩
 subst x5 x6
 unfold B_alloc_liver_block_L0
 have lvl:=H6.len 0 (xs:=cur) rfl
 rw [hcl] at lvl
 have hll:l.length≤B.vals.length:=by rw [hld,List.length_append];omega
 refine oP_mk (hbin_geq _ _ _ _) ?_
 rcases eq_nil_or_snoc l with rfl | ⟨s,v,rfl⟩
 ·rw [show decide ((0:Int)≤(([]:List Nat).length:Int) - 1)=false from rfl]
  refine gd_tf (gd_tf (gd_tf (gd_tf (gd_tf (gc_tf (oP_mk (pAnd_false _) (st_b (if_f (by simp) (oP_mk lvl ?_)))))))))
  exact fin F6 h6 cur s6 H6 hcl fun w=>(hbk w)
 ·rw [decide_eq_true (by simp)]
  have hsl:((s++[v]).length:Int) - 1=(s.length:Nat):=by simp
  rw [hsl]
  have hget:B.vals[s.length]? = some v:=by rw [hld];simp
  have hat:At u v b s.length:=⟨B,hB,hget⟩
  have hvl:=g.atlt v b _ hat
  have iv6:SlR eN F6 h6 B.vals bv:=iv.since s6
  have hu6:=hu5.since s6
  have C6:Lk F6 h6 _ lv u vv vb vs vin vout:=⟨H6,⟨3,rfl⟩,hu6⟩
  obtain ⟨l7,o7,_,p1,p2⟩:=iv6.nat hget .i64
  refine gd_tt (oP_mk rfl (gd_tt (oP_mk rfl (gd_tt (oP_mk rfl (gd_tt (oP_mk p1 (gd_tt (oP_mk p2 (gc_tt ?_))))))))))
  refine lv_head C6 hvl ?_
  rw [List.reverse_append] at hbk
  simp only [List.reverse_cons,List.reverse_nil,List.nil_append,List.singleton_append] at hbk
  cases hq:headB u v with
  | true =>
    refine oP_mk rfl (st_b (if_f (by simp) (oP_mk lvl ?_)))
    refine fin F6 h6 cur s6 H6 hcl fun w => ?_
    rw [← hbk w]
    unfold bk
    rw [if_pos hq]
  | false =>
    refine oP_mk rfl (st_b (if_t rfl (oP_mk p1 (oP_mk p2 ?_))))
    refine lv_ahead g C6 hcl hvl fun F7 h7 cur' s7 H7 hcl' hon => ?_
    refine oP_mk (hbin_sub _ _ _ _) ?_
    rw [wsub s.length (by simp at hll; omega)]
    refine ⟨s.length, by rw [hk]; simp, F7, s, v :: d, cur', rfl, rfl, rfl, rfl, rfl, rfl, by rw [hld]; simp, s6.trans s7, by omega, H7, fun w => ?_⟩
    rw [← hbk w]
    conv => rhs; unfold bk
    rw [if_neg (by rw [hq]; simp)]
    exact bk_congr hon w
end
end Go.Proofs.YtiepamfpilhcjaaDoor.Hx
namespace Go.Proofs.YtiepamfpilhcjaaDoor.Hx
open Go.Proofs.YtiepamfpilhcjaaDoor.Un Go.Proofs.YtiepamfpilhcjaaDoor.Dm
def falses:List Bool→Nat
 | []=>0
 | true::l=>falses l
 | false::l=>falses l+1
def falsesAll:List (List Bool)→Nat
 | []=>0
 | r::l=>falses r+falsesAll l
theorem falses_le:∀{l r:List Bool},l.length=r.length→(∀w,On r w→On l w)→falses l≤falses r∧(l≠r→falses l<falses r)
 | [],[],_,_=>⟨Nat.le_refl _,fun h=>absurd rfl h⟩
 | [],_::_,h,_=>by simp at h
 | _::_,[],h,_=>by simp at h
 | a :: l, b :: r, h, hw => by
   obtain ⟨h1, h2⟩ := falses_le (l := l) (r := r) (by simpa using h) fun w hw' => hw (w + 1) hw'
   have h0 := hw 0
   unfold On at h0
   simp only [List.getElem?_cons_zero, Option.some.injEq] at h0
   cases a <;> cases b <;> simp only [falses]
   · refine ⟨by omega, fun hn => ?_⟩
     have := h2 fun e => hn (by rw [e])
     omega
   · exact absurd (h0 rfl) (by simp)
   · refine ⟨by omega, fun _ => by omega⟩
   · refine ⟨h1, fun hn => h2 fun e => hn (by rw [e])⟩
theorem falsesAll_set:∀{ins:List (List Bool)}{b:Nat}{r row:List Bool},ins[b]? = some r→falsesAll (ins.set b row)+falses r=falsesAll ins+falses row
 | [],_,_,_,h=>by simp at h
 | x :: ins, 0, r, row, h => by
   obtain rfl : x = r := by simpa using h
   simp only [List.set_cons_zero, falsesAll]
   omega
 | x :: ins, b + 1, r, row, h => by
   have := falsesAll_set (ins := ins) (b := b) (r := r) (row := row) (by simpa using h)
   simp only [List.set_cons_succ, falsesAll]
   omega
theorem inOf_set {ins:List (List Bool)}{b:Nat}{row:List Bool}(hb:b<ins.length)(c w:Nat):inOf (ins.set b row) c w↔(c=b∧On row w)∨(c≠b∧inOf ins c w):=by
 unfold inOf
 by_cases e:c=b
 ·subst e
  rw [List.getElem?_set_self hb]
  constructor
  ·rintro ⟨r,h1,h2⟩
   cases h1
   exact .inl ⟨rfl,h2⟩
  ·rintro (⟨_,h⟩ | ⟨h,_⟩)
   ·exact ⟨row,rfl,h⟩
   ·exact absurd rfl h
 ·rw [List.getElem?_set_ne fun h=>e h.symm]
  constructor
  ·exact fun h=> .inr ⟨e,h⟩
  ·rintro (⟨h,_⟩ | ⟨_,h⟩)
   ·exact absurd h e
   ·exact h
theorem inOf_row {ins:List (List Bool)}{b:Nat}{r:List Bool}(h:ins[b]? = some r)(w:Nat):inOf ins b w↔On r w:=⟨fun ⟨r',h1,h2⟩=>by rw [h] at h1;cases h1;exact h2,fun h2=>⟨r,h,h2⟩⟩
structure Shp (u:U) (ins:List (List Bool)):Prop where
 len:ins.length=u.blocks.length
 row:∀r∈ins,r.length=u.vals.length
theorem Shp.set {u:U}{ins:List (List Bool)}(h:Shp u ins){b:Nat}{row:List Bool}(hr:row.length=u.vals.length):Shp u (ins.set b row):=
 ⟨by rw [List.length_set];exact h.len,fun r hm=>by
  rcases List.mem_or_eq_of_mem_set hm with h1 | rfl
  ·exact h.row r h1
  ·exact hr⟩
section
variable {F F' : Nat→Prop} {h h' : Hp} {cs:List Pc} {Q:QP1} {u:U} {vv vb vs:V}
theorem ct_live (g:Good u)(H0:Hold F h cs)(hu:URd F h u vv vb vs)
  (H:∀F' h' lv vin vout ins outs,Sn F h F' h'→Hold F' h' (rowP (eL eB) tyBools ins vin::rowP (eL eB) tyBools outs vout::cellP lv tyLiver [.int .i64 u.func, .int .i64 u.pc,vv,vb,vs,vin,vout]::cs)→Shp u ins→Shp u outs→Alive u (headIn u) (inOf ins) (inOf outs)→Q (.ptr lv 0) h') :
  cP CS n_alloc_live [.agg (uC u vv vb vs)] h Q:=by
 refine c_alloc_live rfl rfl ?_
 unfold B_alloc_live
 have nv:=g.nv
 have nb:=g.nb
 have nb0:=g.nb0
 refine st_box H0 hu.one fun h1 H1 s1=>?_
 refine oP_mk (H1.ldA 0 rfl rfl) (oP_mk (show _=some (V.agg [.int .i64 u.func, .int .i64 u.pc,vv,vb,vs, .nilSlice, .nilSlice]) from rfl) ?_)
 have u1:=hu.since s1
 refine st_box H1 (by simp only [allOne_cons,u1.v.one,u1.b.one,u1.s.one];rfl) fun h2 H2 s2=>?_
 have u2:=u1.since s2
 generalize h.next=lb at *
 generalize h1.next=lv at *
 refine oP_mk (pFA_ptr _ _ _) (oP_mk (H2.ld 1 rfl rfl) (oP_mk u2.b.len ?_))
 have H3:Hold F h2 (rowP (eL eB) tyBools [] .nilSlice::rowP (eL eB) tyBools [] .nilSlice::cellP lv tyLiver [.int .i64 u.func, .int .i64 u.pc,vv,vb,vs, .nilSlice, .nilSlice]::cellP lb 29 (uC u vv vb vs)::cs):=
  (H2.add (p:=rowP (eL eB) tyBools [] .nilSlice) .nil fun _ h=>h).add (p:=rowP (eL eB) tyBools [] .nilSlice) .nil fun _ h=>h
 have s12:=s1.trans s2
 have one_f:∀n,allOne (List.replicate n (V.bool false))=true:=allOne_rep rfl
 refine l_alloc_live_L0 (fun k x1 x3 x12 x13 h'=>∃(F' : Nat→Prop) (i:Nat) (vin vout:V),x1 = .ptr lb 0∧x3 = .ptr lv 0∧x12 = .int .i64 (u.blocks.length:Nat)∧x13 = .int .i64 (i:Nat)∧i+k=u.blocks.length∧Sn F h F' h'∧
  Hold F' h' (rowP (eL eB) tyBools (List.replicate i (List.replicate u.vals.length false)) vin::rowP (eL eB) tyBools (List.replicate i (List.replicate u.vals.length false)) vout::cellP lv tyLiver [.int .i64 u.func, .int .i64 u.pc,vv,vb,vs,vin,vout]::cellP lb 29 (uC u vv vb vs)::cs)) ?_ (k:=u.blocks.length)
  ⟨F,0,_,_,rfl,rfl,rfl,rfl,by omega,s12,H3⟩
 rintro k x1 x3 x12 x13 h3 ⟨F3,i,vin,vout,rfl,rfl,rfl,rfl,hk,s3,H3⟩
 unfold B_alloc_live_L0
 have u3:=hu.since s3
 by_cases hi:i<u.blocks.length
 ·refine st_lt (if_t (by omega) ?_)
  refine oP_mk (pNil_ptr _ _) (oP_mk (pFA_ptr _ _ _) (oP_mk (H3.ld 2 rfl rfl) (oP_mk (pFA_ptr _ _ _) (oP_mk (H3.ld 3 rfl rfl) (oP_mk u3.v.len ?_)))))
  rw [hmake_of (z:=V.bool false) rfl (by decide) (by omega),alO_some]
  obtain ⟨H4,s4,r4⟩:=H3.newF1 (E:=eB) (xs:=List.replicate u.vals.length false) (n:=u.vals.length) tyBool rfl (by simp) (Win.rep (y:=false) rfl u.vals.length)
  have g4:(h3.new (.cells tyBool 1 true false (List.replicate u.vals.length (V.bool false)))).get h3.next=some (.cells 4 1 true false (List.replicate u.vals.length (V.bool false))):=get_new_self _ _
  generalize h3.new (.cells tyBool 1 true false (List.replicate u.vals.length (V.bool false)))=h4 at *
  generalize hF4:(fun l=>F3 l∨l=h3.next)=F4 at *
  have f4:F4 h3.next:=by rw [←hF4];exact .inr rfl
  have eP:∀v:V,v.one=true→pBS 37 1 1 V.nilSlice [(0,v)]=some (.cells 37 1 true false [v],fun l=> .slice l 0 1):=fun v hv=>pBS_one rfl hv
  rw [eP _ rfl,alO_some]
  obtain ⟨H5,s5,r5⟩:=H4.newF1 (E:=eL eB) (xs:=[List.replicate u.vals.length false]) (ws:=[.slice h3.next 0 u.vals.length]) (n:=1) tyBools rfl rfl ⟨[_],[],rfl,⟨_,rfl,r4⟩,trivial⟩
  have g5:(h4.new (.cells tyBools 1 true false [.slice h3.next 0 u.vals.length])).get h4.next=some (.cells 37 1 true false [.slice h3.next 0 u.vals.length]):=get_new_self _ _
  show oP (pNil (.ptr lv 0)) _
  generalize h4.new (.cells tyBools 1 true false [.slice h3.next 0 u.vals.length])=h5 at *
  generalize hF5:(fun l=>F4 l∨l=h4.next)=F5 at *
  have f5:F5 h4.next:=by rw [←hF5];exact .inr rfl
  refine oP_mk (pNil_ptr _ _) (oP_mk (pFA_ptr _ _ _) (oP_mk (H5.ld 2 rfl rfl) (oP_mk (pFA_ptr _ _ _) (oP_mk (H5.ld 3 rfl rfl) (oP_mk ((u3.since s4).since s5).v.len ?_)))))
  rw [hmake_of (z:=V.bool false) rfl (by decide) (by omega),alO_some]
  obtain ⟨H6,s6,r6⟩:=H5.newF1 (E:=eB) (xs:=List.replicate u.vals.length false) (n:=u.vals.length) tyBool rfl (by simp) (Win.rep (y:=false) rfl u.vals.length)
  have g6:(h5.new (.cells tyBool 1 true false (List.replicate u.vals.length (V.bool false)))).get h5.next=some (.cells 4 1 true false (List.replicate u.vals.length (V.bool false))):=get_new_self _ _
  generalize h5.new (.cells tyBool 1 true false (List.replicate u.vals.length (V.bool false)))=h6 at *
  generalize hF6:(fun l=>F5 l∨l=h5.next)=F6 at *
  have f6:F6 h5.next:=by rw [←hF6];exact .inr rfl
  rw [eP _ rfl,alO_some]
  obtain ⟨H7,s7,r7⟩:=H6.newF1 (E:=eL eB) (xs:=[List.replicate u.vals.length false]) (ws:=[.slice h5.next 0 u.vals.length]) (n:=1) tyBools rfl rfl ⟨[_],[],rfl,⟨_,rfl,r6⟩,trivial⟩
  have g7:(h6.new (.cells tyBools 1 true false [.slice h5.next 0 u.vals.length])).get h6.next=some (.cells 37 1 true false [.slice h5.next 0 u.vals.length]):=get_new_self _ _
  generalize h6.new (.cells tyBools 1 true false [.slice h5.next 0 u.vals.length])=h7 at *
  generalize hF7:(fun l=>F6 l∨l=h6.next)=F7 at *
  have f7:F7 h6.next:=by rw [←hF7];exact .inr rfl
  have g67:=(s7.keep _ f6).trans g6
  have g57:=((s6.trans s7).keep _ f5).trans g5
  have g47:=(((s5.trans s6).trans s7).keep _ f4).trans g4
  refine ⟨⟨g7,O.beq_cells _ _ _ _ _⟩,⟨g67,O.beq_cells _ _ _ _ _⟩,H7.ld 3 rfl rfl,H7.ld 2 rfl rfl,⟨g57,O.beq_cells _ _ _ _ _⟩,⟨g47,O.beq_cells _ _ _ _ _⟩,H7.ld 3 rfl rfl,H7.ld 2 rfl rfl,?_⟩
  have r57:=(r5.since s6).since s7
  obtain ⟨v8,h8,e8,n8,H8,s8⟩:=H7.appR 0 rfl (by_:=24) r57 (by decide) (by decide) (by simp;omega)
  have e8' : happend 37 1 24 vin (.slice h4.next 0 1) h7=some (.val v8 h8):=e8
  rw [e8',valP_some]
  simp only [List.set_cons_zero] at H8
  refine ⟨n8,⟨(s8.keep _ f7).trans g7,O.beq_cells _ _ _ _ _⟩,⟨(s8.keep _ (s7.mono _ f6)).trans g67,O.beq_cells _ _ _ _ _⟩,H8.ld 3 rfl rfl,H8.ld 2 rfl rfl,?_⟩
  obtain ⟨v9,h9,e9,n9,H9,s9⟩:=H8.appR 1 rfl (by_:=24) (r7.since s8) (by decide) (by decide) (by simp;omega)
  have e9' : happend 37 1 24 vout (.slice h6.next 0 1) h8=some (.val v9 h9):=e9
  rw [e9',valP_some]
  simp only [List.set_cons_succ,List.set_cons_zero] at H9
  have o8:=H9.one 0 rfl
  have o9:=H9.one 1 rfl
  refine ⟨n9,oP_mk (pNil_ptr _ _) (oP_mk (pFA_ptr _ _ _) ?_)⟩
  obtain ⟨h10,e10,n10,H10,s10⟩:=H9.st 2 (o:=5) (u:=v8) rfl (by simp) o8
  rw [show V.ptr lv (0+5)=V.ptr lv 5 from rfl,e10,valP_some]
  simp only [List.set_cons_succ,List.set_cons_zero] at H10
  obtain ⟨h11,e11,n11,H11,s11⟩:=H10.st 2 (o:=6) (u:=v9) rfl (by simp) o9
  refine ⟨n10,oP_mk (pNil_ptr _ _) (oP_mk (pFA_ptr _ _ _) ?_)⟩
  rw [show V.ptr lv (0+6)=V.ptr lv 6 from rfl,e11,valP_some]
  simp only [List.set_cons_succ,List.set_cons_zero] at H11
  have hrep:List.replicate i (List.replicate u.vals.length false)++[List.replicate u.vals.length false]=List.replicate (i+1) (List.replicate u.vals.length false):=by rw [List.replicate_succ']
  rw [hrep] at H11
  have sx:=(((((((s3.trans s4).trans s5).trans s6).trans s7).trans s8).trans s9).trans s10).trans s11
  exact ⟨n11,st_add (m:=1) (by omega) (by omega) ⟨k - 1,by omega,F7,i+1,v8,v9,rfl,rfl,rfl,rfl,by omega,sx,H11⟩⟩
 refine st_lt (if_f (by omega) ?_)
 obtain rfl:i=u.blocks.length:=by omega
 refine oP_mk (H3.ldA 3 rfl rfl) ?_
 refine ct_Order g H3 u3 fun F4 h4 vo seen post s4 H4 G ro=>?_
 have hpl:=post_len g G
 have hord:post.reverse.length=u.blocks.length:=by simpa using hpl
 have hall:=all_post g G
 have s04:=s3.trans s4
 have hS0:Shp u (List.replicate u.blocks.length (List.replicate u.vals.length false)):=⟨by simp,fun r hr=>by rw [List.eq_of_mem_replicate hr];simp⟩
 have hin0:inOf (List.replicate u.blocks.length (List.replicate u.vals.length false))=fun _ _=>False:=by
  funext b w
  refine propext ⟨fun ⟨r,h1,h2⟩=>?_,fun h=>h.elim⟩
  rw [List.eq_of_mem_replicate (List.mem_of_getElem? h1)] at h2
  have:=List.eq_of_mem_replicate (List.mem_of_getElem? h2)
  cases this
 refine l_alloc_live_L1 (fun k x3 x4 x5 h'=>∃(F' : Nat→Prop) (c:Bool) (ins outs:List (List Bool)),x3 = .ptr lv 0∧x4=vo∧x5 = .bool c∧k=falsesAll ins+(if c=true then 1 else 0)∧Seek u (headIn u) (inOf ins)∧Shp u ins∧Shp u outs∧
  (c=false→∀b,b<u.blocks.length→(∀w,inOf outs b w↔EndP u (headIn u) (inOf ins) b w)∧∀w,inOf ins b w↔BackP u b (inOf outs b) w)∧Sn F4 h4 F' h'∧
  Hold F' h' (rowP (eL eB) tyBools ins vin::rowP (eL eB) tyBools outs vout::cellP lv tyLiver [.int .i64 u.func, .int .i64 u.pc,vv,vb,vs,vin,vout]::cellP lb 29 (uC u vv vb vs)::cs)) ?_
  (k:=falsesAll (List.replicate u.blocks.length (List.replicate u.vals.length false))+1)
  ⟨F4,true,_,_,rfl,rfl,rfl,rfl,by rw [hin0];exact .start _ _,hS0,hS0,fun h=>(by cases h),Sn.refl _ _,H4⟩
 clear hk k
 rintro k x3 x4 x5 h5 ⟨F5,c,ins,outs,rfl,e4,rfl,hk,hseek,hsi,hso,hc,s5,H5⟩
 subst x4
 unfold B_alloc_live_L1
 cases c with
 | false =>
   refine st_b (if_f (by simp) ?_)
   have hcf := hc rfl
   exact H F5 h5 lv vin vout ins outs (s04.trans s5) ⟨H5.fl, fun i c hc => by
       match i, hc with
       | 0, hc => exact H5.ok 0 c hc
       | 1, hc => exact H5.ok 1 c hc
       | 2, hc => exact H5.ok 2 c hc
       | i + 3, hc => exact H5.ok (i + 4) c hc, fun i j c d hc hd hn => by
       have key : ∀ (i : Nat) (c : Pc), (rowP (eL eB) tyBools ins vin :: rowP (eL eB) tyBools outs vout :: cellP lv tyLiver [.int .i64 u.func, .int .i64 u.pc, vv, vb, vs, vin, vout] :: cs)[i]? = some c →
           (rowP (eL eB) tyBools ins vin :: rowP (eL eB) tyBools outs vout :: cellP lv tyLiver [.int .i64 u.func, .int .i64 u.pc, vv, vb, vs, vin, vout] :: cellP lb 29 (uC u vv vb vs) :: cs)[if i < 3 then i else i + 1]? = some c := by
         intro i c hc
         match i, hc with
         | 0, hc => exact hc
         | 1, hc => exact hc
         | 2, hc => exact hc
         | i + 3, hc => rw [if_neg (by omega)]; exact hc
       refine H5.dis _ _ c d (key i c hc) (key j d hd) ?_
       split <;> split <;> omega⟩ hsi hso ⟨fun b w hb => (hcf b hb).1 w, fun b w hb => (hcf b hb).2 w, hseek.least⟩
 | true =>
   refine st_b (if_t rfl ?_)
   have lo := (ro.since s5).len
   rw [hord] at lo
   refine oP_mk lo (st_sub1 (by omega) (by omega) ?_)
   have wsub : ∀ n : Nat, n ≤ 3000 → wrapF .i64 (((n : Nat) : Int) - 1) = (n : Int) - 1 := fun n hn => by rw [wrapF_in (by simp only [inK]; omega)]
   rw [show ((u.blocks.length - 1 : Nat) : Int) = (u.blocks.length : Int) - 1 by omega]
   refine l_alloc_live_L2 (fun k x3 x4 x5 x6 h' => ∃ (F' : Nat → Prop) (j : Nat) (c : Bool) (ins' outs : List (List Bool)), x3 = .ptr lv 0 ∧ x4 = vo ∧ x5 = .bool c ∧ x6 = .int .i64 ((j : Int) - 1) ∧ k = j ∧ j ≤ u.blocks.length ∧ Seek u (headIn u) (inOf ins') ∧ Shp u ins' ∧ Shp u outs ∧ falsesAll ins' ≤ falsesAll ins ∧ (c = true → falsesAll ins' < falsesAll ins) ∧
     (c = false → ∀ i b, j ≤ i → post.reverse[i]? = some b → (∀ w, inOf outs b w ↔ EndP u (headIn u) (inOf ins') b w) ∧ ∀ w, inOf ins' b w ↔ BackP u b (inOf outs b) w) ∧ Sn F4 h4 F' h' ∧
     Hold F' h' (rowP (eL eB) tyBools ins' vin :: rowP (eL eB) tyBools outs vout :: cellP lv tyLiver [.int .i64 u.func, .int .i64 u.pc, vv, vb, vs, vin, vout] :: cellP lb 29 (uC u vv vb vs) :: cs)) ?_ (k := u.blocks.length)
     ⟨F5, u.blocks.length, false, ins, outs, rfl, rfl, rfl, rfl, rfl, Nat.le_refl _, hseek, hsi, hso, Nat.le_refl _, fun h => (by cases h), fun _ i b hi hb => by
       have := (List.getElem?_eq_some_iff.1 hb).1
       omega, s5, H5⟩
   rintro k2 x3 x4 x5 x6 h6 ⟨F6, j, c, ins', outs', rfl, e4, rfl, rfl, hkj, hj, hseek', hsi', hso', hfl, hfl2, hcc, s6, H6⟩
   subst x4
   unfold B_alloc_live_L2
   cases j with
   | zero =>
     refine st_ge (if_f (by omega) ?_)
     refine ⟨falsesAll ins' + (if c = true then 1 else 0), ?_, F6, c, ins', outs', rfl, rfl, rfl, rfl, hseek', hsi', hso', fun hc0 b hb => ?_, s6, H6⟩
     · rw [hk, if_pos rfl]
       cases c with
       | true => have := hfl2 rfl; rw [if_pos rfl]; omega
       | false => rw [if_neg (by simp)]; omega
     · obtain ⟨i, hi⟩ := List.mem_iff_getElem?.1 (List.mem_reverse.2 (hall b hb))
       exact hcc hc0 i b (Nat.zero_le _) hi
   | succ j =>
     rw [show (((j + 1 : Nat) : Int) - 1) = (j : Nat) by omega]
     refine st_ge (if_t (by omega) ?_)
     obtain ⟨b, hb⟩ : ∃ b, post.reverse[j]? = some b := ⟨_, List.getElem?_eq_getElem (show j < post.reverse.length by omega)⟩
     have hbl : b < u.blocks.length := G.pre b (List.mem_reverse.1 (List.mem_of_getElem? hb))
     obtain ⟨B, hB⟩ : ∃ B, u.blocks[b]? = some B := ⟨_, List.getElem?_eq_getElem hbl⟩
     obtain ⟨l7, o7, _, p1, p2⟩ := (ro.since s6).nat hb .i64
     refine oP_mk p1 (oP_mk p2 ?_)
     refine lv_block g H6 ((u3.since s4).since s6) hsi'.len hsi'.row hso'.len hB fun F7 h7 c' row orow s7 H7 hrl horl hoe hre hcf hct => ?_
     refine oP_mk (pOr_bool _ _) (oP_mk (hbin_sub _ _ _ _) ?_)
     rw [wsub j (by omega)]
     obtain ⟨r0, hr0⟩ : ∃ r, ins'[b]? = some r := ⟨_, List.getElem?_eq_getElem (show b < ins'.length by rw [hsi'.len]; exact hbl)⟩
     have hr0l := hsi'.row r0 (List.mem_of_getElem? hr0)
     have hTr : ∀ w, On row w ↔ Un.Tr u (headIn u) (inOf ins') b w := fun w => by rw [hre w]; exact bk_congr hoe w
     have hbi : b < ins'.length := by rw [hsi'.len]; exact hbl
     have hbo : b < outs'.length := by rw [hso'.len]; exact hbl
     have hset : inOf (ins'.set b row) = setP (inOf ins') b (Un.Tr u (headIn u) (inOf ins') b) := by
       funext c w
       refine propext ?_
       rw [inOf_set hbi]
       unfold setP
       rw [hTr w]
     have hsub : ∀ w, On r0 w → On row w := fun w hw => (hTr w).2 (hseek'.up b w ((inOf_row hr0 w).2 hw))
     obtain ⟨f1, f2⟩ := falses_le (l := row) (r := r0) (by omega) hsub
     have f3 := falsesAll_set (row := row) hr0
     refine ⟨j, by omega, F7, j, c' || c, ins'.set b row, outs'.set b orow, rfl, rfl, rfl, rfl, rfl, by omega, by rw [hset]; exact hseek'.step hbl, hsi'.set hrl, hso'.set horl, by omega, fun hcc' => ?_, fun hcc' i b' hi hb' => ?_, s6.trans s7, H7⟩
     · cases hq : c' with
       | true =>
         have h1 := hct hq
         have := f2 fun e => h1 (by rw [e]; exact hr0)
         omega
       | false =>
         rw [hq] at hcc'
         have := hfl2 (by simpa using hcc')
         omega
     · rw [Bool.or_eq_false_iff] at hcc'
       have hsame : ins'.set b row = ins' := by
         have h1 := hcf hcc'.1
         refine List.ext_getElem? fun m => ?_
         by_cases e : m = b
         · subst e
           rw [List.getElem?_set_self hbi, h1]
         · rw [List.getElem?_set_ne fun h => e h.symm]
       rw [hsame]
       by_cases e : b' = b
       · subst e
         have h1 : ∀ w, inOf (outs'.set b' orow) b' w ↔ On orow w := fun w => inOf_row (List.getElem?_set_self hbo) w
         refine ⟨fun w => by rw [h1 w, hoe w], fun w => ?_⟩
         rw [inOf_row (hcf hcc'.1) w, hre w]
         exact (bk_congr h1 w).symm
       · have hij : j + 1 ≤ i := by
           rcases Nat.lt_or_ge j i with h1 | h1
           · exact h1
           · obtain rfl : i = j := by omega
             rw [hb] at hb'
             exact absurd (Option.some.inj hb').symm e
         obtain ⟨h1, h2⟩ := hcc hcc'.2 i b' hij hb'
         have h3 : ∀ w, inOf (outs'.set b orow) b' w ↔ inOf outs' b' w := fun w => by
           rw [inOf_set hbo]
           constructor
           · rintro (⟨h4, _⟩ | ⟨_, h4⟩)
             · exact absurd h4 e
             · exact h4
           · exact fun h4 => .inr ⟨e, h4⟩
         exact ⟨fun w => by rw [h3 w]; exact h1 w, fun w => by rw [h2 w]; exact (bk_congr h3 w).symm⟩
end
end Go.Proofs.YtiepamfpilhcjaaDoor.Hx
