/- Parts of the proof. -/
import Derived.Test.YtiepamfpilhcjaaDoorM20
namespace Go.Proofs.YtiepamfpilhcjaaDoor.Hx
open Go.Proofs.YtiepamfpilhcjaaDoor.Un
theorem st_b {b:Bool}{A B:Prop}(h:if b=true then A else B):bP (.bool b) A B:=by rw [bP_bool];exact h
theorem rows_zero (ops:List Int)(s:Ds):rows ops 0 s=s:=rfl
theorem rows_stop (ops:List Int)(k:Nat)(s:Ds)(h:¬s.vals.length<200):rows ops k s=s:=by
 cases k with
 | zero=>rfl
 | succ k=>unfold rows;rw [if_neg h]
theorem rows_step (ops:List Int)(k:Nat)(s:Ds)(h:s.vals.length<200):rows ops (k+1) s=rows ops k (rowStep ops s):=by
 conv=>lhs;unfold rows
 rw [if_pos h]
section
variable {F F' G G' : Nat→Prop} {h h' : Hp} {L:Lc} {ops:List Int} {t t' : Dt} {R R' : Rw} {Q:QP1}
theorem Sm.one {s:Ds}{n:Nat}(a:Sm s n):Sm (one_ ops s).2 n:=a.pos _
theorem Sm.num {s:Ds}{n:Nat}(a:Sm s n)(m:Nat):Sm (num ops s m).2 n:=a.pos _
theorem sm17 {s:Ds}{n:Nat}(a:Sm s n)(ops:List Int)(x:Vl):Sm (put (stateM ops s).2 x) (n+1):=by
 obtain ⟨p,hp⟩:=some_pos ops (num ops s 4).1 (num ops s 4).2 []
 have e:(stateM ops s).2 = { s with pos:=p,states:=(stateM ops s).2.states }:=by
  unfold stateM
  simp only [hp]
  rfl
 have h:=a.state ops
 rw [e] at h ⊢
 exact ⟨app1 a.v,app1 a.c,h.k,h.st,h.k0⟩
theorem ct_row (q:Dq F G h L ops t R)(ho:ops.length<9223372036854775808){n:Nat}(hn:Sm t.s n)(hn2:n<900)
  (H:∀F' h' R',(∀l,F l→F' l)→Kp F (gm G L.lat) h h'→Dq F' G h' L ops { t with s:=row ops t.s } R'→Sm (row ops t.s) (n+6)→Q (.tuple []) h') :
  cP CS n_turnstonehand_Unit_4 [.ptr L.lnext 0, .ptr L.lu 0, .ptr L.lkn 0, .ptr L.lput 0, .ptr L.lst 0] h Q:=by
 refine c_turnstonehand_Unit_4 rfl rfl ?_
 unfold B_turnstonehand_Unit_4
 refine oP_mk q.ldNext ?_
 show cP CS n_turnstonehand_Unit_2 [.int .i64 ((6:Nat):Int), .ptr L.lat 0, .ptr L.lr 0] h _
 refine ct_next q (by decide) (by decide) ho fun h0 k0 q0=>?_
 have hr:(draw ops t.s.pos 6).1<6:=draw_lt _ _ (by decide)
 refine st_add (n:=1) (by decide) (by omega) ?_
 refine l_turnstonehand_Unit_4_L0 (fun k x0 x1 x2 x3 x4 x5 h'=>∃(F' : Nat→Prop) (R' : Rw) (s:Ds),x0 = .ptr L.lnext 0∧x1 = .ptr L.lu 0∧x2 = .ptr L.lkn 0∧x3 = .ptr L.lput 0∧x4 = .ptr L.lst 0∧x5 = .int .i64 (k:Nat)∧(∀l,F l→F' l)∧
  Kp F (gm G L.lat) h h'∧Dq F' G h' L ops { t with s:=s } R'∧rows ops k s=row ops t.s∧∃m,Sm s m∧m+k≤n+6) ?_
  ⟨F,R,(num ops t.s 6).2,rfl,rfl,rfl,rfl,rfl,rfl,fun _ h=>h,k0,q0,rfl,n,hn.num 6,by omega⟩
 rintro k x0 x1 x2 x3 x4 x5 h' ⟨F1,R1,s,rfl,rfl,rfl,rfl,rfl,rfl,hF,k1,q1,hrow,m,hm,hmk⟩
 unfold B_turnstonehand_Unit_4_L0
 refine oP_mk (by rw [hbin_gtr]) ?_
 have lv:=q1.D.ov.len
 have eA:pAnd (.bool (decide ((0:Int)<(k:Nat)))) (oB (pFA 2 (.ptr L.lu 0)) fun v15=>oB (pLd v15 h') fun v16=>oB (pLen v16) fun v17=>hbin .lss 3 v17 (V.int .i64 200))=some (.bool (decide ((0:Int)<(k:Nat))&&decide (((s.vals.length:Nat):Int)<200))):=by
  simp only [pFA_ptr,oB_some',Nat.zero_add,q1.D.ldV,lv,hbin_lss,pAnd_bool]
 refine oP_mk eA (st_b ?_)
 cases k with
 | zero =>
   refine if_f (by simp) ?_
   rw [rows_zero] at hrow
   refine H F1 h' R1 hF k1 (by rw [← hrow]; exact q1) (by rw [← hrow]; exact hm.le (by omega))
 | succ k =>
   by_cases hlt : s.vals.length < 200
   rotate_left
   · refine if_f (by simp; omega) ?_
     rw [rows_stop _ _ _ hlt] at hrow
     refine H F1 h' R1 hF k1 (by rw [← hrow]; exact q1) (by rw [← hrow]; exact hm.le (by omega))
   refine if_t (by simp; omega) ?_
   have hrow' : rows ops k (rowStep ops s) = row ops t.s := by rw [← hrow, rows_step _ _ _ hlt]
   clear hrow eA
   refine oP_mk q1.D.ldK (oP_mk q1.ldNext (oP_mk q1.D.ldK (oP_mk q1.D.ok.len ?_)))
   show cP CS n_turnstonehand_Unit_2 [.int .i64 (s.known.length : Nat), .ptr L.lat 0, .ptr L.lr 0] h' _
   refine ct_one q1 ho hm (by omega) fun h2 l o k2 q2 _ i1 i2 => ⟨k2.next, oP_mk i1 (oP_mk i2 ⟨q2.D.ldK, ?_⟩)⟩
   have i2 : True := trivial
   refine oP_mk q2.D.ldK (oP_mk q2.ldNext (oP_mk q2.D.ldK (oP_mk q2.D.ok.len ?_)))
   show cP CS n_turnstonehand_Unit_2 [.int .i64 ((one_ ops s).2.known.length : Nat), .ptr L.lat 0, .ptr L.lr 0] h2 _
   refine ct_one q2 ho hm.one (by omega) fun h3 l' o' k3 q3 _ j1 j2 => ⟨k3.next, oP_mk j1 (oP_mk j2 ⟨q3.D.ldK, ?_⟩)⟩
   refine oP_mk q3.ldNext ?_
   show cP CS n_turnstonehand_Unit_2 [.int .i64 ((20 : Nat) : Int), .ptr L.lat 0, .ptr L.lr 0] h3 _
   refine ct_next q3 (by decide) (by decide) ho fun h4 k4 q4 => ?_
   have q4 : Dq F1 G h4 L ops { t with s := (num ops (one_ ops (one_ ops s).2).2 20).2 } R1 := q4
   have m4 : Sm (num ops (one_ ops (one_ ops s).2).2 20).2 m := hm.one.one.num 20
   have kk : Kp F (gm G L.lat) h h4 := ((k1.trans k2 hF).trans k3 hF).trans k4 hF
   have hstep : rowStep ops s = kindM ops (num ops (one_ ops (one_ ops s).2).2 20).2 (num ops (one_ ops (one_ ops s).2).2 20).1 (one_ ops s).1 (one_ ops (one_ ops s).2).1 := rfl
   rw [hstep] at hrow'
   have ek : (draw ops ({ t with s := (one_ ops ({ t with s := (one_ ops ({ t with s := s } : Dt).s).2 } : Dt).s).2 } : Dt).s.pos 20).1 = (num ops (one_ ops (one_ ops s).2).2 20).1 := rfl
   rw [ek]
   clear ek
   have hkk : (num ops (one_ ops (one_ ops s).2).2 20).1 < 20 := draw_lt _ _ (by decide)
   generalize (num ops (one_ ops (one_ ops s).2).2 20).2 = s4 at *
   generalize (num ops (one_ ops (one_ ops s).2).2 20).1 = kd at *
   have ea : (one_ ops ({ t with s := s } : Dt).s).1 = (one_ ops s).1 := rfl
   have eb : (one_ ops ({ t with s := (one_ ops ({ t with s := s } : Dt).s).2 } : Dt).s).1 = (one_ ops (one_ ops s).2).1 := rfl
   rw [ea, eb]
   generalize (one_ ops s).1 = a at *
   generalize (one_ ops (one_ ops s).2).1 = b at *
   clear q3 q2 q1 k1 k2 k3 k4 j1 j2 lv hstep
   have fin : ∀ (F2 : Nat → Prop) (h5 : Hp) (R2 : Rw) (s5 : Ds), (∀ l, F1 l → F2 l) → Kp F1 (gm G L.lat) h4 h5 → Dq F2 G h5 L ops { t with s := s5 } R2 → s5 = kindM ops s4 kd a b → Sm s5 (m + 1) →
       J_turnstonehand_Unit_4_R4 CS Q (fun x0 x1 x2 x3 x4 x5 hh => ∃ k', k' < k + 1 ∧ ∃ (F' : Nat → Prop) (R' : Rw) (s : Ds), x0 = .ptr L.lnext 0 ∧ x1 = .ptr L.lu 0 ∧ x2 = .ptr L.lkn 0 ∧ x3 = .ptr L.lput 0 ∧ x4 = .ptr L.lst 0 ∧ x5 = .int .i64 (k' : Nat) ∧ (∀ l, F l → F' l) ∧
         Kp F (gm G L.lat) h hh ∧ Dq F' G hh L ops { t with s := s } R' ∧ rows ops k' s = row ops t.s ∧ ∃ m, Sm s m ∧ m + k' ≤ n + 6) (.ptr L.lnext 0) (.ptr L.lu 0) (.ptr L.lkn 0) (.ptr L.lput 0) (.ptr L.lst 0) (.int .i64 ((k + 1 : Nat) : Int)) h5 := by
     intro F2 h5 R2 s5 hF2 k5 q5 e5 m5
     refine j_turnstonehand_Unit_4_R4 ?_
     unfold B_turnstonehand_Unit_4_R4
     refine st_sub1 (by omega) (by omega) ?_
     exact ⟨k, by omega, F2, R2, s5, rfl, rfl, rfl, rfl, rfl, rfl, fun l hl => hF2 l (hF l hl), kk.trans k5 hF, q5, by rw [e5]; exact hrow', m + 1, m5, by omega⟩
   by_cases c0 : kd < 12
   · refine st_lt (if_t (by omega) ?_)
     refine oP_mk q4.D.ldK (oP_mk q4.ldPut (st_add (n := 3) (by decide) (by omega) ?_))
     have eP : ∀ o : Nat, pBuild [(V.int .i64 0), (V.int .i64 0), (V.int .i64 0), (V.int .i64 0), V.nilSlice, (V.int .i64 0)] [(0, 1), (1, 1), (2, 1), (3, 1), (4, 1), (5, 1)] [(0, .int .i64 (o : Nat)), (1, .int .i64 (a : Nat)), (2, .int .i64 (b : Nat))] = some (.agg (vlC (vl o a b 0 [] 0) .nilSlice)) := fun _ => rfl
     refine oP_mk (eP _) ?_
     exact ct_putK q4 m4 (by omega) ⟨_, rfl, .nil⟩ fun h5 R5 k5 q5 => fin F1 h5 R5 _ (fun _ h => h) (k5.gm _) q5 (by unfold kindM; rw [if_pos c0]) (m4.putK _)
   refine st_lt (if_f (by omega) ?_)
   by_cases c1 : kd = 12
   · refine st_eq (if_t (by omega) ?_)
     refine oP_mk q4.D.ldK (oP_mk q4.ldPut (oP_mk q4.ldNext ?_))
     show cP CS n_turnstonehand_Unit_2 [.int .i64 ((1048576 : Nat) : Int), .ptr L.lat 0, .ptr L.lr 0] h4 _
     refine ct_next q4 (by decide) (by decide) ho fun h5 k5 q5 => ⟨k5.next, ?_⟩
     have q5 : Dq F1 G h5 L ops { t with s := (num ops s4 1048576).2 } R1 := q5
     have hd : (draw ops s4.pos 1048576).1 < 1048576 := draw_lt _ _ (by decide)
     have ew : wrapF .i64 (((draw ops s4.pos 1048576).1 : Int) - 9) = ((draw ops s4.pos 1048576).1 : Int) - 9 := wrapF_in (by simp only [inK]; omega)
     refine oP_mk (by rw [hbin_sub]) ?_
     rw [show (wrapF .i64 (((draw ops ({ t with s := s4 } : Dt).s.pos 1048576).1 : Int) - 9)) = ((draw ops s4.pos 1048576).1 : Int) - 9 from ew]
     have eP : ∀ i : Int, pBuild [(V.int .i64 0), (V.int .i64 0), (V.int .i64 0), (V.int .i64 0), V.nilSlice, (V.int .i64 0)] [(0, 1), (1, 1), (2, 1), (3, 1), (4, 1), (5, 1)] [(0, (V.int .i64 2)), (3, .int .i64 i)] = some (.agg (vlC (vl 2 0 0 i [] 0) .nilSlice)) := fun _ => rfl
     refine oP_mk (eP _) ⟨q5.ldPut, q5.D.ldK, ?_⟩
     exact ct_putK q5 (m4.num _) (by omega) ⟨_, rfl, .nil⟩ fun h6 R6 k6 q6 => fin F1 h6 R6 _ (fun _ h => h) (k5.trans (k6.gm _) fun _ h => h) q6 (by unfold kindM; rw [if_neg c0, if_pos c1]; rfl) ((m4.num _).putK _)
   refine st_eq (if_f (by omega) ?_)
   by_cases c2 : kd = 13
   · refine st_eq (if_t (by omega) ?_)
     refine oP_mk q4.D.ldK (oP_mk q4.ldPut (oP_mk q4.ldNext ?_))
     show cP CS n_turnstonehand_Unit_2 [.int .i64 ((5 : Nat) : Int), .ptr L.lat 0, .ptr L.lr 0] h4 _
     refine ct_next q4 (by decide) (by decide) ho fun h5 k5 q5 => ⟨k5.next, ?_⟩
     have q5 : Dq F1 G h5 L ops { t with s := (num ops s4 5).2 } R1 := q5
     have eP : ∀ n : Nat, pBuild [(V.int .i64 0), (V.int .i64 0), (V.int .i64 0), (V.int .i64 0), V.nilSlice, (V.int .i64 0)] [(0, 1), (1, 1), (2, 1), (3, 1), (4, 1), (5, 1)] [(0, (V.int .i64 17)), (1, .int .i64 (a : Nat)), (3, .int .i64 (n : Nat))] = some (.agg (vlC (vl 17 a 0 (n : Nat) [] 0) .nilSlice)) := fun _ => rfl
     refine oP_mk (eP _) ⟨q5.ldPut, q5.D.ldK, ?_⟩
     exact ct_putK q5 (m4.num _) (by omega) ⟨_, rfl, .nil⟩ fun h6 R6 k6 q6 => fin F1 h6 R6 _ (fun _ h => h) (k5.trans (k6.gm _) fun _ h => h) q6 (by unfold kindM; rw [if_neg c0, if_neg c1, if_pos c2]; rfl) ((m4.num _).putK _)
   refine st_eq (if_f (by omega) ?_)
   by_cases c3 : kd = 14
   · refine st_eq (if_t (by omega) ?_)
     refine oP_mk q4.D.ldK (oP_mk q4.ldPut ?_)
     have eP : pBuild [(V.int .i64 0), (V.int .i64 0), (V.int .i64 0), (V.int .i64 0), V.nilSlice, (V.int .i64 0)] [(0, 1), (1, 1), (2, 1), (3, 1), (4, 1), (5, 1)] [(0, (V.int .i64 18)), (1, .int .i64 (a : Nat)), (2, .int .i64 (b : Nat))] = some (.agg (vlC (vl 18 a b 0 [] 0) .nilSlice)) := rfl
     refine oP_mk eP ?_
     exact ct_putK q4 m4 (by omega) ⟨_, rfl, .nil⟩ fun h5 R5 k5 q5 => fin F1 h5 R5 _ (fun _ h => h) (k5.gm _) q5 (by unfold kindM; rw [if_neg c0, if_neg c1, if_neg c2, if_pos c3]) (m4.putK _)
   refine st_eq (if_f (by omega) ?_)
   by_cases c4 : kd = 15
   · refine st_eq (if_t (by omega) ?_)
     refine oP_mk q4.ldPut (oP_mk q4.ldNext ?_)
     show cP CS n_turnstonehand_Unit_2 [.int .i64 ((5 : Nat) : Int), .ptr L.lat 0, .ptr L.lr 0] h4 _
     refine ct_next q4 (by decide) (by decide) ho fun h5 k5 q5 => ⟨k5.next, ?_⟩
     have q5 : Dq F1 G h5 L ops { t with s := (num ops s4 5).2 } R1 := q5
     have eP : ∀ n : Nat, pBuild [(V.int .i64 0), (V.int .i64 0), (V.int .i64 0), (V.int .i64 0), V.nilSlice, (V.int .i64 0)] [(0, 1), (1, 1), (2, 1), (3, 1), (4, 1), (5, 1)] [(0, (V.int .i64 19)), (1, .int .i64 (a : Nat)), (3, .int .i64 (n : Nat)), (2, .int .i64 (b : Nat))] = some (.agg (vlC (vl 19 a b (n : Nat) [] 0) .nilSlice)) := fun _ => rfl
     refine oP_mk (eP _) ⟨q5.ldPut, ?_⟩
     refine ct_put1 q5 (m4.num _) (by omega) ⟨_, rfl, .nil⟩ fun h6 R6 k6 _ q6 => ⟨k6.next, ?_⟩
     exact fin F1 h6 R6 _ (fun _ h => h) (k5.trans (k6.gm _) fun _ h => h) q6 (by unfold kindM; rw [if_neg c0, if_neg c1, if_neg c2, if_neg c3, if_pos c4]; rfl) ((m4.num _).put _)
   refine st_eq (if_f (by omega) ?_)
   by_cases c5 : kd = 16
   · refine st_eq (if_t (by omega) ?_)
     refine oP_mk q4.ldPut (oP_mk q4.D.ldK (oP_mk q4.ldNext (oP_mk q4.D.ldK (oP_mk q4.D.ok.len ?_))))
     show cP CS n_turnstonehand_Unit_2 [.int .i64 (s4.known.length : Nat), .ptr L.lat 0, .ptr L.lr 0] h4 _
     refine ct_one q4 ho m4 (by omega) fun h5 l o k5 q5 hl i1 i2 => ⟨k5.next, oP_mk i1 (oP_mk i2 ?_)⟩
     have q5 : Dq F1 G h5 L ops { t with s := (one_ ops s4).2 } R1 := q5
     have i2 : pLd (.ptr l o) h5 = some (.int .i64 ((one_ ops s4).1 : Nat)) := i2
     have e3 : pBS 3 1 1 (V.int .i64 0) [(0, V.int .i64 ((one_ ops s4).1 : Nat))] = some (.cells 3 1 true false [V.int .i64 ((one_ ops s4).1 : Nat)], fun l => .slice l 0 1) := rfl
     show alO (pBS 3 1 1 (V.int .i64 0) [(0, V.int .i64 ((one_ ops s4).1 : Nat))]) h5 _
     rw [e3, alO_some]
     have eP : ∀ n : Nat, pBuild [(V.int .i64 0), (V.int .i64 0), (V.int .i64 0), (V.int .i64 0), V.nilSlice, (V.int .i64 0)] [(0, 1), (1, 1), (2, 1), (3, 1), (4, 1), (5, 1)] [(0, (V.int .i64 20)), (1, .int .i64 (a : Nat)), (2, .int .i64 (b : Nat)), (4, .slice n 0 1)] = some (.agg (vlC (vl 20 a b 0 [(one_ ops s4).1] 0) (.slice n 0 1))) := fun _ => rfl
     have D6 := q5.D.new (.cells 3 1 true false [V.int .i64 ((one_ ops s4).1 : Nat)])
     have k6 := q5.D.kpNew (.cells 3 1 true false [V.int .i64 ((one_ ops s4).1 : Nat)])
     have q6 := q5.step k6 D6 (fz_le _ _) q5.gl q5.hq rfl
     have g6 : (h5.new (.cells 3 1 true false [V.int .i64 ((one_ ops s4).1 : Nat)])).get h5.next = _ := get_new_self _ _
     refine oP_mk (eP _) ⟨⟨g6, O.beq_cells _ _ _ _ _⟩, pLd_keep i2 (get_new_lt _ hl), D6.ldK, q6.ldPut, ?_⟩
     have hs : SlR eN (fz F1 h5.next) (h5.new (.cells 3 1 true false [V.int .i64 ((one_ ops s4).1 : Nat)])) [(one_ ops s4).1] (.slice h5.next 0 1) :=
       .inr ⟨h5.next, 0, 3, true, false, [V.int .i64 ((one_ ops s4).1 : Nat)], rfl, .inr rfl, g6, .inr rfl, Nat.zero_le _, ⟨_, [], rfl, rfl, trivial⟩⟩
     refine ct_put1 q6 (m4.one) (by omega) ⟨_, rfl, hs⟩ fun h7 R7 k7 _ q7 => ⟨k7.next, ?_⟩
     exact fin (fz F1 h5.next) h7 R7 _ (fz_le _ _) ((k5.trans (k6.gm _) fun _ h => h).trans (k7.gm _) (fz_le _ _)) q7 (by unfold kindM; rw [if_neg c0, if_neg c1, if_neg c2, if_neg c3, if_neg c4, if_pos c5]) (m4.one.put _)
   refine st_eq (if_f (by omega) ?_)
   by_cases c6 : kd = 17
   · refine st_eq (if_t (by omega) ?_)
     refine oP_mk q4.ldPut (oP_mk q4.ldState ?_)
     show cP CS n_turnstonehand_Unit_3 [.ptr L.lu 0, .ptr L.lnext 0, .ptr L.lkn 0] h4 _
     refine ct_state q4 m4.k0 (by have := m4.k; show s4.known.length < _; omega) (by have := m4.st; show s4.states.length < _; omega) ho fun F5 h5 R5 hF5 k5 q5 _ => ⟨k5.next, ?_⟩
     have q5 : Dq F5 G h5 L ops { t with s := (stateM ops s4).2 } R5 := q5
     have eP : ∀ n : Nat, pBuild [(V.int .i64 0), (V.int .i64 0), (V.int .i64 0), (V.int .i64 0), V.nilSlice, (V.int .i64 0)] [(0, 1), (1, 1), (2, 1), (3, 1), (4, 1), (5, 1)] [(0, (V.int .i64 22)), (1, .int .i64 (a : Nat)), (5, .int .i64 (n : Nat))] = some (.agg (vlC (vl 22 a 0 0 [] n) .nilSlice)) := fun _ => rfl
     refine oP_mk (eP _) ⟨q5.ldPut, ?_⟩
     refine ct_put1 q5 (m4.state ops) (by omega) ⟨_, rfl, .nil⟩ fun h6 R6 k6 _ q6 => ⟨k6.next, ?_⟩
     exact fin F5 h6 R6 _ hF5 (k5.trans (k6.gm _) hF5) q6 (by unfold kindM; rw [if_neg c0, if_neg c1, if_neg c2, if_neg c3, if_neg c4, if_neg c5, if_pos c6]) (sm17 m4 ops _)
   refine st_eq (if_f (by omega) ?_)
   by_cases c7 : kd = 18
   · refine st_eq (if_t (by omega) ?_)
     refine oP_mk q4.ldPut (oP_mk q4.ldState ?_)
     show cP CS n_turnstonehand_Unit_3 [.ptr L.lu 0, .ptr L.lnext 0, .ptr L.lkn 0] h4 _
     refine ct_state q4 m4.k0 (by have := m4.k; show s4.known.length < _; omega) (by have := m4.st; show s4.states.length < _; omega) ho fun F5 h5 R5 hF5 k5 q5 _ => ⟨k5.next, ?_⟩
     have q5 : Dq F5 G h5 L ops { t with s := (stateM ops s4).2 } R5 := q5
     have eP : ∀ n : Nat, pBuild [(V.int .i64 0), (V.int .i64 0), (V.int .i64 0), (V.int .i64 0), V.nilSlice, (V.int .i64 0)] [(0, 1), (1, 1), (2, 1), (3, 1), (4, 1), (5, 1)] [(0, (V.int .i64 23)), (5, .int .i64 (n : Nat))] = some (.agg (vlC (vl 23 0 0 0 [] n) .nilSlice)) := fun _ => rfl
     refine oP_mk (eP _) ⟨q5.ldPut, ?_⟩
     refine ct_put1 q5 (m4.state ops) (by omega) ⟨_, rfl, .nil⟩ fun h6 R6 k6 _ q6 => ⟨k6.next, ?_⟩
     exact fin F5 h6 R6 _ hF5 (k5.trans (k6.gm _) hF5) q6 (by unfold kindM; rw [if_neg c0, if_neg c1, if_neg c2, if_neg c3, if_neg c4, if_neg c5, if_neg c6, if_pos c7]) (sm17 m4 ops _)
   refine st_eq (if_f (by omega) ?_)
   refine oP_mk q4.D.ldK (oP_mk q4.ldPut (oP_mk q4.ldNext ?_))
   show cP CS n_turnstonehand_Unit_2 [.int .i64 ((2 : Nat) : Int), .ptr L.lat 0, .ptr L.lr 0] h4 _
   refine ct_next q4 (by decide) (by decide) ho fun h5 k5 q5 => ⟨k5.next, ?_⟩
   have q5 : Dq F1 G h5 L ops { t with s := (num ops s4 2).2 } R1 := q5
   have hd : (draw ops s4.pos 2).1 < 2 := draw_lt _ _ (by decide)
   refine st_add (n := 15) (by decide) (by show (draw ops s4.pos 2).1 < _; omega) ?_
   have eP : ∀ o : Nat, pBuild [(V.int .i64 0), (V.int .i64 0), (V.int .i64 0), (V.int .i64 0), V.nilSlice, (V.int .i64 0)] [(0, 1), (1, 1), (2, 1), (3, 1), (4, 1), (5, 1)] [(0, .int .i64 (o : Nat)), (1, .int .i64 (a : Nat))] = some (.agg (vlC (vl o a 0 0 [] 0) .nilSlice)) := fun _ => rfl
   refine oP_mk (eP _) ⟨q5.ldPut, q5.D.ldK, ?_⟩
   exact ct_putK q5 (m4.num _) (by omega) ⟨_, rfl, .nil⟩ fun h6 R6 k6 q6 => fin F1 h6 R6 _ (fun _ h => h) (k5.trans (k6.gm _) fun _ h => h) q6 (by unfold kindM; rw [if_neg c0, if_neg c1, if_neg c2, if_neg c3, if_neg c4, if_neg c5, if_neg c6, if_neg c7]; rfl) ((m4.num _).putK _)
end
end Go.Proofs.YtiepamfpilhcjaaDoor.Hx
namespace Go.Proofs.YtiepamfpilhcjaaDoor.Hx
open Go.Proofs.YtiepamfpilhcjaaDoor.Un
structure Ext_ (s s' : Ds):Prop where
 k:∃l,s'.known=s.known++l
 v:∃l,s'.vals=s.vals++l
theorem Ext_.refl (s:Ds):Ext_ s s:=⟨⟨[],by simp⟩,⟨[],by simp⟩⟩
theorem Ext_.trans {s s' s'' : Ds}(a:Ext_ s s')(b:Ext_ s' s''):Ext_ s s'':=by
 obtain ⟨⟨k1,h1⟩,⟨v1,g1⟩⟩:=a
 obtain ⟨⟨k2,h2⟩,⟨v2,g2⟩⟩:=b
 exact ⟨⟨k1++k2,by rw [h2,h1,List.append_assoc]⟩,⟨v1++v2,by rw [g2,g1,List.append_assoc]⟩⟩
theorem Ext_.kl {s s' : Ds}(a:Ext_ s s'):s.known.length≤s'.known.length:=by
 obtain ⟨⟨k1,h1⟩,_⟩:=a
 rw [h1,List.length_append];omega
theorem Ext_.vl {s s' : Ds}(a:Ext_ s s'):s.vals.length≤s'.vals.length:=by
 obtain ⟨_,⟨k1,h1⟩⟩:=a
 rw [h1,List.length_append];omega
theorem state_ext (ops:List Int)(s:Ds):Ext_ s (stateM ops s).2:=by
 obtain ⟨p,hp⟩:=some_pos ops (num ops s 4).1 (num ops s 4).2 []
 unfold stateM
 simp only [hp]
 exact ⟨⟨[],by simp [num]⟩,⟨[],by simp [num]⟩⟩
theorem putK_ext (s:Ds)(x:Vl):Ext_ s (putK s x):=⟨⟨_,rfl⟩,⟨_,rfl⟩⟩
theorem put_ext (s:Ds)(x:Vl):Ext_ s (put s x):=⟨⟨[],by simp [put]⟩,⟨_,rfl⟩⟩
theorem num_ext (ops:List Int)(s:Ds)(m:Nat):Ext_ s (num ops s m).2:=⟨⟨[],by simp [num]⟩,⟨[],by simp [num]⟩⟩
theorem one_ext (ops:List Int)(s:Ds):Ext_ s (one_ ops s).2:=⟨⟨[],by simp [one_]⟩,⟨[],by simp [one_]⟩⟩
theorem kind_ext (ops:List Int)(s:Ds)(k a b:Nat):Ext_ s (kindM ops s k a b):=by
 unfold kindM
 split
 ·exact putK_ext _ _
 split
 ·exact (num_ext _ _ _).trans (putK_ext _ _)
 split
 ·exact (num_ext _ _ _).trans (putK_ext _ _)
 split
 ·exact putK_ext _ _
 split
 ·exact (num_ext _ _ _).trans (put_ext _ _)
 split
 ·exact (one_ext _ _).trans (put_ext _ _)
 split
 ·exact (state_ext _ _).trans (put_ext _ _)
 split
 ·exact (state_ext _ _).trans (put_ext _ _)
 ·exact (num_ext _ _ _).trans (putK_ext _ _)
theorem rows_ext (ops:List Int):∀(i:Nat)(s:Ds),Ext_ s (rows ops i s)
 | 0,s=> .refl s
 | i + 1, s => by
   unfold rows
   split
   · exact (((one_ext ops s).trans (one_ext ops _)).trans ((num_ext ops _ 20).trans (kind_ext _ _ _ _ _))).trans (rows_ext ops i _)
   · exact .refl s
theorem row_ext (ops:List Int)(s:Ds):Ext_ s (row ops s):=(num_ext ops s 6).trans (rows_ext ops _ _)
def fRow (L:Lc):V:= .func n_turnstonehand_Unit_4 [] [.ptr L.lnext 0, .ptr L.lu 0, .ptr L.lkn 0, .ptr L.lput 0, .ptr L.lst 0]
def fEnd (L:Lc):V:= .func n_turnstonehand_Unit_5 [] [.ptr L.lbl 0, .ptr L.lu 0]
def nats (xs:List Nat):List V:=xs.map fun n=> .int .i64 (n:Nat)
section
variable {F F' G G' : Nat→Prop} {h h' : Hp} {L:Lc} {ops:List Int} {t t' : Dt} {R R' : Rw} {Q:QP1}
theorem nx_new (q:Dq F G h L ops t R)(xs:List Nat):Dq (fz F h.next) G (h.new (.cells 3 1 true false (nats xs))) L ops t R∧SlR eN (fz F h.next) (h.new (.cells 3 1 true false (nats xs))) xs (.slice h.next 0 xs.length)∧Kp F G h (h.new (.cells 3 1 true false (nats xs))):=by
 have k:=q.D.kpNew (.cells 3 1 true false (nats xs))
 exact ⟨q.step k (q.D.new _) (fz_le _ _) q.gl q.hq rfl, .inr ⟨h.next,0,3,true,false,nats xs,rfl, .inr rfl,get_new_self _ _, .inr rfl,Nat.zero_le _,win_nats _ _ xs⟩,k⟩
theorem go_preds (q:Dq F G h L ops t R)(xs:List Nat){ps:Option (O×(Nat→V))}(hx:ps=some (O.cells 3 1 true false (nats xs),fun l=> .slice l 0 xs.length)){K:Hp→Prop}
  (H:∀F' h' R',(∀l,F l→F' l)→Kp F G h h'→Dq F' G h' L ops { t with preds:=xs } R'→K h') :
  alP ps h fun v h1=>oP (pFA 4 (.ptr L.lbl 0)) fun v2=>valP (pSt 1 v2 v h1) fun _ h2=>K h2:=by
 subst hx
 obtain ⟨q1,s1,k1⟩:=nx_new q xs
 rw [alP_some,pFA_ptr,oP_some']
 have e1:=pSt_put (o:=4) (v:= .slice h.next 0 xs.length) (cs':=[R.cc, .int .i64 0, .int .i64 0, .nilSlice, .slice h.next 0 xs.length, .int .i64 0]) q1.D.gb (by simp) rfl rfl
 obtain ⟨k2,D2⟩:=q1.D.setBl (c:=R.cc) s1
 rw [Nat.zero_add,e1,valP_some]
 exact H _ _ _ (fz_le _ _) (k1.trans k2 (fz_le _ _)) (q1.step k2 D2 (fun _ h=>h) q.gl q1.hq rfl)
theorem go_end (q:Dq F G h L ops t R)(hn:t.blocks.length<1000)(b:Bk){w nv:V}(hw:w = .agg (bkC b .nilSlice nv .nilSlice))(hv0:b.vals=[])(hp0:b.preds=[])(hnx:SlR eN F h b.next nv){K:QP1}
  (H:∀F' h' R',(∀l,F l→F' l)→Kp F G h h'→Dq F' G h' L ops { s:={ t.s with cur:=[] },blocks:=t.blocks++[⟨t.s.cur,b.fin,b.cond,b.next,t.preds,b.state⟩],preds:=[] } R'→K (.int .i64 (t.blocks.length:Nat)) h') :
  calP CS (hcall (fEnd L) [w]) h K:=by
 subst hw
 exact ct_end (n:=0) q hn hv0 hp0 hnx H
theorem go_row (q:Dq F G h L ops t R)(ho:ops.length<9223372036854775808){n:Nat}(hn:Sm t.s n)(hn2:n<900){K:QP1}
  (H:∀F' h' R',(∀l,F l→F' l)→Kp F (gm G L.lat) h h'→Dq F' G h' L ops { t with s:=row ops t.s } R'→Sm (row ops t.s) (n+6)→K (.tuple []) h') :
  calP CS (hcall (fRow L) []) h K:=ct_row q ho hn hn2 H
theorem go_last (q:Dq F G h L ops t R)(hk:0<t.s.known.length)(hk2:t.s.known.length<1000){K:V→Prop}(H:K (.int .i64 (t.s.known.getLastD 0:Nat))) :
  oP (pLd (.ptr L.lkn 0) h) fun a=>oP (pLd (.ptr L.lkn 0) h) fun b=>oP (pLen b) fun n=>oP (hbin .sub 3 n (.int .i64 1)) fun i=>oP (pIx 1 a i) fun p=>oP (pLd p h) K:=by
 obtain ⟨l,o,_,_,i1,i2⟩:=q.knownAt (i:=t.s.known.length - 1) (by omega)
 refine oP_mk q.D.ldK (oP_mk q.D.ldK (oP_mk q.D.ok.len (st_sub1 (by omega) hk (oP_mk i1 (oP_mk i2 ?_)))))
 rw [getLastD_getD _ hk]
 exact H
theorem go_cut (q:Dq F G h L ops t R){m:Nat}(hm:m≤t.s.known.length){K:Hp→Prop}(H:∀h' R',Kp F G h h'→Dq F G h' L ops { t with s:=cut m t.s } R'→K h') :
  oP (pLd (.ptr L.lkn 0) h) fun a=>oP (hsliceV 1 a none (some (.int .i64 (m:Nat))) h) fun s=>valP (pSt 1 (.ptr L.lkn 0) s h) fun _ h2=>K h2:=by
 obtain ⟨v',h2,e1,e2,_,k,D2⟩:=q.D.cutK hm
 refine oP_mk q.D.ldK (oP_mk e1 ?_)
 rw [e2,valP_some]
 exact H _ _ k (q.step k D2 (fun _ h=>h) q.gl q.hq rfl)
theorem go_one (q:Dq F G h L ops t R)(ho:ops.length<9223372036854775808){n:Nat}(hn:Sm t.s n)(hn2:n<1000){K:QP1}
  (H:∀h',Kp F (gm G L.lat) h h'→Dq F G h' L ops { t with s:=(one_ ops t.s).2 } R→K (.int .i64 ((one_ ops t.s).1:Nat)) h') :
  oP (pLd (.ptr L.lkn 0) h) fun a=>oP (pLd (.ptr L.lnext 0) h) fun f=>oP (pLd (.ptr L.lkn 0) h) fun b=>oP (pLen b) fun n=>calP CS (hcall f [n]) h fun i h2=>(h.next≤h2.next∧oP (pIx 1 a i) fun p=>oP (pLd p h2) fun v=>((pLd (.ptr L.lkn 0) h2=some a)∧K v h2)):=by
 refine oP_mk q.D.ldK (oP_mk q.ldNext (oP_mk q.D.ldK (oP_mk q.D.ok.len ?_)))
 show cP CS n_turnstonehand_Unit_2 [.int .i64 (t.s.known.length:Nat), .ptr L.lat 0, .ptr L.lr 0] h _
 exact ct_one q ho hn hn2 fun h2 l o k2 q2 _ i1 i2=>⟨k2.next,oP_mk i1 (oP_mk i2 ⟨q2.D.ldK,H _ k2 q2⟩)⟩
theorem go_state (q:Dq F G h L ops t R)(ho:ops.length<9223372036854775808){n:Nat}(hn:Sm t.s n)(hn2:n<999){K:QP1}
  (H:∀F' h' R',(∀l,F l→F' l)→Kp F (gm G L.lat) h h'→Dq F' G h' L ops { t with s:=(stateM ops t.s).2 } R'→Sm (stateM ops t.s).2 (n+1)→K (.int .i64 ((stateM ops t.s).1:Nat)) h') :
  calP CS (hcall (fState L) []) h K:=by
 show cP CS n_turnstonehand_Unit_3 [.ptr L.lu 0, .ptr L.lnext 0, .ptr L.lkn 0] h _
 have h1:=hn.k
 have h2:=hn.st
 exact ct_state q hn.k0 (by omega) (by omega) ho fun F' h' R' a b c _=>H F' h' R' a b c (hn.state ops)
theorem Sm.end_ {t:Dt}{n:Nat}(a:Sm t.s n)(f c:Nat)(nx:List Nat)(s:Nat)(p:List Nat):Sm (Un.end_ t f c nx s p).s n:=⟨a.v,Nat.zero_le _,a.k,a.st,a.k0⟩
theorem Sm.cut {s:Ds}{n m:Nat}(a:Sm s n)(h0:0<m)(hm:m≤s.known.length):Sm (Un.cut m s) n:=
 ⟨a.v,a.c,by show (s.known.take m).length≤n;rw [List.length_take];have:=a.k;omega,a.st,by show 0<(s.known.take m).length;rw [List.length_take];omega⟩
theorem Sm.setArgs {s:Ds}{n:Nat}(a:Sm s n)(v:Nat)(l:List Nat):Sm (Un.setArgs s v l) n:=⟨by rw [(set_sz s v l).1];exact a.v,a.c,a.k,a.st,a.k0⟩
theorem go_endN (q:Dq F G h L ops t R)(hn:t.blocks.length<1000)(fin cond:Nat)(nx:List Nat)(state:Nat){ps:Option (O×(Nat→V))}(hx:ps=some (O.cells 3 1 true false (nats nx),fun l=> .slice l 0 nx.length)){B:V→Option V}
  (hB:∀m,B (.slice m 0 nx.length)=some (.agg (bkC ⟨[],fin,cond,nx,[],state⟩ .nilSlice (.slice m 0 nx.length) .nilSlice))) {K:QP1}
  (H:∀F' h' R',(∀l,F l→F' l)→Kp F G h h'→Dq F' G h' L ops { s:={ t.s with cur:=[] },blocks:=t.blocks++[⟨t.s.cur,fin,cond,nx,t.preds,state⟩],preds:=[] } R'→K (.int .i64 (t.blocks.length:Nat)) h') :
  alP ps h fun v h1=>oP (B v) fun w=>calP CS (hcall (fEnd L) [w]) h1 K:=by
 subst hx
 obtain ⟨q1,s1,k1⟩:=nx_new q nx
 rw [alP_some]
 refine oP_mk (hB _) ?_
 exact go_end q1 hn ⟨[],fin,cond,nx,[],state⟩ rfl rfl rfl s1 fun F' h' R' a b c=>H F' h' R' (fun l hl=>a l (fz_le _ _ l hl)) (k1.trans b (fz_le _ _)) c
end
end Go.Proofs.YtiepamfpilhcjaaDoor.Hx
namespace Go.Proofs.YtiepamfpilhcjaaDoor.Hx
open Go.Proofs.YtiepamfpilhcjaaDoor.Un
section
variable {F F' G G' : Nat→Prop} {h h' : Hp} {L:Lc} {ops:List Int} {t t' : Dt} {R R' : Rw} {Q:QP1}
theorem pkg (q:Dq F G h L ops t R) {t' : Dt}(e:t=t'):Dq F G h L ops t' R:=e▸q
theorem kgm {F F' G:Nat→Prop} {h h' h'' : Hp}{a:Nat}(x:Kp F (gm G a) h h')(y:Kp F' G h' h'')(hF:∀l,F l→F' l):Kp F (gm G a) h h'':=x.trans (y.gm a) hF
theorem sh_fork (q:Dq F G h L ops t R)(ho:ops.length<9223372036854775808){n:Nat}(hn:Sm t.s n)(hn2:n<800)(hb:t.blocks.length<900){K:Hp→Prop}
  (H:∀F' h' R',(∀l,F l→F' l)→Kp F (gm G L.lat) h h'→Dq F' G h' L ops (fork ops t) R'→Sm (fork ops t).s (n+30)→K h') :
  oP (pLd (.ptr L.lkn 0) h) fun v128=>
  oP (pLd (.ptr L.lnext 0) h) fun v129=>
  oP (pLd (.ptr L.lkn 0) h) fun v130=>
  oP (pLen v130) fun v131=>
  calP CS (hcall v129 [v131]) h fun v132 h2=>
  (h.next≤h2.next∧
  oP (pIx 1 v128 v132) fun v133=>
  oP (pLd v133 h2) fun v134=>
  ((pLd (.ptr L.lkn 0) h2=some v128)∧
  oP (pLd (.ptr L.lkn 0) h2) fun v135=>
  oP (pLen v135) fun v136=>
  oP (pFA 3 (.ptr L.lu 0)) fun v139=>
  oP (pLd v139 h2) fun v140=>
  oP (pLen v140) fun v141=>
  oP (hbin .add 3 v141 (V.int .i64 1)) fun v142=>
  oP (pFA 3 (.ptr L.lu 0)) fun v143=>
  oP (pLd v143 h2) fun v144=>
  oP (pLen v144) fun v145=>
  oP (hbin .add 3 v145 (V.int .i64 2)) fun v146=>
  alP (pBS 3 1 2 (V.int .i64 0) [(0,v142),(1,v146)]) h2 fun v147 h3=>
  oP (pBuild [V.nilSlice,(V.int .i64 0),(V.int .i64 0),V.nilSlice,V.nilSlice,(V.int .i64 0)] [(0,1),(1,1),(2,1),(3,1),(4,1),(5,1)] [(1,(V.int .i64 2)),(2,v134),(3,v147)]) fun v148=>
  calP CS (hcall (fEnd L) [v148]) h3 fun v149 h4=>
  alP (pBS 3 1 1 (V.int .i64 0) [(0,v149)]) h4 fun v151 h5=>
  oP (pFA 4 (.ptr L.lbl 0)) fun v152=>
  valP (pSt 1 v152 v151 h5) fun vu h6=>
  calP CS (hcall (fRow L) []) h6 fun v154 h7=>
  oP (pLd (.ptr L.lkn 0) h7) fun v155=>
  oP (pLd (.ptr L.lkn 0) h7) fun v156=>
  oP (pLen v156) fun v157=>
  oP (hbin .sub 3 v157 (V.int .i64 1)) fun v158=>
  oP (pIx 1 v155 v158) fun v159=>
  oP (pLd v159 h7) fun v160=>
  oP (pLd (.ptr L.lkn 0) h7) fun v161=>
  oP (hsliceV 1 v161 none (some v136) h7) fun v163=>
  valP (pSt 1 (.ptr L.lkn 0) v163 h7) fun vu_1 h8=>
  oP (pFA 3 (.ptr L.lu 0)) fun v165=>
  oP (pLd v165 h8) fun v166=>
  oP (pLen v166) fun v167=>
  oP (hbin .add 3 v167 (V.int .i64 2)) fun v168=>
  alP (pBS 3 1 1 (V.int .i64 0) [(0,v168)]) h8 fun v169 h9=>
  oP (pBuild [V.nilSlice,(V.int .i64 0),(V.int .i64 0),V.nilSlice,V.nilSlice,(V.int .i64 0)] [(0,1),(1,1),(2,1),(3,1),(4,1),(5,1)] [(1,(V.int .i64 1)),(3,v169)]) fun v170=>
  calP CS (hcall (fEnd L) [v170]) h9 fun v171 h10=>
  alP (pBS 3 1 1 (V.int .i64 0) [(0,v149)]) h10 fun v173 h11=>
  oP (pFA 4 (.ptr L.lbl 0)) fun v174=>
  valP (pSt 1 v174 v173 h11) fun vu_2 h12=>
  calP CS (hcall (fRow L) []) h12 fun v176 h13=>
  oP (pLd (.ptr L.lkn 0) h13) fun v177=>
  oP (pLd (.ptr L.lkn 0) h13) fun v178=>
  oP (pLen v178) fun v179=>
  oP (hbin .sub 3 v179 (V.int .i64 1)) fun v180=>
  oP (pIx 1 v177 v180) fun v181=>
  oP (pLd v181 h13) fun v182=>
  oP (pLd (.ptr L.lkn 0) h13) fun v183=>
  oP (hsliceV 1 v183 none (some v136) h13) fun v185=>
  valP (pSt 1 (.ptr L.lkn 0) v185 h13) fun vu_3 h14=>
  oP (pFA 3 (.ptr L.lu 0)) fun v187=>
  oP (pLd v187 h14) fun v188=>
  oP (pLen v188) fun v189=>
  oP (hbin .add 3 v189 (V.int .i64 1)) fun v190=>
  alP (pBS 3 1 1 (V.int .i64 0) [(0,v190)]) h14 fun v191 h15=>
  oP (pBuild [V.nilSlice,(V.int .i64 0),(V.int .i64 0),V.nilSlice,V.nilSlice,(V.int .i64 0)] [(0,1),(1,1),(2,1),(3,1),(4,1),(5,1)] [(1,(V.int .i64 1)),(3,v191)]) fun v192=>
  calP CS (hcall (fEnd L) [v192]) h15 fun v193 h16=>
  alP (pBS 3 1 2 (V.int .i64 0) [(0,v171),(1,v193)]) h16 fun v196 h17=>
  oP (pFA 4 (.ptr L.lbl 0)) fun v197=>
  valP (pSt 1 v197 v196 h17) fun vu_4 h18=>
  oP (pLd (.ptr L.lkn 0) h18) fun v198=>
  oP (pLd (.ptr L.lput 0) h18) fun v199=>
  alO (pBS 3 1 2 (V.int .i64 0) [(0,v160),(1,v182)]) h18 fun o4 v202 h19=>
  oP (pBuild [(V.int .i64 0),(V.int .i64 0),(V.int .i64 0),(V.int .i64 0),V.nilSlice,(V.int .i64 0)] [(0,1),(1,1),(2,1),(3,1),(4,1),(5,1)] [(0,(V.int .i64 21)),(4,v202)]) fun v203=>
  ((h19.get (h18.next)=some o4∧O.beq o4 o4=true)∧
  ((pLd (.ptr L.lput 0) h19=some v199)∧
  ((pLd (.ptr L.lkn 0) h19=some v198)∧
  calP CS (hcall v199 [v203]) h19 fun v204 h20=>
  (h19.next≤h20.next∧
  alO (pBS 3 1 1 (V.int .i64 0) [(0,v204)]) h20 fun o7 v205 h21=>
  ((h21.get (h20.next)=some o7∧O.beq o7 o7=true)∧
  ((pLd (.ptr L.lkn 0) h21=some v198)∧
  valP (happend 3 1 8 v198 v205 h21) fun v206 h22=>
  (h21.next≤h22.next∧
  valP (pSt 1 (.ptr L.lkn 0) v206 h22) fun vu_5 h23=>
  (h22.next≤h23.next∧
  calP CS (hcall (fRow L) []) h23 fun v208 h24=>K h24)))))))))):=by
 have hk0:=hn.k0
 have hk:=hn.k
 refine go_one q ho hn (by omega) fun h2 k2 q2=>?_
 refine oP_mk q2.D.ldK (oP_mk q2.D.ok.len ?_)
 refine oP_mk (pFA_ptr _ _ _) (oP_mk q2.D.ldB (oP_mk q2.D.ob.len (st_add (m:=1) (show t.blocks.length<_ by omega) (by omega) ?_)))
 refine oP_mk (pFA_ptr _ _ _) (oP_mk q2.D.ldB (oP_mk q2.D.ob.len (st_add (m:=2) (show t.blocks.length<_ by omega) (by omega) ?_)))
 have n2:Sm (one_ ops t.s).2 n:=hn.one
 refine go_endN q2 (show t.blocks.length<_ by omega) 2 (one_ ops t.s).1 [t.blocks.length+1,t.blocks.length+2] 0 rfl (fun _=>rfl) fun F4 h4 R4 f4 k4 q4=>?_
 refine go_preds q4 [t.blocks.length] rfl fun F6 h6 R6 f6 k6 q6=>?_
 have q6:=pkg (t':=end_ { t with s:=(one_ ops t.s).2 } 2 (one_ ops t.s).1 [t.blocks.length+1,t.blocks.length+2] 0 [t.blocks.length]) q6 rfl
 have n6:Sm (end_ { t with s:=(one_ ops t.s).2 } 2 (one_ ops t.s).1 [t.blocks.length+1,t.blocks.length+2] 0 [t.blocks.length]).s n:=n2.end_ (t:={ t with s:=(one_ ops t.s).2 }) _ _ _ _ _
 have e6b:(end_ { t with s:=(one_ ops t.s).2 } 2 (one_ ops t.s).1 [t.blocks.length+1,t.blocks.length+2] 0 [t.blocks.length]).blocks.length=t.blocks.length+1:=by simp [end_]
 have e6k:(end_ { t with s:=(one_ ops t.s).2 } 2 (one_ ops t.s).1 [t.blocks.length+1,t.blocks.length+2] 0 [t.blocks.length]).s.known.length=t.s.known.length:=rfl
 have hfork:fork ops t=fork ops t:=rfl
 conv at hfork=>rhs;unfold fork
 simp only at hfork
 have el:({ t with s:=(one_ ops t.s).2 } : Dt).s.known.length=t.s.known.length:=rfl
 rw [el]
 have kA:=kgm k2 (k4.trans k6 f4) fun _ h=>h
 have fA:∀l,F l→F6 l:=fun l hl=>f6 l (f4 l hl)
 generalize end_ { t with s:=(one_ ops t.s).2 } 2 (one_ ops t.s).1 [t.blocks.length+1,t.blocks.length+2] 0 [t.blocks.length]=t1 at *
 clear q2 q4 k2 k4 k6
 refine go_row q6 ho n6 (by omega) fun F7 h7 R7 f7 k7 q7 n7=>?_
 have x7:=row_ext ops t1.s
 have hl7:=x7.kl
 generalize row ops t1.s=s1 at *
 have hk7:=n7.k
 refine go_last q7 (by show 0<s1.known.length;omega) (by show s1.known.length<_;omega) ?_
 refine go_cut q7 (m:=t.s.known.length) (by show _≤s1.known.length;omega) fun h8 R8 k8 q8=>?_
 have n8:Sm (cut t.s.known.length s1) (n+6):=n7.cut hk0 (by omega)
 refine oP_mk (pFA_ptr _ _ _) (oP_mk q8.D.ldB (oP_mk q8.D.ob.len (st_add (m:=2) (show t1.blocks.length<_ by omega) (by omega) ?_)))
 refine go_endN q8 (show t1.blocks.length<_ by omega) 1 0 [t.blocks.length+3] 0 (by show pBS 3 1 1 (V.int .i64 0) [(0, .int .i64 ((t1.blocks.length+2:Nat):Int))]=_;rw [e6b];rfl) (fun _=>rfl) fun F10 h10 R10 f10 k10 q10=>?_
 refine go_preds q10 [t.blocks.length] rfl fun F12 h12 R12 f12 k12 q12=>?_
 have q12:=pkg (t':=end_ { t1 with s:=cut t.s.known.length s1 } 1 0 [t.blocks.length+3] 0 [t.blocks.length]) q12 rfl
 have n12:Sm (end_ { t1 with s:=cut t.s.known.length s1 } 1 0 [t.blocks.length+3] 0 [t.blocks.length]).s (n+6):=n8.end_ (t:={ t1 with s:=cut t.s.known.length s1 }) _ _ _ _ _
 have e12b:(end_ { t1 with s:=cut t.s.known.length s1 } 1 0 [t.blocks.length+3] 0 [t.blocks.length]).blocks.length=t.blocks.length+2:=by simp [end_,e6b]
 have e12k:(end_ { t1 with s:=cut t.s.known.length s1 } 1 0 [t.blocks.length+3] 0 [t.blocks.length]).s.known.length=t.s.known.length:=by
  show (s1.known.take t.s.known.length).length=_
  rw [List.length_take];omega
 have hbl1:({ t1 with s:=cut t.s.known.length s1 } : Dt).blocks.length=t.blocks.length+1:=e6b
 rw [hbl1]
 have hlast:({ t1 with s:=s1 } : Dt).s.known.getLastD 0=s1.known.getLastD 0:=rfl
 rw [hlast]
 have kB:=(((kA.trans k7 fA).trans ((k8.gm L.lat).trans (k10.gm L.lat) fun _ h=>h) fun l hl=>f7 l (fA l hl)).trans (k12.gm L.lat) fun l hl=>f10 l (f7 l (fA l hl)))
 have fB:∀l,F l→F12 l:=fun l hl=>f12 l (f10 l (f7 l (fA l hl)))
 generalize s1.known.getLastD 0=xx at *
 generalize end_ { t1 with s:=cut t.s.known.length s1 } 1 0 [t.blocks.length+3] 0 [t.blocks.length]=t2 at *
 clear q6 q7 q8 q10 k7 k8 k10 k12 kA
 refine go_row q12 ho n12 (by omega) fun F13 h13 R13 f13 k13 q13 n13=>?_
 have x13:=row_ext ops t2.s
 have hl13:=x13.kl
 generalize row ops t2.s=s2 at *
 have hk13:=n13.k
 refine go_last q13 (by show 0<s2.known.length;omega) (by show s2.known.length<_;omega) ?_
 refine go_cut q13 (m:=t.s.known.length) (by show _≤s2.known.length;omega) fun h14 R14 k14 q14=>?_
 have n14:Sm (cut t.s.known.length s2) (n+6+6):=n13.cut hk0 (by omega)
 refine oP_mk (pFA_ptr _ _ _) (oP_mk q14.D.ldB (oP_mk q14.D.ob.len (st_add (m:=1) (show t2.blocks.length<_ by omega) (by omega) ?_)))
 refine go_endN q14 (show t2.blocks.length<_ by omega) 1 0 [t.blocks.length+3] 0 (by show pBS 3 1 1 (V.int .i64 0) [(0, .int .i64 ((t2.blocks.length+1:Nat):Int))]=_;rw [e12b];rfl) (fun _=>rfl) fun F16 h16 R16 f16 k16 q16=>?_
 have hbl2:({ t2 with s:=cut t.s.known.length s2 } : Dt).blocks.length=t.blocks.length+2:=e12b
 rw [hbl2]
 refine go_preds q16 [t.blocks.length+1,t.blocks.length+2] rfl fun F18 h18 R18 f18 k18 q18=>?_
 have q18:=pkg (t':=end_ { t2 with s:=cut t.s.known.length s2 } 1 0 [t.blocks.length+3] 0 [t.blocks.length+1,t.blocks.length+2]) q18 rfl
 have n18:Sm (end_ { t2 with s:=cut t.s.known.length s2 } 1 0 [t.blocks.length+3] 0 [t.blocks.length+1,t.blocks.length+2]).s (n+12):=(n14.le (by omega)).end_ (t:={ t2 with s:=cut t.s.known.length s2 }) _ _ _ _ _
 have hlast2:({ t2 with s:=s2 } : Dt).s.known.getLastD 0=s2.known.getLastD 0:=rfl
 rw [hlast2]
 have kC:=(((kB.trans k13 fB).trans ((k14.gm L.lat).trans (k16.gm L.lat) fun _ h=>h) fun l hl=>f13 l (fB l hl)).trans (k18.gm L.lat) fun l hl=>f16 l (f13 l (fB l hl)))
 have fC:∀l,F l→F18 l:=fun l hl=>f18 l (f16 l (f13 l (fB l hl)))
 generalize s2.known.getLastD 0=yy at *
 generalize end_ { t2 with s:=cut t.s.known.length s2 } 1 0 [t.blocks.length+3] 0 [t.blocks.length+1,t.blocks.length+2]=t3 at *
 clear q12 q13 q14 q16 k13 k14 k16 k18 kB
 refine oP_mk q18.D.ldK (oP_mk q18.ldPut ?_)
 have e3:pBS 3 1 2 (V.int .i64 0) [(0,V.int .i64 (xx:Nat)),(1,V.int .i64 (yy:Nat))]=some (.cells 3 1 true false (nats [xx,yy]),fun l=> .slice l 0 2):=rfl
 rw [e3,alO_some]
 obtain ⟨q19,s19,k19⟩:=nx_new q18 [xx,yy]
 have g19:(h18.new (.cells 3 1 true false (nats [xx,yy]))).get h18.next=_:=get_new_self _ _
 have eP:∀n:Nat,pBuild [(V.int .i64 0),(V.int .i64 0),(V.int .i64 0),(V.int .i64 0),V.nilSlice,(V.int .i64 0)] [(0,1),(1,1),(2,1),(3,1),(4,1),(5,1)] [(0,(V.int .i64 21)),(4, .slice n 0 2)]=some (.agg (vlC (vl 21 0 0 0 [xx,yy] 0) (.slice n 0 2))):=fun _=>rfl
 refine oP_mk (eP _) ⟨⟨g19,O.beq_cells _ _ _ _ _⟩,q19.ldPut,q19.D.ldK,?_⟩
 generalize h18.new (.cells 3 1 true false (nats [xx,yy]))=h19 at *
 refine ct_putK q19 n18 (by omega) ⟨_,rfl,s19⟩ fun h23 R23 k23 q23=>?_
 refine go_row q23 ho (n18.putK _) (by omega) fun F24 h24 R24 f24 k24 q24 n24=>?_
 refine H F24 h24 R24 (fun l hl=>f24 l (fz_le _ _ l (fC l hl))) ((kC.trans ((k19.gm L.lat).trans (k23.gm L.lat) (fz_le _ _)) fC).trans k24 fun l hl=>fz_le _ _ l (fC l hl)) (pkg q24 hfork.symm) ?_
 rw [hfork]
 exact n24.le (by omega)
end
end Go.Proofs.YtiepamfpilhcjaaDoor.Hx
namespace Go.Proofs.YtiepamfpilhcjaaDoor.Hx
open Go.Proofs.YtiepamfpilhcjaaDoor.Un
section
variable {F F' G G' : Nat→Prop} {h h' : Hp} {L:Lc} {ops:List Int} {t t' : Dt} {R R' : Rw} {Q:QP1}
theorem sh_exit (q:Dq F G h L ops t R)(ho:ops.length<9223372036854775808){n:Nat}(hn:Sm t.s n)(hn2:n<800)(hb:t.blocks.length<900){K:Hp→Prop}
  (H:∀F' h' R',(∀l,F l→F' l)→Kp F (gm G L.lat) h h'→Dq F' G h' L ops (exit_ ops t) R'→Sm (exit_ ops t).s (n+30)→K h') :
  oP (pLd (.ptr L.lkn 0) h) fun v86=>
  oP (pLd (.ptr L.lnext 0) h) fun v87=>
  oP (pLd (.ptr L.lkn 0) h) fun v88=>
  oP (pLen v88) fun v89=>
  calP CS (hcall v87 [v89]) h fun v90 h55=>
  (h.next≤h55.next∧
  oP (pIx 1 v86 v90) fun v91=>
  oP (pLd v91 h55) fun v92=>
  ((pLd (.ptr L.lkn 0) h55=some v86)∧
  oP (pFA 3 (.ptr L.lu 0)) fun v95=>
  oP (pLd v95 h55) fun v96=>
  oP (pLen v96) fun v97=>
  oP (hbin .add 3 v97 (V.int .i64 1)) fun v98=>
  oP (pFA 3 (.ptr L.lu 0)) fun v99=>
  oP (pLd v99 h55) fun v100=>
  oP (pLen v100) fun v101=>
  oP (hbin .add 3 v101 (V.int .i64 2)) fun v102=>
  alP (pBS 3 1 2 (V.int .i64 0) [(0,v98),(1,v102)]) h55 fun v103 h56=>
  oP (pBuild [V.nilSlice,(V.int .i64 0),(V.int .i64 0),V.nilSlice,V.nilSlice,(V.int .i64 0)] [(0,1),(1,1),(2,1),(3,1),(4,1),(5,1)] [(1,(V.int .i64 2)),(2,v92),(3,v103)]) fun v104=>
  calP CS (hcall (fEnd L) [v104]) h56 fun v105 h57=>
  oP (pLd (.ptr L.lkn 0) h57) fun v106=>
  oP (pLen v106) fun v107=>
  alP (pBS 3 1 1 (V.int .i64 0) [(0,v105)]) h57 fun v109 h58=>
  oP (pFA 4 (.ptr L.lbl 0)) fun v110=>
  valP (pSt 1 v110 v109 h58) fun vu_12 h59=>
  calP CS (hcall (fRow L) []) h59 fun v112 h60=>
  oP (pLd (.ptr L.lst 0) h60) fun v114=>
  calP CS (hcall v114 []) h60 fun v115 h61=>
  oP (pBuild [V.nilSlice,(V.int .i64 0),(V.int .i64 0),V.nilSlice,V.nilSlice,(V.int .i64 0)] [(0,1),(1,1),(2,1),(3,1),(4,1),(5,1)] [(1,(V.int .i64 3)),(5,v115)]) fun v116=>
  calP CS (hcall (fEnd L) [v116]) h61 fun v117 h62=>
  oP (pLd (.ptr L.lkn 0) h62) fun v118=>
  oP (hsliceV 1 v118 none (some v107) h62) fun v120=>
  valP (pSt 1 (.ptr L.lkn 0) v120 h62) fun vu_13 h63=>
  alP (pBS 3 1 1 (V.int .i64 0) [(0,v105)]) h63 fun v122 h64=>
  oP (pFA 4 (.ptr L.lbl 0)) fun v123=>
  valP (pSt 1 v123 v122 h64) fun vu_14 h65=>
  calP CS (hcall (fRow L) []) h65 fun v125 h66=>K h66)):=by
 have hk0:=hn.k0
 have hk:=hn.k
 refine go_one q ho hn (by omega) fun h2 k2 q2=>?_
 refine oP_mk (pFA_ptr _ _ _) (oP_mk q2.D.ldB (oP_mk q2.D.ob.len (st_add (m:=1) (show t.blocks.length<_ by omega) (by omega) ?_)))
 refine oP_mk (pFA_ptr _ _ _) (oP_mk q2.D.ldB (oP_mk q2.D.ob.len (st_add (m:=2) (show t.blocks.length<_ by omega) (by omega) ?_)))
 have n2:Sm (one_ ops t.s).2 n:=hn.one
 refine go_endN q2 (show t.blocks.length<_ by omega) 2 (one_ ops t.s).1 [t.blocks.length+1,t.blocks.length+2] 0 rfl (fun _=>rfl) fun F4 h4 R4 f4 k4 q4=>?_
 refine oP_mk q4.D.ldK (oP_mk q4.D.ok.len ?_)
 refine go_preds q4 [t.blocks.length] rfl fun F6 h6 R6 f6 k6 q6=>?_
 have q6:=pkg (t':=end_ { t with s:=(one_ ops t.s).2 } 2 (one_ ops t.s).1 [t.blocks.length+1,t.blocks.length+2] 0 [t.blocks.length]) q6 rfl
 have n6:Sm (end_ { t with s:=(one_ ops t.s).2 } 2 (one_ ops t.s).1 [t.blocks.length+1,t.blocks.length+2] 0 [t.blocks.length]).s n:=n2.end_ (t:={ t with s:=(one_ ops t.s).2 }) _ _ _ _ _
 have e6b:(end_ { t with s:=(one_ ops t.s).2 } 2 (one_ ops t.s).1 [t.blocks.length+1,t.blocks.length+2] 0 [t.blocks.length]).blocks.length=t.blocks.length+1:=by simp [end_]
 have e6k:(end_ { t with s:=(one_ ops t.s).2 } 2 (one_ ops t.s).1 [t.blocks.length+1,t.blocks.length+2] 0 [t.blocks.length]).s.known.length=t.s.known.length:=rfl
 have hx:exit_ ops t=exit_ ops t:=rfl
 conv at hx=>rhs;unfold exit_
 simp only at hx
 have kA:=kgm k2 (k4.trans k6 f4) fun _ h=>h
 have fA:∀l,F l→F6 l:=fun l hl=>f6 l (f4 l hl)
 generalize end_ { t with s:=(one_ ops t.s).2 } 2 (one_ ops t.s).1 [t.blocks.length+1,t.blocks.length+2] 0 [t.blocks.length]=t1 at *
 clear q2 q4 k2 k4 k6
 refine go_row q6 ho n6 (by omega) fun F7 h7 R7 f7 k7 q7 n7=>?_
 have x7:=row_ext ops t1.s
 have hl7:=x7.kl
 generalize row ops t1.s=s1 at *
 refine oP_mk q7.ldState ?_
 refine go_state q7 ho n7 (by omega) fun F8 h8 R8 f8 k8 q8 n8=>?_
 have x8:=state_ext ops s1
 have hl8:=x8.kl
 have e8:stateM ops ({ t1 with s:=s1 } : Dt).s=stateM ops s1:=rfl
 rw [e8]
 have q8:Dq F8 G h8 L ops { t1 with s:=(stateM ops s1).2 } R8:=q8
 have n8:Sm (stateM ops s1).2 (n+6+1):=n8
 generalize (stateM ops s1).2=s2 at *
 generalize (stateM ops s1).1=sn at *
 have eB:pBuild [V.nilSlice,(V.int .i64 0),(V.int .i64 0),V.nilSlice,V.nilSlice,(V.int .i64 0)] [(0,1),(1,1),(2,1),(3,1),(4,1),(5,1)] [(1,(V.int .i64 3)),(5, .int .i64 (sn:Nat))]=some (.agg (bkC ⟨[],3,0,[],[],sn⟩ .nilSlice .nilSlice .nilSlice)):=rfl
 refine oP_mk eB ?_
 have hk8:=n8.k
 refine go_end q8 (show t1.blocks.length<_ by omega) ⟨[],3,0,[],[],sn⟩ rfl rfl rfl .nil fun F9 h9 R9 f9 k9 q9=>?_
 refine go_cut q9 (m:=t.s.known.length) (by show _≤s2.known.length;omega) fun h10 R10 k10 q10=>?_
 refine go_preds q10 [t.blocks.length] rfl fun F11 h11 R11 f11 k11 q11=>?_
 have q11:=pkg (t':=end_ { t1 with s:=cut t.s.known.length s2 } 3 0 [] sn [t.blocks.length]) q11 rfl
 have n11:Sm (end_ { t1 with s:=cut t.s.known.length s2 } 3 0 [] sn [t.blocks.length]).s (n+7):=(n8.cut hk0 (by omega)).end_ (t:={ t1 with s:=cut t.s.known.length s2 }) _ _ _ _ _
 refine go_row q11 ho n11 (by omega) fun F12 h12 R12 f12 k12 q12 n12=>?_
 have g11:∀l,F l→F8 l:=fun l hl=>f8 l (f7 l (fA l hl))
 refine H F12 h12 R12 (fun l hl=>f12 l (f11 l (f9 l (g11 l hl)))) ?_ (pkg q12 hx.symm) ?_
 ·have k1:=(kA.trans k7 fA).trans k8 fun l hl=>f7 l (fA l hl)
  have k2:=((k9.gm L.lat).trans (k10.gm L.lat) f9).trans (k11.gm L.lat) f9
  exact (k1.trans k2 g11).trans k12 fun l hl=>f11 l (f9 l (g11 l hl))
 ·rw [hx]
  exact n12.le (by omega)
end
end Go.Proofs.YtiepamfpilhcjaaDoor.Hx
