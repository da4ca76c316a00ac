/- What an operation that leaves the heap alone comes to in the model, second part: arithmetic, places, slices, maps, and the whole. -/
import Derived.Test.YtgfdhkhcojjkjaaGreatDoorHxC
import Derived.Laws.StructEq
import Derived.Laws.Strings2
namespace Go.Proofs.YtgfdhkhcojjkjaaGreatDoor.Hx

theorem wrapF_eq (k : IntKind) (n : Int) : wrapF k n = k.wrap n := by
  unfold wrapF
  cases n with
  | negSucc m => rfl
  | ofNat m =>
    simp only
    split
    · rename_i hb
      rw [Nat.blt_eq] at hb
      have e : (Int.ofNat m) = (m : Int) := rfl
      grind[IntKind.wrap,IntKind.bits,IntKind.signed]
    · rfl

section
variable {Δ : Env} {h : Hp} {w : World} {n : Nat} {t : Tm} {a : Act}

theorem run_v {s : Sem Value} {x : Value} {w w' : World} (h : s.run P0 w = .ok x w') : (do pure (Next.value (← s)) : Sem Next).run P0 w = .ok (.value x) w' := by simp [h]
theorem kindEq_eq {k k' : IntKind} (h : kindEq k k' = true) : k = k' := by cases k <;> cases k' <;> first | rfl | cases h

theorem hint_ok {op : BinOp} {k : IntKind} {x y : Int} {v : V} (ty : Nat) (w : World) (hs : isShift op = false) (hv : hint op k x y = some v) :
    ∃ r, (binOp op ty (.int k x) (.int k y)).run P0 w = .ok r w ∧ ∀ Δ, VRel Δ v r := by
  cases op with
  | shl => cases hs
  | shr => cases hs
  | add => simp only [hint] at hv; cases hv; rw [wrapF_eq]; exact ⟨_, by simp [binOp, Op.intArith], fun Δ => .int _ _⟩
  | sub => simp only [hint] at hv; cases hv; rw [wrapF_eq]; exact ⟨_, by simp [binOp, Op.intArith], fun Δ => .int _ _⟩
  | mul => simp only [hint] at hv; cases hv; rw [wrapF_eq]; exact ⟨_, by simp [binOp, Op.intArith], fun Δ => .int _ _⟩
  | quo =>
    have hy : y ≠ 0 := by rintro rfl; simp [hint] at hv
    have hv' : some (V.int k (wrapF k (x.tdiv y))) = some v := by
      rw [← hv]; unfold hint; simp only; split
      · simp_all
      · rfl
    cases hv'; rw [wrapF_eq]; exact ⟨_, by simp_all[binOp,Op.intDiv], fun Δ => .int _ _⟩
  | rem =>
    have hy : y ≠ 0 := by rintro rfl; simp [hint] at hv
    have hv' : some (V.int k (x.tmod y)) = some v := by
      rw [← hv]; unfold hint; simp only; split
      · simp_all
      · rfl
    cases hv'; exact ⟨_, by simp_all[binOp,Op.intDiv], fun Δ => .int _ _⟩
  | and => simp only [hint] at hv; cases hv; exact ⟨_, by simp [binOp, Op.intBits], fun Δ => .int _ _⟩
  | or => simp only [hint] at hv; cases hv; exact ⟨_, by simp [binOp, Op.intBits], fun Δ => .int _ _⟩
  | xor => simp only [hint] at hv; cases hv; exact ⟨_, by simp [binOp, Op.intBits], fun Δ => .int _ _⟩
  | andNot => simp only [hint] at hv; cases hv; exact ⟨_, by simp [binOp, Op.intBits], fun Δ => .int _ _⟩
  | eql => simp only [hint] at hv; cases hv; exact ⟨_, by simp [binOp, Op.intCmp], fun Δ => .bool _⟩
  | neq => simp only [hint] at hv; cases hv; exact ⟨_, by simp [binOp, Op.intCmp], fun Δ => .bool _⟩
  | lss => simp only [hint] at hv; cases hv; exact ⟨_, by simp [binOp, Op.intCmp], fun Δ => .bool _⟩
  | leq => simp only [hint] at hv; cases hv; exact ⟨_, by simp [binOp, Op.intCmp], fun Δ => .bool _⟩
  | gtr => simp only [hint] at hv; cases hv; exact ⟨_, by simp [binOp, Op.intCmp], fun Δ => .bool _⟩
  | geq => simp only [hint] at hv; cases hv; exact ⟨_, by simp [binOp, Op.intCmp], fun Δ => .bool _⟩
theorem hshift_ok {op : BinOp} {k k' : IntKind} {x y : Int} {v : V} (ty : Nat) (w : World) (hv : hshift op k x y = some v) :
    ∃ r, (binOp op ty (.int k x) (.int k' y)).run P0 w = .ok r w ∧ ∀ Δ, VRel Δ v r := by
  unfold hshift at hv
  split at hv
  · cases hv
  · rename_i m
    have hn : ¬ ((Int.ofNat m) < 0) := by simp
    split at hv
    · cases hv; exact ⟨_, by rfl, fun Δ => .int _ _⟩
    · cases hv; exact ⟨_, by rfl, fun Δ => .int _ _⟩
    · cases hv
theorem hstr_ok {op : BinOp} {x y : ByteArray} {v : V} (ty : Nat) (w : World) (hv : hstr op x.data.toList y.data.toList = some v) :
    ∃ r, (binOp op ty (.string x) (.string y)).run P0 w = .ok r w ∧ ∀ Δ, VRel Δ v r := by
  have hb : (binOp op ty (.string x) (.string y)) = Op.stringOp op x y := by cases op <;> rfl
  rw [hb]
  have ex : x.toList = x.data.toList := ByteArray.toList_eq x
  have ey : y.toList = y.data.toList := ByteArray.toList_eq y
  cases op <;> simp only [hstr] at hv <;> try (cases hv; done)
  case add =>
    split at hv
    · rename_i hle
      cases hv
      have hle' := Nat.le_of_ble_eq_true hle
      have hsz : ¬ (((x.size + y.size : Nat) : Int) > IntKind.i64.max) := by
        have e1 : x.data.toList.length = x.size := rfl
        have e2 : y.data.toList.length = y.size := rfl
        rw [e1, e2] at hle'
        simp only [IntKind.max, IntKind.signed, IntKind.bits, if_true]
        omega
      have e : x.data.toList ++ y.data.toList = (x ++ y).data.toList := by simp
      rw [e]
      exact ⟨_, by simp_all[Op.stringOp,if_neg], fun Δ => .str _⟩
    · cases hv
  all_goals
    cases hv
    refine ⟨_, by simp_all[Op.stringOp], fun Δ => .bool _⟩
theorem eqGuard_ok {op : BinOp} {ty : Nat} {X Y : Operand} {x y : Value} (w : World) (h1 : x ≠ .nilIface) (h2 : ∀ c, x ≠ .agg c) :
    (eqGuard op ty X Y x y).run P0 w = .ok () w := by
  cases op <;> unfold eqGuard <;> dsimp only <;> simp only [Bool.not_true, Bool.not_false, Bool.false_eq_true, if_true, if_false] <;> first
    | rfl
    | simp_all
theorem hnil_deep {d : TypeDesc} {ty : Nat} {x y : V} {xv yv : Value} {b : Bool} (w : World) (dd : Nat) (hu : P0.underlying ty = some d) (hx : VRel Δ x xv) (hy : VRel Δ y yv)
    (hv : hnil d x y = some b) : (Op.equalIn (dd + 1) ty xv yv).run P0 w = .ok b w := by
  unfold hnil at hv
  split at hv <;> first | (cases hv; done) | skip
  all_goals
    first
      | cases hv
      | (rw [bB_eq] at hv; obtain ⟨_, hv⟩ := hv; cases hv)
    cases hx
    cases hy
    simp only [Op.equalIn, Sem.run_bind, run_und hu, Result.andThen_ok]
    rfl
theorem guard_nil {ms : Array (String × TypeId)} {ty : Nat} (w : World) (dd : Nat) (hu : P0.underlying ty = some (.interface ms)) (hm : ms.isEmpty = true) : (Op.eqGuardIn (dd + 1) ty .nilIface .nilIface).run P0 w = .ok false w := by
  simp_all[Op.eqGuardIn,Sem.run_bind,run_und,Result.andThen_ok]
theorem hnil_ok {d : TypeDesc} {ty : Nat} {x y : V} {xv yv : Value} {b : Bool} (w : World) (hu : P0.underlying ty = some d) (hx : VRel Δ x xv) (hy : VRel Δ y yv)
    (hv : hnil d x y = some b) : (Op.equal ty xv yv).run P0 w = .ok b w ∧ (∀ op X Y, (eqGuard op ty X Y xv yv).run P0 w = .ok () w) ∧
      (binOp .eql ty xv yv) = (do pure (.bool (← Op.equal ty xv yv))) ∧ (binOp .neq ty xv yv) = (do pure (.bool (!(← Op.equal ty xv yv)))) := by
  refine ⟨hnil_deep w 9999 hu hx hy hv, ?_⟩
  unfold hnil at hv
  split at hv <;> first | (cases hv; done) | skip
  all_goals
    cases hx
    cases hy
  all_goals refine ⟨?_, rfl, rfl⟩
  all_goals intro op X Y
  any_goals (refine eqGuard_ok w ?_ ?_ <;> first | (intro e; cases e; done) | (intro c e; simp_all))
  · rename_i ms
    rw [bB_eq] at hv
    have hm := hv.1
    have hin := guard_nil w 9999 hu hm
    cases op <;> unfold eqGuard <;> dsimp only <;> simp only [Bool.not_true, Bool.not_false, Bool.false_eq_true, if_true, if_false] <;> first
      | rfl
      | (split
         · rfl
         · split
           · rfl
           · have hin' : Sem.run P0 (Op.eqGuardIn Op.maxDepth ty .nilIface .nilIface) w = .ok false w := hin
             simp_all)
  · cases op <;> rfl
theorem eq1_ok {ty : Nat} {x y : V} {xv yv : Value} {b : Bool} (w : World) (dd : Nat) (hx : VRel Δ x xv) (hy : VRel Δ y yv) (hv : eq1 (P0.underlying ty) x y = some b) :
    (Op.equalIn (dd + 1) ty xv yv).run P0 w = .ok b w ∧ aggT ty = some false := by
  unfold eq1 at hv
  split at hv
  · rename_i hu
    cases hx; cases hy; cases hv
    refine ⟨?_, by grind[aggT]⟩
    simp only [Op.equalIn, Sem.run_bind, run_und hu, Result.andThen_ok]
    rfl
  · rename_i hu
    cases hx; cases hy
    rw [bB_eq] at hv
    obtain ⟨hk, hv⟩ := hv
    obtain rfl := kindEq_eq hk
    cases hv
    refine ⟨?_, by grind[aggT]⟩
    simp only [Op.equalIn, Sem.run_bind, run_und hu, Result.andThen_ok, if_true]
    rfl
  · rename_i hu
    cases hx with | str xs => cases hy with | str ys =>
    cases hv
    refine ⟨?_, by grind[aggT]⟩
    simp only [Op.equalIn, Sem.run_bind, run_und hu, Result.andThen_ok]
    have e : (xs.data.toList == ys.data.toList) = (xs == ys) := by
      rw [show (xs == ys) = (xs.data == ys.data) from rfl, Bool.eq_iff_iff, beq_iff_eq, beq_iff_eq]
      exact by simp_all
    simp_all
  · cases hv
theorem eqCells_ok {xs ys : List V} {xs' ys' : Array Value} (w : World) (dd : Nat) (hx : VsRel Δ xs xs'.toList) (hy : VsRel Δ ys ys'.toList) : ∀ {fs : List Field} {b : Bool}, eqCells fs xs ys = some b →
    ((do
      for f in fs do
        if f.name ≠ "_" then
          if !(← Op.equalIn (dd + 1) f.type (← part f.type xs' f.offset) (← part f.type ys' f.offset)) then return false
      pure true : Sem Bool)).run P0 w = .ok b w
  | [], b, h => by cases h; rfl
  | f :: fs, b, h => by
    simp only [eqCells, bB_eq, oB_eq, Bool.not_eq_true', beq_eq_false_iff_ne] at h
    obtain ⟨hn, x, h1, y, h2, c, h3, h4⟩ := h
    obtain ⟨xv, hx1, hxr⟩ := hx.get _ _ (at1_eq h1)
    obtain ⟨yv, hy1, hyr⟩ := hy.get _ _ (at1_eq h2)
    obtain ⟨he, ha⟩ := eq1_ok w dd hxr hyr h3
    have hpx : (part f.type xs' f.offset).run P0 w = .ok xv w := by
      have hx1' : xs'[f.offset]? = some xv := by simpa using hx1
      simp only [part, Sem.run_bind, run_agg ha, Result.andThen_ok, Bool.false_eq_true, if_false]
      simp [hx1']
    have hpy : (part f.type ys' f.offset).run P0 w = .ok yv w := by
      have hy1' : ys'[f.offset]? = some yv := by simpa using hy1
      simp only [part, Sem.run_bind, run_agg ha, Result.andThen_ok, Bool.false_eq_true, if_false]
      simp [hy1']
    have ih := fun {b} => eqCells_ok w dd hx hy (fs := fs) (b := b)
    cases c <;> simp_all
theorem agg_ok {ty : Nat} {xs ys : List V} {xv yv : Value} {b : Bool} (w : World) (hx : VRel Δ (.agg xs) xv) (hy : VRel Δ (.agg ys) yv) (hv : aggEq ty xs ys = some b) :
    (Op.equal ty xv yv).run P0 w = .ok b w ∧ (∀ op X Y, (eqGuard op ty X Y xv yv).run P0 w = .ok () w) ∧
      (binOp .eql ty xv yv) = (do pure (.bool (← Op.equal ty xv yv))) ∧ (binOp .neq ty xv yv) = (do pure (.bool (!(← Op.equal ty xv yv)))) := by
  cases hx with | agg _ xs' hx => cases hy with | agg _ ys' hy =>
  unfold aggEq at hv
  split at hv
  · rename_i fs hu
    simp only [bB_eq, Bool.not_eq_true'] at hv
    obtain ⟨hs, hg, hv⟩ := hv
    refine ⟨?_, fun op X Y => ?_, rfl, rfl⟩
    · have h1 := eqCells_ok w 9998 hx hy hv
      show (Op.equalIn (9999 + 1) ty (.agg xs') (.agg ys')).run P0 w = _
      rw [Op.equalIn]
      simp only [Sem.run_bind, run_und hu, Result.andThen_ok, run_program, hs, Bool.false_eq_true, if_false, ← Array.forIn_toList] at h1 ⊢
      exact h1
    · cases op <;> unfold eqGuard <;> dsimp only <;> simp only [Bool.not_true, Bool.not_false, Bool.false_eq_true, if_true, if_false] <;> first
        | rfl
        | simp_all
  · cases hv
theorem hbin_ok {op : BinOp} {ty : Nat} {X Y : Operand} {x y v : V} {xv yv : Value} (w : World) (hx : VRel Δ x xv) (hy : VRel Δ y yv) (hv : hbin op ty x y = some v) :
    ∃ r, (do eqGuard op ty X Y xv yv; binOp op ty xv yv : Sem Value).run P0 w = .ok r w ∧ VRel Δ v r := by
  unfold hbin at hv
  split at hv
  · rename_i k p k' q
    cases hx; cases hy
    have hg := eqGuard_ok (op := op) (ty := ty) (X := X) (Y := Y) (y := .int k' q) w (x := .int k p) (by simp) (by simp)
    split at hv
    · obtain ⟨r, hr, hrel⟩ := hshift_ok (k' := k') ty w hv
      simp_all
    · rename_i hs
      rw [bB_eq] at hv
      obtain ⟨hk, hv⟩ := hv
      obtain rfl := kindEq_eq hk
      obtain ⟨r, hr, hrel⟩ := hint_ok ty w hs hv
      simp_all
  · cases hx with | str xs => cases hy with | str ys =>
    have hg := eqGuard_ok (op := op) (ty := ty) (X := X) (Y := Y) (y := .string ys) w (x := .string xs) (by simp) (by simp)
    obtain ⟨r, hr, hrel⟩ := hstr_ok ty w hv
    simp_all
  · have key : ∀ neg, heql ty neg x y = some v → ∃ b, (Op.equal ty xv yv).run P0 w = .ok b w ∧ (∀ op X Y, (eqGuard op ty X Y xv yv).run P0 w = .ok () w) ∧
        (binOp .eql ty xv yv) = (do pure (.bool (← Op.equal ty xv yv))) ∧ (binOp .neq ty xv yv) = (do pure (.bool (!(← Op.equal ty xv yv)))) ∧ v = .bool (Bool.rec (motive := fun _ => Bool) b (!b) neg) := by
      clear hv
      intro neg hv1
      unfold heql heqT at hv1
      rw [oB_eq] at hv1
      obtain ⟨b, hb, hv1⟩ := hv1
      split at hb
      · obtain ⟨he, h1, h3, h4⟩ := agg_ok w hx hy hb
        simp_all
      unfold hnilT at hb
      split at hb
      · rename_i d hu
        obtain ⟨he, h1, h3, h4⟩ := hnil_ok w hu hx hy hb
        simp_all
      · cases hb
    split at hv
    · obtain ⟨b, he, h1, h3, _, rfl⟩ := key false hv
      have hg := h1 .eql X Y
      exact ⟨.bool b, by simp_all, .bool b⟩
    · obtain ⟨b, he, h1, _, h4, rfl⟩ := key true hv
      have hg := h1 .neq X Y
      exact ⟨.bool (!b), by simp_all, .bool _⟩
    · cases hv
theorem hun_ok {op : UnOp} {x v : V} {xv : Value} (w : World) (hx : VRel Δ x xv) (hv : hun op x = some v) : ∃ r, (Op.unary op xv).run P0 w = .ok r w ∧ VRel Δ v r := by
  unfold hun at hv
  split at hv
  · cases hv; cases hx; rw [wrapF_eq]; exact ⟨_, rfl, .int _ _⟩
  · cases hv; cases hx; exact ⟨_, rfl, .bool _⟩
  · simp only [hint] at hv; cases hv; cases hx; exact ⟨_, rfl, .int _ _⟩
  · cases hv
theorem hconv_ok {src dst : Nat} {p : PF} {xv : Value} {v : V} (w : World) (hn : ¬ ∃ e, P0.underlying src = some (.slice e) ∧ P0.underlying dst = some .string) (hp : ∀ v, p.f t h = some v → VRel Δ v xv) (hv : (hconv src dst p).f t h = some v) :
    ∃ r, (convert src dst xv).run P0 w = .ok r w ∧ VRel Δ v r := by
  unfold hconv at hv
  split at hv
  · rename_i k' k hs hd
    rw [oB_eq] at hv
    obtain ⟨x, h1, h2⟩ := hv
    have hr := hp _ h1
    split at h2
    · cases h2; cases hr; rw [wrapF_eq]
      exact ⟨_, by simp_all[convert,run_und,Conv.intToInt], .int _ _⟩
    · cases h2
  · rename_i hs hd
    rw [oB_eq] at hv
    obtain ⟨x, h1, h2⟩ := hv
    have hr := hp _ h1
    split at h2
    · cases h2; cases hr
      simp_all[convert,run_und]
    · cases h2
  · simp_all
  · cases hv

/-! ### parts and places -/
theorem hpart_ok {ty : Nat} {cs : List V} {cs' : Array Value} {off : Nat} {v : V} (w : World) (hc : VsRel Δ cs cs'.toList) (hv : hpart ty cs off = some v) :
    ∃ r, (part ty cs' off).run P0 w = .ok r w ∧ VRel Δ v r := by
  unfold hpart at hv
  cases ha : aggT ty with
  | none => simp_all
  | some b => cases b with
  | true =>
    simp only [ha] at hv
    cases hm : szOf ty with
    | none => simp_all
    | some m =>
      simp only [hm, oB_eq] at hv
      obtain ⟨l, h1, h2⟩ := hv
      cases h2
      obtain ⟨hl, hg⟩ := sub_eq h1
      refine ⟨.agg (cs'.extract off (off + m)), by simp_all[part,run_agg,run_sz], .agg _ _ (VsRel.of_get ?_ ?_)⟩
      · have hcl := hc.length
        have : ∀ i, i < m → off + i < cs.length := by grind
        simp only [Array.length_toList] at hcl
        simp only [Array.length_toList, Array.size_extract, hl]
        rcases Nat.eq_zero_or_pos m with h0 | h0
        · omega
        · have := this (m - 1) (by omega)
          omega
      · intro i v hi
        have him : i < m := by have := (List.getElem?_eq_some_iff.1 hi).1; omega
        rw [hg i him] at hi
        obtain ⟨x, hx, hr⟩ := hc.get _ _ hi
        simp_all
  | false =>
    simp only [ha] at hv
    obtain ⟨x, hx, hr⟩ := hc.get _ _ (at1_eq hv)
    simp_all[part,run_agg]
theorem fieldOf_eq {s f : Nat} {fd : Field} (h : fieldOf s f = some fd) : ∃ fs, P0.underlying s = some (.struct fs) ∧ fs[f]? = some fd := by
  grind[fieldOf]
theorem hfieldAddr_ok {s f : Nat} {p : PF} {xv : Value} {v : V} (w : World) (hp : ∀ v, p.f t h = some v → VRel Δ v xv) (hv : (hfieldAddr s p f).f t h = some v) :
    ∃ r, (Instr.fieldAt s xv f).run P0 w = .ok r w ∧ VRel Δ v r := by
  unfold hfieldAddr at hv
  split at hv
  · rename_i fd hf
    obtain ⟨fs, hu, hfd⟩ := fieldOf_eq hf
    split at hv
    · rename_i m hm
      simp only [oB_eq, asPtr_eq] at hv
      obtain ⟨x, h1, l, off, rfl, h2⟩ := hv
      cases h2
      cases hp _ h1 with
      | ptr _ _ d hd =>
        refine ⟨_, by simp [Instr.fieldAt, run_und hu, hfd, Instr.sureAddr, fieldPlace, run_sz hm, addr_add]; rfl, ?_⟩
        have := VRel.ptr (Δ := Δ) l (off + fd.offset) d hd
        grind
    · cases hv
  · cases hv
theorem hfield_ok {s f : Nat} {p : PF} {xv : Value} {v : V} (w : World) (hp : ∀ v, p.f t h = some v → VRel Δ v xv) (hv : (hfield s p f).f t h = some v) :
    ∃ r, (Instr.field s xv f).run P0 w = .ok r w ∧ VRel Δ v r := by
  unfold hfield at hv
  split at hv
  · rename_i fd hf
    obtain ⟨fs, hu, hfd⟩ := fieldOf_eq hf
    rw [oB_eq] at hv
    obtain ⟨x, h1, h2⟩ := hv
    have hr := hp _ h1
    split at h2
    · cases hr with
      | agg _ cs' hc =>
        obtain ⟨r, hr, hrel⟩ := hpart_ok w hc h2
        simp_all[Instr.field,run_und,asAgg]
    · cases h2
  · cases hv
theorem hindexAddr_ok {ty : Nat} {p q : PF} {xv iv : Value} {v : V} (w : World) (hp : ∀ v, p.f t h = some v → VRel Δ v xv) (hq : ∀ v, q.f t h = some v → VRel Δ v iv)
    (hv : (hindexAddr ty p q).f t h = some v) : ∃ r, (Instr.indexAt ty xv iv).run P0 w = .ok r w ∧ VRel Δ v r := by
  unfold hindexAddr at hv
  split at hv
  · rename_i elem hu
    split at hv
    · rename_i m hm
      simp only [oB_eq, asNat_eq] at hv
      obtain ⟨x, h1, i, h2, kd, i', rfl, h3⟩ := hv
      have hx := hp _ h1
      cases hq _ h2
      split at h3
      · rename_i l off len
        rw [bB_eq] at h3
        obtain ⟨hlt, h3⟩ := h3
        cases h3
        rw [Nat.blt_eq] at hlt
        cases hx with
        | slice _ _ _ cap o d hd hk hl ho =>
          rcases ho with ⟨rfl, _, _⟩ | ⟨hc, _⟩
          · refine ⟨_, by simp [Instr.indexAt, asIntOf, run_und hu, run_sz hm, hlt, addr_add]; rfl, ?_⟩
            have := VRel.ptr (Δ := Δ) l (off + i' * m) d hd
            grind
          · omega
      · cases h3
    · cases hv
  · rename_i len elem hu
    split at hv
    · rename_i m hm
      simp only [oB_eq, asNat_eq, asPtr_eq, bB_eq] at hv
      obtain ⟨x, h1, i, h2, kd, i', rfl, l, off, rfl, hlt, h3⟩ := hv
      cases h3
      rw [Nat.blt_eq] at hlt
      cases hq _ h2
      cases hp _ h1 with
      | ptr _ _ d hd =>
        refine ⟨_, by simp [Instr.indexAt, asIntOf, run_und hu, run_sz hm, hlt, addr_add, Instr.sureAddr]; rfl, ?_⟩
        have := VRel.ptr (Δ := Δ) l (off + i' * m) d hd
        grind
    · cases hv
  · cases hv
theorem hindex_ok {ty : Nat} {p q : PF} {xv iv : Value} {v : V} (w : World) (hp : ∀ v, p.f t h = some v → VRel Δ v xv) (hq : ∀ v, q.f t h = some v → VRel Δ v iv)
    (hv : (hindex ty p q).f t h = some v) : ∃ r, (Instr.index ty xv iv).run P0 w = .ok r w ∧ VRel Δ v r := by
  unfold hindex at hv
  split at hv
  · rename_i len elem hu
    split at hv
    · rename_i m hm
      simp only [oB_eq, asNat_eq] at hv
      obtain ⟨x, h1, i, h2, kd, i', rfl, h3⟩ := hv
      have hx := hp _ h1
      cases hq _ h2
      split at h3
      · rw [bB_eq] at h3
        obtain ⟨hlt, h3⟩ := h3
        rw [Nat.blt_eq] at hlt
        cases hx with
        | agg _ cs' hc =>
          obtain ⟨r, hr, hrel⟩ := hpart_ok w hc h3
          refine ⟨r, ?_, hrel⟩
          have e : (Nat.mul i' m) = i' * m := rfl
          simp_all[Instr.index,asIntOf,run_und,run_sz]
      · cases h3
    · cases hv
  · rename_i hu
    simp only [oB_eq, asNat_eq] at hv
    obtain ⟨x, h1, i, h2, kd, i', rfl, h3⟩ := hv
    have hx := hp _ h1
    cases hq _ h2
    split at h3
    · rw [oB_eq] at h3
      obtain ⟨b, hb, h3⟩ := h3
      cases h3
      cases hx with
      | str s =>
        rw [List.head?_drop] at hb
        have hlt : i' < s.size := (List.getElem?_eq_some_iff.1 hb).1
        have hs : s[i']? = some b := by
          rw [getElem?_pos s i' hlt]
          have := (List.getElem?_eq_some_iff.1 hb).2
          simp only [Array.getElem_toList] at this
          rw [← this]; rfl
        exact ⟨.int .u8 b.toNat, by simp_all[Instr.index,asIntOf,run_und], .int _ _⟩
    · cases h3
  · cases hv
end
end Go.Proofs.YtgfdhkhcojjkjaaGreatDoor.Hx
/- What an operation that leaves the heap alone comes to in the model, third part: slices, maps, lengths, interface values; and the whole. -/
namespace Go.Proofs.YtgfdhkhcojjkjaaGreatDoor.Hx
section
variable {Δ : Env} {h : Hp} {w : World} {n : Nat} {t : Tm} {a : Act}

/-! ### slices -/
inductive OptRel (Δ : Env) : Option V → Option Value → Prop
  | none : OptRel Δ none none
  | some (v : V) (v' : Value) (h : VRel Δ v v') : OptRel Δ (some v) (some v')
theorem optF_ok (hW : WR Δ h w) (hT : TR Δ n t a) {x : Option Operand} {v : Option V} (hv : optF x t h = some v) : OptRel Δ v (x.map a.eval) := by
  cases x with
  | none => simp [optF] at hv; cases hv; exact .none
  | some x =>
    simp [optF, oB_eq] at hv
    let ⟨y, h1, h2⟩ := hv
    cases h2
    exact .some _ _ (evO_ok hW hT h1)
theorem hbound_some {d m : Nat} {lo : Option V} (hv : hbound d lo = some m) : (lo = none ∧ m = d) ∨ ∃ k, lo = some (.int k (.ofNat m)) := by
  unfold hbound at hv
  split at hv
  · simp_all
  · simp_all
  · cases hv
theorem bound_ok {k : IntKind} {m y : Nat} {c : BoundsCode} (w : World) (hle : m ≤ y) : (Instr.sliceBound (.int k (.ofNat m)) y c).run P0 w = .ok m w := by
  simp_all[Instr.sliceBound,asIntOf]
theorem bounds_ok {isS : Bool} {len cap l u : Nat} {lo hi : Option V} {lo' hi' : Option Value} (w : World) (hlo : OptRel Δ lo lo') (hhi : OptRel Δ hi hi')
    (h1 : hbound 0 lo = some l) (h2 : hbound len hi = some u) (hlu : l ≤ u) (huc : u ≤ cap) : (Instr.sliceBounds isS len cap lo' hi' none).run P0 w = .ok (l, u, cap) w := by
  rcases hbound_some h1 with ⟨rfl, rfl⟩ | ⟨k, rfl⟩
  · cases hlo
    rcases hbound_some h2 with ⟨rfl, rfl⟩ | ⟨k, rfl⟩
    · cases hhi
      rfl
    · cases hhi with | some _ _ hr =>
      cases hr
      grind[Instr.sliceBounds,Sem.run_bind,Sem.run_pure,Result.andThen_ok,bound_ok]
  · cases hlo with | some _ _ hr =>
    cases hr
    rcases hbound_some h2 with ⟨rfl, rfl⟩ | ⟨k, rfl⟩
    · cases hhi
      grind[Instr.sliceBounds,Sem.run_bind,Sem.run_pure,Result.andThen_ok,bound_ok]
    · cases hhi with | some _ _ hr =>
      cases hr
      simp only [Instr.sliceBounds, Sem.run_bind, Sem.run_pure, Result.andThen_ok, bound_ok w huc, bound_ok w hlu]
theorem hsliceV_ok (hW : WR Δ h w) {ty elem size : Nat} {x v : V} {xv : Value} {lo hi : Option V} {lo' hi' : Option Value} (hx : VRel Δ x xv) (hlo : OptRel Δ lo lo') (hhi : OptRel Δ hi hi')
    (hu : P0.underlying ty = some (.slice elem)) (hs : szOf elem = some (size + 1)) (hv : hsliceV (Nat.succ size) x lo hi h = some v) :
    ∃ r, (Instr.sliceAt ty xv lo' hi' none).run P0 w = .ok r w ∧ VRel Δ v r := by
  unfold hsliceV at hv
  split at hv
  · rename_i lc off len
    rw [cellsAt_eq] at hv
    let ⟨e, sz, live, ro, cs, hg, hv⟩ := hv
    simp only [bB_eq, oB_eq] at hv
    let ⟨hsz, l, h1, u, h2, hlu, hle, hv⟩ := hv
    cases hv
    have hsz' := Nat.eq_of_beq_eq_true hsz
    have hlu' := Nat.le_of_ble_eq_true hlu
    cases hx with
    | slice _ _ _ cap o d hd hk hl ho =>
      let ⟨ob, hob, hr⟩ := hW.obj lc d hd
      rw [hg] at hob
      cases hob
      let ⟨_, hdsz, hdn, _, _⟩ := hr
      have huc : u ≤ cap := by
        rw [Bool.or_eq_true] at hle
        rcases hle with hle | hle
        · exact Nat.le_trans (Nat.le_of_ble_eq_true hle) hl
        · have hle' : off + u * (size + 1) ≤ cs.length := Nat.le_of_ble_eq_true hle
          rcases ho with ⟨_, hb, _⟩ | ⟨hc, hb⟩
          · rw [hdsz, ← hsz'] at hb
            have : u * (size + 1) ≤ cap * (size + 1) := by have e : Nat.succ size = size + 1 := rfl; rw [e] at hb; omega
            exact Nat.le_of_mul_le_mul_right this (by omega)
          grind
      have hrun := bounds_ok (isS := true) w hlo hhi h1 h2 hlu' huc
      have hlc : l ≤ cap := by omega
      refine ⟨.slice (if cap = l then some ⟨d.b, o, none⟩ else some ⟨d.b, o + l * (size + 1), none⟩) (u - l) (cap - l), ?_, ?_⟩
      · simp_all[Instr.sliceAt,Sem.run_bind,run_und,Instr.slice,run_sz,addr_add]
      · have hmul : cap * d.sz = l * d.sz + (cap - l) * d.sz := by rw [← Nat.add_mul]; congr 1; omega
        have e2 : d.sz = size + 1 := by rw [hdsz, ← hsz']
        split
        · rename_i hcl
          refine .slice lc (Nat.add off (Nat.mul l (Nat.succ size))) (Nat.sub u l) (cap - l) o d hd hk ?_ (.inr ⟨by omega, ?_⟩)
          · simp_all
          grind
        · rename_i hcl
          refine .slice lc (Nat.add off (Nat.mul l (Nat.succ size))) (Nat.sub u l) (cap - l) (o + l * (size + 1)) d hd hk ?_ (.inl ?_)
          · simp_all
          · show o + l * (size + 1) = d.base + (off + l * (size + 1)) ∧ d.n ≤ off + l * (size + 1) + (cap - l) * d.sz ∧ d.base + (off + l * (size + 1)) + (cap - l) * d.sz ≤ d.asz
            rcases ho with ⟨ho, hb, hb'⟩ | ⟨hc, hb⟩
            · rw [e2] at hmul hb hb' ⊢
              omega
            · omega
  · simp only [bB_eq, oB_eq] at hv
    let ⟨l, h1, u, h2, hl, hu', hv⟩ := hv
    cases hv
    have hl0 := Nat.eq_of_beq_eq_true hl
    have hu0 := Nat.eq_of_beq_eq_true hu'
    subst hl0; subst hu0
    cases hx
    have hrun := bounds_ok (isS := true) w hlo hhi h1 h2 (Nat.le_refl _) (Nat.le_refl _)
    exact ⟨.slice none 0 0, by simp_all[Instr.sliceAt,run_und,Instr.slice,run_sz], .nilSlice⟩
  · cases hv
theorem extract_list (s : ByteArray) (p q : Nat) : (s.extract p q).data.toList = (s.data.toList.drop p).take (q - p) := by
  simp_all
theorem hsliceS_ok {ty : Nat} {x v : V} {xv : Value} {lo hi : Option V} {lo' hi' : Option Value} (w : World) (hx : VRel Δ x xv) (hlo : OptRel Δ lo lo') (hhi : OptRel Δ hi hi')
    (hu : P0.underlying ty = some .string) (hv : hsliceS x lo hi = some v) : ∃ r, (Instr.sliceAt ty xv lo' hi' none).run P0 w = .ok r w ∧ VRel Δ v r := by
  unfold hsliceS at hv
  split at hv
  · simp only [bB_eq, oB_eq] at hv
    let ⟨l, h1, u, h2, hlu, hus, hv⟩ := hv
    cases hv
    cases hx with
    | str s =>
      have hrun := bounds_ok (isS := false) w hlo hhi h1 h2 (Nat.le_of_ble_eq_true hlu) (Nat.le_of_ble_eq_true hus)
      refine ⟨.string (s.extract l u), by simp_all[Instr.sliceAt,run_und,Instr.slice], ?_⟩
      have := VRel.str (Δ := Δ) (s.extract l u)
      simp_all
  · cases hv
theorem hslice_ok (hW : WR Δ h w) (hT : TR Δ n t a) {ty : Nat} {p : PF} {xv : Value} {lo hi : Option Operand} {v : V} (hp : ∀ v, p.f t h = some v → VRel Δ v xv)
    (hv : (hslice ty p lo hi).f t h = some v) : ∃ r, (Instr.sliceAt ty xv (lo.map a.eval) (hi.map a.eval) none).run P0 w = .ok r w ∧ VRel Δ v r := by
  unfold hslice at hv
  split at hv
  · rename_i hu
    simp [oB_eq] at hv
    let ⟨x, h1, l, h2, u, h3, h4⟩ := hv
    exact hsliceS_ok w (hp _ h1) (optF_ok hW hT h2) (optF_ok hW hT h3) hu h4
  · rename_i elem hu
    split at hv
    · rename_i m hm
      simp [oB_eq] at hv
      let ⟨x, h1, l, h2, u, h3, h4⟩ := hv
      exact hsliceV_ok hW (hp _ h1) (optF_ok hW hT h2) (optF_ok hW hT h3) hu hm h4
    · cases hv
  · cases hv

/-! ### keys -/
theorem flatEq_ok {ty : Nat} {x y : V} {xv yv : Value} {b : Bool} (hx : VRel Δ x xv) (hy : VRel Δ y yv) (hv : flatEq ty x y = some b) :
    (∀ dd w, (Op.equalIn (dd + 1) ty xv yv).run P0 w = .ok b w) ∧ (∀ d, P0.underlying ty = some d → Instr.sameNow d xv yv = some b) := by
  unfold flatEq at hv
  split at hv
  · rename_i hu
    split at hv
    · rw [bB_eq] at hv
      let ⟨hk, hv⟩ := hv
      cases hv
      obtain rfl := kindEq_eq hk
      cases hx; cases hy
      grind[run_equalIn_int,Instr.sameNow]
    · cases hv
  · rename_i hu
    split at hv
    · cases hv
      cases hx with | str xs => cases hy <;> grind[run_equalIn_string,ByteArray.toList_eq,Instr.sameNow,beq_toListBytes]
    · cases hv
  · rename_i hu
    split at hv
    · cases hv
      cases hx; cases hy
      grind[run_equalIn_bool',Instr.sameNow]
    · cases hv
  · cases hv
theorem flatT_agg {ty : Nat} (hf : flatT ty = true) : aggT ty = some false := by
  grind[flatT,aggT]
theorem part_flat {ty : Nat} {cs : List V} {cs' : Array Value} {off : Nat} {v : V} (w : World) (hf : flatT ty = true) (hc : VsRel Δ cs cs'.toList) (hv : at1 cs off = some v) :
    ∃ x, (part ty cs' off).run P0 w = .ok x w ∧ VRel Δ v x :=
  hpart_ok w hc (by grind[hpart,flatT_agg])
theorem rowEq_ok : ∀ {fs : List Field} {x y : List V} {xs ys : Array Value} {b : Bool}, (∀ f ∈ fs, flatT f.type = true ∧ f.name ≠ "_") → VsRel Δ x xs.toList → VsRel Δ y ys.toList →
    rowEq fs x y = some b → ∀ dd w, (Op.eqFields (dd + 1) xs ys fs).run P0 w = .ok b w
  | [], x, y, xs, ys, b, _, _, _, hv, dd, w => by simp [rowEq] at hv; subst hv; rfl
  | f :: fs, x, y, xs, ys, b, hf, hx, hy, hv, dd, w => by
    simp only [rowEq, oB_eq] at hv
    let ⟨p, h1, q, h2, e, h3, h4⟩ := hv
    let ⟨hft, hfn⟩ := hf f (by simp)
    let ⟨p', hp, hpr⟩ := part_flat w hft hx h1
    let ⟨q', hq, hqr⟩ := part_flat w hft hy h2
    have he := (flatEq_ok hpr hqr h3).1 dd w
    simp only [Op.eqFields]
    rw [if_pos hfn]
    simp [Sem.run_bind, hp, hq, he, Result.andThen_ok]
    cases e with
    | false => simp_all
    | true => exact rowEq_ok (by simp_all) hx hy h4 dd w
theorem keyD_flat {ty : Nat} (hd : keyD ty = some none) : flatT ty = true := by
  grind[keyD,flatT]
theorem keyD_row {ty : Nat} {fs : List Field} (hd : keyD ty = some (some fs)) : ∃ arr, P0.underlying ty = some (.struct arr) ∧ arr.toList = fs ∧ P0.stoodInHeld ty = false ∧ ∀ f ∈ fs, flatT f.type = true ∧ f.name ≠ "_" := by
  unfold keyD at hd
  split at hd
  · cases hd
  · cases hd
  · cases hd
  · rename_i arr hu
    split at hd
    · grind
    · cases hd
  · cases hd
theorem keyEq_ok {ty : Nat} {d : Option (List Field)} {x y : V} {xv yv : Value} {b : Bool} (hd : keyD ty = some d) (hx : VRel Δ x xv) (hy : VRel Δ y yv) (hv : keyEq ty d x y = some b) (w : World) :
    (Op.equal ty xv yv).run P0 w = .ok b w := by
  cases d with
  | none => exact (flatEq_ok hx hy hv).1 9999 w
  | some fs =>
    let ⟨arr, hu, harr, hs, hf⟩ := keyD_row hd
    simp [keyEq] at hv
    split at hv
    · cases hx with | agg _ xs hx => cases hy with | agg _ ys hy =>
      have hfo : P0.fieldsOf ty = arr := by simp [Program.fieldsOf, hu]
      have := run_equalIn_struct w 9999 ty xs ys (by rw [hfo]; exact hu) hs
      rw [hfo, harr] at this
      exact this.trans (rowEq_ok hf hx hy hv 9998 w)
    · cases hv
def FRel (Δ : Env) : Option (Nat × V) → Option (Nat × Value) → Prop
  | none, none => True
  | some (i, v), some (i', v') => i = i' ∧ VRel Δ v v'
  | _, _ => False
theorem findAsking_ok {ty : Nat} {d : Option (List Field)} {k : V} {kv : Value} (hd : keyD ty = some d) (hk : VRel Δ k kv) (w : World) : ∀ {es : List (V × V × Nat)} {es' : List MapEntry} {i : Nat} {r : Option (Nat × V)},
    ERel Δ es es' → findV ty d k es i = some r → ∃ r', (Instr.findAsking ty kv es' i).run P0 w = .ok r' w ∧ FRel Δ r r'
  | _, _, i, r, .nil, hv => by simp [findV] at hv; subst hv; exact ⟨none, rfl, trivial⟩
  | _, _, i, r, .cons k' v n e es es' hk' hv' hb hs, hv => by
    simp only [findV, oB_eq] at hv
    let ⟨b, h1, h2⟩ := hv
    have he := keyEq_ok hd hk hk' h1 w
    simp [Instr.findAsking, Sem.run_bind, he]
    cases b with
    | true => cases h2; exact ⟨some (i, e.val), rfl, rfl, hv'⟩
    | false => exact findAsking_ok hd hk w hs h2
theorem findNow_ok {ty : Nat} {k : V} {kv : Value} {ds : TypeDesc} (hu : P0.underlying ty = some ds) (hk : VRel Δ k kv) : ∀ {es : List (V × V × Nat)} {es' : List MapEntry} {i : Nat} {r : Option (Nat × V)},
    ERel Δ es es' → findV ty none k es i = some r → ∃ r', Instr.findNow ds kv es' i = some r' ∧ FRel Δ r r'
  | _, _, i, r, .nil, hv => by simp [findV] at hv; subst hv; exact ⟨none, rfl, trivial⟩
  | _, _, i, r, .cons k' v n e es es' hk' hv' hb hs, hv => by
    simp only [findV, oB_eq] at hv
    let ⟨b, h1, h2⟩ := hv
    have he := (flatEq_ok hk hk' h1).2 ds hu
    simp [Instr.findNow, he]
    cases b with
    | true => cases h2; exact ⟨some (i, e.val), rfl, rfl, hv'⟩
    | false => exact findNow_ok hu hk hs h2
theorem findKey_ok {ty : Nat} {d : Option (List Field)} {k : V} {kv : Value} (hd : keyD ty = some d) (hk : VRel Δ k kv) (w : World) {es : List (V × V × Nat)} {es' : List MapEntry} {r : Option (Nat × V)}
    (he : ERel Δ es es') (hv : findV ty d k es 0 = some r) : ∃ r', (Instr.findKey ty kv es').run P0 w = .ok r' w ∧ FRel Δ r r' := by
  cases d with
  | none =>
    have hf := keyD_flat hd
    unfold flatT at hf
    cases hu : P0.underlying ty with
    | none => simp_all
    | some ds =>
      let ⟨r', h1, h2⟩ := findNow_ok hu hk he hv
      simp_all[Instr.findKey,run_und]
  | some fs =>
    let ⟨arr, hu, _, _, _⟩ := keyD_row hd
    cases he with
    | nil =>
      simp [findV] at hv; subst hv
      exact ⟨none, by simp_all[Instr.findKey,run_und,Instr.findNow], trivial⟩
    | cons k' v n e es es' hk' hv' hb hs =>
      let ⟨r', h1, h2⟩ := findAsking_ok hd hk w (.cons k' v n e es es' hk' hv' hb hs) hv
      simp_all[Instr.findNow,Instr.sameNow,Instr.findKey,Sem.run_bind,run_und,Result.andThen_ok]
theorem checkFields_ok {em : Bool} {q : Nat} {cs : List V} {cs' : Array Value} (w : World) (hq : 0 < q) (hc : VsRel Δ cs cs'.toList) : ∀ (fs : List Field), (∀ f ∈ fs, flatT f.type = true ∧ f.name ≠ "_") →
    (fs.all fun f => (at1 cs f.offset).isSome) = true →
    (forIn fs PUnit.unit (fun f _ => if f.name ≠ "_" then do
        let x ← part f.type cs' f.offset
        Instr.checkKey em q f.type x
        pure (ForInStep.yield PUnit.unit)
      else pure (ForInStep.yield PUnit.unit) : Field → PUnit → Sem (ForInStep PUnit))).run P0 w = .ok PUnit.unit w
  | [], _, _ => rfl
  | f :: fs, hf, hh => by
    obtain ⟨m, rfl⟩ : ∃ m, q = m + 1 := by simp_all
    let ⟨hft, hfn⟩ := hf f (by simp)
    simp only [List.all_cons, Bool.and_eq_true] at hh
    let ⟨v, hv⟩ := Option.isSome_iff_exists.1 hh.1
    let ⟨x, hx, hr⟩ := part_flat w hft hc hv
    have hck : (Instr.checkKey em (m + 1) f.type x).run P0 w = .ok () w := by
      unfold flatT at hft
      split at hft
      · simp_all[Instr.checkKey,run_und]
      · simp_all[Instr.checkKey,run_und]
      · simp_all[Instr.checkKey,run_und]
      · cases hft
    have ih := checkFields_ok (em := em) w hq hc fs (by simp_all) hh.2
    simp_all
theorem checkKey_ok {ty : Nat} {d : Option (List Field)} {k : V} {kv : Value} (em : Bool) (q : Nat) (hq : 0 < q) (w : World) (hd : keyD ty = some d) (hk : VRel Δ k kv) (hh : keyHas d k = true) :
    (Instr.checkKey em (q + 1) ty kv).run P0 w = .ok () w := by
  cases d with
  | none =>
    have hft := keyD_flat hd
    unfold flatT at hft
    split at hft
    · simp_all[Instr.checkKey,run_und]
    · simp_all[Instr.checkKey,run_und]
    · simp_all[Instr.checkKey,run_und]
    simp_all
  | some fs =>
    let ⟨arr, hu, harr, _, hf⟩ := keyD_row hd
    simp [keyHas] at hh
    split at hh
    · cases hk with
      | agg cs cs' hc =>
        have := checkFields_ok (em := em) w hq hc fs hf hh
        rw [← harr, Array.forIn_toList] at this
        simp_all[Instr.checkKey,Sem.run_bind,run_und,Result.andThen_ok]
    · cases hh
end
end Go.Proofs.YtgfdhkhcojjkjaaGreatDoor.Hx
