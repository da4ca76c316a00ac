/- What an operation that leaves the heap alone comes to in the model, third part: slices, maps, lengths, interface values; and the whole. -/
import Derived.Test.YtmpdoelanliaeaaGreatDoorHxE
import Derived.Laws.Strings2
namespace Go.Proofs.YtmpdoelanliaeaaGreatDoor.Hx
section
variable {Δ : Env} {h : Hp} {w : World} {n : Nat} {t : Tm} {a : Act}

/-! ### slices -/
inductive OptRel (Δ : Env) : Option V → Option Value → Prop
  | none : OptRel Δ none none
  | some (v : V) (v' : Value) (h : VRel Δ v v') : OptRel Δ (some v) (some v')
theorem optF_ok (hW : WR Δ h w) (hT : TR Δ n t a) {x : Option Operand} {v : Option V} (hv : optF x t h = some v) : OptRel Δ v (x.map a.eval) := by
  cases x with
  | none => simp [optF] at hv; cases hv; exact .none
  | some x =>
    simp [optF, oB_eq] at hv
    let ⟨y, h1, h2⟩ := hv
    cases h2
    exact .some _ _ (evO_ok hW hT h1)
theorem hbound_some {d m : Nat} {lo : Option V} (hv : hbound d lo = some m) : (lo = none ∧ m = d) ∨ ∃ k, lo = some (.int k (.ofNat m)) := by
  unfold hbound at hv
  split at hv
  · simp_all
  · simp_all
  · cases hv
theorem bound_ok {k : IntKind} {m y : Nat} {c : BoundsCode} (w : World) (hle : m ≤ y) : (Instr.sliceBound (.int k (.ofNat m)) y c).run P0 w = .ok m w := by
  simp_all[Instr.sliceBound,asIntOf]
theorem bounds_ok {isS : Bool} {len cap l u : Nat} {lo hi : Option V} {lo' hi' : Option Value} (w : World) (hlo : OptRel Δ lo lo') (hhi : OptRel Δ hi hi')
    (h1 : hbound 0 lo = some l) (h2 : hbound len hi = some u) (hlu : l ≤ u) (huc : u ≤ cap) : (Instr.sliceBounds isS len cap lo' hi' none).run P0 w = .ok (l, u, cap) w := by
  rcases hbound_some h1 with ⟨rfl, rfl⟩ | ⟨k, rfl⟩
  · cases hlo
    rcases hbound_some h2 with ⟨rfl, rfl⟩ | ⟨k, rfl⟩
    · cases hhi
      rfl
    · cases hhi with | some _ _ hr =>
      cases hr
      grind[Instr.sliceBounds,Sem.run_bind,Sem.run_pure,Result.andThen_ok,bound_ok]
  · cases hlo with | some _ _ hr =>
    cases hr
    rcases hbound_some h2 with ⟨rfl, rfl⟩ | ⟨k, rfl⟩
    · cases hhi
      grind[Instr.sliceBounds,Sem.run_bind,Sem.run_pure,Result.andThen_ok,bound_ok]
    · cases hhi with | some _ _ hr =>
      cases hr
      simp only [Instr.sliceBounds, Sem.run_bind, Sem.run_pure, Result.andThen_ok, bound_ok w huc, bound_ok w hlu]
theorem hsliceV_ok (hW : WR Δ h w) {ty elem size : Nat} {x v : V} {xv : Value} {lo hi : Option V} {lo' hi' : Option Value} (hx : VRel Δ x xv) (hlo : OptRel Δ lo lo') (hhi : OptRel Δ hi hi')
    (hu : P0.underlying ty = some (.slice elem)) (hs : szOf elem = some (size + 1)) (hv : hsliceV (Nat.succ size) x lo hi h = some v) :
    ∃ r, (Instr.sliceAt ty xv lo' hi' none).run P0 w = .ok r w ∧ VRel Δ v r := by
  unfold hsliceV at hv
  split at hv
  · rename_i lc off len
    rw [cellsAt_eq] at hv
    let ⟨e, sz, live, ro, cs, hg, hv⟩ := hv
    simp only [bB_eq, oB_eq] at hv
    let ⟨hsz, l, h1, u, h2, hlu, hle, hv⟩ := hv
    cases hv
    have hsz' := Nat.eq_of_beq_eq_true hsz
    have hlu' := Nat.le_of_ble_eq_true hlu
    cases hx with
    | slice _ _ _ cap o d hd hk hl ho =>
      let ⟨ob, hob, hr⟩ := hW.obj lc d hd
      rw [hg] at hob
      cases hob
      let ⟨_, hdsz, hdn, _, _⟩ := hr
      have huc : u ≤ cap := by
        rw [Bool.or_eq_true] at hle
        rcases hle with hle | hle
        · exact Nat.le_trans (Nat.le_of_ble_eq_true hle) hl
        · have hle' : off + u * (size + 1) ≤ cs.length := Nat.le_of_ble_eq_true hle
          rcases ho with ⟨_, hb, _⟩ | ⟨hc, hb⟩
          · rw [hdsz, ← hsz'] at hb
            have : u * (size + 1) ≤ cap * (size + 1) := by have e : Nat.succ size = size + 1 := rfl; rw [e] at hb; omega
            exact Nat.le_of_mul_le_mul_right this (by omega)
          grind
      have hrun := bounds_ok (isS := true) w hlo hhi h1 h2 hlu' huc
      have hlc : l ≤ cap := by omega
      refine ⟨.slice (if cap = l then some ⟨d.b, o, none⟩ else some ⟨d.b, o + l * (size + 1), none⟩) (u - l) (cap - l), ?_, ?_⟩
      · simp_all[Instr.sliceAt,Sem.run_bind,run_und,Instr.slice,run_sz,addr_add]
      · have hmul : cap * d.sz = l * d.sz + (cap - l) * d.sz := by rw [← Nat.add_mul]; congr 1; omega
        have e2 : d.sz = size + 1 := by rw [hdsz, ← hsz']
        split
        · rename_i hcl
          refine .slice lc (Nat.add off (Nat.mul l (Nat.succ size))) (Nat.sub u l) (cap - l) o d hd hk ?_ (.inr ⟨by omega, ?_⟩)
          · simp_all
          grind
        · rename_i hcl
          refine .slice lc (Nat.add off (Nat.mul l (Nat.succ size))) (Nat.sub u l) (cap - l) (o + l * (size + 1)) d hd hk ?_ (.inl ?_)
          · simp_all
          · show o + l * (size + 1) = d.base + (off + l * (size + 1)) ∧ d.n ≤ off + l * (size + 1) + (cap - l) * d.sz ∧ d.base + (off + l * (size + 1)) + (cap - l) * d.sz ≤ d.asz
            rcases ho with ⟨ho, hb, hb'⟩ | ⟨hc, hb⟩
            · rw [e2] at hmul hb hb' ⊢
              omega
            · omega
  · simp only [bB_eq, oB_eq] at hv
    let ⟨l, h1, u, h2, hl, hu', hv⟩ := hv
    cases hv
    have hl0 := Nat.eq_of_beq_eq_true hl
    have hu0 := Nat.eq_of_beq_eq_true hu'
    subst hl0; subst hu0
    cases hx
    have hrun := bounds_ok (isS := true) w hlo hhi h1 h2 (Nat.le_refl _) (Nat.le_refl _)
    exact ⟨.slice none 0 0, by simp_all[Instr.sliceAt,run_und,Instr.slice,run_sz], .nilSlice⟩
  · cases hv
theorem extract_list (s : ByteArray) (p q : Nat) : (s.extract p q).data.toList = (s.data.toList.drop p).take (q - p) := by
  simp_all
theorem hsliceS_ok {ty : Nat} {x v : V} {xv : Value} {lo hi : Option V} {lo' hi' : Option Value} (w : World) (hx : VRel Δ x xv) (hlo : OptRel Δ lo lo') (hhi : OptRel Δ hi hi')
    (hu : P0.underlying ty = some .string) (hv : hsliceS x lo hi = some v) : ∃ r, (Instr.sliceAt ty xv lo' hi' none).run P0 w = .ok r w ∧ VRel Δ v r := by
  unfold hsliceS at hv
  split at hv
  · simp only [bB_eq, oB_eq] at hv
    let ⟨l, h1, u, h2, hlu, hus, hv⟩ := hv
    cases hv
    cases hx with
    | str s =>
      have hrun := bounds_ok (isS := false) w hlo hhi h1 h2 (Nat.le_of_ble_eq_true hlu) (Nat.le_of_ble_eq_true hus)
      refine ⟨.string (s.extract l u), by simp_all[Instr.sliceAt,run_und,Instr.slice], ?_⟩
      have := VRel.str (Δ := Δ) (s.extract l u)
      simp_all
  · cases hv
theorem hslice_ok (hW : WR Δ h w) (hT : TR Δ n t a) {ty : Nat} {p : PF} {xv : Value} {lo hi : Option Operand} {v : V} (hp : ∀ v, p.f t h = some v → VRel Δ v xv)
    (hv : (hslice ty p lo hi).f t h = some v) : ∃ r, (Instr.sliceAt ty xv (lo.map a.eval) (hi.map a.eval) none).run P0 w = .ok r w ∧ VRel Δ v r := by
  unfold hslice at hv
  split at hv
  · rename_i hu
    simp [oB_eq] at hv
    let ⟨x, h1, l, h2, u, h3, h4⟩ := hv
    exact hsliceS_ok w (hp _ h1) (optF_ok hW hT h2) (optF_ok hW hT h3) hu h4
  · rename_i elem hu
    split at hv
    · rename_i m hm
      simp [oB_eq] at hv
      let ⟨x, h1, l, h2, u, h3, h4⟩ := hv
      exact hsliceV_ok hW (hp _ h1) (optF_ok hW hT h2) (optF_ok hW hT h3) hu hm h4
    · cases hv
  · cases hv

/-! ### keys -/
theorem flatEq_ok {ty : Nat} {x y : V} {xv yv : Value} {b : Bool} (hx : VRel Δ x xv) (hy : VRel Δ y yv) (hv : flatEq ty x y = some b) :
    (∀ dd w, (Op.equalIn (dd + 1) ty xv yv).run P0 w = .ok b w) ∧ (∀ d, P0.underlying ty = some d → Instr.sameNow d xv yv = some b) := by
  unfold flatEq at hv
  split at hv
  · rename_i hu
    split at hv
    · rw [bB_eq] at hv
      let ⟨hk, hv⟩ := hv
      cases hv
      obtain rfl := kindEq_eq hk
      cases hx; cases hy
      grind[run_equalIn_int,Instr.sameNow]
    · cases hv
  · rename_i hu
    split at hv
    · cases hv
      cases hx with | str xs => cases hy <;> grind[run_equalIn_string,ByteArray.toList_eq,Instr.sameNow,beq_toListBytes]
    · cases hv
  · rename_i hu
    split at hv
    · cases hv
      cases hx; cases hy
      grind[run_equalIn_bool',Instr.sameNow]
    · cases hv
  · cases hv
theorem flatT_agg {ty : Nat} (hf : flatT ty = true) : aggT ty = some false := by
  grind[flatT,aggT]
theorem part_flat {ty : Nat} {cs : List V} {cs' : Array Value} {off : Nat} {v : V} (w : World) (hf : flatT ty = true) (hc : VsRel Δ cs cs'.toList) (hv : at1 cs off = some v) :
    ∃ x, (part ty cs' off).run P0 w = .ok x w ∧ VRel Δ v x :=
  hpart_ok w hc (by grind[hpart,flatT_agg])
theorem rowEq_ok : ∀ {fs : List Field} {x y : List V} {xs ys : Array Value} {b : Bool}, (∀ f ∈ fs, flatT f.type = true ∧ f.name ≠ "_") → VsRel Δ x xs.toList → VsRel Δ y ys.toList →
    rowEq fs x y = some b → ∀ dd w, (Op.eqFields (dd + 1) xs ys fs).run P0 w = .ok b w
  | [], x, y, xs, ys, b, _, _, _, hv, dd, w => by simp [rowEq] at hv; subst hv; rfl
  | f :: fs, x, y, xs, ys, b, hf, hx, hy, hv, dd, w => by
    simp only [rowEq, oB_eq] at hv
    let ⟨p, h1, q, h2, e, h3, h4⟩ := hv
    let ⟨hft, hfn⟩ := hf f (by simp)
    let ⟨p', hp, hpr⟩ := part_flat w hft hx h1
    let ⟨q', hq, hqr⟩ := part_flat w hft hy h2
    have he := (flatEq_ok hpr hqr h3).1 dd w
    simp only [Op.eqFields]
    rw [if_pos hfn]
    simp [Sem.run_bind, hp, hq, he, Result.andThen_ok]
    cases e with
    | false => simp_all
    | true => exact rowEq_ok (by simp_all) hx hy h4 dd w
theorem keyD_flat {ty : Nat} (hd : keyD ty = some none) : flatT ty = true := by
  grind[keyD,flatT]
theorem keyD_row {ty : Nat} {fs : List Field} (hd : keyD ty = some (some fs)) : ∃ arr, P0.underlying ty = some (.struct arr) ∧ arr.toList = fs ∧ P0.stoodInHeld ty = false ∧ ∀ f ∈ fs, flatT f.type = true ∧ f.name ≠ "_" := by
  unfold keyD at hd
  split at hd
  · cases hd
  · cases hd
  · cases hd
  · rename_i arr hu
    split at hd
    · grind
    · cases hd
  · cases hd
theorem keyEq_ok {ty : Nat} {d : Option (List Field)} {x y : V} {xv yv : Value} {b : Bool} (hd : keyD ty = some d) (hx : VRel Δ x xv) (hy : VRel Δ y yv) (hv : keyEq ty d x y = some b) (w : World) :
    (Op.equal ty xv yv).run P0 w = .ok b w := by
  cases d with
  | none => exact (flatEq_ok hx hy hv).1 9999 w
  | some fs =>
    let ⟨arr, hu, harr, hs, hf⟩ := keyD_row hd
    simp [keyEq] at hv
    split at hv
    · cases hx with | agg _ xs hx => cases hy with | agg _ ys hy =>
      have hfo : P0.fieldsOf ty = arr := by simp [Program.fieldsOf, hu]
      have := run_equalIn_struct w 9999 ty xs ys (by rw [hfo]; exact hu) hs
      rw [hfo, harr] at this
      exact this.trans (rowEq_ok hf hx hy hv 9998 w)
    · cases hv
def FRel (Δ : Env) : Option (Nat × V) → Option (Nat × Value) → Prop
  | none, none => True
  | some (i, v), some (i', v') => i = i' ∧ VRel Δ v v'
  | _, _ => False
theorem findAsking_ok {ty : Nat} {d : Option (List Field)} {k : V} {kv : Value} (hd : keyD ty = some d) (hk : VRel Δ k kv) (w : World) : ∀ {es : List (V × V × Nat)} {es' : List MapEntry} {i : Nat} {r : Option (Nat × V)},
    ERel Δ es es' → findV ty d k es i = some r → ∃ r', (Instr.findAsking ty kv es' i).run P0 w = .ok r' w ∧ FRel Δ r r'
  | _, _, i, r, .nil, hv => by simp [findV] at hv; subst hv; exact ⟨none, rfl, trivial⟩
  | _, _, i, r, .cons k' v n e es es' hk' hv' hb hs, hv => by
    simp only [findV, oB_eq] at hv
    let ⟨b, h1, h2⟩ := hv
    have he := keyEq_ok hd hk hk' h1 w
    simp [Instr.findAsking, Sem.run_bind, he]
    cases b with
    | true => cases h2; exact ⟨some (i, e.val), rfl, rfl, hv'⟩
    | false => exact findAsking_ok hd hk w hs h2
theorem findNow_ok {ty : Nat} {k : V} {kv : Value} {ds : TypeDesc} (hu : P0.underlying ty = some ds) (hk : VRel Δ k kv) : ∀ {es : List (V × V × Nat)} {es' : List MapEntry} {i : Nat} {r : Option (Nat × V)},
    ERel Δ es es' → findV ty none k es i = some r → ∃ r', Instr.findNow ds kv es' i = some r' ∧ FRel Δ r r'
  | _, _, i, r, .nil, hv => by simp [findV] at hv; subst hv; exact ⟨none, rfl, trivial⟩
  | _, _, i, r, .cons k' v n e es es' hk' hv' hb hs, hv => by
    simp only [findV, oB_eq] at hv
    let ⟨b, h1, h2⟩ := hv
    have he := (flatEq_ok hk hk' h1).2 ds hu
    simp [Instr.findNow, he]
    cases b with
    | true => cases h2; exact ⟨some (i, e.val), rfl, rfl, hv'⟩
    | false => exact findNow_ok hu hk hs h2
theorem findKey_ok {ty : Nat} {d : Option (List Field)} {k : V} {kv : Value} (hd : keyD ty = some d) (hk : VRel Δ k kv) (w : World) {es : List (V × V × Nat)} {es' : List MapEntry} {r : Option (Nat × V)}
    (he : ERel Δ es es') (hv : findV ty d k es 0 = some r) : ∃ r', (Instr.findKey ty kv es').run P0 w = .ok r' w ∧ FRel Δ r r' := by
  cases d with
  | none =>
    have hf := keyD_flat hd
    unfold flatT at hf
    cases hu : P0.underlying ty with
    | none => simp_all
    | some ds =>
      let ⟨r', h1, h2⟩ := findNow_ok hu hk he hv
      simp_all[Instr.findKey,run_und]
  | some fs =>
    let ⟨arr, hu, _, _, _⟩ := keyD_row hd
    cases he with
    | nil =>
      simp [findV] at hv; subst hv
      exact ⟨none, by simp_all[Instr.findKey,run_und,Instr.findNow], trivial⟩
    | cons k' v n e es es' hk' hv' hb hs =>
      let ⟨r', h1, h2⟩ := findAsking_ok hd hk w (.cons k' v n e es es' hk' hv' hb hs) hv
      simp_all[Instr.findNow,Instr.sameNow,Instr.findKey,Sem.run_bind,run_und,Result.andThen_ok]
theorem checkFields_ok {em : Bool} {q : Nat} {cs : List V} {cs' : Array Value} (w : World) (hq : 0 < q) (hc : VsRel Δ cs cs'.toList) : ∀ (fs : List Field), (∀ f ∈ fs, flatT f.type = true ∧ f.name ≠ "_") →
    (fs.all fun f => (at1 cs f.offset).isSome) = true →
    (forIn fs PUnit.unit (fun f _ => if f.name ≠ "_" then do
        let x ← part f.type cs' f.offset
        Instr.checkKey em q f.type x
        pure (ForInStep.yield PUnit.unit)
      else pure (ForInStep.yield PUnit.unit) : Field → PUnit → Sem (ForInStep PUnit))).run P0 w = .ok PUnit.unit w
  | [], _, _ => rfl
  | f :: fs, hf, hh => by
    obtain ⟨m, rfl⟩ : ∃ m, q = m + 1 := by simp_all
    let ⟨hft, hfn⟩ := hf f (by simp)
    simp only [List.all_cons, Bool.and_eq_true] at hh
    let ⟨v, hv⟩ := Option.isSome_iff_exists.1 hh.1
    let ⟨x, hx, hr⟩ := part_flat w hft hc hv
    have hck : (Instr.checkKey em (m + 1) f.type x).run P0 w = .ok () w := by
      unfold flatT at hft
      split at hft
      · simp_all[Instr.checkKey,run_und]
      · simp_all[Instr.checkKey,run_und]
      · simp_all[Instr.checkKey,run_und]
      · cases hft
    have ih := checkFields_ok (em := em) w hq hc fs (by simp_all) hh.2
    simp_all
theorem checkKey_ok {ty : Nat} {d : Option (List Field)} {k : V} {kv : Value} (em : Bool) (q : Nat) (hq : 0 < q) (w : World) (hd : keyD ty = some d) (hk : VRel Δ k kv) (hh : keyHas d k = true) :
    (Instr.checkKey em (q + 1) ty kv).run P0 w = .ok () w := by
  cases d with
  | none =>
    have hft := keyD_flat hd
    unfold flatT at hft
    split at hft
    · simp_all[Instr.checkKey,run_und]
    · simp_all[Instr.checkKey,run_und]
    · simp_all[Instr.checkKey,run_und]
    simp_all
  | some fs =>
    let ⟨arr, hu, harr, _, hf⟩ := keyD_row hd
    simp [keyHas] at hh
    split at hh
    · cases hk with
      | agg cs cs' hc =>
        have := checkFields_ok (em := em) w hq hc fs hf hh
        rw [← harr, Array.forIn_toList] at this
        simp_all[Instr.checkKey,Sem.run_bind,run_und,Result.andThen_ok]
    · cases hh
end
end Go.Proofs.YtmpdoelanliaeaaGreatDoor.Hx
