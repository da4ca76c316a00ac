/- Arguments of a statement: a record, a row, a number; from what they read as to plain values. -/
import Derived.Test.YtlbdcjnhlkkfeaaGreatDoorHxYc
namespace Go.Proofs.YtlbdcjnhlkkfeaaGreatDoor.Hx
open Go.ChangeShapes Go.WideShapes Go.RowKit

theorem slOk_cell {w : World} {base : Nat} {u : TypeId} {v : Value} (h : Cell.okWide P0 w .any base u v) (a : Addr) (len cap : Nat) (hv : v = .slice (some a) len cap) : a.spot = none ∧ ∃ c e fr, w.heap[a.block]? = some (.cells c e fr) := by
  subst hv
  have h2 : w.has P0 .any base a ((match P0.underlying u with | some (.slice e) => e | _ => 0)) cap := by
    unfold Cell.okWide at h
    split at h
    case h_8 =>
      unfold Cell.ok at h
      grind
    all_goals rename_i e2
    all_goals cases e2
  obtain ⟨_, h3, row, cells, h4, _⟩ := h2
  grind[World.shape?]
theorem slOk_val {w : World} {base : Nat} {t : TypeId} {v : Value} (h : Value.okWide P0 w .any base t v) : SlOk w v.cells.toList := by
  intro a len cap hm
  refine ⟨a.block, And.right (a := a.spot = none) ?_⟩
  unfold Value.okWide at h
  have one : Cell.okWide P0 w .any base t v → a.spot = none ∧ ∃ c e fr, w.heap[a.block]? = some (.cells c e fr) := by
    intro h1
    by_cases hv : ∃ cs, v = .agg cs
    · obtain ⟨cs, rfl⟩ := hv
      simp_all[Cell.okWide,Cell.ok]
    · have hc : v.cells = #[v] := by
        cases v <;> first | rfl | simp_all
      rw [hc] at hm
      obtain rfl := List.mem_singleton.1 hm
      exact slOk_cell h1 a len cap rfl
  split at h
  · obtain ⟨cs, rfl, _, ts, _, _, h3⟩ := h
    obtain ⟨i, hi⟩ := List.mem_iff_getElem?.1 hm
    obtain ⟨u, _, hu⟩ := h3 i _ (by simpa [Value.cells] using hi)
    exact slOk_cell hu a len cap rfl
  · obtain ⟨cs, rfl, _, ts, _, _, h3⟩ := h
    obtain ⟨i, hi⟩ := List.mem_iff_getElem?.1 hm
    obtain ⟨u, _, hu⟩ := h3 i _ (by simpa [Value.cells] using hi)
    exact slOk_cell hu a len cap rfl
  simp_all
/-- Another reading of what was laid. -/
theorem Lays.map {α β : Type} {t : Nat} {e : Enc α} {e' : Enc β} {ok : α → Prop} {ok' : β → Prop} {fl : Bool} (hl : Lays t e ok fl) (g : α → β) (hs : e'.sz = e.sz) (hg : ∀ b h x cs, e.rel b h x cs → ok x → e'.rel b h (g x) cs ∧ ok' (g x)) : Lays t e' ok' fl where
  cells := by rw [hl.cells, hs]
  lay := by
    intro H enc w fuel cs d ps Δ h hd hsl hR
    obtain ⟨x, vs, Δ', h', h1, h2, h3, h4⟩ := hl.lay hd hsl hR
    obtain ⟨h5, h6⟩ := hg _ _ _ _ h2 h3
    exact ⟨g x, vs, Δ', h', h1, h5, h6, h4⟩
/-- An argument that is a record. -/
theorem Lays.argS {α : Type} {t : Nat} {fs : Array Field} {e : Enc α} {ok : α → Prop} {fl : Bool} (hl : Lays t e ok fl) (hu : P0.underlying t = some (.struct fs)) {H : Type} {enc : TypeId × Value → H} {w : World} {base : Nat} {v : Value} {d : DataW H} {ps : List MemPlace} {Δ : Env} {h : Hp}
    (hv : Value.okWide P0 w .any base t v) (hd : DataW.Trod enc P0 w 0 (fun _ => true) true t v d ps) (hR : Rd Δ h w) :
    ∃ x vs Δ' h', VRel Δ' (.agg vs) v ∧ e.rel (lo h'.next) h' x vs ∧ ok x ∧ Rd Δ' h' w ∧ Δ.le Δ' ∧ Grows h h' := by
  obtain ⟨fuel, hd⟩ := hd
  obtain ⟨x, vs, Δ', h', h1, h2⟩ := hl.lay hd (by grind[slOk_val]) hR
  unfold Value.okWide at hv
  rw [hu] at hv
  obtain ⟨cs, rfl, _⟩ := hv
  exact ⟨x, vs, Δ', h', .agg _ _ h1, h2⟩
/-- An argument of one cell. -/
theorem Lays.arg1 {α : Type} {t : Nat} {e : Enc α} {ok : α → Prop} {fl : Bool} (hl : Lays t e ok fl) {H : Type} {enc : TypeId × Value → H} {w : World} {base : Nat} {v : Value} {d : DataW H} {ps : List MemPlace} {Δ : Env} {h : Hp}
    (hc : v.cells = #[v]) (hv : Value.okWide P0 w .any base t v) (hd : DataW.Trod enc P0 w 0 (fun _ => true) true t v d ps) (hR : Rd Δ h w) :
    ∃ x u Δ' h', VRel Δ' u v ∧ e.rel (lo h'.next) h' x [u] ∧ ok x ∧ Rd Δ' h' w ∧ Δ.le Δ' ∧ Grows h h' := by
  obtain ⟨fuel, hd⟩ := hd
  obtain ⟨x, vs, Δ', h', h1, h2⟩ := hl.lay hd (by grind[slOk_val]) hR
  rw [hc] at h1
  cases h1 with
  | cons u _ us _ hu hus =>
    cases hus
    grind
end Go.Proofs.YtlbdcjnhlkkfeaaGreatDoor.Hx
