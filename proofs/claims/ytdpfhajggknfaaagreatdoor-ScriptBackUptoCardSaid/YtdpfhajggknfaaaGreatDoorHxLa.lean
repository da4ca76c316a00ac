/- What the laws of chapter 30's text share: the table that strconv reads, and a world for the witness. -/
import Derived.Test.YtdpfhajggknfaaaGreatDoorHxSb
import Derived.Test.YtdpfhajggknfaaaGreatDoorCards
import Derived.Test.YtdpfhajggknfaaaGreatDoorTie
import Derived.WalkKit
import Derived.ProofKit
import Derived.OpenShut
import Derived.Deep.DeepHandedRow
import Derived.Lib.LaidTab
namespace Go.Proofs.YtdpfhajggknfaaaGreatDoor.Laws
open Go.ChangeShapes Go.WideShapes Go.ChangeAt Go.RowKit

theorem own : ownKnob Tryz.prog.godebug = none := by kernel_rfl
theorem tabRow {H : Type} : (Rows.laid_internal_strconv_uint64pow10 : DataW H) = Lib.tabData .u64 Lib.pow10Tab := rfl
theorem cells80 : Tryz.prog.cellsOf 80 = 1 := by kernel_rfl
theorem cells233 : Tryz.prog.cellsOf 233 = 20 := by kernel_rfl
theorem gTab : Tryz.prog.globalNamed "internal/strconv.uint64pow10" = some 1 := by kernel_rfl
theorem gTabType : (Tryz.prog.globals[1]?).map (·.type) = some 233 := by kernel_rfl
abbrev laid : List (String × DataW Unit) := [("math/bits.deBruijn32tab", Rows.laid_math_bits_deBruijn32tab), ("math/bits.deBruijn64tab", Rows.laid_math_bits_deBruijn64tab), ("internal/strconv.uint64pow10", Rows.laid_internal_strconv_uint64pow10), ("unicode/utf8.acceptRanges", Rows.laid_unicode_utf8_acceptRanges), ("unicode/utf8.first", Rows.laid_unicode_utf8_first)]
theorem table {W : World} (h : laidMetH Tryz.prog laid W) : Hx.TabOk (fun _ => none) W := by
  have h' : laidMet Tryz.prog laid W := h
  obtain ⟨ps, hl, _⟩ := h'
  obtain ⟨_, _, _, _, _, _, _, _, _, _, ⟨_, _, _, _, _, _, _, _, _, _, ⟨g, t, cs, fuel, p, q, hg, ht, hvar, hd, _⟩, _⟩, _⟩ := hl
  obtain rfl : g = 1 := by
    have := hg.symm.trans gTab
    exact Option.some.inj this
  obtain rfl : t = 233 := Option.some.inj (ht.symm.trans gTabType)
  rw [tabRow] at hd
  have hcs := Lib.cells_of_tab Tryz.underlying233 Tryz.underlying80 cells80 cells233 hd
  have hv : (match (W.heap[1]? : Option Obj) with
      | some (Obj.cells cs _ _) => some cs
      | _ => (none : Option (Array Value))) = some cs := by
    have h1 : W.var? Tryz.prog "internal/strconv.uint64pow10" = some cs := hvar
    unfold World.var? at h1
    rw [gTab] at h1
    exact h1
  intro g' c hm
  obtain ⟨rfl, rfl⟩ := Prod.mk.inj (List.mem_singleton.1 hm)
  refine ⟨?_, fun _ _ e => nomatch e⟩
  split at hv
  · rename_i c e fr he
    cases hv
    refine ⟨e, fr, ?_⟩
    rw [he]
    congr 2
    apply Array.ext'
    rw [hcs]
    unfold Lib.pow10Tab
    rw [List.map_map]
    rfl
  · cases hv

/-- The cells that a datum lays. -/
def flat : Nat → DataW Unit → List Value
  | 0, _ => []
  | _ + 1, .lit (.int k v) => [.int k v]
  | n + 1, .agg l => l.flatMap (flat n)
  | _ + 1, _ => []
def lay (cs : List Value) : Obj → Obj
  | .cells _ t frozen => .cells cs.toArray t frozen
  | o => o
noncomputable def laidWorld (os : Os) : World :=
  { World.holding Tryz.prog os ⟨#[], #[], []⟩ with heap := (((((World.holding Tryz.prog os ⟨#[], #[], []⟩).heap.modify 1 (lay (flat 8 Rows.laid_internal_strconv_uint64pow10))).modify 2 (lay (flat 8 Rows.laid_unicode_utf8_first))).modify 3 (lay (flat 8 Rows.laid_unicode_utf8_acceptRanges))).modify 4 (lay (flat 8 Rows.laid_math_bits_deBruijn32tab))).modify 5 (lay (flat 8 Rows.laid_math_bits_deBruijn64tab)) }
theorem laidOut : laidOutB Hx.P0 = true := by kernel_rfl
end Go.Proofs.YtdpfhajggknfaaaGreatDoor.Laws
