/- Chapter 30's states at the end of a run, handed in: how they lie. -/
import Derived.Test.YtdpfhajggknfaaaGreatDoorHxSe
import Derived.Test.YtdpfhajggknfaaaGreatDoorHxYd
namespace Go.Proofs.YtdpfhajggknfaaaGreatDoor.Hx
open Go.Proofs.YtdpfhajggknfaaaGreatDoor

theorem lInt' : Lays 3 (eI .i64) (fun _ => True) true := Lays.int (by unfold P0; exact Tryz.underlying3) (by unfold P0; kernel_rfl)
theorem lWhy : Lays 27 (eI .i64) (fun _ => True) true := Lays.int (by unfold P0; exact Tryz.underlying27) (by unfold P0; kernel_rfl)
theorem lKey : Lays 74 eT (fun x => inK .i64 x.1 ∧ inK .i64 x.2) true :=
  Lays.map (e := eP (eI .i64) (eP (eI .i64) eU)) (Lays.struct (fl := true && (true && true)) (by unfold P0; exact Tryz.underlying74) (by unfold P0; kernel_rfl) (LaysF.cons lInt' rfl (LaysF.cons lInt' rfl (LaysF.nil _)))) (fun x => (x.1, x.2.1)) rfl (by
    rintro b h ⟨x, y, u⟩ cs ⟨p, q, rfl, h1, q1, q2, rfl, h2, rfl⟩ _
    refine ⟨⟨p, q1 ++ [], rfl, h1, ?_⟩, h1.2, h2.2⟩
    rw [List.append_nil]; exact h2)
theorem lKeys : Lays 41 (eL eT) (fun xs => xs.length ≤ maxLen ∧ tyIn xs) false :=
  Lays.slice (by unfold P0; exact Tryz.underlying41) (by unfold P0; kernel_rfl) lKey (by decide)
/-- A state's cells. -/
def eRw : Enc Tx.Rw where
  sz := 6
  rel b h e cs := ∃ v, cs = rwCells e v ∧ SlR eT b h e.keys v
  len := fun ⟨_, h, _⟩ => by subst h; rfl
  one := fun ⟨_, h, hs⟩ => by subst h; exact rwCells_one _ hs.one
  keep := fun hk ⟨v, h, hs⟩ => ⟨v, h, hs.keep hk⟩
  mono := fun hb ⟨v, h, hs⟩ => ⟨v, h, hs.mono hb⟩
theorem lRw : Lays 43 eRw rwIn false :=
  Lays.map (Lays.struct (fl := true && (true && (true && (true && (true && (false && true)))))) (by unfold P0; exact Tryz.underlying43) (by unfold P0; kernel_rfl) (LaysF.cons lWhy rfl (LaysF.cons lInt' rfl (LaysF.cons lInt' rfl (LaysF.cons lInt' rfl (LaysF.cons lInt' rfl (LaysF.cons lKeys rfl (LaysF.nil _))))))))
    (fun (x : Int × Int × Int × Int × Int × List (Int × Int) × Unit) => (⟨x.1, x.2.1, x.2.2.1, x.2.2.2.1, x.2.2.2.2.1, x.2.2.2.2.2.1⟩ : Tx.Rw)) rfl (by
    rintro b h ⟨k, f, pc, n, m, ty, u⟩ cs ⟨p1, q1, rfl, ⟨rfl, i1⟩, p2, q2, rfl, ⟨rfl, i2⟩, p3, q3, rfl, ⟨rfl, i3⟩, p4, q4, rfl, ⟨rfl, i4⟩, p5, q5, rfl, ⟨rfl, i5⟩, p6, q6, rfl, ⟨v, rfl, hs⟩, rfl⟩ ok
    exact ⟨⟨v, rfl, hs⟩, i1, i2, i3, i4, i5, ok.2.2.2.2.2.1.2⟩)
theorem fs43 : ∃ fs, P0.underlying 43 = some (.struct fs) := ⟨_, by unfold P0; exact Tryz.underlying43⟩
end Go.Proofs.YtdpfhajggknfaaaGreatDoor.Hx
