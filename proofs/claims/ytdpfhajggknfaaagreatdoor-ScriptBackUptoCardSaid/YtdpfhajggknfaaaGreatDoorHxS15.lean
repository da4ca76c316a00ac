/- Chapter 30's events, handed in: how they lie. -/
import Derived.Test.YtdpfhajggknfaaaGreatDoorHxSc
import Derived.Test.YtdpfhajggknfaaaGreatDoorHxYd
namespace Go.Proofs.YtdpfhajggknfaaaGreatDoor.Hx
open Go.Proofs.YtdpfhajggknfaaaGreatDoor

theorem lInt : Lays 3 (eI .i64) (fun _ => True) true := Lays.int (by unfold P0; exact Tryz.underlying3) (by unfold P0; kernel_rfl)
theorem lSeen : Lays 60 eT (fun x => inK .i64 x.1 ∧ inK .i64 x.2) true :=
  Lays.map (e := eP (eI .i64) (eP (eI .i64) eU)) (Lays.struct (fl := true && (true && true)) (by unfold P0; exact Tryz.underlying60) (by unfold P0; kernel_rfl) (LaysF.cons lInt rfl (LaysF.cons lInt rfl (LaysF.nil _)))) (fun x => (x.1, x.2.1)) rfl (by
    rintro b h ⟨x, y, u⟩ cs ⟨p, q, rfl, h1, q1, q2, rfl, h2, rfl⟩ _
    refine ⟨⟨p, q1 ++ [], rfl, h1, ?_⟩, h1.2, h2.2⟩
    rw [List.append_nil]; exact h2)
theorem lSeens : Lays 22 (eL eT) (fun xs => xs.length ≤ maxLen ∧ tyIn xs) false :=
  Lays.slice (by unfold P0; exact Tryz.underlying22) (by unfold P0; kernel_rfl) lSeen (by decide)
/-- An event's cells. -/
def eEv : Enc Tx.Ev where
  sz := 9
  rel b h e cs := ∃ v, cs = evCells e v ∧ SlR eT b h e.ty v
  len := fun ⟨_, h, _⟩ => by subst h; rfl
  one := fun ⟨_, h, hs⟩ => by subst h; exact evCells_one _ hs.one
  keep := fun hk ⟨v, h, hs⟩ => ⟨v, h, hs.keep hk⟩
  mono := fun hb ⟨v, h, hs⟩ => ⟨v, h, hs.mono hb⟩
theorem lEv : Lays 26 eEv evIn false :=
  Lays.map (Lays.struct (fl := true && (true && (true && (true && ((true && (true && (true && (true && (false && true))))) && true))))) (by unfold P0; exact Tryz.underlying26) (by unfold P0; kernel_rfl) (LaysF.cons lInt rfl (LaysF.cons lInt rfl (LaysF.cons lInt rfl (LaysF.cons lInt rfl (LaysF.cons
    (Lays.struct (t := 24) (fl := true && (true && (true && (true && (false && true))))) (by unfold P0; exact Tryz.underlying24) (by unfold P0; kernel_rfl) (LaysF.cons lInt rfl (LaysF.cons lInt rfl (LaysF.cons lInt rfl (LaysF.cons lInt rfl (LaysF.cons lSeens rfl (LaysF.nil _))))))) rfl (LaysF.nil _)))))))
    (fun (x : Int × Int × Int × Int × (Int × Int × Int × Int × List (Int × Int) × Unit) × Unit) => (⟨x.1, x.2.1, x.2.2.1, x.2.2.2.1, x.2.2.2.2.1.1, x.2.2.2.2.1.2.1, x.2.2.2.2.1.2.2.1, x.2.2.2.2.1.2.2.2.1, x.2.2.2.2.1.2.2.2.2.1⟩ : Tx.Ev)) rfl (by
    rintro b h ⟨k, f, pc, n, ⟨cf, cpc, cy, cn, ty, u⟩, u'⟩ cs ⟨p1, q1, rfl, ⟨rfl, i1⟩, p2, q2, rfl, ⟨rfl, i2⟩, p3, q3, rfl, ⟨rfl, i3⟩, p4, q4, rfl, ⟨rfl, i4⟩, p5, q5, rfl, ⟨p6, q6, rfl, ⟨rfl, i6⟩, p7, q7, rfl, ⟨rfl, i7⟩, p8, q8, rfl, ⟨rfl, i8⟩, p9, q9, rfl, ⟨rfl, i9⟩, p10, q10, rfl, ⟨v, rfl, hs⟩, rfl⟩, rfl⟩ ok
    exact ⟨⟨v, rfl, hs⟩, i1, i2, i3, i4, i6, i7, i8, i9, ok.2.2.2.2.1.2.2.2.2.1.2⟩)
theorem fs26 : ∃ fs, P0.underlying 26 = some (.struct fs) := ⟨_, by unfold P0; exact Tryz.underlying26⟩
end Go.Proofs.YtdpfhajggknfaaaGreatDoor.Hx
