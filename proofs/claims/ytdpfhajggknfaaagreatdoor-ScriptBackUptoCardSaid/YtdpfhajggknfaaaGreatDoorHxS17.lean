/- Chapter 30's drawn lines, handed in: how they lie. -/
import Derived.Test.YtdpfhajggknfaaaGreatDoorHxSf
import Derived.Test.YtdpfhajggknfaaaGreatDoorHxYd
namespace Go.Proofs.YtdpfhajggknfaaaGreatDoor.Hx
open Go.Proofs.YtdpfhajggknfaaaGreatDoor

theorem lNum : Lays 3 (eI .i64) (fun _ => True) true := Lays.int (by unfold P0; exact Tryz.underlying3) (by unfold P0; kernel_rfl)
theorem lTxt : Lays 9 eS (fun s => s.length ≤ maxLen) true := Lays.str (by unfold P0; exact Tryz.underlying9) (by unfold P0; kernel_rfl)
theorem lNums : Lays 33 (eL (eI .i64)) (fun xs => xs.length ≤ maxLen ∧ ∀ x ∈ xs, True) false :=
  Lays.slice (by unfold P0; exact Tryz.underlying33) (by unfold P0; kernel_rfl) lNum (by decide)
theorem lTxts : Lays 34 (eL eS) (fun xs => xs.length ≤ maxLen ∧ ∀ x ∈ xs, x.length ≤ maxLen) false :=
  Lays.slice (by unfold P0; exact Tryz.underlying34) (by unfold P0; kernel_rfl) lTxt (by decide)
structure LnM where
  kind : Int
  nums : List Int
  words : List Tx.Bs
  how : Int
/-- A drawn line's cells. -/
def eLn : Enc LnM where
  sz := 4
  rel b h e cs := ∃ vn vw, cs = lnCells e.kind e.how vn vw ∧ SlR (eI .i64) b h e.nums vn ∧ SlR eS b h e.words vw
  len := fun ⟨_, _, h, _⟩ => by subst h; rfl
  one := fun ⟨_, _, h, hs, ht⟩ => by subst h; exact lnCells_one _ _ hs.one ht.one
  keep := fun hk ⟨v, w, h, hs, ht⟩ => ⟨v, w, h, hs.keep hk, ht.keep hk⟩
  mono := fun hb ⟨v, w, h, hs, ht⟩ => ⟨v, w, h, hs.mono hb, ht.mono hb⟩
theorem lLn : Lays 36 eLn (fun _ => True) false :=
  Lays.map (Lays.struct (fl := true && (false && (false && (true && true)))) (by unfold P0; exact Tryz.underlying36) (by unfold P0; kernel_rfl) (LaysF.cons lNum rfl (LaysF.cons lNums rfl (LaysF.cons lTxts rfl (LaysF.cons lNum rfl (LaysF.nil _))))))
    (fun (x : Int × List Int × List Tx.Bs × Int × Unit) => (⟨x.1, x.2.1, x.2.2.1, x.2.2.2.1⟩ : LnM)) rfl (by
    rintro b h ⟨k, ns, ws, n, u⟩ cs ⟨p1, q1, rfl, ⟨rfl, i1⟩, p2, q2, rfl, ⟨vn, rfl, hn⟩, p3, q3, rfl, ⟨vw, rfl, hw⟩, p4, q4, rfl, ⟨rfl, i4⟩, rfl⟩ ok
    exact ⟨⟨vn, vw, rfl, hn, hw⟩, trivial⟩)
theorem fs36 : ∃ fs, P0.underlying 36 = some (.struct fs) := ⟨_, by unfold P0; exact Tryz.underlying36⟩
end Go.Proofs.YtdpfhajggknfaaaGreatDoor.Hx
