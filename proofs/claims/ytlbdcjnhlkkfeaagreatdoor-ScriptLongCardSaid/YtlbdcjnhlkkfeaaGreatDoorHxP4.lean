/- ScriptLong's text, plainly: so many lines 'evict 0 0', and its words by newline. -/
import Derived.Test.YtlbdcjnhlkkfeaaGreatDoorHxA
namespace Go.Proofs.YtlbdcjnhlkkfeaaGreatDoor.Tx
abbrev Bs := List UInt8
/-- Words by one byte. -/
def split (c : UInt8) : Bs → List Bs
  | [] => [[]]
  | x :: s => bif x == c then [] :: split c s else match split c s with
    | [] => [[x]]
    | w :: ws => (x :: w) :: ws
theorem split_word (c : UInt8) : ∀ (w s : Bs), (∀ x ∈ w, x ≠ c) → split c (w ++ c :: s) = w :: split c s
  | [], s, _ => by simp [split]
  | x :: w, s, h => by
    have hx : (x == c) = false := by simpa using h x (by simp)
    have ih := split_word c w s (fun y hy => h y (by simp [hy]))
    simp only [List.cons_append, split, hx, cond_false, ih]
theorem split_last (c : UInt8) : ∀ (w : Bs), (∀ x ∈ w, x ≠ c) → split c w = [w]
  | [], _ => rfl
  | x :: w, h => by
    have hx : (x == c) = false := by simpa using h x (by simp)
    have ih := split_last c w (fun y hy => h y (by simp [hy]))
    simp only [split, hx, cond_false, ih]
def evict : Bs := [101, 118, 105, 99, 116, 32, 48, 32, 48]
def many (n : Nat) : Bs := (List.replicate n (evict ++ [10])).flatten
theorem many_zero : many 0 = [] := rfl
theorem many_succ (n : Nat) : many (n + 1) = many n ++ (evict ++ [10]) := by
  unfold many
  rw [List.replicate_succ', List.flatten_append]
  simp
theorem many_cons (n : Nat) : many (n + 1) = evict ++ 10 :: many n := by
  unfold many
  rw [List.replicate_succ, List.flatten_cons]
  simp
theorem many_len : ∀ n, (many n).length = 10 * n
  | 0 => rfl
  | n + 1 => by
    rw [many_cons, List.length_append, List.length_cons, many_len n]
    show 9 + (10 * n + 1) = _
    omega
theorem split_many : ∀ n, split 10 (many n) = List.replicate n evict ++ [[]]
  | 0 => rfl
  | n + 1 => by
    rw [many_cons, split_word 10 evict _ (by decide), split_many n]
    rfl
end Go.Proofs.YtlbdcjnhlkkfeaaGreatDoor.Tx
