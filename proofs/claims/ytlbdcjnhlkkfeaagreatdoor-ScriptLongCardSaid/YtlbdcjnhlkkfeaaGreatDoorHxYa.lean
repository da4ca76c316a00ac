/- How plain cells and the plain heap stand for numbers, texts, rows and records; what stays where nothing is changed. -/
import Derived.Test.YtlbdcjnhlkkfeaaGreatDoorHxY
namespace Go.Proofs.YtlbdcjnhlkkfeaaGreatDoor.Hx

/-! ### a heap that is changed in some places -/
structure Chg (S : Nat → Prop) (h h' : Hp) : Prop where
  next : h.next ≤ h'.next
  keep : ∀ l, l < h.next → ¬ S l → h'.get l = h.get l
abbrev Grows (h h' : Hp) : Prop := Chg (fun _ => False) h h'
theorem Chg.refl (S : Nat → Prop) (h : Hp) : Chg S h h := ⟨Nat.le_refl _, by simp_all⟩
theorem Chg.trans' {S S' : Nat → Prop} {h h' h'' : Hp} (a : Chg S h h') (b : Chg S' h' h'') (hs : ∀ l, l < h.next → S' l → S l) : Chg S h h'' :=
  ⟨Nat.le_trans a.next b.next, fun l hl hn => by rw [b.keep l (Nat.lt_of_lt_of_le hl a.next) (by grind), a.keep l hl hn]⟩
theorem Chg.trans {S : Nat → Prop} {h h' h'' : Hp} (a : Chg S h h') (b : Chg S h' h'') : Chg S h h'' := a.trans' b (by simp_all)
theorem Chg.weak {S S' : Nat → Prop} {h h' : Hp} (a : Chg S h h') (hs : ∀ l, l < h.next → S l → S' l) : Chg S' h h' :=
  ⟨a.next, fun l hl hn => a.keep l hl (by grind)⟩
theorem Grows.weak {S : Nat → Prop} {h h' : Hp} (a : Grows h h') : Chg S h h' := by grind[Chg.weak]
theorem Chg.new {S : Nat → Prop} (h : Hp) (o : O) : Chg S h (h.new o) :=
  ⟨Nat.le_succ _, fun l hl _ => by rw [get_new, if_neg (by omega)]⟩
theorem Chg.put {S : Nat → Prop} {h : Hp} {l : Nat} (o : O) (hs : S l) (hl : l < h.next) : Chg S h (h.put l o) :=
  ⟨Nat.le_refl _, fun m _ hn => by rw [get_put _ _ hl, if_neg (by grind)]⟩
theorem get_new_self (h : Hp) (o : O) : (h.new o).get h.next = some o := by rw [get_new, if_pos rfl]
theorem get_new_lt {h : Hp} (o : O) {l : Nat} (hl : l < h.next) : (h.new o).get l = h.get l := by rw [get_new, if_neg (by omega)]
theorem get_put_self {h : Hp} {l : Nat} (o : O) (hl : l < h.next) : (h.put l o).get l = some o := by rw [get_put _ _ hl, if_pos rfl]
theorem get_put_ne {h : Hp} {l m : Nat} (o : O) (hl : l < h.next) (hm : l ≠ m) : (h.put l o).get m = h.get m := by simp_all[get_put,if_neg]
@[simp] theorem next_new (h : Hp) (o : O) : (h.new o).next = h.next + 1 := rfl
@[simp] theorem next_put (h : Hp) (l : Nat) (o : O) : (h.put l o).next = h.next := rfl

/-! ### what cells stand for -/
structure Enc (α : Type) where
  sz : Nat
  rel : (Nat → Prop) → Hp → α → List V → Prop
  len : ∀ {b h x cs}, rel b h x cs → cs.length = sz
  one : ∀ {b h x cs}, rel b h x cs → allOne cs = true
  keep : ∀ {b h h' x cs}, (∀ l, b l → h'.get l = h.get l) → rel b h x cs → rel b h' x cs
  mono : ∀ {b b' h x cs}, (∀ l, b l → b' l) → rel b h x cs → rel b' h x cs
/-- All places below one. -/
def lo (b : Nat) : Nat → Prop := fun l => l < b
theorem lo_mono {b b' : Nat} (h : b ≤ b') : ∀ l, lo b l → lo b' l := fun _ hl => Nat.lt_of_lt_of_le hl h
theorem allOne_append : ∀ a b, allOne (a ++ b) = (allOne a && allOne b)
  | [], b => by rfl
  | v :: a, b => by
    simp [ allOne, allOne_append a b]
    cases v.one <;> simp
@[simp] theorem allOne_nil : allOne [] = true := rfl
@[simp] theorem allOne_cons (v : V) (l : List V) : allOne (v :: l) = (v.one && allOne l) := by
  simp [allOne]; cases v.one <;> rfl
/-- The numbers of a kind. -/
def inK : IntKind → Int → Prop
  | .i8, n => -128 ≤ n ∧ n ≤ 127
  | .i16, n => -32768 ≤ n ∧ n ≤ 32767
  | .i32, n => -2147483648 ≤ n ∧ n ≤ 2147483647
  | .i64, n => -9223372036854775808 ≤ n ∧ n ≤ 9223372036854775807
  | .u8, n => 0 ≤ n ∧ n ≤ 255
  | .u16, n => 0 ≤ n ∧ n ≤ 65535
  | .u32, n => 0 ≤ n ∧ n ≤ 4294967295
  | .u64, n => 0 ≤ n ∧ n ≤ 18446744073709551615
def eI (k : IntKind) : Enc Int where
  sz := 1
  rel _ _ n cs := cs = [.int k n] ∧ inK k n
  len h := by simp_all
  one h := by rw [h.1]; rfl
  keep _ h := h
  mono _ h := h
def eB : Enc Bool where
  sz := 1
  rel _ _ n cs := cs = [.bool n]
  len h := by simp_all
  one h := by subst h; rfl
  keep _ h := h
  mono _ h := h
def eS : Enc (List UInt8) where
  sz := 1
  rel _ _ n cs := cs = [.str n]
  len h := by simp_all
  one h := by subst h; rfl
  keep _ h := h
  mono _ h := h
def eP {α β : Type} (e : Enc α) (f : Enc β) : Enc (α × β) where
  sz := e.sz + f.sz
  rel b h x cs := ∃ p q, cs = p ++ q ∧ e.rel b h x.1 p ∧ f.rel b h x.2 q
  len := fun ⟨_, _, h, h1, h2⟩ => by subst h; simp [e.len h1, f.len h2]
  one := fun ⟨_, _, h, h1, h2⟩ => by subst h; simp [allOne_append, e.one h1, f.one h2]
  keep := fun hk ⟨p, q, h, h1, h2⟩ => ⟨p, q, h, e.keep hk h1, f.keep hk h2⟩
  mono := fun hb ⟨p, q, h, h1, h2⟩ => ⟨p, q, h, e.mono hb h1, f.mono hb h2⟩
def eM {α β : Type} (g : β → α) (e : Enc α) : Enc β where
  sz := e.sz
  rel b h x cs := e.rel b h (g x) cs
  len h := e.len h
  one h := e.one h
  keep hk h := e.keep hk h
  mono hb h := e.mono hb h
/-- Cells that begin with those of a row. -/
def Win {α : Type} (e : Enc α) (b : Nat → Prop) (h : Hp) : List V → List α → Prop
  | _, [] => True
  | cs, x :: xs => ∃ w r, cs = w ++ r ∧ e.rel b h x w ∧ Win e b h r xs
section
variable {α : Type} {e : Enc α} {b : Nat → Prop} {h h' : Hp}
theorem Win.keep (hk : ∀ l, b l → h'.get l = h.get l) : ∀ {xs : List α} {cs : List V}, Win e b h cs xs → Win e b h' cs xs
  | [], _, _ => trivial
  | _ :: _, _, ⟨w, r, h1, h2, h3⟩ => ⟨w, r, h1, e.keep hk h2, Win.keep hk h3⟩
theorem Win.mono {b' : Nat → Prop} (hb : ∀ l, b l → b' l) : ∀ {xs : List α} {cs : List V}, Win e b h cs xs → Win e b' h cs xs
  | [], _, _ => trivial
  | _ :: _, _, ⟨w, r, h1, h2, h3⟩ => ⟨w, r, h1, e.mono hb h2, Win.mono hb h3⟩
theorem Win.length : ∀ {xs : List α} {cs : List V}, Win e b h cs xs → xs.length * e.sz ≤ cs.length
  | [], _, _ => by simp
  | _ :: xs, _, ⟨w, r, h1, h2, h3⟩ => by
    have := Win.length h3
    have hl := e.len h2
    subst h1
    simp [ Nat.add_mul]
    omega
theorem Win.get : ∀ {xs : List α} {cs : List V}, Win e b h cs xs → ∀ {i : Nat} {x : α}, xs[i]? = some x → ∃ w, (cs.drop (i * e.sz)).take e.sz = w ∧ i * e.sz + e.sz ≤ cs.length ∧ e.rel b h x w
  | [], _, _, i, x, hx => by simp_all
  | y :: xs, _, ⟨w, r, h1, h2, h3⟩, i, x, hx => by
    have hl := e.len h2
    subst h1
    cases i with
    | zero =>
      simp_all
    | succ i =>
      let ⟨w', g1, g2, g3⟩ := Win.get h3 (i := i) (x := x) (by simp_all)
      refine ⟨w', ?_, ?_, g3⟩
      · rw [← g1, Nat.add_mul, Nat.add_comm, ← hl]; simp
      grind
theorem Win.append {ys : List α} : ∀ {xs : List α} {cs ds : List V}, Win e b h cs xs → cs.length = xs.length * e.sz → Win e b h ds ys → Win e b h (cs ++ ds) (xs ++ ys)
  | [], cs, ds, _, hl, h2 => by
    simp_all
  | x :: xs, _, ds, ⟨w, r, h1, h2, h3⟩, hl, h4 => by
    subst h1
    have hw := e.len h2
    refine ⟨w, r ++ ds, by simp, h2, Win.append h3 ?_ h4⟩
    grind
theorem Win.take : ∀ {xs : List α} {cs : List V}, Win e b h cs xs → Win e b h (cs.take (xs.length * e.sz)) xs
  | [], _, _ => trivial
  | _ :: xs, _, ⟨w, r, h1, h2, h3⟩ => by
    have hw := e.len h2
    subst h1
    refine ⟨w, r.take (xs.length * e.sz), ?_, h2, Win.take h3⟩
    simp_all[List.take_append,List.take_of_length_le,Nat.add_mul]
theorem Win.more {ds : List V} : ∀ {xs : List α} {cs : List V}, Win e b h cs xs → Win e b h (cs ++ ds) xs
  | [], _, _ => trivial
  | _ :: _, _, ⟨w, r, h1, h2, h3⟩ => ⟨w, r ++ ds, by rw [h1, List.append_assoc], h2, Win.more h3⟩
theorem Win.set : ∀ {xs : List α} {cs : List V}, Win e b h cs xs → ∀ {i : Nat} {y : α} {w : List V}, i < xs.length → e.rel b h y w → Win e b h (cs.take (i * e.sz) ++ w ++ cs.drop (i * e.sz + e.sz)) (xs.set i y)
  | [], _, _, i, y, w, hi, _ => by simp_all
  | x :: xs, _, ⟨u, r, h1, h2, h3⟩, i, y, w, hi, hw => by
    have hu := e.len h2
    subst h1
    cases i with
    | zero =>
      refine ⟨w, r, ?_, hw, h3⟩
      simp_all
    | succ i =>
      refine ⟨u, _, ?_, h2, Win.set h3 (by simpa using hi) hw⟩
      have e1 : (i + 1) * e.sz = u.length + i * e.sz := by rw [Nat.add_mul, Nat.one_mul]; omega
      have e2 : (i + 1) * e.sz + e.sz = u.length + (i * e.sz + e.sz) := by omega
      rw [e2, e1, List.take_length_add_append, ← List.drop_drop]
      simp_all
end
/-- A slice that stands for a row. -/
def SlR {α : Type} (e : Enc α) (b : Nat → Prop) (h : Hp) (xs : List α) (v : V) : Prop :=
  (v = .nilSlice ∧ xs = []) ∨ ∃ l off ty live ro cs, v = .slice l off xs.length ∧ b l ∧ h.get l = some (.cells ty e.sz live ro cs) ∧ (xs = [] ∨ live = true) ∧ off ≤ cs.length ∧ Win e b h (cs.drop off) xs
section
variable {α : Type} {e : Enc α} {b : Nat → Prop} {h h' : Hp} {xs : List α} {v : V}
theorem SlR.keep (hk : ∀ l, b l → h'.get l = h.get l) (hs : SlR e b h xs v) : SlR e b h' xs v := by
  rcases hs with hs | ⟨l, off, ty, live, ro, cs, h1, h2, h3, h6, h4, h5⟩
  · exact .inl hs
  · exact .inr ⟨l, off, ty, live, ro, cs, h1, h2, by simp_all, h6, h4, h5.keep hk⟩
theorem SlR.mono {b' : Nat → Prop} (hb : ∀ l, b l → b' l) (hs : SlR e b h xs v) : SlR e b' h xs v := by
  rcases hs with hs | ⟨l, off, ty, live, ro, cs, h1, h2, h3, h6, h4, h5⟩
  · exact .inl hs
  · exact .inr ⟨l, off, ty, live, ro, cs, h1, hb l h2, h3, h6, h4, h5.mono hb⟩
theorem SlR.one (hs : SlR e b h xs v) : v.one = true := by
  rcases hs with ⟨rfl, _⟩ | ⟨l, off, ty, live, ro, cs, rfl, _⟩ <;> rfl
end
def eL {α : Type} (e : Enc α) : Enc (List α) where
  sz := 1
  rel b h xs cs := ∃ v, cs = [v] ∧ SlR e b h xs v
  len := by simp_all
  one := fun ⟨_, h, hs⟩ => by subst h; simp [hs.one]
  keep := fun hk ⟨v, h, hs⟩ => ⟨v, h, hs.keep hk⟩
  mono := fun hb ⟨v, h, hs⟩ => ⟨v, h, hs.mono hb⟩

section
variable {α : Type} {e : Enc α} {b : Nat → Prop} {h h' : Hp} {xs : List α} {v : V}
theorem SlR.ext (he : Grows h h') (hb : ∀ l, b l → l < h.next) (hs : SlR e b h xs v) : SlR e b h' xs v :=
  hs.keep fun l hl => he.keep l (hb l hl) (fun h => h)
theorem SlR.chg {S : Nat → Prop} (he : Chg S h h') (hb : ∀ l, b l → l < h.next) (hS : ∀ l, b l → ¬ S l) (hs : SlR e b h xs v) : SlR e b h' xs v :=
  hs.keep fun l hl => he.keep l (hb l hl) (hS l hl)
theorem SlR.len (hs : SlR e b h xs v) : pLen v = some (.int .i64 xs.length) := by
  rcases hs with ⟨rfl, rfl⟩ | ⟨l, off, ty, live, ro, cs, rfl, _⟩ <;> rfl
theorem SlR.nil : SlR e b h [] .nilSlice := .inl ⟨rfl, rfl⟩
/-- An element: where it lies, and what it is. -/
theorem SlR.ix (hs : SlR e b h xs v) {i : Nat} (hi : i < xs.length) (kd : IntKind) :
    ∃ l o w, b l ∧ pIx e.sz v (.int kd i) = some (.ptr l o) ∧ pLdA e.sz (.ptr l o) h = some (.agg w) ∧ e.rel b h xs[i] w ∧ ∀ k u, w[k]? = some u → pLd (.ptr l (o + k)) h = some u := by
  rcases hs with ⟨_, rfl⟩ | ⟨l, off, ty, live, ro, cs, rfl, h2, h3, h6, h4, h5⟩
  · grind
  · obtain rfl : live = true := by grind
    let ⟨w, g1, g2, g3⟩ := h5.get (i := i) (x := xs[i]) (by simp_all)
    rw [List.length_drop] at g2
    have hd : (cs.drop (off + i * e.sz)).take e.sz = w := by rw [← g1, List.drop_drop]
    refine ⟨l, off + i * e.sz, w, h2, by grind[pIx_slice], ?_, g3, fun k u hu => ?_⟩
    · rw [pLdA_ptr h3, sub_of (by omega), hd]; rfl
    · rw [pLd_ptr h3, at1_get]
      grind
theorem SlR.ix1 (hs : SlR e b h xs v) {i : Nat} (hi : i < xs.length) (kd : IntKind) (he : e.sz = 1) :
    ∃ l o u, b l ∧ pIx 1 v (.int kd i) = some (.ptr l o) ∧ pLd (.ptr l o) h = some u ∧ e.rel b h xs[i] [u] := by
  let ⟨l, o, w, h0, h1, _, h3, h4⟩ := hs.ix hi kd
  rw [he] at h1
  have hl := e.len h3
  rw [he] at hl
  obtain ⟨u, rfl⟩ : ∃ u, w = [u] := by
    match w, hl with
    | [u], _ => simp_all
  exact ⟨l, o, u, h0, h1, h4 0 u rfl, h3⟩
/-- A new row. -/
theorem SlR.new' {b' : Nat → Prop} {ty : Nat} {ro : Bool} {cs : List V} (hw : Win e b h cs xs) (hb : ∀ l, b l → l < h.next) (hb' : ∀ l, b l → b' l) (hn : b' h.next) : SlR e b' (h.new (.cells ty e.sz true ro cs)) xs (.slice h.next 0 xs.length) :=
  .inr ⟨h.next, 0, ty, true, ro, cs, rfl, hn, get_new_self _ _, .inr rfl, Nat.zero_le _, (hw.keep (by grind[get_new_lt])).mono hb'⟩
theorem SlR.new {ty : Nat} {ro : Bool} {cs : List V} {n : Nat} (hw : Win e (lo n) h cs xs) (hb : n ≤ h.next) : SlR e (lo (h.next + 1)) (h.new (.cells ty e.sz true ro cs)) xs (.slice h.next 0 xs.length) :=
  .new' hw (fun _ hl => Nat.lt_of_lt_of_le hl hb) (fun _ hl => Nat.lt_succ_of_lt (Nat.lt_of_lt_of_le hl hb)) (Nat.lt_succ_self _)
end
end Go.Proofs.YtlbdcjnhlkkfeaaGreatDoor.Hx
