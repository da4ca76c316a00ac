/- A long loop, run in stages: what is left of a call at the head of its loop, shown by runs of so many rounds. -/
import Derived.Test.YtmpdoelanliaeaaGreatDoorHx9
namespace Go.Proofs.YtmpdoelanliaeaaGreatDoor.Hx

/-! ### tables of values, alike -/
def eqOV : Option V → Option V → Bool
  | none, none => true
  | some a, some b => V.beq a b
  | _, _ => false
theorem eqOV_eq : ∀ {a b : Option V}, eqOV a b = true → a = b
  | none, none, _ => rfl
  | some a, some b, h => by rw [V.eq_of_beq a b h]
  | none, some _, h => by cases h
  | some _, none, h => by cases h
def eqTo : To V → To V → Bool
  | .leaf, .leaf => true
  | .node l v r, .node l' v' r' => eqTo l l' && (eqOV v v' && eqTo r r')
  | _, _ => false
theorem eqTo_eq : ∀ {a b : To V}, eqTo a b = true → a = b
  | .leaf, .leaf, _ => rfl
  | .node l v r, .node l' v' r', h => by
    simp only [eqTo, Bool.and_eq_true] at h
    rw [eqTo_eq h.1, eqOV_eq h.2.1, eqTo_eq h.2.2]
  | .leaf, .node .., h => by cases h
  | .node .., .leaf, h => by cases h
def eqQ : (n : Nat) → QT V n → QT V n → Bool
  | 0, x, y => eqTo x y
  | n + 1, x, y => eqQ n (Q4.a (α := QT V n) x) (Q4.a (α := QT V n) y) && (eqQ n (Q4.b (α := QT V n) x) (Q4.b (α := QT V n) y) && (eqQ n (Q4.c (α := QT V n) x) (Q4.c (α := QT V n) y) && eqQ n (Q4.d (α := QT V n) x) (Q4.d (α := QT V n) y)))
theorem eqQ_eq : ∀ (n : Nat) {x y : QT V n}, eqQ n x y = true → x = y
  | 0, _, _, h => eqTo_eq h
  | n + 1, x, y, h => by
    obtain ⟨a, b, c, d⟩ := (x : Q4 (QT V n))
    obtain ⟨a', b', c', d'⟩ := (y : Q4 (QT V n))
    simp only [eqQ, Bool.and_eq_true] at h
    obtain ⟨h1, h2, h3, h4⟩ := h
    have e1 : a = a' := eqQ_eq n h1
    have e2 : b = b' := eqQ_eq n h2
    have e3 : c = c' := eqQ_eq n h3
    have e4 : d = d' := eqQ_eq n h4
    rw [e1, e2, e3, e4]

/-! ### a loop's head -/
structure LSt where
  t : List (Nat × V)
  n : Nat
  h : List (Nat × O)
noncomputable def LSt.tr (s : LSt) : Tr V := s.t.foldr (fun x t => Tr.set t x.1 x.2) Tr.leaf
noncomputable def LSt.tm (s : LSt) : Tm := .tree s.tr []
noncomputable def LSt.hp (s : LSt) : Hp := hpOf s.n s.h
noncomputable def LSt.met (s : LSt) (t : Tm) (h : Hp) : Bool := match t with
  | .tree x [] => eqQ 4 x s.tr && (Nat.beq s.n h.next && lies h s.h)
  | _ => false
theorem LSt.met_eq {s : LSt} {t : Tm} {h : Hp} (hm : s.met t h = true) : t = s.tm ∧ s.hp.Le h := by
  unfold LSt.met at hm
  split at hm
  · rename_i x
    simp only [Bool.and_eq_true] at hm
    obtain ⟨h1, h2, h3⟩ := hm
    exact ⟨by unfold LSt.tm; rw [eqQ_eq 4 h1], lies_le (Nat.eq_of_beq_eq_true h2) h3⟩
  · cases hm
/-- Code that has one loop in its midst: what is ahead of it, the loop, what follows. -/
def cutL : Code → Option (Code × Nat × Code × Code)
  | .seq (.block id (.loop c)) post => some (.skip, id, c, post)
  | .seq a b => match cutL b with
    | some r => some (.seq a r.1, r.2)
    | none => none
  | _ => none
theorem seqK_assoc (x : Option (X × Tm × Hp)) (f g : Tm → Hp → Option (X × Tm × Hp)) : seqK (seqK x f) g = seqK x fun t h => seqK (f t h) g := by
  cases x with
  | none => rfl
  | some r =>
    obtain ⟨e, t, h⟩ := r
    cases e <;> rfl
theorem cutL_eq {n : Nat} {call : Call} {m : Nat} : ∀ {c0 pre c post : Code} {id : Nat}, cutL c0 = some (pre, id, c, post) → ∀ t h, (codeC n c0).f call m t h = seqK ((codeC n pre).f call m t h) fun t h =>
    seqK (blockK id (loopN (fun t h => (codeC n c).f call m t h) m t h)) fun t h => (codeC n post).f call m t h := by
  intro c0
  induction c0 with
  | seq a b _ ih =>
    intro pre c post id hc t h
    unfold cutL at hc
    split at hc
    · rename_i id' c' post' he
      cases hc
      cases he
      rfl
    · rename_i a' b' _ he
      cases he
      split at hc
      · rename_i r hr
        obtain ⟨p, i, l, q⟩ := r
        cases hc
        have := ih hr
        show seqK ((codeC n a).f call m t h) (fun t h => (codeC n b).f call m t h) = seqK (seqK ((codeC n a).f call m t h) fun t h => (codeC n p).f call m t h) _
        rw [seqK_assoc]
        congr 1
        funext t h
        exact this t h
      · cases hc
    · rename_i he
      exact absurd rfl (he a b)
  | _ => intro pre c post id hc; cases hc

section
variable {C : Cfg} {fn : Func} {c post : Code} {id : Nat}
/-- What is left of a call at the loop's head. -/
noncomputable def restC (fn : Func) (id : Nat) (c post : Code) (call : Call) (M k : Nat) (t : Tm) (h : Hp) : Option (V × Hp) :=
  oB (seqK (blockK id (loopN (fun t h => (codeC fn.ntmps c).f call M t h) k t h)) fun t h => (codeC fn.ntmps post).f call M t h) (dendC fn)
def RestOk (C : Cfg) (fn : Func) (id : Nat) (c post : Code) (s : LSt) (v : V) (n1 : Nat) (h1 : List (Nat × O)) : Prop :=
  ∃ m0 d0, ∀ M k d, m0 ≤ M → m0 ≤ k → d0 ≤ d → ∀ H, s.hp.Le H → ∃ H', restC fn id c post (callN C M d) M k s.tm H = some (v, H') ∧ (hpOf n1 h1).Le H'
theorem loop_h {b b' : Tm → Hp → Option (X × Tm × Hp)} (hb : ∀ t h r, b t h = some r → ∀ H, h.Le H → ∃ H', b' t H = some (r.1, r.2.1, H') ∧ r.2.2.Le H') : ∀ (k : Nat) {k' : Nat}, k ≤ k' → ∀ {t : Tm} {h : Hp} {r : X × Tm × Hp}, loopN b k t h = some r → ∀ H, h.Le H → ∃ H', loopN b' k' t H = some (r.1, r.2.1, H') ∧ r.2.2.Le H'
  | 0, _, _, _, _, _, hv, _, _ => by cases hv
  | k + 1, 0, hk, _, _, _, _, _, _ => by omega
  | k + 1, k' + 1, hk, t, h, r, hv, H, le => by
    have hv' : seqK (b t h) (loopN b k) = some r := hv
    show ∃ H', seqK (b' t H) (loopN b' k') = some (r.1, r.2.1, H') ∧ r.2.2.Le H'
    rcases seqK_eq hv' with ⟨t1, h1, e1, e2⟩ | ⟨e1, e2⟩
    · obtain ⟨H1, g1, g2⟩ := hb _ _ _ e1 H le
      rw [g1]
      exact loop_h hb k (by omega) e2 H1 g2
    · obtain ⟨H1, g1, g2⟩ := hb _ _ _ e1 H le
      rw [g1]
      obtain ⟨x', t', h'⟩ := r
      cases x' with
      | normal => exact absurd rfl e2
      | exit id => exact ⟨H1, rfl, g2⟩
      | ret => exact ⟨H1, rfl, g2⟩
theorem block_h {x y : Option (X × Tm × Hp)} (hx : ∀ r, x = some r → ∃ H', y = some (r.1, r.2.1, H') ∧ r.2.2.Le H') {r : X × Tm × Hp} (hv : blockK id x = some r) : ∃ H', blockK id y = some (r.1, r.2.1, H') ∧ r.2.2.Le H' := by
  cases hr : x with
  | none => rw [hr] at hv; cases hv
  | some r' =>
    rw [hr] at hv
    obtain ⟨H', g1, g2⟩ := hx r' hr
    rw [g1]
    obtain ⟨e, t', h'⟩ := r'
    cases e with
    | normal => cases hv; exact ⟨H', rfl, g2⟩
    | ret => cases hv; exact ⟨H', rfl, g2⟩
    | exit id' =>
      unfold blockK at hv ⊢
      simp only at hv ⊢
      cases hb : Nat.beq id' id with
      | true => rw [hb] at hv; cases hv; exact ⟨H', rfl, g2⟩
      | false => rw [hb] at hv; cases hv; exact ⟨H', rfl, g2⟩
theorem rest_h {call call' : Call} (hc : call.LeH call') {M M' k k' : Nat} (hM : M ≤ M') (hk : k ≤ k') {t : Tm} {h : Hp} {r : V × Hp} (hv : restC fn id c post call M k t h = some r) {H : Hp} (le : h.Le H) : ∃ H', restC fn id c post call' M' k' t H = some (r.1, H') ∧ r.2.Le H' := by
  unfold restC at hv ⊢
  rw [oB_eq] at hv
  obtain ⟨⟨x, t1, h1⟩, e1, e2⟩ := hv
  have key : ∃ H1, seqK (blockK id (loopN (fun t h => (codeC fn.ntmps c).f call' M' t h) k' t H)) (fun t h => (codeC fn.ntmps post).f call' M' t h) = some (x, t1, H1) ∧ h1.Le H1 := by
    have hl : ∀ r, loopN (fun t h => (codeC fn.ntmps c).f call M t h) k t h = some r → ∃ H', loopN (fun t h => (codeC fn.ntmps c).f call' M' t h) k' t H = some (r.1, r.2.1, H') ∧ r.2.2.Le H' := fun r hr =>
      loop_h (b := fun t h => (codeC fn.ntmps c).f call M t h) (b' := fun t h => (codeC fn.ntmps c).f call' M' t h) (fun t h r hr H le => codeC_h hc hM c le hr) k hk hr H le
    rcases seqK_eq e1 with ⟨t2, h2, g1, g2⟩ | ⟨g1, g2⟩
    · obtain ⟨H2, q1, q2⟩ := block_h hl g1
      rw [q1]
      exact codeC_h hc hM post q2 g2
    · obtain ⟨H2, q1, q2⟩ := block_h hl g1
      rw [q1]
      cases x with
      | normal => exact absurd rfl g2
      | exit id => exact ⟨H2, rfl, q2⟩
      | ret => exact ⟨H2, rfl, q2⟩
  obtain ⟨H1, q1, q2⟩ := key
  obtain ⟨H2, q3, q4⟩ := dendC_h q2 e2
  exact ⟨H2, by rw [q1]; exact q3, q4⟩
theorem LeH_mono {C : Cfg} {a : Call} {m m' d d' : Nat} (h : a.LeH (callN C m d)) (hm : m ≤ m') (hd : d ≤ d') : a.LeH (callN C m' d') := fun f x hp r hv H le =>
  let ⟨H', g1, g2⟩ := h f x hp r hv H le
  ⟨H', callN_mono hm hd _ _ _ _ g1, g2⟩
/-- The end, by a run. -/
theorem rest_last (hK : ∀ f a h H, C.K f a h = C.K f a H) {pl : Nat → Nat → Option Plan} (hok : PlansOk pl) {l : List Stage} (hl : ∀ s ∈ l, s.Ok C) {f m d : Nat} {c0 : Code} (_hf : P0.funcs[f]? = some fn) (_hb : fn.body = some c0) {s : LSt} {v : V} {n1 : Nat} {h1 : List (Nat × O)}
    (hr : regsOk (pl f) (.seq (.block id (.loop c)) post) = true)
    (hv : (match oB ((codeP (pl f) fn.ntmps (.seq (.block id (.loop c)) post)).f (callS C pl l m d) m s.tm s.hp) (dendC fn) with
      | some (v', h') => V.beq v' v && (Nat.beq n1 h'.next && lies h' h1)
      | none => false) = true) : RestOk C fn id c post s v n1 h1 := by
  obtain ⟨m0, d0, hS⟩ := callS_h hK hok hl m
  split at hv
  · rename_i v' h' he
    simp only [Bool.and_eq_true] at hv
    obtain ⟨e1, e2, e3⟩ := hv
    obtain rfl := V.eq_of_beq _ _ e1
    rw [oB_eq] at he
    obtain ⟨r, g1, g2⟩ := he
    have g3 := codeP_le _ hr g1
    have g4 : restC fn id c post (callS C pl l m d) m m s.tm s.hp = some (v', h') := by
      unfold restC
      rw [oB_eq]
      exact ⟨r, g3, g2⟩
    refine ⟨max m m0, d0 + d, fun M k D hM hk hD H le => ?_⟩
    obtain ⟨H', q1, q2⟩ := rest_h (LeH_mono (hS d) hM hD) (show m ≤ M by omega) (show m ≤ k by omega) g4 le
    exact ⟨H', q1, (lies_le (Nat.eq_of_beq_eq_true e2) e3).trans q2⟩
  · cases hv
noncomputable def iterN (b : Tm → Hp → Option (X × Tm × Hp)) (j : Nat) : Tm → Hp → Option (Tm × Hp) :=
  Nat.rec (motive := fun _ => Tm → Hp → Option (Tm × Hp)) (fun t h => some (t, h)) (fun _ ih t h => match b t h with
    | some (.normal, t, h) => ih t h
    | _ => none) j
theorem iter_loop {b b' : Tm → Hp → Option (X × Tm × Hp)} (hb : ∀ t h r, b t h = some r → ∀ H, h.Le H → ∃ H', b' t H = some (r.1, r.2.1, H') ∧ r.2.2.Le H') (k : Nat) : ∀ (j : Nat) {t t' : Tm} {h h' : Hp}, iterN b j t h = some (t', h') → ∀ H, h.Le H → ∃ H', loopN b' (k + j) t H = loopN b' k t' H' ∧ h'.Le H'
  | 0, t, t', h, h', hv, H, le => by
    have hv : some (t, h) = some (t', h') := hv
    cases hv
    exact ⟨H, rfl, le⟩
  | j + 1, t, t', h, h', hv, H, le => by
    have hv' : (match b t h with
      | some (.normal, t, h) => iterN b j t h
      | _ => none) = some (t', h') := hv
    split at hv'
    · rename_i t1 h1 e1
      obtain ⟨H1, g1, g2⟩ := hb _ _ _ e1 H le
      obtain ⟨H2, q1, q2⟩ := iter_loop hb k j hv' H1 g2
      refine ⟨H2, ?_, q2⟩
      rw [← q1]
      show seqK (b' t H) (loopN b' (k + j)) = _
      rw [g1]
      rfl
    · cases hv'
/-- So many rounds, by a run. -/
theorem rest_iter (hK : ∀ f a h H, C.K f a h = C.K f a H) {pl : Nat → Nat → Option Plan} (hok : PlansOk pl) {l : List Stage} (hl : ∀ s ∈ l, s.Ok C) {f m d j : Nat} {s s' : LSt} {v : V} {n1 : Nat} {h1 : List (Nat × O)}
    (hr : regsOk (pl f) c = true)
    (hv : (match iterN (fun t h => (codeP (pl f) fn.ntmps c).f (callS C pl l m d) m t h) j s.tm s.hp with
      | some (t', h') => s'.met t' h'
      | none => false) = true) (hs : RestOk C fn id c post s' v n1 h1) : RestOk C fn id c post s v n1 h1 := by
  obtain ⟨m0, d0, hS⟩ := callS_h hK hok hl m
  obtain ⟨m1, d1, hR⟩ := hs
  split at hv
  · rename_i t' h' he
    obtain ⟨e1, e2⟩ := LSt.met_eq hv
    subst e1
    refine ⟨max (max m m0) m1 + j, max (d0 + d) d1, fun M k D hM hk hD H le => ?_⟩
    obtain ⟨H', q1, q2⟩ := iter_loop (b' := fun t h => (codeC fn.ntmps c).f (callN C M D) M t h) (fun t h r hr' H le => codeC_h (LeH_mono (hS d) (show max m m0 ≤ M by omega) (show d0 + d ≤ D by omega)) (show m ≤ M by omega) c le (codeP_le _ hr hr')) (k - j) j he H le
    obtain ⟨H2, q3, q4⟩ := hR M (k - j) D (by omega) (by omega) (by omega) H' (e2.trans q2)
    refine ⟨H2, ?_, q4⟩
    unfold restC at q3 ⊢
    rw [show k = k - j + j by omega, q1]
    exact q3
  · cases hv
/-- The call, by a run up to the loop's head. -/
theorem rest_first (hK : ∀ f a h H, C.K f a h = C.K f a H) {pl : Nat → Nat → Option Plan} (hok : PlansOk pl) {l : List Stage} (hl : ∀ s ∈ l, s.Ok C) {m d : Nat} {c0 pre : Code} {g : Stage} {s : LSt} (hf : P0.funcs[g.f]? = some fn) (hb : fn.body = some c0) (hc : cutL c0 = some (pre, id, c, post))
    (hk : C.K g.f g.args (hpOf g.n0 g.h0) = none) (hle : Nat.ble g.args.length fn.ntmps = true) (hr : regsOk (pl g.f) pre = true)
    (hv : (match (codeP (pl g.f) fn.ntmps pre).f (callS C pl l m d) m (C.start g.args) (hpOf g.n0 g.h0) with
      | some (.normal, t', h') => s.met t' h'
      | _ => false) = true) (hs : RestOk C fn id c post s g.v g.n1 g.h1) : g.Ok C := by
  obtain ⟨m0, d0, hS⟩ := callS_h hK hok hl m
  obtain ⟨m1, d1, hR⟩ := hs
  split at hv
  · rename_i t' h' he
    obtain ⟨e1, e2⟩ := LSt.met_eq hv
    subst e1
    have hm : ∀ a b c : Nat, a ≤ max (max a b) c ∧ b ≤ max (max a b) c ∧ c ≤ max (max a b) c ∧ max a b ≤ max (max a b) c := fun a b c => by omega
    obtain ⟨i1, i2, i3, i4⟩ := hm m m0 m1
    obtain ⟨H1, q1, q2⟩ := codeC_h (LeH_mono (hS d) i4 (show d0 + d ≤ max (d0 + d) d1 by omega)) i1 pre (Hp.Le.refl _) (codeP_le _ hr he)
    obtain ⟨H2, q3, q4⟩ := hR _ _ (max (d0 + d) d1) i3 i3 (by omega) H1 (e2.trans q2)
    refine ⟨max (max m m0) m1, max (d0 + d) d1 + 1, H2, ?_, q4⟩
    show (funcC C g.f).f (callN C (max (max m m0) m1) (max (d0 + d) d1)) (max (max m m0) m1) g.args _ = _
    unfold funcC
    simp only [hf, hb, hk, orB, hle]
    rw [bB_eq]
    refine ⟨rfl, ?_⟩
    rw [oB_eq]
    unfold restC at q3
    rw [oB_eq] at q3
    obtain ⟨r, z1, z2⟩ := q3
    refine ⟨r, ?_, ?_⟩
    · rw [cutL_eq hc, q1]
      exact z1
    · obtain ⟨x, t, h⟩ := r
      unfold dendC at z2
      cases x with
      | exit id => cases z2
      | _ =>
        simp only at z2 ⊢
        cases hd : t.ds with
        | nil =>
          rw [hd] at z2
          exact z2
        | cons _ _ => rw [hd] at z2; cases z2
  · cases hv
end
end Go.Proofs.YtmpdoelanliaeaaGreatDoor.Hx
