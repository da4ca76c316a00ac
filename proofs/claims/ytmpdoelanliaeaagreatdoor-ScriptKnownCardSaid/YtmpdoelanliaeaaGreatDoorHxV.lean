/- The plain machine with more fuel: what it answers once it answers always. -/
import Derived.Test.YtmpdoelanliaeaaGreatDoorHxT
namespace Go.Proofs.YtmpdoelanliaeaaGreatDoor.Hx

/-- More is known of a call. -/
def Call.Le (c c' : Call) : Prop := ∀ f a h r, c f a h = some r → c' f a h = some r
theorem Call.Le.refl (c : Call) : c.Le c := fun _ _ _ _ h => h

section
variable {n : Nat} {c c' : Call} (hc : c.Le c')
include hc
theorem opC_mono {o : Oper} {t : Tm} {h : Hp} {r : V × Hp} (hv : (opC o).f c t h = some r) : (opC o).f c' t h = some r := by
  unfold opC at hv ⊢
  split
  · simp_all
  · simp_all
  · rename_i h0 h1
    split at hv
    · simp_all
    · simp_all
    · simp only [oB_eq] at hv ⊢
      obtain ⟨x, h2, h3⟩ := hv
      refine ⟨x, h2, ?_⟩
      cases x with
      | val v h' => exact h3
      | call f args => exact hc _ _ _ _ h3
theorem stepC_mono {all : List Oper} {o : Oper} {rest : SF} (hr : ∀ t h r, rest.f c t h = some r → rest.f c' t h = some r) {t : Tm} {h : Hp} {r : Tm × Hp} (hv : (stepC n all o rest).f c t h = some r) : (stepC n all o rest).f c' t h = some r := by
  unfold stepC at hv ⊢
  cases hd : dstC n o with
  | none => rw [hd] at hv; cases hv
  | some d =>
    rw [hd] at hv
    simp only at hv ⊢
    cases hw : wantC n all o with
    | none =>
      grind[deferC,oB_eq,opC_mono]
    | some g =>
      rw [hw] at hv
      simp only [oB_eq] at hv ⊢
      obtain ⟨b, h1, h2⟩ := hv
      refine ⟨b, h1, ?_⟩
      cases b <;> grind[oB_eq,opC_mono]
theorem regionC_mono {all : List Oper} : ∀ (os : List Oper) {t : Tm} {h : Hp} {r : Tm × Hp}, (regionC n all os).f c t h = some r → (regionC n all os).f c' t h = some r
  | [], _, _, _, hv => hv
  | _o :: os, _, _, _, hv => stepC_mono hc (fun _ _ _ h => regionC_mono os h) hv
omit hc in
theorem pureS_mono {all : List Oper} {ws : List It} {a : It} {d : DF} {rest : LF} (hr : ∀ t h rs r, rest.f c t h rs = some r → rest.f c' t h rs = some r) {t : Tm} {h : Hp} {rs : List Rec} {r : Tm × Hp} (hv : (pureS n all ws a d rest).f c t h rs = some r) :
    (pureS n all ws a d rest).f c' t h rs = some r := by
  unfold pureS at hv ⊢
  simp only [oB_eq] at hv ⊢
  obtain ⟨b, h1, h2⟩ := hv
  refine ⟨b, h1, ?_⟩
  cases b <;> grind[oB_eq]
omit hc in
theorem allocS_mono {all : List Oper} {ws : List It} {a : It} {d : DF} {rest : LF} (hr : ∀ t h rs r, rest.f c t h rs = some r → rest.f c' t h rs = some r) {t : Tm} {h : Hp} {rs : List Rec} {r : Tm × Hp} (hv : (allocS n all ws a d rest).f c t h rs = some r) :
    (allocS n all ws a d rest).f c' t h rs = some r := by
  unfold allocS at hv ⊢
  simp only [oB_eq] at hv ⊢
  obtain ⟨b, h1, h2⟩ := hv
  refine ⟨b, h1, ?_⟩
  cases b <;> grind[oB_eq]
theorem writeS_mono {all : List Oper} {k : Nat} {a : It} {d : DF} {rest : LF} (hr : ∀ t h rs r, rest.f c t h rs = some r → rest.f c' t h rs = some r) {t : Tm} {h : Hp} {rs : List Rec} {r : Tm × Hp} (hv : (writeS n all k a d rest).f c t h rs = some r) :
    (writeS n all k a d rest).f c' t h rs = some r := by
  unfold writeS at hv ⊢
  simp only [bB_eq, oB_eq] at hv ⊢
  obtain ⟨h0, b, h1, h2⟩ := hv
  refine ⟨h0, b, h1, ?_⟩
  cases b <;> grind[oB_eq,bB_eq,opC_mono]
theorem seqC_mono {all : List Oper} {ws : List It} : ∀ (l : List It) (k : Nat) {t : Tm} {h : Hp} {rs : List Rec} {r : Tm × Hp}, (seqC n all ws l k).f c t h rs = some r → (seqC n all ws l k).f c' t h rs = some r
  | [], _, _, _, _, _, hv => hv
  | a :: l, k, t, h, rs, r, hv => by
    unfold seqC at hv ⊢
    cases hd : dstC n a.o with
    | none => simp_all
    | some d =>
      rw [hd] at hv
      simp only at hv ⊢
      split
      · rename_i hk; rw [hk] at hv; exact pureS_mono (fun _ _ _ _ h => seqC_mono l _ h) hv
      · rename_i hk; rw [hk] at hv; exact allocS_mono (fun _ _ _ _ h => seqC_mono l _ h) hv
      · rename_i h0 h1
        split at hv
        · simp_all
        · simp_all
        · exact writeS_mono hc (fun _ _ _ _ h => seqC_mono l _ h) hv
theorem drawC_mono {all : List Oper} {t : Tm} {h : Hp} {r : Tm × Hp} (hv : (drawC n all).f c t h = some r) : (drawC n all).f c' t h = some r := by
  unfold drawC at hv ⊢
  cases hb : drawOk (items all 0 []) (wsOf (items all 0 [])) && orderOk (items all 0 []) (wsOf (items all 0 [])) (order (items all 0 []) (wsOf (items all 0 [])) (wsOf (items all 0 [])) 0) 0 0 with
  | true => grind[seqC_mono]
  | false =>
    rw [hb] at hv
    simp only at hv ⊢
    cases hf : freePair (items all 0 []) (wsOf (items all 0 [])) with
    | none => rw [hf] at hv; cases hv
    | some p =>
      rw [hf] at hv
      cases hb2 : drawOk2 (items all 0 []) && orderOk (items all 0 []) (wsOf (items all 0 [])) (order (items all 0 []) (wsOf (items all 0 [])) (wsOf (items all 0 [])) 0) 0 0 with
      | false => rw [hb2] at hv; cases hv
      | true =>
        grind[oB_eq,bB_eq,seqC_mono]
theorem codeC_mono {m m' : Nat} (hm : m ≤ m') : ∀ (k : Code) {t : Tm} {h : Hp} {r : X × Tm × Hp}, (codeC n k).f c m t h = some r → (codeC n k).f c' m' t h = some r
  | .skip, _, _, _, hv => hv
  | .seq x y, t, h, r, hv => by
    simp only [codeC] at hv ⊢
    rcases seqK_eq hv with ⟨t1, h1, e1, e2⟩ | ⟨e1, e2⟩
    · rw [codeC_mono hm x e1]; exact codeC_mono hm y e2
    · rw [codeC_mono hm x e1]
      obtain ⟨x', t', h'⟩ := r
      cases x' with
      | normal => simp_all
      | exit id => rfl
      | ret => rfl
  | .cond e x y, t, h, r, hv => by
    simp only [codeC, oB_eq] at hv ⊢
    obtain ⟨v, h1, h2⟩ := hv
    refine ⟨v, h1, ?_⟩
    split
    · rename_i b
      cases b with
      | true => exact codeC_mono hm x h2
      | false => exact codeC_mono hm y h2
    simp_all
  | .block id x, t, h, r, hv => by
    simp only [codeC] at hv ⊢
    cases hr : (codeC n x).f c m t h with
    | none => rw [hr] at hv; cases hv
    | some r' => rw [hr] at hv; rw [codeC_mono hm x hr]; exact hv
  | .loop x, t, h, r, hv => by
    simp only [codeC] at hv ⊢
    have key : ∀ (k k' : Nat) (t : Tm) (h : Hp), k ≤ k' → loopN (fun t h => (codeC n x).f c m t h) k t h = some r → loopN (fun t h => (codeC n x).f c' m' t h) k' t h = some r := by
      intro k
      induction k with
      | zero => intro k' t h _ hv; cases hv
      | succ k ih =>
        intro k' t h hk hv
        obtain ⟨k', rfl⟩ : ∃ j, k' = j + 1 := ⟨k' - 1, by omega⟩
        have hv' : seqK ((codeC n x).f c m t h) (loopN (fun t h => (codeC n x).f c m t h) k) = some r := hv
        show seqK ((codeC n x).f c' m' t h) (loopN (fun t h => (codeC n x).f c' m' t h) k') = some r
        rcases seqK_eq hv' with ⟨t1, h1, e1, e2⟩ | ⟨e1, e2⟩
        · rw [codeC_mono hm x e1]; exact ih k' t1 h1 (by omega) e2
        · rw [codeC_mono hm x e1]
          obtain ⟨x', t', h'⟩ := r
          cases x' with
          | normal => simp_all
          | exit id => rfl
          | ret => rfl
    grind
  | .exit id, _, _, _, hv => hv
  | .ret, _, _, _, hv => hv
  | .region id ops false, t, h, r, hv => by
    grind[codeC,oB_eq,regionC_mono]
  | .region id ops true, t, h, r, hv => by
    grind[codeC,oB_eq,drawC_mono]
  | .rangeFunc .., _, _, _, hv => by cases hv
  | .scope _, _, _, _, hv => by cases hv
  | .label _, _, _, _, hv => by cases hv
  | .goto _, _, _, _, hv => by cases hv
  | .refuse _, _, _, _, hv => by cases hv
theorem dfuncC_mono {C : Cfg} {m m' : Nat} (hm : m ≤ m') {f : Nat} {args : List V} {h : Hp} {r : V × Hp} (hv : (dfuncC C f).f c m args h = some r) : (dfuncC C f).f c' m' args h = some r := by
  unfold dfuncC at hv ⊢
  cases hf : P0.funcs[f]? <;> grind[recOf,bB_eq,oB_eq,codeC_mono]
theorem runD_mono {C : Cfg} {m m' : Nat} (hm : m ≤ m') : ∀ (l : List (Nat × List V)) {h h' : Hp}, runD C c m l h = some h' → runD C c' m' l h = some h'
  | [], _, _, hv => hv
  | x :: l, _, _, hv => by
    simp only [runD, oB_eq] at hv ⊢
    obtain ⟨r, h1, h2⟩ := hv
    exact ⟨r, dfuncC_mono hc hm h1, runD_mono hm l h2⟩
theorem funcC_mono {C : Cfg} {m m' : Nat} (hm : m ≤ m') {f : Nat} {args : List V} {h : Hp} {r : V × Hp} (hv : (funcC C f).f c m args h = some r) : (funcC C f).f c' m' args h = some r := by
  unfold funcC at hv ⊢
  cases hf : P0.funcs[f]? with
  | none => simp_all
  | some fn =>
    rw [hf] at hv
    simp only at hv ⊢
    cases hb : fn.body with
    | none => simp_all
    | some k =>
      rw [hb] at hv
      simp only at hv ⊢
      cases hk : C.K f args h with
      | some u => rw [hk] at hv; exact hv
      | none =>
        rw [hk] at hv
        grind[orB,bB_eq,oB_eq,codeC_mono,id,runD_mono]
end
theorem callN_mono {C : Cfg} {m m' : Nat} (hm : m ≤ m') : ∀ {d d' : Nat}, d ≤ d' → (callN C m d).Le (callN C m' d')
  | 0, _, _ => fun _ _ _ _ h => (nomatch h)
  | d + 1, 0, h => by omega
  | d + 1, d' + 1, h => fun f a hp r hv => by
    have hv' : (funcC C f).f (callN C m d) m a hp = some r := hv
    show (funcC C f).f (callN C m' d') m' a hp = some r
    exact funcC_mono (callN_mono hm (by omega)) hm hv'
end Go.Proofs.YtmpdoelanliaeaaGreatDoor.Hx
