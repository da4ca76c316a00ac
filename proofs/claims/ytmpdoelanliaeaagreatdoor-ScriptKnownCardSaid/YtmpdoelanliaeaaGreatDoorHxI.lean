/- How what is written changes heap and world together: stores, rows that are left behind, things that are set. -/
import Derived.Test.YtmpdoelanliaeaaGreatDoorHxH
namespace Go.Proofs.YtmpdoelanliaeaaGreatDoor.Hx

/-- No place that the heap had stands later where none stood. -/
structure Gr (h : Hp) (Δ : Env) (h' : Hp) (Δ' : Env) : Prop where
  next : h.next ≤ h'.next
  none : ∀ l, Δ l = .none → l < h.next → Δ' l = .none
theorem Gr.refl (h : Hp) (Δ : Env) : Gr h Δ h Δ := ⟨Nat.le_refl _, by simp_all⟩
theorem Gr.trans {h h' h'' : Hp} {Δ Δ' Δ'' : Env} (a : Gr h Δ h' Δ') (b : Gr h' Δ' h'' Δ'') : Gr h Δ h'' Δ'' :=
  ⟨Nat.le_trans a.next b.next, fun l hl hn => b.none l (a.none l hl hn) (Nat.lt_of_lt_of_le hn a.next)⟩
theorem Gr.same {h h' : Hp} {Δ : Env} (hn : h.next ≤ h'.next) : Gr h Δ h' Δ := ⟨hn, by simp_all⟩
theorem Gr.set {h h' : Hp} {Δ : Env} {d : D} (hn : h.next ≤ h'.next) : Gr h Δ h' (Δ.set h.next d) :=
  ⟨hn, by simp_all[Env.set,Nat.ne_of_lt]⟩

theorem WR.alloc {Δ : Env} {h : Hp} {w : World} (hW : WR Δ h w) {ob : O} {mk : Nat → V} {mo : Obj} {mv : Nat → Value} (hm : Made Δ ob mk mo mv) :
    ∃ Δ', WR Δ' (h.new ob) (w.alloc mo) ∧ VRel Δ' (mk h.next) (mv w.heap.size) ∧ FR Δ Δ' w (w.alloc mo) ∧ Gr h Δ (h.new ob) Δ' := by
  obtain ⟨d, hb, ho, hv⟩ := hm h.next w.heap.size hW.none_next
  exact ⟨Δ.set h.next d, (hW.more ob).lay hW.none_next (Nat.lt_succ_self _) (by rw [get_new, if_pos rfl]) hb ho, hv, FR.lay hW.none_next hb, Gr.set (Nat.le_succ _)⟩

theorem run_storeCells_fr (g o e : Nat) (fr : Nat × Nat) : ∀ (vs : List Value) (i : Nat) (cur : Array Value) (w : World), w.heap[g]? = some (.cells cur e fr) → (∀ j, j < cur.size → ¬ (fr.1 ≤ j ∧ j < fr.2)) →
    o + i + vs.length ≤ cur.size → (∀ v ∈ vs, v.oneCell' = true) →
    (storeCells ⟨g, o, none⟩ vs i).run P0 w = .ok () (w.setRow g (cur.toList.take (o + i) ++ vs ++ cur.toList.drop (o + i + vs.length)).toArray)
  | [], i, cur, w, hg, _, _, _ => by
    simp only [storeCells, List.append_nil, List.length_nil, Nat.add_zero, List.take_append_drop, Array.toArray_toList]
    rw [setRow_self w g cur e fr hg]
    rfl
  | v :: rest, i, cur, w, hg, hf, hl, h1 => by
    have hi : o + i < cur.size := by simp at hl; omega
    have hcell : w.cell? ⟨g, o + i, none⟩ = some cur[o + i] := by simp [World.cell?, hg, hi]
    have hfro : w.frozen? ⟨g, o + i, none⟩ = false := by
      have := hf (o + i) hi
      simp only [World.frozen?, hg]
      simpa using this
    have hst : (store ((⟨g, o, none⟩ : Addr).add i) v).run P0 w = .ok () (w.setRow g (cur.setIfInBounds (o + i) v)) := by
      rw [addr_add, run_store P0 w _ v _ (by simp_all), hcell]
      simp [hfro, setCell_eq_setRow w g (o + i) cur e fr v hg]
    have ih := run_storeCells_fr g o e fr rest (i + 1) (cur.setIfInBounds (o + i) v) (w.setRow g (cur.setIfInBounds (o + i) v)) (by grind[setRow_heap]) (by simp_all) (by grind) (by simp_all)
    simp only [storeCells, Sem.run_bind, hst, Result.andThen_ok, ih, setRow_setRow]
    congr 3
    have e := list_seg_step cur.toList (o + i) v rest (by simp at hl ⊢; omega)
    grind
theorem seg_get (l vs : List Value) (k : Nat) (hk : k + vs.length ≤ l.length) (j : Nat) :
    (l.take k ++ vs ++ l.drop (k + vs.length))[j]? = if k ≤ j ∧ j < k + vs.length then vs[j - k]? else l[j]? := by
  rw [List.append_assoc, List.getElem?_append, List.length_take, Nat.min_eq_left (by omega)]
  grind
theorem seg_length (l vs : List Value) (k : Nat) (hk : k + vs.length ≤ l.length) : (l.take k ++ vs ++ l.drop (k + vs.length)).length = l.length := by
  simp; omega

/-- A thing that is set anew in its own block. -/
theorem WR.set {Δ : Env} {h : Hp} {w w' : World} (hW : WR Δ h w) {l : Nat} {d : D} {o o' : O} (hl : Δ l = some d) (hg : h.get l = some o) (hlive : o.live = true) (hro : d.ro = false)
    (hlive' : o'.live = true → o.live = true) (ho : ORel Δ d o' w'.heap[d.b]?) (hsz : w'.heap.size = w.heap.size) (hk : ∀ b, b ≠ d.b → w'.heap[b]? = w.heap[b]?) : WR Δ (h.put l o') w' where
  fresh := hW.fresh
  blk := fun m e hm => by rw [hsz]; exact hW.blk m e hm
  obj := fun m e hm => by
    by_cases he : l = m
    · subst he
      rw [hl] at hm; cases hm
      exact ⟨o', by rw [get_put _ _ (Hp.get_lt hg), if_pos rfl], ho⟩
    · obtain ⟨p, h1, h2⟩ := hW.obj m e hm
      refine ⟨p, by simp_all[get_put,Hp.get_lt], ?_⟩
      by_cases hb : e.b = d.b
      · have hdead : p.live = false := by
          cases hp : p.live with
          | false => rfl
          | true => exact absurd hb.symm (hW.apart l m d e o p hl hm he hg h1 hlive hp (.inl hro))
        cases p with
        | cells e' sz live ro cs =>
          obtain ⟨a1, a2, a3, a4, _⟩ := h2
          exact ⟨a1, a2, a3, a4, fun hh => by simp only [O.live] at hdead; rw [hdead] at hh; cases hh⟩
        | map es c => cases hdead
        | iter m s x c => cases hdead
      simp_all
  apart := fun m m' e e' p p' hm hm' hne hp hp' hlp hlp' hr => by
    rw [get_put _ _ (Hp.get_lt hg)] at hp hp'
    by_cases h1 : l = m
    · subst h1
      rw [if_pos rfl] at hp; cases hp
      rw [if_neg hne] at hp'
      exact hW.apart l m' e e' o p' hm hm' hne hg hp' (hlive' hlp) hlp' hr
    · rw [if_neg h1] at hp
      by_cases h2 : l = m'
      · subst h2
        rw [if_pos rfl] at hp'; cases hp'
        exact hW.apart m l e e' p o hm hm' hne hp hg hlp (hlive' hlp') hr
      · rw [if_neg h2] at hp'
        exact hW.apart m m' e e' p p' hm hm' hne hp hp' hlp hlp' hr
  glob := fun g p hlt hp => by
    rw [get_put _ _ (Hp.get_lt hg)] at hp
    by_cases h1 : l = g
    · subst h1; exact hW.glob l o hlt hg
    · rw [if_neg h1] at hp; exact hW.glob g p hlt hp
  gnext := hW.gnext
  tab := hW.tab.step (fun b _ hn => hk b fun e => hn ⟨l, d, hl, hro, e.symm⟩) (by simp_all)
theorem FR.set {Δ : Env} {w w' : World} {l : Nat} {d : D} (hl : Δ l = some d) (hro : d.ro = false) (hsz : w'.heap.size = w.heap.size) (hk : ∀ b, b ≠ d.b → w'.heap[b]? = w.heap[b]?)
    (h1 : w'.os = w.os) (h2 : w'.tape = w.tape) (h3 : w'.output = w.output) : FR Δ Δ w w' :=
  ⟨Env.le_refl _, Nat.le_of_eq hsz.symm, h1, h2, h3, fun b _ hb => hk b fun e => hb ⟨l, d, hl, hro, e.symm⟩, by simp_all⟩
theorem WR.kill {Δ : Env} {h : Hp} {w : World} (hW : WR Δ h w) {l e sz : Nat} {cs : List V} (hg : h.get l = some (.cells e sz true false cs)) {d : D} (hl : Δ l = some d) :
    WR Δ (h.put l (.cells e sz false false cs)) w ∧ (∀ m d' p, m ≠ l → Δ m = some d' → h.get m = some p → p.live = true → d'.b ≠ d.b) ∧ d.ro = false := by
  obtain ⟨o, ho, hr⟩ := hW.obj l d hl
  rw [hg] at ho; cases ho
  obtain ⟨a1, a2, a3, a4, a5⟩ := hr
  refine ⟨hW.set hl hg rfl a4 (fun h => (nomatch h)) ⟨a1, a2, a3, a4, fun h => (nomatch h)⟩ rfl (by simp_all), fun m d' p hne hm hp hlp => ?_, a4⟩
  exact hW.apart m l d' d p _ hm hl hne hp hg hlp rfl (.inr a4)

section
variable {Δ : Env} {h : Hp} {w : World} {n : Nat} {t : Tm} {a : Act}
theorem stAt_ok (hW : WR Δ h w) {l : Nat} {d : D} (hl : Δ l = some d) {off : Nat} {new : List V} {new' : List Value} (hn : VsRel Δ new new') {h' : Hp} (hv : stAt h l off new = some h') :
    ∃ w', (storeCells ⟨d.b, d.base + off, none⟩ new' 0).run P0 w = .ok () w' ∧ WR Δ h' w' ∧ FR Δ Δ w w' := by
  unfold stAt at hv
  rw [cellsAt_eq] at hv
  obtain ⟨e, sz, live, ro, cs, hg, hv⟩ := hv
  simp only [bB_eq, oB_eq] at hv
  obtain ⟨rfl, hro, hone, cs', hs, hv⟩ := hv
  cases hv
  have hro' : ro = false := by simpa using hro
  subst hro'
  obtain ⟨hsl, hsle, hsg⟩ := splice_eq hs
  obtain ⟨o, ho, hr⟩ := hW.obj l d hl
  rw [hg] at ho; cases ho
  obtain ⟨a1, a2, a3, a4, a5⟩ := hr
  obtain ⟨c, e', fr, b1, b2, b3, b5, b4⟩ := a5 rfl
  have hnl := hn.length
  have hfit : d.base + off + new'.length ≤ c.size := by omega
  have hrun := run_storeCells_fr d.b (d.base + off) e' fr new' 0 c w b1 (by grind) (by omega) (hn.ones hone)
  simp only [Nat.add_zero] at hrun
  refine ⟨_, hrun, hW.set hl hg rfl a4 (fun h => h) ⟨a1, a2, by omega, a4, fun _ => ?_⟩ (by simp) (by grind[setRow_other]), FR.set hl a4 (by simp) (by grind[setRow_other]) rfl rfl rfl⟩
  refine ⟨_, e', fr, setRow_heap w d.b c _ e' fr b1, ?_, b3, by omega, fun i v hi => ?_⟩
  · grind
  · rw [hsg i] at hi
    have hseg := seg_get c.toList new' (d.base + off) (by simpa using hfit) (d.base + i)
    rw [List.getElem?_toArray, hseg]
    by_cases hin : off ≤ i ∧ i < off + new.length
    · rw [if_pos hin] at hi
      rw [if_pos (by omega)]
      obtain ⟨x, hx, hrx⟩ := hn.get _ _ hi
      grind
    grind
end
end Go.Proofs.YtmpdoelanliaeaaGreatDoor.Hx
