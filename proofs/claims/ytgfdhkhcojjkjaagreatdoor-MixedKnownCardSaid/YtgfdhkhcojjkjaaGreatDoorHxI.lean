/- How what is written changes heap and world together: stores, rows that are left behind, things that are set. -/
import Derived.Test.YtgfdhkhcojjkjaaGreatDoorHxG
import Derived.Laws.AppendOwn
import Derived.Laws.NewFold
namespace Go.Proofs.YtgfdhkhcojjkjaaGreatDoor.Hx

/-- No place that the heap had stands later where none stood. -/
structure Gr (h : Hp) (Δ : Env) (h' : Hp) (Δ' : Env) : Prop where
  next : h.next ≤ h'.next
  none : ∀ l, Δ l = .none → l < h.next → Δ' l = .none
theorem Gr.refl (h : Hp) (Δ : Env) : Gr h Δ h Δ := ⟨Nat.le_refl _, by simp_all⟩
theorem Gr.trans {h h' h'' : Hp} {Δ Δ' Δ'' : Env} (a : Gr h Δ h' Δ') (b : Gr h' Δ' h'' Δ'') : Gr h Δ h'' Δ'' :=
  ⟨Nat.le_trans a.next b.next, fun l hl hn => b.none l (a.none l hl hn) (Nat.lt_of_lt_of_le hn a.next)⟩
theorem Gr.same {h h' : Hp} {Δ : Env} (hn : h.next ≤ h'.next) : Gr h Δ h' Δ := ⟨hn, by simp_all⟩
theorem Gr.set {h h' : Hp} {Δ : Env} {d : D} (hn : h.next ≤ h'.next) : Gr h Δ h' (Δ.set h.next d) :=
  ⟨hn, by simp_all[Env.set,Nat.ne_of_lt]⟩

theorem WR.alloc {Δ : Env} {h : Hp} {w : World} (hW : WR Δ h w) {ob : O} {mk : Nat → V} {mo : Obj} {mv : Nat → Value} (hm : Made Δ ob mk mo mv) :
    ∃ Δ', WR Δ' (h.new ob) (w.alloc mo) ∧ VRel Δ' (mk h.next) (mv w.heap.size) ∧ FR Δ Δ' w (w.alloc mo) ∧ Gr h Δ (h.new ob) Δ' := by
  obtain ⟨d, hb, ho, hv⟩ := hm h.next w.heap.size hW.none_next
  exact ⟨Δ.set h.next d, (hW.more ob).lay hW.none_next (Nat.lt_succ_self _) (by rw [get_new, if_pos rfl]) hb ho, hv, FR.lay hW.none_next hb, Gr.set (Nat.le_succ _)⟩

theorem run_storeCells_fr (g o e : Nat) (fr : Nat × Nat) : ∀ (vs : List Value) (i : Nat) (cur : Array Value) (w : World), w.heap[g]? = some (.cells cur e fr) → (∀ j, j < cur.size → ¬ (fr.1 ≤ j ∧ j < fr.2)) →
    o + i + vs.length ≤ cur.size → (∀ v ∈ vs, v.oneCell' = true) →
    (storeCells ⟨g, o, none⟩ vs i).run P0 w = .ok () (w.setRow g (cur.toList.take (o + i) ++ vs ++ cur.toList.drop (o + i + vs.length)).toArray)
  | [], i, cur, w, hg, _, _, _ => by
    simp only [storeCells, List.append_nil, List.length_nil, Nat.add_zero, List.take_append_drop, Array.toArray_toList]
    rw [setRow_self w g cur e fr hg]
    rfl
  | v :: rest, i, cur, w, hg, hf, hl, h1 => by
    have hi : o + i < cur.size := by simp at hl; omega
    have hcell : w.cell? ⟨g, o + i, none⟩ = some cur[o + i] := by simp [World.cell?, hg, hi]
    have hfro : w.frozen? ⟨g, o + i, none⟩ = false := by
      have := hf (o + i) hi
      simp only [World.frozen?, hg]
      simpa using this
    have hst : (store ((⟨g, o, none⟩ : Addr).add i) v).run P0 w = .ok () (w.setRow g (cur.setIfInBounds (o + i) v)) := by
      rw [addr_add, run_store P0 w _ v _ (by simp_all), hcell]
      simp [hfro, setCell_eq_setRow w g (o + i) cur e fr v hg]
    have ih := run_storeCells_fr g o e fr rest (i + 1) (cur.setIfInBounds (o + i) v) (w.setRow g (cur.setIfInBounds (o + i) v)) (by grind[setRow_heap]) (by simp_all) (by grind) (by simp_all)
    simp only [storeCells, Sem.run_bind, hst, Result.andThen_ok, ih, setRow_setRow]
    congr 3
    have e := list_seg_step cur.toList (o + i) v rest (by simp at hl ⊢; omega)
    grind
theorem seg_get (l vs : List Value) (k : Nat) (hk : k + vs.length ≤ l.length) (j : Nat) :
    (l.take k ++ vs ++ l.drop (k + vs.length))[j]? = if k ≤ j ∧ j < k + vs.length then vs[j - k]? else l[j]? := by
  rw [List.append_assoc, List.getElem?_append, List.length_take, Nat.min_eq_left (by omega)]
  grind
theorem seg_length (l vs : List Value) (k : Nat) (hk : k + vs.length ≤ l.length) : (l.take k ++ vs ++ l.drop (k + vs.length)).length = l.length := by
  simp; omega

/-- A thing that is set anew in its own block. -/
theorem WR.set {Δ : Env} {h : Hp} {w w' : World} (hW : WR Δ h w) {l : Nat} {d : D} {o o' : O} (hl : Δ l = some d) (hg : h.get l = some o) (hlive : o.live = true) (hro : d.ro = false)
    (hlive' : o'.live = true → o.live = true) (ho : ORel Δ d o' w'.heap[d.b]?) (hsz : w'.heap.size = w.heap.size) (hk : ∀ b, b ≠ d.b → w'.heap[b]? = w.heap[b]?) : WR Δ (h.put l o') w' where
  fresh := hW.fresh
  blk := fun m e hm => by rw [hsz]; exact hW.blk m e hm
  obj := fun m e hm => by
    by_cases he : l = m
    · subst he
      rw [hl] at hm; cases hm
      exact ⟨o', by rw [get_put _ _ (Hp.get_lt hg), if_pos rfl], ho⟩
    · obtain ⟨p, h1, h2⟩ := hW.obj m e hm
      refine ⟨p, by simp_all[get_put,Hp.get_lt], ?_⟩
      by_cases hb : e.b = d.b
      · have hdead : p.live = false := by
          cases hp : p.live with
          | false => rfl
          | true => exact absurd hb.symm (hW.apart l m d e o p hl hm he hg h1 hlive hp (.inl hro))
        cases p with
        | cells e' sz live ro cs =>
          obtain ⟨a1, a2, a3, a4, _⟩ := h2
          exact ⟨a1, a2, a3, a4, fun hh => by simp only [O.live] at hdead; rw [hdead] at hh; cases hh⟩
        | map es c => cases hdead
        | iter m s x c => cases hdead
      simp_all
  apart := fun m m' e e' p p' hm hm' hne hp hp' hlp hlp' hr => by
    rw [get_put _ _ (Hp.get_lt hg)] at hp hp'
    by_cases h1 : l = m
    · subst h1
      rw [if_pos rfl] at hp; cases hp
      rw [if_neg hne] at hp'
      exact hW.apart l m' e e' o p' hm hm' hne hg hp' (hlive' hlp) hlp' hr
    · rw [if_neg h1] at hp
      by_cases h2 : l = m'
      · subst h2
        rw [if_pos rfl] at hp'; cases hp'
        exact hW.apart m l e e' p o hm hm' hne hp hg hlp (hlive' hlp') hr
      · rw [if_neg h2] at hp'
        exact hW.apart m m' e e' p p' hm hm' hne hp hp' hlp hlp' hr
  glob := fun g p hlt hp => by
    rw [get_put _ _ (Hp.get_lt hg)] at hp
    by_cases h1 : l = g
    · subst h1; exact hW.glob l o hlt hg
    · rw [if_neg h1] at hp; exact hW.glob g p hlt hp
  gnext := hW.gnext
  tab := hW.tab.step (fun b _ hn => hk b fun e => hn ⟨l, d, hl, hro, e.symm⟩) (by simp_all)
theorem FR.set {Δ : Env} {w w' : World} {l : Nat} {d : D} (hl : Δ l = some d) (hro : d.ro = false) (hsz : w'.heap.size = w.heap.size) (hk : ∀ b, b ≠ d.b → w'.heap[b]? = w.heap[b]?)
    (h1 : w'.os = w.os) (h2 : w'.tape = w.tape) (h3 : w'.output = w.output) : FR Δ Δ w w' :=
  ⟨Env.le_refl _, Nat.le_of_eq hsz.symm, h1, h2, h3, fun b _ hb => hk b fun e => hb ⟨l, d, hl, hro, e.symm⟩, by simp_all⟩
theorem WR.kill {Δ : Env} {h : Hp} {w : World} (hW : WR Δ h w) {l e sz : Nat} {cs : List V} (hg : h.get l = some (.cells e sz true false cs)) {d : D} (hl : Δ l = some d) :
    WR Δ (h.put l (.cells e sz false false cs)) w ∧ (∀ m d' p, m ≠ l → Δ m = some d' → h.get m = some p → p.live = true → d'.b ≠ d.b) ∧ d.ro = false := by
  obtain ⟨o, ho, hr⟩ := hW.obj l d hl
  rw [hg] at ho; cases ho
  obtain ⟨a1, a2, a3, a4, a5⟩ := hr
  refine ⟨hW.set hl hg rfl a4 (fun h => (nomatch h)) ⟨a1, a2, a3, a4, fun h => (nomatch h)⟩ rfl (by simp_all), fun m d' p hne hm hp hlp => ?_, a4⟩
  exact hW.apart m l d' d p _ hm hl hne hp hg hlp rfl (.inr a4)

section
variable {Δ : Env} {h : Hp} {w : World} {n : Nat} {t : Tm} {a : Act}
theorem stAt_ok (hW : WR Δ h w) {l : Nat} {d : D} (hl : Δ l = some d) {off : Nat} {new : List V} {new' : List Value} (hn : VsRel Δ new new') {h' : Hp} (hv : stAt h l off new = some h') :
    ∃ w', (storeCells ⟨d.b, d.base + off, none⟩ new' 0).run P0 w = .ok () w' ∧ WR Δ h' w' ∧ FR Δ Δ w w' := by
  unfold stAt at hv
  rw [cellsAt_eq] at hv
  obtain ⟨e, sz, live, ro, cs, hg, hv⟩ := hv
  simp only [bB_eq, oB_eq] at hv
  obtain ⟨rfl, hro, hone, cs', hs, hv⟩ := hv
  cases hv
  have hro' : ro = false := by simpa using hro
  subst hro'
  obtain ⟨hsl, hsle, hsg⟩ := splice_eq hs
  obtain ⟨o, ho, hr⟩ := hW.obj l d hl
  rw [hg] at ho; cases ho
  obtain ⟨a1, a2, a3, a4, a5⟩ := hr
  obtain ⟨c, e', fr, b1, b2, b3, b5, b4⟩ := a5 rfl
  have hnl := hn.length
  have hfit : d.base + off + new'.length ≤ c.size := by omega
  have hrun := run_storeCells_fr d.b (d.base + off) e' fr new' 0 c w b1 (by grind) (by omega) (hn.ones hone)
  simp only [Nat.add_zero] at hrun
  refine ⟨_, hrun, hW.set hl hg rfl a4 (fun h => h) ⟨a1, a2, by omega, a4, fun _ => ?_⟩ (by simp) (by grind[setRow_other]), FR.set hl a4 (by simp) (by grind[setRow_other]) rfl rfl rfl⟩
  refine ⟨_, e', fr, setRow_heap w d.b c _ e' fr b1, ?_, b3, by omega, fun i v hi => ?_⟩
  · grind
  · rw [hsg i] at hi
    have hseg := seg_get c.toList new' (d.base + off) (by simpa using hfit) (d.base + i)
    rw [List.getElem?_toArray, hseg]
    by_cases hin : off ≤ i ∧ i < off + new.length
    · rw [if_pos hin] at hi
      rw [if_pos (by omega)]
      obtain ⟨x, hx, hrx⟩ := hn.get _ _ hi
      grind
    grind
end
end Go.Proofs.YtgfdhkhcojjkjaaGreatDoor.Hx
/- What a store and an append come to in the model. -/
namespace Go.Proofs.YtgfdhkhcojjkjaaGreatDoor.Hx

/-- What comes after: a value, a heap and a world. -/
structure After (Δ : Env) (h : Hp) (w : World) (v : V) (h' : Hp) (Δ' : Env) (x : Value) (w' : World) : Prop where
  val : VRel Δ' v x
  world : WR Δ' h' w'
  frame : FR Δ Δ' w w'
  grow : Gr h Δ h' Δ'

theorem WR.heap {Δ : Env} {h : Hp} {w w' : World} (hW : WR Δ h w) (he : w'.heap = w.heap) : WR Δ h w' :=
  ⟨hW.fresh, fun l d hl => by rw [he]; exact hW.blk l d hl, fun l d hl => by rw [he]; exact hW.obj l d hl, hW.apart, hW.glob, hW.gnext, fun g c hm => by rw [he]; exact hW.tab g c hm⟩
/-- A place gets a row that its block holds already. -/
theorem WR.layAt {Δ : Env} {h : Hp} {w : World} (hW : WR Δ h w) {l : Nat} {o : O} {d : D} (hn : Δ l = none) (hl : l < h.next) (hg : h.get l = some o) (hb : d.b < w.heap.size)
    (ho : ORel (Δ.set l d) d o w.heap[d.b]?) (hap : ∀ m d' p, Δ m = some d' → h.get m = some p → p.live = true → d'.b ≠ d.b) (hrw : RW Δ d.b) : WR (Δ.set l d) h w where
  fresh := fun m e hm => by
    rcases Env.set_other hm with ⟨rfl, rfl⟩ | ⟨_, hm⟩
    · exact hl
    · exact hW.fresh m e hm
  blk := fun m e hm => by
    rcases Env.set_other hm with ⟨rfl, rfl⟩ | ⟨_, hm⟩
    · exact hb
    · exact hW.blk m e hm
  obj := fun m e hm => by
    rcases Env.set_other hm with ⟨rfl, rfl⟩ | ⟨_, hm⟩
    · simp_all
    · obtain ⟨o', h1, h2⟩ := hW.obj m e hm
      exact ⟨o', h1, h2.mono (Env.le_set hn)⟩
  apart := fun m m' e e' p p' hm hm' hne hp hp' hlp hlp' hro => by
    rcases Env.set_other hm with ⟨h1, h2⟩ | ⟨_, h1⟩ <;> rcases Env.set_other hm' with ⟨h3, h4⟩ | ⟨_, h3⟩
    · omega
    · grind
    · grind
    · exact hW.apart m m' e e' p p' h1 h3 hne hp hp' hlp hlp' hro
  glob := fun g p hlt hp => by
    obtain ⟨e, h1, h2⟩ := hW.glob g p hlt hp
    exact ⟨e, Env.le_set hn _ _ h1, h2⟩
  gnext := hW.gnext
  tab := hW.tab.step (by simp_all) fun m e hm _ => by
    rcases Env.set_other hm with ⟨rfl, rfl⟩ | ⟨_, hm⟩
    · simp_all
    simp_all
theorem FR.layAt {Δ : Env} {w w' : World} {l : Nat} {d : D} (hn : Δ l = none) (h : FR Δ Δ w w') (hrw : RW Δ d.b) : FR Δ (Δ.set l d) w w' where
  le := Env.le_set hn
  size := h.size
  os := h.os
  tape := h.tape
  output := h.output
  keep := h.keep
  new := fun m e hm => by
    rcases Env.set_other hm with ⟨rfl, rfl⟩ | ⟨_, hm⟩
    · simp_all
    simp_all
theorem FR.drew {Δ Δ' : Env} {w w' : World} (h : FR Δ Δ' w.drew w') : FR Δ Δ' w w' := ⟨h.le, h.size, h.os, h.tape, h.output, h.keep, h.new⟩

section
variable {Δ : Env} {h : Hp} {w : World} {n : Nat} {t : Tm} {a : Act}
theorem bytes_rel (Δ : Env) (s : ByteArray) : VsRel Δ (bytesV s.data.toList) (s.data.toList.map fun b => Value.int .u8 b.toNat) := by
  generalize s.data.toList = l
  induction l with
  | nil => exact .nil
  | cons b l ih => exact .cons _ _ _ _ (.int .u8 _) ih
/-- What an append appends. -/
theorem xcells_ok (hW : WR Δ h w) {size : Nat} {x : V} {xv : Value} {m : Nat} {cs : List V} (hx : VRel Δ x xv) (hv : xcells h size x = some (m, cs)) :
    ∃ news, VsRel Δ cs news ∧ (∀ w', (Builtin.lenOf xv).run P0 w' = .ok m w') ∧ (Builtin.firstCells size m xv).run P0 w = .ok (Array.mk news) w ∧ news.length = m * size := by
  unfold xcells at hv
  split at hv
  · cases hv; cases hx
    exact ⟨[], .nil, fun _ => rfl, rfl, by simp⟩
  · cases hv; cases hx
    exact ⟨[], .nil, fun _ => rfl, by simp [Builtin.firstCells, loadCells, loadCellsFrom], by simp⟩
  · rename_i l off k
    rw [oB_eq] at hv
    obtain ⟨cs', h1, h2⟩ := hv
    cases h2
    cases hx with
    | slice _ _ _ cap o d hd hk hle ho =>
      rcases ho with ⟨rfl, _, _⟩ | ⟨rfl, _⟩
      · obtain ⟨xs, h3, h4⟩ := loadCells_list hW hd h1
        exact ⟨xs, h4, fun _ => rfl, by grind[Builtin.firstCells], by rw [← h4.length, ldAt_len h1]; rfl⟩
      omega
  · rename_i s
    rw [bB_eq] at hv
    obtain ⟨h1, h2⟩ := hv
    cases h2
    have h1' : size = 1 := Nat.eq_of_beq_eq_true h1
    subst h1'
    cases hx with
    | str s =>
      refine ⟨_, bytes_rel Δ s, by simp_all[Builtin.lenOf], ?_, by simp⟩
      have he : s.extract 0 s.size = s := by
        rw [ByteArray.ext_iff]; simp
      simp only [Builtin.firstCells]
      have : s.data.toList.length = s.size := by simp
      rw [this, he]
      simp only [Sem.run_pure]
      congr 1
      grind
  · cases hv

theorem run_append_room' {sT xT ty elem : Nat} {dx : TypeDesc} (hs : P0.underlying sT = some (.slice elem)) (hx : P0.underlying xT = some dx) (hi : ∀ k, dx ≠ .int k) {size : Nat} (hz : szOf elem = some size)
    {base : Option Addr} {sLen sCap m : Nat} {x : Value} (hlen : (Builtin.lenOf x).run P0 w = .ok m w) {news : List Value} (hnew : (Builtin.firstCells size m x).run P0 w = .ok (Array.mk news) w)
    (hroom : sLen + m ≤ sCap) {w' : World} (hst : ∀ b, base = some b → (storeCells (b.add (sLen * size)) news 0).run P0 w = .ok () w') (hw : base = none → w' = w) :
    (Builtin.append_ #[sT, xT] ty #[.slice base sLen sCap, x]).run P0 w = .ok (.slice base (sLen + m) sCap) w' := by
  have hz' := run_sz (w := w) hz
  have hno : (match (generalizing := false) dx with | .int _ => true | _ => false) = false := by cases dx <;> first | rfl | simp_all
  cases base with
  | none =>
    cases hw rfl
    simp [Builtin.append_, run_und hs, run_und hx, hz', hlen, hroom, hnew]
  | some b => simp [Builtin.append_, run_und hs, run_und hx, hz', hlen, hroom, hnew, hst b rfl]
theorem run_append_grow' {sT xT ty elem : Nat} {dx : TypeDesc} (hs : P0.underlying sT = some (.slice elem)) (hx : P0.underlying xT = some dx) (hi : ∀ k, dx ≠ .int k) {size by_ : Nat} {z : V}
    (hz : elemOf elem = some (size, by_, z)) {base : Option Addr} {sLen sCap m : Nat} {x : Value} (hlen : (Builtin.lenOf x).run P0 w = .ok m w) {olds news : List Value}
    (hold : (Builtin.firstCells size sLen (.slice base sLen sCap)).run P0 w.drew = .ok (Array.mk olds) w.drew)
    (hnew : (Builtin.firstCells size m x).run P0 w.drew = .ok (Array.mk news) w.drew) (hg : ¬ sLen + m ≤ sCap) (hb : (sLen + m) * by_ ≤ 70368744177664) (hm : sLen + m ≤ 70368744177664) :
    ∃ zc, zc.size = size ∧ (Builtin.append_ #[sT, xT] ty #[.slice base sLen sCap, x]).run P0 w = .ok (.slice (some ⟨w.heap.size, 0, none⟩) (sLen + m) (grownCap w (sLen + m) sCap elem))
      (w.drew.alloc (.cells (Array.mk olds ++ Array.mk news ++ Builtin.zeroCells zc (grownCap w (sLen + m) sCap elem - (sLen + m))) elem)) := by
  obtain ⟨hsz, hby, hzv, hpos, hzl, _⟩ := elemOf_eq hz
  obtain ⟨zv, hzr, hzvr, i, hi', hzi⟩ := run_zero hzv
  have hno : (match (generalizing := false) dx with | .int _ => true | _ => false) = false := by cases dx <;> first | rfl | simp_all
  have hib : i.bytes = by_ := by
    unfold byOf at hby
    rw [oB_eq] at hby
    obtain ⟨i', h1, h2⟩ := hby
    rw [hi'] at h1; cases h1; simpa using h2
  have his : i.size = size := by
    obtain ⟨i', h1, h2⟩ := info_of_sz hsz
    rw [hi'] at h1; cases h1; exact h2
  have hfit : Builtin.nextslicecap (sLen + m) sCap * i.bytes ≤ 281474976710656 := growslice_fits (by omega) (by grind)
  have h48' : ¬ (281474976710656 < Builtin.nextslicecap (sLen + m) sCap * i.bytes) := by omega
  have h63' : ¬ (9223372036854775807 < ((sLen : Int) + (m : Int))) := by omega
  have hzc := (hzvr fun _ => none).cells.length
  refine ⟨zv.cells, by simp_all, ?_⟩
  rw [← his] at hold hnew
  have hq : (Question.appendCap (sLen + m) sCap elem).forced = false := rfl
  simp [Builtin.append_, run_und hs, run_und hx, sizeOf, typeInfo, zeroValue, hi', hzi, hlen, hg, h63', h48', hq, hold, hnew, newRow, grownCap]
  grind
/-- A row behind a row. -/
theorem happendN_ok (hW : WR Δ h w) {sT xT ty elem : Nat} {size by_ : Nat} {z : V} (hz : elemOf elem = some (size, by_, z)) {s : V} {sv xv : Value} (hsv : VRel Δ s sv) {m : Nat} {cs : List V} {news newsd : List Value}
    (n1 : VsRel Δ cs news) (n4 : news.length = m * size) (d1 : VsRel Δ cs newsd) (d4 : newsd.length = m * size)
    (room : ∀ {base : Option Addr} {sLen sCap : Nat} {w' : World}, sLen + m ≤ sCap → (∀ b, base = some b → (storeCells (b.add (sLen * size)) news 0).run P0 w = .ok () w') → (base = none → w' = w) → (Builtin.append_ #[sT, xT] ty #[.slice base sLen sCap, xv]).run P0 w = .ok (.slice base (sLen + m) sCap) w')
    (grow : ∀ {base : Option Addr} {sLen sCap : Nat} {olds : List Value}, (Builtin.firstCells size sLen (.slice base sLen sCap)).run P0 w.drew = .ok (Array.mk olds) w.drew → ¬ sLen + m ≤ sCap → (sLen + m) * by_ ≤ 70368744177664 → sLen + m ≤ 70368744177664 →
      ∃ zc, zc.size = size ∧ (Builtin.append_ #[sT, xT] ty #[.slice base sLen sCap, xv]).run P0 w = .ok (.slice (some ⟨w.heap.size, 0, none⟩) (sLen + m) (grownCap w (sLen + m) sCap elem))
        (w.drew.alloc (.cells (Array.mk olds ++ Array.mk newsd ++ Builtin.zeroCells zc (grownCap w (sLen + m) sCap elem - (sLen + m))) elem)))
    {r : R} (h2 : happendN elem size by_ s (m, cs) h = some r) :
    ∃ v h' Δ' y w', r = .val v h' ∧ (Builtin.append_ #[sT, xT] ty #[sv, xv]).run P0 w = .ok y w' ∧ After Δ h w v h' Δ' y w' := by
  obtain ⟨hsz, hby, hzv, hpos, hzl, _⟩ := elemOf_eq hz
  have hWd : WR Δ h w.drew := hW.heap rfl
  unfold happendN at h2
  have hcl : cs.length = m * size := by rw [n1.length, n4]
  cases hm : Nat.beq m 0 with
  | true =>
    have hm0 : m = 0 := Nat.eq_of_beq_eq_true hm
    subst hm0
    simp only [hm] at h2
    have hn0 : news = [] := List.eq_nil_of_length_eq_zero (by simpa using n4)
    subst hn0
    split at h2
    · cases h2; cases hsv
      exact ⟨_, _, Δ, _, w, rfl, room (Nat.le_refl _) (fun b hb => by cases hb) (fun _ => rfl), .nilSlice, hW, .refl _ _, .refl _ _⟩
    · cases h2
      cases hsv with
      | slice l off len cap o d hd hk hle ho =>
        exact ⟨_, _, Δ, _, w, rfl, room hle (fun b hb => rfl) (fun _ => rfl), .slice _ _ _ cap o d hd hk hle ho, hW, .refl _ _, .refl _ _⟩
    · cases h2
  | false =>
    have hm0 : 0 < m := Nat.pos_of_ne_zero fun e => by rw [e] at hm; cases hm
    simp only [hm, bB_eq] at h2
    obtain ⟨hone, h2⟩ := h2
    -- a row in a block of its own
    have fresh : ∀ (base : Option Addr) (sLen sCap : Nat) (olds : List Value) (old : List V) (h0 : Hp), sv = .slice base sLen sCap → VsRel Δ old olds → olds.length = sLen * size →
        (Builtin.firstCells size sLen (.slice base sLen sCap)).run P0 w.drew = .ok (Array.mk olds) w.drew → ¬ sLen + m ≤ sCap → (sLen + m) * by_ ≤ 70368744177664 → sLen + m ≤ 70368744177664 →
        WR Δ h0 w → h0.next = h.next →
        ∃ Δ' y w', (Builtin.append_ #[sT, xT] ty #[sv, xv]).run P0 w = .ok y w' ∧ After Δ h w (.slice h.next 0 (sLen + m)) (h0.new (.cells elem size true false (old ++ cs))) Δ' y w' := by
      intro base sLen sCap olds old h0 hsv' hold holdl hrun hg hb hmx hW0 hnext
      obtain ⟨zc, hzc, hr⟩ := grow hrun hg hb hmx
      have hge := grownCap_ge w (sLen + m) sCap elem
      generalize grownCap w (sLen + m) sCap elem = nc at hr hge
      have hmade : Made Δ (.cells elem size true false (old ++ cs)) (fun l => .slice l 0 (sLen + m)) (.cells (Array.mk olds ++ Array.mk newsd ++ Builtin.zeroCells zc (nc - (sLen + m))) elem)
          (fun b => .slice (some ⟨b, 0, none⟩) (sLen + m) nc) := by
        intro l b hn
        have hle := Env.le_set (d := ⟨b, 0, size, (old ++ cs).length, nc * size, false, 0⟩) hn
        have hall := hold.append d1
        have hlen : (old ++ cs).length = (sLen + m) * size := by rw [List.length_append, hold.length, holdl, hcl, Nat.add_mul]
        have hle2 : (sLen + m) * size ≤ nc * size := Nat.mul_le_mul_right _ hge
        refine ⟨⟨b, 0, size, (old ++ cs).length, nc * size, false, 0⟩, rfl, ⟨rfl, rfl, rfl, rfl, fun _ => ?_⟩, ?_⟩
        · refine cellsOk_new ?_ rfl (by show (old ++ cs).length ≤ nc * size; omega) fun i u hi' => ?_
          · show (Array.mk olds ++ Array.mk newsd ++ Builtin.zeroCells zc (nc - (sLen + m))).size = nc * size
            simp only [Array.size_append, List.size_toArray, size_zeroCells, hzc, holdl, d4]
            rw [← Nat.add_mul, ← Nat.add_mul]
            congr 1
            omega
          · obtain ⟨y, hy, hry⟩ := hall.get i u hi'
            refine ⟨y, ?_, hry.mono hle⟩
            grind
        · refine VRel.slice l 0 (sLen + m) nc 0 _ (Env.set_self _ _ _) rfl hge (.inl ⟨rfl, ?_, ?_⟩)
          · simp_all
          · show 0 + 0 + nc * size ≤ nc * size; omega
      obtain ⟨Δ', a1, a2, a3, a4⟩ := (hW0.heap (w' := w.drew) rfl).alloc hmade
      have hgr : Gr h Δ (h0.new (.cells elem size true false (old ++ cs))) Δ' := ⟨by rw [← hnext]; exact a4.next, fun l hl hlt => a4.none l hl (by rw [hnext]; exact hlt)⟩
      rw [hnext] at a2
      exact ⟨Δ', _, _, hsv' ▸ hr, a2, a1, a3.drew, hgr⟩
    split at h2
    · simp only [bB_eq] at h2
      obtain ⟨h3, h4, h5⟩ := h2
      cases h5
      cases hsv
      have h3' : m * by_ ≤ 70368744177664 := Nat.le_of_ble_eq_true h3
      have h4' : m ≤ 70368744177664 := Nat.le_of_ble_eq_true h4
      obtain ⟨Δ', y, w', b1, b2⟩ := fresh none 0 0 [] [] h rfl .nil (by simp) rfl (by omega) (by simpa using h3') (by simpa using h4') hW rfl
      grind
    · rename_i l off len
      rw [cellsAt_eq] at h2
      obtain ⟨e, sz, live, ro, all, hg, h2⟩ := h2
      simp only [bB_eq] at h2
      obtain ⟨rfl, hro, hsz', h2⟩ := h2
      have hsz'' : sz = size := Nat.eq_of_beq_eq_true hsz'
      subst hsz''
      have hro' : ro = false := by simpa using hro
      subst hro'
      cases hsv with
      | slice _ _ _ cap o d hd hk hle ho =>
        obtain ⟨ob, hob, hr⟩ := hW.obj l d hd
        rw [hg] at hob; cases hob
        obtain ⟨a1, a2, a3, a4, a5⟩ := hr
        obtain ⟨c, e', fr, b1, b2, b3, b5, b4⟩ := a5 rfl
        rw [a2] at ho
        have hmul : (len + m) * sz = len * sz + m * sz := Nat.add_mul _ _ _
        have hms : 0 < m * sz := Nat.mul_pos hm0 hpos
        cases hin : Nat.ble (Nat.add off (Nat.mul (Nat.add len m) sz)) all.length with
        | true =>
          simp only [hin, oB_eq] at h2
          obtain ⟨cs', h3, h4⟩ := h2
          cases h4
          have hin' : off + (len + m) * sz ≤ all.length := Nat.le_of_ble_eq_true hin
          rcases ho with ⟨rfl, ho1, ho2⟩ | ⟨rfl, ho1⟩
          · have hroom : len + m ≤ cap := by
              rcases Nat.lt_or_ge cap (len + m) with hlt | hge
              · exfalso
                have : cap * sz < (len + m) * sz := Nat.mul_lt_mul_of_pos_right hlt hpos
                omega
              · exact hge
            have hst : stAt h l (off + len * sz) cs = some (h.put l (.cells e sz true false cs')) := by
              unfold stAt
              rw [cellsAt_eq]
              refine ⟨e, sz, true, false, all, hg, ?_⟩
              simp only [bB_eq, oB_eq]
              exact ⟨trivial, rfl, hone, cs', h3, rfl⟩
            obtain ⟨w', c1, c2, c3⟩ := stAt_ok hW hd n1 hst
            refine ⟨_, _, Δ, _, w', rfl, room hroom (fun b hb => ?_) (fun hb => by cases hb), ?_, c2, c3, .same (Nat.le_refl _)⟩
            · cases hb
              rw [addr_add, Nat.add_assoc]
              exact c1
            · exact .slice l off (len + m) cap _ d hd hk hroom (by simp_all)
          · exfalso; omega
        | false =>
          simp only [hin, oB_eq, bB_eq] at h2
          obtain ⟨old, h3, hold1, h4, h5, h6⟩ := h2
          cases h6
          have h4' : (len + m) * by_ ≤ 70368744177664 := Nat.le_of_ble_eq_true h4
          have h5' : len + m ≤ 70368744177664 := Nat.le_of_ble_eq_true h5
          have h3' : sub all off (len * sz) = some old := h3
          obtain ⟨hol, hog⟩ := sub_eq h3'
          obtain ⟨hWk, hap, _⟩ := hW.kill hg hd
          have hld : ldAt h l off (len * sz) = some old := by
            unfold ldAt
            rw [cellsAt_eq]
            exact ⟨e, sz, true, false, all, hg, by rw [bB_eq]; exact ⟨rfl, h3'⟩⟩
          by_cases hroom : len + m ≤ cap
          · rcases ho with ⟨rfl, ho1, ho2⟩ | ⟨rfl, ho1⟩
            · have hcap : (len + m) * sz ≤ cap * sz := Nat.mul_le_mul_right _ hroom
              have hfit : d.base + off + len * sz + news.length ≤ c.size := by rw [n4]; omega
              have hrun := run_storeCells_fr d.b (d.base + off + len * sz) e' fr news 0 c w b1 (by grind) (by simpa using hfit) (n1.ones hone)
              simp only [Nat.add_zero] at hrun
              have hfit' : d.base + off + len * sz + news.length ≤ c.toList.length := by simpa using hfit
              generalize hw' : w.setRow d.b (c.toList.take (d.base + off + len * sz) ++ news ++ c.toList.drop (d.base + off + len * sz + news.length)).toArray = w' at hrun
              have hsize : w'.heap.size = w.heap.size := by rw [← hw']; simp
              have hother : ∀ b, b ≠ d.b → w'.heap[b]? = w.heap[b]? := by grind[setRow_other]
              have hrow : w'.heap[d.b]? = some (.cells (c.toList.take (d.base + off + len * sz) ++ news ++ c.toList.drop (d.base + off + len * sz + news.length)).toArray e' fr) := by
                rw [← hw']; exact setRow_heap w d.b c _ e' fr b1
              have hWk' : WR Δ (h.put l (.cells e sz false false all)) w' := hW.set hd hg rfl a4 (fun h => (nomatch h)) ⟨a1, a2, a3, a4, fun h => (nomatch h)⟩ hsize hother
              have hFR : FR Δ Δ w w' := FR.set hd a4 hsize hother (by rw [← hw']; rfl) (by rw [← hw']; rfl) (by rw [← hw']; rfl)
              have hn := hW.none_next
              have hoc : (old ++ cs).length = (len + m) * sz := by rw [List.length_append, hol, hcl, hmul]
              have hle' := Env.le_set (d := ⟨d.b, d.base + off, sz, (old ++ cs).length, d.asz, false, 0⟩) hn
              refine ⟨_, _, Δ.set h.next ⟨d.b, d.base + off, sz, (old ++ cs).length, d.asz, false, 0⟩, _, w', rfl,
                room hroom (fun b hb => ?_) (fun hb => by cases hb), ?_, ?_, hFR.layAt hn ⟨l, d, hd, a4, rfl⟩, Gr.set (Nat.le_succ _)⟩
              · cases hb
                rw [addr_add]
                exact hrun
              · refine .slice h.next 0 (len + m) cap (d.base + off) ⟨d.b, d.base + off, sz, (old ++ cs).length, d.asz, false, 0⟩ (Env.set_self _ _ _) rfl hroom (.inl ⟨rfl, ?_, ?_⟩)
                · simp_all
                omega
              · refine (hWk'.more (.cells elem sz true false (old ++ cs))).layAt (o := .cells elem sz true false (old ++ cs)) (d := ⟨d.b, d.base + off, sz, (old ++ cs).length, d.asz, false, 0⟩) hn (Nat.lt_succ_self _) (by rw [get_new]; exact if_pos rfl) (by rw [hsize]; exact hW.blk l d hd) ⟨rfl, rfl, rfl, rfl, fun _ => ?_⟩ (fun m' d' p hm' hp hlp => ?_) ⟨l, d, hd, a4, rfl⟩
                · refine ⟨_, e', fr, hrow, ?_, fun _ => b3 a4, ?_, fun i v hi' => ?_⟩
                  · grind
                  · grind
                  · show ∃ x, (List.toArray _)[d.base + off + i]? = some x ∧ _
                    rw [List.getElem?_toArray, seg_get c.toList news _ hfit']
                    rw [List.getElem?_append] at hi'
                    by_cases hlt : i < old.length
                    · rw [if_pos hlt, hog i (by omega)] at hi'
                      obtain ⟨x, hx1, hx2⟩ := b4 _ _ hi'
                      rw [if_neg (by omega)]
                      exact ⟨x, by rw [Array.getElem?_toList, Nat.add_assoc]; exact hx1, hx2.mono hle'⟩
                    · rw [if_neg hlt] at hi'
                      obtain ⟨x, hx1, hx2⟩ := n1.get _ _ hi'
                      have hlt2 := (List.getElem?_eq_some_iff.1 hi').1
                      rw [if_pos (by omega)]
                      refine ⟨x, ?_, hx2.mono hle'⟩
                      rw [← hx1]
                      congr 1
                      omega
                · have hne : h.next ≠ m' := Nat.ne_of_gt (hW.fresh _ _ hm')
                  rw [get_new] at hp
                  rw [if_neg (by exact hne)] at hp
                  rw [get_put _ _ (hW.fresh _ _ hd)] at hp
                  by_cases he : l = m'
                  · subst he
                    rw [if_pos rfl] at hp
                    cases hp
                    cases hlp
                  grind
            · exfalso; omega
          · have hfc : ∃ olds, VsRel Δ old olds ∧ (Builtin.firstCells sz len (.slice (some ⟨d.b, o, none⟩) len cap)).run P0 w.drew = .ok (Array.mk olds) w.drew := by
              rcases ho with ⟨rfl, ho1, ho2⟩ | ⟨rfl, ho1⟩
              · grind[loadCells_list,Builtin.firstCells]
              · have hl0 : len = 0 := by omega
                subst hl0
                have ho0 : old = [] := List.eq_nil_of_length_eq_zero (by rw [hol]; simp)
                subst ho0
                exact ⟨[], .nil, by simp [Builtin.firstCells, loadCells, loadCellsFrom]⟩
            obtain ⟨olds, c1, c2⟩ := hfc
            obtain ⟨Δ', y, w', e1, e2⟩ := fresh _ len cap olds old (h.put l (.cells e sz false false all)) rfl c1 (by rw [← c1.length, hol]) c2 hroom h4' h5' hWk rfl
            exact ⟨_, _, Δ', y, w', rfl, e1, e2⟩
    · cases h2
/-- An append. -/
theorem happend_ok (hW : WR Δ h w) {sT xT ty elem : Nat} {dx : TypeDesc} (hs : P0.underlying sT = some (.slice elem)) (hx : P0.underlying xT = some dx) (hi : ∀ k, dx ≠ .int k) {size by_ : Nat} {z : V}
    (hz : elemOf elem = some (size, by_, z)) {s x : V} {sv xv : Value} (hsv : VRel Δ s sv) (hxv : VRel Δ x xv) {r : R} (hv : happend elem size by_ s x h = some r) :
    ∃ v h' Δ' y w', r = .val v h' ∧ (Builtin.append_ #[sT, xT] ty #[sv, xv]).run P0 w = .ok y w' ∧ After Δ h w v h' Δ' y w' := by
  have hsz := (elemOf_eq hz).1
  unfold happend at hv
  rw [oB_eq] at hv
  obtain ⟨⟨m, cs⟩, h1, h2⟩ := hv
  obtain ⟨news, n1, n2, n3, n4⟩ := xcells_ok hW hxv h1
  have hWd : WR Δ h w.drew := hW.heap rfl
  obtain ⟨newsd, d1, d2, d3, d4⟩ := xcells_ok hWd hxv h1
  exact happendN_ok hW hz hsv n1 n4 d1 d4 (fun a b c => run_append_room' hs hx hi hsz (n2 w) n3 a b c) (fun a b c d => run_append_grow' (ty := ty) hs hx hi hz (n2 w) a d3 b c d) h2
theorem run_append_roomM {sT xT ty elem : Nat} {kx : IntKind} (hs : P0.underlying sT = some (.slice elem)) (hx : P0.underlying xT = some (.int kx)) {size by_ : Nat} {z : V} (hz : elemOf elem = some (size, by_, z))
    {base : Option Addr} {sLen sCap m : Nat} {zv : Value} (hzv : ∀ w, (zeroValue elem).run P0 w = .ok zv w) (_hzs : zv.cells.size = size) (hp : 0 < m) (hm : m ≤ 70368744177664) (hmb : m * by_ ≤ 70368744177664)
    (hroom : sLen + m ≤ sCap) {w' : World} (hst : ∀ b, base = some b → (storeCells (b.add (sLen * size)) (Builtin.zeroCells zv.cells m).toList 0).run P0 w = .ok () w') (hw : base = none → w' = w) :
    (Builtin.append_ #[sT, xT] ty #[.slice base sLen sCap, .int .i64 m]).run P0 w = .ok (.slice base (sLen + m) sCap) w' := by
  obtain ⟨hsz, hby, hzv', hpos, hzl, _⟩ := elemOf_eq hz
  obtain ⟨i, hi', his⟩ := info_of_sz hsz
  have hib : i.bytes = by_ := by
    unfold byOf at hby
    rw [oB_eq] at hby
    obtain ⟨i', h1, h2⟩ := hby
    rw [hi'] at h1; cases h1; simpa using h2
  have hz' := run_sz (w := w) hsz
  have wr : IntKind.i64.wrap (m : Int) = m := by grind[IntKind.wrap,IntKind.bits,IntKind.signed]
  have hneg : ¬ ((m : Int) < 0) := by omega
  have ha : ∀ w, (asInt (.int .i64 (m : Int))).run P0 w = .ok (m : Int) w := fun _ => rfl
  have hbig : ¬ (281474976710656 < (m : Int) * (i.bytes : Int)) := by
    rw [hib, ← Int.natCast_mul]
    omega
  have hm0 : ¬ (m * size = 0) := fun e => by rcases Nat.mul_eq_zero.1 e with h | h <;> omega
  cases base with
  | none =>
    cases hw rfl
    simp [Builtin.append_, run_und hs, run_und hx, hz', typeInfo, hi', ha, wr, hneg, hbig, hroom, hzv]
  | some b =>
    have hst' := hst b rfl
    simp [Builtin.append_, run_und hs, run_und hx, hz', typeInfo, hi', ha, wr, hneg, hbig, hroom, hm0, hzv, hst']
theorem run_append_growM {sT xT ty elem : Nat} {kx : IntKind} (hs : P0.underlying sT = some (.slice elem)) (hx : P0.underlying xT = some (.int kx)) {size by_ : Nat} {z : V} (hz : elemOf elem = some (size, by_, z))
    {base : Option Addr} {sLen sCap m : Nat} {zv : Value} (hzv : ∀ w, (zeroValue elem).run P0 w = .ok zv w) (hzs : zv.cells.size = size) (hp : 0 < m) {olds : List Value}
    (hold : (Builtin.firstCells size sLen (.slice base sLen sCap)).run P0 w.drew = .ok (Array.mk olds) w.drew) (hg : ¬ sLen + m ≤ sCap) (hb : (sLen + m) * by_ ≤ 70368744177664) (hm : sLen + m ≤ 70368744177664) :
    ∃ zc, zc.size = size ∧ (Builtin.append_ #[sT, xT] ty #[.slice base sLen sCap, .int .i64 m]).run P0 w = .ok (.slice (some ⟨w.heap.size, 0, none⟩) (sLen + m) (grownCap w (sLen + m) sCap elem))
      (w.drew.alloc (.cells (Array.mk olds ++ Array.mk (Builtin.zeroCells zv.cells m).toList ++ Builtin.zeroCells zc (grownCap w (sLen + m) sCap elem - (sLen + m))) elem)) := by
  obtain ⟨hsz, hby, hzv', hpos, hzl, _⟩ := elemOf_eq hz
  obtain ⟨zv2, hzr, hzvr, i, hi', hzi⟩ := run_zero hzv'
  obtain rfl : zv = zv2 := by
    have := (hzv w).symm.trans (hzr w)
    injection this
  have hib : i.bytes = by_ := by
    unfold byOf at hby
    rw [oB_eq] at hby
    obtain ⟨i', h1, h2⟩ := hby
    rw [hi'] at h1; cases h1; simpa using h2
  have his : i.size = size := by
    obtain ⟨i', h1, h2⟩ := info_of_sz hsz
    rw [hi'] at h1; cases h1; exact h2
  have hmb : m * by_ ≤ 70368744177664 := Nat.le_trans (Nat.mul_le_mul_right _ (Nat.le_add_left _ _)) hb
  have hfit : Builtin.nextslicecap (sLen + m) sCap * i.bytes ≤ 281474976710656 := growslice_fits (by omega) (by grind)
  have h48' : ¬ (281474976710656 < Builtin.nextslicecap (sLen + m) sCap * i.bytes) := by omega
  have h63' : ¬ (9223372036854775807 < ((sLen : Int) + (m : Int))) := by omega
  have wr : IntKind.i64.wrap (m : Int) = m := by grind[IntKind.wrap,IntKind.bits,IntKind.signed]
  have hneg : ¬ ((m : Int) < 0) := by omega
  have ha : ∀ w, (asInt (.int .i64 (m : Int))).run P0 w = .ok (m : Int) w := fun _ => rfl
  have hbig : ¬ (281474976710656 < (m : Int) * (i.bytes : Int)) := by
    rw [hib, ← Int.natCast_mul]
    omega
  refine ⟨zv.cells, hzs, ?_⟩
  rw [← his] at hold
  have hq : (Question.appendCap (sLen + m) sCap elem).forced = false := rfl
  have hm0 : ¬ (m * i.size = 0) := fun e => by rcases Nat.mul_eq_zero.1 e with h | h <;> omega
  simp [Builtin.append_, run_und hs, run_und hx, sizeOf, typeInfo, zeroValue, hi', hzi, ha, wr, hneg, hbig, hg, h63', h48', hq, hold, newRow, grownCap, hm0]
/-- So many noughts. -/
theorem happendM_ok (hW : WR Δ h w) {sT xT ty elem : Nat} {kx : IntKind} (hs : P0.underlying sT = some (.slice elem)) (hx : P0.underlying xT = some (.int kx)) {size by_ : Nat} {z : V}
    (hz : elemOf elem = some (size, by_, z)) {s x : V} {sv xv : Value} (hsv : VRel Δ s sv) (hxv : VRel Δ x xv) {r : R} (hv : happendM elem size by_ z s x h = some r) :
    ∃ v h' Δ' y w', r = .val v h' ∧ (Builtin.append_ #[sT, xT] ty #[sv, xv]).run P0 w = .ok y w' ∧ After Δ h w v h' Δ' y w' := by
  obtain ⟨hsz, hby, hzv, hpos, hzl, _⟩ := elemOf_eq hz
  obtain ⟨zv, hzr, hzvr, _⟩ := run_zero hzv
  have hzc := (hzvr Δ).cells
  have hzs : zv.cells.size = size := by
    have := hzc.length
    simp only [Array.length_toList] at this
    omega
  unfold happendM at hv
  split at hv
  · rename_i n
    simp only [bB_eq] at hv
    obtain ⟨h1, h2, h3⟩ := hv
    have h1' : (n + 1) * by_ ≤ 70368744177664 := Nat.le_of_ble_eq_true h1
    have h2' : n + 1 ≤ 70368744177664 := Nat.le_of_ble_eq_true h2
    cases hxv
    have hrel : VsRel Δ (repl (n + 1) z.cells) (Builtin.zeroCells zv.cells (n + 1)).toList := by
      have := repl_rel hzc (by omega) (n + 1)
      rw [hzl, ← hzs] at this
      exact this
    have hlen : (Builtin.zeroCells zv.cells (n + 1)).toList.length = (n + 1) * size := by simp [Builtin.zeroCells, hzs]
    exact happendN_ok hW hz hsv hrel hlen hrel hlen (fun a b c => run_append_roomM hs hx hz hzr hzs (Nat.succ_pos n) h2' h1' a b c) (fun a b c d => run_append_growM hs hx hz hzr hzs (Nat.succ_pos n) a b c d) h3
  · cases hv
end
end Go.Proofs.YtgfdhkhcojjkjaaGreatDoor.Hx
