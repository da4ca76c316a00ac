/- A function that goes over a map in its one loop, in whatever order: what it comes to, by a run of each order. -/
import Derived.Test.YtgfdhkhcojjkjaaGreatDoorHxLp
namespace Go.Proofs.YtgfdhkhcojjkjaaGreatDoor.Hx
section
variable {Δ : Env} {h : Hp} {w : World} {n : Nat} {t : Tm} {a : Act}
theorem run_choose (q : Question) (w : World) : (choose q).run P0 w = if q.forced then .ok 0 w else .ok (q.cut (w.tape w.drawn q)) { w with drawn := w.drawn + 1 } := by
  unfold choose
  simp only [Sem.run]
theorem next_pick (hW : WR Δ h w) {r m c : Nat} {seen : List Nat} {es : List (V × V × Nat)} {iv : Value} {ty : Nat} (hi : VRel Δ (.ptr r 0) iv) (hg : h.get r = some (.iter (some m) c seen c)) (hm : h.get m = some (.map es c)) (hbn : ∀ e ∈ es, e.2.2 < c) :
    ∃ x w', (Instr.next iv false ty).run P0 w = .ok x w' ∧ (((∀ e ∈ es, e.2.2 ∈ seen) ∧ x = .tuple #[.bool false] ∧ w' = w) ∨
      ∃ e ∈ es, e.2.2 ∉ seen ∧ After Δ h w (.tuple [.bool true, e.1, e.2.1]) (h.put r (.iter (some m) c (seen ++ [e.2.2]) c)) Δ x w') := by
  cases hi with
  | ptr _ _ d hd =>
    obtain ⟨o', ho, hr⟩ := hW.obj r d hd
    rw [hg] at ho; cases ho
    obtain ⟨a1, a2, a3, m', a4, dm, hdm, rfl⟩ := hr
    obtain ⟨es', hb, he⟩ := map_ok hW hdm hm
    have hlt : ∀ e' ∈ es'.toList, e'.born < c := fun e' h' => by
      obtain ⟨i, hi⟩ := List.mem_iff_getElem?.1 h'
      have hi2 : i < es.length := by rw [he.length]; exact (List.getElem?_eq_some_iff.1 hi).1
      obtain ⟨e2, g1, _, _, g4⟩ := he.get (i := i) (List.getElem?_eq_getElem hi2)
      rw [hi] at g1; cases g1
      rw [g4]; exact hbn _ (List.getElem_mem hi2)
    have hchk' : (!seen.toArray.isEmpty && !es'.isEmpty && es'.all (fun e => decide (e.born ≥ c))) = false := by
      cases hx : es'.toList with
      | nil => have : es'.isEmpty = true := by rw [← Array.isEmpty_toList, hx]; rfl
               rw [this]; simp
      | cons e l =>
        have h0 := hlt e (by rw [hx]; simp)
        have : es'.all (fun e => decide (e.born ≥ c)) = false := by
          rw [← Array.all_toList, hx, List.all_cons, decide_eq_false (by omega)]; rfl
        rw [this]; simp
    have hleft := filter_rel he (fun n => !seen.contains n)
    have hl' : (es'.filter fun e => !seen.toArray.contains e.born) = Array.mk (es'.toList.filter fun e => !seen.contains e.born) := by
      apply Array.ext'
      rw [Array.toList_filter]
      simp
    rw [a3]
    generalize hL : (es'.toList.filter fun e => !seen.contains e.born) = L at hleft hl'
    have hLm : ∀ e ∈ L, e.born < c := fun e h' => by rw [← hL] at h'; exact hlt e (List.mem_filter.1 h').1
    have f1 : (Array.mk L).filter (fun x => decide (x.born < c)) = Array.mk L := by
      apply Array.ext'
      rw [Array.toList_filter]
      exact List.filter_eq_self.2 fun e h' => decide_eq_true (hLm e h')
    have f2 : (Array.mk L).filter (fun x => decide (x.born ≥ c)) = #[] := by
      apply Array.ext'
      rw [Array.toList_filter]
      exact List.filter_eq_nil_iff.2 fun e h' => by simp; exact hLm e h'
    cases L with
    | nil =>
      refine ⟨_, w, ?_, .inl ⟨fun e h' => ?_, rfl, rfl⟩⟩
      · simp only [Instr.next, Sem.run_bind, run_getObj_iter a4, Result.andThen_ok, run_getObj_map hb, hchk', hl', f1, f2]
        simp [Question.forced]
      · cases hleft' : es.filter (fun e => !seen.contains e.2.2) with
        | nil =>
          have := List.filter_eq_nil_iff.1 hleft' e h'
          simpa using this
        | cons x y => rw [hleft'] at hleft; cases hleft
    | cons e0 L =>
      have hj : ∃ j w1, (choose (.mapNext (e0 :: L).length)).run P0 w = .ok j w1 ∧ j < (e0 :: L).length ∧ (w1 = w ∨ w1 = { w with drawn := w.drawn + 1 }) := by
        rw [run_choose]
        split
        · exact ⟨0, w, rfl, by simp, .inl rfl⟩
        · exact ⟨_, _, rfl, Nat.mod_lt _ (by simp), .inr rfl⟩
      obtain ⟨j, w1, hc, hjl, hw1⟩ := hj
      have hjs : j < (es.filter fun e => !seen.contains e.2.2).length := by rw [hleft.length]; exact hjl
      obtain ⟨e', g1, g2, g3, g4⟩ := hleft.get (i := j) (List.getElem?_eq_getElem hjs)
      generalize hee : (es.filter fun e => !seen.contains e.2.2)[j] = e at g2 g3 g4
      have hem : e ∈ es.filter fun e => !seen.contains e.2.2 := by rw [← hee]; exact List.getElem_mem hjs
      obtain ⟨hem1, hem2⟩ := List.mem_filter.1 hem
      have hdb := hW.blk _ _ hd
      have hw1h : w1.heap = w.heap := by rcases hw1 with rfl | rfl <;> rfl
      have hother : ∀ b, b ≠ d.b → ({ w1 with heap := w.heap.setIfInBounds d.b (.mapIter (some dm.b) c (seen ++ [e.2.2]).toArray c) } : World).heap[b]? = w.heap[b]? := by grind
      refine ⟨.tuple #[.bool true, e'.key, e'.val], { w1 with heap := w.heap.setIfInBounds d.b (.mapIter (some dm.b) c (seen ++ [e.2.2]).toArray c) }, ?_, .inr ⟨e, hem1, by simpa using hem2, ?_⟩⟩
      · have hcand : (((if (Array.mk (e0 :: L)).isEmpty then #[none] else #[]) ++ (Array.mk (e0 :: L) ++ #[]).map some : Array (Option MapEntry)))[j]? = some (some e') := by
          simp only [Array.isEmpty_iff, Array.append_empty]
          rw [if_neg (by simp)]
          simp only [Array.empty_append, List.map_toArray, List.getElem?_toArray, List.getElem?_map, g1, Option.map_some]
        have hsz : ((if (Array.mk (e0 :: L)).isEmpty then #[none] else #[]) ++ (Array.mk (e0 :: L) ++ #[]).map some : Array (Option MapEntry)).size = (e0 :: L).length := by simp
        simp only [Instr.next, Sem.run_bind, run_getObj_iter a4, Result.andThen_ok, run_getObj_map hb, hchk', hl', f1, f2]
        rw [if_neg (by simp), hsz]
        simp only [Sem.run_bind, hc, Result.andThen_ok, hcand]
        have hset : (setObj d.b (.mapIter (some dm.b) c (seen.toArray.push e'.born) c)).run P0 w1 = .ok () { w1 with heap := w.heap.setIfInBounds d.b (.mapIter (some dm.b) c (seen ++ [e.2.2]).toArray c) } := by
          have hgi : w1.heap[d.b]? = some (.mapIter (some dm.b) c seen.toArray c) := by rw [hw1h]; exact a4
          have hp : seen.toArray.push e'.born = (seen ++ [e.2.2]).toArray := by rw [g4]; simp
          rw [hp]
          unfold setObj
          simp only [Sem.run, hgi]
          rw [hw1h]
        simp only [Sem.run_bind, hset, Result.andThen_ok, Sem.run_pure]
      · have hos : w1.os = w.os ∧ w1.tape = w.tape ∧ w1.output = w.output := by rcases hw1 with rfl | rfl <;> exact ⟨rfl, rfl, rfl⟩
        refine ⟨.tuple _ #[.bool true, e'.key, e'.val] (.cons _ _ _ _ (.bool true) (.cons _ _ _ _ g2 (.one g3))), ?_, FR.set hd a2 (by simp) hother hos.1 hos.2.1 hos.2.2, .same (Nat.le_refl _)⟩
        refine hW.set hd hg rfl a2 (fun h => h) ⟨a1, a2, a3, some dm.b, ?_, dm, hdm, rfl⟩ (by simp) hother
        simp_all
theorem regC_cons {call : Call} {all os : List Oper} {o : Oper} {d : DF} (hg : o.guard = none) (hd : dstC n o = some d) (hq : deferC o = none) {v : V} {h' : Hp} (ho : (opC o).f call t h = some (v, h')) :
    (regionC n all (o :: os)).f call t h = (regionC n all os).f call (d.f t v) h' := by
  show (stepC n all o (regionC n all os)).f call t h = _
  have hw : wantC n all o = none := by unfold wantC; rw [hg]
  unfold stepC
  simp only [hd, hw, hq, ho]
  rfl
theorem dst_some {o : Oper} {d : Nat} (ho : o.dst = some d) (hd : Nat.blt d n = true) : dstC n o = some ⟨fun t v => t.set d v⟩ := by
  unfold dstC
  simp only [ho, hd]
end
/-- Code that has one loop in its midst. -/
def cutM : Code → Option (Code × Nat × Code × Code)
  | .seq (.seq a (.block id (.loop c))) post => some (a, id, c, post)
  | .seq (.block id (.loop c)) post => some (.skip, id, c, post)
  | .seq a b => match cutM b with
    | some r => some (.seq a r.1, r.2)
    | none => none
  | _ => none
/-- The head of such a loop: the iterator, what it gives, whether it gives; what follows. -/
noncomputable def headOf : Code → Option (Nat × Nat × Nat × Code)
  | .seq (.region _ ops false) rest => match ops.toList with
    | [⟨some a, .next (.tmp it) false, _, _, _, none⟩, ⟨some c, .extract (.tmp a') 0, _, _, _, none⟩] => bB (Nat.beq a a') (some (it, a, c, rest))
    | _ => none
  | _ => none
theorem headOf_eq {cde rest : Code} {it a c : Nat} (h : headOf cde = some (it, a, c, rest)) : ∃ id ops y1 p1 f1 y2 p2 f2, cde = .seq (.region id ops false) rest ∧ ops.toList = [⟨some a, .next (.tmp it) false, y1, p1, f1, none⟩, ⟨some c, .extract (.tmp a) 0, y2, p2, f2, none⟩] := by
  unfold headOf at h
  split at h
  · rename_i id ops rest'
    split at h
    · rename_i a1 it1 y1 p1 f1 c1 a2 y2 p2 f2 ho
      rw [bB_eq] at h
      obtain ⟨h1, h2⟩ := h
      obtain rfl := Nat.eq_of_beq_eq_true h1
      cases h2
      exact ⟨_, _, _, _, _, _, _, _, rfl, ho⟩
    · cases h
  · cases h
/-- All of these, in a row. -/
noncomputable def allO {α β : Type} (f : α → Option (List β)) : List α → Option (List β)
  | [] => some []
  | x :: l => oB (f x) fun a => oB (allO f l) fun b => some (a ++ b)
theorem allO_mem {α β : Type} {f : α → Option (List β)} : ∀ {l : List α} {r : List β}, allO f l = some r → ∀ x ∈ l, ∃ a, f x = some a ∧ ∀ y ∈ a, y ∈ r
  | [], _, _, _, hx => by cases hx
  | z :: l, r, h, x, hx => by
    simp only [allO, oB_eq] at h
    obtain ⟨a, h1, b, h2, h3⟩ := h
    cases h3
    rcases List.mem_cons.1 hx with rfl | hx
    · exact ⟨a, h1, fun y hy => List.mem_append_left _ hy⟩
    · obtain ⟨a', h4, h5⟩ := allO_mem h2 x hx
      exact ⟨a', h4, fun y hy => List.mem_append_right _ (h5 y hy)⟩
/-- What all orders come to. -/
noncomputable def outs {β : Type} (call : Call) (m n it a c id : Nat) (rest : Code) (fin : Tm → Hp → Option β) : Nat → Tm → Hp → Option (List β)
  | 0, _, _ => none
  | k + 1, t, h => match tget t it with
    | .ptr r 0 => match h.get r with
      | some (.iter (some mm) ck seen ck') => bB (Nat.beq ck ck') (match h.get mm with
        | some (.map es ck2) => bB (Nat.beq ck ck2) <| bB (es.all (fun e => Nat.blt e.2.2 ck)) <| match es.filter (fun e => !seen.contains e.2.2) with
          | [] => (match (codeC n rest).f call m ((t.set a (.tuple [.bool false])).set c (.bool false)) h with
            | some (.exit j, t2, h2) => bB (Nat.beq j id) (oB (fin t2 h2) fun y => some [y])
            | _ => none)
          | x :: l => allO (fun e => match (codeC n rest).f call m ((t.set a (.tuple [.bool true, e.1, e.2.1])).set c (.bool true)) (h.put r (.iter (some mm) ck (seen ++ [e.2.2]) ck)) with
            | some (.normal, t2, h2) => outs call m n it a c id rest fin k t2 h2
            | _ => none) (x :: l)
        | _ => none)
      | _ => none
    | _ => none
section
variable {β : Type} {call : Call} {n m it a c id : Nat} {cde rest : Code} {fin : Tm → Hp → Option β}
theorem outs_loop (hc : CallOk call) (hmix : P0.follows .mixedOrders = true) (hH : headOf cde = some (it, a, c, rest)) (ha : Nat.blt a n = true) (hcn : Nat.blt c n = true) {Δ0 : Env} {h0 : Hp} {w0 : World} {Q : Exit → Act → World → Prop} {P : β → Prop}
    (hQ : ∀ t h Δ' a' w' y, Goes Δ0 h0 w0 n t h Δ' a' w' → fin t h = some y → P y → Q (.exit id) a' w') :
    ∀ (k : Nat) {Δ : Env} {h : Hp} {w : World} {t : Tm} {s : Act} {l : List β}, Goes Δ0 h0 w0 n t h Δ s w → outs call m n it a c id rest fin k t h = some l → (∀ y ∈ l, P y) → LoopWp cde Q s w := by
  obtain ⟨i0, r0, y1, p1, f1, y2, p2, f2, rfl, e0⟩ := headOf_eq hH
  have hr0 : List.range r0.size = [0, 1] := by
    have : r0.size = 2 := by rw [← Array.length_toList, e0]; rfl
    rw [this]; rfl
  have ho1 : r0[0]? = some ⟨some a, .next (.tmp it) false, y1, p1, f1, none⟩ := by rw [← Array.getElem?_toList, e0]; rfl
  intro k
  induction k with
  | zero => intro Δ h w t s l _ hv; cases hv
  | succ k ih =>
    intro Δ h w t s l hG hv hP
    unfold outs at hv
    split at hv
    · rename_i r hit
      split at hv
      · rename_i mm ck seen ck' hir
        rw [bB_eq] at hv
        obtain ⟨hk1, hv⟩ := hv
        obtain rfl := Nat.eq_of_beq_eq_true hk1
        split at hv
        · rename_i es ck2 hmg
          rw [bB_eq, bB_eq, List.all_eq_true] at hv
          obtain ⟨hk2, hbn, hv⟩ := hv
          obtain rfl := Nat.eq_of_beq_eq_true hk2
          have hiv : VRel Δ (.ptr r 0) (s.eval (.tmp it)) := by
            have := hG.tmps.rel it
            rw [hit] at this
            exact this
          refine .round (wp_seq (wp_region ?_))
          rw [hr0, wpOps_cons]
          unfold wpOp
          simp only [ho1]
          rw [if_pos (want_none (n := n) (ops := r0.toList) rfl _)]
          refine .inl ?_
          unfold Oper.wp
          obtain ⟨x, w1, hx, hcase⟩ := next_pick hG.world (ty := y1) hiv hir hmg (fun e he => by have := hbn e he; simpa using this)
          rw [show (execOp s.eval ⟨some a, .next (.tmp it) false, y1, p1, f1, none⟩).run P0 w = .ok (.value x) w1 from run_v hx, Oper.upon_value]
          have d1 := dst_some (n := n) (o := ⟨some a, .next (.tmp it) false, y1, p1, f1, none⟩) rfl ha
          have ext : ∀ {h : Hp} (v : V) (vs : List V), (opC ⟨some c, .extract (.tmp a) 0, y2, p2, f2, none⟩).f call (t.set a (.tuple (v :: vs))) h = some (v, h) := fun v vs => by
            show oB (oB (some (tget (t.set a (.tuple (v :: vs))) a)) fun x => match x with | .tuple vs => at1 vs 0 | _ => none) _ = _
            rw [tget_set, if_pos rfl]
            rfl
          have reg0 : ∀ {h : Hp} (v : V) (vs : List V), (regionC n r0.toList [⟨some c, .extract (.tmp a) 0, y2, p2, f2, none⟩]).f call (t.set a (.tuple (v :: vs))) h = some ((t.set a (.tuple (v :: vs))).set c v, h) := fun v vs => by
            rw [regC_cons rfl (dst_some rfl hcn) rfl (ext v vs)]
            rfl
          have after0 : ∀ {v : V} {vs : List V} {h1 : Hp} {Δ1 : Env} {Q2 : Exit → Act → World → Prop}, After Δ h w (.tuple (v :: vs)) h1 Δ1 x w1 → (∀ Δ2 a2 w2, Goes Δ0 h0 w0 n ((t.set a (.tuple (v :: vs))).set c v) h1 Δ2 a2 w2 → Q2 .normal a2 w2) →
              wpOps P0 r0 Q2 [1] (s.put (some a) x) w1 := fun hA hK => by
            have hP := Goes.put hG.tmps d1 hA
            exact region_wp hc (ops := r0) [⟨some c, .extract (.tmp a) 0, y2, p2, f2, none⟩] 1 (by rw [e0]; rfl) hP.world hP.tmps (reg0 _ _) (fun Δ2 a2 w2 h2 => hK Δ2 a2 w2 ((hG.trans hP).trans h2))
          rcases hcase with ⟨hall, rfl, rfl⟩ | ⟨e, he, hes, hA⟩
          · refine after0 (v := .bool false) (vs := []) ⟨.tuple _ #[.bool false] (.one (.bool false)), hG.world, .refl _ _, .refl _ _⟩ fun Δ2 a2 w2 h2 => ?_
            have hnil : es.filter (fun e => !seen.contains e.2.2) = [] := List.filter_eq_nil_iff.2 fun e he => by simpa using hall e he
            rw [hnil] at hv
            simp only at hv
            split at hv
            · rename_i j t2 h2' hrun
              rw [bB_eq, oB_eq] at hv
              obtain ⟨hj, y, hf, hy⟩ := hv
              cases hy
              obtain rfl := Nat.eq_of_beq_eq_true hj
              refine code_wp hc hmix rest h2.world h2.tmps hrun fun Δ' a' w' hg => ?_
              exact hQ _ _ _ _ _ _ (h2.trans hg) hf (hP _ (List.mem_singleton.2 rfl))
            · cases hv
          · refine after0 hA fun Δ2 a2 w2 h2 => ?_
            have hmem : e ∈ es.filter (fun e => !seen.contains e.2.2) := List.mem_filter.2 ⟨he, by simpa using hes⟩
            have hv' : allO (fun e => match (codeC n rest).f call m ((t.set a (.tuple [.bool true, e.1, e.2.1])).set c (.bool true)) (h.put r (.iter (some mm) ck (seen ++ [e.2.2]) ck)) with
                | some (.normal, t2, h2) => outs call m n it a c id rest fin k t2 h2
                | _ => none) (es.filter (fun e => !seen.contains e.2.2)) = some l := by
              generalize es.filter (fun e => !seen.contains e.2.2) = fl at hv hmem ⊢
              cases fl with
              | nil => cases hmem
              | cons x l => exact hv
            obtain ⟨l2, hv2, hl2⟩ := allO_mem hv' e hmem
            split at hv2
            · rename_i t2 h2' hrun
              refine code_wp hc hmix rest h2.world h2.tmps hrun fun Δ' a' w' hg => ?_
              exact ih (h2.trans hg) hv2 fun y hy => hP y (hl2 y hy)
            · cases hv2
        · cases hv
      · cases hv
    · cases hv
theorem cut_wp (hc : CallOk call) (hmix : P0.follows .mixedOrders = true) {Q : Exit → Act → World → Prop} {pre post : Code} : ∀ {c0 : Code}, cutM c0 = some (pre, id, cde, post) → ∀ {pre' : Code}, pre' = pre → ∀ {Δ : Env} {h : Hp} {w : World} {t : Tm} {s : Act}, WR Δ h w → TR Δ n t s → ∀ {t1 : Tm} {h1 : Hp}, (codeC n pre').f call m t h = some (.normal, t1, h1) →
    (∀ Δ' a' w', Goes Δ h w n t1 h1 Δ' a' w' → (Code.block id (.loop cde)).wp P0 (Exit.then (fun a w => post.wp P0 Q a w) Q) a' w') → c0.wp P0 Q s w := by
  intro c0
  induction c0 generalizing pre with
  | seq x y _ ih =>
    intro hcut pre' he Δ h w t s hW hT t1 h1 hv hK
    subst he
    unfold cutM at hcut
    split at hcut
    · rename_i x' id' c' post' he
      cases hcut
      cases he
      exact wp_seq (wp_seq (code_wp hc hmix _ hW hT hv fun Δ' a' w' hg => hK _ _ _ hg))
    · rename_i id' c' post' _ he
      cases hcut
      cases he
      cases hv
      exact wp_seq (hK _ _ _ (.start hT hW))
    · rename_i a' b' _ _ he
      cases he
      split at hcut
      · rename_i r hr
        obtain ⟨p, i, l, q⟩ := r
        cases hcut
        refine wp_seq ?_
        rcases seqK_eq hv with ⟨t2, h2, e1, e2⟩ | ⟨e1, e2⟩
        · exact code_wp hc hmix x hW hT e1 fun Δ' a' w' hg => ih hr rfl hg.world hg.tmps e2 fun Δ'' a'' w'' hg' => hK _ _ _ (hg.trans hg')
        · exact absurd rfl e2
      · cases hcut
    · rename_i he
      exact absurd rfl (he x y)
  | _ => intro hcut; cases hcut
end
/-- A function whose one loop goes over a map. -/
theorem map_call {β : Type} {C : Cfg} (hF : Facts C) {M d k f it a c id : Nat} {fn : Func} {c0 pre cde post rest : Code} (hf : P0.funcs[f]? = some fn) (hb : fn.body = some c0) (hcut : cutM c0 = some (pre, id, cde, post)) (hH : headOf cde = some (it, a, c, rest))
    (hlt : (Nat.blt a fn.ntmps && Nat.blt c fn.ntmps) = true) {args : List V} {h : Hp} (hle : Nat.ble args.length fn.ntmps = true) {fin : V → Hp → Option β} {P : β → Prop} {l : List β} (hP : ∀ y ∈ l, P y)
    (hv : (match (codeC fn.ntmps pre).f (callN C M d) M (C.start args) h with
      | some (.normal, t1, h1) => outs (callN C M d) M fn.ntmps it a c id rest (fun t2 h2 => oB (oB ((codeC fn.ntmps post).f (callN C M d) M t2 h2) (dendC fn)) fun r => fin r.1 r.2) k t1 h1
      | _ => none) = some l)
    {Δ : Env} {w : World} {args' : Array Value} (hW : WR Δ h w) (ha : VsRel Δ args args'.toList) :
    Calls P0 f args' w fun e w' => ∃ Δ' x u h' y, e = .returned x ∧ fin u h' = some y ∧ P y ∧ After Δ h w u h' Δ' x w' := by
  have hc := callN_ok hF M d
  simp only [Bool.and_eq_true] at hlt
  split at hv
  · rename_i t1 h1 hpre
    refine calls_of_wp hf hb ?_
    refine cut_wp hc hF.mixed hcut rfl hW (start_rel hF ha (Nat.le_of_ble_eq_true hle)) hpre fun Δ1 a1 w1 g1 => ?_
    refine wp_block (LoopWp.wp (outs_loop hc hF.mixed hH hlt.1 hlt.2 (Δ0 := Δ) (h0 := h) (w0 := w) (P := P) (fun t h2 Δ' a' w' y hg hfin hy => ?_) k g1 hv hP))
    show (if id = id then _ else _)
    rw [if_pos rfl]
    rw [oB_eq] at hfin
    obtain ⟨⟨u, h3⟩, hpost, hfin⟩ := hfin
    rw [oB_eq] at hpost
    obtain ⟨rr, q1, q2⟩ := hpost
    refine code_wp hc hF.mixed post hg.world hg.tmps q1 fun Δ2 a2 w2 hg2 => ?_
    obtain ⟨hx, hd', z, hz, Δ3, z', hzz, hA⟩ := dend_ok (hg.trans hg2) q2
    cases hzz
    rcases hx with hx | hx <;> rw [hx] <;> exact ⟨hd', z, hz, Δ3, z, u, h3, y, rfl, hfin, hy, hA⟩
  · cases hv

/-! ### a told call of such a function -/
noncomputable def RT.wfB (s : RT) : Bool := s.hs.all O.live && lies s.hp (numR s.g s.hs)
/-- A run of each order. -/
noncomputable def RT.mapRun (C : Cfg) (M d k it a c id n : Nat) (pre rest post : Code) (fn : Func) (nw : V → Hp → List Nat) (s : RT) : Bool :=
  s.wfB && (match (codeC n pre).f (callN C M d) M (C.start s.args) s.hp with
    | some (.normal, t1, h1) => (outs (callN C M d) M n it a c id rest (fun t2 h2 => oB (oB ((codeC n post).f (callN C M d) M t2 h2) (dendC fn)) fun r => bB (s.outB (nw r.1 r.2) r.1 r.2) (some ())) k t1 h1).isSome
    | _ => false)
theorem RT.ok_map {C : Cfg} (hF : Facts C) {s : RT} {M d k it a c id : Nat} {fn : Func} {c0 pre cde post rest : Code} (hg : P0.globals.size ≤ s.g) (nw : V → Hp → List Nat) (hf : P0.funcs[s.f]? = some fn) (hb : fn.body = some c0) (hcut : cutM c0 = some (pre, id, cde, post)) (hH : headOf cde = some (it, a, c, rest))
    (hlt : (Nat.blt a fn.ntmps && Nat.blt c fn.ntmps) = true) (hle : Nat.ble s.args.length fn.ntmps = true) (hv : s.mapRun C M d k it a c id fn.ntmps pre rest post fn nw = true) : s.Ok := by
  unfold RT.mapRun RT.wfB at hv
  simp only [Bool.and_eq_true] at hv
  obtain ⟨⟨h1, h2⟩, h3⟩ := hv
  refine ⟨⟨hg, h1, lies_get h2⟩, fun Δ w args' hW ha => ?_⟩
  split at h3
  · rename_i t1 h4 hpre
    obtain ⟨l, hl⟩ := Option.isSome_iff_exists.1 h3
    refine Calls.mono (map_call hF hf hb hcut hH hlt hle (fin := fun u h => bB (s.outB (nw u h) u h) (some ())) (P := fun _ => True) (k := k) (l := l) (fun _ _ => trivial) (by rw [hpre]; exact hl) hW ha) fun e w' he => ?_
    obtain ⟨Δ', x, u, h', y, rfl, q1, _, q2⟩ := he
    rw [bB_eq] at q1
    exact ⟨Δ', x, u, h', _, rfl, q2, s.outB_out q1.1⟩
  · cases h3
end Go.Proofs.YtgfdhkhcojjkjaaGreatDoor.Hx
/- Told calls, found: a call is compared, row by row, with those that are told. -/
namespace Go.Proofs.YtgfdhkhcojjkjaaGreatDoor.Hx
noncomputable def bump (g l a : Nat) (L : List Nat) : List Nat := Bool.rec L (L ++ [a]) (Nat.beq l (g + L.length))
noncomputable section
mutual
/-- The places that a value names, in the order in which the told call names them. -/
def bindV (g : Nat) : V → V → List Nat → List Nat
  | .ptr l _, .ptr a _, L => bump g l a L
  | .slice l _ _, .slice a _ _, L => bump g l a L
  | .map l, .map a, L => bump g l a L
  | .agg x, .agg y, L => bindVs g x y L
  | .tuple x, .tuple y, L => bindVs g x y L
  | .iface _ x, .iface _ y, L => bindV g x y L
  | .func _ x c, .func _ y d, L => bindVs g c d (bindVs g x y L)
  | _, _, L => L
def bindVs (g : Nat) : List V → List V → List Nat → List Nat
  | x :: xs, y :: ys, L => bindVs g xs ys (bindV g x y L)
  | _, _, L => L
end
def bindE (g : Nat) : List (V × V × Nat) → List (V × V × Nat) → List Nat → List Nat
  | x :: xs, y :: ys, L => bindE g xs ys (bindV g x.2.1 y.2.1 (bindV g x.1 y.1 L))
  | _, _, L => L
def bindO (g : Nat) : O → O → List Nat → List Nat
  | .cells _ _ _ _ x, .cells _ _ _ _ y, L => bindVs g x y L
  | .map x _, .map y _, L => bindE g x y L
  | _, _, L => L
/-- Row by row: nothing, where a row is not known; else where the rows lie, if they are those told. -/
def bindR (g : Nat) (H : Hp) : List O → Nat → List Nat → Option (Option (List Nat))
  | [], _, L => some (some L)
  | o :: os, i, L => Option.rec (motive := fun _ => Option (Option (List Nat))) (some none) (fun a => oB (H.get a) fun q => Option.rec (motive := fun _ => Option (Option (List Nat))) (some none) (fun p => Bool.rec (some none) (bindR g H os (i + 1) (bindO g o q L)) (O.eqB p q)) (o.ren (rn g (bindO g o q L)))) (nth L i)
def RT.bind (s : RT) (args : List V) (H : Hp) : Option (Option (List Nat)) :=
  Option.rec (motive := fun _ => Option (Option (List Nat))) (some none) (fun ads => Bool.rec (some none) (bindR s.g H s.hs 0 (bindVs s.g s.args args [])) (V.beqs ads args)) (V.rens (rn s.g (bindVs s.g s.args args [])) s.args)
/-- The first that is it. -/
def firstR : List RT → List V → Hp → Option (RT × List Nat)
  | [], _, _ => none
  | s :: l, args, H => oB (s.bind args H) fun r => Option.rec (motive := fun _ => Option (RT × List Nat)) (firstR l args H) (fun L => some (s, L)) r
end
theorem bindR_h {g : Nat} {h H : Hp} (le : h.Le H) : ∀ {os : List O} {i : Nat} {L : List Nat} {r : Option (List Nat)}, bindR g h os i L = some r → bindR g H os i L = some r
  | [], _, _, _, hv => hv
  | o :: os, i, L, r, hv => by
    unfold bindR at hv ⊢
    cases h1 : nth L i with
    | none => rw [h1] at hv; exact hv
    | some a =>
      rw [h1] at hv
      simp only [oB_eq] at hv ⊢
      obtain ⟨q, h2, h3⟩ := hv
      refine ⟨q, le.get _ _ h2, ?_⟩
      cases h4 : o.ren (rn g (bindO g o q L)) with
      | none => rw [h4] at h3; exact h3
      | some p =>
        rw [h4] at h3
        simp only at h3 ⊢
        cases h5 : O.eqB p q with
        | false => rw [h5] at h3; exact h3
        | true => rw [h5] at h3; exact bindR_h le h3
theorem RT.bind_h {s : RT} {args : List V} {h H : Hp} (le : h.Le H) {r : Option (List Nat)} (hv : s.bind args h = some r) : s.bind args H = some r := by
  unfold RT.bind at hv ⊢
  cases h1 : V.rens (rn s.g (bindVs s.g s.args args [])) s.args with
  | none => rw [h1] at hv; exact hv
  | some ads =>
    rw [h1] at hv
    simp only at hv ⊢
    cases h2 : V.beqs ads args with
    | false => rw [h2] at hv; exact hv
    | true => rw [h2] at hv; exact bindR_h le hv
theorem firstR_h {args : List V} {h H : Hp} (le : h.Le H) : ∀ {l : List RT} {r : RT × List Nat}, firstR l args h = some r → firstR l args H = some r
  | [], _, hv => by cases hv
  | s :: l, r, hv => by
    simp only [firstR, oB_eq] at hv ⊢
    obtain ⟨x, h1, h2⟩ := hv
    refine ⟨x, RT.bind_h le h1, ?_⟩
    cases x with
    | none => exact firstR_h le (l := l) h2
    | some L => exact h2
theorem firstR_mem {args : List V} {h : Hp} : ∀ {l : List RT} {s : RT} {L : List Nat}, firstR l args h = some (s, L) → s ∈ l
  | [], _, _, hv => by cases hv
  | s0 :: l, s, L, hv => by
    simp only [firstR, oB_eq] at hv
    obtain ⟨x, h1, h2⟩ := hv
    cases x with
    | none => exact List.mem_cons_of_mem _ (firstR_mem (l := l) h2)
    | some L' => cases h2; exact List.mem_cons_self ..
noncomputable def RE.row (f : Nat) (l : List RT) : RE := ⟨f, firstR l⟩
theorem RE.row_ok {f : Nat} {l : List RT} (h : ∀ s ∈ l, s.f = f ∧ s.Ok) : (RE.row f l).Ok where
  ok := fun args hp s L hv => h s (firstR_mem hv)
  more := fun args h H r le hv => firstR_h le hv
end Go.Proofs.YtgfdhkhcojjkjaaGreatDoor.Hx
