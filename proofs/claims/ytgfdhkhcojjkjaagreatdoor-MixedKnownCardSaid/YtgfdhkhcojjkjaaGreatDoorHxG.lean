/- What an operation that leaves the heap alone comes to in the model: the whole. And one that makes one thing. -/
import Derived.Test.YtgfdhkhcojjkjaaGreatDoorHxE
import Derived.Laws.IdiomStrings
namespace Go.Proofs.YtgfdhkhcojjkjaaGreatDoor.Hx
section
variable {Δ : Env} {h : Hp} {w : World} {n : Nat} {t : Tm} {a : Act}

theorem map_ok (hW : WR Δ h w) {l : Nat} {d : D} (hl : Δ l = some d) {es : List (V × V × Nat)} {c : Nat} (hg : h.get l = some (.map es c)) :
    ∃ es', w.heap[d.b]? = some (.map es' c) ∧ ERel Δ es es'.toList := by
  obtain ⟨o, ho, hr⟩ := hW.obj l d hl
  rw [hg] at ho
  cases ho
  obtain ⟨_, _, _, es', h1, h2⟩ := hr
  simp_all
theorem run_getObj_map {r : Nat} {es : Array MapEntry} {c : Nat} (hg : w.heap[r]? = some (.map es c)) : (getObj r).run P0 w = .ok (.map es c) w := by grind[getObj,Sem.run]
theorem found_ok {z : V} {zv : Value} {ok : Bool} {r : Option (Nat × V)} {r' : Option (Nat × Value)} (hz : VRel Δ z zv) (hr : FRel Δ r r') :
    VRel Δ (found z ok r) (match r' with
      | some (_, v) => if ok then .tuple #[v, .bool true] else v
      | none => if ok then .tuple #[zv, .bool false] else zv) := by
  cases r with
  | none => cases r' with
    | none => cases ok
              · exact hz
              · exact .tuple _ _ (.cons _ _ _ _ hz (.one (.bool false)))
    | some _ => cases hr
  | some x => cases r' with
    | none => cases hr
    | some x' =>
      obtain ⟨_, hv⟩ := hr
      cases ok
      · exact hv
      · exact .tuple _ _ (.cons _ _ _ _ hv (.one (.bool true)))
theorem hlookup_ok (hW : WR Δ h w) {mT : Nat} {p q : PF} {ok : Bool} {mv kv : Value} {v : V} (hp : ∀ v, p.f t h = some v → VRel Δ v mv) (hq : ∀ v, q.f t h = some v → VRel Δ v kv)
    (hv : (hlookup mT p q ok).f t h = some v) : ∃ r, (Instr.lookup mT mv kv ok).run P0 w = .ok r w ∧ VRel Δ v r := by
  unfold hlookup at hv
  split at hv
  · rename_i kt et hu
    split at hv
    · rename_i d z hd hz
      obtain ⟨zv, hzr, hzv, _⟩ := run_zero hz
      simp only [oB_eq, bB_eq] at hv
      obtain ⟨m, h1, k, h2, hh, h3⟩ := hv
      have hm := hp _ h1
      have hk := hq _ h2
      split at h3
      · cases h3; cases hm
        have hck := checkKey_ok true 9999 (by omega) w hd hk hh
        have hf := findKey_ok hd hk w ERel.nil (r := none) (by rfl)
        obtain ⟨r', hf, hr⟩ := hf
        have hr' : r' = none := by cases r' <;> first | rfl | cases hr
        subst hr'
        refine ⟨_, ?_, found_ok (ok := ok) (r := none) (r' := none) (hzv Δ) trivial⟩
        simp only [Instr.lookup, Sem.run_bind, run_und hu, Result.andThen_ok, Sem.run_pure]
        simp_all
      · simp only [mapAt_eq, oB_eq] at h3
        obtain ⟨es, c, hg, r, hf, h3⟩ := h3
        cases h3
        cases hm with
        | map l d' hl =>
          obtain ⟨es', hb, he⟩ := map_ok hW hl hg
          obtain ⟨r', hf, hr⟩ := findKey_ok hd hk w he hf
          have hck := checkKey_ok es'.isEmpty 9999 (by omega) w hd hk hh
          refine ⟨_, ?_, found_ok (ok := ok) (hzv Δ) hr⟩
          simp only [Instr.lookup, Sem.run_bind, run_und hu, Result.andThen_ok, Sem.run_pure, run_getObj_map hb, hck, hf]
          grind[Sem.run_bind,Result.andThen_ok,Sem.run_pure]
      · cases h3
    · cases hv
  · cases hv

theorem hlen_ok (hW : WR Δ h w) {ty : Nat} {tys : Array Nat} (hty : tys[0]? = some ty) {rt : Nat} {p : PF} {xv : Value} {v : V} (hp : ∀ v, p.f t h = some v → VRel Δ v xv)
    (hv : (hlen ty p).f t h = some v) : ∃ r, (Builtin.len_ tys rt #[xv]).run P0 w = .ok r w ∧ VRel Δ v r := by
  unfold hlen at hv
  split at hv
  · rename_i hu
    rw [oB_eq] at hv
    obtain ⟨x, h1, h2⟩ := hv
    have hx := hp _ h1
    split at h2
    · cases h2
      cases hx with
      | str s => exact ⟨goInt s.size, by simp_all[Builtin.len_,run_und], .int _ _⟩
    · cases h2
  · rename_i e hu
    rw [oB_eq] at hv
    obtain ⟨x, h1, h2⟩ := hv
    have hx := hp _ h1
    split at h2
    · rename_i lc off m
      cases h2; cases hx; exact ⟨goInt m, by simp_all[Builtin.len_,run_und], .int _ _⟩
    · cases h2; cases hx; exact ⟨goInt 0, by simp_all[Builtin.len_,run_und], .int _ _⟩
    · cases h2
  · rename_i m e hu
    rw [oB_eq] at hv
    obtain ⟨x, h1, h2⟩ := hv
    cases h2
    exact ⟨goInt m, by simp_all[Builtin.len_,run_und], .int _ _⟩
  · rename_i k e hu
    rw [oB_eq] at hv
    obtain ⟨x, h1, h2⟩ := hv
    have hx := hp _ h1
    split at h2
    · cases h2; cases hx; exact ⟨goInt 0, by simp_all[Builtin.len_,run_und], .int _ _⟩
    · rw [mapAt_eq] at h2
      obtain ⟨es, c, hg, h2⟩ := h2
      cases h2
      cases hx with
      | map l d hl =>
        obtain ⟨es', hb, he⟩ := map_ok hW hl hg
        have hlen : es.length = es'.size := by
          have : ∀ {a : List (V × V × Nat)} {b : List MapEntry}, ERel Δ a b → a.length = b.length := fun h => by induction h <;> simp_all
          simpa using this he
        refine ⟨goInt es'.size, by simp [Builtin.len_, hty, run_und hu, run_getObj_map hb], ?_⟩
        rw [hlen]; exact .int _ _
    · cases h2
  · cases hv
theorem hmin_ok {gt : Bool} (w : World) : ∀ {l : List V} {l' : List Value} {x : V} {x' : Value} {v : V}, VRel Δ x x' → VsRel Δ l l' → hmin gt x l = some v →
    ∃ r, (l'.foldlM (if gt then Builtin.max2 else Builtin.min2) x').run P0 w = .ok r w ∧ VRel Δ v r
  | [], _, x, x', v, hx, hl, hv => by simp [hmin] at hv; subst hv; cases hl; simp_all
  | y :: l, _, x, x', v, hx, hl, hv => by
    cases hl with
    | cons _ y' _ l' hy hs =>
      unfold hmin at hv
      split at hv
      · simp_all
      · rename_i k p k' q r e1
        cases e1
        cases hx; cases hy
        obtain ⟨res, h1, h2⟩ := hmin_ok w (.int k _) hs hv
        refine ⟨res, ?_, h2⟩
        rw [List.foldlM_cons]
        simp only [Sem.run_bind]
        cases gt
        · simp_all[Bool.false_eq_true,Builtin.min2,Sem.run_pure,Result.andThen_ok]
        simp_all[Builtin.max2,Sem.run_pure,Result.andThen_ok]
      · cases hv
theorem isIface_eq {ty : Nat} (hi : isIface ty = some false) : ∃ d, P0.underlying ty = some d ∧ ∀ m, d ≠ .interface m := by
  grind[isIface]
theorem hassert_ok {p : PF} {asserted xT : Nat} {ok : Bool} {xv : Value} {v : V} (w : World) (hp : ∀ v, p.f t h = some v → VRel Δ v xv)
    (hv : (hassert p asserted ok).f t h = some v) : ∃ r, (Instr.typeAssert xv xT asserted ok).run P0 w = .ok r w ∧ VRel Δ v r := by
  unfold hassert at hv
  split at hv
  · rename_i z hi hz
    obtain ⟨zv, hzr, hzv, _⟩ := run_zero hz
    obtain ⟨d, hu, hd⟩ := isIface_eq hi
    rw [oB_eq] at hv
    obtain ⟨x, h1, h2⟩ := hv
    have hx := hp _ h1
    split at h2
    · rename_i u y
      cases h2
      cases hx with
      | iface _ _ y' hy =>
        rw [brec_eq]
        by_cases e : u = asserted
        · have e' : Nat.beq u asserted = true := by rw [e]; exact Nat.beq_refl _
          rw [if_pos e']
          refine ⟨.tuple #[y', .bool true], ?_, .tuple _ _ (.cons _ _ _ _ hy (.one (.bool true)))⟩
          simp only [Instr.typeAssert, Sem.run_bind, run_und hu, Result.andThen_ok]
          simp_all
        · have e' : ¬ Nat.beq u asserted = true := by simp_all
          rw [if_neg e']
          refine ⟨.tuple #[zv, .bool false], ?_, .tuple _ _ (.cons _ _ _ _ (hzv Δ) (.one (.bool false)))⟩
          simp only [Instr.typeAssert, Sem.run_bind, run_und hu, Result.andThen_ok]
          simp_all
    · rename_i u y
      rw [bB_eq] at h2
      obtain ⟨e, h2⟩ := h2
      cases h2
      have e := Nat.eq_of_beq_eq_true e
      cases hx with
      | iface _ _ y' hy =>
        refine ⟨y', ?_, hy⟩
        simp only [Instr.typeAssert, Sem.run_bind, run_und hu, Result.andThen_ok]
        simp_all
    · cases h2
      cases hx
      refine ⟨.tuple #[zv, .bool false], ?_, .tuple _ _ (.cons _ _ _ _ (hzv Δ) (.one (.bool false)))⟩
      simp only [Instr.typeAssert, Sem.run_bind, run_und hu, Result.andThen_ok]
      simp_all
    · cases h2
  · cases hv
theorem hpick_ok {c p q : PF} {cv pv qv : Value} {v : V} (w : World) (hc : ∀ v, c.f t h = some v → VRel Δ v cv) (hp : ∀ v, p.f t h = some v → VRel Δ v pv) (hq : ∀ v, q.f t h = some v → VRel Δ v qv)
    (hv : (hpick c p q).f t h = some v) : ∃ r, (do pure (Next.value (if ← asBool cv then pv else qv)) : Sem Next).run P0 w = .ok (.value r) w ∧ VRel Δ v r := by
  unfold hpick at hv
  simp only [oB_eq] at hv
  obtain ⟨x, h1, h2⟩ := hv
  have hx := hc _ h1
  split at h2
  · rename_i b
    cases hx
    cases b
    · simp_all[asBool]
    simp_all[asBool]
  · cases h2
theorem hnilCheck_ok {p : PF} {x : Operand} {v : V} (w : World) (hp : ∀ v, p.f t h = some v → VRel Δ v (a.eval x)) (hv : (hnilCheck p).f t h = some v) {dst ty pos af gd} :
    (execOp a.eval { dst := dst, op := .nilCheck x, type := ty, pos := pos, after := af, guard := gd }).run P0 w = .ok (.value (a.eval x)) w ∧ VRel Δ v (a.eval x) := by
  unfold hnilCheck at hv
  rw [oB_eq] at hv
  obtain ⟨y, h1, h2⟩ := hv
  have hy := hp _ h1
  simp only [execOp]
  generalize a.eval x = xv at hy ⊢
  split at h2
  · cases h2; cases hy with | ptr _ _ d hd => exact ⟨rfl, .ptr _ _ d hd⟩
  · cases h2; cases hy with | func _ _ _ p' q' h1 h2 => exact ⟨rfl, .func _ _ _ p' q' h1 h2⟩
  · cases h2; cases hy with | iface _ _ v' hv => exact ⟨rfl, .iface _ _ v' hv⟩
  · cases h2
theorem hextract_ok {p : PF} {i : Nat} {xv : Value} {v : V} (w : World) (hp : ∀ v, p.f t h = some v → VRel Δ v xv) (hv : (hextract p i).f t h = some v) :
    ∃ r, (Instr.extract xv i).run P0 w = .ok r w ∧ VRel Δ v r := by
  unfold hextract at hv
  rw [oB_eq] at hv
  obtain ⟨y, h1, h2⟩ := hv
  have hy := hp _ h1
  split at h2
  · cases hy with
    | tuple vs vs' hvs =>
      obtain ⟨x, hx, hr⟩ := hvs.get _ _ (at1_eq h2)
      simp_all[Instr.extract]
  · cases h2
theorem bytesOf_ok {cs : List V} {xs : List Value} {s : List UInt8} (hr : VsRel Δ cs xs) (hv : bytesOf cs = some s) : xs = (s.map fun b => (b.toNat : Int)).map (Value.int .u8) := by
  induction cs generalizing xs s with
  | nil => cases hr; grind[bytesOf]
  | cons c cs ih =>
    simp only [bytesOf, oB_eq] at hv
    obtain ⟨b, h1, l, h2, h3⟩ := hv
    cases h3
    cases hr with
    | cons _ x _ xs hx hxs =>
      rw [ih hxs h2]
      unfold byteOf at h1
      split at h1
      · rename_i m
        rw [bB_eq] at h1
        obtain ⟨h4, h5⟩ := h1
        cases h5
        cases hx
        have h4' : m < 256 := by rw [Nat.blt_eq] at h4; exact h4
        have : (UInt8.ofNat m).toNat = m := by simp; omega
        grind
      · cases h1
theorem push_bytes (l : List UInt8) : ∀ (r : ByteArray), ((l.map fun b => (b.toNat : Int)).foldl (fun r n => r.push (UInt8.ofNat n.toNat)) r).data.toList = r.data.toList ++ l := by
  induction l <;> simp_all
theorem hstring_ok {src dst e : Nat} (hs : P0.underlying src = some (.slice e)) (hd : P0.underlying dst = some .string) (he : P0.underlying e = some (.int .u8)) {ad : Option Addr} {len cap : Nat} {cs : List V} {s : List UInt8}
    (hb : bytesOf cs = some s) (hc : ∀ b, ad = some b → ∃ xs, (loadCells b len).run P0 w = .ok (Array.mk xs) w ∧ VsRel Δ cs xs) (hn : ad = none → s = []) :
    ∃ x, (convert src dst (.slice ad len cap)).run P0 w = .ok x w ∧ VRel Δ (.str s) x := by
  cases ad with
  | none =>
    cases hn rfl
    exact ⟨.string .empty, by simp_all[convert,run_und,Conv.bytesToString], .str ByteArray.empty⟩
  | some b =>
    obtain ⟨xs, h1, h2⟩ := hc b rfl
    rw [bytesOf_ok h2 hb] at h1
    have hr := run_bytesToString (P := P0) w b len cap _ h1
    generalize hB : (List.foldl (fun r n => ByteArray.push r (UInt8.ofNat n.toNat)) ByteArray.empty (List.map (fun b => (b.toNat : Int)) s)) = B at hr
    have hBl : B.data.toList = s := by rw [← hB, push_bytes]; rfl
    refine ⟨.string B, ?_, by rw [← hBl]; exact .str B⟩
    simp_all[convert,Sem.run_bind,run_und,Result.andThen_ok]
theorem loadCells_list (hW : WR Δ h w) {l : Nat} {d : D} (hl : Δ l = some d) {off m : Nat} {cs : List V} (hv : ldAt h l off m = some cs) :
    ∃ xs, (loadCells ⟨d.b, d.base + off, none⟩ m).run P0 w = .ok (Array.mk xs) w ∧ VsRel Δ cs xs := by
  obtain ⟨arr, h1, h2⟩ := loadCells_ok hW hl hv
  exact ⟨arr.toList, by omega, h2⟩
theorem ldAt_len {l off m : Nat} {cs : List V} (hv : ldAt h l off m = some cs) : cs.length = m := by
  grind[ldAt,cellsAt_eq,bB_eq,sub_eq]
theorem hconvS_ok (hW : WR Δ h w) {src dst e : Nat} {p : PF} {xv : Value} {v : V} (hs : P0.underlying src = some (.slice e)) (hd : P0.underlying dst = some .string) (hp : ∀ v, p.f t h = some v → VRel Δ v xv) (hv : (hconv src dst p).f t h = some v) :
    ∃ r, (convert src dst xv).run P0 w = .ok r w ∧ VRel Δ v r := by
  unfold hconv at hv
  rw [hs, hd] at hv
  simp only at hv
  split at hv
  · rename_i he
    simp only [oB_eq] at hv
    obtain ⟨x, h1, h2⟩ := hv
    have hx := hp _ h1
    split at h2
    · cases h2; cases hx
      exact hstring_ok (Δ := Δ) (w := w) (src := src) (dst := dst) (e := e) (ad := none) (len := 0) (cap := 0) (cs := []) (s := []) hs hd he rfl (by simp_all) (by simp_all)
    · rename_i l off len
      simp only [oB_eq] at h2
      obtain ⟨cs, h3, s, h4, h5⟩ := h2
      cases h5
      cases hx with
      | slice _ _ _ cap o d hd' hk hle ho =>
        have hld : ∃ xs, (loadCells ⟨d.b, o, none⟩ len).run P0 w = .ok (Array.mk xs) w ∧ VsRel Δ cs xs := by
          rcases ho with ⟨rfl, _, _⟩ | ⟨rfl, _⟩
          · grind[loadCells_list]
          · have : len = 0 := by omega
            subst this
            have hc0 : cs = [] := List.eq_nil_of_length_eq_zero (ldAt_len h3)
            subst hc0
            exact ⟨[], by rfl, .nil⟩
        exact hstring_ok (Δ := Δ) (w := w) (src := src) (dst := dst) (e := e) (ad := some ⟨d.b, o, none⟩) (len := len) (cap := cap) hs hd he h4 (by simp_all) (by simp_all)
    · cases h2
  · cases hv
theorem VsRel.toArray {l : List Operand} {vs : List V} (h : VsRel Δ vs (l.map a.eval)) : VsRel Δ vs (l.toArray.map a.eval).toList := by simp_all

theorem pure_ok (hW : WR Δ h w) (hT : TR Δ n t a) {o : Oper} {v : V} (hv : (pureC o).f t h = some v) : ∃ x, (execOp a.eval o).run P0 w = .ok (.value x) w ∧ VRel Δ v x := by
  obtain ⟨dst, op, ty, pos, af, gd⟩ := o
  have ev : ∀ (x : Operand) v, (evO x).f t h = some v → VRel Δ v (a.eval x) := by grind[evO_ok]
  cases op with
  | move x => exact ⟨_, rfl, ev x v hv⟩
  | assign x => exact ⟨_, rfl, ev x v hv⟩
  | pick c p q => exact hpick_ok w (ev c) (ev p) (ev q) hv
  | load ty a' =>
    obtain ⟨x, h1, h2⟩ := hload_ok hW (ev a') hv
    exact ⟨x, run_v h1, h2⟩
  | nilCheck x =>
    obtain ⟨h1, h2⟩ := hnilCheck_ok w (ev x) hv (dst := dst) (ty := ty) (pos := pos) (af := af) (gd := gd)
    simp_all
  | binOp op xt x y yt =>
    simp only [pureC, oB_eq] at hv
    obtain ⟨p, h1, q, h2, h3⟩ := hv
    obtain ⟨r, h4, h5⟩ := hbin_ok (X := x) (Y := y) w (ev x _ h1) (ev y _ h2) h3
    exact ⟨r, run_v h4, h5⟩
  | unOp op xt x =>
    simp only [pureC, oB_eq] at hv
    obtain ⟨p, h1, h2⟩ := hv
    obtain ⟨r, h4, h5⟩ := hun_ok w (ev x _ h1) h2
    exact ⟨r, run_v h4, h5⟩
  | convert src d x =>
    have hall : ∃ r, (convert src d (a.eval x)).run P0 w = .ok r w ∧ VRel Δ v r := by
      by_cases hsl : ∃ e, P0.underlying src = some (.slice e) ∧ P0.underlying d = some .string
      · obtain ⟨e, h1, h2⟩ := hsl
        exact hconvS_ok hW h1 h2 (ev x) hv
      · exact hconv_ok w hsl (ev x) hv
    obtain ⟨r, h4, h5⟩ := hall
    exact ⟨r, run_v h4, h5⟩
  | build ty parts =>
    obtain ⟨r, h4, h5⟩ := hbuild_ok hT hv
    refine ⟨r, run_v ?_, h5⟩
    rw [← h4]
    congr 2
    grind
  | makeFunc fn first caps =>
    cases fn with
    | func f =>
      simp only [pureC, oB_eq] at hv
      obtain ⟨p, h1, q, h2, h3⟩ := hv
      cases h3
      refine ⟨_, rfl, .func f p q _ _ ?_ ?_⟩
      · have := evNs_ok hT h1; simp_all
      · have := evNs_ok hT h2; simp_all
    | _ => cases hv
  | slice ty x lo hi mx =>
    cases mx with
    | none =>
      obtain ⟨r, h4, h5⟩ := hslice_ok hW hT (ev x) hv
      exact ⟨r, run_v h4, h5⟩
    | some _ => cases hv
  | fieldAddr s x f =>
    obtain ⟨r, h4, h5⟩ := hfieldAddr_ok w (ev x) hv
    exact ⟨r, run_v h4, h5⟩
  | field s x f =>
    obtain ⟨r, h4, h5⟩ := hfield_ok w (ev x) hv
    exact ⟨r, run_v h4, h5⟩
  | indexAddr ty x i =>
    obtain ⟨r, h4, h5⟩ := hindexAddr_ok w (ev x) (ev i) hv
    exact ⟨r, run_v h4, h5⟩
  | index ty x i =>
    obtain ⟨r, h4, h5⟩ := hindex_ok w (ev x) (ev i) hv
    exact ⟨r, run_v h4, h5⟩
  | lookup ty m k ok =>
    obtain ⟨r, h4, h5⟩ := hlookup_ok hW (ev m) (ev k) hv
    exact ⟨r, run_v h4, h5⟩
  | extract x i =>
    obtain ⟨r, h4, h5⟩ := hextract_ok w (ev x) hv
    exact ⟨r, run_v h4, h5⟩
  | makeInterface ty x =>
    simp only [pureC] at hv
    split at hv
    · rename_i hi
      obtain ⟨d, hu, hd⟩ := isIface_eq hi
      simp only [oB_eq] at hv
      obtain ⟨p, h1, h2⟩ := hv
      cases h2
      refine ⟨.iface ty (a.eval x), run_v ?_, .iface _ _ _ (by simp_all)⟩
      simp only [Instr.makeInterface, Sem.run_bind, run_und hu, Result.andThen_ok]
      rfl
    · cases hv
  | typeAssert x xT asserted ok =>
    obtain ⟨r, h4, h5⟩ := hassert_ok (xT := xT) w (ev x) hv
    exact ⟨r, run_v h4, h5⟩
  | call c =>
    obtain ⟨callee, args, argTypes⟩ := c
    simp only [pureC] at hv
    cases callee with
    | builtin b =>
      cases b <;> try (cases hv; done)
      case len =>
        simp only at hv
        split at hv
        · rename_i x ty' tys hargs htys
          have hty : argTypes[0]? = some ty' := by rw [← Array.getElem?_toList, htys]; rfl
          obtain ⟨r, h4, h5⟩ := hlen_ok hW (rt := ty) hty (ev x) hv
          refine ⟨r, ?_, h5⟩
          have hm : args.map a.eval = #[a.eval x] := by apply Array.ext'; simp [hargs]
          simp only [execOp, resolve, hm]
          exact run_v h4
        · cases hv
      case min =>
        simp only [oB_eq] at hv
        obtain ⟨l, h1, h2⟩ := hv
        split at h2
        · rename_i x r
          have hvs := evNs_ok hT h1
          cases hargs : args.toList.map a.eval with
          | nil => rw [hargs] at hvs; cases hvs
          | cons x' r' =>
            rw [hargs] at hvs
            cases hvs with
            | cons _ _ _ _ hx hr =>
              obtain ⟨res, h3, h4⟩ := hmin_ok w hx hr h2
              refine ⟨res, ?_, h4⟩
              have hm : (args.map a.eval).toList = x' :: r' := by simpa using hargs
              simp only [execOp, resolve]
              refine run_v ?_
              grind[Builtin.min_]
        · cases h2
      case max =>
        simp only [oB_eq] at hv
        obtain ⟨l, h1, h2⟩ := hv
        split at h2
        · rename_i x r
          have hvs := evNs_ok hT h1
          cases hargs : args.toList.map a.eval with
          | nil => rw [hargs] at hvs; cases hvs
          | cons x' r' =>
            rw [hargs] at hvs
            cases hvs with
            | cons _ _ _ _ hx hr =>
              obtain ⟨res, h3, h4⟩ := hmin_ok w hx hr h2
              refine ⟨res, ?_, h4⟩
              have hm : (args.map a.eval).toList = x' :: r' := by simpa using hargs
              simp only [execOp, resolve]
              refine run_v ?_
              grind[Builtin.max_]
        · cases h2
    | value f => cases hv
    | invoke r m => cases hv
  | _ => cases hv
end
end Go.Proofs.YtgfdhkhcojjkjaaGreatDoor.Hx
/- How the heap and the world grow together: a new block; what an operation that makes one thing comes to in the model. -/
namespace Go.Proofs.YtgfdhkhcojjkjaaGreatDoor.Hx

/-- The blocks that may be written. -/
def RW (Δ : Env) (b : Nat) : Prop := ∃ l d, Δ l = some d ∧ d.ro = false ∧ d.b = b
structure FR (Δ Δ' : Env) (w w' : World) : Prop where
  le : Δ.le Δ'
  size : w.heap.size ≤ w'.heap.size
  os : w'.os = w.os
  tape : w'.tape = w.tape
  output : w'.output = w.output
  keep : ∀ b, b < w.heap.size → ¬ RW Δ b → w'.heap[b]? = w.heap[b]?
  new : ∀ l d, Δ' l = some d → Δ l = some d ∨ w.heap.size ≤ d.b ∨ RW Δ d.b
theorem FR.refl (Δ : Env) (w : World) : FR Δ Δ w w := ⟨Env.le_refl _, Nat.le_refl _, rfl, rfl, rfl, by simp_all, by simp_all⟩
theorem FR.trans {Δ Δ' Δ'' : Env} {w w' w'' : World} (h : FR Δ Δ' w w') (h' : FR Δ' Δ'' w' w'') : FR Δ Δ'' w w'' where
  le := Env.le_trans h.le h'.le
  size := Nat.le_trans h.size h'.size
  os := h'.os.trans h.os
  tape := h'.tape.trans h.tape
  output := h'.output.trans h.output
  keep := fun b hb hn => by
    rw [h'.keep b (Nat.lt_of_lt_of_le hb h.size) ?_, h.keep b hb hn]
    rintro ⟨l, d, hl, hr, rfl⟩
    rcases h.new l d hl with h1 | h1 | h1
    · exact hn ⟨l, d, h1, hr, rfl⟩
    · omega
    simp_all
  new := fun l d hl => by
    rcases h'.new l d hl with h1 | h1 | ⟨l', d', hl', hr', hb'⟩
    · exact h.new l d h1
    · exact .inr (.inl (Nat.le_trans h.size h1))
    · rcases h.new l' d' hl' with h2 | h2 | h2
      · exact .inr (.inr ⟨l', d', h2, hr', hb'⟩)
      · omega
      simp_all

theorem get_new (h : Hp) (o : O) (l : Nat) : (h.new o).get l = if h.next = l then some o else h.get l := by
  rw [Hp.get_eq, Hp.get_eq]
  unfold Hp.new
  simp [Tr.get_set]
  grind
theorem get_put {h : Hp} {l : Nat} (o : O) (m : Nat) (hl : l < h.next) : (h.put l o).get m = if l = m then some o else h.get m := by
  rw [Hp.get_eq, Hp.get_eq]
  unfold Hp.put
  simp [Tr.get_set]
  grind
def Env.set (Δ : Env) (l : Nat) (d : D) : Env := fun m => if m = l then some d else Δ m
theorem Env.le_set {Δ : Env} {l : Nat} {d : D} (h : Δ l = none) : Δ.le (Δ.set l d) := fun m e hm => by
  unfold Env.set
  grind
theorem Env.set_self (Δ : Env) (l : Nat) (d : D) : (Δ.set l d) l = some d := if_pos rfl
theorem Env.set_other {Δ : Env} {l m : Nat} {d e : D} (h : (Δ.set l d) m = some e) : (m = l ∧ e = d) ∨ (m ≠ l ∧ Δ m = some e) := by
  unfold Env.set at h
  grind
theorem WR.none_next {Δ : Env} {h : Hp} {w : World} (hW : WR Δ h w) : Δ h.next = none := by
  cases hd : Δ h.next with
  | none => rfl
  | some d => exact absurd (hW.fresh _ _ hd) (Nat.lt_irrefl _)
theorem heap_alloc (w : World) (ob : Obj) (b : Nat) : (w.alloc ob).heap[b]? = if b = w.heap.size then some ob else w.heap[b]? := by
  grind[World.alloc]

theorem TabOk.step {Δ Δ' : Env} {w w' : World} (h : TabOk Δ w) (hk : ∀ b, b < w.heap.size → ¬ RW Δ b → w'.heap[b]? = w.heap[b]?) (hn : ∀ l d, Δ' l = some d → d.ro = false → Δ l = some d ∨ w.heap.size ≤ d.b ∨ RW Δ d.b) : TabOk Δ' w' := by
  intro g c hm
  let ⟨⟨e, fr, h1⟩, h2⟩ := h g c hm
  grind[RW]
/-- A place that the heap already has gets its block. -/
theorem WR.lay {Δ : Env} {h : Hp} {w : World} (hW : WR Δ h w) {l : Nat} {o : O} {d : D} {ob : Obj} (hn : Δ l = none) (hl : l < h.next) (hg : h.get l = some o) (hb : d.b = w.heap.size)
    (ho : ORel (Δ.set l d) d o (some ob)) : WR (Δ.set l d) h (w.alloc ob) where
  fresh := fun m e hm => by
    rcases Env.set_other hm with ⟨rfl, rfl⟩ | ⟨_, hm⟩
    · exact hl
    · exact hW.fresh m e hm
  blk := fun m e hm => by
    simp [World.size_alloc]
    rcases Env.set_other hm with ⟨rfl, rfl⟩ | ⟨_, hm⟩
    · omega
    · have := hW.blk m e hm; omega
  obj := fun m e hm => by
    rcases Env.set_other hm with ⟨rfl, rfl⟩ | ⟨_, hm⟩
    · refine ⟨o, hg, ?_⟩
      rw [heap_alloc, if_pos hb]; exact ho
    · let ⟨o', h1, h2⟩ := hW.obj m e hm
      refine ⟨o', h1, ?_⟩
      rw [heap_alloc, if_neg (Nat.ne_of_lt (hW.blk m e hm))]
      exact h2.mono (Env.le_set hn)
  apart := fun m m' e e' p p' hm hm' hne hp hp' hlp hlp' hro => by
    rcases Env.set_other hm with ⟨h1, h2⟩ | ⟨_, h1⟩ <;> rcases Env.set_other hm' with ⟨h3, h4⟩ | ⟨_, h3⟩
    · omega
    · have := hW.blk m' e' h3; grind
    · have := hW.blk m e h1; grind
    · exact hW.apart m m' e e' p p' h1 h3 hne hp hp' hlp hlp' hro
  glob := fun g p hlt hp => by
    let ⟨e, h1, h2⟩ := hW.glob g p hlt hp
    exact ⟨e, Env.le_set hn _ _ h1, h2⟩
  gnext := hW.gnext
  tab := hW.tab.step (by simp_all[heap_alloc,Nat.ne_of_lt]) fun m e hm _ => by
    rcases Env.set_other hm with ⟨rfl, rfl⟩ | ⟨_, hm⟩
    · omega
    simp_all
/-- The heap may know of more places than the world. -/
theorem WR.more {Δ : Env} {h : Hp} {w : World} (hW : WR Δ h w) (o : O) : WR Δ (h.new o) w where
  fresh := fun l d hl => Nat.lt_succ_of_lt (hW.fresh l d hl)
  blk := hW.blk
  obj := fun l d hl => by
    let ⟨o', h1, h2⟩ := hW.obj l d hl
    refine ⟨o', ?_, h2⟩
    rw [get_new, if_neg (Nat.ne_of_gt (hW.fresh l d hl))]
    exact h1
  apart := fun m m' e e' p p' hm hm' hne hp hp' => by
    rw [get_new, if_neg (Nat.ne_of_gt (hW.fresh _ _ hm))] at hp
    rw [get_new, if_neg (Nat.ne_of_gt (hW.fresh _ _ hm'))] at hp'
    exact hW.apart m m' e e' p p' hm hm' hne hp hp'
  glob := fun g p hlt hp => by
    rw [get_new, if_neg (by have := hW.gnext; omega)] at hp
    exact hW.glob g p hlt hp
  gnext := Nat.le_succ_of_le hW.gnext
  tab := hW.tab
theorem FR.lay {Δ : Env} {w : World} {l : Nat} {d : D} {ob : Obj} (hn : Δ l = none) (hb : d.b = w.heap.size) : FR Δ (Δ.set l d) w (w.alloc ob) where
  le := Env.le_set hn
  size := by simp
  os := rfl
  tape := rfl
  output := rfl
  keep := by simp_all[heap_alloc,Nat.ne_of_lt]
  new := fun m e hm => by
    rcases Env.set_other hm with ⟨rfl, rfl⟩ | ⟨_, hm⟩
    · omega
    simp_all

/-! ### what is made -/
/-- A thing that is made, and the value that leads to it: the model lays a block, and its value leads there. -/
def Made (Δ : Env) (ob : O) (mk : Nat → V) (mo : Obj) (mv : Nat → Value) : Prop :=
  ∀ l b, Δ l = none → ∃ d, d.b = b ∧ ORel (Δ.set l d) d ob (some mo) ∧ VRel (Δ.set l d) (mk l) (mv b)
theorem cellsOk_new {Δ : Env} {d : D} {cs : List V} {c : Array Value} {e : Nat} (hs : c.size = d.asz) (hb : d.base = 0) (hl : cs.length ≤ d.asz) (hc : ∀ (i : Nat) v, cs[i]? = some v → ∃ x, c[i]? = some x ∧ VRel Δ v x) :
    CellsOk Δ d cs (some (.cells c e (0, 0))) :=
  ⟨c, e, (0, 0), rfl, hs, fun _ => .inl rfl, by omega, fun i v hi => by rw [hb, Nat.zero_add]; exact hc i v hi⟩
theorem hbox_ok {Δ : Env} {e : Nat} {v : V} {xv : Value} {ob : O} {mk : Nat → V} (hx : VRel Δ v xv) (hv : hbox e v = some (ob, mk)) :
    Made Δ ob mk (.cells xv.cells e) (fun b => .pointer (some ⟨b, 0, none⟩)) := by
  unfold hbox at hv
  rw [bB_eq] at hv
  let ⟨_, hv⟩ := hv
  cases hv
  intro l b hn
  have hc := hx.cells
  have hle := Env.le_set (d := ⟨b, 0, 1, v.cells.length, xv.cells.size, false, 0⟩) hn
  refine ⟨⟨b, 0, 1, v.cells.length, xv.cells.size, false, 0⟩, rfl, ⟨rfl, rfl, rfl, rfl, fun _ => ?_⟩, ?_⟩
  · refine cellsOk_new rfl rfl (Nat.le_of_eq (by first | (simpa using hc.length) | (simpa using hr.length))) fun i u hi => ?_
    let ⟨x, hx, hr⟩ := hc.get i u hi
    exact ⟨x, by simp_all, hr.mono hle⟩
  · exact VRel.ptr l 0 ⟨b, 0, 1, v.cells.length, xv.cells.size, false, 0⟩ (Env.set_self _ _ _)
theorem elemOf_eq {elem size by_ : Nat} {z : V} (h : elemOf elem = some (size, by_, z)) :
    szOf elem = some size ∧ byOf elem = some by_ ∧ zeroV elem = some z ∧ 0 < size ∧ z.cells.length = size ∧ allOne z.cells = true := by
  grind[elemOf,oB_eq,bB_eq,Nat.blt_eq,Nat.eq_of_beq_eq_true]
theorem sliceOf_eq {t e : Nat} (h : sliceOf t = some e) : P0.underlying t = some (.slice e) := by
  grind[sliceOf]
theorem repl_get (z : List V) : ∀ m i, (repl m z)[i]? = if i < m * z.length then z[i % z.length]? else none
  | 0, i => by simp [repl]
  | m + 1, i => by
    simp [repl, List.getElem?_append]
    by_cases h1 : i < z.length
    · rw [if_pos h1, if_pos (by grind), Nat.mod_eq_of_lt h1]
    · rw [ repl_get z m]
      have e : i % z.length = (i - z.length) % z.length := by
        rw [Nat.mod_eq_sub_mod (by omega)]
      grind
theorem repl_length (z : List V) : ∀ m, (repl m z).length = m * z.length
  | 0 => by simp [repl]
  | m + 1 => by simp [repl, repl_length z m, Nat.add_mul, Nat.add_comm]
/-- The model's row of zeros. -/
theorem repl_rel {Δ : Env} {z : List V} {zs : Array Value} (hz : VsRel Δ z zs.toList) (_h0 : 0 < z.length) (m : Nat) : VsRel Δ (repl m z) ((Array.range (m * z.length)).map fun i => zs[i % zs.size]!).toList := by
  have hlen := hz.length
  refine VsRel.of_get (by simp [repl_length]) fun i v hi => ?_
  rw [repl_get] at hi
  by_cases h : i < m * z.length
  · rw [if_pos h] at hi
    let ⟨x, hx, hr⟩ := hz.get _ _ hi
    grind
  simp_all
section
variable {Δ : Env} {h : Hp} {w : World} {n : Nat} {t : Tm} {a : Act}
theorem alloc_ok (hT : TR Δ n t a) {o : Oper} {ob : O} {mk : Nat → V} (hv : (allocC o).f t = some (ob, mk)) :
    ∃ mo mv, (∀ w, (execOp a.eval o).run P0 w = .ok (.value (mv w.heap.size)) (w.alloc mo)) ∧ Made Δ ob mk mo mv := by
  let ⟨dst, op, ty, pos, af, gd⟩ := o
  cases op with
  | alloc e =>
    simp [allocC] at hv
    split at hv
    · rename_i z hz
      let ⟨zv, hzr, hzv, _⟩ := run_zero hz
      refine ⟨_, _, fun w => run_v ?_, hbox_ok (hzv Δ) hv⟩
      simp_all[Instr.alloc,newVar,newRow]
    · cases hv
  | box e x =>
    simp [allocC, oB_eq] at hv
    let ⟨v, h1, h2⟩ := hv
    refine ⟨_, _, fun w => run_v ?_, hbox_ok (evN_ok hT h1) h2⟩
    rfl
  | buildSlice ty' len parts =>
    simp [allocC] at hv
    split at hv
    · rename_i elem hse
      have hu := sliceOf_eq hse
      split at hv
      · rename_i size by_ z he
        let ⟨hs, _, hz, hpos, hzl, _⟩ := elemOf_eq he
        let ⟨zv, hzr, hzv, _⟩ := run_zero hz
        split at hv
        · rename_i hle
          have hle' := Nat.le_of_ble_eq_true hle
          simp only [hbuildSlice, oB_eq, bB_eq] at hv
          let ⟨ps, h1, cs, h2, _, h3⟩ := hv
          cases h3
          have hzc := (hzv Δ).cells
          have hrep := repl_rel hzc (by omega) len
          have hzs : zv.cells.size = size := by have := hzc.length; simp [Array.length_toList] at this; omega
          have hzero : VsRel Δ (repl len z.cells) ((Array.range (len * size)).map fun i => (if len * size = 0 then (#[] : Array Value) else zv.cells)[i % (if len * size = 0 then (#[] : Array Value) else zv.cells).size]!).toList := by
            by_cases h0 : len * size = 0
            · simp_all
            · simp_all
          let ⟨cs', hf, hr⟩ := fill_ok (evParts_ok hT h1) hzero h2
          refine ⟨.cells cs' elem, fun b => .slice (some ⟨b, 0, none⟩) len len, fun w => run_v ?_, ?_⟩
          · have hparts : (parts.map fun x => (x.1, a.eval x.2)).toList = parts.toList.map fun x => (x.1, a.eval x.2) := by simp
            have hno : ¬ (len * size > 2 ^ 24) := by omega
            have hzr' : (if len * size = 0 then (pure #[] : Sem (Array Value)) else do pure (← zeroValue elem).cells).run P0 w = .ok (if len * size = 0 then (#[] : Array Value) else zv.cells) w := by
              by_cases h0 : len * size = 0
              · simp_all
              · simp_all
            simp only [Instr.buildSlice, Sem.run_bind, run_und hu, run_sz hs, Result.andThen_ok, Sem.run_ite]
            rw [if_neg hno]
            simp only [Sem.run_pure, Result.andThen_ok]
            by_cases h0 : len * size = 0
            · simp only [if_pos h0] at hf ⊢
              rw [hparts]
              have hf' : Instr.fill (fun i => some (i * size, size)) (Array.map (fun x => (#[] : Array Value)[x % (#[] : Array Value).size]!) (Array.range (len * size))) (List.map (fun x => (x.1, a.eval x.2)) parts.toList) = some cs' := hf
              rw [hf']
              rfl
            · simp only [if_neg h0, hzr, Result.andThen_ok] at hf ⊢
              rw [hparts]
              have hf' : Instr.fill (fun i => some (i * size, size)) (Array.map (fun x => zv.cells[x % zv.cells.size]!) (Array.range (len * size))) (List.map (fun x => (x.1, a.eval x.2)) parts.toList) = some cs' := hf
              rw [hf']
              rfl
          · intro l b hn
            have hcl := hr.length
            have hcs : cs.length = len * size := by
              have h5 : ∀ {place : Nat → Option (Nat × Nat)} {ps : List (Nat × V)} {c c' : List V}, fillV place c ps = some c' → c'.length = c.length := by
                intro place ps
                induction ps with
                | nil => grind[fillV]
                | cons p ps ih =>
                  intro c c' h
                  simp only [fillV, oB_eq, bB_eq] at h
                  let ⟨q, _, _, mid, h6, h7⟩ := h
                  rw [ih h7, (splice_eq h6).1]
              rw [h5 h2, repl_length, hzl]
            have hle := Env.le_set (d := ⟨b, 0, size, cs.length, cs'.size, false, 0⟩) hn
            refine ⟨⟨b, 0, size, cs.length, cs'.size, false, 0⟩, rfl, ⟨rfl, rfl, rfl, rfl, fun _ => ?_⟩, ?_⟩
            · refine cellsOk_new rfl rfl (by simp_all) fun i u hi => ?_
              let ⟨x, hx, hrx⟩ := hr.get i u hi
              exact ⟨x, by simp_all, hrx.mono hle⟩
            · refine VRel.slice l 0 len len 0 ⟨b, 0, size, cs.length, cs'.size, false, 0⟩ (Env.set_self _ _ _) rfl (Nat.le_refl _) (.inl ⟨rfl, ?_, ?_⟩)
              · simp_all
              simp_all
        · cases hv
      · cases hv
    · cases hv
  | makeSlice ty' m c =>
    simp [allocC] at hv
    split at hv
    · rename_i elem hse
      have hu := sliceOf_eq hse
      split at hv
      · rename_i size by_ z he
        let ⟨hs, hby, hz, hpos, hzl, _⟩ := elemOf_eq he
        let ⟨zv, hzr, hzv, i, hi, hzi⟩ := run_zero hz
        simp [oB_eq] at hv
        let ⟨mv, h1, cv, h2, h3⟩ := hv
        have hm := evN_ok hT h1
        have hc := evN_ok hT h2
        unfold hmakeSlice at h3
        split at h3
        · rename_i m' c'
          simp only [bB_eq] at h3
          let ⟨h4, h5, h6, h7⟩ := h3
          cases h7
          have h4' := Nat.le_of_ble_eq_true h4
          have h5' : c' * by_ ≤ 281474976710656 := Nat.le_of_ble_eq_true h5
          have h6' := Nat.le_of_ble_eq_true h6
          have hib : i.bytes = by_ := by
            unfold byOf at hby
            rw [oB_eq] at hby
            let ⟨i', hi', hb⟩ := hby
            rw [hi] at hi'; cases hi'; simpa using hb
          have hzc := (hzv Δ).cells
          have hrep := repl_rel hzc (by omega) c'
          rw [hzl] at hrep
          have ev1 : a.eval m = .int .i64 (m' : Int) := by
            generalize a.eval m = x at hm; cases hm; rfl
          have ev2 : a.eval c = .int .i64 (c' : Int) := by
            generalize a.eval c = x at hc; cases hc; rfl
          have wr : ∀ k : Nat, k ≤ 1099511627776 → IntKind.i64.wrap (k : Int) = k := by grind[IntKind.wrap,IntKind.bits,IntKind.signed]
          refine ⟨.cells ((Array.range (c' * size)).map fun i => zv.cells[i % zv.cells.size]!) elem, fun b => .slice (some ⟨b, 0, none⟩) m' c', fun w => run_v ?_, ?_⟩
          · rw [ev1, ev2]
            have e1 : ((i.bytes : Int) * (c' : Int) > 2 ^ 48) = False := by
              rw [hib]
              have : (by_ : Int) * (c' : Int) = ((c' * by_ : Nat) : Int) := by rw [Nat.mul_comm]; simp
              rw [this]; simp; omega
            have hzero : (if c' * size = 0 then (pure #[] : Sem (Array Value)) else do pure (← zeroValue elem).cells).run P0 w = .ok (if c' * size = 0 then (#[] : Array Value) else zv.cells) w := by
              by_cases h0 : c' * size = 0
              · simp_all
              · simp_all
            have hrow : ((Array.range (c' * size)).map fun i => (if c' * size = 0 then (#[] : Array Value) else zv.cells)[i % (if c' * size = 0 then (#[] : Array Value) else zv.cells).size]!) = ((Array.range (c' * size)).map fun i => zv.cells[i % zv.cells.size]!) := by
              by_cases h0 : c' * size = 0
              · simp_all
              · simp_all
            have c1 : ¬ ((c' : Int) < 0) := by omega
            have c2 : ¬ ((m' : Int) < 0) := by omega
            have c3 : ¬ ((m' : Int) > (c' : Int)) := by omega
            simp only [Instr.makeSlice, Sem.run_bind, run_und hu, Result.andThen_ok, asInt, asIntOf, Sem.run_pure, typeInfo, run_program, hi, wr m' (by omega), wr c' h6', e1, c1, c2, c3, decide_false, Bool.or_false, Bool.false_eq_true, if_false, run_askRoom, run_sz hs, Int.toNat_natCast]
            by_cases h0 : c' * size = 0
            · simp only [if_pos h0, newRow, run_newObj, Sem.run_bind, Sem.run_pure, Result.andThen_ok] at hrow ⊢
              rw [hrow]
              rfl
            simp_all[newRow,run_newObj,Sem.run_bind,Result.andThen_ok]
          · intro l b hn
            have hcl := hrep.length
            simp [] at hcl
            have hrl : (repl c' z.cells).length = c' * size := by rw [repl_length, hzl]
            have hle := Env.le_set (d := ⟨b, 0, size, (repl c' z.cells).length, c' * size, false, 0⟩) hn
            refine ⟨⟨b, 0, size, (repl c' z.cells).length, c' * size, false, 0⟩, rfl, ⟨rfl, rfl, rfl, rfl, fun _ => ?_⟩, ?_⟩
            · refine cellsOk_new (by simp) rfl (Nat.le_of_eq hrl) fun i u hi => ?_
              let ⟨x, hx, hrx⟩ := hrep.get i u hi
              exact ⟨x, by grind, hrx.mono hle⟩
            · refine VRel.slice l 0 m' c' 0 ⟨b, 0, size, (repl c' z.cells).length, c' * size, false, 0⟩ (Env.set_self _ _ _) rfl h4' (.inl ⟨rfl, ?_, ?_⟩)
              · simp_all
              simp_all
        · cases h3
      · cases hv
    · cases hv
  | makeMap ty' r =>
    cases r with
    | none =>
      simp [allocC] at hv
      split at hv
      · cases hv
        refine ⟨.map #[] 0, fun b => .map (some b), fun w => run_v (by simp [Instr.makeMap]), ?_⟩
        intro l b hn
        exact ⟨⟨b, 0, 0, 0, 0, false, 1⟩, rfl, ⟨rfl, rfl, rfl, #[], rfl, .nil⟩, VRel.map l ⟨b, 0, 0, 0, 0, false, 1⟩ (Env.set_self _ _ _)⟩
      · cases hv
    | some _ => cases hv
  | _ => cases hv
end
end Go.Proofs.YtgfdhkhcojjkjaaGreatDoor.Hx
