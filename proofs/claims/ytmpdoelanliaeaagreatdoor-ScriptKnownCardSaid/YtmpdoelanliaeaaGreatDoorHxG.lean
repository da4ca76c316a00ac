/- What an operation that leaves the heap alone comes to in the model: the whole. And one that makes one thing. -/
import Derived.Test.YtmpdoelanliaeaaGreatDoorHxF
import Derived.Laws.IdiomStrings
namespace Go.Proofs.YtmpdoelanliaeaaGreatDoor.Hx
section
variable {Δ : Env} {h : Hp} {w : World} {n : Nat} {t : Tm} {a : Act}

theorem map_ok (hW : WR Δ h w) {l : Nat} {d : D} (hl : Δ l = some d) {es : List (V × V × Nat)} {c : Nat} (hg : h.get l = some (.map es c)) :
    ∃ es', w.heap[d.b]? = some (.map es' c) ∧ ERel Δ es es'.toList := by
  obtain ⟨o, ho, hr⟩ := hW.obj l d hl
  rw [hg] at ho
  cases ho
  obtain ⟨_, _, _, es', h1, h2⟩ := hr
  simp_all
theorem run_getObj_map {r : Nat} {es : Array MapEntry} {c : Nat} (hg : w.heap[r]? = some (.map es c)) : (getObj r).run P0 w = .ok (.map es c) w := by grind[getObj,Sem.run]
theorem found_ok {z : V} {zv : Value} {ok : Bool} {r : Option (Nat × V)} {r' : Option (Nat × Value)} (hz : VRel Δ z zv) (hr : FRel Δ r r') :
    VRel Δ (found z ok r) (match r' with
      | some (_, v) => if ok then .tuple #[v, .bool true] else v
      | none => if ok then .tuple #[zv, .bool false] else zv) := by
  cases r with
  | none => cases r' with
    | none => cases ok
              · exact hz
              · exact .tuple _ _ (.cons _ _ _ _ hz (.one (.bool false)))
    | some _ => cases hr
  | some x => cases r' with
    | none => cases hr
    | some x' =>
      obtain ⟨_, hv⟩ := hr
      cases ok
      · exact hv
      · exact .tuple _ _ (.cons _ _ _ _ hv (.one (.bool true)))
theorem hlookup_ok (hW : WR Δ h w) {mT : Nat} {p q : PF} {ok : Bool} {mv kv : Value} {v : V} (hp : ∀ v, p.f t h = some v → VRel Δ v mv) (hq : ∀ v, q.f t h = some v → VRel Δ v kv)
    (hv : (hlookup mT p q ok).f t h = some v) : ∃ r, (Instr.lookup mT mv kv ok).run P0 w = .ok r w ∧ VRel Δ v r := by
  unfold hlookup at hv
  split at hv
  · rename_i kt et hu
    split at hv
    · rename_i d z hd hz
      obtain ⟨zv, hzr, hzv, _⟩ := run_zero hz
      simp only [oB_eq, bB_eq] at hv
      obtain ⟨m, h1, k, h2, hh, h3⟩ := hv
      have hm := hp _ h1
      have hk := hq _ h2
      split at h3
      · cases h3; cases hm
        have hck := checkKey_ok true 9999 (by omega) w hd hk hh
        have hf := findKey_ok hd hk w ERel.nil (r := none) (by rfl)
        obtain ⟨r', hf, hr⟩ := hf
        have hr' : r' = none := by cases r' <;> first | rfl | cases hr
        subst hr'
        refine ⟨_, ?_, found_ok (ok := ok) (r := none) (r' := none) (hzv Δ) trivial⟩
        simp only [Instr.lookup, Sem.run_bind, run_und hu, Result.andThen_ok, Sem.run_pure]
        simp_all
      · simp only [mapAt_eq, oB_eq] at h3
        obtain ⟨es, c, hg, r, hf, h3⟩ := h3
        cases h3
        cases hm with
        | map l d' hl =>
          obtain ⟨es', hb, he⟩ := map_ok hW hl hg
          obtain ⟨r', hf, hr⟩ := findKey_ok hd hk w he hf
          have hck := checkKey_ok es'.isEmpty 9999 (by omega) w hd hk hh
          refine ⟨_, ?_, found_ok (ok := ok) (hzv Δ) hr⟩
          simp only [Instr.lookup, Sem.run_bind, run_und hu, Result.andThen_ok, Sem.run_pure, run_getObj_map hb, hck, hf]
          grind[Sem.run_bind,Result.andThen_ok,Sem.run_pure]
      · cases h3
    · cases hv
  · cases hv

theorem hlen_ok (hW : WR Δ h w) {ty : Nat} {tys : Array Nat} (hty : tys[0]? = some ty) {rt : Nat} {p : PF} {xv : Value} {v : V} (hp : ∀ v, p.f t h = some v → VRel Δ v xv)
    (hv : (hlen ty p).f t h = some v) : ∃ r, (Builtin.len_ tys rt #[xv]).run P0 w = .ok r w ∧ VRel Δ v r := by
  unfold hlen at hv
  split at hv
  · rename_i hu
    rw [oB_eq] at hv
    obtain ⟨x, h1, h2⟩ := hv
    have hx := hp _ h1
    split at h2
    · cases h2
      cases hx with
      | str s => exact ⟨goInt s.size, by simp_all[Builtin.len_,run_und], .int _ _⟩
    · cases h2
  · rename_i e hu
    rw [oB_eq] at hv
    obtain ⟨x, h1, h2⟩ := hv
    have hx := hp _ h1
    split at h2
    · rename_i lc off m
      cases h2; cases hx; exact ⟨goInt m, by simp_all[Builtin.len_,run_und], .int _ _⟩
    · cases h2; cases hx; exact ⟨goInt 0, by simp_all[Builtin.len_,run_und], .int _ _⟩
    · cases h2
  · rename_i m e hu
    rw [oB_eq] at hv
    obtain ⟨x, h1, h2⟩ := hv
    cases h2
    exact ⟨goInt m, by simp_all[Builtin.len_,run_und], .int _ _⟩
  · rename_i k e hu
    rw [oB_eq] at hv
    obtain ⟨x, h1, h2⟩ := hv
    have hx := hp _ h1
    split at h2
    · cases h2; cases hx; exact ⟨goInt 0, by simp_all[Builtin.len_,run_und], .int _ _⟩
    · rw [mapAt_eq] at h2
      obtain ⟨es, c, hg, h2⟩ := h2
      cases h2
      cases hx with
      | map l d hl =>
        obtain ⟨es', hb, he⟩ := map_ok hW hl hg
        have hlen : es.length = es'.size := by
          have : ∀ {a : List (V × V × Nat)} {b : List MapEntry}, ERel Δ a b → a.length = b.length := fun h => by induction h <;> simp_all
          simpa using this he
        refine ⟨goInt es'.size, by simp [Builtin.len_, hty, run_und hu, run_getObj_map hb], ?_⟩
        rw [hlen]; exact .int _ _
    · cases h2
  · cases hv
theorem hmin_ok {gt : Bool} (w : World) : ∀ {l : List V} {l' : List Value} {x : V} {x' : Value} {v : V}, VRel Δ x x' → VsRel Δ l l' → hmin gt x l = some v →
    ∃ r, (l'.foldlM (if gt then Builtin.max2 else Builtin.min2) x').run P0 w = .ok r w ∧ VRel Δ v r
  | [], _, x, x', v, hx, hl, hv => by simp [hmin] at hv; subst hv; cases hl; simp_all
  | y :: l, _, x, x', v, hx, hl, hv => by
    cases hl with
    | cons _ y' _ l' hy hs =>
      unfold hmin at hv
      split at hv
      · simp_all
      · rename_i k p k' q r e1
        cases e1
        cases hx; cases hy
        obtain ⟨res, h1, h2⟩ := hmin_ok w (.int k _) hs hv
        refine ⟨res, ?_, h2⟩
        rw [List.foldlM_cons]
        simp only [Sem.run_bind]
        cases gt
        · simp_all[Bool.false_eq_true,Builtin.min2,Sem.run_pure,Result.andThen_ok]
        simp_all[Builtin.max2,Sem.run_pure,Result.andThen_ok]
      · cases hv
theorem isIface_eq {ty : Nat} (hi : isIface ty = some false) : ∃ d, P0.underlying ty = some d ∧ ∀ m, d ≠ .interface m := by
  grind[isIface]
theorem hassert_ok {p : PF} {asserted xT : Nat} {ok : Bool} {xv : Value} {v : V} (w : World) (hp : ∀ v, p.f t h = some v → VRel Δ v xv)
    (hv : (hassert p asserted ok).f t h = some v) : ∃ r, (Instr.typeAssert xv xT asserted ok).run P0 w = .ok r w ∧ VRel Δ v r := by
  unfold hassert at hv
  split at hv
  · rename_i z hi hz
    obtain ⟨zv, hzr, hzv, _⟩ := run_zero hz
    obtain ⟨d, hu, hd⟩ := isIface_eq hi
    rw [oB_eq] at hv
    obtain ⟨x, h1, h2⟩ := hv
    have hx := hp _ h1
    split at h2
    · rename_i u y
      cases h2
      cases hx with
      | iface _ _ y' hy =>
        rw [brec_eq]
        by_cases e : u = asserted
        · have e' : Nat.beq u asserted = true := by rw [e]; exact Nat.beq_refl _
          rw [if_pos e']
          refine ⟨.tuple #[y', .bool true], ?_, .tuple _ _ (.cons _ _ _ _ hy (.one (.bool true)))⟩
          simp only [Instr.typeAssert, Sem.run_bind, run_und hu, Result.andThen_ok]
          simp_all
        · have e' : ¬ Nat.beq u asserted = true := by simp_all
          rw [if_neg e']
          refine ⟨.tuple #[zv, .bool false], ?_, .tuple _ _ (.cons _ _ _ _ (hzv Δ) (.one (.bool false)))⟩
          simp only [Instr.typeAssert, Sem.run_bind, run_und hu, Result.andThen_ok]
          simp_all
    · rename_i u y
      rw [bB_eq] at h2
      obtain ⟨e, h2⟩ := h2
      cases h2
      have e := Nat.eq_of_beq_eq_true e
      cases hx with
      | iface _ _ y' hy =>
        refine ⟨y', ?_, hy⟩
        simp only [Instr.typeAssert, Sem.run_bind, run_und hu, Result.andThen_ok]
        simp_all
    · cases h2
      cases hx
      refine ⟨.tuple #[zv, .bool false], ?_, .tuple _ _ (.cons _ _ _ _ (hzv Δ) (.one (.bool false)))⟩
      simp only [Instr.typeAssert, Sem.run_bind, run_und hu, Result.andThen_ok]
      simp_all
    · cases h2
  · cases hv
theorem hpick_ok {c p q : PF} {cv pv qv : Value} {v : V} (w : World) (hc : ∀ v, c.f t h = some v → VRel Δ v cv) (hp : ∀ v, p.f t h = some v → VRel Δ v pv) (hq : ∀ v, q.f t h = some v → VRel Δ v qv)
    (hv : (hpick c p q).f t h = some v) : ∃ r, (do pure (Next.value (if ← asBool cv then pv else qv)) : Sem Next).run P0 w = .ok (.value r) w ∧ VRel Δ v r := by
  unfold hpick at hv
  simp only [oB_eq] at hv
  obtain ⟨x, h1, h2⟩ := hv
  have hx := hc _ h1
  split at h2
  · rename_i b
    cases hx
    cases b
    · simp_all[asBool]
    simp_all[asBool]
  · cases h2
theorem hnilCheck_ok {p : PF} {x : Operand} {v : V} (w : World) (hp : ∀ v, p.f t h = some v → VRel Δ v (a.eval x)) (hv : (hnilCheck p).f t h = some v) {dst ty pos af gd} :
    (execOp a.eval { dst := dst, op := .nilCheck x, type := ty, pos := pos, after := af, guard := gd }).run P0 w = .ok (.value (a.eval x)) w ∧ VRel Δ v (a.eval x) := by
  unfold hnilCheck at hv
  rw [oB_eq] at hv
  obtain ⟨y, h1, h2⟩ := hv
  have hy := hp _ h1
  simp only [execOp]
  generalize a.eval x = xv at hy ⊢
  split at h2
  · cases h2; cases hy with | ptr _ _ d hd => exact ⟨rfl, .ptr _ _ d hd⟩
  · cases h2; cases hy with | func _ _ _ p' q' h1 h2 => exact ⟨rfl, .func _ _ _ p' q' h1 h2⟩
  · cases h2; cases hy with | iface _ _ v' hv => exact ⟨rfl, .iface _ _ v' hv⟩
  · cases h2
theorem hextract_ok {p : PF} {i : Nat} {xv : Value} {v : V} (w : World) (hp : ∀ v, p.f t h = some v → VRel Δ v xv) (hv : (hextract p i).f t h = some v) :
    ∃ r, (Instr.extract xv i).run P0 w = .ok r w ∧ VRel Δ v r := by
  unfold hextract at hv
  rw [oB_eq] at hv
  obtain ⟨y, h1, h2⟩ := hv
  have hy := hp _ h1
  split at h2
  · cases hy with
    | tuple vs vs' hvs =>
      obtain ⟨x, hx, hr⟩ := hvs.get _ _ (at1_eq h2)
      simp_all[Instr.extract]
  · cases h2
theorem bytesOf_ok {cs : List V} {xs : List Value} {s : List UInt8} (hr : VsRel Δ cs xs) (hv : bytesOf cs = some s) : xs = (s.map fun b => (b.toNat : Int)).map (Value.int .u8) := by
  induction cs generalizing xs s with
  | nil => cases hr; grind[bytesOf]
  | cons c cs ih =>
    simp only [bytesOf, oB_eq] at hv
    obtain ⟨b, h1, l, h2, h3⟩ := hv
    cases h3
    cases hr with
    | cons _ x _ xs hx hxs =>
      rw [ih hxs h2]
      unfold byteOf at h1
      split at h1
      · rename_i m
        rw [bB_eq] at h1
        obtain ⟨h4, h5⟩ := h1
        cases h5
        cases hx
        have h4' : m < 256 := by rw [Nat.blt_eq] at h4; exact h4
        have : (UInt8.ofNat m).toNat = m := by simp; omega
        grind
      · cases h1
theorem push_bytes (l : List UInt8) : ∀ (r : ByteArray), ((l.map fun b => (b.toNat : Int)).foldl (fun r n => r.push (UInt8.ofNat n.toNat)) r).data.toList = r.data.toList ++ l := by
  induction l <;> simp_all
theorem hstring_ok {src dst e : Nat} (hs : P0.underlying src = some (.slice e)) (hd : P0.underlying dst = some .string) (he : P0.underlying e = some (.int .u8)) {ad : Option Addr} {len cap : Nat} {cs : List V} {s : List UInt8}
    (hb : bytesOf cs = some s) (hc : ∀ b, ad = some b → ∃ xs, (loadCells b len).run P0 w = .ok (Array.mk xs) w ∧ VsRel Δ cs xs) (hn : ad = none → s = []) :
    ∃ x, (convert src dst (.slice ad len cap)).run P0 w = .ok x w ∧ VRel Δ (.str s) x := by
  cases ad with
  | none =>
    cases hn rfl
    exact ⟨.string .empty, by simp_all[convert,run_und,Conv.bytesToString], .str ByteArray.empty⟩
  | some b =>
    obtain ⟨xs, h1, h2⟩ := hc b rfl
    rw [bytesOf_ok h2 hb] at h1
    have hr := run_bytesToString (P := P0) w b len cap _ h1
    generalize hB : (List.foldl (fun r n => ByteArray.push r (UInt8.ofNat n.toNat)) ByteArray.empty (List.map (fun b => (b.toNat : Int)) s)) = B at hr
    have hBl : B.data.toList = s := by rw [← hB, push_bytes]; rfl
    refine ⟨.string B, ?_, by rw [← hBl]; exact .str B⟩
    simp_all[convert,Sem.run_bind,run_und,Result.andThen_ok]
theorem loadCells_list (hW : WR Δ h w) {l : Nat} {d : D} (hl : Δ l = some d) {off m : Nat} {cs : List V} (hv : ldAt h l off m = some cs) :
    ∃ xs, (loadCells ⟨d.b, d.base + off, none⟩ m).run P0 w = .ok (Array.mk xs) w ∧ VsRel Δ cs xs := by
  obtain ⟨arr, h1, h2⟩ := loadCells_ok hW hl hv
  exact ⟨arr.toList, by omega, h2⟩
theorem ldAt_len {l off m : Nat} {cs : List V} (hv : ldAt h l off m = some cs) : cs.length = m := by
  grind[ldAt,cellsAt_eq,bB_eq,sub_eq]
theorem hconvS_ok (hW : WR Δ h w) {src dst e : Nat} {p : PF} {xv : Value} {v : V} (hs : P0.underlying src = some (.slice e)) (hd : P0.underlying dst = some .string) (hp : ∀ v, p.f t h = some v → VRel Δ v xv) (hv : (hconv src dst p).f t h = some v) :
    ∃ r, (convert src dst xv).run P0 w = .ok r w ∧ VRel Δ v r := by
  unfold hconv at hv
  rw [hs, hd] at hv
  simp only at hv
  split at hv
  · rename_i he
    simp only [oB_eq] at hv
    obtain ⟨x, h1, h2⟩ := hv
    have hx := hp _ h1
    split at h2
    · cases h2; cases hx
      exact hstring_ok (Δ := Δ) (w := w) (src := src) (dst := dst) (e := e) (ad := none) (len := 0) (cap := 0) (cs := []) (s := []) hs hd he rfl (by simp_all) (by simp_all)
    · rename_i l off len
      simp only [oB_eq] at h2
      obtain ⟨cs, h3, s, h4, h5⟩ := h2
      cases h5
      cases hx with
      | slice _ _ _ cap o d hd' hk hle ho =>
        have hld : ∃ xs, (loadCells ⟨d.b, o, none⟩ len).run P0 w = .ok (Array.mk xs) w ∧ VsRel Δ cs xs := by
          rcases ho with ⟨rfl, _, _⟩ | ⟨rfl, _⟩
          · grind[loadCells_list]
          · have : len = 0 := by omega
            subst this
            have hc0 : cs = [] := List.eq_nil_of_length_eq_zero (ldAt_len h3)
            subst hc0
            exact ⟨[], by rfl, .nil⟩
        exact hstring_ok (Δ := Δ) (w := w) (src := src) (dst := dst) (e := e) (ad := some ⟨d.b, o, none⟩) (len := len) (cap := cap) hs hd he h4 (by simp_all) (by simp_all)
    · cases h2
  · cases hv
theorem VsRel.toArray {l : List Operand} {vs : List V} (h : VsRel Δ vs (l.map a.eval)) : VsRel Δ vs (l.toArray.map a.eval).toList := by simp_all

theorem pure_ok (hW : WR Δ h w) (hT : TR Δ n t a) {o : Oper} {v : V} (hv : (pureC o).f t h = some v) : ∃ x, (execOp a.eval o).run P0 w = .ok (.value x) w ∧ VRel Δ v x := by
  obtain ⟨dst, op, ty, pos, af, gd⟩ := o
  have ev : ∀ (x : Operand) v, (evO x).f t h = some v → VRel Δ v (a.eval x) := by grind[evO_ok]
  cases op with
  | move x => exact ⟨_, rfl, ev x v hv⟩
  | assign x => exact ⟨_, rfl, ev x v hv⟩
  | pick c p q => exact hpick_ok w (ev c) (ev p) (ev q) hv
  | load ty a' =>
    obtain ⟨x, h1, h2⟩ := hload_ok hW (ev a') hv
    exact ⟨x, run_v h1, h2⟩
  | nilCheck x =>
    obtain ⟨h1, h2⟩ := hnilCheck_ok w (ev x) hv (dst := dst) (ty := ty) (pos := pos) (af := af) (gd := gd)
    simp_all
  | binOp op xt x y yt =>
    simp only [pureC, oB_eq] at hv
    obtain ⟨p, h1, q, h2, h3⟩ := hv
    obtain ⟨r, h4, h5⟩ := hbin_ok (X := x) (Y := y) w (ev x _ h1) (ev y _ h2) h3
    exact ⟨r, run_v h4, h5⟩
  | unOp op xt x =>
    simp only [pureC, oB_eq] at hv
    obtain ⟨p, h1, h2⟩ := hv
    obtain ⟨r, h4, h5⟩ := hun_ok w (ev x _ h1) h2
    exact ⟨r, run_v h4, h5⟩
  | convert src d x =>
    have hall : ∃ r, (convert src d (a.eval x)).run P0 w = .ok r w ∧ VRel Δ v r := by
      by_cases hsl : ∃ e, P0.underlying src = some (.slice e) ∧ P0.underlying d = some .string
      · obtain ⟨e, h1, h2⟩ := hsl
        exact hconvS_ok hW h1 h2 (ev x) hv
      · exact hconv_ok w hsl (ev x) hv
    obtain ⟨r, h4, h5⟩ := hall
    exact ⟨r, run_v h4, h5⟩
  | build ty parts =>
    obtain ⟨r, h4, h5⟩ := hbuild_ok hT hv
    refine ⟨r, run_v ?_, h5⟩
    rw [← h4]
    congr 2
    grind
  | makeFunc fn first caps =>
    cases fn with
    | func f =>
      simp only [pureC, oB_eq] at hv
      obtain ⟨p, h1, q, h2, h3⟩ := hv
      cases h3
      refine ⟨_, rfl, .func f p q _ _ ?_ ?_⟩
      · have := evNs_ok hT h1; simp_all
      · have := evNs_ok hT h2; simp_all
    | _ => cases hv
  | slice ty x lo hi mx =>
    cases mx with
    | none =>
      obtain ⟨r, h4, h5⟩ := hslice_ok hW hT (ev x) hv
      exact ⟨r, run_v h4, h5⟩
    | some _ => cases hv
  | fieldAddr s x f =>
    obtain ⟨r, h4, h5⟩ := hfieldAddr_ok w (ev x) hv
    exact ⟨r, run_v h4, h5⟩
  | field s x f =>
    obtain ⟨r, h4, h5⟩ := hfield_ok w (ev x) hv
    exact ⟨r, run_v h4, h5⟩
  | indexAddr ty x i =>
    obtain ⟨r, h4, h5⟩ := hindexAddr_ok w (ev x) (ev i) hv
    exact ⟨r, run_v h4, h5⟩
  | index ty x i =>
    obtain ⟨r, h4, h5⟩ := hindex_ok w (ev x) (ev i) hv
    exact ⟨r, run_v h4, h5⟩
  | lookup ty m k ok =>
    obtain ⟨r, h4, h5⟩ := hlookup_ok hW (ev m) (ev k) hv
    exact ⟨r, run_v h4, h5⟩
  | extract x i =>
    obtain ⟨r, h4, h5⟩ := hextract_ok w (ev x) hv
    exact ⟨r, run_v h4, h5⟩
  | makeInterface ty x =>
    simp only [pureC] at hv
    split at hv
    · rename_i hi
      obtain ⟨d, hu, hd⟩ := isIface_eq hi
      simp only [oB_eq] at hv
      obtain ⟨p, h1, h2⟩ := hv
      cases h2
      refine ⟨.iface ty (a.eval x), run_v ?_, .iface _ _ _ (by simp_all)⟩
      simp only [Instr.makeInterface, Sem.run_bind, run_und hu, Result.andThen_ok]
      rfl
    · cases hv
  | typeAssert x xT asserted ok =>
    obtain ⟨r, h4, h5⟩ := hassert_ok (xT := xT) w (ev x) hv
    exact ⟨r, run_v h4, h5⟩
  | call c =>
    obtain ⟨callee, args, argTypes⟩ := c
    simp only [pureC] at hv
    cases callee with
    | builtin b =>
      cases b <;> try (cases hv; done)
      case len =>
        simp only at hv
        split at hv
        · rename_i x ty' tys hargs htys
          have hty : argTypes[0]? = some ty' := by rw [← Array.getElem?_toList, htys]; rfl
          obtain ⟨r, h4, h5⟩ := hlen_ok hW (rt := ty) hty (ev x) hv
          refine ⟨r, ?_, h5⟩
          have hm : args.map a.eval = #[a.eval x] := by apply Array.ext'; simp [hargs]
          simp only [execOp, resolve, hm]
          exact run_v h4
        · cases hv
      case min =>
        simp only [oB_eq] at hv
        obtain ⟨l, h1, h2⟩ := hv
        split at h2
        · rename_i x r
          have hvs := evNs_ok hT h1
          cases hargs : args.toList.map a.eval with
          | nil => rw [hargs] at hvs; cases hvs
          | cons x' r' =>
            rw [hargs] at hvs
            cases hvs with
            | cons _ _ _ _ hx hr =>
              obtain ⟨res, h3, h4⟩ := hmin_ok w hx hr h2
              refine ⟨res, ?_, h4⟩
              have hm : (args.map a.eval).toList = x' :: r' := by simpa using hargs
              simp only [execOp, resolve]
              refine run_v ?_
              grind[Builtin.min_]
        · cases h2
      case max =>
        simp only [oB_eq] at hv
        obtain ⟨l, h1, h2⟩ := hv
        split at h2
        · rename_i x r
          have hvs := evNs_ok hT h1
          cases hargs : args.toList.map a.eval with
          | nil => rw [hargs] at hvs; cases hvs
          | cons x' r' =>
            rw [hargs] at hvs
            cases hvs with
            | cons _ _ _ _ hx hr =>
              obtain ⟨res, h3, h4⟩ := hmin_ok w hx hr h2
              refine ⟨res, ?_, h4⟩
              have hm : (args.map a.eval).toList = x' :: r' := by simpa using hargs
              simp only [execOp, resolve]
              refine run_v ?_
              grind[Builtin.max_]
        · cases h2
    | value f => cases hv
    | invoke r m => cases hv
  | _ => cases hv
end
end Go.Proofs.YtmpdoelanliaeaaGreatDoor.Hx
