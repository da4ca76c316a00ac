/- What an operation comes to hangs on the temporaries that it names alone. -/
import Derived.Test.YtgfdhkhcojjkjaaGreatDoorHxM
namespace Go.Proofs.YtgfdhkhcojjkjaaGreatDoor.Hx

/-- Two tables alike where an operand looks. -/
def Alike (t t' : Tm) (x : Operand) : Prop := (evN x).f t = (evN x).f t'
theorem alike_tmps {t t' : Tm} {l : List Operand} (h : ∀ d, d ∈ tmpsIn l → tget t d = tget t' d) : ∀ x ∈ l, Alike t t' x := by
  induction l with
  | nil => simp_all
  | cons y l ih =>
    intro x hx
    cases hx with
    | head =>
      unfold Alike
      cases y <;> grind[tget,tmpsIn,evN]
    | tail _ hx =>
      refine ih (fun d hd => h d ?_) x hx
      cases y <;> simp [tmpsIn, hd]

section
variable {t t' : Tm} {h : Hp}
theorem evO_alike {x : Operand} (hx : Alike t t' x) : (evO x).f t h = (evO x).f t' h := by
  unfold Alike at hx
  cases x <;> grind[evO]
theorem evNs_alike : ∀ {l : List Operand}, (∀ x ∈ l, Alike t t' x) → evNs t l = evNs t' l
  | [], _ => rfl
  | x :: l, hl => by
    have h1 : (evN x).f t = (evN x).f t' := hl x (by simp)
    simp only [evNs, h1, evNs_alike (l := l) (by simp_all)]
theorem evParts_alike : ∀ {l : List (Nat × Operand)}, (∀ x ∈ l, Alike t t' x.2) → evParts t l = evParts t' l
  | [], _ => rfl
  | x :: l, hl => by
    have h1 : (evN x.2).f t = (evN x.2).f t' := hl x (by simp)
    simp only [evParts, h1, evParts_alike (l := l) (by grind)]
theorem optF_alike {x : Option Operand} (hx : ∀ y, x = some y → Alike t t' y) : optF x t h = optF x t' h := by
  cases x with
  | none => rfl
  | some y => simp only [optF, evO_alike (hx y rfl)]

theorem hload_alike {ty : Nat} {p : PF} (hp : p.f t h = p.f t' h) : (hload ty p).f t h = (hload ty p).f t' h := by
  grind[hload]
theorem hconv_alike {a b : Nat} {p : PF} (hp : p.f t h = p.f t' h) : (hconv a b p).f t h = (hconv a b p).f t' h := by
  grind[hconv]
theorem hfieldAddr_alike {a b : Nat} {p : PF} (hp : p.f t h = p.f t' h) : (hfieldAddr a p b).f t h = (hfieldAddr a p b).f t' h := by
  grind[hfieldAddr]
theorem hfield_alike {a b : Nat} {p : PF} (hp : p.f t h = p.f t' h) : (hfield a p b).f t h = (hfield a p b).f t' h := by
  grind[hfield]
theorem hindexAddr_alike {a : Nat} {p q : PF} (hp : p.f t h = p.f t' h) (hq : q.f t h = q.f t' h) : (hindexAddr a p q).f t h = (hindexAddr a p q).f t' h := by
  grind[hindexAddr]
theorem hindex_alike {a : Nat} {p q : PF} (hp : p.f t h = p.f t' h) (hq : q.f t h = q.f t' h) : (hindex a p q).f t h = (hindex a p q).f t' h := by
  grind[hindex]
theorem hslice_alike {a : Nat} {p : PF} {lo hi : Option Operand} (hp : p.f t h = p.f t' h) (hl : optF lo t h = optF lo t' h) (hh : optF hi t h = optF hi t' h) :
    (hslice a p lo hi).f t h = (hslice a p lo hi).f t' h := by
  grind[hslice]
theorem hlookup_alike {a : Nat} {p q : PF} {ok : Bool} (hp : p.f t h = p.f t' h) (hq : q.f t h = q.f t' h) : (hlookup a p q ok).f t h = (hlookup a p q ok).f t' h := by
  grind[hlookup]
theorem hlen_alike {a : Nat} {p : PF} (hp : p.f t h = p.f t' h) : (hlen a p).f t h = (hlen a p).f t' h := by
  grind[hlen]
theorem hassert_alike {a : Nat} {p : PF} {ok : Bool} (hp : p.f t h = p.f t' h) : (hassert p a ok).f t h = (hassert p a ok).f t' h := by
  grind[hassert]
theorem hpick_alike {c p q : PF} (hc : c.f t h = c.f t' h) (hp : p.f t h = p.f t' h) (hq : q.f t h = q.f t' h) : (hpick c p q).f t h = (hpick c p q).f t' h := by
  grind[hpick]
theorem hbuild_alike {a : Nat} {ps : List (Nat × Operand)} (hp : evParts t ps = evParts t' ps) : (hbuild a ps).f t h = (hbuild a ps).f t' h := by
  unfold hbuild; grind

theorem pure_alike {o : Oper} (hx : ∀ x ∈ o.op.operands.toList, Alike t t' x) : (pureC o).f t h = (pureC o).f t' h := by
  obtain ⟨dst, op, ty, pos, af, gd⟩ := o
  cases op <;> simp only [pureC] <;> simp only [Op.operands] at hx
  case move x => grind[evO_alike]
  case assign x => grind[evO_alike]
  case pick c a b => exact hpick_alike (by grind[evO_alike]) (by grind[evO_alike]) (by grind[evO_alike])
  case load ty a => grind[hload_alike,evO_alike]
  case nilCheck x => grind[hnilCheck,evO_alike]
  case binOp op xt x y b => grind[evO_alike]
  case unOp op b x => grind[evO_alike]
  case convert s d x => grind[hconv_alike,evO_alike]
  case build ty ps => grind[hbuild_alike,evParts_alike]
  case makeFunc fn first caps =>
    cases fn with
    | func f => grind[evNs_alike]
    | _ => rfl
  case slice ty x lo hi mx =>
    cases mx with
    | none => grind[hslice_alike,evO_alike,optF_alike]
    | some _ => rfl
  case fieldAddr s x f => grind[hfieldAddr_alike,evO_alike]
  case field s x f => grind[hfield_alike,evO_alike]
  case indexAddr ty x i => grind[hindexAddr_alike,evO_alike]
  case index ty x i => grind[hindex_alike,evO_alike]
  case lookup ty m k ok => grind[hlookup_alike,evO_alike]
  case extract x i => grind[hextract,evO_alike]
  case makeInterface ty x =>
    split
    · grind[evO_alike]
    · rfl
  case typeAssert x b asserted ok => grind[hassert_alike,evO_alike]
  case call c =>
    obtain ⟨cal, args, tys⟩ := c
    cases cal with
    | builtin b =>
      have ha : ∀ x ∈ args.toList, Alike t t' x := by grind[Call.operands]
      cases b <;> simp only
      case len =>
        split
        · grind[hlen_alike,evO_alike]
        · rfl
      case min => grind[evNs_alike]
      case max => grind[evNs_alike]
      all_goals rfl
    | _ => rfl
  all_goals rfl
theorem evN_alike {x : Operand} (hx : Alike t t' x) : (evN x).f t = (evN x).f t' := hx
theorem alloc_alike {o : Oper} (hx : ∀ x ∈ o.op.operands.toList, Alike t t' x) : (allocC o).f t = (allocC o).f t' := by
  obtain ⟨dst, op, ty, pos, af, gd⟩ := o
  cases op <;> simp only [allocC] <;> simp only [Op.operands] at hx
  case alloc e => split <;> rfl
  case box e x => grind[evN_alike]
  case buildSlice ty len parts =>
    (repeat' split) <;> first
      | rfl
      | grind[hbuildSlice,evParts_alike]
  case makeSlice ty n c =>
    (repeat' split) <;> first
      | rfl
      | grind[evN_alike]
  case makeMap ty r =>
    cases r with
    | none => simp only; split <;> rfl
    | some _ => rfl
  all_goals rfl
theorem write_alike {o : Oper} (hx : ∀ x ∈ o.op.operands.toList, Alike t t' x) : (writeC o).f t h = (writeC o).f t' h := by
  obtain ⟨dst, op, ty, pos, af, gd⟩ := o
  cases op <;> simp only [writeC] <;> simp only [Op.operands] at hx
  case store ty a x =>
    split
    · grind[evO_alike]
    · rfl
  case mapUpdate ty m k x =>
    (repeat' split) <;> first
      | rfl
      | grind[evO_alike]
  case insert ty m k x =>
    (repeat' split) <;> first
      | rfl
      | grind[evO_alike]
  case range ty x =>
    split
    · grind[evO_alike]
    · rfl
  case next x isS =>
    cases isS with
    | true => rfl
    | false => grind[evO_alike]
  case entry x => grind[evO_alike]
  case convert s d x =>
    (repeat' split) <;> first
      | rfl
      | grind[evO_alike]
  case call c =>
    obtain ⟨cal, args, tys⟩ := c
    cases cal with
    | builtin b =>
      have ha : ∀ x ∈ args.toList, Alike t t' x := by grind[Call.operands]
      cases b <;> simp only
      case append =>
        split
        · rename_i s x sT xT hargs _
          (repeat' split) <;> first
            | rfl
            | grind[evO_alike]
        · rfl
      case copy =>
        split
        · rename_i s x sT xT hargs _
          (repeat' split) <;> first
            | rfl
            | grind[evO_alike]
        · rfl
      case delete =>
        split
        · rename_i s x sT xT hargs _
          (repeat' split) <;> first
            | rfl
            | grind[evO_alike]
        · rfl
      all_goals rfl
    | value f =>
      grind[Alike,Call.operands,evO_alike,evNs_alike]
    | invoke r m =>
      grind[Alike,Call.operands,evO_alike,evNs_alike]
  all_goals rfl
theorem op_alike {call : Call} {o : Oper} (hx : ∀ x ∈ o.op.operands.toList, Alike t t' x) : (opC o).f call t h = (opC o).f call t' h := by
  grind[opC,pure_alike,alloc_alike,write_alike]
end
end Go.Proofs.YtgfdhkhcojjkjaaGreatDoor.Hx
/- A region whose order is open: what the plain machine's one order tells of each of its items. -/
namespace Go.Proofs.YtgfdhkhcojjkjaaGreatDoor.Hx

/-! ### items -/
theorem items_get : ∀ l i acc k a, (items l i acc)[k]? = some a → a.i = i + k ∧ l[k]? = some a.o
  | [], i, acc, k, a, h => by grind[items]
  | o :: os, i, acc, 0, a, h => by simp [items] at h; grind
  | o :: os, i, acc, k + 1, a, h => by
    let ⟨h1, h2⟩ := items_get os (i + 1) _ k a h
    grind
theorem items_length : ∀ l i acc, (items l i acc).length = l.length
  | [], i, acc => rfl
  | o :: os, i, acc => by simp [items, items_length os]
theorem maskE_testBit (acc : List Nat) (x : Nat) : ∀ es m, (maskE acc es m).testBit x = true → m.testBit x = true ∨ ∃ e ∈ es, bindsE e = true ∧ (x = e.on ∨ (acc[e.on]?.getD 0).testBit x = true)
  | [], m, h => .inl h
  | e :: es, m, h => by
    simp [maskE] at h
    split at h
    · rename_i hb
      rcases maskE_testBit acc x es _ h with h1 | ⟨e', he, hb', h1⟩
      · grind
      grind
    · rcases maskE_testBit acc x es _ h with h1 | ⟨e', he, hb', h1⟩
      · simp_all
      grind
theorem items_b : ∀ l i acc k a, (items l i acc)[k]? = some a →
    a.b = maskE (acc ++ ((items l i acc).take k).map (·.b)) a.o.after.toList 0
  | [], i, acc, k, a, h => by grind[items]
  | o :: os, i, acc, 0, a, h => by grind[items]
  | o :: os, i, acc, k + 1, a, h => by
    have := items_b os (i + 1) _ k a h
    grind[items,List.append_assoc]
theorem items_pred {l : List Oper} {k : Nat} {a : It} (h : (items l 0 [])[k]? = some a) {x : Nat} (hx : a.b.testBit x = true) :
    ∃ e ∈ a.o.after.toList, bindsE e = true ∧ (x = e.on ∨ ∃ y, (items l 0 [])[e.on]? = some y ∧ y.b.testBit x = true) := by
  rw [items_b l 0 [] k a h] at hx
  rcases maskE_testBit _ x _ _ hx with h1 | ⟨e, he, hb, h1⟩
  · simp_all
  · refine ⟨e, he, hb, ?_⟩
    rcases h1 with h1 | h1
    · omega
    · right
      rw [List.nil_append, List.getElem?_map] at h1
      grind
theorem binds_any (e : Edge) : Region.binds .any e = bindsE e := by
  rfl

/-! ### the last one that wrote -/
def lastV (val : Nat → V) (D : Nat → Bool) (d : Nat) (its : List It) (v0 : V) : V := its.foldl (fun v a => if D a.i = true ∧ a.o.dst = some d then val a.i else v) v0
theorem lastV_congr {val val' : Nat → V} {D D' : Nat → Bool} {d : Nat} {its : List It} (h1 : ∀ a ∈ its, a.o.dst = some d → D a.i = D' a.i) (h2 : ∀ a ∈ its, a.o.dst = some d → D a.i = true → val a.i = val' a.i) (v0 : V) :
    lastV val D d its v0 = lastV val' D' d its v0 := by
  unfold lastV
  induction its generalizing v0 <;> grind
theorem lastV_idle {val : Nat → V} {D : Nat → Bool} {d : Nat} {its : List It} (h : ∀ a ∈ its, a.o.dst = some d → D a.i = false) (v0 : V) : lastV val D d its v0 = v0 := by
  unfold lastV
  induction its generalizing v0 <;> grind
theorem lastV_top {val : Nat → V} {D : Nat → Bool} {d : Nat} {its : List It} (hix : ∀ k (x : It), its[k]? = some x → x.i = k) {a : It} (ha : a ∈ its) (hd : a.o.dst = some d) (hD : D a.i = true)
    (h : ∀ x ∈ its, a.i < x.i → x.o.dst = some d → D x.i = false) (v0 : V) : lastV val D d its v0 = val a.i := by
  let ⟨k, hk⟩ := List.mem_iff_getElem?.1 ha
  have hlt : k < its.length := by grind
  have hsplit : its = its.take k ++ a :: its.drop (k + 1) := by
    have h1 : its.drop k = a :: its.drop (k + 1) := by
      rw [List.drop_eq_getElem_cons hlt]
      rw [List.getElem?_eq_getElem hlt] at hk
      cases hk; rfl
    rw [← h1, List.take_append_drop]
  have hpost : ∀ x ∈ its.drop (k + 1), x.o.dst = some d → D x.i = false := by
    intro x hx hxd
    let ⟨q, hq⟩ := List.mem_iff_getElem?.1 hx
    rw [List.getElem?_drop] at hq
    have := hix _ x hq
    exact by grind
  unfold lastV
  rw [hsplit, List.foldl_append, List.foldl_cons, if_pos ⟨hD, hd⟩]
  exact lastV_idle hpost _

/-! ### heaps that grow by new things alone -/
def More (h h' : Hp) : Prop := h.next ≤ h'.next ∧ ∀ l, l < h.next → h'.get l = h.get l
theorem More.refl (h : Hp) : More h h := ⟨Nat.le_refl _, fun _ _ => rfl⟩
theorem More.trans {h h' h'' : Hp} (a : More h h') (b : More h' h'') : More h h'' := ⟨Nat.le_trans a.1 b.1, fun l hl => by rw [b.2 l (Nat.lt_of_lt_of_le hl a.1), a.2 l hl]⟩
theorem More.new (h : Hp) (o : O) : More h (h.new o) := ⟨Nat.le_succ _, by simp_all[get_new,Nat.ne_of_gt]⟩
theorem WR.onward {Δ : Env} {h h' : Hp} {w : World} (hW : WR Δ h w) (hm : More h h') : WR Δ h' w where
  fresh := fun l d hl => Nat.lt_of_lt_of_le (hW.fresh l d hl) hm.1
  blk := hW.blk
  obj := fun l d hl => by rw [hm.2 l (hW.fresh l d hl)]; exact hW.obj l d hl
  apart := fun m m' e e' p p' h1 h2 hne h3 h4 => by
    rw [hm.2 m (hW.fresh m e h1)] at h3
    rw [hm.2 m' (hW.fresh m' e' h2)] at h4
    exact hW.apart m m' e e' p p' h1 h2 hne h3 h4
  glob := fun g p hlt hp => by
    rw [hm.2 g (Nat.lt_of_lt_of_le hlt hW.gnext)] at hp
    exact hW.glob g p hlt hp
  gnext := Nat.le_trans hW.gnext hm.1
  tab := hW.tab

theorem O.eq_of_beq {a b : O} (h : O.beq a b = true) : a = b := by
  unfold O.beq at h
  split at h
  · simp [ beq_iff_eq] at h
    obtain ⟨⟨⟨⟨rfl, rfl⟩, rfl⟩, rfl⟩, h5⟩ := h
    grind[V.eq_of_beqs]
  · simp_all
  · cases h

/-! ### the trace -/
structure Tc where
  on : Nat → Bool
  val : Nat → V
  tt : Nat → Tm
  ep : Nat → Nat
  pl : Nat → Nat
  ob : Nat → O
  H : Nat → Hp
  G : Nat → Hp
def Closed (its : List It) (D : Nat → Bool) : Prop := ∀ a ∈ its, D a.i = true → ∀ x ∈ its, a.b.testBit x.i = true → D x.i = true

section
variable (n : Nat) (all : List Oper) (its ws : List It) (call : Call) (t0 : Tm) (h0 : Hp)
structure ItemOk (T : Tc) (D : Nat → Bool) (a : It) : Prop where
  fresh : D a.i = false
  closed : Closed its D
  preds : ∀ x ∈ its, a.b.testBit x.i = true → D x.i = true
  temps : ∀ d, tget (T.tt a.i) d = lastV T.val D d its (tget t0 d)
  dst : ∃ d, dstC n a.o = some d
  wants : wants n all a.o (T.tt a.i) = some (T.on a.i)
  off : T.on a.i = false → T.val a.i = .undef
  epw : cls a.o ≠ 2 → afterOk ws a (T.ep a.i) = true
  epl : T.ep a.i ≤ ws.length
  pure : cls a.o = 0 → T.on a.i = true → ∀ j, T.ep a.i ≤ j → j ≤ ws.length → j ≤ late ws a → (pureC a.o).f (T.tt a.i) (T.H j) = some (T.val a.i)
  alloc : cls a.o = 1 → T.on a.i = true → (∃ mk, (allocC a.o).f (T.tt a.i) = some (T.ob a.i, mk) ∧ T.val a.i = mk (T.pl a.i)) ∧
    (∀ j, T.ep a.i ≤ j → j ≤ ws.length → T.pl a.i < (T.H j).next ∧ (j ≤ late ws a → (T.H j).get (T.pl a.i) = some (T.ob a.i))) ∧
    (∀ j, j < T.ep a.i → (T.G j).next ≤ T.pl a.i) ∧ h0.next ≤ T.pl a.i
  write : cls a.o = 2 → isW ws a (T.ep a.i) = true ∧ (T.on a.i = true → (opC a.o).f call (T.tt a.i) (T.H (T.ep a.i)) = some (T.val a.i, T.G (T.ep a.i))) ∧
    (T.on a.i = false → T.G (T.ep a.i) = T.H (T.ep a.i))
structure TraceOk (l : List It) (m k : Nat) (h : Hp) (rs : List Rec) (r : Tm × Hp) (T0 T : Tc) : Prop where
  same : ∀ i, m.testBit i = true → T.on i = T0.on i ∧ T.val i = T0.val i ∧ T.tt i = T0.tt i ∧ T.ep i = T0.ep i ∧ T.pl i = T0.pl i ∧ T.ob i = T0.ob i
  sameH : ∀ j, j < k → T.H j = T0.H j ∧ T.G j = T0.G j
  item : ∀ a ∈ l, ∃ D, ItemOk n all its ws call t0 h0 T D a
  recs : ∀ r ∈ rs, ∀ j, k ≤ j → j ≤ ws.length → r.last < j ∨ holdsAt (T.H j) r = true
  more : More h (T.H k)
  chain : ∀ j, k ≤ j → j < ws.length → (T.H j).next ≤ (T.G j).next ∧ More (T.G j) (T.H (j + 1))
  plow : ∀ a ∈ l, cls a.o = 1 → T.on a.i = true → h.next ≤ T.pl a.i
  pdist : ∀ a ∈ l, ∀ a' ∈ l, cls a.o = 1 → cls a'.o = 1 → T.on a.i = true → T.on a'.i = true → a.i ≠ a'.i → T.pl a.i ≠ T.pl a'.i
  last : r.2 = T.H ws.length
  temps : ∀ d, tget r.1 d = lastV T.val (fun _ => true) d its (tget t0 d)
  done : ∀ a ∈ its, m.testBit a.i = true ∨ a.i ∈ l.map (·.i)
  kle : k ≤ ws.length
end

theorem chain_le {ws : List It} {T : Tc} {k : Nat} (h : ∀ j, k ≤ j → j < ws.length → (T.H j).next ≤ (T.G j).next ∧ More (T.G j) (T.H (j + 1))) : ∀ m j, j = k + m → j ≤ ws.length → (T.H k).next ≤ (T.H j).next := by
  intro m
  induction m with
  | zero => simp_all
  | succ m ih =>
    intro j hj hle
    obtain ⟨j', rfl⟩ : ∃ j', j = j' + 1 := ⟨j - 1, by omega⟩
    have h1 := ih j' (by omega) (by omega)
    let ⟨h2, h3⟩ := h j' (by omega) (by omega)
    exact Nat.le_trans h1 (Nat.le_trans h2 h3.1)
theorem bit_or (m i x : Nat) : (m ||| 2 ^ i).testBit x = (m.testBit x || decide (i = x)) := by grind
theorem pairsOk_get {l : List It} (h : pairsOk l = true) : ∀ (i j : Nat) a b, i < j → l[i]? = some a → l[j]? = some b → pairOk a b = true := by
  induction l with
  | nil => simp_all
  | cons x l ih =>
    intro i j a b hij ha hb
    simp [pairsOk, Bool.and_eq_true] at h
    grind

/-- Of two items of which the one writes what the other names, the elder comes first. -/
theorem pair_pred {its : List It} (hix : ∀ k (x : It), its[k]? = some x → x.i = k) (hp : pairsOk its = true) {a x : It} (ha : a ∈ its) (hx : x ∈ its) {d : Nat} (hd : d ∈ namesOf a.o) (hxd : x.o.dst = some d) :
    (x.i < a.i → a.b.testBit x.i = true) ∧ (a.i < x.i → x.b.testBit a.i = true) := by
  let ⟨i, hi⟩ := List.mem_iff_getElem?.1 ha
  let ⟨j, hj⟩ := List.mem_iff_getElem?.1 hx
  have hai := hix i a hi
  have hxj := hix j x hj
  have hw : writes x.o (namesOf a.o) = true := by simp [writes, hxd, hd]
  constructor
  · intro hlt
    have := pairsOk_get hp j i x a (by omega) hj hi
    grind[pairOk]
  · intro hlt
    have := pairsOk_get hp i j a x (by omega) hi hj
    grind[pairOk]
theorem dst_names {o : Oper} {d : Nat} (h : o.dst = some d) : d ∈ namesOf o := by simp [namesOf, h]
/-- The values of what an item names are the same in every order that may be. -/
theorem names_same {its : List It} (hix : ∀ k (x : It), its[k]? = some x → x.i = k) (hp : pairsOk its = true) {a : It} (ha : a ∈ its) {D D' : Nat → Bool} (hD : Closed its D) (hD' : Closed its D')
    (h1 : ∀ x ∈ its, a.b.testBit x.i = true → D x.i = true) (h1' : ∀ x ∈ its, a.b.testBit x.i = true → D' x.i = true) (h2 : D a.i = false) (h2' : D' a.i = false) {d : Nat} (hd : d ∈ namesOf a.o) (val : Nat → V) (v0 : V) :
    lastV val D d its v0 = lastV val D' d its v0 := by
  refine lastV_congr (fun x hx hxd => ?_) (by simp_all) v0
  let ⟨p1, p2⟩ := pair_pred hix hp ha hx hd hxd
  rcases Nat.lt_trichotomy x.i a.i with h | h | h
  · simp_all
  · simp_all
  · have f1 : D x.i = false := by
      cases hh : D x.i with
      | false => rfl
      | true => rw [hD x hx hh a ha (p2 h)] at h2; cases h2
    have f2 : D' x.i = false := by
      cases hh : D' x.i with
      | false => rfl
      | true => rw [hD' x hx hh a ha (p2 h)] at h2'; cases h2'
    simp_all
/-- What stands where an item's value goes, once it is carried out. -/
theorem lastV_put {its : List It} (hix : ∀ k (x : It), its[k]? = some x → x.i = k) (hp : pairsOk its = true) {a : It} (ha : a ∈ its) {D D' : Nat → Bool} (hD : Closed its D) (h2 : D a.i = false)
    (hD' : ∀ i, D' i = (D i || decide (a.i = i))) {val val' : Nat → V} (hv : ∀ i, D i = true → val' i = val i) (d : Nat) (v0 : V) :
    lastV val' D' d its v0 = if a.o.dst = some d then val' a.i else lastV val D d its v0 := by
  by_cases hd : a.o.dst = some d
  · rw [if_pos hd]
    refine lastV_top hix ha hd (by simp_all) (fun x hx hlt hxd => ?_) v0
    rw [hD']
    have hne := Nat.ne_of_lt hlt
    have := (pair_pred hix hp ha hx (dst_names hd) hxd).2 hlt
    cases hh : D x.i with
    | false => simp_all
    | true => rw [hD x hx hh a ha this] at h2; cases h2
  · rw [if_neg hd]
    refine lastV_congr (fun x hx hxd => ?_) (fun x hx hxd hxx => ?_) v0
    · rw [hD']
      have : a.i ≠ x.i := by
        intro e
        let ⟨i, hi⟩ := List.mem_iff_getElem?.1 ha
        let ⟨j, hj⟩ := List.mem_iff_getElem?.1 hx
        have h3 := hix i a hi
        have h4 := hix j x hj
        have : i = j := by omega
        subst this
        rw [hi] at hj; cases hj
        exact hd hxd
      simp_all
    grind[List.mem_iff_getElem?]
end Go.Proofs.YtgfdhkhcojjkjaaGreatDoor.Hx
