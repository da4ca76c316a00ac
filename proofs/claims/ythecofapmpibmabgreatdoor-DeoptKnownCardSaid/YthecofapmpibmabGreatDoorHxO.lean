/- What an operation comes to hangs on the temporaries that it names alone. -/
import Derived.Test.YthecofapmpibmabGreatDoorHxN
namespace Go.Proofs.YthecofapmpibmabGreatDoor.Hx

/-- Two tables alike where an operand looks. -/
def Alike (t t' : Tm) (x : Operand) : Prop := (evN x).f t = (evN x).f t'
theorem alike_tmps {t t' : Tm} {l : List Operand} (h : ∀ d, d ∈ tmpsIn l → tget t d = tget t' d) : ∀ x ∈ l, Alike t t' x := by
  induction l with
  | nil => intro x hx; cases hx
  | cons y l ih =>
    intro x hx
    cases hx with
    | head =>
      unfold Alike
      cases y with
      | tmp i => show some (tget t i) = some (tget t' i); rw [h i (by simp [tmpsIn])]
      | const v => simp only [evN]; split <;> rfl
      | global g => rfl
      | func f => rfl
    | tail _ hx =>
      refine ih (fun d hd => h d ?_) x hx
      cases y <;> simp [tmpsIn, hd]

section
variable {t t' : Tm} {h : Hp}
theorem evO_alike {x : Operand} (hx : Alike t t' x) : (evO x).f t h = (evO x).f t' h := by
  unfold Alike at hx
  cases x with
  | global g => unfold evO; simp only; split <;> rfl
  | tmp i => exact hx
  | const v => exact hx
  | func f => exact hx
theorem evNs_alike : ∀ {l : List Operand}, (∀ x ∈ l, Alike t t' x) → evNs t l = evNs t' l
  | [], _ => rfl
  | x :: l, hl => by
    have h1 : (evN x).f t = (evN x).f t' := hl x (by simp)
    simp only [evNs, h1, evNs_alike (l := l) fun y hy => hl y (List.mem_cons_of_mem _ hy)]
theorem evParts_alike : ∀ {l : List (Nat × Operand)}, (∀ x ∈ l, Alike t t' x.2) → evParts t l = evParts t' l
  | [], _ => rfl
  | x :: l, hl => by
    have h1 : (evN x.2).f t = (evN x.2).f t' := hl x (by simp)
    simp only [evParts, h1, evParts_alike (l := l) fun y hy => hl y (List.mem_cons_of_mem _ hy)]
theorem optF_alike {x : Option Operand} (hx : ∀ y, x = some y → Alike t t' y) : optF x t h = optF x t' h := by
  cases x with
  | none => rfl
  | some y => simp only [optF, evO_alike (hx y rfl)]

theorem hload_alike {ty : Nat} {p : PF} (hp : p.f t h = p.f t' h) : (hload ty p).f t h = (hload ty p).f t' h := by
  unfold hload; (repeat' split) <;> simp only [hp]
theorem hconv_alike {a b : Nat} {p : PF} (hp : p.f t h = p.f t' h) : (hconv a b p).f t h = (hconv a b p).f t' h := by
  unfold hconv; split <;> first | rfl | simp only [hp] | (split <;> first | rfl | simp only [hp])
theorem hfieldAddr_alike {a b : Nat} {p : PF} (hp : p.f t h = p.f t' h) : (hfieldAddr a p b).f t h = (hfieldAddr a p b).f t' h := by
  unfold hfieldAddr; (repeat' split) <;> simp only [hp]
theorem hfield_alike {a b : Nat} {p : PF} (hp : p.f t h = p.f t' h) : (hfield a p b).f t h = (hfield a p b).f t' h := by
  unfold hfield; split <;> simp only [hp]
theorem hindexAddr_alike {a : Nat} {p q : PF} (hp : p.f t h = p.f t' h) (hq : q.f t h = q.f t' h) : (hindexAddr a p q).f t h = (hindexAddr a p q).f t' h := by
  unfold hindexAddr; (repeat' split) <;> simp only [hp, hq]
theorem hindex_alike {a : Nat} {p q : PF} (hp : p.f t h = p.f t' h) (hq : q.f t h = q.f t' h) : (hindex a p q).f t h = (hindex a p q).f t' h := by
  unfold hindex; (repeat' split) <;> simp only [hp, hq]
theorem hslice_alike {a : Nat} {p : PF} {lo hi : Option Operand} (hp : p.f t h = p.f t' h) (hl : optF lo t h = optF lo t' h) (hh : optF hi t h = optF hi t' h) :
    (hslice a p lo hi).f t h = (hslice a p lo hi).f t' h := by
  unfold hslice; (repeat' split) <;> simp only [hp, hl, hh]
theorem hlookup_alike {a : Nat} {p q : PF} {ok : Bool} (hp : p.f t h = p.f t' h) (hq : q.f t h = q.f t' h) : (hlookup a p q ok).f t h = (hlookup a p q ok).f t' h := by
  unfold hlookup; (repeat' split) <;> simp only [hp, hq]
theorem hlen_alike {a : Nat} {p : PF} (hp : p.f t h = p.f t' h) : (hlen a p).f t h = (hlen a p).f t' h := by
  unfold hlen; split <;> simp only [hp]
theorem hassert_alike {a : Nat} {p : PF} {ok : Bool} (hp : p.f t h = p.f t' h) : (hassert p a ok).f t h = (hassert p a ok).f t' h := by
  unfold hassert; split <;> simp only [hp]
theorem hpick_alike {c p q : PF} (hc : c.f t h = c.f t' h) (hp : p.f t h = p.f t' h) (hq : q.f t h = q.f t' h) : (hpick c p q).f t h = (hpick c p q).f t' h := by
  unfold hpick; simp only [hc, hp, hq]
theorem hbuild_alike {a : Nat} {ps : List (Nat × Operand)} (hp : evParts t ps = evParts t' ps) : (hbuild a ps).f t h = (hbuild a ps).f t' h := by
  unfold hbuild; (repeat' split) <;> simp only [hp]

theorem pure_alike {o : Oper} (hx : ∀ x ∈ o.op.operands.toList, Alike t t' x) : (pureC o).f t h = (pureC o).f t' h := by
  obtain ⟨dst, op, ty, pos, af, gd⟩ := o
  cases op <;> simp only [pureC] <;> simp only [Op.operands] at hx
  case move x => exact evO_alike (hx x (by simp))
  case assign x => exact evO_alike (hx x (by simp))
  case pick c a b => exact hpick_alike (evO_alike (hx c (by simp))) (evO_alike (hx a (by simp))) (evO_alike (hx b (by simp)))
  case load ty a => exact hload_alike (evO_alike (hx a (by simp)))
  case nilCheck x => simp only [hnilCheck, evO_alike (h := h) (hx x (by simp))]
  case binOp op xt x y b => simp only [evO_alike (h := h) (hx x (by simp)), evO_alike (h := h) (hx y (by simp))]
  case unOp op b x => simp only [evO_alike (h := h) (hx x (by simp))]
  case convert s d x => exact hconv_alike (evO_alike (hx x (by simp)))
  case build ty ps => exact hbuild_alike (evParts_alike fun p hp => hx p.2 (by simp; exact ⟨p.1, by simpa using hp⟩))
  case makeFunc fn first caps =>
    cases fn with
    | func f => simp only [evNs_alike (l := first.toList) fun x hxx => hx x (by simp at hxx ⊢; exact .inl hxx), evNs_alike (l := caps.toList) fun x hxx => hx x (by simp at hxx ⊢; exact .inr hxx)]
    | _ => rfl
  case slice ty x lo hi mx =>
    cases mx with
    | none => exact hslice_alike (evO_alike (hx x (by simp))) (optF_alike fun y hy => hx y (by simp [hy])) (optF_alike fun y hy => hx y (by simp [hy]))
    | some _ => rfl
  case fieldAddr s x f => exact hfieldAddr_alike (evO_alike (hx x (by simp)))
  case field s x f => exact hfield_alike (evO_alike (hx x (by simp)))
  case indexAddr ty x i => exact hindexAddr_alike (evO_alike (hx x (by simp))) (evO_alike (hx i (by simp)))
  case index ty x i => exact hindex_alike (evO_alike (hx x (by simp))) (evO_alike (hx i (by simp)))
  case lookup ty m k ok => exact hlookup_alike (evO_alike (hx m (by simp))) (evO_alike (hx k (by simp)))
  case extract x i => simp only [hextract, evO_alike (h := h) (hx x (by simp))]
  case makeInterface ty x =>
    split
    · simp only [evO_alike (h := h) (hx x (by simp))]
    · rfl
  case typeAssert x b asserted ok => exact hassert_alike (evO_alike (hx x (by simp)))
  case call c =>
    obtain ⟨cal, args, tys⟩ := c
    cases cal with
    | builtin b =>
      have ha : ∀ x ∈ args.toList, Alike t t' x := fun x hm => hx x (by simp [Call.operands] at hm ⊢; exact hm)
      cases b <;> simp only
      case len =>
        split
        · rename_i x ty rest hargs _
          exact hlen_alike (evO_alike (ha x (by simp [hargs])))
        · rfl
      case min => simp only [evNs_alike ha]
      case max => simp only [evNs_alike ha]
      all_goals rfl
    | _ => rfl
  all_goals rfl
theorem evN_alike {x : Operand} (hx : Alike t t' x) : (evN x).f t = (evN x).f t' := hx
theorem alloc_alike {o : Oper} (hx : ∀ x ∈ o.op.operands.toList, Alike t t' x) : (allocC o).f t = (allocC o).f t' := by
  obtain ⟨dst, op, ty, pos, af, gd⟩ := o
  cases op <;> simp only [allocC] <;> simp only [Op.operands] at hx
  case alloc e => split <;> rfl
  case box e x => simp only [evN_alike (hx x (by simp))]
  case buildSlice ty len parts =>
    (repeat' split) <;> first
      | rfl
      | simp only [hbuildSlice, evParts_alike (t := t) (t' := t') (l := parts.toList) fun p hp => hx p.2 (by simp; exact ⟨p.1, by simpa using hp⟩)]
  case makeSlice ty n c =>
    (repeat' split) <;> first
      | rfl
      | simp only [evN_alike (hx n (by simp)), evN_alike (hx c (by simp))]
  case makeMap ty r =>
    cases r with
    | none => simp only; split <;> rfl
    | some _ => rfl
  all_goals rfl
theorem write_alike {o : Oper} (hx : ∀ x ∈ o.op.operands.toList, Alike t t' x) : (writeC o).f t h = (writeC o).f t' h := by
  obtain ⟨dst, op, ty, pos, af, gd⟩ := o
  cases op <;> simp only [writeC] <;> simp only [Op.operands] at hx
  case store ty a x =>
    split
    · simp only [evO_alike (h := h) (hx a (by simp)), evO_alike (h := h) (hx x (by simp))]
    · rfl
  case mapUpdate ty m k x =>
    (repeat' split) <;> first
      | rfl
      | simp only [evO_alike (h := h) (hx m (by simp)), evO_alike (h := h) (hx k (by simp)), evO_alike (h := h) (hx x (by simp))]
  case insert ty m k x =>
    (repeat' split) <;> first
      | rfl
      | simp only [evO_alike (h := h) (hx m (by simp)), evO_alike (h := h) (hx k (by simp)), evO_alike (h := h) (hx x (by simp))]
  case range ty x =>
    split
    · simp only [evO_alike (h := h) (hx x (by simp))]
    · rfl
  case next x isS =>
    cases isS with
    | true => rfl
    | false => simp only [evO_alike (h := h) (hx x (by simp))]
  case entry x => simp only [evO_alike (h := h) (hx x (by simp))]
  case convert s d x =>
    (repeat' split) <;> first
      | rfl
      | simp only [evO_alike (h := h) (hx x (by simp))]
  case call c =>
    obtain ⟨cal, args, tys⟩ := c
    cases cal with
    | builtin b =>
      have ha : ∀ x ∈ args.toList, Alike t t' x := fun x hm => hx x (by simp [Call.operands] at hm ⊢; exact hm)
      cases b <;> simp only
      case append =>
        split
        · rename_i s x sT xT hargs _
          (repeat' split) <;> first
            | rfl
            | simp only [evO_alike (h := h) (ha s (by simp [hargs])), evO_alike (h := h) (ha x (by simp [hargs]))]
        · rfl
      case copy =>
        split
        · rename_i s x sT xT hargs _
          (repeat' split) <;> first
            | rfl
            | simp only [evO_alike (h := h) (ha s (by simp [hargs])), evO_alike (h := h) (ha x (by simp [hargs]))]
        · rfl
      case delete =>
        split
        · rename_i s x sT xT hargs _
          (repeat' split) <;> first
            | rfl
            | simp only [evO_alike (h := h) (ha s (by simp [hargs])), evO_alike (h := h) (ha x (by simp [hargs]))]
        · rfl
      all_goals rfl
    | value f =>
      have ha : ∀ x ∈ args.toList, Alike t t' x := fun x hm => hx x (by simp [Call.operands] at hm ⊢; exact .inr hm)
      simp only [evO_alike (h := h) (hx f (by simp [Call.operands])), evNs_alike ha]
    | invoke r m =>
      have ha : ∀ x ∈ args.toList, Alike t t' x := fun x hm => hx x (by simp [Call.operands] at hm ⊢; exact .inr hm)
      simp only [evO_alike (h := h) (hx r (by simp [Call.operands])), evNs_alike ha]
  all_goals rfl
theorem op_alike {call : Call} {o : Oper} (hx : ∀ x ∈ o.op.operands.toList, Alike t t' x) : (opC o).f call t h = (opC o).f call t' h := by
  unfold opC
  split
  · simp only [pure_alike (h := h) hx]
  · simp only [alloc_alike hx]
  · simp only [write_alike (h := h) hx]
end
end Go.Proofs.YthecofapmpibmabGreatDoor.Hx
