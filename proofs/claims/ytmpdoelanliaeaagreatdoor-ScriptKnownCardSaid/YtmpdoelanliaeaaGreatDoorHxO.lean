/- What an operation comes to hangs on the temporaries that it names alone. -/
import Derived.Test.YtmpdoelanliaeaaGreatDoorHxN
namespace Go.Proofs.YtmpdoelanliaeaaGreatDoor.Hx

/-- Two tables alike where an operand looks. -/
def Alike (t t' : Tm) (x : Operand) : Prop := (evN x).f t = (evN x).f t'
theorem alike_tmps {t t' : Tm} {l : List Operand} (h : ∀ d, d ∈ tmpsIn l → tget t d = tget t' d) : ∀ x ∈ l, Alike t t' x := by
  induction l with
  | nil => simp_all
  | cons y l ih =>
    intro x hx
    cases hx with
    | head =>
      unfold Alike
      cases y <;> grind[tget,tmpsIn,evN]
    | tail _ hx =>
      refine ih (fun d hd => h d ?_) x hx
      cases y <;> simp [tmpsIn, hd]

section
variable {t t' : Tm} {h : Hp}
theorem evO_alike {x : Operand} (hx : Alike t t' x) : (evO x).f t h = (evO x).f t' h := by
  unfold Alike at hx
  cases x <;> grind[evO]
theorem evNs_alike : ∀ {l : List Operand}, (∀ x ∈ l, Alike t t' x) → evNs t l = evNs t' l
  | [], _ => rfl
  | x :: l, hl => by
    have h1 : (evN x).f t = (evN x).f t' := hl x (by simp)
    simp only [evNs, h1, evNs_alike (l := l) (by simp_all)]
theorem evParts_alike : ∀ {l : List (Nat × Operand)}, (∀ x ∈ l, Alike t t' x.2) → evParts t l = evParts t' l
  | [], _ => rfl
  | x :: l, hl => by
    have h1 : (evN x.2).f t = (evN x.2).f t' := hl x (by simp)
    simp only [evParts, h1, evParts_alike (l := l) (by grind)]
theorem optF_alike {x : Option Operand} (hx : ∀ y, x = some y → Alike t t' y) : optF x t h = optF x t' h := by
  cases x with
  | none => rfl
  | some y => simp only [optF, evO_alike (hx y rfl)]

theorem hload_alike {ty : Nat} {p : PF} (hp : p.f t h = p.f t' h) : (hload ty p).f t h = (hload ty p).f t' h := by
  grind[hload]
theorem hconv_alike {a b : Nat} {p : PF} (hp : p.f t h = p.f t' h) : (hconv a b p).f t h = (hconv a b p).f t' h := by
  grind[hconv]
theorem hfieldAddr_alike {a b : Nat} {p : PF} (hp : p.f t h = p.f t' h) : (hfieldAddr a p b).f t h = (hfieldAddr a p b).f t' h := by
  grind[hfieldAddr]
theorem hfield_alike {a b : Nat} {p : PF} (hp : p.f t h = p.f t' h) : (hfield a p b).f t h = (hfield a p b).f t' h := by
  grind[hfield]
theorem hindexAddr_alike {a : Nat} {p q : PF} (hp : p.f t h = p.f t' h) (hq : q.f t h = q.f t' h) : (hindexAddr a p q).f t h = (hindexAddr a p q).f t' h := by
  grind[hindexAddr]
theorem hindex_alike {a : Nat} {p q : PF} (hp : p.f t h = p.f t' h) (hq : q.f t h = q.f t' h) : (hindex a p q).f t h = (hindex a p q).f t' h := by
  grind[hindex]
theorem hslice_alike {a : Nat} {p : PF} {lo hi : Option Operand} (hp : p.f t h = p.f t' h) (hl : optF lo t h = optF lo t' h) (hh : optF hi t h = optF hi t' h) :
    (hslice a p lo hi).f t h = (hslice a p lo hi).f t' h := by
  grind[hslice]
theorem hlookup_alike {a : Nat} {p q : PF} {ok : Bool} (hp : p.f t h = p.f t' h) (hq : q.f t h = q.f t' h) : (hlookup a p q ok).f t h = (hlookup a p q ok).f t' h := by
  grind[hlookup]
theorem hlen_alike {a : Nat} {p : PF} (hp : p.f t h = p.f t' h) : (hlen a p).f t h = (hlen a p).f t' h := by
  grind[hlen]
theorem hassert_alike {a : Nat} {p : PF} {ok : Bool} (hp : p.f t h = p.f t' h) : (hassert p a ok).f t h = (hassert p a ok).f t' h := by
  grind[hassert]
theorem hpick_alike {c p q : PF} (hc : c.f t h = c.f t' h) (hp : p.f t h = p.f t' h) (hq : q.f t h = q.f t' h) : (hpick c p q).f t h = (hpick c p q).f t' h := by
  grind[hpick]
theorem hbuild_alike {a : Nat} {ps : List (Nat × Operand)} (hp : evParts t ps = evParts t' ps) : (hbuild a ps).f t h = (hbuild a ps).f t' h := by
  unfold hbuild; grind

theorem pure_alike {o : Oper} (hx : ∀ x ∈ o.op.operands.toList, Alike t t' x) : (pureC o).f t h = (pureC o).f t' h := by
  obtain ⟨dst, op, ty, pos, af, gd⟩ := o
  cases op <;> simp only [pureC] <;> simp only [Op.operands] at hx
  case move x => grind[evO_alike]
  case assign x => grind[evO_alike]
  case pick c a b => exact hpick_alike (by grind[evO_alike]) (by grind[evO_alike]) (by grind[evO_alike])
  case load ty a => grind[hload_alike,evO_alike]
  case nilCheck x => grind[hnilCheck,evO_alike]
  case binOp op xt x y b => grind[evO_alike]
  case unOp op b x => grind[evO_alike]
  case convert s d x => grind[hconv_alike,evO_alike]
  case build ty ps => grind[hbuild_alike,evParts_alike]
  case makeFunc fn first caps =>
    cases fn with
    | func f => grind[evNs_alike]
    | _ => rfl
  case slice ty x lo hi mx =>
    cases mx with
    | none => grind[hslice_alike,evO_alike,optF_alike]
    | some _ => rfl
  case fieldAddr s x f => grind[hfieldAddr_alike,evO_alike]
  case field s x f => grind[hfield_alike,evO_alike]
  case indexAddr ty x i => grind[hindexAddr_alike,evO_alike]
  case index ty x i => grind[hindex_alike,evO_alike]
  case lookup ty m k ok => grind[hlookup_alike,evO_alike]
  case extract x i => grind[hextract,evO_alike]
  case makeInterface ty x =>
    split
    · grind[evO_alike]
    · rfl
  case typeAssert x b asserted ok => grind[hassert_alike,evO_alike]
  case call c =>
    obtain ⟨cal, args, tys⟩ := c
    cases cal with
    | builtin b =>
      have ha : ∀ x ∈ args.toList, Alike t t' x := by grind[Call.operands]
      cases b <;> simp only
      case len =>
        split
        · grind[hlen_alike,evO_alike]
        · rfl
      case min => grind[evNs_alike]
      case max => grind[evNs_alike]
      all_goals rfl
    | _ => rfl
  all_goals rfl
theorem evN_alike {x : Operand} (hx : Alike t t' x) : (evN x).f t = (evN x).f t' := hx
theorem alloc_alike {o : Oper} (hx : ∀ x ∈ o.op.operands.toList, Alike t t' x) : (allocC o).f t = (allocC o).f t' := by
  obtain ⟨dst, op, ty, pos, af, gd⟩ := o
  cases op <;> simp only [allocC] <;> simp only [Op.operands] at hx
  case alloc e => split <;> rfl
  case box e x => grind[evN_alike]
  case buildSlice ty len parts =>
    (repeat' split) <;> first
      | rfl
      | grind[hbuildSlice,evParts_alike]
  case makeSlice ty n c =>
    (repeat' split) <;> first
      | rfl
      | grind[evN_alike]
  case makeMap ty r =>
    cases r with
    | none => simp only; split <;> rfl
    | some _ => rfl
  all_goals rfl
theorem write_alike {o : Oper} (hx : ∀ x ∈ o.op.operands.toList, Alike t t' x) : (writeC o).f t h = (writeC o).f t' h := by
  obtain ⟨dst, op, ty, pos, af, gd⟩ := o
  cases op <;> simp only [writeC] <;> simp only [Op.operands] at hx
  case store ty a x =>
    split
    · grind[evO_alike]
    · rfl
  case mapUpdate ty m k x =>
    (repeat' split) <;> first
      | rfl
      | grind[evO_alike]
  case insert ty m k x =>
    (repeat' split) <;> first
      | rfl
      | grind[evO_alike]
  case range ty x =>
    split
    · grind[evO_alike]
    · rfl
  case next x isS =>
    cases isS with
    | true => rfl
    | false => grind[evO_alike]
  case entry x => grind[evO_alike]
  case convert s d x =>
    (repeat' split) <;> first
      | rfl
      | grind[evO_alike]
  case call c =>
    obtain ⟨cal, args, tys⟩ := c
    cases cal with
    | builtin b =>
      have ha : ∀ x ∈ args.toList, Alike t t' x := by grind[Call.operands]
      cases b <;> simp only
      case append =>
        split
        · rename_i s x sT xT hargs _
          (repeat' split) <;> first
            | rfl
            | grind[evO_alike]
        · rfl
      case copy =>
        split
        · rename_i s x sT xT hargs _
          (repeat' split) <;> first
            | rfl
            | grind[evO_alike]
        · rfl
      case delete =>
        split
        · rename_i s x sT xT hargs _
          (repeat' split) <;> first
            | rfl
            | grind[evO_alike]
        · rfl
      all_goals rfl
    | value f =>
      grind[Alike,Call.operands,evO_alike,evNs_alike]
    | invoke r m =>
      grind[Alike,Call.operands,evO_alike,evNs_alike]
  all_goals rfl
theorem op_alike {call : Call} {o : Oper} (hx : ∀ x ∈ o.op.operands.toList, Alike t t' x) : (opC o).f call t h = (opC o).f call t' h := by
  grind[opC,pure_alike,alloc_alike,write_alike]
end
end Go.Proofs.YtmpdoelanliaeaaGreatDoor.Hx
