/- The operations of plain values by short names, and what they are where their parts are known. -/
import Derived.Test.YtlbdcjnhlkkfeaaGreatDoorHxX
import Derived.KernelRfl
namespace Go.Proofs.YtlbdcjnhlkkfeaaGreatDoor.Hx

def _root_.Go.Code.l : Code → Code
  | .seq a _ => a
  | .cond _ a _ => a
  | .block _ c => c
  | .loop c => c
  | _ => .skip
def _root_.Go.Code.r : Code → Code
  | .seq _ b => b
  | .cond _ _ b => b
  | _ => .skip
def bodyOf (fn : Func) : Code := match fn.body with
  | some c => c
  | none => .skip

/-! ### short names -/
noncomputable section
def pLd (a : V) (h : Hp) : Option V := asPtr a fun l off => ld1 h l off
def pLdA (n : Nat) (a : V) (h : Hp) : Option V := asPtr a fun l off => oB (ldAt h l off n) fun cs => some (.agg cs)
def pFA (k : Nat) (x : V) : Option V := asPtr x fun l off => some (.ptr l (Nat.add off k))
def pIx (n : Nat) (x i : V) : Option V := asNat i fun i => match x with
  | .slice l off len => bB (Nat.blt i len) (some (.ptr l (Nat.add off (Nat.mul i n))))
  | _ => none
def pIxA (len n : Nat) (x i : V) : Option V := asNat i fun i => asPtr x fun l off => bB (Nat.blt i len) (some (.ptr l (Nat.add off (Nat.mul i n))))
def pFld (k : Nat) (x : V) : Option V := match x with
  | .agg cs => at1 cs k
  | _ => none
def pFldA (k n : Nat) (x : V) : Option V := match x with
  | .agg cs => oB (sub cs k n) fun l => some (.agg l)
  | _ => none
def pIdxS (x i : V) : Option V := asNat i fun i => match x with
  | .str s => oB ((s.drop i).head?) fun b => some (.int .u8 (.ofNat b.toNat))
  | _ => none
def pIdx (len n : Nat) (x i : V) : Option V := asNat i fun i => match x with
  | .agg cs => bB (Nat.blt i len) (at1 cs (Nat.mul i n))
  | _ => none
def pIdxG (len n : Nat) (x i : V) : Option V := asNat i fun i => match x with
  | .agg cs => bB (Nat.blt i len) (oB (sub cs (Nat.mul i n) n) fun l => some (.agg l))
  | _ => none
def pPick (c a b : V) : Option V := match c with
  | .bool x => Bool.rec (motive := fun _ => Option V) (some b) (some a) x
  | _ => none
def pNil (x : V) : Option V := match x with
  | .ptr l off => some (.ptr l off)
  | .func f a c => some (.func f a c)
  | .iface u v => some (.iface u v)
  | _ => none
def pConv (k : IntKind) (x : V) : Option V := match x with
  | .int _ n => some (.int k (wrapF k n))
  | _ => none
def pConvS (x : V) : Option V := match x with
  | .str s => some (.str s)
  | _ => none
def pBuild (z : List V) (places : List (Nat × Nat)) (ps : List (Nat × V)) : Option V := oB (fillV (fun i => places[i]?) z ps) fun cs => some (.agg cs)
def pBuildA (size : Nat) (z : List V) (ps : List (Nat × V)) : Option V := oB (fillV (fun i => some (Nat.mul i size, size)) z ps) fun cs => some (.agg cs)
def pExt (i : Nat) (x : V) : Option V := match x with
  | .tuple vs => at1 vs i
  | _ => none
def pLenS (x : V) : Option V := match x with
  | .str s => some (.int .i64 (.ofNat s.length))
  | _ => none
def pLen (x : V) : Option V := match x with
  | .slice _ _ n => some (.int .i64 (.ofNat n))
  | .nilSlice => some (.int .i64 (.ofNat 0))
  | _ => none
def pLenM (x : V) (h : Hp) : Option V := match x with
  | .nilMap => some (.int .i64 (.ofNat 0))
  | .map l => mapAt h l fun es _ => some (.int .i64 (.ofNat es.length))
  | _ => none
def pLook (kt : Nat) (d : Option (List Field)) (z : V) (ok : Bool) (m k : V) (h : Hp) : Option V := bB (keyHas d k) (match m with
  | .nilMap => some (found z ok none)
  | .map l => mapBag h l (fun es _ => oB (findV kt d k es 0) fun r => some (found z ok r)) (bagLook kt d z ok k)
  | _ => none)
def pAss (t : Nat) (z x : V) : Option V := match x, true with
  | .iface t' v, true => some (Bool.rec (motive := fun _ => V) (.tuple [z, .bool false]) (.tuple [v, .bool true]) (Nat.beq t' t))
  | .iface t' v, false => bB (Nat.beq t' t) (some v)
  | .nilIface, true => some (.tuple [z, .bool false])
  | _, _ => none
def pAss1 (t : Nat) (z x : V) : Option V := match x, false with
  | .iface t' v, true => some (Bool.rec (motive := fun _ => V) (.tuple [z, .bool false]) (.tuple [v, .bool true]) (Nat.beq t' t))
  | .iface t' v, false => bB (Nat.beq t' t) (some v)
  | .nilIface, true => some (.tuple [z, .bool false])
  | _, _ => none
def pBS (elem size len : Nat) (z : V) (ps : List (Nat × V)) : Option (O × (Nat → V)) :=
  oB (fillV (fun i => some (Nat.mul i size, size)) (repl len z.cells) ps) fun cs => bB (allOne cs) (some (.cells elem size true false cs, fun l => .slice l 0 len))
def pSt (n : Nat) (a v : V) (h : Hp) : Option R := asPtr a fun l off => bB (Nat.beq v.cells.length n) (oB (stAt h l off v.cells) fun h => some (.val .undef h))
def pS2B (e : Nat) (x : V) (h : Hp) : Option R := match x with
  | .str s => some (.val (.slice h.next 0 s.length) (h.new (.cells e 1 true false (bytesV s))))
  | _ => none
def pS2S (x : V) (h : Hp) : Option R := hmark x h
def pB2S (x : V) (h : Hp) : Option V := match x with
  | .nilSlice => some (.str [])
  | .slice l off n => oB (ldAt h l off n) fun cs => oB (bytesOf cs) fun s => some (.str s)
  | _ => none
end

/-! ### what is left behind operations -/
noncomputable section
def valP (x : Option R) (K : V → Hp → Prop) : Prop := oP (oB x valOf) fun y => K y.1 y.2
def calP (C : Cfg) (x : Option R) (h : Hp) (K : V → Hp → Prop) : Prop := oP (oB x callOf) fun y => cP C y.1 y.2 h K
def dcP (C : Cfg) (f : Nat) (l : List V) (h : Hp) (K : V → Hp → Prop) : Prop := oP (some (f, l)) fun y => cP C y.1 y.2 h K
def alP (x : Option (O × (Nat → V))) (h : Hp) (K : V → Hp → Prop) : Prop := oP x fun r => K (r.2 h.next) (h.new r.1)
def alO (x : Option (O × (Nat → V))) (h : Hp) (K : O → V → Hp → Prop) : Prop := oP x fun r => K r.1 (r.2 h.next) (h.new r.1)
def ghP (b : Bool) (h : Hp) (x : Option (V × Hp)) (K : V → Hp → Prop) : Prop := oP (gH b h x) fun y => K y.1 y.2
def gT (b : Bool) (p : Prop) : Prop := Bool.rec (motive := fun _ => Prop) True p b
def pGd (w : Bool) (x : V) : Option Bool := match x with
  | .bool b => some (Bool.rec (motive := fun _ => Bool) (!w) w b)
  | .tuple [] => some false
  | _ => none
end

/-! ### values by number -/
theorem rset_self (f : Nat → V) (d : Nat) (v : V) : rset f d v d = v := by
  simp_all[rset,Nat.beq_refl]
theorem rset_ne (f : Nat → V) {d i : Nat} (v : V) (h : i ≠ d) : rset f d v i = f i := by
  unfold rset
  cases hb : Nat.beq i d <;> simp_all

/-! ### where the parts are known -/
@[simp] theorem oB_some' {α β : Type} (a : α) (k : α → Option β) : oB (some a) k = k a := rfl
@[simp] theorem oB_none' {α β : Type} (k : α → Option β) : oB (none : Option α) k = none := rfl
@[simp] theorem bB_true' {β : Type} (k : Option β) : bB true k = k := rfl
@[simp] theorem bB_false' {β : Type} (k : Option β) : bB false k = none := rfl
theorem bB_of {β : Type} {c : Bool} (k : Option β) (h : c = true) : bB c k = k := by simp_all
@[simp] theorem asPtr_ptr {β : Type} (l o : Nat) (k : Nat → Nat → Option β) : asPtr (.ptr l o) k = k l o := rfl
@[simp] theorem asNat_ofNat {β : Type} (kd : IntKind) (n : Nat) (k : Nat → Option β) : asNat (.int kd (.ofNat n)) k = k n := rfl
@[simp] theorem asNat_cast {β : Type} (kd : IntKind) (n : Nat) (k : Nat → Option β) : asNat (.int kd (n : Int)) k = k n := rfl
@[simp] theorem asNat_lit {β : Type} (kd : IntKind) (n : Nat) (k : Nat → Option β) : asNat (.int kd (OfNat.ofNat n : Int)) k = k n := rfl
@[simp] theorem asNat_zero {β : Type} (kd : IntKind) (k : Nat → Option β) : asNat (.int kd 0) k = k 0 := rfl
@[simp] theorem asNat_one {β : Type} (kd : IntKind) (k : Nat → Option β) : asNat (.int kd 1) k = k 1 := rfl
@[simp] theorem pFA_ptr (k l o : Nat) : pFA k (.ptr l o) = some (.ptr l (o + k)) := rfl
@[simp] theorem pNil_ptr (l o : Nat) : pNil (.ptr l o) = some (.ptr l o) := rfl
@[simp] theorem pNil_func (f : Nat) (a c : List V) : pNil (.func f a c) = some (.func f a c) := rfl
@[simp] theorem pLen_slice (l o n : Nat) : pLen (.slice l o n) = some (.int .i64 n) := rfl
@[simp] theorem pLen_nil : pLen .nilSlice = some (.int .i64 0) := rfl
@[simp] theorem pLenS_str (s : List UInt8) : pLenS (.str s) = some (.int .i64 s.length) := rfl
@[simp] theorem pPick_bool (x : Bool) (a b : V) : pPick (.bool x) a b = some (if x = true then a else b) := by cases x <;> rfl
@[simp] theorem pConv_int (k k' : IntKind) (n : Int) : pConv k (.int k' n) = some (.int k (wrapF k n)) := rfl
@[simp] theorem pExt_tuple (i : Nat) (vs : List V) : pExt i (.tuple vs) = at1 vs i := rfl
@[simp] theorem pFld_agg (k : Nat) (cs : List V) : pFld k (.agg cs) = at1 cs k := rfl
@[simp] theorem alP_some (o : O) (f : Nat → V) (h : Hp) (K : V → Hp → Prop) : alP (some (o, f)) h K = K (f h.next) (h.new o) := rfl
@[simp] theorem alO_some (o : O) (f : Nat → V) (h : Hp) (K : O → V → Hp → Prop) : alO (some (o, f)) h K = K o (f h.next) (h.new o) := rfl
@[simp] theorem valP_some (v : V) (h : Hp) (K : V → Hp → Prop) : valP (some (.val v h)) K = K v h := rfl
@[simp] theorem calP_some (C : Cfg) (f : Nat) (l : List V) (h : Hp) (K : V → Hp → Prop) : calP C (some (.call f l)) h K = cP C f l h K := rfl
@[simp] theorem dcP_eq (C : Cfg) (f : Nat) (l : List V) (h : Hp) (K : V → Hp → Prop) : dcP C f l h K = cP C f l h K := rfl
@[simp] theorem hcall_func (f : Nat) (a c l : List V) : hcall (.func f a c) l = some (.call f (a ++ (l ++ c))) := rfl
@[simp] theorem pGd_bool (w b : Bool) : pGd w (.bool b) = some (b == w) := by cases w <;> cases b <;> rfl
@[simp] theorem gV_true (x : Option V) : gV true x = x := rfl
@[simp] theorem gV_false (x : Option V) : gV false x = some .undef := rfl
@[simp] theorem gC_true (x : Option (Nat × List V)) : gC true x = oB x fun y => some (some y) := rfl
@[simp] theorem gC_false (x : Option (Nat × List V)) : gC false x = some none := rfl
@[simp] theorem gT_true (p : Prop) : gT true p = p := rfl
@[simp] theorem gT_false (p : Prop) : gT false p = True := rfl
@[simp] theorem cgP_some (C : Cfg) (y : Nat × List V) (h : Hp) (K : V → Hp → Prop) : cgP C (some y) h K = cP C y.1 y.2 h K := rfl
@[simp] theorem cgP_none (C : Cfg) (h : Hp) (K : V → Hp → Prop) : cgP C none h K = K .undef h := rfl
theorem pIx_slice (n l o len i : Nat) (kd : IntKind) (h : i < len) : pIx n (.slice l o len) (.int kd i) = some (.ptr l (o + i * n)) := by
  show bB (Nat.blt i len) _ = _
  grind[bB_of,Nat.blt_eq]
theorem pLd_ptr {l o e sz : Nat} {ro : Bool} {cs : List V} {h : Hp} (hg : h.get l = some (.cells e sz true ro cs)) : pLd (.ptr l o) h = at1 cs o := by
  simp_all[pLd,ld1,cellsAt,asPtr_ptr,oB_some',bB_true']
theorem pLdA_ptr {n l o e sz : Nat} {ro : Bool} {cs : List V} {h : Hp} (hg : h.get l = some (.cells e sz true ro cs)) : pLdA n (.ptr l o) h = oB (sub cs o n) fun cs => some (.agg cs) := by
  simp_all[pLdA,ldAt,cellsAt,asPtr_ptr,oB_some',bB_true']
@[simp] theorem at1_zero (v : V) (l : List V) : at1 (v :: l) 0 = some v := rfl
@[simp] theorem at1_succ (v : V) (l : List V) (n : Nat) : at1 (v :: l) (n + 1) = at1 l n := rfl
theorem at1_get (l : List V) (n : Nat) : at1 l n = l[n]? := by grind[at1,List.head?_drop]
@[simp] theorem takeN_zero (l : List V) : takeN 0 l = some [] := by rfl
@[simp] theorem takeN_succ (n : Nat) (v : V) (l : List V) : takeN (n + 1) (v :: l) = oB (takeN n l) fun r => some (v :: r) := rfl
theorem takeN_of : ∀ (n : Nat) (l : List V), n ≤ l.length → takeN n l = some (l.take n)
  | 0, l, _ => by rfl
  | n + 1, [], h => by simp_all
  | n + 1, v :: l, h => by simp only [takeN, takeN_of n l (by simp_all), oB_some', List.take_succ_cons]
theorem sub_of {l : List V} {o n : Nat} (h : o + n ≤ l.length) : sub l o n = some ((l.drop o).take n) := by
  grind[sub,takeN_of]
@[simp] theorem oP_some' {α : Type} (a : α) (k : α → Prop) : oP (some a) k = k a := rfl
@[simp] theorem bP_bool' (x : Bool) (a b : Prop) : bP (.bool x) a b = if x = true then a else b := bP_bool x a b
@[simp] theorem valOf_val (v : V) (h : Hp) : valOf (.val v h) = some (v, h) := rfl
@[simp] theorem callOf_call (f : Nat) (l : List V) : callOf (.call f l) = some (f, l) := rfl
end Go.Proofs.YtlbdcjnhlkkfeaaGreatDoor.Hx
