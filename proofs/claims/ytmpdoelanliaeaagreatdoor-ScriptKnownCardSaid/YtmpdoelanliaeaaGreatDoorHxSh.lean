/-
  DERIVED: THE SHELF's CONTRACTS AT THIS DUMP, IN PLAIN WORDS (tools/lay-plain.mjs out of 'TryzShelf.lean', which tools/lay-shelf.mjs wrote): THE SAME DECLARATIONS UNDER THE SAME NAMES: 'import', 'namespace', 'open', 'def', 'theorem' AND NOTHING ELSE: no command of the shelf's: FOR A HAND-IN. Each laying: the table of numbers ('.._ren') and one theorem, a field a fact of the dump's own or the kernel's comparison; each contract: ONE APPLICATION.
-/
import Derived.Shelf.LaysM
import Derived.Shelf.Strconv.Itoa3
import Derived.Test.YtmpdoelanliaeaaGreatDoorProg
namespace Go.Proofs
open Go.Shelf
def Tryz.laysM246_ren : Go.Shelf.Ren := ⟨fun | 246 => 93 | 283 => 191 | 284 => 192 | 285 => 193 | 286 => 194 | 129 => 326 | 317 => 325 | 318 => 327 | 319 => 328 | 320 => 329 | 337 => 449 | 338 => 450 | n => n, fun | 2 => 2 | 3 => 3 | 9 => 9 | 4 => 4 | 171 => 373 | 0 => 0 | 53 => 158 | 37 => 106 | 5 => 5 | 173 => 375 | 212 => 499 | 51 => 500 | 20 => 20 | 213 => 501 | 46 => 414 | 232 => 662 | 233 => 663 | n => n, fun | 17 => 1 | 18 => 4 | 19 => 5 | n => n⟩
theorem Tryz.laysM246 : Go.Proofs.LaysM.n246 Tryz.prog Tryz.laysM246_ren := {
  mixed := by kernel_rfl
  f129 := Tryz.func326.trans (congrArg some (by kernel_rfl))
  f246 := Tryz.func93.trans (congrArg some (by kernel_rfl))
  f283 := Tryz.func191.trans (congrArg some (by kernel_rfl))
  f284 := Tryz.func192.trans (congrArg some (by kernel_rfl))
  f285 := Tryz.func193.trans (congrArg some (by kernel_rfl))
  f286 := Tryz.func194.trans (congrArg some (by kernel_rfl))
  f317 := Tryz.func325.trans (congrArg some (by kernel_rfl))
  f318 := Tryz.func327.trans (congrArg some (by kernel_rfl))
  f319 := Tryz.func328.trans (congrArg some (by kernel_rfl))
  f320 := Tryz.func329.trans (congrArg some (by kernel_rfl))
  f337 := Tryz.func449.trans (congrArg some (by kernel_rfl))
  f338 := Tryz.func450.trans (congrArg some (by kernel_rfl))
  t0 := Tryz.underlying0
  a0 := Tryz.isAgg0
  z0 := Tryz.sizeOf0
  v0 := Tryz.zeroValue0
  t2 := Tryz.underlying2
  a2 := Tryz.isAgg2
  z2 := Tryz.sizeOf2
  v2 := Tryz.zeroValue2
  t3 := Tryz.underlying3
  a3 := Tryz.isAgg3
  z3 := Tryz.sizeOf3
  v3 := Tryz.zeroValue3
  t4 := Tryz.underlying4
  a4 := Tryz.isAgg4
  z4 := Tryz.sizeOf4
  v4 := Tryz.zeroValue4
  t5 := Tryz.underlying5
  a5 := Tryz.isAgg5
  z5 := Tryz.sizeOf5
  v5 := Tryz.zeroValue5
  t9 := Tryz.underlying9
  a9 := Tryz.isAgg9
  z9 := Tryz.sizeOf9
  v9 := Tryz.zeroValue9
  t20 := Tryz.underlying20
  a20 := Tryz.isAgg20
  z20 := Tryz.sizeOf20
  v20 := Tryz.zeroValue20
  t37 := Tryz.underlying106
  a37 := Tryz.isAgg106
  z37 := Tryz.sizeOf106
  v37 := Tryz.zeroValue106
  t46 := Tryz.underlying414
  a46 := Tryz.isAgg414
  z46 := Tryz.sizeOf414
  v46 := Tryz.zeroValue414
  t51 := Tryz.underlying500
  a51 := Tryz.isAgg500
  z51 := Tryz.sizeOf500
  v51 := Tryz.zeroValue500
  t53 := Tryz.underlying158
  a53 := Tryz.isAgg158
  z53 := Tryz.sizeOf158
  v53 := Tryz.zeroValue158
  t171 := Tryz.underlying373
  a171 := Tryz.isAgg373
  z171 := Tryz.sizeOf373
  v171 := Tryz.zeroValue373
  t173 := Tryz.underlying375
  a173 := Tryz.isAgg375
  z173 := Tryz.sizeOf375
  v173 := Tryz.zeroValue375
  t212 := Tryz.underlying499
  a212 := Tryz.isAgg499
  z212 := Tryz.sizeOf499
  v212 := Tryz.zeroValue499
  t213 := Tryz.underlying501
  a213 := Tryz.isAgg501
  z213 := Tryz.sizeOf501
  t232 := Tryz.underlying662
  a232 := Tryz.isAgg662
  z232 := Tryz.sizeOf662
  v232 := Tryz.zeroValue662
  t233 := Tryz.underlying663
  a233 := Tryz.isAgg663
  z233 := Tryz.sizeOf663
  v233 := Tryz.zeroValue663
  g17 := by kernel_rfl
  g18 := by kernel_rfl
  g19 := by kernel_rfl
  i0 := by kernel_rfl
  i2 := by kernel_rfl
  i3 := by kernel_rfl
  i4 := by kernel_rfl
  i5 := by kernel_rfl
  i9 := by kernel_rfl
  i20 := by kernel_rfl
  i37 := by kernel_rfl
  i46 := by kernel_rfl
  i51 := by kernel_rfl
  i53 := by kernel_rfl
  i171 := by kernel_rfl
  i173 := by kernel_rfl
  i212 := by kernel_rfl
  i232 := by kernel_rfl
  i233 := by kernel_rfl
  m17 := by kernel_rfl
  m18 := by kernel_rfl
  m19 := by kernel_rfl }
open Go.RowKit Go.Sort Go.Lib in
/-- internal/strconv.FormatInt: "FormatInt returns the string representation of i in the given base": AT BASE 10: i's decimal numeral, for every int64. The world behind the call: the world before it, new blocks behind the heap, draws. (LAID: no walk: one application.) -/
theorem Tryz.internal_strconv_FormatInt_10 (n : Int) (h0 : -9223372036854775808 ≤ n) (h1 : n ≤ 9223372036854775807) (w : World) (htab : Lib.TabIs Tryz.prog w "internal/strconv.uint64pow10" .u64 Lib.pow10Tab) :
    Calls Tryz.prog 93 #[.int .i64 n, .int .i64 10] w fun e w' => e = .returned (.string ⟨(Lib.itoa n).toArray⟩) ∧ ∃ k os, w' = grow (w.drewN k) os := Any.internal_strconv_FormatInt_10 Tryz.laysM246 n h0 h1 w htab
end Go.Proofs
