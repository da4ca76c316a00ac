/- Parts. -/
import Derived.Test.YtloecllhljfidaaDoorM37
set_option maxHeartbeats 4000000
namespace Go.Proofs.YtloecllhljfidaaDoor.Hx
open Un Dm
theorem FN(n:Int):mb .u64 n=tm n:=by
 rw[ri];simp only[IntKind.wrap,IntKind.signed,IntKind.bits,Bool.false_and,O8,if_false,tm];rfl
theorem SM(n:Int):Fx .u64 (tm n):=by simp only[Fx,tm];omega
theorem Sk{n:Int}(h:Fx .u64 n):mb .i64 n=wQ n:=by
 rw[ri];simp only[Fx]at h;have e:n % 18446744073709551616=n:=by omega
 simp only[IntKind.wrap,IntKind.signed,IntKind.bits,Yl,D1,Nat.reduceSub,Int.reducePow,ge_iff_le,e,wQ];by_cases c:n<9223372036854775808
 ·rw[if_neg (by omega),if_pos c]
 ·rw[if_pos (by omega),if_neg c]
theorem Zp{c:Prop} [Decidable c] {x y:Int}(hx:Fx .u64 x)(a:Fx .u64 y):Fx .u64 (if c then x else y):=by
 by_cases h:c
 ·rw[if_pos h];exact hx
 ·rw[if_neg h];exact a
theorem Zg:Fx .u64 0:=⟨Int.le_refl _,by decide⟩
theorem WQ(b:Bool):Fx .u64 (B7 b):=by cases b <;> simp[Fx,B7]
theorem XL(op:Nat)(a b:Int):Fx .u64 (CC op a b):=by
 unfold CC
 repeat' first|exact SM _|exact WQ _|exact Zg|refine Zp ?_ ?_
theorem Xx{t:Nat}{k:IntKind}{a b:Int}{K:V->Prop}(H:K (.bool (decide (a=b)))):oP (eJ .eql t (.int k a) (.int k b)) K:=ju H
