/- Parts. -/
import Derived.Test.YtpfjdlicdljhaaaDoorM37
import Derived.Test.YtpfjdlicdljhaaaDoorM35
set_option maxHeartbeats 4000000
namespace Go.Proofs.YtpfjdlicdljhaaaDoor.Hx
open Un Dm
theorem nF(n:Int):jr .u64 n=kK n:=by
 rw[mc];simp only[IntKind.wrap,IntKind.signed,IntKind.bits,Bool.false_and,Kg,if_false,kK];rfl
theorem Jt(n:Int):zS .u64 (kK n):=by simp only[zS,kK];omega
theorem He{n:Int}(h:zS .u64 n):jr .i64 n=nX n:=by
 rw[mc];simp only[zS]at h;have e:n % 18446744073709551616=n:=by omega
 simp only[IntKind.wrap,IntKind.signed,IntKind.bits,Sv,zv,Nat.reduceSub,Int.reducePow,ge_iff_le,e,nX];by_cases c:n<9223372036854775808
 ·rw[if_neg (by omega),if_pos c]
 ·rw[if_pos (by omega),if_neg c]
theorem TZ{c:Prop} [Decidable c] {x y:Int}(a:zS .u64 x)(b:zS .u64 y):zS .u64 (if c then x else y):=by
 by_cases h:c
 ·rw[if_pos h];exact a
 ·rw[if_neg h];exact b
theorem TW:zS .u64 0:=⟨Int.le_refl _,by decide⟩
theorem QE(b:Bool):zS .u64 (BC b):=by cases b <;> simp[zS,BC]
theorem DT(op:Nat)(a b:Int):zS .u64 (uV op a b):=by
 unfold uV
 repeat' first|exact Jt _|exact QE _|exact TW|refine TZ ?_ ?_
section
variable{F F':Nat->Prop}{h h':Hp}{cs ds:List Pc}{Q:dg}
theorem A4{b:Bool}(H:Q (.int .u64 (BC b)) h):cP CS eR [.bool b] h Q:=by
 refine zE rfl rfl ?_;unfold rP;cases b
 ·exact fK (dM (by simp) H)
 ·exact fK (ei rfl H)
theorem JT{t:Nat}{k:IntKind}{a b:Int}{K:V->Prop}(H:K (.bool (decide (a=b)))):oP (cX .eql t (.int k a) (.int k b)) K:=ev H
theorem PZ{op:Nat}{a b:Int}(f:zS .u64 a)(g:zS .u64 b)(i:3<=op/\op<=14)(H:Q (.tuple [.int .u64 (uV op a b),.bool true]) h):cP CS iV [.I op,.int .u64 a,.int .u64 b] h Q:=by
 refine yY rfl rfl ?_;unfold qi;refine cO (by rw[jA,He f]) (cO (by rw[jA,He g]) ?_);have e0:∀n:Nat,op=n->uV op a b=uV n a b:=λn h=>by rw[h]
 refine eh ?_;by_cases c:op=3
 ·rw[e0 _ c]at H;exact ei (by omega) (cO (by rw[z9,nF];rfl) H)
 refine dM (by omega) (eh ?_);by_cases c:op=4
 ·rw[e0 _ c]at H;exact ei (by omega) (cO (by rw[Dz,nF];rfl) H)
 refine dM (by omega) (eh ?_);by_cases c:op=5
 ·rw[e0 _ c]at H;exact ei (by omega) (cO (by rw[KV,nF];rfl) H)
 refine dM (by omega) (eh ?_);by_cases c:op=6
 ·rw [e0 _ c]at H;refine ei (by omega) (eh ?_);by_cases z:nX b=0
  ·refine ei z ?_;rw[show uV 6 a b=0 by simp[uV,z]]at H;exact H
  refine dM z (eh ?_);by_cases z1:nX b = -1
  ·refine ei z1 (cO (by rw[JW,nF]) ?_);rw[show uV 6 a b=kK (0-a) by simp[uV,z1]]at H;exact H
  ·refine dM z1 (cO (a:= .I (jr .i64 ((nX a).tdiv (nX b)))) ?_ (cO (by rw[jA]) ?_))
   ·have:∀y:Int,y≠0->cX .quo 2 (.I (nX a)) (.I y)=some (.I (jr .i64 ((nX a).tdiv y))):=λy d=>by
     cases y with
     | ofNat n=>cases n with
       |zero=>exact absurd rfl d
       |succ n=>rfl
     |negSucc n=>rfl
    exact this _ z
   ·rw [show uV 6 a b=kK ((nX a).tdiv (nX b)) by simp[uV,z,z1]]at H;rw[nF,mc];have:kK (IntKind.i64.wrap ((nX a).tdiv (nX b)))=kK ((nX a).tdiv (nX b)):=by
     simp only[IntKind.wrap,IntKind.signed,IntKind.bits,Sv,zv,Nat.reduceSub,Int.reducePow,kK];split <;> omega
    rw[this];exact H
 refine dM (by omega) (eh ?_);by_cases c:op=7
 ·rw [e0 _ c]at H;refine ei (by omega) (cO (fx ..) (cO (a:= .bool (decide (nX b=0\/nX b = -1))) ?_ (fK ?_)))
  ·simp only[c0,fx,jG];congr 2;rw[MN,Ie,CG,CG,zv]
  by_cases z:nX b=0\/nX b = -1
  ·refine ei (Ka z) ?_;rw[show uV 7 a b=0 by simp[uV,z]]at H;exact H
  ·refine dM (by rw[zv];exact z) (cO (a:= .I ((nX a).tmod (nX b))) ?_ (cO (by rw[jA,nF]) ?_))
   ·have:∀y:Int,y≠0->cX .rem 2 (.I (nX a)) (.I y)=some (.I ((nX a).tmod y)):=λy d=>by
     cases y with
     | ofNat n=>cases n with
       |zero=>exact absurd rfl d
       |succ n=>rfl
     |negSucc n=>rfl
    exact this _ λh=>z (.inl h)
   ·rw[show uV 7 a b=kK ((nX a).tmod (nX b)) by simp[uV,z]]at H;exact H
 refine dM (by omega) (eh ?_);by_cases c:op=8
 ·rw[e0 _ c]at H;refine ei (by omega) (cO (by rw[JW,nF]) ?_);rw[show uV 8 a b=kK (0-a) by simp[uV]]at H;exact H
 refine dM (by omega) (eh ?_);by_cases c:op=9
 ·rw[e0 _ c]at H;exact ei (by omega) (JT (A4 H))
 refine dM (by omega) (eh ?_);by_cases c:op=10
 ·rw[e0 _ c]at H;exact ei (by omega) (JT (A4 H))
 refine dM (by omega) (eh ?_);by_cases c:op=11
 ·rw[e0 _ c]at H;refine ei (by omega) (cO (mf ..) ?_);rw[show(a != b)=decide (a≠b) by by_cases e:a=b <;> simp[e]];exact A4 H
 refine dM (by omega) (eh ?_);by_cases c:op=12
 ·rw[e0 _ c]at H;exact ei (by omega) (cO (jZ ..) (A4 H))
 refine dM (by omega) (eh ?_);by_cases c:op=13
 ·rw[e0 _ c]at H;exact ei (by omega) (cO (Gm ..) (A4 H))
 refine dM (by omega) (eh ?_);obtain rfl:op=14:=by omega
 exact ei rfl (cO (jZ ..) (A4 H))
end
