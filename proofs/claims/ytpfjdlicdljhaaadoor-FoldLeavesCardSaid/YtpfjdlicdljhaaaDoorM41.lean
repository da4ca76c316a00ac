/- Parts. -/
import Derived.Test.YtpfjdlicdljhaaaDoorM37
import Derived.Test.YtpfjdlicdljhaaaDoorM35
set_option maxHeartbeats 4000000
namespace Go.Proofs.YtpfjdlicdljhaaaDoor.Hx
open Un Dm
theorem uo(n:Int):ll .u64 n=rh n:=by
 rw[pB];simp only[IntKind.wrap,IntKind.signed,IntKind.bits,Bool.false_and,Oh,if_false,rh];rfl
theorem QB(n:Int):CO .u64 (rh n):=by simp only[CO,rh];omega
theorem FH{n:Int}(h:CO .u64 n):ll .i64 n=ry n:=by
 rw[pB];simp only[CO]at h;have e:n % 18446744073709551616=n:=by omega
 simp only[IntKind.wrap,IntKind.signed,IntKind.bits,Yq,CH,Nat.reduceSub,Int.reducePow,ge_iff_le,e,ry];by_cases c:n<9223372036854775808
 ·rw[if_neg (by omega),if_pos c]
 ·rw[if_pos (by omega),if_neg c]
theorem XH{c:Prop} [Decidable c] {x y:Int}(a:CO .u64 x)(b:CO .u64 y):CO .u64 (if c then x else y):=by
 by_cases h:c
 ·rw[if_pos h];exact a
 ·rw[if_neg h];exact b
theorem X0:CO .u64 0:=⟨Int.le_refl _,by decide⟩
theorem Vf(b:Bool):CO .u64 (Fb b):=by cases b <;> simp[CO,Fb]
theorem NQ(op:Nat)(a b:Int):CO .u64 (AK op a b):=by
 unfold AK
 repeat' first|exact QB _|exact Vf _|exact X0|refine XH ?_ ?_
section
variable{F F':Nat->Prop}{h h':Hp}{cs ds:List Pc}{Q:fo}
theorem Ef{b:Bool}(H:Q (.int .u64 (Fb b)) h):cP CS hJ [.bool b] h Q:=by
 refine C7 rfl rfl ?_;unfold vt;cases b
 ·exact iI (fT (by simp) H)
 ·exact iI (gw rfl H)
theorem NL{t:Nat}{k:IntKind}{a b:Int}{K:V->Prop}(H:K (.bool (decide (a=b)))):oP (eo .eql t (.int k a) (.int k b)) K:=gQ H
theorem Vb{op:Nat}{a b:Int}(f:CO .u64 a)(g:CO .u64 b)(i:3<=op/\op<=14)(H:Q (.tuple [.int .u64 (AK op a b),.bool true]) h):cP CS jF [.I op,.int .u64 a,.int .u64 b] h Q:=by
 refine uV rfl rfl ?_;unfold nN;refine ed (by rw[mi,FH f]) (ed (by rw[mi,FH g]) ?_);have e0:∀n:Nat,op=n->AK op a b=AK n a b:=λn h=>by rw[h]
 refine fP ?_;by_cases c:op=3
 ·rw[e0 _ c]at H;exact gw (by omega) (ed (by rw[DL,uo];rfl) H)
 refine fT (by omega) (fP ?_);by_cases c:op=4
 ·rw[e0 _ c]at H;exact gw (by omega) (ed (by rw[pj,uo];rfl) H)
 refine fT (by omega) (fP ?_);by_cases c:op=5
 ·rw[e0 _ c]at H;exact gw (by omega) (ed (by rw[PO,uo];rfl) H)
 refine fT (by omega) (fP ?_);by_cases c:op=6
 ·rw [e0 _ c]at H;refine gw (by omega) (fP ?_);by_cases z:ry b=0
  ·refine gw z ?_;rw[show AK 6 a b=0 by simp[AK,z]]at H;exact H
  refine fT z (fP ?_);by_cases z1:ry b = -1
  ·refine gw z1 (ed (by rw[N6,uo]) ?_);rw[show AK 6 a b=rh (0-a) by simp[AK,z1]]at H;exact H
  ·refine fT z1 (ed (a:= .I (ll .i64 ((ry a).tdiv (ry b)))) ?_ (ed (by rw[mi]) ?_))
   ·have:∀y:Int,y≠0->eo .quo 2 (.I (ry a)) (.I y)=some (.I (ll .i64 ((ry a).tdiv y))):=λy d=>by
     cases y with
     | ofNat n=>cases n with
       |zero=>exact absurd rfl d
       |succ n=>rfl
     |negSucc n=>rfl
    exact this _ z
   ·rw [show AK 6 a b=rh ((ry a).tdiv (ry b)) by simp[AK,z,z1]]at H;rw[uo,pB];have:rh (IntKind.i64.wrap ((ry a).tdiv (ry b)))=rh ((ry a).tdiv (ry b)):=by
     simp only[IntKind.wrap,IntKind.signed,IntKind.bits,Yq,CH,Nat.reduceSub,Int.reducePow,rh];split <;> omega
    rw[this];exact H
 refine fT (by omega) (fP ?_);by_cases c:op=7
 ·rw [e0 _ c]at H;refine gw (by omega) (ed (ik ..) (ed (a:= .bool (decide (ry b=0\/ry b = -1))) ?_ (iI ?_)))
  ·simp only[fe,ik,pe];congr 2;rw[Rc,PR,IB,IB,CH]
  by_cases z:ry b=0\/ry b = -1
  ·refine gw (PY z) ?_;rw[show AK 7 a b=0 by simp[AK,z]]at H;exact H
  ·refine fT (by rw[CH];exact z) (ed (a:= .I ((ry a).tmod (ry b))) ?_ (ed (by rw[mi,uo]) ?_))
   ·have:∀y:Int,y≠0->eo .rem 2 (.I (ry a)) (.I y)=some (.I ((ry a).tmod y)):=λy d=>by
     cases y with
     | ofNat n=>cases n with
       |zero=>exact absurd rfl d
       |succ n=>rfl
     |negSucc n=>rfl
    exact this _ λh=>z (.inl h)
   ·rw[show AK 7 a b=rh ((ry a).tmod (ry b)) by simp[AK,z]]at H;exact H
 refine fT (by omega) (fP ?_);by_cases c:op=8
 ·rw[e0 _ c]at H;refine gw (by omega) (ed (by rw[N6,uo]) ?_);rw[show AK 8 a b=rh (0-a) by simp[AK]]at H;exact H
 refine fT (by omega) (fP ?_);by_cases c:op=9
 ·rw[e0 _ c]at H;exact gw (by omega) (NL (Ef H))
 refine fT (by omega) (fP ?_);by_cases c:op=10
 ·rw[e0 _ c]at H;exact gw (by omega) (NL (Ef H))
 refine fT (by omega) (fP ?_);by_cases c:op=11
 ·rw[e0 _ c]at H;refine gw (by omega) (ed (yx ..) ?_);rw[show(a != b)=decide (a≠b) by by_cases e:a=b <;> simp[e]];exact Ef H
 refine fT (by omega) (fP ?_);by_cases c:op=12
 ·rw[e0 _ c]at H;exact gw (by omega) (ed (mj ..) (Ef H))
 refine fT (by omega) (fP ?_);by_cases c:op=13
 ·rw[e0 _ c]at H;exact gw (by omega) (ed (Li ..) (Ef H))
 refine fT (by omega) (fP ?_);obtain rfl:op=14:=by omega
 exact gw rfl (ed (mj ..) (Ef H))
end
