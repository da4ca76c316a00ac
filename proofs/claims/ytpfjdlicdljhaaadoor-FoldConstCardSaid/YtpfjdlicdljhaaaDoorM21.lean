/- Parts. -/
import Derived.Test.YtpfjdlicdljhaaaDoorM20
set_option maxHeartbeats 4000000
namespace Go.Proofs.YtpfjdlicdljhaaaDoor.Hx
open Un
theorem fK{b:Bool}{A B:Prop}(h:if b=true then A else B):bP (.bool b) A B:=by simp_all
section
variable{F F' G G':Nat->Prop}{h h':Hp}{L:Lc}{ops:List Int}{t t':Dt}{R R':Rw}{Q:dg}
end
open Un
structure ZP (s s':Ds):Prop where
 k:∃l,s'.known=s.known++l
 v:∃l,s'.cR=s.cR++l
def fi(xs:List Nat):List V:=xs.map λn=> .I (n:Nat)
section
variable{F F' G G':Nat->Prop}{h h':Hp}{L:Lc}{ops:List Int}{t t':Dt}{R R':Rw}{Q:dg}
end
open Un
section
variable{F F' G G':Nat->Prop}{h h':Hp}{L:Lc}{ops:List Int}{t t':Dt}{R R':Rw}{Q:dg}
end
open Un
section
variable{F F' G G':Nat->Prop}{h h':Hp}{L:Lc}{ops:List Int}{t t':Dt}{R R':Rw}{Q:dg}
end
