/- Parts. -/
import Derived.Test.YtpfjdlicdljhaaaDoorM21
set_option maxHeartbeats 4000000
namespace Go.Proofs.YtpfjdlicdljhaaaDoor.Hx
open Un
section
variable{F F' G G':Nat->Prop}{h h':Hp}{L:Lc}{ops:List Int}{t t':Dt}{R R':Rw}{Q:dg}
theorem Lo:∀ys:List Nat,dU (fi ys)=true
 |[]=>rfl
 |y::ys=>by show dU (V.I y::fi ys)=true;rw[cY,Lo ys];rfl
end
open Un
section
variable{F F' G G':Nat->Prop}{h h':Hp}{L:Lc}{ops:List Int}{t t':Dt}{R R':Rw}{Q:dg}
theorem Y0(x y:Nat):oX 3 1 2 (V.I 0) [(0,V.I x),(1,V.I y)]=some (.cells 3 1 true false (fi [x,y]),λl=> .slice l 0 2):=rfl
end
open Un
def uC(u:U)(v b s:V):List V:=[.I u.func,.I u.pc,v,b,s]
section
variable{F F' G G':Nat->Prop}{h h':Hp}{L:Lc}{ops:List Int}{t t':Dt}{R R':Rw}{Q:dg}
end
