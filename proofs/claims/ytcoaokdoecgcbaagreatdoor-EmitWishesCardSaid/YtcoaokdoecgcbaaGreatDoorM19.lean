/- Parts. -/
import Derived.Test.YtcoaokdoecgcbaaGreatDoorM10
import Derived.KernelRfl
set_option maxHeartbeats 4000000
namespace Go.Proofs.YtcoaokdoecgcbaaGreatDoor.Hx
theorem Ua:∃fn c,P0.funcs[86]? =some fn/\fn.body=some c:=by
 unfold P0;exact⟨Tryz.f86,_,Tryz.func86,rfl⟩
theorem Rf:∃fn c,P0.funcs[9]? =some fn/\fn.body=some c:=by
 unfold P0;exact⟨Tryz.f9,_,Tryz.func9,rfl⟩
set_option maxRecDepth 1000000 in
theorem zeA:IB C1 100000 60 3 86 Xq=true:=by kernel_rfl
theorem Vd:∃fn c,P0.funcs[74]? =some fn/\fn.body=some c:=by
 unfold P0;exact⟨Tryz.f74,_,Tryz.func74,rfl⟩
set_option maxRecDepth 1000000 in
theorem zeW:IB C1 100000 60 3 74 XO=true:=by kernel_rfl
theorem zeU:zE C2:=zE.more facts λe a=>by
 simp only[yt,wBp,or_false]at a;rcases a with rfl|rfl
 ·exact .names (n:=3) (ND Yx) Ua zeA
 ·exact .names (n:=3) (ND Yx) Vd zeW
set_option maxRecDepth 1000000 in
theorem zaF:isTrue (lP C2 100000 60 9 [] {next:=3,tr:= .leaf})=true:=by kernel_rfl
theorem Td:zE C3:=zE.more zeU λe a=>by
 simp only[yt,wBp,or_false]at a;subst a;exact .yes (n:=3) (ND Yx) Rf zaF
theorem zeF:zE CS where
 PB:=λ_=>rfl
 start:=λ_ _=>rfl
 mixed:=Td.mixed
 named:=Td.named
 ext:=Td.ext
 known:=Td.known
