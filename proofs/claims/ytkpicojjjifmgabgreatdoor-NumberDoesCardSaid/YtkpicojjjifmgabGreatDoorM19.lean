/- Parts. -/
import Derived.Test.YtkpicojjjifmgabGreatDoorM14
import Derived.KernelRfl
set_option maxHeartbeats 4000000
namespace Go.Proofs.YtkpicojjjifmgabGreatDoor.Hx
def Ve:List (Nat×V):=[(1,.str [80,97,114,97,109]),(2,.str [67,111,110,115,116]),(3,.str [65,100,100]),(4,.str [83,117,98]),(5,.str [77,117,108]),(6,.str [68,105,118]),(7,.str [82,101,109]),(8,.str [78,101,103]),(9,.str [78,111,116]),(10,.str [69,113]),(11,.str [78,101]),(12,.str [76,116]),(13,.str [76,101]),(14,.str [66,101,108,111,119]),(15,.str [84,121,112,101,79,102]),(16,.str [76,101,110,79,102]),(17,.str [87,111,114,100]),(18,.str [87,111,114,100,65,116]),(19,.str [80,117,116]),(20,.str [80,117,116,65,116]),(21,.str [80,104,105]),(22,.str [71,117,97,114,100]),(23,.str [80,111,108,108])]
noncomputable def C2:fu:=fu.more C1 [.names 78 Ve]
noncomputable def C3:fu:=fu.more C2 [.yes 6]
noncomputable def CS:fu:=⟨fQ,E1,C3.K⟩
theorem Sg:∃fn c,P0.funcs[78]? =some fn/\fn.body=some c:=by
 unfold P0;exact⟨Tryz.f78,_,Tryz.func78,rfl⟩
theorem NH:∃fn c,P0.funcs[6]? =some fn/\fn.body=some c:=by
 unfold P0;exact⟨Tryz.f6,_,Tryz.func6,rfl⟩
set_option maxRecDepth 1000000 in
theorem zco:Kx C1 100000 60 3 78 Ve=true:=by kernel_rfl
theorem zcQ:yx C2:=yx.more facts λe a=>by
 simp only[IS,List.mem_nil_iff,or_false]at a;subst a;exact .names (n:=3) (KS Y6) Sg zco
set_option maxRecDepth 1000000 in
theorem W0:isTrue (kU C2 100000 60 6 [] {next:=3,tr:= .leaf})=true:=by kernel_rfl
theorem Qi:yx C3:=yx.more zcQ λe a=>by
 simp only[IS,List.mem_nil_iff,or_false]at a;subst a;exact .yes (n:=3) (KS Y6) NH W0
theorem zcB:yx CS where
 NR:=λ_=>rfl
 start:=λ_ _=>rfl
 mixed:=Qi.mixed
 named:=Qi.named
 ext:=Qi.ext
 known:=Qi.known
