/- Parts. -/
import Derived.Test.YtnehpeeglbgfpaaDoorM14
import Derived.KernelRfl
set_option maxHeartbeats 4000000
namespace Go.Proofs.YtnehpeeglbgfpaaDoor.Hx
def Oy:List (Nat×V):=[(1,.str [80,97,114,97,109]),(2,.str [67,111,110,115,116]),(3,.str [65,100,100]),(4,.str [83,117,98]),(5,.str [77,117,108]),(6,.str [68,105,118]),(7,.str [82,101,109]),(8,.str [78,101,103]),(9,.str [78,111,116]),(10,.str [69,113]),(11,.str [78,101]),(12,.str [76,116]),(13,.str [76,101]),(14,.str [66,101,108,111,119]),(15,.str [84,121,112,101,79,102]),(16,.str [76,101,110,79,102]),(17,.str [87,111,114,100]),(18,.str [87,111,114,100,65,116]),(19,.str [80,117,116]),(20,.str [80,117,116,65,116]),(21,.str [80,104,105]),(22,.str [71,117,97,114,100]),(23,.str [80,111,108,108])]
noncomputable def C2:fg:=fg.more C1 [.names 46 Oy]
noncomputable def C3:fg:=fg.more C2 [.yes 7]
noncomputable def CS:fg:=⟨fT,E1,C3.K⟩
theorem Ls:∃fn c,P0.funcs[46]? =some fn/\fn.body=some c:=by
 unfold P0;exact⟨Tryd.f46,_,Tryd.func46,rfl⟩
theorem Jq:∃fn c,P0.funcs[7]? =some fn/\fn.body=some c:=by
 unfold P0;exact⟨Tryd.f7,_,Tryd.func7,rfl⟩
set_option maxRecDepth 1000000 in
theorem VT:DG C1 100000 60 3 46 Oy=true:=by kernel_rfl
theorem Vr:ti C2:=ti.more facts λe a=>by
 simp only[AJ,List.mem_nil_iff,or_false]at a;subst a;exact .names (n:=3) (FY Qv) Ls VT
set_option maxRecDepth 1000000 in
theorem Ql:isTrue (jI C2 100000 60 7 [] {next:=3,tr:= .leaf})=true:=by kernel_rfl
theorem Km:ti C3:=ti.more Vr λe a=>by
 simp only[AJ,List.mem_nil_iff,or_false]at a;subst a;exact .yes (n:=3) (FY Qv) Jq Ql
theorem Vf:ti CS where
 HV:=λ_=>rfl
 start:=λ_ _=>rfl
 mixed:=Km.mixed
 named:=Km.named
 ext:=Km.ext
 known:=Km.known
