/- Parts. -/
import Derived.Test.YtpnddokajmjpbaaDoorM14
import Derived.KernelRfl
namespace Go.Proofs.YtpnddokajmjpbaaDoor.Hx
def tabName:List (Nat×V):=[(1,.str [80,97,114,97,109]),(2,.str [67,111,110,115,116]),(3,.str [65,100,100]),(4,.str [83,117,98]),(5,.str [77,117,108]),(6,.str [68,105,118]),(7,.str [82,101,109]),(8,.str [78,101,103]),(9,.str [78,111,116]),(10,.str [69,113]),(11,.str [78,101]),(12,.str [76,116]),(13,.str [76,101]),(14,.str [66,101,108,111,119]),(15,.str [84,121,112,101,79,102]),(16,.str [76,101,110,79,102]),(17,.str [87,111,114,100]),(18,.str [87,111,114,100,65,116]),(19,.str [80,117,116]),(20,.str [80,117,116,65,116]),(21,.str [80,104,105]),(22,.str [71,117,97,114,100]),(23,.str [80,111,108,108])]
noncomputable def C2:Cfg:=Cfg.more C1 [.names 91 tabName]
noncomputable def C3:Cfg:=Cfg.more C2 [.yes 11]
noncomputable def CS:Cfg:=⟨startF,E1,C3.K⟩
theorem bodyName:∃fn c,P0.funcs[91]? =some fn/\fn.body=some c:=by
 unfold P0;exact⟨Tryd.f91,_,Tryd.func91,rfl⟩
theorem bodyKnown:∃fn c,P0.funcs[11]? =some fn/\fn.body=some c:=by
 unfold P0;exact⟨Tryd.f11,_,Tryd.func11,rfl⟩
set_option maxRecDepth 1000000 in
theorem okName:namesOk C1 100000 60 3 91 tabName=true:=by kernel_rfl
theorem facts2:Facts C2:=Facts.more facts λe a=>by
 simp only[wAr,List.mem_nil_iff,or_false]at a;subst a;exact .names (n:=3) (wAZ globs) bodyName okName
set_option maxRecDepth 1000000 in
theorem yesKnown:isTrue (callN C2 100000 60 11 [] {next:=3,tr:= .leaf})=true:=by kernel_rfl
theorem facts3:Facts C3:=Facts.more facts2 λe a=>by
 simp only[wAr,List.mem_nil_iff,or_false]at a;subst a;exact .yes (n:=3) (wAZ globs) bodyKnown yesKnown
theorem factsS:Facts CS where
 startD:=λ_=>rfl
 start:=λ_ _=>rfl
 mixed:=facts3.mixed
 named:=facts3.named
 ext:=facts3.ext
 known:=facts3.known
