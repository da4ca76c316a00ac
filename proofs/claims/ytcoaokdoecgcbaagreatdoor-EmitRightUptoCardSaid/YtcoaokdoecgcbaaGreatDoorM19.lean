/- Parts. -/
import Derived.Test.YtcoaokdoecgcbaaGreatDoorM10
import Derived.KernelRfl
set_option maxHeartbeats 4000000
namespace Go.Proofs.YtcoaokdoecgcbaaGreatDoor.Hx
def VV:List (Nat×V):=[(1,.str [80,97,114,97,109]),(2,.str [67,111,110,115,116]),(3,.str [65,100,100]),(4,.str [83,117,98]),(5,.str [77,117,108]),(6,.str [68,105,118]),(7,.str [82,101,109]),(8,.str [78,101,103]),(9,.str [78,111,116]),(10,.str [69,113]),(11,.str [78,101]),(12,.str [76,116]),(13,.str [76,101]),(14,.str [66,101,108,111,119]),(15,.str [84,121,112,101,79,102]),(16,.str [76,101,110,79,102]),(17,.str [87,111,114,100]),(18,.str [87,111,114,100,65,116]),(19,.str [80,117,116]),(20,.str [80,117,116,65,116]),(21,.str [80,104,105]),(22,.str [71,117,97,114,100]),(23,.str [80,111,108,108])]
def Wf:List (Nat×V):=[(1,.str [83,101,116]),(2,.str [77,111,118]),(3,.str [71,101,116]),(4,.str [75,101,101,112]),(5,.str [65,100,100]),(6,.str [83,117,98]),(7,.str [77,117,108]),(8,.str [68,105,118]),(9,.str [82,101,109]),(10,.str [78,101,103]),(11,.str [78,111,116]),(12,.str [69,113]),(13,.str [78,101]),(14,.str [76,116]),(15,.str [76,101]),(16,.str [66,101,108,111,119]),(17,.str [84,121,112,101,79,102]),(18,.str [76,101,110,79,102]),(19,.str [87,111,114,100]),(20,.str [87,111,114,100,65,116]),(21,.str [80,117,116]),(22,.str [80,117,116,65,116]),(23,.str [74,117,109,112]),(24,.str [74,122]),(25,.str [71,117,97,114,100]),(26,.str [80,111,108,108]),(27,.str [76,101,97,118,101])]
noncomputable def C2:fj:=fj.more C1 [.names 86 VV,.names 74 Wf]
noncomputable def C3:fj:=fj.more C2 [.yes 9]
noncomputable def CS:fj:=⟨fy,E1,C3.K⟩
theorem Sx:∃fn c,P0.funcs[86]? =some fn/\fn.body=some c:=by
 unfold P0;exact⟨Tryz.f86,_,Tryz.func86,rfl⟩
theorem PV:∃fn c,P0.funcs[9]? =some fn/\fn.body=some c:=by
 unfold P0;exact⟨Tryz.f9,_,Tryz.func9,rfl⟩
set_option maxRecDepth 1000000 in
theorem zdh:G2 C1 100000 60 3 86 VV=true:=by kernel_rfl
theorem Tp:∃fn c,P0.funcs[74]? =some fn/\fn.body=some c:=by
 unfold P0;exact⟨Tryz.f74,_,Tryz.func74,rfl⟩
set_option maxRecDepth 1000000 in
theorem zc1:G2 C1 100000 60 3 74 Wf=true:=by kernel_rfl
theorem zc9:vP C2:=vP.more facts λe a=>by
 simp only[wM,wBg,or_false]at a;rcases a with rfl|rfl
 ·exact .names (n:=3) (Iv Wn) Sx zdh
 ·exact .names (n:=3) (Iv Wn) Tp zc1
set_option maxRecDepth 1000000 in
theorem ZY:isTrue (j9 C2 100000 60 9 [] {next:=3,tr:= .leaf})=true:=by kernel_rfl
theorem Qr:vP C3:=vP.more zc9 λe a=>by
 simp only[wM,wBg,or_false]at a;subst a;exact .yes (n:=3) (Iv Wn) PV ZY
theorem zda:vP CS where
 N2:=λ_=>rfl
 start:=λ_ _=>rfl
 mixed:=Qr.mixed
 named:=Qr.named
 ext:=Qr.ext
 known:=Qr.known
