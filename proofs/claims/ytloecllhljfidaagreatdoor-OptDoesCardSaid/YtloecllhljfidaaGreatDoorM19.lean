/- Parts. -/
import Derived.Test.YtloecllhljfidaaGreatDoorM10
import Derived.KernelRfl
set_option maxHeartbeats 4000000
namespace Go.Proofs.YtloecllhljfidaaGreatDoor.Hx
theorem Sp:∃fn c,P0.funcs[88]? =some fn/\fn.body=some c:=by
 unfold P0;exact⟨Tryz.f88,_,Tryz.func88,rfl⟩
theorem N1:∃fn c,P0.funcs[9]? =some fn/\fn.body=some c:=by
 unfold P0;exact⟨Tryz.f9,_,Tryz.func9,rfl⟩
set_option maxRecDepth 1000000 in
theorem zd6:KP C1 100000 60 3 88 WY=true:=by kernel_rfl
theorem zdm:zP C2:=zP.more facts λe a=>by
 simp only[Ki,List.mem_nil_iff,or_false]at a;subst a;exact .names (n:=3) (MY Z4) Sp zd6
set_option maxRecDepth 1000000 in
theorem XT:isTrue (lg C2 100000 60 9 [] {next:=3,tr:= .leaf})=true:=by kernel_rfl
theorem Rb:zP C3:=zP.more zdm λe a=>by
 simp only[Ki,List.mem_nil_iff,or_false]at a;subst a;exact .yes (n:=3) (MY Z4) N1 XT
theorem zdH:zP CS where
 Og:=λ_=>rfl
 start:=λ_ _=>rfl
 mixed:=Rb.mixed
 named:=Rb.named
 ext:=Rb.ext
 known:=Rb.known
