/- Parts. -/
import Derived.Test.YtcoaokdoecgcbaaGreatDoorM10
import Derived.KernelRfl
set_option maxHeartbeats 4000000
namespace Go.Proofs.YtcoaokdoecgcbaaGreatDoor.Hx
theorem Vg:∃fn c,P0.funcs[86]? =some fn/\fn.body=some c:=by
 unfold P0;exact⟨Tryz.f86,_,Tryz.func86,rfl⟩
theorem SR:∃fn c,P0.funcs[9]? =some fn/\fn.body=some c:=by
 unfold P0;exact⟨Tryz.f9,_,Tryz.func9,rfl⟩
set_option maxRecDepth 1000000 in
theorem zgf:Jx C1 100000 60 3 86 YL=true:=by kernel_rfl
theorem Wq:∃fn c,P0.funcs[74]? =some fn/\fn.body=some c:=by
 unfold P0;exact⟨Tryz.f74,_,Tryz.func74,rfl⟩
set_option maxRecDepth 1000000 in
theorem zfZ:Jx C1 100000 60 3 74 YM=true:=by kernel_rfl
theorem zf0:AA C2:=AA.more facts λe a=>by
 simp only[Aw,List.mem_nil_iff,or_false]at a;rcases a with rfl|rfl
 ·exact .names (n:=3) (Oz Zy) Vg zgf
 ·exact .names (n:=3) (Oz Zy) Wq zfZ
set_option maxRecDepth 1000000 in
theorem zbM:isTrue (lN C2 100000 60 9 [] {next:=3,tr:= .leaf})=true:=by kernel_rfl
theorem Ut:AA C3:=AA.more zf0 λe a=>by
 simp only[Aw,List.mem_nil_iff,or_false]at a;subst a;exact .yes (n:=3) (Oz Zy) SR zbM
theorem zfx:AA CS where
 Qj:=λ_=>rfl
 start:=λ_ _=>rfl
 mixed:=Ut.mixed
 named:=Ut.named
 ext:=Ut.ext
 known:=Ut.known
