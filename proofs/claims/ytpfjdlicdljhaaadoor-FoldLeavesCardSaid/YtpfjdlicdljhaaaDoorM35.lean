/- Parts. -/
import Derived.Test.YtpfjdlicdljhaaaDoorM14
set_option maxHeartbeats 4000000
namespace Go.Proofs.YtpfjdlicdljhaaaDoor.Hx
set_option maxRecDepth 100000
noncomputable section
def t9:List (Nat×List Nat):=[]
def nN(C:fk)(Q:fo)(a0 a1 a2:V)(h:Hp):Prop:=oP (DQ .i64 a1) λb=>oP (DQ .i64 a2) λa=>bO .eql 3 a0 (V.I 3) (oP (eo .add 34 a1 a2) λc=>Q (V.tuple [c,bT]) h) (bO .eql 3 a0 (V.I 4) (oP (eo .sub 34 a1 a2) λd=>Q (V.tuple [d,bT]) h) (bO .eql 3 a0 (V.I 5) (oP (eo .mul 34 a1 a2) λe=>Q (V.tuple [e,bT]) h) (bO .eql 3 a0 (V.I 6) (bO .eql 2 a nZ (Q (V.tuple [(V.int .u64 0),bT]) h) (bO .eql 2 a (V.I (-1)) (oP (oD .neg a1) λf=>Q (V.tuple [f,bT]) h) (oP (eo .quo 2 b a) λg=>oP (DQ .u64 g) λi=>Q (V.tuple [i,bT]) h))) (bO .eql 3 a0 (V.I 7) (oP (eo .eql 2 a nZ) λj=>oP (om j (oB (some a) λk=>eo .eql 2 k (V.I (-1)))) λl=>bP l (Q (V.tuple [(V.int .u64 0),bT]) h) (oP (eo .rem 2 b a) λm=>oP (DQ .u64 m) λn=>Q (V.tuple [n,bT]) h)) (bO .eql 3 a0 (V.I 8) (oP (oD .neg a1) λo=>Q (V.tuple [o,bT]) h) (bO .eql 3 a0 (V.I 9) (oP (eo .eql 34 a1 (V.int .u64 0)) λp=>cP C hJ [p] h λq B=>Q (V.tuple [q,bT]) B) (bO .eql 3 a0 (V.I 10) (oP (eo .eql 34 a1 a2) λr=>cP C hJ [r] h λs D=>Q (V.tuple [s,bT]) D) (bO .eql 3 a0 (V.I 11) (oP (eo .neq 34 a1 a2) λt=>cP C hJ [t] h λu E=>Q (V.tuple [u,bT]) E) (bO .eql 3 a0 (V.I 12) (oP (eo .lss 2 b a) λv=>cP C hJ [v] h λw F=>Q (V.tuple [w,bT]) F) (bO .eql 3 a0 (V.I 13) (oP (eo .leq 2 b a) λx=>cP C hJ [x] h λy G=>Q (V.tuple [y,bT]) G) (bO .eql 3 a0 (V.I 14) (oP (eo .lss 34 a1 a2) λz=>cP C hJ [z] h λA H=>Q (V.tuple [A,bT]) H) (Q (V.tuple [(V.int .u64 0),bF]) h))))))))))))
theorem uV{C}(s:C.start=fV){a0 a1 a2 h Q}(k:C.K jF [a0,a1,a2] h=none)(H:nN C Q a0 a1 a2 h):cP C jF [a0,a1,a2] h Q:=cP.vd t9 s (by unfold P0;exact Tryd.func9) k H
def t30:List (Nat×List Nat):=[]
def vt(C:fk)(Q:fo)(a0:V)(h:Hp):Prop:=bP a0 (Q (V.int .u64 1) h) (Q (V.int .u64 0) h)
theorem C7{C}(s:C.start=fV){a0 h Q}(k:C.K hJ [a0] h=none)(H:vt C Q a0 h):cP C hJ [a0] h Q:=cP.vd t30 s (by unfold P0;exact Tryd.func30) k H
end
