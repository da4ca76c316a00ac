/- Parts. -/
import Derived.Test.YtpfjdlicdljhaaaDoorM14
set_option maxHeartbeats 4000000
namespace Go.Proofs.YtpfjdlicdljhaaaDoor.Hx
set_option maxRecDepth 100000
noncomputable section
def t9:List (Nat×List Nat):=[]
def qi(C:dc)(Q:dg)(a0 a1 a2:V)(h:Hp):Prop:=oP (xO .i64 a1) λb=>oP (xO .i64 a2) λa=>bO .eql 3 a0 (V.I 3) (oP (cX .add 34 a1 a2) λc=>Q (V.tuple [c,bT]) h) (bO .eql 3 a0 (V.I 4) (oP (cX .sub 34 a1 a2) λd=>Q (V.tuple [d,bT]) h) (bO .eql 3 a0 (V.I 5) (oP (cX .mul 34 a1 a2) λe=>Q (V.tuple [e,bT]) h) (bO .eql 3 a0 (V.I 6) (bO .eql 2 a nZ (Q (V.tuple [(V.int .u64 0),bT]) h) (bO .eql 2 a (V.I (-1)) (oP (lB .neg a1) λf=>Q (V.tuple [f,bT]) h) (oP (cX .quo 2 b a) λg=>oP (xO .u64 g) λi=>Q (V.tuple [i,bT]) h))) (bO .eql 3 a0 (V.I 7) (oP (cX .eql 2 a nZ) λj=>oP (kI j (oB (some a) λk=>cX .eql 2 k (V.I (-1)))) λl=>bP l (Q (V.tuple [(V.int .u64 0),bT]) h) (oP (cX .rem 2 b a) λm=>oP (xO .u64 m) λn=>Q (V.tuple [n,bT]) h)) (bO .eql 3 a0 (V.I 8) (oP (lB .neg a1) λo=>Q (V.tuple [o,bT]) h) (bO .eql 3 a0 (V.I 9) (oP (cX .eql 34 a1 (V.int .u64 0)) λp=>cP C eR [p] h λq B=>Q (V.tuple [q,bT]) B) (bO .eql 3 a0 (V.I 10) (oP (cX .eql 34 a1 a2) λr=>cP C eR [r] h λs D=>Q (V.tuple [s,bT]) D) (bO .eql 3 a0 (V.I 11) (oP (cX .neq 34 a1 a2) λt=>cP C eR [t] h λu E=>Q (V.tuple [u,bT]) E) (bO .eql 3 a0 (V.I 12) (oP (cX .lss 2 b a) λv=>cP C eR [v] h λw F=>Q (V.tuple [w,bT]) F) (bO .eql 3 a0 (V.I 13) (oP (cX .leq 2 b a) λx=>cP C eR [x] h λy G=>Q (V.tuple [y,bT]) G) (bO .eql 3 a0 (V.I 14) (oP (cX .lss 34 a1 a2) λz=>cP C eR [z] h λA H=>Q (V.tuple [A,bT]) H) (Q (V.tuple [(V.int .u64 0),bF]) h))))))))))))
theorem yY{C}(s:C.start=dH){a0 a1 a2 h Q}(k:C.K iV [a0,a1,a2] h=none)(H:qi C Q a0 a1 a2 h):cP C iV [a0,a1,a2] h Q:=cP.vd t9 s (by unfold P0;exact Tryd.func9) k H
def t30:List (Nat×List Nat):=[]
def rP(C:dc)(Q:dg)(a0:V)(h:Hp):Prop:=bP a0 (Q (V.int .u64 1) h) (Q (V.int .u64 0) h)
theorem zE{C}(s:C.start=dH){a0 h Q}(k:C.K eR [a0] h=none)(H:rP C Q a0 h):cP C eR [a0] h Q:=cP.vd t30 s (by unfold P0;exact Tryd.func30) k H
end
