/- Parts. -/
import Derived.Test.YtflkbfabonggkaaGreatDoorM14
set_option maxHeartbeats 4000000
namespace Go.Proofs.YtflkbfabonggkaaGreatDoor.Hx
set_option maxRecDepth 100000
noncomputable section
def t3:List (Nat×List Nat):=[]
def qO(C:fm)(Q:ft)(a0 a1 a2 a3:V)(h:Hp):Prop:=ig (om 24 a0) h λP L=>oP (gv 3 P L) λm=>cP C nq [m] L λn R=>cP C yH [n] R λo S=>ig (zC 30 [nZ,nZ,nS,nS,nS]) S λk T=>fi (gI 5 k o T) λvu M=>oP (gv 5 k M) λp=>cP C yH [p] M λq U=>ig (zC 30 [nZ,nZ,nS,nS,nS]) U λb W=>fi (gI 5 b q W) λN X=>cP C iI [a3,(V.I 9)] X λr O=>oP (en .sub 3 r nO) λs=>cP C pe [] O λg f=>(O.next<=f.next/\oP (fy true g) λb2=>oP (gV b2 (gv 5 b f)) λt=>oP (fy true g) λb3=>oP (gC b3 (some (mq,[t]))) λY=>uj C Y f λu c=>(f.next<=c.next/\oP (jt g u bF) λa=>oP (fy true a) λv=>oP (gV v (gv 5 k c)) λi=>oP (fy true a) λw=>oP (gV w (gv 5 b c)) λj=>oP (fy true a) λZ=>oP (gV Z (some a1)) λx=>oP (fy true a) λy=>oP (gV y (some a2)) λz=>oP (fy true a) λA=>oP (gV A (some s)) λB=>oP (fy true a) λb9=>oP (gC b9 (some (lW,[x]))) λy9=>uj C y9 c λD d=>(c.next<=d.next/\((gT w (gv 5 b d=some j))/\((gT v (gv 5 k d=some i))/\oP (fy true a) λE=>oP (gC E (some (mn,[z]))) λF=>uj C F d λG e=>(d.next<=e.next/\((gT w (gv 5 b e=some j))/\((gT v (gv 5 k e=some i))/\oP (fy true a) λH=>oP (gC H (some (j4,[i,j,D,G,B,(V.I 1500)]))) λI=>uj C I e λJ l=>(e.next<=l.next/\oP (jt a J bF) λK=>Q K l)))))))))
theorem AY{C}(s:C.start=fN){a0 a1 a2 a3 h Q}(k:C.K mM [a0,a1,a2,a3] h=none)(H:qO C Q a0 a1 a2 a3 h):cP C mM [a0,a1,a2,a3] h Q:=cP.vd t3 s (by unfold P0;exact Tryz.func3) k H
end
