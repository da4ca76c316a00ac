/- Parts. -/
import Derived.Test.YtpfjdlicdljhaaaDoorM14
set_option maxHeartbeats 4000000
namespace Go.Proofs.YtpfjdlicdljhaaaDoor.Hx
set_option maxRecDepth 100000
noncomputable section
def t3:List (Nat×List Nat):=[(175,[3,4]),(1838,[3,4]),(178479,[3,4,7,8,9]),(351,[3,10])]
def j8(C:fk)(Q:fo):LP:=JV C Tryd.f3 t3 87 [3,4] [] Q
def iL(C:fk)(Q:fo)(a:LP):LP:=JV C Tryd.f3 t3 919 [3,4] [kf [3,4] a] Q
def mY(C:fk)(Q:fo)(a:LP):LP:=JV C Tryd.f3 t3 89239 [3,4,7,8,9] [kf [3,4] a] Q
def ka(C:fk)(Q:fo):LP:=JV C Tryd.f3 t3 175 [3,10] [] Q
def mW(C:fk)(Q:fo)(b:LP)(a c:V)(h:Hp):Prop:=dG 2 a h λf=>bO .lss 3 c f (dJ 2 a 6 c 0 h λg=>cP C jF [g,(V.int .u64 1),(V.int .u64 1)] h λd e=>oP (FG 0 d) λn=>oP (FG 1 d) λi=>bN i (iL C Q b [a,c] e) (dF 2 a e λj=>oP (gI 6 j c) λk=>oP (gy 6 k e) λl=>cP C iG [l] e λm o=>mY C Q b [a,c,m,bT,nZ] o)) (ka C Q [a,nZ] h)
theorem vS{C Q}(I)(s:S2 I (mW C Q)){k l h}(i:I k l h)(e:l.length=2:=by rfl):j8 C Q l h:=JV.l2 I _ s i e
def mP(C:fk)(Q:fo)(a:LP)(c d:V)(h:Hp):Prop:=oP (eo .add 3 d nO) λb=>a [c,b] h
theorem vg{C Q a}:R2 (mP C Q a) (iL C Q a):=JV.r2 _
def mX(C:fk)(Q:fo)(a:LP)(b:LP)(c s d t e:V)(h:Hp):Prop:=oP (fy d) λf=>bO .lss 3 e f (oP (jz t (oB (fH 2 c) λg=>oB (ey g h) λi=>oB (some d) λj=>oB (some e) λk=>oB (gI 1 j k) λl=>oB (ey l h) λm=>oB (gI 6 i m) λn=>oB (fH 0 n) λo=>oB (ey o h) λp=>eo .eql 3 p (V.I 2))) λq=>oP (eo .add 3 e nO) λr=>b [c,s,d,q,r] h) (bP t (Q bF h) (iL C Q a [c,s] h))
theorem vZ{C Q a}(I)(s:S5 I (mX C Q a)){k l h}(i:I k l h)(e:l.length=5:=by rfl):mY C Q a l h:=JV.l5 I _ s i e
def na(C:fk)(Q:fo)(c:LP)(b a:V)(h:Hp):Prop:=dG 3 b h λd=>bO .lss 3 a d (dJ 3 b 6 a 1 h λe=>oP (eo .eql 3 e (V.I 2)) λf=>oP (jz f (oB (fH 2 b) λg=>oB (ey g h) λi=>oB (fH 3 b) λj=>oB (ey j h) λk=>oB (some a) λl=>oB (gI 6 k l) λm=>oB (fH 2 m) λn=>oB (ey n h) λo=>oB (gI 6 i o) λp=>oB (fH 0 p) λq=>oB (ey q h) λr=>eo .eql 3 r (V.I 2))) λs=>bP s (Q bF h) (oP (eo .add 3 a nO) λt=>c [b,t] h)) (Q bT h)
theorem wc{C Q}(I)(s:S2 I (na C Q)){k l h}(i:I k l h)(e:l.length=2:=by rfl):ka C Q l h:=JV.l2 I _ s i e
def oL(C:fk)(Q:fo)(a0:V)(h:Hp):Prop:=im (pU 24 a0) h λn k=>oP (gy 3 n k) λb=>cP C mw [b] k λc o=>cP C Aa [c] o λd p=>im (zC 29 [nZ,nZ,nS,nS,nS]) p λe q=>fi (gG 5 e d q) λu r=>cP C nH [] r λf l=>oP (oD .not f) λa=>oP (fQ false a) λb3=>oP (gV b3 (gy 5 e l)) λg=>oP (fQ false a) λs=>oP (gC s (some (lC,[g]))) λt=>xd C t l λi m=>oP (om a (oD .not i)) λj=>bP j (Q bF m) (j8 C Q [e,nZ] m)
theorem ye{C}(s:C.start=fV){a0 h Q}(k:C.K lF [a0] h=none)(H:oL C Q a0 h):cP C lF [a0] h Q:=cP.vd t3 s (by unfold P0;exact Tryd.func3) k H
end
