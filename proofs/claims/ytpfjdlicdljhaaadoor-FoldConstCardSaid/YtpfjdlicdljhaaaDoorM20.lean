/- Parts. -/
import Derived.Test.YtpfjdlicdljhaaaDoorM18
import Derived.Test.YtpfjdlicdljhaaaDoorM19
import Derived.Test.YtpfjdlicdljhaaaDoorM15
set_option maxHeartbeats 4000000
namespace Go.Proofs.YtpfjdlicdljhaaaDoor.Hx
open Un
theorem JG{e:Nat}{w:List V}(a:dU w=true):qd e (.agg w)=some (.cells e 1 true false w,λl=> .ptr l 0):=by
 unfold qd
 grind[iO,dU,bB,V.cells]
theorem qv{e sz:Nat}{z w:List V}(b:z.length=sz)(a:w.length=sz)(c:dU w=true):oX e sz 1 (.agg z) [(0,.agg w)]=some (.cells e sz true false w,λl=> .slice l 0 1):=by
 unfold oX;have hs:kV (Nat.mul 0 sz) (vP 1 (V.agg z).cells) (V.agg w).cells=some w:=by
  show kV (0*sz) (z++[]) w=some w;rw[Nat.zero_mul,GK,uq (by omega),Wc,Pr,yD,List.drop_of_length_le (by omega),GK]
 simp only[wB,c0,hs];rw[iO _ (show Nat.beq (V.agg w).cells.length sz=true by rw[show(V.agg w).cells=w from rfl,a];simp_all)]
 simp_all
theorem WB{n:Nat}(h:n<1000000000):jr .i64 (((n+1:Nat):Int)-1)=(n:Nat):=by
 grind[yi,zS]
theorem YX{n k:Nat}(h:n<1000000000)(hk:k<1000000000):jr .i64 (((n:Nat):Int)+(k:Nat))=((n+k:Nat):Int):=by
 grind[yi,zS]
theorem Rg(t:Nat)(k:IntKind)(a b:Int)(d:b≠0):cX .rem t (.int k a) (.int k b)=some (.int k (a.tmod b)):=by
 have c:hint .rem k a b=some (.int k (a.tmod b)):=by
  cases b with
  | ofNat n=>cases n with
    |zero=>simp_all
    |succ n=>rfl
  |negSucc n=>rfl
 cases k <;> exact c
theorem IW{n:Int}{m:Nat}{h:Hp}{Q:dg}(f:0<m)(d:m<=1000000000)(H:Q (.I (C9 n m:Nat)) h):cP CS fH [.I n,.I m] h Q:=by
 refine z8 rfl rfl ?_;unfold ti;have g:=Int.tmod_lt_of_pos n (b:=(m:Int)) (by omega);have i : -(m:Int)<n.tmod m:=by
  have:=Int.tmod_lt_of_pos (-n) (b:=(m:Int)) (by omega);rw[Int.neg_tmod]at this;omega
 simp only[Rg _ _ _ (m:Int) (by omega),kO,jZ,Qy,zv];unfold C9 at H;split
 ·rename_i a;rw[if_pos a]at H;have e:jr .i64 (n.tmod m+m)=n.tmod m+m:=by grind[yi,zS]
  simp only[z9,e,kO];refine pK ?_;unfold j5;rw[Int.toNat_of_nonneg (by omega)]at H;exact H
 ·rename_i c;rw[if_neg c]at H;refine pK ?_;unfold j5;rw[Int.toNat_of_nonneg (by omega)]at H;exact H
section
variable{F G:Nat->Prop}{h:Hp}{lu PQ PS:Nat}{t:Dt}{R:Rw}{Q:dg}
end
open Un
structure Lc where
 lr:Nat
 lu:Nat
 PQ:Nat
 PS:Nat
 Xo:Nat
 YO:Nat
 QL:Nat
 ZD:Nat
def YM(L:Lc):V:= .func y6 [] [.ptr L.lu 0,.ptr L.PS 0]
def Xe(L:Lc):V:= .func yZ [] [.ptr L.YO 0,.ptr L.lr 0]
def UR(L:Lc):V:= .func yX [] [.ptr L.lu 0,.ptr L.QL 0,.ptr L.PQ 0]
structure Dq (F G:Nat->Prop) (h:Hp) (L:Lc) (ops:List Int) (t:Dt) (R:Rw):Prop where
 D:Dw F G h L.lu L.PQ L.PS t R
 hq:R.cc=R.vc
 gl:G L.YO
 ga:h.get L.YO=some (.cells cT 1 true false [.I t.s.pos])
 fr:F L.lr
 gr:∃a vs n,h.get L.lr=some (.cells W0 1 true false [a,vs,n])/\fJ (eI .i64) F h ops a
 fp:F L.Xo
 gp:∃e,h.get L.Xo=some (.cells e 1 true false [YM L])
 fn:F L.QL
 gn:∃e,h.get L.QL=some (.cells e 1 true false [Xe L])
 fs:F L.ZD
 gs:∃e,h.get L.ZD=some (.cells e 1 true false [UR L])
section
variable{F F' G G':Nat->Prop}{h h':Hp}{L:Lc}{ops:List Int}{t t':Dt}{R R':Rw}{Q:dg}
def gp(G:Nat->Prop)(v:V)(p:Nat):Nat->Prop:=λl=>G l\/l=p\/Loc v l
end
open Un
theorem Ud{t:Nat}{k:IntKind}{a b:Int}{A B:Prop}(h:if a<b then A else B):oP (cX .lss t (.int k a) (.int k b)) λv=>bP v A B:=by
 simp_all
theorem eh{t:Nat}{k:IntKind}{a b:Int}{A B:Prop}(h:if a=b then A else B):oP (cX .eql t (.int k a) (.int k b)) λv=>bP v A B:=by
 simp_all
theorem BM{t:Nat}{k:IntKind}{a b:Int}{A B:Prop}(h:if b<a then A else B):oP (cX .gtr t (.int k a) (.int k b)) λv=>bP v A B:=by
 simp_all
theorem sc{t n m:Nat}{K:V->Prop}(a:n<1000000000)(b:m<1000000000)(H:K (.I ((n+m:Nat):Int))):oP (cX .add t (.I n) (.I m)) K:=by
 grind[z9,YX,kO]
theorem DC{t n:Nat}{K:V->Prop}(a:n<1000000000)(h0:0<n)(H:K (.I ((n-1:Nat):Int))):oP (cX .sub t (.I n) (.I 1)) K:=by
 obtain⟨m,rfl⟩:∃m,n=m+1:=by simp_all
 grind[Dz,WB,kO]
theorem ei{c A B:Prop}[Decidable c] (hc:c)(h:A):if c then A else B:=by simp_all
theorem dM{c A B:Prop}[Decidable c] (hc:¬c)(h:B):if c then A else B:=by simp_all
theorem du{t n:Nat}{K:V->Prop}(H:K (.I ((n+1:Nat):Int)))(h:n<1000000000:=by omega):oP (cX .add t (.I n) (.I 1)) K:=sc (m:=1) h (by decide) H
theorem dZ{t:Nat}{k:IntKind}{a b:Int}{A B:Prop}(H:A)(h:a<b:=by omega):oP (cX .lss t (.int k a) (.int k b)) λv=>bP v A B:=Ud (ei h H)
theorem fq{t:Nat}{k:IntKind}{a b:Int}{A B:Prop}(H:B)(h:¬a<b:=by omega):oP (cX .lss t (.int k a) (.int k b)) λv=>bP v A B:=Ud (dM h H)
section
variable{F F' G G':Nat->Prop}{h h':Hp}{L:Lc}{ops:List Int}{t t':Dt}{R R':Rw}{Q:dg}
structure Sm (s:Ds) (n:Nat):Prop where
 v:s.cR.length<=n
 c:s.cur.length<=n
 k:s.known.length<=n
 st:s.cZ.length<=n
 k0:0<s.known.length
end
