/- Parts. -/
import Derived.Test.YtpfjdlicdljhaaaDoorM32
import Derived.Test.YtpfjdlicdljhaaaDoorCards
import Derived.Test.YtpfjdlicdljhaaaDoorTie
import Derived.WalkKit
import Derived.ProofKit
import Derived.OpenShut
import Derived.ChangeMaps5
import Derived.Deep.DeepHandedRow
import Derived.Lib.LaidTab
import Derived.Test.YtpfjdlicdljhaaaDoorM51
set_option maxHeartbeats 4000000
namespace Go.Proofs.YtpfjdlicdljhaaaDoor.Hx
open Go.Proofs.YtpfjdlicdljhaaaDoor Un
theorem Xn:Bo cT (eI .i64) (λ_=>True) true:=Bo.int (by unfold P0;exact Tryd.underlying3) (by unfold P0;kernel_rfl)
theorem W8:Bo fO (eL (eI .i64)) (λxs=>xs.length<=maxLen/\∀x∈xs,True) false:=Bo.slice (by unfold P0;exact Tryd.underlying22) (by unfold P0;kernel_rfl) Xn (by decide)
theorem Ot{W:World}{base:Nat}{v:Value}(k:Value.okWide P0 W .any base 22 v):v.cells = #[v]:=by
 obtain⟨a,n,c,rfl⟩:=Go.WideShapes.okWide_slice (by unfold P0;exact Tryd.underlying22) k;rfl
theorem Ix:maxLen<9223372036854775808:=by decide
end Go.Proofs.YtpfjdlicdljhaaaDoor.Hx
namespace Go.Proofs.YtpfjdlicdljhaaaDoor.Laws
open Go.ChangeShapes Go.WideShapes Go.ChangeAt Go.RowKit
theorem own:ownKnob Tryd.prog.godebug=none:=by kernel_rfl
abbrev laid:List (String×DataW Unit):=[("unicode/utf8.first",Rows.laid_unicode_utf8_first),("unicode/utf8.acceptRanges",Rows.laid_unicode_utf8_acceptRanges)]
def flat:Nat->DataW Unit->List Value
 |0,_=>[]
 |_+1,.lit (.int k v)=>[.int k v]
 |n+1,.agg l=>l.flatMap (flat n)
 |_+1,_=>[]
def lay(cs:List Value):Obj->Obj
 | .cells _ t a=> .cells cs.toArray t a
 |o=>o
noncomputable def Ee(os:Os):World:={World.holding Tryd.prog os ⟨#[],#[],[]⟩ with heap:=((World.holding Tryd.prog os ⟨#[],#[],[]⟩).heap.modify 2 (lay (flat 8 Rows.laid_unicode_utf8_acceptRanges))).modify 1 (lay (flat 8 Rows.laid_unicode_utf8_first))}
theorem laidOut:laidOutB Hx.P0=true:=by kernel_rfl
end Go.Proofs.YtpfjdlicdljhaaaDoor.Laws
namespace Go.Proofs.YtpfjdlicdljhaaaDoor.Hx
open Go.Proofs.YtpfjdlicdljhaaaDoor Un
abbrev ZC:oY (List Int):=eL (eI .i64)
theorem Zj:Bo 2 (eI .i64) (λ_=>True) true:=Bo.int (by unfold P0;exact Tryd.underlying2) (by unfold P0;kernel_rfl)
theorem XA:Bo 43 (eL (eI .i64)) (λxs=>xs.length<=maxLen/\∀x∈xs,True) false:=Bo.slice (by unfold P0;exact Tryd.underlying43) (by unfold P0;kernel_rfl) Zj (by decide)
theorem Pl{W:World}{base:Nat}{v:Value}(k:Value.okWide P0 W .any base 43 v):v.cells = #[v]:=by
 obtain⟨a,n,c,rfl⟩:=Go.WideShapes.okWide_slice (by unfold P0;exact Tryd.underlying43) k;rfl
end Go.Proofs.YtpfjdlicdljhaaaDoor.Hx
namespace Go.Proofs.YtpfjdlicdljhaaaDoor.foldConst
open Go.ChangeShapes Go.ChangeMaps Go.WideShapes Go.ChangeAt Go.RowKit Laws
theorem body:∃fn c,Hx.P0.funcs[4]? =some fn/\fn.body=some c:=by
 unfold Hx.P0;exact⟨Tryd.f4,_,Tryd.func4,rfl⟩
theorem XC(W:World){H:Type}{enc:TypeId×Value->H}{base:Nat}{a b:Value}{d0 d1:DataW H}{p0 p1:List MemPlace}(k0:Value.okWide Hx.P0 W .any base 22 a)(i:Value.okWide Hx.P0 W .any base 43 b)(h0:DataW.Trod enc Hx.P0 W 0 (λ_=>true) true 22 a d0 p0)(m:DataW.Trod enc Hx.P0 W 0 (λ_=>true) true 43 b d1 p1) :
  Calls Hx.P0 4 #[a,b] W λe W'=>e = .returned (.bool true)/\Hx.Kept W W':=by
 obtain⟨e0,j,s,t,a0,b0,n,r0,u,w0⟩:=Hx.W8.WQ (Hx.Ot k0) k0 h0 (Hx.Rd.start 3 (EN Hx.QM) W (Hx.W7 W));obtain⟨v,u1,w,x,a1,b1,o,r1,l1,k⟩:=Hx.XA.WQ (Hx.Pl i) i m r0;have a0:=Hx.dj.mono l1 a0;have b0:=Hx.ZC.mono (λ_ h=>Hx.Nm k.next _ h) (Hx.ZC.dO (λl p=>k.dO l p id) b0);obtain⟨q,c,d⟩:=b0;obtain rfl:j=q:=by simpa using c
 obtain⟨r,f,g⟩:=b1;obtain rfl:u1=r:=by simpa using f
 exact Hx.cP.calls Hx.Vj (args:=[j,u1]) (ee:=#[a,b]) body r1 (.cons _ _ _ _ a0 (.cons _ _ _ _ a1 .nil)) (Hx.JH (cs:=[]) (.nil λ_ h=>h) d g (Nat.lt_of_le_of_lt n.1 Hx.Ix) (Nat.lt_of_le_of_lt o.1 Hx.Ix) λ_=>rfl)
set_option maxRecDepth 100000 in
theorem QW (H:Type)(enc:TypeId×Value->H)(W:World)(base:Nat)(args:Array Value)(ds gs:List (DataW H))(c:List MemPlace)
  (b:∀(j:Nat) t v,Tryd.f4.params[j]? =some t->args[j]? =some v->Value.okWide Tryd.prog W .any base t v)
  (n:DataW.Whole enc Tryd.prog Tryd.f4.params.toList Rows.foldConstSpec.vars false W args.toList ds gs c) :
  Calls Tryd.prog 4 args W λe W'=>∃v,e = .returned v/\Rows.foldConstSpec.post enc Tryd.prog Tryd.f4 false true false false W args v W':=by
 have f:=n;obtain⟨p,q,a,u,rfl,w,x⟩:=n;have o:DataW.TrodAll enc Tryd.prog W 0 (λ_=>true) true Tryd.f4.params.toList args.toList ds p:=a;have g:=a.lt;rw[Tryd.params4]at o b;obtain⟨h,y,d0,z,p0,q0,i,rfl,rfl,h0,a⟩:=trodAll_cons o;obtain⟨k,A,d1,B,p1,G,d,rfl,rfl,C,l⟩:=trodAll_cons a;obtain⟨rfl,rfl,rfl⟩:=trodAll_nil l;subst d;obtain rfl:args = #[h,k]:=by cases args;simp_all
 obtain⟨rfl,rfl⟩:=trodVars_none u;have k0:Value.okWide Tryd.prog W .any base 22 h:=@b 0 22 h (by simp) (by simp);have D:Value.okWide Tryd.prog W .any base 43 k:=@b 1 43 k (by simp) (by simp);simp only[GK]at f a g;have r:=XC (enc:=enc) (base:=base) (d0:=d0) (p0:=p0) (d1:=d1) (p1:=p1) W (by unfold Hx.P0;exact k0) (by unfold Hx.P0;exact D) (by unfold Hx.P0;exact h0) (by unfold Hx.P0;exact C);unfold Hx.P0 at r;refine r.mono λe W' ⟨E,hk⟩=>?_;subst E;refine⟨_,rfl,?_⟩;refine Hx.PD (pa:=p0++p1) (pv:=[]) f ?_ ?_ ?_ ?_ hk ?_
 ·exact λ_ _ _=>trodAll_cons_mk (shut_bool Tryd.underlying4 _) trodAll_mk0
 ·intro sp m;have F:DataW.TrodAll enc Hx.P0 W 0 (λ_=>true) true Tryd.f4.params.toList [h,k] [d0,d1] (p0++p1):=by
   unfold Hx.P0;exact a
  have s:=Hx.CM (W':=W') laidOut hk (by kernel_rfl) F g sp m;unfold Hx.P0 at s;exact s
 ·exact λ_ _=>rfl
 ·rw[GK]
 ·exact ok_one (t:=4) (by kernel_rfl) rfl (okWide_bool_mk Tryd.underlying4 true)
