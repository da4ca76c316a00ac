/- Parts. -/
import Derived.Test.YtnehpeeglbgfpaaDoorM32
import Derived.Test.YtnehpeeglbgfpaaDoorCards
import Derived.Test.YtnehpeeglbgfpaaDoorTie
import Derived.WalkKit
import Derived.ProofKit
import Derived.OpenShut
import Derived.ChangeMaps5
import Derived.Deep.DeepHandedRow
import Derived.Lib.LaidTab
import Derived.Test.YtnehpeeglbgfpaaDoorM42
set_option maxHeartbeats 4000000
namespace Go.Proofs.YtnehpeeglbgfpaaDoor.Hx
open Go.Proofs.YtnehpeeglbgfpaaDoor Un
theorem Tb:xC fI (eI .i64) (λ_=>True) true:=xC.int (by unfold P0;exact Tryd.underlying3) (by unfold P0;kernel_rfl)
theorem SW:xC iT (eL (eI .i64)) (λxs=>xs.length<=maxLen/\∀x∈xs,True) false:=xC.slice (by unfold P0;exact Tryd.underlying22) (by unfold P0;kernel_rfl) Tb (by decide)
def Xj:sO (List Int×List Int×Int) where
 sz:=3
 rel F h x cs:=∃c vs,cs=[c,vs,.I x.2.2]/\iB (eI .i64) F h x.1 c/\iB (eI .i64) F h x.2.1 vs
 len:=λ⟨_,_,h,_⟩=>by subst h;rfl
 one:=λ⟨_,_,h,a,b⟩=>by subst h;simp only[eR,a.one,b.one];rfl
 eC:=λd ⟨v,w,h,a,b⟩=>⟨v,w,h,a.eC d,b.eC d⟩
 mono:=λe ⟨v,w,h,a,b⟩=>⟨v,w,h,a.mono e,b.mono e⟩
theorem Xd:xC La Xj (λx=>x.1.length<=maxLen/\x.2.1.length<=maxLen) false:=
 xC.map (xC.struct (fl:=false&&(false&&(true&&true))) (by unfold P0;exact Tryd.underlying24) (by unfold P0;kernel_rfl) (Bx.cons SW rfl (Bx.cons SW rfl (Bx.cons Tb rfl (Bx.nil _)))))
  (λ(x:List Int×List Int×Int×Unit)=>(x.1,x.2.1,x.2.2.1)) rfl (by
  rintro b h ⟨k,f,n,u⟩ cs ⟨g,i,rfl,⟨a,rfl,c⟩,j,l,rfl,⟨d,rfl,e⟩,m,o,rfl,⟨rfl,_⟩,rfl⟩ ok;exact⟨⟨a,d,rfl,c,e⟩,ok.1.1,ok.2.1.1⟩)
theorem Wm:∃fs,P0.underlying La=some (.struct fs):=⟨_,by unfold P0;exact Tryd.underlying24⟩
theorem NV:maxLen<9223372036854775808:=by decide
end Go.Proofs.YtnehpeeglbgfpaaDoor.Hx
namespace Go.Proofs.YtnehpeeglbgfpaaDoor.Laws
open Go.ChangeShapes Go.WideShapes Go.ChangeAt Go.RowKit
theorem own:ownKnob Tryd.prog.godebug=none:=by kernel_rfl
abbrev laid:List (String×DataW Unit):=[("unicode/utf8.first",Rows.laid_unicode_utf8_first),("unicode/utf8.acceptRanges",Rows.laid_unicode_utf8_acceptRanges)]
def flat:Nat->DataW Unit->List Value
 |0,_=>[]
 |_+1,.lit (.int k v)=>[.int k v]
 |n+1,.agg l=>l.flatMap (flat n)
 |_+1,_=>[]
def lay(cs:List Value):Obj->Obj
 | .cells _ t a=> .cells cs.toArray t a
 |o=>o
noncomputable def Ei(os:Os):World:={World.holding Tryd.prog os ⟨#[],#[],[]⟩ with heap:=((World.holding Tryd.prog os ⟨#[],#[],[]⟩).heap.modify 2 (lay (flat 8 Rows.laid_unicode_utf8_acceptRanges))).modify 1 (lay (flat 8 Rows.laid_unicode_utf8_first))}
theorem laidOut:laidOutB Hx.P0=true:=by kernel_rfl
end Go.Proofs.YtnehpeeglbgfpaaDoor.Laws
namespace Go.Proofs.YtnehpeeglbgfpaaDoor.allocFew
open Go.ChangeShapes Go.ChangeMaps Go.WideShapes Go.ChangeAt Go.RowKit Laws
theorem body:∃fn c,Hx.P0.funcs[3]? =some fn/\fn.body=some c:=by
 unfold Hx.P0;exact⟨Tryd.f3,_,Tryd.func3,rfl⟩
theorem VJ(W:World){H:Type}{enc:TypeId×Value->H}{base:Nat}{b:Value}{d0:DataW H}{p0:List MemPlace}(k0:Value.okWide Hx.P0 W .any base 24 b)(h0:DataW.Trod enc Hx.P0 W 0 (λ_=>true) true 24 b d0 p0) :
  Calls Hx.P0 3 #[b] W λe W'=>e = .returned (.bool true)/\Hx.Kept W W':=by
 obtain⟨g,a⟩:=Hx.Wm;obtain⟨e0,l,m,n,i,b0,j,r0,o,w0⟩:=Hx.Xd.Xl a k0 h0 (Hx.Rd.start 3 (EY Hx.QA) W (Hx.V6 W));obtain⟨k,c,rfl,d,f⟩:=b0;exact Hx.cP.calls Hx.Uc (args:=[.agg [k,c,.I e0.2.2]]) (fV:=#[b]) body r0 (.cons _ _ _ _ i .nil) (Hx.Kt (cs:=[]) (.nil λ_ h=>h) d f (Nat.lt_of_le_of_lt j.1 Hx.NV) λ_=>rfl)
set_option maxRecDepth 100000 in
theorem PN (H:Type)(enc:TypeId×Value->H)(W:World)(base:Nat)(args:Array Value)(ds gs:List (DataW H))(b:List MemPlace)
  (c:∀(j:Nat) t v,Tryd.f3.params[j]? =some t->args[j]? =some v->Value.okWide Tryd.prog W .any base t v)
  (k:DataW.Whole enc Tryd.prog Tryd.f3.params.toList Rows.allocFewSpec.vars false W args.toList ds gs b) :
  Calls Tryd.prog 3 args W λe W'=>∃v,e = .returned v/\Rows.allocFewSpec.post enc Tryd.prog Tryd.f3 false true false false W args v W':=by
 have d:=k;obtain⟨p,q,a,r,rfl,s,u⟩:=k;have l:DataW.TrodAll enc Tryd.prog W 0 (λ_=>true) true Tryd.f3.params.toList args.toList ds p:=a;have f:=a.lt;rw[Tryd.params3]at l c;obtain⟨g,w,d0,x,p0,q0,h,rfl,rfl,h0,a⟩:=trodAll_cons l;obtain⟨rfl,rfl,rfl⟩:=trodAll_nil a;obtain rfl:args = #[g]:=by cases args;simp_all
 obtain⟨rfl,rfl⟩:=trodVars_none r;have k0:Value.okWide Tryd.prog W .any base 24 g:=@c 0 24 g (by simp) (by simp);simp only[Hk]at d a f;have m:=VJ (enc:=enc) (base:=base) (d0:=d0) (p0:=p0) W (by unfold Hx.P0;exact k0) (by unfold Hx.P0;exact h0);unfold Hx.P0 at m;refine m.mono λe W' ⟨y,n⟩=>?_;subst y;refine⟨_,rfl,?_⟩;refine Hx.NT (pa:=p0) (pv:=[]) d ?_ ?_ ?_ ?_ n ?_
 ·exact λ_ _ _=>trodAll_cons_mk (shut_bool Tryd.underlying4 _) trodAll_mk0
 ·intro sp i;have z:DataW.TrodAll enc Hx.P0 W 0 (λ_=>true) true Tryd.f3.params.toList [g] [d0] (p0):=by
   unfold Hx.P0;exact a
  have o:=Hx.Cw (W':=W') laidOut n (by kernel_rfl) z f sp i;unfold Hx.P0 at o;exact o
 ·exact λ_ _=>rfl
 ·rw[Hk]
 ·exact ok_one (t:=4) (by kernel_rfl) rfl (okWide_bool_mk Tryd.underlying4 true)
