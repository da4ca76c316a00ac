/- Parts. -/
import Derived.Test.YtpfjdlicdljhaaaDoorM32
import Derived.Test.YtpfjdlicdljhaaaDoorCards
import Derived.Test.YtpfjdlicdljhaaaDoorTie
import Derived.WalkKit
import Derived.ProofKit
import Derived.OpenShut
import Derived.ChangeMaps5
import Derived.Deep.DeepHandedRow
import Derived.Lib.LaidTab
import Derived.Test.YtpfjdlicdljhaaaDoorM51
set_option maxHeartbeats 4000000
namespace Go.Proofs.YtpfjdlicdljhaaaDoor.Hx
open Go.Proofs.YtpfjdlicdljhaaaDoor Un
theorem Zr:Au en (eI .i64) (λ_=>True) true:=Au.int (by unfold P0;exact Tryd.underlying3) (by unfold P0;kernel_rfl)
theorem ZD:Au iy (eL (eI .i64)) (λxs=>xs.length<=maxLen/\∀x∈xs,True) false:=Au.slice (by unfold P0;exact Tryd.underlying22) (by unfold P0;kernel_rfl) Zr (by decide)
def zcd:pG (List Int×List Int×Int) where
 sz:=3
 rel F h x cs:=∃vo vs,cs=[vo,vs,.I x.2.2]/\iA (eI .i64) F h x.1 vo/\iA (eI .i64) F h x.2.1 vs
 len:=λ⟨_,_,h,_⟩=>by subst h;rfl
 one:=λ⟨_,_,h,a,b⟩=>by subst h;simp only[ev,a.one,b.one];rfl
 eR:=λhk ⟨v,w,h,a,b⟩=>⟨v,w,h,a.eR hk,b.eR hk⟩
 mono:=λc ⟨v,w,h,a,b⟩=>⟨v,w,h,a.mono c,b.mono c⟩
theorem zcA:Au Ox zcd (λx=>x.1.length<=maxLen/\x.2.1.length<=maxLen) false:=
 Au.map (Au.struct (fl:=false&&(false&&(true&&true))) (by unfold P0;exact Tryd.underlying24) (by unfold P0;kernel_rfl) (FA.cons ZD rfl (FA.cons ZD rfl (FA.cons Zr rfl (FA.nil _)))))
  (λ(x:List Int×List Int×Int×Unit)=>(x.1,x.2.1,x.2.2.1)) rfl (by
  rintro b h ⟨k,f,n,u⟩ cs ⟨g,i,rfl,⟨a,rfl,c⟩,j,l,rfl,⟨d,rfl,e⟩,m,o,rfl,⟨rfl,_⟩,rfl⟩ ok;exact⟨⟨a,d,rfl,c,e⟩,ok.1.1,ok.2.1.1⟩)
theorem zaZ:∃fs,P0.underlying Ox=some (.struct fs):=⟨_,by unfold P0;exact Tryd.underlying24⟩
theorem UF:maxLen<9223372036854775808:=by decide
end Go.Proofs.YtpfjdlicdljhaaaDoor.Hx
namespace Go.Proofs.YtpfjdlicdljhaaaDoor.Laws
open Go.ChangeShapes Go.WideShapes Go.ChangeAt Go.RowKit
theorem own:ownKnob Tryd.prog.godebug=none:=by kernel_rfl
abbrev laid:List (String×DataW Unit):=[("unicode/utf8.first",Rows.laid_unicode_utf8_first),("unicode/utf8.acceptRanges",Rows.laid_unicode_utf8_acceptRanges)]
def flat:Nat->DataW Unit->List Value
 |0,_=>[]
 |_+1,.lit (.int k v)=>[.int k v]
 |n+1,.agg l=>l.flatMap (flat n)
 |_+1,_=>[]
def lay(cs:List Value):Obj->Obj
 | .cells _ t a=> .cells cs.toArray t a
 |o=>o
noncomputable def IS(os:Os):World:={World.holding Tryd.prog os ⟨#[],#[],[]⟩ with heap:=((World.holding Tryd.prog os ⟨#[],#[],[]⟩).heap.modify 2 (lay (flat 8 Rows.laid_unicode_utf8_acceptRanges))).modify 1 (lay (flat 8 Rows.laid_unicode_utf8_first))}
theorem laidOut:laidOutB Hx.P0=true:=by kernel_rfl
end Go.Proofs.YtpfjdlicdljhaaaDoor.Laws
namespace Go.Proofs.YtpfjdlicdljhaaaDoor.foldLeaves
open Go.ChangeShapes Go.ChangeMaps Go.WideShapes Go.ChangeAt Go.RowKit Laws
theorem body:∃fn c,Hx.P0.funcs[3]? =some fn/\fn.body=some c:=by
 unfold Hx.P0;exact⟨Tryd.f3,_,Tryd.func3,rfl⟩
theorem zb2(W:World){H:Type}{enc:TypeId×Value->H}{base:Nat}{b:Value}{d0:DataW H}{p0:List MemPlace}(k0:Value.okWide Hx.P0 W .any base 24 b)(h0:DataW.Trod enc Hx.P0 W 0 (λ_=>true) true 24 b d0 p0) :
  Calls Hx.P0 3 #[b] W λe W'=>e = .returned (.bool true)/\Hx.Kept W W':=by
 obtain⟨g,a⟩:=Hx.zaZ;obtain⟨e0,j,k,l,a0,b0,i,r0,m,w0⟩:=Hx.zcA.zcu a k0 h0 (Hx.Rd.start 3 (Jd Hx.WM) W (Hx.zbk W));obtain⟨vo,c,rfl,d,f⟩:=b0;exact Hx.cP.calls Hx.ZP (args:=[.agg [vo,c,.I e0.2.2]]) (gz:=#[b]) body r0 (.cons _ _ _ _ a0 .nil) (Hx.L4 (cs:=[]) (.nil λ_ h=>h) d f (Nat.lt_of_le_of_lt i.1 Hx.UF) λ_=>rfl)
set_option maxRecDepth 100000 in
theorem VB (H:Type)(enc:TypeId×Value->H)(W:World)(base:Nat)(args:Array Value)(ds gs:List (DataW H))(b:List MemPlace)
  (c:∀(j:Nat) t v,Tryd.f3.params[j]? =some t->args[j]? =some v->Value.okWide Tryd.prog W .any base t v)
  (k:DataW.Whole enc Tryd.prog Tryd.f3.params.toList Rows.foldLeavesSpec.vars false W args.toList ds gs b) :
  Calls Tryd.prog 3 args W λe W'=>∃v,e = .returned v/\Rows.foldLeavesSpec.post enc Tryd.prog Tryd.f3 false true false false W args v W':=by
 have d:=k;obtain⟨p,q,a,o,rfl,r,s⟩:=k;have l:DataW.TrodAll enc Tryd.prog W 0 (λ_=>true) true Tryd.f3.params.toList args.toList ds p:=a;have f:=a.lt;rw[Tryd.params3]at l c;obtain⟨g,u,d0,w,p0,q0,h,rfl,rfl,h0,a⟩:=trodAll_cons l;obtain⟨rfl,rfl,rfl⟩:=trodAll_nil a;obtain rfl:args = #[g]:=by cases args;simp_all
 obtain⟨rfl,rfl⟩:=trodVars_none o;have k0:Value.okWide Tryd.prog W .any base 24 g:=@c 0 24 g (by simp) (by simp);simp only[GD]at d a f;have m:=zb2 (enc:=enc) (base:=base) (d0:=d0) (p0:=p0) W (by unfold Hx.P0;exact k0) (by unfold Hx.P0;exact h0);unfold Hx.P0 at m;refine m.mono λe W' ⟨x,hk⟩=>?_;subst x;refine⟨_,rfl,?_⟩;refine Hx.T3 (pa:=p0) (pv:=[]) d ?_ ?_ ?_ ?_ hk ?_
 ·exact λ_ _ _=>trodAll_cons_mk (shut_bool Tryd.underlying4 _) trodAll_mk0
 ·intro sp i;have y:DataW.TrodAll enc Hx.P0 W 0 (λ_=>true) true Tryd.f3.params.toList [g] [d0] (p0):=by
   unfold Hx.P0;exact a
  have n:=Hx.GM (W':=W') laidOut hk (by kernel_rfl) y f sp i;unfold Hx.P0 at n;exact n
 ·exact λ_ _=>rfl
 ·rw[GD]
 ·exact ok_one (t:=4) (by kernel_rfl) rfl (okWide_bool_mk Tryd.underlying4 true)
