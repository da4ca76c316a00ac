/- Parts. -/
import Derived.Test.YtpnddokajmjpbaaDoorM32
import Derived.Test.YtpnddokajmjpbaaDoorCards
import Derived.Test.YtpnddokajmjpbaaDoorTie
import Derived.WalkKit
import Derived.ProofKit
import Derived.OpenShut
import Derived.ChangeMaps5
import Derived.Deep.DeepHandedRow
import Derived.Lib.LaidTab
import Derived.Test.YtpnddokajmjpbaaDoorM41
namespace Go.Proofs.YtpnddokajmjpbaaDoor.Hx
open Go.Proofs.YtpnddokajmjpbaaDoor Go.Proofs.YtpnddokajmjpbaaDoor.Un
theorem Yb:xd en (eI .i64) (λ_=>True) true:=xd.int (by unfold P0;exact Tryd.underlying3) (by unfold P0;kernel_rfl)
theorem XN:xd hZ (eL (eI .i64)) (λxs=>xs.length<=maxLen/\∀x∈xs,True) false:=xd.slice (by unfold P0;exact Tryd.underlying23) (by unfold P0;kernel_rfl) Yb (by decide)
def zbk:nQ (List Int×List Int×Int) where
 sz:=3
 rel F h x cs:=∃vo vs,cs=[vo,vs,.int .i64 x.2.2]/\ik (eI .i64) F h x.1 vo/\ik (eI .i64) F h x.2.1 vs
 len:=λ⟨_,_,h,_⟩=>by subst h;rfl
 one:=λ⟨_,_,h,a,b⟩=>by subst h;simp only[eJ,a.one,b.one];rfl
 fc:=λc ⟨v,w,h,a,b⟩=>⟨v,w,h,a.fc c,b.fc c⟩
 mono:=λhb ⟨v,w,h,a,b⟩=>⟨v,w,h,a.mono hb,b.mono hb⟩
theorem zby:xd N0 zbk (λx=>x.1.length<=maxLen/\x.2.1.length<=maxLen) false:=
 xd.map (xd.struct (fl:=false&&(false&&(true&&true))) (by unfold P0;exact Tryd.underlying25) (by unfold P0;kernel_rfl) (ES.cons XN rfl (ES.cons XN rfl (ES.cons Yb rfl (ES.nil _)))))
  (λ(x:List Int×List Int×Int×Unit)=>(x.1,x.2.1,x.2.2.1)) rfl (by
  rintro b h ⟨k,f,n,u⟩ cs ⟨g,i,rfl,⟨a,rfl,c⟩,j,l,rfl,⟨d,rfl,e⟩,m,o,rfl,⟨rfl,_⟩,rfl⟩ ok;exact⟨⟨a,d,rfl,c,e⟩,ok.1.1,ok.2.1.1⟩)
theorem zaO:∃fs,P0.underlying N0=some (.struct fs):=⟨_,by unfold P0;exact Tryd.underlying25⟩
theorem Sa:maxLen<9223372036854775808:=by decide
end Go.Proofs.YtpnddokajmjpbaaDoor.Hx
namespace Go.Proofs.YtpnddokajmjpbaaDoor.Laws
open Go.ChangeShapes Go.WideShapes Go.ChangeAt Go.RowKit
theorem own:ownKnob Tryd.prog.godebug=none:=by kernel_rfl
abbrev laid:List (String×DataW Unit):=[("unicode/utf8.first",Rows.laid_unicode_utf8_first),("unicode/utf8.acceptRanges",Rows.laid_unicode_utf8_acceptRanges)]
def flat:Nat->DataW Unit->List Value
 |0,_=>[]
 |_+1,.lit (.int k v)=>[.int k v]
 |n+1,.agg l=>l.flatMap (flat n)
 |_+1,_=>[]
def lay (cs:List Value):Obj->Obj
 | .cells _ t a=> .cells cs.toArray t a
 |o=>o
noncomputable def HL (os:Os):World:=
 {World.holding Tryd.prog os ⟨#[],#[],[]⟩ with heap:=((World.holding Tryd.prog os ⟨#[],#[],[]⟩).heap.modify 2 (lay (flat 8 Rows.laid_unicode_utf8_acceptRanges))).modify 1 (lay (flat 8 Rows.laid_unicode_utf8_first))}
theorem laidOut:laidOutB Hx.P0=true:=by kernel_rfl
end Go.Proofs.YtpnddokajmjpbaaDoor.Laws
namespace Go.Proofs.YtpnddokajmjpbaaDoor.numberOnce
open Go.ChangeShapes Go.ChangeMaps Go.WideShapes Go.ChangeAt Go.RowKit Go.Proofs.YtpnddokajmjpbaaDoor.Laws
theorem body:∃fn c,Hx.P0.funcs[7]? =some fn/\fn.body=some c:=by
 unfold Hx.P0;exact⟨Tryd.f7,_,Tryd.func7,rfl⟩
theorem zaZ (W:World){H:Type}{enc:TypeId×Value->H}{base:Nat}{b:Value}{d0:DataW H}{p0:List MemPlace}(k0:Value.okWide Hx.P0 W .any base 25 b)(h0:DataW.Trod enc Hx.P0 W 0 (λ_=>true) true 25 b d0 p0) :
  Calls Hx.P0 7 #[b] W λe W'=>e = .returned (.bool true)/\Hx.Kept W W':=by
 obtain⟨g,a⟩:=Hx.zaO;obtain⟨e0,k,l,m,a0,b0,i,j,n,w0⟩:=Hx.zby.zbi a k0 h0 (Hx.Rd.start 3 (G9 Hx.T0) W (Hx.zaX W));obtain⟨vo,c,rfl,d,f⟩:=b0;exact Hx.cP.calls Hx.Y4 (args:=[.agg [vo,c,.int .i64 e0.2.2]]) (gq:=#[b]) body j (.cons _ _ _ _ a0 .nil) (Hx.Lm (cs:=[]) (.nil λ_ h=>h) d f (Nat.lt_of_le_of_lt i.1 Hx.Sa) λ_=>rfl)
set_option maxRecDepth 100000 in
theorem TU (H:Type)(enc:TypeId×Value->H)(W:World)(base:Nat)(args:Array Value)(ds gs:List (DataW H))(b:List MemPlace)
  (c:∀(j:Nat) t v,Tryd.f7.params[j]? =some t->args[j]? =some v->Value.okWide Tryd.prog W .any base t v)
  (k:DataW.Whole enc Tryd.prog Tryd.f7.params.toList Rows.numberOnceSpec.vars false W args.toList ds gs b) :
  Calls Tryd.prog 7 args W λe W'=>∃v,e = .returned v/\Rows.numberOnceSpec.post enc Tryd.prog Tryd.f7 false true false false W args v W':=by
 have d:=k;obtain⟨p,q,a,r,rfl,s,u⟩:=k;have l:DataW.TrodAll enc Tryd.prog W 0 (λ_=>true) true Tryd.f7.params.toList args.toList ds p:=a;have f:=a.lt;rw[Tryd.params7]at l c;obtain⟨g,w,d0,x,p0,q0,h,rfl,rfl,h0,a⟩:=trodAll_cons l;obtain⟨rfl,rfl,rfl⟩:=trodAll_nil a;obtain rfl:args = #[g]:=by cases args;simp_all
 obtain⟨rfl,rfl⟩:=trodVars_none r;have k0:Value.okWide Tryd.prog W .any base 25 g:=@c 0 25 g (by simp) (by simp);simp only[Co]at d a f;have m:=zaZ (enc:=enc) (base:=base) (d0:=d0) (p0:=p0) W (by unfold Hx.P0;exact k0) (by unfold Hx.P0;exact h0);unfold Hx.P0 at m;refine m.mono λe W' ⟨y,n⟩=>?_;subst y;refine⟨_,rfl,?_⟩;refine Hx.Sd (pa:=p0) (pv:=[]) d ?_ ?_ ?_ ?_ n ?_
 ·exact λ_ _ _=>trodAll_cons_mk (shut_bool Tryd.underlying4 _) trodAll_mk0
 ·intro sp i;have z:DataW.TrodAll enc Hx.P0 W 0 (λ_=>true) true Tryd.f7.params.toList [g] [d0] (p0):=by
   unfold Hx.P0;exact a
  have o:=Hx.G2 (W':=W') laidOut n (by kernel_rfl) z f sp i;unfold Hx.P0 at o;exact o
 ·exact λ_ _=>rfl
 ·rw[Co]
 ·exact ok_one (t:=4) (by kernel_rfl) rfl (okWide_bool_mk Tryd.underlying4 true)
