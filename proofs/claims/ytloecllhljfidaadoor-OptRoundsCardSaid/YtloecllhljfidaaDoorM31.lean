/- Parts. -/
import Derived.Test.YtloecllhljfidaaDoorM32
import Derived.Test.YtloecllhljfidaaDoorCards
import Derived.Test.YtloecllhljfidaaDoorTie
import Derived.WalkKit
import Derived.ProofKit
import Derived.OpenShut
import Derived.ChangeMaps5
import Derived.Deep.DeepHandedRow
import Derived.Lib.LaidTab
import Derived.Test.YtloecllhljfidaaDoorM44
set_option maxHeartbeats 4000000
namespace Go.Proofs.YtloecllhljfidaaDoor.Hx
open Go.Proofs.YtloecllhljfidaaDoor Un
theorem Wu:yr en (eI .i64) (λ_=>True) true:=yr.int (by unfold P0;exact Tryd.underlying3) (by unfold P0;kernel_rfl)
theorem zad:yr iP (eL (eI .i64)) (λxs=>xs.length<=maxLen/\∀x∈xs,True) false:=yr.slice (by unfold P0;exact Tryd.underlying22) (by unfold P0;kernel_rfl) Wu (by decide)
def zaK:o0 (List Int×List Int×Int) where
 sz:=3
 rel F h x cs:=∃vo vs,cs=[vo,vs,.I x.2.2]/\iG (eI .i64) F h x.1 vo/\iG (eI .i64) F h x.2.1 vs
 len:=λ⟨_,_,h,_⟩=>by subst h;rfl
 one:=λ⟨_,_,h,a,b⟩=>by subst h;simp only[eo,a.one,b.one];rfl
 fe:=λhk ⟨v,w,h,a,b⟩=>⟨v,w,h,a.fe hk,b.fe hk⟩
 mono:=λhb ⟨v,w,h,a,b⟩=>⟨v,w,h,a.mono hb,b.mono hb⟩
theorem zdg:yr Q6 zaK (λx=>x.1.length<=maxLen/\x.2.1.length<=maxLen) false:=
 yr.map (yr.struct (fl:=false&&(false&&(true&&true))) (by unfold P0;exact Tryd.underlying24) (by unfold P0;kernel_rfl) (E9.cons zad rfl (E9.cons zad rfl (E9.cons Wu rfl (E9.nil _)))))
  (λ(x:List Int×List Int×Int×Unit)=>(x.1,x.2.1,x.2.2.1)) rfl (by
  rintro b h ⟨k,f,n,u⟩ cs ⟨p1,g,rfl,⟨a,rfl,c⟩,i,j,rfl,⟨d,rfl,e⟩,l,m,rfl,⟨rfl,_⟩,rfl⟩ ok;exact⟨⟨a,d,rfl,c,e⟩,ok.1.1,ok.2.1.1⟩)
theorem zbS:∃fs,P0.underlying Q6=some (.struct fs):=⟨_,by unfold P0;exact Tryd.underlying24⟩
theorem W9{W:World}{base:Nat}{v:Value}(k:Value.okWide P0 W .any base 3 v):v.cells = #[v]:=by
 obtain⟨n,rfl⟩:=Go.WideShapes.okWide_int (by unfold P0;exact Tryd.underlying3) k;rfl
theorem UR:maxLen<9223372036854775808:=by decide
end Go.Proofs.YtloecllhljfidaaDoor.Hx
namespace Go.Proofs.YtloecllhljfidaaDoor.Laws
open Go.ChangeShapes Go.WideShapes Go.ChangeAt Go.RowKit
theorem own:ownKnob Tryd.prog.godebug=none:=by kernel_rfl
abbrev laid:List (String×DataW Unit):=[("unicode/utf8.first",Rows.laid_unicode_utf8_first),("unicode/utf8.acceptRanges",Rows.laid_unicode_utf8_acceptRanges)]
def flat:Nat->DataW Unit->List Value
 |0,_=>[]
 |_+1,.lit (.int k v)=>[.int k v]
 |n+1,.agg l=>l.flatMap (flat n)
 |_+1,_=>[]
def lay(cs:List Value):Obj->Obj
 | .cells _ t a=> .cells cs.toArray t a
 |o=>o
noncomputable def HV(os:Os):World:={World.holding Tryd.prog os ⟨#[],#[],[]⟩ with heap:=((World.holding Tryd.prog os ⟨#[],#[],[]⟩).heap.modify 2 (lay (flat 8 Rows.laid_unicode_utf8_acceptRanges))).modify 1 (lay (flat 8 Rows.laid_unicode_utf8_first))}
theorem laidOut:laidOutB Hx.P0=true:=by kernel_rfl
end Go.Proofs.YtloecllhljfidaaDoor.Laws
namespace Go.Proofs.YtloecllhljfidaaDoor.optRounds
open Go.ChangeShapes Go.ChangeMaps Go.WideShapes Go.ChangeAt Go.RowKit Laws
theorem body:∃fn c,Hx.P0.funcs[3]? =some fn/\fn.body=some c:=by
 unfold Hx.P0;exact⟨Tryd.f3,_,Tryd.func3,rfl⟩
theorem zb7(W:World){H:Type}{enc:TypeId×Value->H}{base:Nat}{b c:Value}{d0 d1:DataW H}{p0 p1:List MemPlace}(k0:Value.okWide Hx.P0 W .any base 24 b)(j:Value.okWide Hx.P0 W .any base 3 c)(h0:DataW.Trod enc Hx.P0 W 0 (λ_=>true) true 24 b d0 p0)(n:DataW.Trod enc Hx.P0 W 0 (λ_=>true) true 3 c d1 p1) :
  Calls Hx.P0 3 #[b,c] W λe W'=>e = .returned (.bool true)/\Hx.Kept W W':=by
 obtain⟨o,a⟩:=Hx.zbS;obtain⟨e0,r,s,t,a0,b0,p,r0,u,w0⟩:=Hx.zdg.zda a k0 h0 (Hx.Rd.start 3 (Jz Hx.WY) W (Hx.zch W));obtain⟨k,u1,v,w,a1,b1,x,r1,l1,m⟩:=Hx.Wu.zcX (Hx.W9 j) j n r0;have a0:=Hx.fG.mono l1 a0;have b0:=Hx.zaK.mono (λ_ h=>Hx.Oa m.next _ h) (Hx.zaK.fe (λl q=>m.fe l q id) b0);obtain⟨vo,d,rfl,f,g⟩:=b0;obtain⟨i,_⟩:=b1;obtain rfl:u1 = .I k:=by simpa using i
 exact Hx.cP.calls Hx.zay (args:=[.agg [vo,d,.I e0.2.2],.I k]) (gB:=#[b,c]) body r1 (.cons _ _ _ _ a0 (.cons _ _ _ _ a1 .nil)) (Hx.NU (cs:=[]) (.nil λ_ h=>h) f g (Nat.lt_of_le_of_lt p.1 Hx.UR) λ_=>rfl)
set_option maxRecDepth 100000 in
theorem XA (H:Type)(enc:TypeId×Value->H)(W:World)(base:Nat)(args:Array Value)(ds gs:List (DataW H))(c:List MemPlace)
  (b:∀(j:Nat) t v,Tryd.f3.params[j]? =some t->args[j]? =some v->Value.okWide Tryd.prog W .any base t v)
  (n:DataW.Whole enc Tryd.prog Tryd.f3.params.toList Rows.optRoundsSpec.vars false W args.toList ds gs c) :
  Calls Tryd.prog 3 args W λe W'=>∃v,e = .returned v/\Rows.optRoundsSpec.post enc Tryd.prog Tryd.f3 false true false false W args v W':=by
 have f:=n;obtain⟨p,q,a,u,rfl,w,x⟩:=n;have o:DataW.TrodAll enc Tryd.prog W 0 (λ_=>true) true Tryd.f3.params.toList args.toList ds p:=a;have g:=a.lt;rw[Tryd.params3]at o b;obtain⟨h,y,d0,z,p0,q0,i,rfl,rfl,h0,a⟩:=trodAll_cons o;obtain⟨k,A,d1,B,p1,G,d,rfl,rfl,C,l⟩:=trodAll_cons a;obtain⟨rfl,rfl,rfl⟩:=trodAll_nil l;subst d;obtain rfl:args = #[h,k]:=by cases args;simp_all
 obtain⟨rfl,rfl⟩:=trodVars_none u;have k0:Value.okWide Tryd.prog W .any base 24 h:=@b 0 24 h (by simp) (by simp);have D:Value.okWide Tryd.prog W .any base 3 k:=@b 1 3 k (by simp) (by simp);simp only[HU]at f a g;have r:=zb7 (enc:=enc) (base:=base) (d0:=d0) (p0:=p0) (d1:=d1) (p1:=p1) W (by unfold Hx.P0;exact k0) (by unfold Hx.P0;exact D) (by unfold Hx.P0;exact h0) (by unfold Hx.P0;exact C);unfold Hx.P0 at r;refine r.mono λe W' ⟨E,hk⟩=>?_;subst E;refine⟨_,rfl,?_⟩;refine Hx.U0 (pa:=p0++p1) (pv:=[]) f ?_ ?_ ?_ ?_ hk ?_
 ·exact λ_ _ _=>trodAll_cons_mk (shut_bool Tryd.underlying4 _) trodAll_mk0
 ·intro sp m;have F:DataW.TrodAll enc Hx.P0 W 0 (λ_=>true) true Tryd.f3.params.toList [h,k] [d0,d1] (p0++p1):=by
   unfold Hx.P0;exact a
  have s:=Hx.GZ (W':=W') laidOut hk (by kernel_rfl) F g sp m;unfold Hx.P0 at s;exact s
 ·exact λ_ _=>rfl
 ·rw[HU]
 ·exact ok_one (t:=4) (by kernel_rfl) rfl (okWide_bool_mk Tryd.underlying4 true)
