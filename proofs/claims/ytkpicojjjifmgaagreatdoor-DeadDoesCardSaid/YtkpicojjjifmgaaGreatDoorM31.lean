/- Parts. -/
import Derived.Test.YtkpicojjjifmgaaGreatDoorM32
import Derived.Test.YtkpicojjjifmgaaGreatDoorCards
import Derived.Test.YtkpicojjjifmgaaGreatDoorTie
import Derived.WalkKit
import Derived.ProofKit
import Derived.OpenShut
import Derived.ChangeMaps5
import Derived.Deep.DeepHandedRow
import Derived.Lib.LaidTab
import Derived.Test.YtkpicojjjifmgaaGreatDoorM44
namespace Go.Proofs.YtkpicojjjifmgaaGreatDoor.Hx
open Go.Proofs.YtkpicojjjifmgaaGreatDoor Un
theorem XF:xV eJ (eI .i64) (λ_=>True) true:=xV.int (by unfold P0;exact Tryz.underlying3) (by unfold P0;kernel_rfl)
theorem zan:xV jb (eL (eI .i64)) (λxs=>xs.length<=maxLen/\∀x∈xs,True) false:=xV.slice (by unfold P0;exact Tryz.underlying22) (by unfold P0;kernel_rfl) XF (by decide)
def Tl:ri (List Int×List Int×Int) where
 sz:=3
 rel F h x cs:=∃vo vs,cs=[vo,vs,.I x.2.2]/\iq (eI .i64) F h x.1 vo/\iq (eI .i64) F h x.2.1 vs
 len:=λ⟨_,_,h,_⟩=>by subst h;rfl
 one:=λ⟨_,_,h,a,b⟩=>by subst h;simp only[ey,a.one,b.one];rfl
 fm:=λc ⟨v,w,h,a,b⟩=>⟨v,w,h,a.fm c,b.fm c⟩
 mono:=λd ⟨v,w,h,a,b⟩=>⟨v,w,h,a.mono d,b.mono d⟩
theorem zdY:xV QN Tl (λx=>x.1.length<=maxLen/\x.2.1.length<=maxLen) false:=
 xV.map (xV.struct (fl:=false&&(false&&(true&&true))) (by unfold P0;exact Tryz.underlying24) (by unfold P0;kernel_rfl) (Hq.cons zan rfl (Hq.cons zan rfl (Hq.cons XF rfl (Hq.nil _)))))
  (λ(x:List Int×List Int×Int×Unit)=>(x.1,x.2.1,x.2.2.1)) rfl (by
  rintro b h ⟨k,f,n,u⟩ cs ⟨p1,g,rfl,⟨a,rfl,c⟩,p2,i,rfl,⟨d,rfl,e⟩,p3,j,rfl,⟨rfl,_⟩,rfl⟩ ok;exact⟨⟨a,d,rfl,c,e⟩,ok.1.1,ok.2.1.1⟩)
theorem zdf:∃fs,P0.underlying QN=some (.struct fs):=⟨_,by unfold P0;exact Tryz.underlying24⟩
theorem Xl{W:World}{base:Nat}{v:Value}(k:Value.okWide P0 W .any base 3 v):v.cells = #[v]:=by
 obtain⟨n,rfl⟩:=Go.WideShapes.okWide_int (by unfold P0;exact Tryz.underlying3) k;rfl
theorem UX:maxLen<9223372036854775808:=by decide
end Go.Proofs.YtkpicojjjifmgaaGreatDoor.Hx
namespace Go.Proofs.YtkpicojjjifmgaaGreatDoor.Laws
open Go.ChangeShapes Go.WideShapes Go.ChangeAt Go.RowKit
theorem own:ownKnob Tryz.prog.godebug=none:=by kernel_rfl
abbrev laid:List (String×DataW Unit):=[("unicode/utf8.first",Rows.laid_unicode_utf8_first),("unicode/utf8.acceptRanges",Rows.laid_unicode_utf8_acceptRanges)]
def flat:Nat->DataW Unit->List Value
 |0,_=>[]
 |_+1,.lit (.int k v)=>[.int k v]
 |n+1,.agg l=>l.flatMap (flat n)
 |_+1,_=>[]
def lay(cs:List Value):Obj->Obj
 | .cells _ t a=> .cells cs.toArray t a
 |o=>o
noncomputable def Kr(os:Os):World:={World.holding Tryz.prog os ⟨#[],#[],[]⟩ with heap:=((World.holding Tryz.prog os ⟨#[],#[],[]⟩).heap.modify 2 (lay (flat 8 Rows.laid_unicode_utf8_acceptRanges))).modify 1 (lay (flat 8 Rows.laid_unicode_utf8_first))}
theorem laidOut:laidOutB Hx.P0=true:=by kernel_rfl
end Go.Proofs.YtkpicojjjifmgaaGreatDoor.Laws
namespace Go.Proofs.YtkpicojjjifmgaaGreatDoor.Hx
open Go.Proofs.YtkpicojjjifmgaaGreatDoor Un
abbrev eWs:ri (List Int):=eL (eI .u64)
theorem zd5:xV 90 (eI .u64) (λ_=>True) true:=xV.int (by unfold P0;exact Tryz.underlying90) (by unfold P0;kernel_rfl)
theorem lWs:xV 25 (eL (eI .u64)) (λxs=>xs.length<=maxLen/\∀x∈xs,True) false:=xV.slice (by unfold P0;exact Tryz.underlying25) (by unfold P0;kernel_rfl) zd5 (by decide)
theorem Ui{W:World}{base:Nat}{v:Value}(k:Value.okWide P0 W .any base 25 v):v.cells = #[v]:=by
 obtain⟨a,n,c,rfl⟩:=Go.WideShapes.okWide_slice (by unfold P0;exact Tryz.underlying25) k;rfl
end Go.Proofs.YtkpicojjjifmgaaGreatDoor.Hx
namespace Go.Proofs.YtkpicojjjifmgaaGreatDoor.deadDoes
open Go.ChangeShapes Go.ChangeMaps Go.WideShapes Go.ChangeAt Go.RowKit Laws
theorem body:∃fn c,Hx.P0.funcs[3]? =some fn/\fn.body=some c:=by
 unfold Hx.P0;exact⟨Tryz.f3,_,Tryz.func3,rfl⟩
theorem zcZ(W:World){H:Type}{enc:TypeId×Value->H}{base:Nat}{d f g i:Value}{d0 d1 d2 d3:DataW H}{p0 p1 p2 p3:List MemPlace}(k0:Value.okWide Hx.P0 W .any base 24 d)(t:Value.okWide Hx.P0 W .any base 25 f)(u:Value.okWide Hx.P0 W .any base 25 g)(v:Value.okWide Hx.P0 W .any base 3 i)(h0:DataW.Trod enc Hx.P0 W 0 (λ_=>true) true 24 d d0 p0)(A:DataW.Trod enc Hx.P0 W 0 (λ_=>true) true 25 f d1 p1)(B:DataW.Trod enc Hx.P0 W 0 (λ_=>true) true 25 g d2 p2)(C:DataW.Trod enc Hx.P0 W 0 (λ_=>true) true 3 i d3 p3) :
  Calls Hx.P0 3 #[d,f,g,i] W λe W'=>e = .returned (.bool true)/\Hx.Kept W W':=by
 obtain⟨D,c⟩:=Hx.zdf;obtain⟨e0,M,N,O,a0,b0,E,F,P,w0⟩:=Hx.zdY.zdX c k0 h0 (Hx.Rd.start 3 (JE Hx.XT) W (Hx.zdy W));obtain⟨Q,w,R,S,a1,b1,T,r1,l1,x⟩:=Hx.lWs.zbN (Hx.Ui t) t A F;obtain⟨U,y,V,X,a2,b2,c2,G,l2,j⟩:=Hx.lWs.zbN (Hx.Ui u) u B r1;obtain⟨z,I,Y,Z,a3,b3,c3,J,l3,b⟩:=Hx.XF.zbN (Hx.Xl v) v C G;have a0:=Hx.fP.mono l1 a0;have b0:=Hx.Tl.mono (λ_ h=>Hx.Bt x.next _ h) (Hx.Tl.fm (λl a=>x.fm l a id) b0);have a0:=Hx.fP.mono l2 a0;have b0:=Hx.Tl.mono (λ_ h=>Hx.Bt j.next _ h) (Hx.Tl.fm (λl a=>j.fm l a id) b0);have a0:=Hx.fP.mono l3 a0;have b0:=Hx.Tl.mono (λ_ h=>Hx.Bt b.next _ h) (Hx.Tl.fm (λl a=>b.fm l a id) b0);have a1:=Hx.fP.mono l2 a1;have b1:=Hx.eWs.mono (λ_ h=>Hx.Bt j.next _ h) (Hx.eWs.fm (λl a=>j.fm l a id) b1);have a1:=Hx.fP.mono l3 a1;have b1:=Hx.eWs.mono (λ_ h=>Hx.Bt b.next _ h) (Hx.eWs.fm (λl a=>b.fm l a id) b1);have a2:=Hx.fP.mono l3 a2;have b2:=Hx.eWs.mono (λ_ h=>Hx.Bt b.next _ h) (Hx.eWs.fm (λl a=>b.fm l a id) b2);obtain⟨vo,k,rfl,m,n⟩:=b0;obtain⟨K,o,p⟩:=b1;obtain rfl:w=K:=by simpa using o
 obtain⟨L,q,r⟩:=b2;obtain rfl:y=L:=by simpa using q
 obtain⟨s,_⟩:=b3;obtain rfl:I = .I z:=by simpa using s
 exact Hx.cP.calls Hx.zbh (args:=[.agg [vo,k,.I e0.2.2],w,y,.I z]) (gQ:=#[d,f,g,i]) body J (.cons _ _ _ _ a0 (.cons _ _ _ _ a1 (.cons _ _ _ _ a2 (.cons _ _ _ _ a3 .nil)))) (Hx.Qv (cs:=[]) (.nil λ_ h=>h) m n p r (Nat.lt_of_le_of_lt E.1 Hx.UX) λ_=>rfl)
set_option maxRecDepth 100000 in
theorem Wb (H:Type)(enc:TypeId×Value->H)(W:World)(base:Nat)(args:Array Value)(ds gs:List (DataW H))(c:List MemPlace)
  (a:∀(j:Nat) t v,Tryz.f3.params[j]? =some t->args[j]? =some v->Value.okWide Tryz.prog W .any base t v)
  (x:DataW.Whole enc Tryz.prog Tryz.f3.params.toList Rows.deadDoesSpec.vars false W args.toList ds gs c) :
  Calls Tryz.prog 3 args W λe W'=>∃v,e = .returned v/\Rows.deadDoesSpec.post enc Tryz.prog Tryz.f3 false true false false W args v W':=by
 have h:=x;obtain⟨p,q,b,C,rfl,D,E⟩:=x;have y:DataW.TrodAll enc Tryz.prog W 0 (λ_=>true) true Tryz.f3.params.toList args.toList ds p:=b;have i:=b.lt;rw[Tryz.params3]at y a;obtain⟨k,F,d0,G,p0,q0,l,rfl,rfl,h0,b⟩:=trodAll_cons y;obtain⟨m,I,d1,J,p1,X,d,rfl,rfl,K,r⟩:=trodAll_cons b;obtain⟨n,L,d2,M,p2,Y,f,rfl,rfl,N,s⟩:=trodAll_cons r;obtain⟨o,O,d3,P,p3,Z,g,rfl,rfl,Q,u⟩:=trodAll_cons s;obtain⟨rfl,rfl,rfl⟩:=trodAll_nil u;subst d;subst f;subst g;obtain rfl:args = #[k,m,n,o]:=by cases args;simp_all
 obtain⟨rfl,rfl⟩:=trodVars_none C;have k0:Value.okWide Tryz.prog W .any base 24 k:=@a 0 24 k (by simp) (by simp);have R:Value.okWide Tryz.prog W .any base 25 m:=@a 1 25 m (by simp) (by simp);have S:Value.okWide Tryz.prog W .any base 25 n:=@a 2 25 n (by simp) (by simp);have T:Value.okWide Tryz.prog W .any base 3 o:=@a 3 3 o (by simp) (by simp);simp only[GP]at h b i;have z:=zcZ (enc:=enc) (base:=base) (d0:=d0) (p0:=p0) (d1:=d1) (p1:=p1) (d2:=d2) (p2:=p2) (d3:=d3) (p3:=p3) W (by unfold Hx.P0;exact k0) (by unfold Hx.P0;exact R) (by unfold Hx.P0;exact S) (by unfold Hx.P0;exact T) (by unfold Hx.P0;exact h0) (by unfold Hx.P0;exact K) (by unfold Hx.P0;exact N) (by unfold Hx.P0;exact Q);unfold Hx.P0 at z;refine z.mono λe W' ⟨U,A⟩=>?_;subst U;refine⟨_,rfl,?_⟩;refine Hx.Vs (pa:=p0++(p1++(p2++p3))) (pv:=[]) h ?_ ?_ ?_ ?_ A ?_
 ·exact λ_ _ _=>trodAll_cons_mk (shut_bool Tryz.underlying4 _) trodAll_mk0
 ·intro sp w;have V:DataW.TrodAll enc Hx.P0 W 0 (λ_=>true) true Tryz.f3.params.toList [k,m,n,o] [d0,d1,d2,d3] (p0++(p1++(p2++p3))):=by
   unfold Hx.P0;exact b
  have B:=Hx.Ja (W':=W') laidOut A (by kernel_rfl) V i sp w;unfold Hx.P0 at B;exact B
 ·exact λ_ _=>rfl
 ·rw[GP]
 ·exact ok_one (t:=4) (by kernel_rfl) rfl (okWide_bool_mk Tryz.underlying4 true)
