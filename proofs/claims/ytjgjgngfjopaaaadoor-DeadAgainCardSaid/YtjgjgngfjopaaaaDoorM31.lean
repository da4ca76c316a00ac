/- Parts. -/
import Derived.Test.YtjgjgngfjopaaaaDoorM32
import Derived.Test.YtjgjgngfjopaaaaDoorCards
import Derived.Test.YtjgjgngfjopaaaaDoorTie
import Derived.WalkKit
import Derived.ProofKit
import Derived.OpenShut
import Derived.ChangeMaps5
import Derived.Deep.DeepHandedRow
import Derived.Lib.LaidTab
import Derived.Test.YtjgjgngfjopaaaaDoorM44
namespace Go.Proofs.YtjgjgngfjopaaaaDoor.Hx
open Go.Proofs.YtjgjgngfjopaaaaDoor Un
theorem XL:xD ey (eI .i64) (λ_=>True) true:=xD.int (by unfold P0;exact Tryd.underlying3) (by unfold P0;kernel_rfl)
theorem zac:xD iP (eL (eI .i64)) (λxs=>xs.length<=maxLen/\∀x∈xs,True) false:=xD.slice (by unfold P0;exact Tryd.underlying22) (by unfold P0;kernel_rfl) XL (by decide)
def RB:qA (List Int×List Int×Int) where
 sz:=3
 rel F h x cs:=∃vo vs,cs=[vo,vs,.int .i64 x.2.2]/\iC (eI .i64) F h x.1 vo/\iC (eI .i64) F h x.2.1 vs
 len:=λ⟨_,_,h,_⟩=>by subst h;rfl
 one:=λ⟨_,_,h,a,b⟩=>by subst h;simp only[eQ,a.one,b.one];rfl
 fk:=λc ⟨v,w,h,a,b⟩=>⟨v,w,h,a.fk c,b.fk c⟩
 mono:=λd ⟨v,w,h,a,b⟩=>⟨v,w,h,a.mono d,b.mono d⟩
theorem zdR:xD PZ RB (λx=>x.1.length<=maxLen/\x.2.1.length<=maxLen) false:=
 xD.map (xD.struct (fl:=false&&(false&&(true&&true))) (by unfold P0;exact Tryd.underlying24) (by unfold P0;kernel_rfl) (Hb.cons zac rfl (Hb.cons zac rfl (Hb.cons XL rfl (Hb.nil _)))))
  (λ(x:List Int×List Int×Int×Unit)=>(x.1,x.2.1,x.2.2.1)) rfl (by
  rintro b h ⟨k,f,n,u⟩ cs ⟨p1,g,rfl,⟨a,rfl,c⟩,p2,i,rfl,⟨d,rfl,e⟩,p3,j,rfl,⟨rfl,_⟩,rfl⟩ ok;exact⟨⟨a,d,rfl,c,e⟩,ok.1.1,ok.2.1.1⟩)
theorem zdl:∃fs,P0.underlying PZ=some (.struct fs):=⟨_,by unfold P0;exact Tryd.underlying24⟩
theorem Xy{W:World}{base:Nat}{v:Value}(k:Value.okWide P0 W .any base 3 v):v.cells = #[v]:=by
 obtain⟨n,rfl⟩:=Go.WideShapes.okWide_int (by unfold P0;exact Tryd.underlying3) k;rfl
theorem UI:maxLen<9223372036854775808:=by decide
end Go.Proofs.YtjgjgngfjopaaaaDoor.Hx
namespace Go.Proofs.YtjgjgngfjopaaaaDoor.Laws
open Go.ChangeShapes Go.WideShapes Go.ChangeAt Go.RowKit
theorem own:ownKnob Tryd.prog.godebug=none:=by kernel_rfl
abbrev laid:List (String×DataW Unit):=[("unicode/utf8.first",Rows.laid_unicode_utf8_first),("unicode/utf8.acceptRanges",Rows.laid_unicode_utf8_acceptRanges)]
def flat:Nat->DataW Unit->List Value
 |0,_=>[]
 |_+1,.lit (.int k v)=>[.int k v]
 |n+1,.agg l=>l.flatMap (flat n)
 |_+1,_=>[]
def lay(cs:List Value):Obj->Obj
 | .cells _ t a=> .cells cs.toArray t a
 |o=>o
noncomputable def Jt(os:Os):World:={World.holding Tryd.prog os ⟨#[],#[],[]⟩ with heap:=((World.holding Tryd.prog os ⟨#[],#[],[]⟩).heap.modify 2 (lay (flat 8 Rows.laid_unicode_utf8_acceptRanges))).modify 1 (lay (flat 8 Rows.laid_unicode_utf8_first))}
theorem laidOut:laidOutB Hx.P0=true:=by kernel_rfl
end Go.Proofs.YtjgjgngfjopaaaaDoor.Laws
namespace Go.Proofs.YtjgjgngfjopaaaaDoor.Hx
open Go.Proofs.YtjgjgngfjopaaaaDoor Un
abbrev eWs:qA (List Int):=eL (eI .u64)
theorem zd4:xD 83 (eI .u64) (λ_=>True) true:=xD.int (by unfold P0;exact Tryd.underlying83) (by unfold P0;kernel_rfl)
theorem lWs:xD 25 (eL (eI .u64)) (λxs=>xs.length<=maxLen/\∀x∈xs,True) false:=xD.slice (by unfold P0;exact Tryd.underlying25) (by unfold P0;kernel_rfl) zd4 (by decide)
theorem TG{W:World}{base:Nat}{v:Value}(k:Value.okWide P0 W .any base 25 v):v.cells = #[v]:=by
 obtain⟨a,n,c,rfl⟩:=Go.WideShapes.okWide_slice (by unfold P0;exact Tryd.underlying25) k;rfl
end Go.Proofs.YtjgjgngfjopaaaaDoor.Hx
namespace Go.Proofs.YtjgjgngfjopaaaaDoor.deadAgain
open Go.ChangeShapes Go.ChangeMaps Go.WideShapes Go.ChangeAt Go.RowKit Laws
theorem body:∃fn c,Hx.P0.funcs[3]? =some fn/\fn.body=some c:=by
 unfold Hx.P0;exact⟨Tryd.f3,_,Tryd.func3,rfl⟩
theorem zcb(W:World){H:Type}{enc:TypeId×Value->H}{base:Nat}{d f g i:Value}{d0 d1 d2 d3:DataW H}{p0 p1 p2 p3:List MemPlace}(k0:Value.okWide Hx.P0 W .any base 24 d)(t:Value.okWide Hx.P0 W .any base 25 f)(u:Value.okWide Hx.P0 W .any base 25 g)(k3:Value.okWide Hx.P0 W .any base 3 i)(h0:DataW.Trod enc Hx.P0 W 0 (λ_=>true) true 24 d d0 p0)(y:DataW.Trod enc Hx.P0 W 0 (λ_=>true) true 25 f d1 p1)(z:DataW.Trod enc Hx.P0 W 0 (λ_=>true) true 25 g d2 p2)(A:DataW.Trod enc Hx.P0 W 0 (λ_=>true) true 3 i d3 p3) :
  Calls Hx.P0 3 #[d,f,g,i] W λe W'=>e = .returned (.bool true)/\Hx.Kept W W':=by
 obtain⟨B,c⟩:=Hx.zdl;obtain⟨e0,K,L,M,a0,b0,C,D,N,w0⟩:=Hx.zdR.zdA c k0 h0 (Hx.Rd.start 3 (Iu Hx.Wh) W (Hx.zct W));obtain⟨O,v,P,Q,a1,b1,R,r1,l1,w⟩:=Hx.lWs.zbm (Hx.TG t) t y D;obtain⟨S,x,T,U,a2,b2,c2,E,l2,j⟩:=Hx.lWs.zbm (Hx.TG u) u z r1;obtain⟨e3,F,V,g3,a3,b3,X,G,l3,b⟩:=Hx.XL.zbm (Hx.Xy k3) k3 A E;have a0:=Hx.fM.mono l1 a0;have b0:=Hx.RB.mono (λ_ h=>Hx.Bc w.next _ h) (Hx.RB.fk (λl a=>w.fk l a id) b0);have a0:=Hx.fM.mono l2 a0;have b0:=Hx.RB.mono (λ_ h=>Hx.Bc j.next _ h) (Hx.RB.fk (λl a=>j.fk l a id) b0);have a0:=Hx.fM.mono l3 a0;have b0:=Hx.RB.mono (λ_ h=>Hx.Bc b.next _ h) (Hx.RB.fk (λl a=>b.fk l a id) b0);have a1:=Hx.fM.mono l2 a1;have b1:=Hx.eWs.mono (λ_ h=>Hx.Bc j.next _ h) (Hx.eWs.fk (λl a=>j.fk l a id) b1);have a1:=Hx.fM.mono l3 a1;have b1:=Hx.eWs.mono (λ_ h=>Hx.Bc b.next _ h) (Hx.eWs.fk (λl a=>b.fk l a id) b1);have a2:=Hx.fM.mono l3 a2;have b2:=Hx.eWs.mono (λ_ h=>Hx.Bc b.next _ h) (Hx.eWs.fk (λl a=>b.fk l a id) b2);obtain⟨vo,k,rfl,m,n⟩:=b0;obtain⟨I,o,p⟩:=b1;obtain rfl:v=I:=by simpa using o
 obtain⟨J,q,r⟩:=b2;obtain rfl:x=J:=by simpa using q
 obtain⟨s,_⟩:=b3;obtain rfl:F = .int .i64 e3:=by simpa using s
 exact Hx.cP.calls Hx.zaR (args:=[.agg [vo,k,.int .i64 e0.2.2],v,x,.int .i64 e3]) (gN:=#[d,f,g,i]) body G (.cons _ _ _ _ a0 (.cons _ _ _ _ a1 (.cons _ _ _ _ a2 (.cons _ _ _ _ a3 .nil)))) (Hx.OX (cs:=[]) (.nil λ_ h=>h) m n p r (Nat.lt_of_le_of_lt C.1 Hx.UI) λ_=>rfl)
set_option maxRecDepth 100000 in
theorem VR (H:Type)(enc:TypeId×Value->H)(W:World)(base:Nat)(args:Array Value)(ds gs:List (DataW H))(c:List MemPlace)
  (a:∀(j:Nat) t v,Tryd.f3.params[j]? =some t->args[j]? =some v->Value.okWide Tryd.prog W .any base t v)
  (x:DataW.Whole enc Tryd.prog Tryd.f3.params.toList Rows.deadAgainSpec.vars false W args.toList ds gs c) :
  Calls Tryd.prog 3 args W λe W'=>∃v,e = .returned v/\Rows.deadAgainSpec.post enc Tryd.prog Tryd.f3 false true false false W args v W':=by
 have h:=x;obtain⟨p,q,b,C,rfl,D,E⟩:=x;have y:DataW.TrodAll enc Tryd.prog W 0 (λ_=>true) true Tryd.f3.params.toList args.toList ds p:=b;have i:=b.lt;rw[Tryd.params3]at y a;obtain⟨k,F,d0,G,p0,q0,l,rfl,rfl,h0,b⟩:=trodAll_cons y;obtain⟨m,I,d1,J,p1,V,d,rfl,rfl,K,r⟩:=trodAll_cons b;obtain⟨n,L,d2,M,p2,X,f,rfl,rfl,N,s⟩:=trodAll_cons r;obtain⟨o,O,d3,P,p3,Y,g,rfl,rfl,Q,u⟩:=trodAll_cons s;obtain⟨rfl,rfl,rfl⟩:=trodAll_nil u;subst d;subst f;subst g;obtain rfl:args = #[k,m,n,o]:=by cases args;simp_all
 obtain⟨rfl,rfl⟩:=trodVars_none C;have k0:Value.okWide Tryd.prog W .any base 24 k:=@a 0 24 k (by simp) (by simp);have R:Value.okWide Tryd.prog W .any base 25 m:=@a 1 25 m (by simp) (by simp);have S:Value.okWide Tryd.prog W .any base 25 n:=@a 2 25 n (by simp) (by simp);have k3:Value.okWide Tryd.prog W .any base 3 o:=@a 3 3 o (by simp) (by simp);simp only[Eo]at h b i;have z:=zcb (enc:=enc) (base:=base) (d0:=d0) (p0:=p0) (d1:=d1) (p1:=p1) (d2:=d2) (p2:=p2) (d3:=d3) (p3:=p3) W (by unfold Hx.P0;exact k0) (by unfold Hx.P0;exact R) (by unfold Hx.P0;exact S) (by unfold Hx.P0;exact k3) (by unfold Hx.P0;exact h0) (by unfold Hx.P0;exact K) (by unfold Hx.P0;exact N) (by unfold Hx.P0;exact Q);unfold Hx.P0 at z;refine z.mono λe W' ⟨T,A⟩=>?_;subst T;refine⟨_,rfl,?_⟩;refine Hx.Vb (pa:=p0++(p1++(p2++p3))) (pv:=[]) h ?_ ?_ ?_ ?_ A ?_
 ·exact λ_ _ _=>trodAll_cons_mk (shut_bool Tryd.underlying4 _) trodAll_mk0
 ·intro sp w;have U:DataW.TrodAll enc Hx.P0 W 0 (λ_=>true) true Tryd.f3.params.toList [k,m,n,o] [d0,d1,d2,d3] (p0++(p1++(p2++p3))):=by
   unfold Hx.P0;exact b
  have B:=Hx.Iv (W':=W') laidOut A (by kernel_rfl) U i sp w;unfold Hx.P0 at B;exact B
 ·exact λ_ _=>rfl
 ·rw[Eo]
 ·exact ok_one (t:=4) (by kernel_rfl) rfl (okWide_bool_mk Tryd.underlying4 true)
