/- Parts. -/
import Derived.Test.YtbdcpiokodljaaaGreatDoorM32
import Derived.Test.YtbdcpiokodljaaaGreatDoorCards
import Derived.Test.YtbdcpiokodljaaaGreatDoorTie
import Derived.WalkKit
import Derived.ProofKit
import Derived.OpenShut
import Derived.ChangeMaps5
import Derived.Deep.DeepHandedRow
import Derived.Lib.LaidTab
import Derived.Test.YtbdcpiokodljaaaGreatDoorM44
set_option maxHeartbeats 4000000
namespace Go.Proofs.YtbdcpiokodljaaaGreatDoor.Hx
open Go.Proofs.YtbdcpiokodljaaaGreatDoor Un
theorem Yv:y6 ev (eI .i64) (λ_=>True) true:=y6.int (by unfold P0;exact Tryz.underlying3) (by unfold P0;kernel_rfl)
theorem zcG:y6 js (eL (eI .i64)) (λxs=>xs.length<=maxLen/\∀x∈xs,True) false:=y6.slice (by unfold P0;exact Tryz.underlying22) (by unfold P0;kernel_rfl) Yv (by decide)
def UC:qH (List Int×List Int×Int) where
 sz:=3
 rel F h x cs:=∃vo vs,cs=[vo,vs,.I x.2.2]/\ie (eI .i64) F h x.1 vo/\ie (eI .i64) F h x.2.1 vs
 len:=λ⟨_,_,h,_⟩=>by subst h;rfl
 one:=λ⟨_,_,h,a,b⟩=>by subst h;simp only[eo,a.one,b.one];rfl
 fi:=λhk ⟨v,w,h,a,b⟩=>⟨v,w,h,a.fi hk,b.fi hk⟩
 mono:=λc ⟨v,w,h,a,b⟩=>⟨v,w,h,a.mono c,b.mono c⟩
theorem zfX:y6 Sl UC (λx=>x.1.length<=maxLen/\x.2.1.length<=maxLen) false:=
 y6.map (y6.struct (fl:=false&&(false&&(true&&true))) (by unfold P0;exact Tryz.underlying24) (by unfold P0;kernel_rfl) (Jd.cons zcG rfl (Jd.cons zcG rfl (Jd.cons Yv rfl (Jd.nil _)))))
  (λ(x:List Int×List Int×Int×Unit)=>(x.1,x.2.1,x.2.2.1)) rfl (by
  rintro b h ⟨k,f,n,u⟩ cs ⟨p1,g,rfl,⟨a,rfl,c⟩,p2,i,rfl,⟨d,rfl,e⟩,p3,j,rfl,⟨rfl,_⟩,rfl⟩ ok;exact⟨⟨a,d,rfl,c,e⟩,ok.1.1,ok.2.1.1⟩)
theorem ze8:∃fs,P0.underlying Sl=some (.struct fs):=⟨_,by unfold P0;exact Tryz.underlying24⟩
theorem zao{W:World}{base:Nat}{v:Value}(k:Value.okWide P0 W .any base 3 v):v.cells = #[v]:=by
 obtain⟨n,rfl⟩:=Go.WideShapes.okWide_int (by unfold P0;exact Tryz.underlying3) k;rfl
theorem XR:maxLen<9223372036854775808:=by decide
end Go.Proofs.YtbdcpiokodljaaaGreatDoor.Hx
namespace Go.Proofs.YtbdcpiokodljaaaGreatDoor.Laws
open Go.ChangeShapes Go.WideShapes Go.ChangeAt Go.RowKit
theorem own:ownKnob Tryz.prog.godebug=none:=by kernel_rfl
abbrev laid:List (String×DataW Unit):=[("unicode/utf8.first",Rows.laid_unicode_utf8_first),("unicode/utf8.acceptRanges",Rows.laid_unicode_utf8_acceptRanges)]
def flat:Nat->DataW Unit->List Value
 |0,_=>[]
 |_+1,.lit (.int k v)=>[.int k v]
 |n+1,.agg l=>l.flatMap (flat n)
 |_+1,_=>[]
def lay(cs:List Value):Obj->Obj
 | .cells _ t a=> .cells cs.toArray t a
 |o=>o
noncomputable def Lh(os:Os):World:={World.holding Tryz.prog os ⟨#[],#[],[]⟩ with heap:=((World.holding Tryz.prog os ⟨#[],#[],[]⟩).heap.modify 2 (lay (flat 8 Rows.laid_unicode_utf8_acceptRanges))).modify 1 (lay (flat 8 Rows.laid_unicode_utf8_first))}
theorem laidOut:laidOutB Hx.P0=true:=by kernel_rfl
end Go.Proofs.YtbdcpiokodljaaaGreatDoor.Laws
namespace Go.Proofs.YtbdcpiokodljaaaGreatDoor.Hx
open Go.Proofs.YtbdcpiokodljaaaGreatDoor Un
abbrev eWs:qH (List Int):=eL (eI .u64)
theorem zgi:y6 60 (eI .u64) (λ_=>True) true:=y6.int (by unfold P0;exact Tryz.underlying60) (by unfold P0;kernel_rfl)
theorem lWs:y6 25 (eL (eI .u64)) (λxs=>xs.length<=maxLen/\∀x∈xs,True) false:=y6.slice (by unfold P0;exact Tryz.underlying25) (by unfold P0;kernel_rfl) zgi (by decide)
theorem We{W:World}{base:Nat}{v:Value}(k:Value.okWide P0 W .any base 25 v):v.cells = #[v]:=by
 obtain⟨a,n,c,rfl⟩:=Go.WideShapes.okWide_slice (by unfold P0;exact Tryz.underlying25) k;rfl
end Go.Proofs.YtbdcpiokodljaaaGreatDoor.Hx
namespace Go.Proofs.YtbdcpiokodljaaaGreatDoor.foldDoes
open Go.ChangeShapes Go.ChangeMaps Go.WideShapes Go.ChangeAt Go.RowKit Laws
theorem body:∃fn c,Hx.P0.funcs[3]? =some fn/\fn.body=some c:=by
 unfold Hx.P0;exact⟨Tryz.f3,_,Tryz.func3,rfl⟩
theorem zer(W:World){H:Type}{enc:TypeId×Value->H}{base:Nat}{d f g i:Value}{d0 d1 d2 d3:DataW H}{p0 p1 p2 p3:List MemPlace}(k0:Value.okWide Hx.P0 W .any base 24 d)(t:Value.okWide Hx.P0 W .any base 25 f)(u:Value.okWide Hx.P0 W .any base 25 g)(v:Value.okWide Hx.P0 W .any base 3 i)(h0:DataW.Trod enc Hx.P0 W 0 (λ_=>true) true 24 d d0 p0)(y:DataW.Trod enc Hx.P0 W 0 (λ_=>true) true 25 f d1 p1)(z:DataW.Trod enc Hx.P0 W 0 (λ_=>true) true 25 g d2 p2)(A:DataW.Trod enc Hx.P0 W 0 (λ_=>true) true 3 i d3 p3) :
  Calls Hx.P0 3 #[d,f,g,i] W λe W'=>e = .returned (.bool true)/\Hx.Kept W W':=by
 obtain⟨B,c⟩:=Hx.ze8;obtain⟨e0,I,J,K,a0,b0,C,r0,L,w0⟩:=Hx.zfX.zf0 c k0 h0 (Hx.Rd.start 3 (K7 Hx.zas) W (Hx.zeI W));obtain⟨M,u1,N,O,a1,b1,P,r1,l1,w⟩:=Hx.lWs.zdj (Hx.We t) t y r0;obtain⟨Q,u2,R,S,a2,b2,c2,D,l2,j⟩:=Hx.lWs.zdj (Hx.We u) u z r1;obtain⟨x,E,T,U,a3,b3,V,r3,l3,b⟩:=Hx.Yv.zdj (Hx.zao v) v A D;have a0:=Hx.fO.mono l1 a0;have b0:=Hx.UC.mono (λ_ h=>Hx.CC w.next _ h) (Hx.UC.fi (λl a=>w.fi l a id) b0);have a0:=Hx.fO.mono l2 a0;have b0:=Hx.UC.mono (λ_ h=>Hx.CC j.next _ h) (Hx.UC.fi (λl a=>j.fi l a id) b0);have a0:=Hx.fO.mono l3 a0;have b0:=Hx.UC.mono (λ_ h=>Hx.CC b.next _ h) (Hx.UC.fi (λl a=>b.fi l a id) b0);have a1:=Hx.fO.mono l2 a1;have b1:=Hx.eWs.mono (λ_ h=>Hx.CC j.next _ h) (Hx.eWs.fi (λl a=>j.fi l a id) b1);have a1:=Hx.fO.mono l3 a1;have b1:=Hx.eWs.mono (λ_ h=>Hx.CC b.next _ h) (Hx.eWs.fi (λl a=>b.fi l a id) b1);have a2:=Hx.fO.mono l3 a2;have b2:=Hx.eWs.mono (λ_ h=>Hx.CC b.next _ h) (Hx.eWs.fi (λl a=>b.fi l a id) b2);obtain⟨vo,k,rfl,m,n⟩:=b0;obtain⟨F,o,p⟩:=b1;obtain rfl:u1=F:=by simpa using o
 obtain⟨G,q,r⟩:=b2;obtain rfl:u2=G:=by simpa using q
 obtain⟨s,_⟩:=b3;obtain rfl:E = .I x:=by simpa using s
 exact Hx.cP.calls Hx.zdY (args:=[.agg [vo,k,.I e0.2.2],u1,u2,.I x]) (gS:=#[d,f,g,i]) body r3 (.cons _ _ _ _ a0 (.cons _ _ _ _ a1 (.cons _ _ _ _ a2 (.cons _ _ _ _ a3 .nil)))) (Hx.Ty (cs:=[]) (.nil λ_ h=>h) m n p r (Nat.lt_of_le_of_lt C.1 Hx.XR) λ_=>rfl)
set_option maxRecDepth 100000 in
theorem ZF (H:Type)(enc:TypeId×Value->H)(W:World)(base:Nat)(args:Array Value)(ds gs:List (DataW H))(c:List MemPlace)
  (a:∀(j:Nat) t v,Tryz.f3.params[j]? =some t->args[j]? =some v->Value.okWide Tryz.prog W .any base t v)
  (x:DataW.Whole enc Tryz.prog Tryz.f3.params.toList Rows.foldDoesSpec.vars false W args.toList ds gs c) :
  Calls Tryz.prog 3 args W λe W'=>∃v,e = .returned v/\Rows.foldDoesSpec.post enc Tryz.prog Tryz.f3 false true false false W args v W':=by
 have h:=x;obtain⟨p,q,b,B,rfl,C,D⟩:=x;have y:DataW.TrodAll enc Tryz.prog W 0 (λ_=>true) true Tryz.f3.params.toList args.toList ds p:=b;have i:=b.lt;rw[Tryz.params3]at y a;obtain⟨k,E,d0,F,p0,q0,l,rfl,rfl,h0,b⟩:=trodAll_cons y;obtain⟨m,G,d1,I,p1,V,d,rfl,rfl,J,r⟩:=trodAll_cons b;obtain⟨n,K,d2,L,p2,X,f,rfl,rfl,M,s⟩:=trodAll_cons r;obtain⟨o,N,d3,O,p3,Y,g,rfl,rfl,P,u⟩:=trodAll_cons s;obtain⟨rfl,rfl,rfl⟩:=trodAll_nil u;subst d;subst f;subst g;obtain rfl:args = #[k,m,n,o]:=by cases args;simp_all
 obtain⟨rfl,rfl⟩:=trodVars_none B;have k0:Value.okWide Tryz.prog W .any base 24 k:=@a 0 24 k (by simp) (by simp);have Q:Value.okWide Tryz.prog W .any base 25 m:=@a 1 25 m (by simp) (by simp);have R:Value.okWide Tryz.prog W .any base 25 n:=@a 2 25 n (by simp) (by simp);have S:Value.okWide Tryz.prog W .any base 3 o:=@a 3 3 o (by simp) (by simp);simp only[JY]at h b i;have z:=zer (enc:=enc) (base:=base) (d0:=d0) (p0:=p0) (d1:=d1) (p1:=p1) (d2:=d2) (p2:=p2) (d3:=d3) (p3:=p3) W (by unfold Hx.P0;exact k0) (by unfold Hx.P0;exact Q) (by unfold Hx.P0;exact R) (by unfold Hx.P0;exact S) (by unfold Hx.P0;exact h0) (by unfold Hx.P0;exact J) (by unfold Hx.P0;exact M) (by unfold Hx.P0;exact P);unfold Hx.P0 at z;refine z.mono λe W' ⟨T,hk⟩=>?_;subst T;refine⟨_,rfl,?_⟩;refine Hx.X4 (pa:=p0++(p1++(p2++p3))) (pv:=[]) h ?_ ?_ ?_ ?_ hk ?_
 ·exact λ_ _ _=>trodAll_cons_mk (shut_bool Tryz.underlying4 _) trodAll_mk0
 ·intro sp w;have U:DataW.TrodAll enc Hx.P0 W 0 (λ_=>true) true Tryz.f3.params.toList [k,m,n,o] [d0,d1,d2,d3] (p0++(p1++(p2++p3))):=by
   unfold Hx.P0;exact b
  have A:=Hx.Kb (W':=W') laidOut hk (by kernel_rfl) U i sp w;unfold Hx.P0 at A;exact A
 ·exact λ_ _=>rfl
 ·rw[JY]
 ·exact ok_one (t:=4) (by kernel_rfl) rfl (okWide_bool_mk Tryz.underlying4 true)
