/- Parts. -/
import Derived.Test.YtkpicojjjifmgabGreatDoorM32
import Derived.Test.YtkpicojjjifmgabGreatDoorCards
import Derived.Test.YtkpicojjjifmgabGreatDoorTie
import Derived.WalkKit
import Derived.ProofKit
import Derived.OpenShut
import Derived.ChangeMaps5
import Derived.Deep.DeepHandedRow
import Derived.Lib.LaidTab
import Derived.Test.YtkpicojjjifmgabGreatDoorM44
set_option maxHeartbeats 4000000
namespace Go.Proofs.YtkpicojjjifmgabGreatDoor.Hx
open Go.Proofs.YtkpicojjjifmgabGreatDoor Un
theorem Zq:vz eR (eI .i64) (λ_=>True) true:=vz.int (by unfold P0;exact Tryz.underlying3) (by unfold P0;kernel_rfl)
theorem zbv:vz iZ (eL (eI .i64)) (λxs=>xs.length<=maxLen/\∀x∈xs,True) false:=vz.slice (by unfold P0;exact Tryz.underlying22) (by unfold P0;kernel_rfl) Zq (by decide)
def QS:qp (List Int×List Int×Int) where
 sz:=3
 rel F h x cs:=∃vo vs,cs=[vo,vs,.I x.2.2]/\im (eI .i64) F h x.1 vo/\im (eI .i64) F h x.2.1 vs
 len:=λ⟨_,_,h,_⟩=>by subst h;rfl
 one:=λ⟨_,_,h,a,b⟩=>by subst h;simp only[eJ,a.one,b.one];rfl
 fj:=λc ⟨v,w,h,a,b⟩=>⟨v,w,h,a.fj c,b.fj c⟩
 mono:=λhb ⟨v,w,h,a,b⟩=>⟨v,w,h,a.mono hb,b.mono hb⟩
theorem zfA:vz Sl QS (λx=>x.1.length<=maxLen/\x.2.1.length<=maxLen) false:=
 vz.map (vz.struct (fl:=false&&(false&&(true&&true))) (by unfold P0;exact Tryz.underlying24) (by unfold P0;kernel_rfl) (IW.cons zbv rfl (IW.cons zbv rfl (IW.cons Zq rfl (IW.nil _)))))
  (λ(x:List Int×List Int×Int×Unit)=>(x.1,x.2.1,x.2.2.1)) rfl (by
  rintro b h ⟨k,f,n,u⟩ cs ⟨p1,g,rfl,⟨a,rfl,c⟩,p2,i,rfl,⟨d,rfl,e⟩,p3,j,rfl,⟨rfl,_⟩,rfl⟩ ok;exact⟨⟨a,d,rfl,c,e⟩,ok.1.1,ok.2.1.1⟩)
theorem zeQ:∃fs,P0.underlying Sl=some (.struct fs):=⟨_,by unfold P0;exact Tryz.underlying24⟩
theorem Ye{W:World}{base:Nat}{v:Value}(k:Value.okWide P0 W .any base 3 v):v.cells = #[v]:=by
 obtain⟨n,rfl⟩:=Go.WideShapes.okWide_int (by unfold P0;exact Tryz.underlying3) k;rfl
theorem Xf:maxLen<9223372036854775808:=by decide
end Go.Proofs.YtkpicojjjifmgabGreatDoor.Hx
namespace Go.Proofs.YtkpicojjjifmgabGreatDoor.Laws
open Go.ChangeShapes Go.WideShapes Go.ChangeAt Go.RowKit
theorem own:ownKnob Tryz.prog.godebug=none:=by kernel_rfl
abbrev laid:List (String×DataW Unit):=[("unicode/utf8.first",Rows.laid_unicode_utf8_first),("unicode/utf8.acceptRanges",Rows.laid_unicode_utf8_acceptRanges)]
def flat:Nat->DataW Unit->List Value
 |0,_=>[]
 |_+1,.lit (.int k v)=>[.int k v]
 |n+1,.agg l=>l.flatMap (flat n)
 |_+1,_=>[]
def lay(cs:List Value):Obj->Obj
 | .cells _ t a=> .cells cs.toArray t a
 |o=>o
noncomputable def Lq(os:Os):World:={World.holding Tryz.prog os ⟨#[],#[],[]⟩ with heap:=((World.holding Tryz.prog os ⟨#[],#[],[]⟩).heap.modify 2 (lay (flat 8 Rows.laid_unicode_utf8_acceptRanges))).modify 1 (lay (flat 8 Rows.laid_unicode_utf8_first))}
theorem laidOut:laidOutB Hx.P0=true:=by kernel_rfl
end Go.Proofs.YtkpicojjjifmgabGreatDoor.Laws
namespace Go.Proofs.YtkpicojjjifmgabGreatDoor.Hx
open Go.Proofs.YtkpicojjjifmgabGreatDoor Un
abbrev ZR:qp (List Int):=eL (eI .u64)
theorem zfj:vz 89 (eI .u64) (λ_=>True) true:=vz.int (by unfold P0;exact Tryz.underlying89) (by unfold P0;kernel_rfl)
theorem lWs:vz 25 (eL (eI .u64)) (λxs=>xs.length<=maxLen/\∀x∈xs,True) false:=vz.slice (by unfold P0;exact Tryz.underlying25) (by unfold P0;kernel_rfl) zfj (by decide)
theorem VP{W:World}{base:Nat}{v:Value}(k:Value.okWide P0 W .any base 25 v):v.cells = #[v]:=by
 obtain⟨a,n,c,rfl⟩:=Go.WideShapes.okWide_slice (by unfold P0;exact Tryz.underlying25) k;rfl
open Go.Proofs.YtkpicojjjifmgabGreatDoor Un
abbrev eI6:qp Int:=eI .i64
theorem zdh:vz 4 eB (λ_=>True) true:=vz.bool (by unfold P0;exact Tryz.underlying4) (by unfold P0;kernel_rfl)
theorem TL{W:World}{base:Nat}{v:Value}(k:Value.okWide P0 W .any base 4 v):v.cells = #[v]:=by
 obtain⟨b,rfl⟩:=Go.WideShapes.okWide_bool (by unfold P0;exact Tryz.underlying4) k;rfl
end Go.Proofs.YtkpicojjjifmgabGreatDoor.Hx
namespace Go.Proofs.YtkpicojjjifmgabGreatDoor.numberDoes
open Go.ChangeShapes Go.ChangeMaps Go.WideShapes Go.ChangeAt Go.RowKit Laws
theorem body:∃fn c,Hx.P0.funcs[3]? =some fn/\fn.body=some c:=by
 unfold Hx.P0;exact⟨Tryz.f3,_,Tryz.func3,rfl⟩
theorem zd4(W:World){H:Type}{enc:TypeId×Value->H}{base:Nat}{f g i j k:Value}{d0 d1 d2 d3 d4:DataW H}{p0 p1 p2 p3 p4:List MemPlace}(k0:Value.okWide Hx.P0 W .any base 24 f)(x:Value.okWide Hx.P0 W .any base 25 g)(y:Value.okWide Hx.P0 W .any base 25 i)(z:Value.okWide Hx.P0 W .any base 3 j)(A:Value.okWide Hx.P0 W .any base 4 k)(h0:DataW.Trod enc Hx.P0 W 0 (λ_=>true) true 24 f d0 p0)(G:DataW.Trod enc Hx.P0 W 0 (λ_=>true) true 25 g d1 p1)(I:DataW.Trod enc Hx.P0 W 0 (λ_=>true) true 25 i d2 p2)(J:DataW.Trod enc Hx.P0 W 0 (λ_=>true) true 3 j d3 p3)(K:DataW.Trod enc Hx.P0 W 0 (λ_=>true) true 4 k d4 p4) :
  Calls Hx.P0 3 #[f,g,i,j,k] W λe W'=>e = .returned (.bool true)/\Hx.Kept W W':=by
 obtain⟨L,d⟩:=Hx.zeQ;obtain⟨e0,U,X,Y,a0,b0,M,N,Z,w0⟩:=Hx.zfA.zfc d k0 h0 (Hx.Rd.start 3 (KS Hx.Y6) W (Hx.zew W));obtain⟨e1,B,D1,g1,a1,b1,c1,r1,l1,C⟩:=Hx.lWs.zbd (Hx.VP x) x G N;obtain⟨e2,D,D2,g2,a2,b2,c2,r2,l2,m⟩:=Hx.lWs.zbd (Hx.VP y) y I r1;obtain⟨E,O,D3,g3,a3,b3,c3,r3,l3,c⟩:=Hx.Zq.zbd (Hx.Ye z) z J r2;obtain⟨n,F,D4,g4,P,Q,c4,R,l4,b⟩:=Hx.zdh.zbd (Hx.TL A) A K r3;have a0:=Hx.fR.mono l1 a0;have b0:=Hx.QS.mono (λ_ h=>Hx.uY C.next _ h) (Hx.QS.fj (λl a=>C.fj l a id) b0);have a0:=Hx.fR.mono l2 a0;have b0:=Hx.QS.mono (λ_ h=>Hx.uY m.next _ h) (Hx.QS.fj (λl a=>m.fj l a id) b0);have a0:=Hx.fR.mono l3 a0;have b0:=Hx.QS.mono (λ_ h=>Hx.uY c.next _ h) (Hx.QS.fj (λl a=>c.fj l a id) b0);have a0:=Hx.fR.mono l4 a0;have b0:=Hx.QS.mono (λ_ h=>Hx.uY b.next _ h) (Hx.QS.fj (λl a=>b.fj l a id) b0);have a1:=Hx.fR.mono l2 a1;have b1:=Hx.ZR.mono (λ_ h=>Hx.uY m.next _ h) (Hx.ZR.fj (λl a=>m.fj l a id) b1);have a1:=Hx.fR.mono l3 a1;have b1:=Hx.ZR.mono (λ_ h=>Hx.uY c.next _ h) (Hx.ZR.fj (λl a=>c.fj l a id) b1);have a1:=Hx.fR.mono l4 a1;have b1:=Hx.ZR.mono (λ_ h=>Hx.uY b.next _ h) (Hx.ZR.fj (λl a=>b.fj l a id) b1);have a2:=Hx.fR.mono l3 a2;have b2:=Hx.ZR.mono (λ_ h=>Hx.uY c.next _ h) (Hx.ZR.fj (λl a=>c.fj l a id) b2);have a2:=Hx.fR.mono l4 a2;have b2:=Hx.ZR.mono (λ_ h=>Hx.uY b.next _ h) (Hx.ZR.fj (λl a=>b.fj l a id) b2);have a3:=Hx.fR.mono l4 a3;have b3:=Hx.eI6.mono (λ_ h=>Hx.uY b.next _ h) (Hx.eI6.fj (λl a=>b.fj l a id) b3);obtain⟨vo,o,rfl,p,q⟩:=b0;obtain⟨S,r,s⟩:=b1;obtain rfl:B=S:=by simpa using r
 obtain⟨T,t,u⟩:=b2;obtain rfl:D=T:=by simpa using t
 obtain⟨v,_⟩:=b3;obtain rfl:O = .I E:=by simpa using v
 have w:[F]=[Hx.V.bool n]:=Q;obtain rfl:F = .bool n:=by simpa using w
 exact Hx.cP.calls Hx.zcB (args:=[.agg [vo,o,.I e0.2.2],B,D,.I E,.bool n]) (gW:=#[f,g,i,j,k]) body R (.cons _ _ _ _ a0 (.cons _ _ _ _ a1 (.cons _ _ _ _ a2 (.cons _ _ _ _ a3 (.cons _ _ _ _ P .nil))))) (Hx.OW (cs:=[]) (.nil λ_ h=>h) p q s u (Nat.lt_of_le_of_lt M.1 Hx.Xf) λ_=>rfl)
set_option maxRecDepth 100000 in
theorem Yi (H:Type)(enc:TypeId×Value->H)(W:World)(base:Nat)(args:Array Value)(ds gs:List (DataW H))(c:List MemPlace)
  (a:∀(j:Nat) t v,Tryz.f3.params[j]? =some t->args[j]? =some v->Value.okWide Tryz.prog W .any base t v)
  (A:DataW.Whole enc Tryz.prog Tryz.f3.params.toList Rows.numberDoesSpec.vars false W args.toList ds gs c) :
  Calls Tryz.prog 3 args W λe W'=>∃v,e = .returned v/\Rows.numberDoesSpec.post enc Tryz.prog Tryz.f3 false true false false W args v W':=by
 have i:=A;obtain⟨p,q,b,F,rfl,G,I⟩:=A;have B:DataW.TrodAll enc Tryz.prog W 0 (λ_=>true) true Tryz.f3.params.toList args.toList ds p:=b;have k:=b.lt;rw[Tryz.params3]at B a;obtain⟨l,J,d0,K,p0,q0,m,rfl,rfl,h0,b⟩:=trodAll_cons B;obtain⟨n,L,d1,M,p1,q1,d,rfl,rfl,N,u⟩:=trodAll_cons b;obtain⟨o,O,d2,P,p2,q2,f,rfl,rfl,Q,w⟩:=trodAll_cons u;obtain⟨r,R,d3,S,p3,q3,g,rfl,rfl,T,x⟩:=trodAll_cons w;obtain⟨s,U,d4,V,p4,q4,h,rfl,rfl,X,y⟩:=trodAll_cons x;obtain⟨rfl,rfl,rfl⟩:=trodAll_nil y;subst d;subst f;subst g;subst h;obtain rfl:args = #[l,n,o,r,s]:=by cases args;simp_all
 obtain⟨rfl,rfl⟩:=trodVars_none F;have k0:Value.okWide Tryz.prog W .any base 24 l:=@a 0 24 l (by simp) (by simp);have Y:Value.okWide Tryz.prog W .any base 25 n:=@a 1 25 n (by simp) (by simp);have Z:Value.okWide Tryz.prog W .any base 25 o:=@a 2 25 o (by simp) (by simp);have k3:Value.okWide Tryz.prog W .any base 3 r:=@a 3 3 r (by simp) (by simp);have k4:Value.okWide Tryz.prog W .any base 4 s:=@a 4 4 s (by simp) (by simp);simp only[JL]at i b k;have C:=zd4 (enc:=enc) (base:=base) (d0:=d0) (p0:=p0) (d1:=d1) (p1:=p1) (d2:=d2) (p2:=p2) (d3:=d3) (p3:=p3) (d4:=d4) (p4:=p4) W (by unfold Hx.P0;exact k0) (by unfold Hx.P0;exact Y) (by unfold Hx.P0;exact Z) (by unfold Hx.P0;exact k3) (by unfold Hx.P0;exact k4) (by unfold Hx.P0;exact h0) (by unfold Hx.P0;exact N) (by unfold Hx.P0;exact Q) (by unfold Hx.P0;exact T) (by unfold Hx.P0;exact X);unfold Hx.P0 at C;refine C.mono λe W' ⟨he,D⟩=>?_;subst he;refine⟨_,rfl,?_⟩;refine Hx.WJ (pa:=p0++(p1++(p2++(p3++p4)))) (pv:=[]) i ?_ ?_ ?_ ?_ D ?_
 ·exact λ_ _ _=>trodAll_cons_mk (shut_bool Tryz.underlying4 _) trodAll_mk0
 ·intro sp z;have h8:DataW.TrodAll enc Hx.P0 W 0 (λ_=>true) true Tryz.f3.params.toList [l,n,o,r,s] [d0,d1,d2,d3,d4] (p0++(p1++(p2++(p3++p4)))):=by
   unfold Hx.P0;exact b
  have E:=Hx.Kw (W':=W') laidOut D (by kernel_rfl) h8 k sp z;unfold Hx.P0 at E;exact E
 ·exact λ_ _=>rfl
 ·rw[JL]
 ·exact ok_one (t:=4) (by kernel_rfl) rfl (okWide_bool_mk Tryz.underlying4 true)
