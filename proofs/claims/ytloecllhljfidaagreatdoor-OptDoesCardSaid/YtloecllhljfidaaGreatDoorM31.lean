/- Parts. -/
import Derived.Test.YtloecllhljfidaaGreatDoorM32
import Derived.Test.YtloecllhljfidaaGreatDoorCards
import Derived.Test.YtloecllhljfidaaGreatDoorTie
import Derived.WalkKit
import Derived.ProofKit
import Derived.OpenShut
import Derived.ChangeMaps5
import Derived.Deep.DeepHandedRow
import Derived.Lib.LaidTab
import Derived.Test.YtloecllhljfidaaGreatDoorM44
set_option maxHeartbeats 4000000
namespace Go.Proofs.YtloecllhljfidaaGreatDoor.Hx
open Go.Proofs.YtloecllhljfidaaGreatDoor Un
theorem Xi:yK eR (eI .i64) (λ_=>True) true:=yK.int (by unfold P0;exact Tryz.underlying3) (by unfold P0;kernel_rfl)
theorem zc3:yK iU (eL (eI .i64)) (λxs=>xs.length<=maxLen/\∀x∈xs,True) false:=yK.slice (by unfold P0;exact Tryz.underlying22) (by unfold P0;kernel_rfl) Xi (by decide)
def Rt:qf (List Int×List Int×Int) where
 sz:=3
 rel F h x cs:=∃c vs,cs=[c,vs,.I x.2.2]/\il (eI .i64) F h x.1 c/\il (eI .i64) F h x.2.1 vs
 len:=λ⟨_,_,h,_⟩=>by subst h;rfl
 one:=λ⟨_,_,h,a,b⟩=>by subst h;simp only[eQ,a.one,b.one];rfl
 fk:=λhk ⟨v,w,h,a,b⟩=>⟨v,w,h,a.fk hk,b.fk hk⟩
 mono:=λhb ⟨v,w,h,a,b⟩=>⟨v,w,h,a.mono hb,b.mono hb⟩
theorem zgk:yK T9 Rt (λx=>x.1.length<=maxLen/\x.2.1.length<=maxLen) false:=
 yK.map (yK.struct (fl:=false&&(false&&(true&&true))) (by unfold P0;exact Tryz.underlying24) (by unfold P0;kernel_rfl) (Jb.cons zc3 rfl (Jb.cons zc3 rfl (Jb.cons Xi rfl (Jb.nil _)))))
  (λ(x:List Int×List Int×Int×Unit)=>(x.1,x.2.1,x.2.2.1)) rfl (by
  rintro b h ⟨k,f,n,u⟩ cs ⟨p1,g,rfl,⟨a,rfl,c⟩,p2,i,rfl,⟨d,rfl,e⟩,p3,j,rfl,⟨rfl,_⟩,rfl⟩ ok;exact⟨⟨a,d,rfl,c,e⟩,ok.1.1,ok.2.1.1⟩)
theorem zeP:∃fs,P0.underlying T9=some (.struct fs):=⟨_,by unfold P0;exact Tryz.underlying24⟩
theorem TJ{W:World}{base:Nat}{v:Value}(k:Value.okWide P0 W .any base 3 v):v.cells = #[v]:=by
 obtain⟨n,rfl⟩:=Go.WideShapes.okWide_int (by unfold P0;exact Tryz.underlying3) k;rfl
theorem Yq:maxLen<9223372036854775808:=by decide
end Go.Proofs.YtloecllhljfidaaGreatDoor.Hx
namespace Go.Proofs.YtloecllhljfidaaGreatDoor.Laws
open Go.ChangeShapes Go.WideShapes Go.ChangeAt Go.RowKit
theorem own:ownKnob Tryz.prog.godebug=none:=by kernel_rfl
abbrev laid:List (String×DataW Unit):=[("unicode/utf8.first",Rows.laid_unicode_utf8_first),("unicode/utf8.acceptRanges",Rows.laid_unicode_utf8_acceptRanges)]
def flat:Nat->DataW Unit->List Value
 |0,_=>[]
 |_+1,.lit (.int k v)=>[.int k v]
 |n+1,.agg l=>l.flatMap (flat n)
 |_+1,_=>[]
def lay(cs:List Value):Obj->Obj
 | .cells _ t a=> .cells cs.toArray t a
 |o=>o
noncomputable def Mo(os:Os):World:={World.holding Tryz.prog os ⟨#[],#[],[]⟩ with heap:=((World.holding Tryz.prog os ⟨#[],#[],[]⟩).heap.modify 2 (lay (flat 8 Rows.laid_unicode_utf8_acceptRanges))).modify 1 (lay (flat 8 Rows.laid_unicode_utf8_first))}
theorem laidOut:laidOutB Hx.P0=true:=by kernel_rfl
end Go.Proofs.YtloecllhljfidaaGreatDoor.Laws
namespace Go.Proofs.YtloecllhljfidaaGreatDoor.Hx
open Go.Proofs.YtloecllhljfidaaGreatDoor Un
abbrev eWs:qf (List Int):=eL (eI .u64)
theorem zgp:yK 79 (eI .u64) (λ_=>True) true:=yK.int (by unfold P0;exact Tryz.underlying79) (by unfold P0;kernel_rfl)
theorem lWs:yK 25 (eL (eI .u64)) (λxs=>xs.length<=maxLen/\∀x∈xs,True) false:=yK.slice (by unfold P0;exact Tryz.underlying25) (by unfold P0;kernel_rfl) zgp (by decide)
theorem WX{W:World}{base:Nat}{v:Value}(k:Value.okWide P0 W .any base 25 v):v.cells = #[v]:=by
 obtain⟨a,n,c,rfl⟩:=Go.WideShapes.okWide_slice (by unfold P0;exact Tryz.underlying25) k;rfl
open Go.Proofs.YtloecllhljfidaaGreatDoor Un
abbrev eI6:qf Int:=eI .i64
end Go.Proofs.YtloecllhljfidaaGreatDoor.Hx
namespace Go.Proofs.YtloecllhljfidaaGreatDoor.optDoes
open Go.ChangeShapes Go.ChangeMaps Go.WideShapes Go.ChangeAt Go.RowKit Laws
theorem body:∃fn c,Hx.P0.funcs[3]? =some fn/\fn.body=some c:=by
 unfold Hx.P0;exact⟨Tryz.f3,_,Tryz.func3,rfl⟩
theorem zfG(W:World){H:Type}{enc:TypeId×Value->H}{base:Nat}{f g i j k:Value}{d0 d1 d2 d3 d4:DataW H}{p0 p1 p2 p3 p4:List MemPlace}(k0:Value.okWide Hx.P0 W .any base 24 f)(w:Value.okWide Hx.P0 W .any base 3 g)(x:Value.okWide Hx.P0 W .any base 25 i)(y:Value.okWide Hx.P0 W .any base 25 j)(z:Value.okWide Hx.P0 W .any base 3 k)(h0:DataW.Trod enc Hx.P0 W 0 (λ_=>true) true 24 f d0 p0)(E:DataW.Trod enc Hx.P0 W 0 (λ_=>true) true 3 g d1 p1)(F:DataW.Trod enc Hx.P0 W 0 (λ_=>true) true 25 i d2 p2)(G:DataW.Trod enc Hx.P0 W 0 (λ_=>true) true 25 j d3 p3)(I:DataW.Trod enc Hx.P0 W 0 (λ_=>true) true 3 k d4 p4) :
  Calls Hx.P0 3 #[f,g,i,j,k] W λe W'=>e = .returned (.bool true)/\Hx.Kept W W':=by
 obtain⟨J,d⟩:=Hx.zeP;obtain⟨K,V,X,Y,a0,b0,L,r0,Z,w0⟩:=Hx.zgk.zgf d k0 h0 (Hx.Rd.start 3 (MY Hx.Z4) W (Hx.zfz W));obtain⟨A,u1,D1,g1,a1,b1,c1,M,l1,B⟩:=Hx.Xi.zbl (Hx.TJ w) w E r0;obtain⟨e2,u2,D2,g2,a2,b2,c2,N,l2,m⟩:=Hx.lWs.zbl (Hx.WX x) x F M;obtain⟨e3,C,D3,g3,a3,b3,c3,O,l3,c⟩:=Hx.lWs.zbl (Hx.WX y) y G N;obtain⟨D,P,D4,g4,a4,Q,c4,R,l4,b⟩:=Hx.Xi.zbl (Hx.TJ z) z I O;have a0:=Hx.fZ.mono l1 a0;have b0:=Hx.Rt.mono (λ_ h=>Hx.vK B.next _ h) (Hx.Rt.fk (λl a=>B.fk l a id) b0);have a0:=Hx.fZ.mono l2 a0;have b0:=Hx.Rt.mono (λ_ h=>Hx.vK m.next _ h) (Hx.Rt.fk (λl a=>m.fk l a id) b0);have a0:=Hx.fZ.mono l3 a0;have b0:=Hx.Rt.mono (λ_ h=>Hx.vK c.next _ h) (Hx.Rt.fk (λl a=>c.fk l a id) b0);have a0:=Hx.fZ.mono l4 a0;have b0:=Hx.Rt.mono (λ_ h=>Hx.vK b.next _ h) (Hx.Rt.fk (λl a=>b.fk l a id) b0);have a1:=Hx.fZ.mono l2 a1;have b1:=Hx.eI6.mono (λ_ h=>Hx.vK m.next _ h) (Hx.eI6.fk (λl a=>m.fk l a id) b1);have a1:=Hx.fZ.mono l3 a1;have b1:=Hx.eI6.mono (λ_ h=>Hx.vK c.next _ h) (Hx.eI6.fk (λl a=>c.fk l a id) b1);have a1:=Hx.fZ.mono l4 a1;have b1:=Hx.eI6.mono (λ_ h=>Hx.vK b.next _ h) (Hx.eI6.fk (λl a=>b.fk l a id) b1);have a2:=Hx.fZ.mono l3 a2;have b2:=Hx.eWs.mono (λ_ h=>Hx.vK c.next _ h) (Hx.eWs.fk (λl a=>c.fk l a id) b2);have a2:=Hx.fZ.mono l4 a2;have b2:=Hx.eWs.mono (λ_ h=>Hx.vK b.next _ h) (Hx.eWs.fk (λl a=>b.fk l a id) b2);have a3:=Hx.fZ.mono l4 a3;have b3:=Hx.eWs.mono (λ_ h=>Hx.vK b.next _ h) (Hx.eWs.fk (λl a=>b.fk l a id) b3);obtain⟨S,n,rfl,o,p⟩:=b0;obtain⟨q,_⟩:=b1;obtain rfl:u1 = .I A:=by simpa using q
 obtain⟨T,r,s⟩:=b2;obtain rfl:u2=T:=by simpa using r
 obtain⟨U,t,u⟩:=b3;obtain rfl:C=U:=by simpa using t
 obtain⟨v,_⟩:=Q;obtain rfl:P = .I D:=by simpa using v
 exact Hx.cP.calls Hx.zdH (args:=[.agg [S,n,.I K.2.2],.I A,u2,C,.I D]) (ie:=#[f,g,i,j,k]) body R (.cons _ _ _ _ a0 (.cons _ _ _ _ a1 (.cons _ _ _ _ a2 (.cons _ _ _ _ a3 (.cons _ _ _ _ a4 .nil))))) (Hx.Vj (cs:=[]) (.nil λ_ h=>h) o p s u (Nat.lt_of_le_of_lt L.1 Hx.Yq) λ_=>rfl)
set_option maxRecDepth 100000 in
theorem Z1 (H:Type)(enc:TypeId×Value->H)(W:World)(base:Nat)(args:Array Value)(ds gs:List (DataW H))(c:List MemPlace)
  (a:∀(j:Nat) t v,Tryz.f3.params[j]? =some t->args[j]? =some v->Value.okWide Tryz.prog W .any base t v)
  (A:DataW.Whole enc Tryz.prog Tryz.f3.params.toList Rows.optDoesSpec.vars false W args.toList ds gs c) :
  Calls Tryz.prog 3 args W λe W'=>∃v,e = .returned v/\Rows.optDoesSpec.post enc Tryz.prog Tryz.f3 false true false false W args v W':=by
 have i:=A;obtain⟨p,q,b,E,rfl,F,G⟩:=A;have B:DataW.TrodAll enc Tryz.prog W 0 (λ_=>true) true Tryz.f3.params.toList args.toList ds p:=b;have k:=b.lt;rw[Tryz.params3]at B a;obtain⟨l,I,d0,J,p0,q0,m,rfl,rfl,h0,b⟩:=trodAll_cons B;obtain⟨n,K,d1,L,p1,q1,d,rfl,rfl,M,u⟩:=trodAll_cons b;obtain⟨o,N,d2,O,p2,q2,f,rfl,rfl,P,w⟩:=trodAll_cons u;obtain⟨r,Q,d3,R,p3,q3,g,rfl,rfl,S,x⟩:=trodAll_cons w;obtain⟨s,T,d4,U,p4,q4,h,rfl,rfl,V,y⟩:=trodAll_cons x;obtain⟨rfl,rfl,rfl⟩:=trodAll_nil y;subst d;subst f;subst g;subst h;obtain rfl:args = #[l,n,o,r,s]:=by cases args;simp_all
 obtain⟨rfl,rfl⟩:=trodVars_none E;have k0:Value.okWide Tryz.prog W .any base 24 l:=@a 0 24 l (by simp) (by simp);have X:Value.okWide Tryz.prog W .any base 3 n:=@a 1 3 n (by simp) (by simp);have Y:Value.okWide Tryz.prog W .any base 25 o:=@a 2 25 o (by simp) (by simp);have Z:Value.okWide Tryz.prog W .any base 25 r:=@a 3 25 r (by simp) (by simp);have k4:Value.okWide Tryz.prog W .any base 3 s:=@a 4 3 s (by simp) (by simp);simp only[Lg]at i b k;have C:=zfG (enc:=enc) (base:=base) (d0:=d0) (p0:=p0) (d1:=d1) (p1:=p1) (d2:=d2) (p2:=p2) (d3:=d3) (p3:=p3) (d4:=d4) (p4:=p4) W (by unfold Hx.P0;exact k0) (by unfold Hx.P0;exact X) (by unfold Hx.P0;exact Y) (by unfold Hx.P0;exact Z) (by unfold Hx.P0;exact k4) (by unfold Hx.P0;exact h0) (by unfold Hx.P0;exact M) (by unfold Hx.P0;exact P) (by unfold Hx.P0;exact S) (by unfold Hx.P0;exact V);unfold Hx.P0 at C;refine C.mono λe W' ⟨he,hk⟩=>?_;subst he;refine⟨_,rfl,?_⟩;refine Hx.XS (pa:=p0++(p1++(p2++(p3++p4)))) (pv:=[]) i ?_ ?_ ?_ ?_ hk ?_
 ·exact λ_ _ _=>trodAll_cons_mk (shut_bool Tryz.underlying4 _) trodAll_mk0
 ·intro sp z;have h8:DataW.TrodAll enc Hx.P0 W 0 (λ_=>true) true Tryz.f3.params.toList [l,n,o,r,s] [d0,d1,d2,d3,d4] (p0++(p1++(p2++(p3++p4)))):=by
   unfold Hx.P0;exact b
  have D:=Hx.Lk (W':=W') laidOut hk (by kernel_rfl) h8 k sp z;unfold Hx.P0 at D;exact D
 ·exact λ_ _=>rfl
 ·rw[Lg]
 ·exact ok_one (t:=4) (by kernel_rfl) rfl (okWide_bool_mk Tryz.underlying4 true)
