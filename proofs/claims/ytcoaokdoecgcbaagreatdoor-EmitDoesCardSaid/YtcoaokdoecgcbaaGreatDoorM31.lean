/- Parts. -/
import Derived.Test.YtcoaokdoecgcbaaGreatDoorM32
import Derived.Test.YtcoaokdoecgcbaaGreatDoorCards
import Derived.Test.YtcoaokdoecgcbaaGreatDoorTie
import Derived.WalkKit
import Derived.ProofKit
import Derived.OpenShut
import Derived.ChangeMaps5
import Derived.Deep.DeepHandedRow
import Derived.Lib.LaidTab
import Derived.Test.YtcoaokdoecgcbaaGreatDoorM53
set_option maxHeartbeats 4000000
namespace Go.Proofs.YtcoaokdoecgcbaaGreatDoor.Hx
open Go.Proofs.YtcoaokdoecgcbaaGreatDoor Un
theorem zcY:vD fN (eI .i64) (λ_=>True) true:=vD.int (by unfold P0;exact Tryz.underlying3) (by unfold P0;kernel_rfl)
theorem zfg:vD lF (eL (eI .i64)) (λxs=>xs.length<=maxLen/\∀x∈xs,True) false:=vD.slice (by unfold P0;exact Tryz.underlying22) (by unfold P0;kernel_rfl) zcY (by decide)
def TD:tq (List Int×List Int×Int) where
 sz:=3
 rel F h x cs:=∃c vs,cs=[c,vs,.I x.2.2]/\hD (eI .i64) F h x.1 c/\hD (eI .i64) F h x.2.1 vs
 len:=λ⟨_,_,h,_⟩=>by subst h;rfl
 one:=λ⟨_,_,h,a,b⟩=>by subst h;simp only[fe,a.one,b.one];rfl
 fy:=λd ⟨v,w,h,a,b⟩=>⟨v,w,h,a.fy d,b.fy d⟩
 mono:=λe ⟨v,w,h,a,b⟩=>⟨v,w,h,a.mono e,b.mono e⟩
theorem zh9:vD VY TD (λx=>x.1.length<=maxLen/\x.2.1.length<=maxLen) false:=
 vD.map (vD.struct (fl:=false&&(false&&(true&&true))) (by unfold P0;exact Tryz.underlying24) (by unfold P0;kernel_rfl) (KI.cons zfg rfl (KI.cons zfg rfl (KI.cons zcY rfl (KI.nil _)))))
  (λ(x:List Int×List Int×Int×Unit)=>(x.1,x.2.1,x.2.2.1)) rfl (by
  rintro b h ⟨k,f,n,u⟩ cs ⟨p1,g,rfl,⟨a,rfl,c⟩,p2,i,rfl,⟨d,rfl,e⟩,p3,j,rfl,⟨rfl,_⟩,rfl⟩ ok;exact⟨⟨a,d,rfl,c,e⟩,ok.1.1,ok.2.1.1⟩)
theorem zg5:∃fs,P0.underlying VY=some (.struct fs):=⟨_,by unfold P0;exact Tryz.underlying24⟩
theorem zcs{W:World}{base:Nat}{v:Value}(k:Value.okWide P0 W .any base 3 v):v.cells = #[v]:=by
 obtain⟨n,rfl⟩:=Go.WideShapes.okWide_int (by unfold P0;exact Tryz.underlying3) k;rfl
theorem zaG:maxLen<9223372036854775808:=by decide
end Go.Proofs.YtcoaokdoecgcbaaGreatDoor.Hx
namespace Go.Proofs.YtcoaokdoecgcbaaGreatDoor.Laws
open Go.ChangeShapes Go.WideShapes Go.ChangeAt Go.RowKit
theorem own:ownKnob Tryz.prog.godebug=none:=by kernel_rfl
abbrev laid:List (String×DataW Unit):=[("unicode/utf8.first",Rows.laid_unicode_utf8_first),("unicode/utf8.acceptRanges",Rows.laid_unicode_utf8_acceptRanges)]
def flat:Nat->DataW Unit->List Value
 |0,_=>[]
 |_+1,.lit (.int k v)=>[.int k v]
 |n+1,.agg l=>l.flatMap (flat n)
 |_+1,_=>[]
def lay(cs:List Value):Obj->Obj
 | .cells _ t a=> .cells cs.toArray t a
 |o=>o
noncomputable def NZ(os:Os):World:={World.holding Tryz.prog os ⟨#[],#[],[]⟩ with heap:=((World.holding Tryz.prog os ⟨#[],#[],[]⟩).heap.modify 2 (lay (flat 8 Rows.laid_unicode_utf8_acceptRanges))).modify 1 (lay (flat 8 Rows.laid_unicode_utf8_first))}
theorem laidOut:laidOutB Hx.P0=true:=by kernel_rfl
end Go.Proofs.YtcoaokdoecgcbaaGreatDoor.Laws
namespace Go.Proofs.YtcoaokdoecgcbaaGreatDoor.Hx
open Go.Proofs.YtcoaokdoecgcbaaGreatDoor Un
abbrev eWs:tq (List Int):=eL (eI .u64)
theorem zhE:vD 63 (eI .u64) (λ_=>True) true:=vD.int (by unfold P0;exact Tryz.underlying63) (by unfold P0;kernel_rfl)
theorem lWs:vD 54 (eL (eI .u64)) (λxs=>xs.length<=maxLen/\∀x∈xs,True) false:=vD.slice (by unfold P0;exact Tryz.underlying54) (by unfold P0;kernel_rfl) zhE (by decide)
theorem Ys{W:World}{base:Nat}{v:Value}(k:Value.okWide P0 W .any base 54 v):v.cells = #[v]:=by
 obtain⟨a,n,c,rfl⟩:=Go.WideShapes.okWide_slice (by unfold P0;exact Tryz.underlying54) k;rfl
open Go.Proofs.YtcoaokdoecgcbaaGreatDoor Un
abbrev eI6:tq Int:=eI .i64
theorem zfD:vD 4 eB (λ_=>True) true:=vD.bool (by unfold P0;exact Tryz.underlying4) (by unfold P0;kernel_rfl)
theorem WU{W:World}{base:Nat}{v:Value}(k:Value.okWide P0 W .any base 4 v):v.cells = #[v]:=by
 obtain⟨b,rfl⟩:=Go.WideShapes.okWide_bool (by unfold P0;exact Tryz.underlying4) k;rfl
end Go.Proofs.YtcoaokdoecgcbaaGreatDoor.Hx
namespace Go.Proofs.YtcoaokdoecgcbaaGreatDoor.emitDoes
open Go.ChangeShapes Go.ChangeMaps Go.WideShapes Go.ChangeAt Go.RowKit Laws
theorem body:∃fn c,Hx.P0.funcs[4]? =some fn/\fn.body=some c:=by
 unfold Hx.P0;exact⟨Tryz.f4,_,Tryz.func4,rfl⟩
theorem zgy(W:World){H:Type}{enc:TypeId×Value->H}{base:Nat}{k m n o p:Value}{d0 d1 d2 d3 d4:DataW H}{p0 p1 p2 p3 p4:List MemPlace}(k0:Value.okWide Hx.P0 W .any base 24 k)(E:Value.okWide Hx.P0 W .any base 54 m)(F:Value.okWide Hx.P0 W .any base 54 n)(G:Value.okWide Hx.P0 W .any base 3 o)(I:Value.okWide Hx.P0 W .any base 4 p)(h0:DataW.Trod enc Hx.P0 W 0 (λ_=>true) true 24 k d0 p0)(O:DataW.Trod enc Hx.P0 W 0 (λ_=>true) true 54 m d1 p1)(P:DataW.Trod enc Hx.P0 W 0 (λ_=>true) true 54 n d2 p2)(Q:DataW.Trod enc Hx.P0 W 0 (λ_=>true) true 3 o d3 p3)(R:DataW.Trod enc Hx.P0 W 0 (λ_=>true) true 4 p d4 p4) :
  Calls Hx.P0 4 #[k,m,n,o,p] W λe W'=>e = .returned (.bool true)/\Hx.Kept W W':=by
 obtain⟨S,g⟩:=Hx.zg5;obtain⟨e0,u0,D0,g0,a,b0,T,r0,l0,w0⟩:=Hx.zh9.zhQ g k0 h0 (Hx.Rd.start 3 (Oz Hx.Zy) W (Hx.zhq W));obtain⟨e1,J,D1,g1,c,d,c1,r1,U,w1⟩:=Hx.lWs.zem (Hx.Ys E) E O r0;obtain⟨e2,K,D2,g2,i,j,c2,r2,L,w2⟩:=Hx.lWs.zem (Hx.Ys F) F P r1;obtain⟨M,X,D3,g3,r,s,c3,Y,t,f⟩:=Hx.zcY.zem (Hx.zcs G) G Q r2;obtain⟨u,N,D4,g4,Z,b4,c4,r4,q,b⟩:=Hx.zfD.zem (Hx.WU I) I R Y;have a:=Hx.fV.mono U a;have b0:=Hx.TD.mono (λ_ h=>Hx.vB w1.next _ h) (Hx.TD.fy (λl hl=>w1.fy l hl id) b0);have a:=Hx.fV.mono L a;have b0:=Hx.TD.mono (λ_ h=>Hx.vB w2.next _ h) (Hx.TD.fy (λl hl=>w2.fy l hl id) b0);have a:=Hx.fV.mono t a;have b0:=Hx.TD.mono (λ_ h=>Hx.vB f.next _ h) (Hx.TD.fy (λl hl=>f.fy l hl id) b0);have a:=Hx.fV.mono q a;have b0:=Hx.TD.mono (λ_ h=>Hx.vB b.next _ h) (Hx.TD.fy (λl hl=>b.fy l hl id) b0);have c:=Hx.fV.mono L c;have d:=Hx.eWs.mono (λ_ h=>Hx.vB w2.next _ h) (Hx.eWs.fy (λl hl=>w2.fy l hl id) d);have c:=Hx.fV.mono t c;have d:=Hx.eWs.mono (λ_ h=>Hx.vB f.next _ h) (Hx.eWs.fy (λl hl=>f.fy l hl id) d);have c:=Hx.fV.mono q c;have d:=Hx.eWs.mono (λ_ h=>Hx.vB b.next _ h) (Hx.eWs.fy (λl hl=>b.fy l hl id) d);have i:=Hx.fV.mono t i;have j:=Hx.eWs.mono (λ_ h=>Hx.vB f.next _ h) (Hx.eWs.fy (λl hl=>f.fy l hl id) j);have i:=Hx.fV.mono q i;have j:=Hx.eWs.mono (λ_ h=>Hx.vB b.next _ h) (Hx.eWs.fy (λl hl=>b.fy l hl id) j);have r:=Hx.fV.mono q r;have s:=Hx.eI6.mono (λ_ h=>Hx.vB b.next _ h) (Hx.eI6.fy (λl hl=>b.fy l hl id) s);obtain⟨vo,v,rfl,w,x⟩:=b0;obtain⟨x1,y,z⟩:=d;obtain rfl:J=x1:=by simpa using y
 obtain⟨x2,A,B⟩:=j;obtain rfl:K=x2:=by simpa using A
 obtain⟨C,_⟩:=s;obtain rfl:X = .I M:=by simpa using C
 have D:[N]=[Hx.V.bool u]:=b4;obtain rfl:N = .bool u:=by simpa using D
 exact Hx.cP.calls Hx.zfx (args:=[.agg [vo,v,.I e0.2.2],J,K,.I M,.bool u]) (gW:=#[k,m,n,o,p]) body r4 (.cons _ _ _ _ a (.cons _ _ _ _ c (.cons _ _ _ _ i (.cons _ _ _ _ r (.cons _ _ _ _ Z .nil))))) (Hx.Wy (cs:=[]) (.nil λ_ h=>h) w x z B (Nat.lt_of_le_of_lt T.1 Hx.zaG) λ_=>rfl)
set_option maxRecDepth 100000 in
theorem zcA (H:Type)(enc:TypeId×Value->H)(W:World)(base:Nat)(args:Array Value)(ds gs:List (DataW H))(c:List MemPlace)
  (a:∀(j:Nat) t v,Tryz.f4.params[j]? =some t->args[j]? =some v->Value.okWide Tryz.prog W .any base t v)
  (A:DataW.Whole enc Tryz.prog Tryz.f4.params.toList Rows.emitDoesSpec.vars false W args.toList ds gs c) :
  Calls Tryz.prog 4 args W λe W'=>∃v,e = .returned v/\Rows.emitDoesSpec.post enc Tryz.prog Tryz.f4 false true false false W args v W':=by
 have i:=A;obtain⟨p,q,b,F,rfl,G,I⟩:=A;have B:DataW.TrodAll enc Tryz.prog W 0 (λ_=>true) true Tryz.f4.params.toList args.toList ds p:=b;have k:=b.lt;rw[Tryz.params4]at B a;obtain⟨l,J,d0,K,p0,q0,m,rfl,rfl,h0,b⟩:=trodAll_cons B;obtain⟨n,L,d1,M,p1,q1,d,rfl,rfl,N,u⟩:=trodAll_cons b;obtain⟨o,O,d2,P,p2,q2,f,rfl,rfl,Q,w⟩:=trodAll_cons u;obtain⟨r,R,d3,S,p3,q3,g,rfl,rfl,T,x⟩:=trodAll_cons w;obtain⟨s,U,d4,V,p4,q4,h,rfl,rfl,X,y⟩:=trodAll_cons x;obtain⟨rfl,rfl,rfl⟩:=trodAll_nil y;subst d;subst f;subst g;subst h;obtain rfl:args = #[l,n,o,r,s]:=by cases args;simp_all
 obtain⟨rfl,rfl⟩:=trodVars_none F;have k0:Value.okWide Tryz.prog W .any base 24 l:=@a 0 24 l (by simp) (by simp);have Y:Value.okWide Tryz.prog W .any base 54 n:=@a 1 54 n (by simp) (by simp);have Z:Value.okWide Tryz.prog W .any base 54 o:=@a 2 54 o (by simp) (by simp);have k3:Value.okWide Tryz.prog W .any base 3 r:=@a 3 3 r (by simp) (by simp);have k4:Value.okWide Tryz.prog W .any base 4 s:=@a 4 4 s (by simp) (by simp);simp only[Ku]at i b k;have C:=zgy (enc:=enc) (base:=base) (d0:=d0) (p0:=p0) (d1:=d1) (p1:=p1) (d2:=d2) (p2:=p2) (d3:=d3) (p3:=p3) (d4:=d4) (p4:=p4) W (by unfold Hx.P0;exact k0) (by unfold Hx.P0;exact Y) (by unfold Hx.P0;exact Z) (by unfold Hx.P0;exact k3) (by unfold Hx.P0;exact k4) (by unfold Hx.P0;exact h0) (by unfold Hx.P0;exact N) (by unfold Hx.P0;exact Q) (by unfold Hx.P0;exact T) (by unfold Hx.P0;exact X);unfold Hx.P0 at C;refine C.mono λe W' ⟨he,D⟩=>?_;subst he;refine⟨_,rfl,?_⟩;refine Hx.zaE (pa:=p0++(p1++(p2++(p3++p4)))) (pv:=[]) i ?_ ?_ ?_ ?_ D ?_
 ·exact λ_ _ _=>trodAll_cons_mk (shut_bool Tryz.underlying4 _) trodAll_mk0
 ·intro sp z;have h8:DataW.TrodAll enc Hx.P0 W 0 (λ_=>true) true Tryz.f4.params.toList [l,n,o,r,s] [d0,d1,d2,d3,d4] (p0++(p1++(p2++(p3++p4)))):=by
   unfold Hx.P0;exact b
  have E:=Hx.MK (W':=W') laidOut D (by kernel_rfl) h8 k sp z;unfold Hx.P0 at E;exact E
 ·exact λ_ _=>rfl
 ·rw[Ku]
 ·exact ok_one (t:=4) (by kernel_rfl) rfl (okWide_bool_mk Tryz.underlying4 true)
