/- Parts. -/
import Derived.Test.YtnehpeeglbgfpaaDoorM32
import Derived.Test.YtnehpeeglbgfpaaDoorCards
import Derived.Test.YtnehpeeglbgfpaaDoorTie
import Derived.WalkKit
import Derived.ProofKit
import Derived.OpenShut
import Derived.ChangeMaps5
import Derived.Deep.DeepHandedRow
import Derived.Lib.LaidTab
import Derived.Test.YtnehpeeglbgfpaaDoorM43
set_option maxHeartbeats 4000000
namespace Go.Proofs.YtnehpeeglbgfpaaDoor.Hx
open Go.Proofs.YtnehpeeglbgfpaaDoor Un
theorem RC:wY fy (eI .i64) (λ_=>True) true:=wY.int (by unfold P0;exact Tryd.underlying3) (by unfold P0;kernel_rfl)
theorem N7:wY ji (eL (eI .i64)) (λxs=>xs.length<=maxLen/\∀x∈xs,True) false:=wY.slice (by unfold P0;exact Tryd.underlying22) (by unfold P0;kernel_rfl) RC (by decide)
def Nx:sQ (List Int×List Int×Int) where
 sz:=3
 rel F h x cs:=∃c vs,cs=[c,vs,.I x.2.2]/\iL (eI .i64) F h x.1 c/\iL (eI .i64) F h x.2.1 vs
 len:=λ⟨_,_,h,_⟩=>by subst h;rfl
 one:=λ⟨_,_,h,a,b⟩=>by subst h;simp only[fc,a.one,b.one];rfl
 eD:=λd ⟨v,w,h,a,b⟩=>⟨v,w,h,a.eD d,b.eD d⟩
 mono:=λe ⟨v,w,h,a,b⟩=>⟨v,w,h,a.mono e,b.mono e⟩
theorem Za:wY Lq Nx (λx=>x.1.length<=maxLen/\x.2.1.length<=maxLen) false:=
 wY.map (wY.struct (fl:=false&&(false&&(true&&true))) (by unfold P0;exact Tryd.underlying24) (by unfold P0;kernel_rfl) (CC.cons N7 rfl (CC.cons N7 rfl (CC.cons RC rfl (CC.nil _)))))
  (λ(x:List Int×List Int×Int×Unit)=>(x.1,x.2.1,x.2.2.1)) rfl (by
  rintro b h ⟨k,f,n,u⟩ cs ⟨p1,g,rfl,⟨a,rfl,c⟩,p2,i,rfl,⟨d,rfl,e⟩,p3,j,rfl,⟨rfl,_⟩,rfl⟩ ok;exact⟨⟨a,d,rfl,c,e⟩,ok.1.1,ok.2.1.1⟩)
theorem XY:∃fs,P0.underlying Lq=some (.struct fs):=⟨_,by unfold P0;exact Tryd.underlying24⟩
theorem Q7{W:World}{base:Nat}{v:Value}(k:Value.okWide P0 W .any base 3 v):v.cells = #[v]:=by
 obtain⟨n,rfl⟩:=Go.WideShapes.okWide_int (by unfold P0;exact Tryd.underlying3) k;rfl
theorem J2{W:World}{base:Nat}{v:Value}(k:Value.okWide P0 W .any base 22 v):v.cells = #[v]:=by
 obtain⟨a,n,c,rfl⟩:=Go.WideShapes.okWide_slice (by unfold P0;exact Tryd.underlying22) k;rfl
theorem Ph:maxLen<9223372036854775808:=by decide
end Go.Proofs.YtnehpeeglbgfpaaDoor.Hx
namespace Go.Proofs.YtnehpeeglbgfpaaDoor.Laws
open Go.ChangeShapes Go.WideShapes Go.ChangeAt Go.RowKit
theorem own:ownKnob Tryd.prog.godebug=none:=by kernel_rfl
abbrev laid:List (String×DataW Unit):=[("unicode/utf8.first",Rows.laid_unicode_utf8_first),("unicode/utf8.acceptRanges",Rows.laid_unicode_utf8_acceptRanges)]
def flat:Nat->DataW Unit->List Value
 |0,_=>[]
 |_+1,.lit (.int k v)=>[.int k v]
 |n+1,.agg l=>l.flatMap (flat n)
 |_+1,_=>[]
def lay(cs:List Value):Obj->Obj
 | .cells _ t a=> .cells cs.toArray t a
 |o=>o
noncomputable def ET(os:Os):World:={World.holding Tryd.prog os ⟨#[],#[],[]⟩ with heap:=((World.holding Tryd.prog os ⟨#[],#[],[]⟩).heap.modify 2 (lay (flat 8 Rows.laid_unicode_utf8_acceptRanges))).modify 1 (lay (flat 8 Rows.laid_unicode_utf8_first))}
theorem laidOut:laidOutB Hx.P0=true:=by kernel_rfl
end Go.Proofs.YtnehpeeglbgfpaaDoor.Laws
namespace Go.Proofs.YtnehpeeglbgfpaaDoor.allocRight
open Go.ChangeShapes Go.ChangeMaps Go.WideShapes Go.ChangeAt Go.RowKit Laws
theorem body:∃fn c,Hx.P0.funcs[4]? =some fn/\fn.body=some c:=by
 unfold Hx.P0;exact⟨Tryd.f4,_,Tryd.func4,rfl⟩
theorem Yr(W:World){H:Type}{enc:TypeId×Value->H}{base:Nat}{i j k m:Value}{d0 d1 d2 d3:DataW H}{p0 p1 p2 p3:List MemPlace}(k0:Value.okWide Hx.P0 W .any base 24 i)(x:Value.okWide Hx.P0 W .any base 22 j)(y:Value.okWide Hx.P0 W .any base 3 k)(z:Value.okWide Hx.P0 W .any base 22 m)(h0:DataW.Trod enc Hx.P0 W 0 (λ_=>true) true 24 i d0 p0)(C:DataW.Trod enc Hx.P0 W 0 (λ_=>true) true 22 j d1 p1)(D:DataW.Trod enc Hx.P0 W 0 (λ_=>true) true 3 k d2 p2)(E:DataW.Trod enc Hx.P0 W 0 (λ_=>true) true 22 m d3 p3) :
  Calls Hx.P0 4 #[i,j,k,m] W λe W'=>e = .returned (.bool true)/\Hx.Kept W W':=by
 obtain⟨F,d⟩:=Hx.XY;obtain⟨e0,P,Q,R,b,b0,G,r0,S,w0⟩:=Hx.Za.Zf d k0 h0 (Hx.Rd.start 3 (FY Hx.Qv) W (Hx.WO W));obtain⟨e1,A,T,U,f,g,V,r1,I,w1⟩:=Hx.N7.V2 (Hx.J2 x) x C r0;obtain⟨e2,J,X,Y,n,o,c2,r2,l2,w2⟩:=Hx.RC.V2 (Hx.Q7 y) y D r1;obtain⟨Z,B,D3,g3,K,L,c3,r3,l3,c⟩:=Hx.N7.V2 (Hx.J2 z) z E r2;have b:=Hx.fq.mono I b;have b0:=Hx.Nx.mono (λ_ h=>Hx.xP w1.next _ h) (Hx.Nx.eD (λl a=>w1.eD l a id) b0);have b:=Hx.fq.mono l2 b;have b0:=Hx.Nx.mono (λ_ h=>Hx.xP w2.next _ h) (Hx.Nx.eD (λl a=>w2.eD l a id) b0);have b:=Hx.fq.mono l3 b;have b0:=Hx.Nx.mono (λ_ h=>Hx.xP c.next _ h) (Hx.Nx.eD (λl a=>c.eD l a id) b0);have f:=Hx.fq.mono l2 f;have g:=Hx.YO.mono (λ_ h=>Hx.xP w2.next _ h) (Hx.YO.eD (λl a=>w2.eD l a id) g);have f:=Hx.fq.mono l3 f;have g:=Hx.YO.mono (λ_ h=>Hx.xP c.next _ h) (Hx.YO.eD (λl a=>c.eD l a id) g);have n:=Hx.fq.mono l3 n;have o:=Hx.Z0.mono (λ_ h=>Hx.xP c.next _ h) (Hx.Z0.eD (λl a=>c.eD l a id) o);obtain⟨M,p,rfl,q,r⟩:=b0;obtain⟨N,s,t⟩:=g;obtain rfl:A=N:=by simpa using s
 obtain⟨u,_⟩:=o;obtain rfl:J = .I e2:=by simpa using u
 obtain⟨O,v,w⟩:=L;obtain rfl:B=O:=by simpa using v
 exact Hx.cP.calls Hx.Vf (args:=[.agg [M,p,.I e0.2.2],A,.I e2,B]) (fY:=#[i,j,k,m]) body r3 (.cons _ _ _ _ b (.cons _ _ _ _ f (.cons _ _ _ _ n (.cons _ _ _ _ K .nil)))) (Hx.IW (cs:=[]) (.nil λ_ h=>h) q r (Nat.lt_of_le_of_lt G.1 Hx.Ph) t w λ_=>rfl)
set_option maxRecDepth 100000 in
theorem Q0 (H:Type)(enc:TypeId×Value->H)(W:World)(base:Nat)(args:Array Value)(ds gs:List (DataW H))(c:List MemPlace)
  (a:∀(j:Nat) t v,Tryd.f4.params[j]? =some t->args[j]? =some v->Value.okWide Tryd.prog W .any base t v)
  (x:DataW.Whole enc Tryd.prog Tryd.f4.params.toList Rows.allocRightSpec.vars false W args.toList ds gs c) :
  Calls Tryd.prog 4 args W λe W'=>∃v,e = .returned v/\Rows.allocRightSpec.post enc Tryd.prog Tryd.f4 false true false false W args v W':=by
 have h:=x;obtain⟨p,q,b,C,rfl,D,E⟩:=x;have y:DataW.TrodAll enc Tryd.prog W 0 (λ_=>true) true Tryd.f4.params.toList args.toList ds p:=b;have i:=b.lt;rw[Tryd.params4]at y a;obtain⟨k,F,d0,G,p0,q0,l,rfl,rfl,h0,b⟩:=trodAll_cons y;obtain⟨m,I,d1,J,p1,X,d,rfl,rfl,K,r⟩:=trodAll_cons b;obtain⟨n,L,d2,M,p2,Y,f,rfl,rfl,N,s⟩:=trodAll_cons r;obtain⟨o,O,d3,P,p3,Z,g,rfl,rfl,Q,u⟩:=trodAll_cons s;obtain⟨rfl,rfl,rfl⟩:=trodAll_nil u;subst d;subst f;subst g;obtain rfl:args = #[k,m,n,o]:=by cases args;simp_all
 obtain⟨rfl,rfl⟩:=trodVars_none C;have k0:Value.okWide Tryd.prog W .any base 24 k:=@a 0 24 k (by simp) (by simp);have R:Value.okWide Tryd.prog W .any base 22 m:=@a 1 22 m (by simp) (by simp);have S:Value.okWide Tryd.prog W .any base 3 n:=@a 2 3 n (by simp) (by simp);have T:Value.okWide Tryd.prog W .any base 22 o:=@a 3 22 o (by simp) (by simp);simp only[IN]at h b i;have z:=Yr (enc:=enc) (base:=base) (d0:=d0) (p0:=p0) (d1:=d1) (p1:=p1) (d2:=d2) (p2:=p2) (d3:=d3) (p3:=p3) W (by unfold Hx.P0;exact k0) (by unfold Hx.P0;exact R) (by unfold Hx.P0;exact S) (by unfold Hx.P0;exact T) (by unfold Hx.P0;exact h0) (by unfold Hx.P0;exact K) (by unfold Hx.P0;exact N) (by unfold Hx.P0;exact Q);unfold Hx.P0 at z;refine z.mono λe W' ⟨U,A⟩=>?_;subst U;refine⟨_,rfl,?_⟩;refine Hx.Pl (pa:=p0++(p1++(p2++p3))) (pv:=[]) h ?_ ?_ ?_ ?_ A ?_
 ·exact λ_ _ _=>trodAll_cons_mk (shut_bool Tryd.underlying4 _) trodAll_mk0
 ·intro sp w;have V:DataW.TrodAll enc Hx.P0 W 0 (λ_=>true) true Tryd.f4.params.toList [k,m,n,o] [d0,d1,d2,d3] (p0++(p1++(p2++p3))):=by
   unfold Hx.P0;exact b
  have B:=Hx.ED (W':=W') laidOut A (by kernel_rfl) V i sp w;unfold Hx.P0 at B;exact B
 ·exact λ_ _=>rfl
 ·rw[IN]
 ·exact ok_one (t:=4) (by kernel_rfl) rfl (okWide_bool_mk Tryd.underlying4 true)
