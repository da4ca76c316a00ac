/- Parts of the proof. -/
import Derived.Test.YtiepamfpilhcjaaDoorM23
import Derived.Test.YtiepamfpilhcjaaDoorM19
import Derived.Test.YtiepamfpilhcjaaDoorM32
import Derived.Test.YtiepamfpilhcjaaDoorCards
import Derived.Test.YtiepamfpilhcjaaDoorTie
import Derived.WalkKit
import Derived.ProofKit
import Derived.OpenShut
import Derived.ChangeMaps5
import Derived.Deep.DeepHandedRow
import Derived.Lib.LaidTab
import Derived.Test.YtiepamfpilhcjaaDoorM30
namespace Go.Proofs.YtiepamfpilhcjaaDoor.Hx
open Go.Proofs.YtiepamfpilhcjaaDoor Go.Proofs.YtiepamfpilhcjaaDoor.Un
theorem lInt3:Lays tyInt (eI .i64) (fun _=>True) true:=Lays.int (by unfold P0;exact Tryd.underlying3) (by unfold P0;kernel_rfl)
theorem lInts:Lays tyInts (eL (eI .i64)) (fun xs=>xs.length≤maxLen∧∀x∈xs,True) false:=Lays.slice (by unfold P0;exact Tryd.underlying22) (by unfold P0;kernel_rfl) lInt3 (by decide)
def eRaw:Enc (List Int×List Int×Int) where
 sz:=3
 rel F h x cs:=∃vo vs,cs=[vo,vs, .int .i64 x.2.2]∧SlR (eI .i64) F h x.1 vo∧SlR (eI .i64) F h x.2.1 vs
 len:=fun ⟨_,_,h,_⟩=>by subst h;rfl
 one:=fun ⟨_,_,h,h1,h2⟩=>by subst h;simp only [allOne_cons,h1.one,h2.one];rfl
 keep:=fun hk ⟨v,w,h,h1,h2⟩=>⟨v,w,h,h1.keep hk,h2.keep hk⟩
 mono:=fun hb ⟨v,w,h,h1,h2⟩=>⟨v,w,h,h1.mono hb,h2.mono hb⟩
theorem lRaw:Lays tyRaw eRaw (fun x=>x.1.length≤maxLen∧x.2.1.length≤maxLen) false:=
 Lays.map (Lays.struct (fl:=false&&(false&&(true&&true))) (by unfold P0;exact Tryd.underlying24) (by unfold P0;kernel_rfl) (LaysF.cons lInts rfl (LaysF.cons lInts rfl (LaysF.cons lInt3 rfl (LaysF.nil _)))))
  (fun (x:List Int×List Int×Int×Unit)=>(x.1,x.2.1,x.2.2.1)) rfl (by
  rintro b h ⟨k,f,n,u⟩ cs ⟨p1,q1,rfl,⟨v1,rfl,h1⟩,p2,q2,rfl,⟨v2,rfl,h2⟩,p3,q3,rfl,⟨rfl,_⟩,rfl⟩ ok
  exact ⟨⟨v1,v2,rfl,h1,h2⟩,ok.1.1,ok.2.1.1⟩)
theorem fsRaw:∃fs,P0.underlying tyRaw=some (.struct fs):=⟨_,by unfold P0;exact Tryd.underlying24⟩
theorem cellsInt {W:World}{base:Nat}{v:Value}(k:Value.okWide P0 W .any base 3 v):v.cells = #[v]:=by
 obtain ⟨n,rfl⟩:=Go.WideShapes.okWide_int (by unfold P0;exact Tryd.underlying3) k
 rfl
theorem maxLen_lt:maxLen<9223372036854775808:=by decide
end Go.Proofs.YtiepamfpilhcjaaDoor.Hx
namespace Go.Proofs.YtiepamfpilhcjaaDoor.Laws
open Go.ChangeShapes Go.WideShapes Go.ChangeAt Go.RowKit
theorem own:ownKnob Tryd.prog.godebug=none:=by kernel_rfl
abbrev laid:List (String×DataW Unit):=[("unicode/utf8.first",Rows.laid_unicode_utf8_first),("unicode/utf8.acceptRanges",Rows.laid_unicode_utf8_acceptRanges)]
def flat:Nat→DataW Unit→List Value
 | 0,_=>[]
 | _+1, .lit (.int k v)=>[.int k v]
 | n+1, .agg l=>l.flatMap (flat n)
 | _+1,_=>[]
def lay (cs:List Value):Obj→Obj
 | .cells _ t frozen=> .cells cs.toArray t frozen
 | o=>o
noncomputable def laidWorld (os:Os):World:=
 { World.holding Tryd.prog os ⟨#[],#[],[]⟩ with heap:=((World.holding Tryd.prog os ⟨#[],#[],[]⟩).heap.modify 2 (lay (flat 8 Rows.laid_unicode_utf8_acceptRanges))).modify 1 (lay (flat 8 Rows.laid_unicode_utf8_first)) }
theorem laidOut:laidOutB Hx.P0=true:=by kernel_rfl
end Go.Proofs.YtiepamfpilhcjaaDoor.Laws
namespace Go.Proofs.YtiepamfpilhcjaaDoor.allocApart
open Go.ChangeShapes Go.ChangeMaps Go.WideShapes Go.ChangeAt Go.RowKit Go.Proofs.YtiepamfpilhcjaaDoor.Laws
theorem body:∃fn c,Hx.P0.funcs[5]? = some fn∧fn.body=some c:=by
 unfold Hx.P0
 exact ⟨Tryd.f5,_,Tryd.func5,rfl⟩
theorem walk0 (W:World){H:Type}{enc:TypeId×Value→H}{base:Nat}{v0 v1:Value}{d0 d1:DataW H}{p0 p1:List MemPlace}(k0:Value.okWide Hx.P0 W .any base 24 v0)(k1:Value.okWide Hx.P0 W .any base 3 v1)(h0:DataW.Trod enc Hx.P0 W 0 (fun _=>true) true 24 v0 d0 p0)(h1:DataW.Trod enc Hx.P0 W 0 (fun _=>true) true 3 v1 d1 p1) :
  Calls Hx.P0 5 #[v0,v1] W fun e W'=>e = .returned (.bool true)∧Hx.Kept W W':=by
 obtain ⟨fs0,hfs0⟩:=Hx.fsRaw
 obtain ⟨e0,u0,D0,g0,a0,b0,c0,r0,l0,w0⟩:=Hx.lRaw.argS hfs0 k0 h0 (Hx.Rd.start 3 (Nat.le_of_ble_eq_true Hx.globs) W (Hx.noTab W))
 obtain ⟨e1,u1,D1,g1,a1,b1,c1,r1,l1,w1⟩:=Hx.lInt3.arg1 (Hx.cellsInt k1) k1 h1 r0
 have a0:=Hx.VRel.mono l1 a0
 have b0:=Hx.eRaw.mono (fun _ h=>Hx.lo_mono w1.next _ h) (Hx.eRaw.keep (fun l hl=>w1.keep l hl id) b0)
 obtain ⟨vo,vsh,rfl,hvo,hvs⟩:=b0
 obtain ⟨hu1,_⟩:=b1
 obtain rfl:u1 = .int .i64 e1:=by simpa using hu1
 exact Hx.cP.calls Hx.factsS (args:=[.agg [vo,vsh, .int .i64 e0.2.2], .int .i64 e1]) (args':=#[v0,v1]) body r1 (.cons _ _ _ _ a0 (.cons _ _ _ _ a1 .nil)) (Hx.ct_AllocApart (cs:=[]) (.nil fun _ h=>h) hvo hvs (Nat.lt_of_le_of_lt c0.1 Hx.maxLen_lt) fun _=>rfl)
set_option maxRecDepth 100000 in
theorem contract (H:Type)(enc:TypeId×Value→H)(W:World)(base:Nat)(args:Array Value)(ds gs:List (DataW H))(before:List MemPlace)
  (hval:∀(j:Nat) t v,Tryd.f5.params[j]? = some t→args[j]? = some v→Value.okWide Tryd.prog W .any base t v)
  (hW:DataW.Whole enc Tryd.prog Tryd.f5.params.toList Rows.allocApartSpec.vars false W args.toList ds gs before) :
  Calls Tryd.prog 5 args W fun e W'=>∃v,e = .returned v∧Rows.allocApartSpec.post enc Tryd.prog Tryd.f5 false true false false W args v W':=by
 have hW':=hW
 obtain ⟨p,q,hA0,hV,rfl,hfz,hnd⟩:=hW
 have hA:DataW.TrodAll enc Tryd.prog W 0 (fun _=>true) true Tryd.f5.params.toList args.toList ds p:=hA0
 have hlt:=hA0.lt
 rw [Tryd.params5] at hA hval
 obtain ⟨v0,vs0,d0,ds0,p0,q0,hargs0,rfl,rfl,h0,hA0⟩:=trodAll_cons hA
 obtain ⟨v1,vs1,d1,ds1,p1,q1,hargs1,rfl,rfl,h1,hA1⟩:=trodAll_cons hA0
 obtain ⟨rfl,rfl,rfl⟩:=trodAll_nil hA1
 subst hargs1
 obtain rfl:args = #[v0,v1]:=by cases args;simp_all
 obtain ⟨rfl,rfl⟩:=trodVars_none hV
 have k0:Value.okWide Tryd.prog W .any base 24 v0:=@hval 0 24 v0 (by simp) (by simp)
 have k1:Value.okWide Tryd.prog W .any base 3 v1:=@hval 1 3 v1 (by simp) (by simp)
 simp only [List.append_nil] at hW' hA0 hlt
 have hw:=walk0 (enc:=enc) (base:=base) (d0:=d0) (p0:=p0) (d1:=d1) (p1:=p1) W (by unfold Hx.P0;exact k0) (by unfold Hx.P0;exact k1) (by unfold Hx.P0;exact h0) (by unfold Hx.P0;exact h1)
 unfold Hx.P0 at hw
 refine hw.mono fun e W' ⟨he,hk⟩=>?_
 subst he
 refine ⟨_,rfl,?_⟩
 refine Hx.post_kept (pa:=p0++p1) (pv:=[]) hW' ?_ ?_ ?_ ?_ hk ?_
 ·exact fun _ _ _=>trodAll_cons_mk (shut_bool Tryd.underlying4 _) trodAll_mk0
 ·intro sp hsp
  have h8:DataW.TrodAll enc Hx.P0 W 0 (fun _=>true) true Tryd.f5.params.toList [v0,v1] [d0,d1] (p0++p1):=by
   unfold Hx.P0
   exact hA0
  have h9:=Hx.trodAll_stay (W':=W') laidOut hk (by kernel_rfl) h8 hlt sp hsp
  unfold Hx.P0 at h9
  exact h9
 ·exact fun _ _=>rfl
 ·rw [List.append_nil]
 ·exact ok_one (t:=4) (by kernel_rfl) rfl (okWide_bool_mk Tryd.underlying4 true)
end Go.Proofs.YtiepamfpilhcjaaDoor.allocApart
