/- Parts of the proof. -/
import Derived.Test.YtiepamfpilhcjaaDoorM09
import Derived.Test.YtiepamfpilhcjaaDoorM06
import Derived.ChangeArms
import Derived.Carry
namespace Go.Proofs.YtiepamfpilhcjaaDoor.Hx
def AllRo (Δ:Env):Prop:=∀l d,Δ l=some d→d.ro=true
def SlOk (w:World) (cs:List Value):Prop:=∀a len cap,Value.slice (some a) len cap∈cs→a.spot=none∧∃c e fr,w.heap[a.block]? = some (.cells c e fr)
theorem SlOk.sub {w:World} {cs ds:List Value} (h:SlOk w cs) (hs:∀x∈ds,x∈cs):SlOk w ds:=fun a len cap hm=>h a len cap (hs _ hm)
structure Rd (Δ:Env) (h:Hp) (w:World):Prop where
 world:WR Δ h w
 ro:AllRo Δ
def addE (Δ:Env) (l:Nat) (d:D):Env:=fun m=>if m=l then some d else Δ m
theorem Rd.add {Δ:Env} {h:Hp} {w:World} (hR:Rd Δ h w) {b base sz ty:Nat} {c:Array Value} {e:TypeId} {fr:Nat×Nat} {cs:List V} (hb:w.heap[b]? = some (.cells c e fr)) (hs:base+cs.length≤c.size)
  (hc:∀(i:Nat) (v:V),cs[i]? = some v→∃x,c[base+i]? = some x∧VRel Δ v x) :
  Rd (addE Δ h.next ⟨b,base,sz,cs.length,c.size,true,0⟩) (h.new (.cells ty sz true true cs)) w∧Δ.le (addE Δ h.next ⟨b,base,sz,cs.length,c.size,true,0⟩):=by
 have hle:Δ.le (addE Δ h.next ⟨b,base,sz,cs.length,c.size,true,0⟩):=by
  intro l d hl
  unfold addE
  rw [if_neg (by have:=hR.world.fresh l d hl;omega)]
  exact hl
 have hro:AllRo (addE Δ h.next ⟨b,base,sz,cs.length,c.size,true,0⟩):=by
  intro l d hl
  unfold addE at hl
  split at hl
  ·cases hl;rfl
  ·exact hR.ro l d hl
 refine ⟨⟨⟨?_,?_,?_,?_,?_,?_,hR.world.tab.step (fun _ _ _=>rfl) fun l d hl h1=>(by rw [hro l d hl] at h1;cases h1)⟩,hro⟩,hle⟩
 ·intro l d hl
  unfold addE at hl
  split at hl
  ·rename_i e;subst e;exact Nat.lt_succ_self _
  ·exact Nat.lt_succ_of_lt (hR.world.fresh l d hl)
 ·intro l d hl
  unfold addE at hl
  split at hl
  ·cases hl;exact (Array.getElem?_eq_some_iff.1 hb).1
  ·exact hR.world.blk l d hl
 ·intro l d hl
  unfold addE at hl
  split at hl
  ·rename_i e1
   subst e1;cases hl
   exact ⟨_,get_new_self _ _,rfl,rfl,rfl,rfl,fun _=>⟨c,e,fr,hb,rfl,fun e1=>(by cases e1),hs,fun i v hi=>let ⟨x,hx,hr⟩:=hc i v hi;⟨x,hx,hr.mono hle⟩⟩⟩
  ·obtain ⟨o,ho,hr⟩:=hR.world.obj l d hl
   exact ⟨o,by rw [get_new_lt _ (hR.world.fresh l d hl)];exact ho,hr.mono hle⟩
 ·intro l l' d d' o o' hl hl' _ _ _ _ _ hx
  have h1:=hro l d hl
  have h2:=hro l' d' hl'
  rcases hx with hx | hx
  ·rw [h1] at hx;cases hx
  ·rw [h2] at hx;cases hx
 ·intro g o hg ho
  have hlt:g<h.next:=Nat.lt_of_lt_of_le hg hR.world.gnext
  rw [get_new_lt _ hlt] at ho
  obtain ⟨d,hd,h1,h2⟩:=hR.world.glob g o hg ho
  exact ⟨d,hle _ _ hd,h1,h2⟩
 ·exact Nat.le_succ_of_le hR.world.gnext
def Laid {α:Type} (e:Enc α) (ok:α→Prop) (w:World) (Δ:Env) (h:Hp) (cs:List Value):Prop:=
 ∃x vs Δ' h',VsRel Δ' vs cs∧e.rel (lo h'.next) h' x vs∧ok x∧Rd Δ' h' w∧Δ.le Δ'∧Grows h h'
structure Lays {α:Type} (t:Nat) (e:Enc α) (ok:α→Prop) (fl:Bool):Prop where
 cells:P0.cellsOf t=e.sz
 lay:∀{H:Type} {enc:TypeId×Value→H} {w:World} {fuel:Nat} {cs:List Value} {d:DataW H} {ps:List MemPlace} {Δ:Env} {h:Hp},
  DataW.trod enc P0 w 0 (fun _=>true) true fuel t cs=some (d,ps)→(fl=false→SlOk w cs)→Rd Δ h w→Laid e ok w Δ h cs
theorem Lays.int {t:Nat} {k:IntKind} (hu:P0.underlying t=some (.int k)) (hc:P0.cellsOf t=1):Lays t (eI k) (fun _=>True) true where
 cells:=hc
 lay:=by
  intro H enc w fuel cs d ps Δ h hd _ hR
  obtain ⟨n,rfl,_,hwf⟩:=DataW.trod_int hu hd
  refine ⟨n,[.int k n],Δ,h, .one (.int _ _),⟨rfl,?_⟩,trivial,hR,Env.le_refl _, .refl _ _⟩
  simp only [Lit.wf,decide_eq_true_eq] at hwf
  revert hwf
  cases k <;> simp [inK,IntKind.min,IntKind.max,IntKind.signed,IntKind.bits]
theorem Lays.bool {t:Nat} (hu:P0.underlying t=some .bool) (hc:P0.cellsOf t=1):Lays t eB (fun _=>True) true where
 cells:=hc
 lay:=by
  intro H enc w fuel cs d ps Δ h hd _ hR
  obtain ⟨b,rfl,_⟩:=DataW.trod_bool hu hd
  exact ⟨b,[.bool b],Δ,h, .one (.bool _),rfl,trivial,hR,Env.le_refl _, .refl _ _⟩
theorem Lays.str {t:Nat} (hu:P0.underlying t=some .string) (hc:P0.cellsOf t=1):Lays t eS (fun s=>s.length≤maxLen) true where
 cells:=hc
 lay:=by
  intro H enc w fuel cs d ps Δ h hd _ hR
  obtain ⟨s,rfl,_,hs⟩:=DataW.trod_string hu hd
  exact ⟨s.data.toList,[.str s.data.toList],Δ,h, .one (.str _),rfl,by simpa using hs,hR,Env.le_refl _, .refl _ _⟩
def eU:Enc Unit where
 sz:=0
 rel _ _ _ cs:=cs=[]
 len h:=by rw [h];rfl
 one h:=by rw [h];rfl
 keep _ h:=h
 mono _ h:=h
structure LaysF {α:Type} (fs:List Field) (off:Nat) (e:Enc α) (ok:α→Prop) (fl:Bool):Prop where
 lay:∀{H:Type} {enc:TypeId×Value→H} {w:World} {fuel:Nat} {cs:List Value} {Δ:Env} {h:Hp},cs.length=off+e.sz→
  (∀f∈fs,∃x,DataW.trod enc P0 w 0 (fun _=>true) true fuel f.type ((cs.drop f.offset).take (P0.cellsOf f.type))=some x)→(fl=false→SlOk w cs)→Rd Δ h w→Laid e ok w Δ h (cs.drop off)
theorem LaysF.nil (off:Nat):LaysF [] off eU (fun _=>True) true where
 lay:=by
  intro H enc w fuel cs Δ h hl _ _ hR
  have:cs.drop off=[]:=List.drop_of_length_le (by rw [hl];exact Nat.le_refl _)
  rw [this]
  exact ⟨(),[],Δ,h, .nil,rfl,trivial,hR,Env.le_refl _, .refl _ _⟩
theorem LaysF.cons {α β:Type} {f:Field} {fs:List Field} {off:Nat} {e:Enc α} {e' : Enc β} {ok:α→Prop} {ok' : β→Prop} {fl fl' : Bool} (hf:Lays f.type e ok fl) (ho:f.offset=off) (hfs:LaysF fs (off+e.sz) e' ok' fl') :
  LaysF (f::fs) off (eP e e') (fun x=>ok x.1∧ok' x.2) (fl&&fl') where
 lay:=by
  intro H enc w fuel cs Δ h hl hm hs hR
  have hl' : cs.length=off+(e.sz+e'.sz):=hl
  obtain ⟨⟨d,p⟩,hd⟩:=hm f (.head _)
  have hys:=fun g hg=>hm g (.tail _ hg)
  rw [ho,hf.cells] at hd
  obtain ⟨x,vs,Δ1,h1,hr1,he1,hok1,hR1,hle1,hg1⟩:=hf.lay hd (fun e1=>SlOk.sub (hs (by rw [e1];rfl)) fun y hy=>List.mem_of_mem_drop (List.mem_of_mem_take hy)) hR
  obtain ⟨y,us,Δ2,h2,hr2,he2,hok2,hR2,hle2,hg2⟩:=hfs.lay (by rw [hl'];omega) hys (fun e1=>hs (by rw [e1,Bool.and_false])) hR1
  have hsplit:cs.drop off=(cs.drop off).take e.sz++cs.drop (off+e.sz):=by rw [←List.drop_drop,List.take_append_drop]
  refine ⟨(x,y),vs++us,Δ2,h2,?_,⟨vs,us,rfl,?_,he2⟩,⟨hok1,hok2⟩,hR2,Env.le_trans hle1 hle2,hg1.trans hg2⟩
  ·rw [hsplit];exact (hr1.mono hle2).append hr2
  ·exact e.mono (lo_mono hg2.next) (e.keep (fun l hl=>hg2.keep l hl (fun h=>h)) he1)
theorem Lays.struct {α:Type} {t:Nat} {fs:Array Field} {e:Enc α} {ok:α→Prop} {fl:Bool} (hu:P0.underlying t=some (.struct fs)) (hc:P0.cellsOf t=e.sz) (hf:LaysF fs.toList 0 e ok fl):Lays t e ok fl where
 cells:=hc
 lay:=by
  intro H enc w fuel cs d ps Δ h hd hs hR
  obtain ⟨xs,n,rfl,_,hl,hlen,hf'⟩:=DataW.trod_struct hu hd
  have:=hf.lay (cs:=cs) (fuel:=n) (by rw [hl,hc];omega) (fun f hfm=>by
   obtain ⟨i,hi⟩:=List.mem_iff_getElem?.1 hfm
   have hi' : fs[i]? = some f:=by simpa using hi
   have hlt:i<xs.length:=by rw [hlen];exact (Array.getElem?_eq_some_iff.1 hi').1
   exact ⟨xs[i],by rw [hf' i f hi',List.getElem?_eq_getElem hlt]⟩) hs hR
  rwa [List.drop_zero] at this
theorem cells_of {w:World} {a:Addr} {n:Nat} {l:List Value} (h:w.cells? 0 a n=some l):l.length=n∧∀i,i<n→w.cell? (a.add i)=l[i]?:=by
 unfold World.cells? at h
 rw [if_pos (Nat.zero_le _)] at h
 have key:∀(k:Nat) (js:List Nat) (l:List Value),js=List.range' k js.length→js.mapM (fun i=>w.cell? (a.add i))=some l→l.length=js.length∧∀i,i<js.length→w.cell? (a.add (k+i))=l[i]?:=by
  intro k js
  induction js generalizing k with
  | nil=>intro l _ h;simp at h;subst h;exact ⟨rfl,fun i hi=>absurd hi (Nat.not_lt_zero _)⟩
  | cons j js ih =>
    intro l hj h
    simp only [List.mapM_cons, Option.bind_eq_bind, Option.bind_eq_some_iff, Option.pure_def, Option.some.injEq] at h
    obtain ⟨x, hx, xs, hxs, rfl⟩ := h
    rw [List.length_cons, List.range'_succ] at hj
    obtain ⟨rfl, hj2⟩ := List.cons.inj hj
    obtain ⟨h1, h2⟩ := ih (j + 1) xs hj2 hxs
    refine ⟨by simp [h1], fun i hi => ?_⟩
    cases i with
    | zero => simpa using hx
    | succ i =>
      have := h2 i (by simpa using hi)
      rw [show j + (i + 1) = j + 1 + i by omega, this, List.getElem?_cons_succ]
 have:=key 0 (List.range n) l (by rw [List.length_range,List.range_eq_range']) h
 simpa using this
theorem cell_at {w:World} {a:Addr} {n:Nat} {c:Array Value} {e:TypeId} {fr:Nat×Nat} (hb:w.heap[a.block]? = some (.cells c e fr)) (hs:a.spot=none):w.cell? (a.add n)=c[a.off+n]?:=by
 obtain ⟨b,o,s⟩:=a
 simp only at hs hb
 subst hs
 rw [addr_add]
 unfold World.cell?
 simp only [hb]
 rfl
theorem add_add (a:Addr) (n m:Nat) (hs:a.spot=none):(a.add n).add m=a.add (n+m):=by
 obtain ⟨b,o,s⟩:=a
 simp only at hs
 subst hs
 rw [addr_add,addr_add,addr_add,Nat.add_assoc]
theorem lays_elems {α:Type} {t:Nat} {e:Enc α} {ok:α→Prop} (he:Lays t e ok true) {H:Type} {enc:TypeId×Value→H} {w:World} {fuel:Nat} {a:Addr} {c:Array Value} {ty:TypeId} {fr:Nat×Nat}
  (hb:w.heap[a.block]? = some (.cells c ty fr)) (hs:a.spot=none):∀(k i0:Nat) {Δ:Env} {h:Hp},
  (∀i,i0≤i→i<i0+k→∃y,(w.cells? 0 (a.add (i * P0.cellsOf t)) (P0.cellsOf t)).bind (DataW.trod enc P0 w 0 (fun _=>true) true fuel t)=some y)→Rd Δ h w→
  ∃(xs:List α) (vs:List V) (Δ' : Env) (h' : Hp),xs.length=k∧vs.length=k * e.sz∧(∀(j:Nat) (v:V),vs[j]? = some v→∃x,c[a.off+i0 * e.sz+j]? = some x∧VRel Δ' v x)∧Win e (lo h'.next) h' vs xs∧(∀x∈xs,ok x)∧
   Rd Δ' h' w∧Δ.le Δ'∧Grows h h'
 | 0,i0,Δ,h,_,hR=>⟨[],[],Δ,h,rfl,by simp,fun j v hv=>by simp at hv,trivial,(fun x hx=>nomatch hx),hR,Env.le_refl _,Chg.refl _ _⟩
 | k + 1, i0, Δ, h, hm, hR => by
   obtain ⟨⟨d, p⟩, hy⟩ := hm i0 (Nat.le_refl _) (by omega)
   rw [Option.bind_eq_some_iff] at hy
   obtain ⟨cs, hcs, hd⟩ := hy
   obtain ⟨hl, hc⟩ := cells_of hcs
   rw [he.cells] at hl hc
   obtain ⟨x, us, Δ1, h1, hr1, he1, hok1, hR1, hle1, hg1⟩ := he.lay hd (fun e1 => by cases e1) hR
   obtain ⟨xs, vs, Δ2, h2, hx2, hv2, hc2, hw2, hok2, hR2, hle2, hg2⟩ := lays_elems he hb hs k (i0 + 1) (fun i h1 h2 => hm i (by omega) (by omega)) hR1
   have hus : us.length = e.sz := e.len he1
   refine ⟨x :: xs, us ++ vs, Δ2, h2, by simp [hx2], by simp [hus, hv2, Nat.add_mul]; omega, ?_, ⟨us, vs, rfl, ?_, hw2⟩, ?_, hR2, Env.le_trans hle1 hle2, hg1.trans hg2⟩
   · intro j v hv
     by_cases hj : j < us.length
     · rw [List.getElem?_append_left hj] at hv
       obtain ⟨y, hy, hr⟩ := hr1.get j v hv
       refine ⟨y, ?_, hr.mono hle2⟩
       have h3 := hc j (by omega)
       rw [add_add _ _ _ hs, cell_at hb hs] at h3
       rw [Nat.add_assoc, h3]
       exact hy
     · rw [List.getElem?_append_right (by omega)] at hv
       obtain ⟨y, hy, hr⟩ := hc2 _ v hv
       refine ⟨y, ?_, hr⟩
       rw [← hy]
       congr 1
       rw [Nat.add_mul]
       omega
   · exact e.mono (lo_mono hg2.next) (e.keep (fun l hl => hg2.keep l hl (fun h => h)) he1)
   · intro y hy
     cases hy with
     | head => exact hok1
     | tail _ hy => exact hok2 y hy
theorem Lays.slice {α:Type} {t u:Nat} {e:Enc α} {ok:α→Prop} (hu:P0.underlying t=some (.slice u)) (hc:P0.cellsOf t=1) (he:Lays u e ok true) (hz:0<e.sz):Lays t (eL e) (fun xs=>xs.length≤maxLen∧∀x∈xs,ok x) false where
 cells:=hc
 lay:=by
  intro H enc w fuel cs d ps Δ h hd hs hR
  rcases DataW.trod_slice hu hd with ⟨rfl,_⟩ | ⟨a,len,cap,els,rest,n,rfl,rfl,_,_,hlc,hcap,hell,hels,hrest,_⟩
  ·exact ⟨[],[.nilSlice],Δ,h, .one .nilSlice,⟨_,rfl, .nil⟩,⟨Nat.zero_le _,fun x hx=>by cases hx⟩,hR,Env.le_refl _,Chg.refl _ _⟩
  ·obtain ⟨hrl,hrest⟩:=hrest rfl
   obtain ⟨hsp,c,ty,fr,hb⟩:=hs rfl a len cap (.head _)
   obtain ⟨xs,vs,Δ1,h1,hx1,hv1,hc1,hw1,hok1,hR1,hle1,hg1⟩:=lays_elems he hb hsp len 0 (fun i _ hi=>⟨els[i]'(by omega),by rw [hels i (by omega),List.getElem?_eq_getElem (by omega)]⟩) hR
   have hin:∀i,i<cap→a.off+i * e.sz+e.sz≤c.size:=by
    intro i hi
    have hex:∃y,(w.cells? 0 (a.add (i * P0.cellsOf u)) (P0.cellsOf u)).bind (DataW.trod enc P0 w 0 (fun _=>true) true n u)=some y:=by
     by_cases hil:i<len
     ·exact ⟨els[i]'(by omega),by rw [hels i hil,List.getElem?_eq_getElem (by omega)]⟩
     ·have h2:=hrest (i - len) (by omega)
      rw [show len+(i - len)=i by omega,List.getElem?_eq_getElem (by omega)] at h2
      exact ⟨_,h2⟩
    obtain ⟨y,hy⟩:=hex
    rw [Option.bind_eq_some_iff] at hy
    obtain ⟨ds,hds,_⟩:=hy
    obtain ⟨h3,h4⟩:=cells_of hds
    rw [he.cells] at h3 h4
    have h5:=h4 (e.sz - 1) (by omega)
    rw [add_add _ _ _ hsp,cell_at hb hsp,List.getElem?_eq_getElem (by omega)] at h5
    have:=(Array.getElem?_eq_some_iff.1 h5).1
    omega
   have hcapz:cap * e.sz=(cap - 1) * e.sz+e.sz∨cap=0:=by
    rcases Nat.eq_zero_or_pos cap with h | h
    ·exact .inr h
    ·left;rw [←Nat.succ_mul];congr 1;omega
   have hlez:len * e.sz≤cap * e.sz:=Nat.mul_le_mul_right _ hlc
   have hbase:∃o,(o=a.off∧0<cap)∨(o=0∧cap=0):=by
    by_cases h0:0<cap
    ·exact ⟨a.off, .inl ⟨rfl,h0⟩⟩
    ·exact ⟨0, .inr ⟨rfl,by omega⟩⟩
   obtain ⟨o,ho⟩:=hbase
   have hsz:o+vs.length≤c.size:=by
    rcases ho with ⟨rfl,h0⟩ | ⟨rfl,h0⟩
    ·have:=hin (cap - 1) (by omega)
     omega
    ·have:len=0:=by omega
     subst this
     rw [hv1];omega
   obtain ⟨hR2,hle2⟩:=hR1.add (b:=a.block) (base:=o) (sz:=e.sz) (ty:=u) (cs:=vs) hb hsz (fun i v hi=>by
    rcases ho with ⟨rfl,h0⟩ | ⟨rfl,h0⟩
    ·have:=hc1 i v hi
     simpa using this
    ·have hl0:len=0:=by omega
     rw [hl0,Nat.zero_mul] at hv1
     have:vs=[]:=List.eq_nil_of_length_eq_zero hv1
     subst this
     simp at hi)
   refine ⟨xs,[.slice h1.next 0 len],_,_, .one ?_,⟨_,rfl,?_⟩,⟨by omega,hok1⟩,hR2,Env.le_trans hle1 hle2,hg1.trans (Chg.new _ _)⟩
   ·obtain ⟨ab,ao,sp⟩:=a
    simp only at hsp hin ho ⊢
    subst hsp
    refine .slice h1.next 0 len cap ao ⟨ab,o,e.sz,vs.length,c.size,true,0⟩ (by unfold addE;rw [if_pos rfl]) rfl hlc ?_
    rcases ho with ⟨rfl,h0⟩ | ⟨rfl,h0⟩
    ·left
     have:=hin (cap - 1) (by omega)
     refine ⟨rfl,?_,?_⟩
     ·simp only [Nat.zero_add];omega
     ·simp only [Nat.add_zero];omega
    ·right
     refine ⟨h0,?_⟩
     have:len=0:=by omega
     subst this
     simp only [hv1];omega
   ·rw [←hx1]
    exact SlR.new hw1 (Nat.le_refl _)
end Go.Proofs.YtiepamfpilhcjaaDoor.Hx
namespace Go.Proofs.YtiepamfpilhcjaaDoor.Hx
open Go.ChangeShapes Go.WideShapes Go.RowKit
theorem Rd.start (n:Nat) (hn:P0.globals.size≤n) (w:World) (ht:TabOk (fun _=>none) w):Rd (fun _=>none) { next:=n,tr:= .leaf } w:=
 ⟨WR.start n hn w ht,fun _ _ h=>nomatch h⟩
theorem cP.calls {C:Cfg} (hF:Facts C) {f:Nat} {args:List V} {h:Hp} {Δ:Env} {W:World} {args' : Array Value} (hb:∃fn c,P0.funcs[f]? = some fn∧fn.body=some c) (hR:Rd Δ h W) (ha:VsRel Δ args args'.toList)
  (hc:cP C f args h fun v _=>v = .bool true):Calls P0 f args' W fun e W'=>e = .returned (.bool true)∧Kept W W':=by
 obtain ⟨v,h',⟨m,d,hr⟩,rfl⟩:=hc
 rcases callN_ok hF m d f args _ _ _ Δ W args' hr hR.world ha with ⟨x,h1,_⟩ | ⟨_,h2⟩
 ·exfalso
  obtain ⟨fn,c,hf,hbd⟩:=hb
  have hnm:=hF.named f fn hf
  have:(callFunc f args').run P0 W = .ok (.enter f args') W:=by
   simp only [callFunc,Sem.run_bind,run_program,Result.andThen_ok,hf,hnm,hbd,Option.isNone_some,Bool.false_eq_true,if_false]
   rfl
  rw [this] at h1
  cases h1
 ·refine Calls.mono h2 fun e w' he=>?_
  obtain ⟨Δ',x,rfl,hA⟩:=he
  have hx:=hA.val
  cases hx
  exact ⟨rfl,hA.frame.kept fun b hb=>(by obtain ⟨l,d,hl,hro,_⟩:=hb;rw [hR.ro l d hl] at hro;cases hro)⟩
theorem trodAll_stay {H:Type} {enc:TypeId×Value→H} {W W' : World} (hl:laidOutB P0=true) (hk:Kept W W'):∀{ts:List TypeId} {vs:List Value} {ds:List (DataW H)} {ps:List MemPlace},
  (ts.all fun t=>P0.readableRec t&&decide (t<P0.types.size))=true→DataW.TrodAll enc P0 W 0 (fun _=>true) true ts vs ds ps→(∀p∈ps,p.block<W.heap.size)→∀sp:Nat→Bool,(∀p∈ps,sp p.block=true)→
  DataW.TrodAll enc P0 W' 0 sp true ts vs ds ps
 | [], _, _, _, _, h, _, _, _ => by
   obtain ⟨rfl, rfl, rfl⟩ := trodAll_nil h
   exact rfl
 | t :: ts, _, _, _, hr, h, hlt, sp, hsp => by
   obtain ⟨v, vs, d, ds, p, q, rfl, rfl, rfl, h1, h2⟩ := trodAll_cons h
   simp only [List.all_cons, Bool.and_eq_true, decide_eq_true_eq] at hr
   refine ⟨p, q, ?_, trodAll_stay hl hk hr.2 h2 (fun x hx => hlt x (by simp [hx])) sp (fun x hx => hsp x (by simp [hx])), rfl⟩
   have hbl : Below W.heap.size W { W' with tape := W.tape } := ⟨hk.1, rfl, hk.2.1, hk.2.2.1, hk.2.2.2⟩
   have h3 := WideElems.Trod_stays hl hr.1.1 hr.1.2 h1 (fun x hx => hbl.same (hlt x (by simp [hx]))) (sp' := sp) (fun x hx => hsp x (by simp [hx]))
   exact DataW.Trod.of_heap (w := { W' with tape := W.tape }) (w' := W') rfl h3
end Go.Proofs.YtiepamfpilhcjaaDoor.Hx
namespace Go.Proofs.YtiepamfpilhcjaaDoor.Hx
open Go.ChangeShapes Go.WideShapes Go.RowKit
theorem slOk_cell {w:World} {base:Nat} {u:TypeId} {v:Value} (h:Cell.okWide P0 w .any base u v) (a:Addr) (len cap:Nat) (hv:v = .slice (some a) len cap):a.spot=none∧∃c e fr,w.heap[a.block]? = some (.cells c e fr):=by
 subst hv
 have h2:w.has P0 .any base a ((match P0.underlying u with | some (.slice e)=>e | _=>0)) cap:=by
  unfold Cell.okWide at h
  split at h
  case h_8=>
   unfold Cell.ok at h
   split at h
   all_goals first
    | (exfalso;exact h)
    | skip
   all_goals rename_i e1 e2
   all_goals first
    | (cases e2;done)
    | skip
   all_goals (cases e2;rw [e1];exact h.2.2)
  all_goals rename_i e2
  all_goals cases e2
 obtain ⟨_,h3,row,cells,h4,_⟩:=h2
 refine ⟨h3,?_⟩
 unfold World.shape? at h4
 split at h4
 ·rename_i c e fr he
  exact ⟨c,e,fr,he⟩
 ·cases h4
theorem slOk_val {w:World} {base:Nat} {t:TypeId} {v:Value} (h:Value.okWide P0 w .any base t v):SlOk w v.cells.toList:=by
 intro a len cap hm
 unfold Value.okWide at h
 have one:Cell.okWide P0 w .any base t v→a.spot=none∧∃c e fr,w.heap[a.block]? = some (.cells c e fr):=by
  intro h1
  by_cases hv:∃cs,v = .agg cs
  ·obtain ⟨cs,rfl⟩:=hv
   exfalso
   unfold Cell.okWide at h1
   split at h1
   case h_8=>
    unfold Cell.ok at h1
    split at h1
    all_goals first
     | (exact h1)
     | (rename_i e1 e2;cases e2)
   all_goals (rename_i e1 e2;cases e2)
  ·have hc:v.cells = #[v]:=by
    cases v <;> first | rfl | (exact absurd ⟨_,rfl⟩ hv)
   rw [hc] at hm
   obtain rfl:=List.mem_singleton.1 hm
   exact slOk_cell h1 a len cap rfl
 split at h
 ·obtain ⟨cs,rfl,_,ts,_,_,h3⟩:=h
  obtain ⟨i,hi⟩:=List.mem_iff_getElem?.1 hm
  obtain ⟨u,_,hu⟩:=h3 i _ (by simpa [Value.cells] using hi)
  exact slOk_cell hu a len cap rfl
 ·obtain ⟨cs,rfl,_,ts,_,_,h3⟩:=h
  obtain ⟨i,hi⟩:=List.mem_iff_getElem?.1 hm
  obtain ⟨u,_,hu⟩:=h3 i _ (by simpa [Value.cells] using hi)
  exact slOk_cell hu a len cap rfl
 ·exact one h
theorem Lays.map {α β:Type} {t:Nat} {e:Enc α} {e' : Enc β} {ok:α→Prop} {ok' : β→Prop} {fl:Bool} (hl:Lays t e ok fl) (g:α→β) (hs:e'.sz=e.sz) (hg:∀b h x cs,e.rel b h x cs→ok x→e'.rel b h (g x) cs∧ok' (g x)):Lays t e' ok' fl where
 cells:=by rw [hl.cells,hs]
 lay:=by
  intro H enc w fuel cs d ps Δ h hd hsl hR
  obtain ⟨x,vs,Δ',h',h1,h2,h3,h4⟩:=hl.lay hd hsl hR
  obtain ⟨h5,h6⟩:=hg _ _ _ _ h2 h3
  exact ⟨g x,vs,Δ',h',h1,h5,h6,h4⟩
theorem Lays.argS {α:Type} {t:Nat} {fs:Array Field} {e:Enc α} {ok:α→Prop} {fl:Bool} (hl:Lays t e ok fl) (hu:P0.underlying t=some (.struct fs)) {H:Type} {enc:TypeId×Value→H} {w:World} {base:Nat} {v:Value} {d:DataW H} {ps:List MemPlace} {Δ:Env} {h:Hp}
  (hv:Value.okWide P0 w .any base t v) (hd:DataW.Trod enc P0 w 0 (fun _=>true) true t v d ps) (hR:Rd Δ h w) :
  ∃x vs Δ' h',VRel Δ' (.agg vs) v∧e.rel (lo h'.next) h' x vs∧ok x∧Rd Δ' h' w∧Δ.le Δ'∧Grows h h':=by
 obtain ⟨fuel,hd⟩:=hd
 obtain ⟨x,vs,Δ',h',h1,h2⟩:=hl.lay hd (fun _=>slOk_val hv) hR
 unfold Value.okWide at hv
 rw [hu] at hv
 obtain ⟨cs,rfl,_⟩:=hv
 exact ⟨x,vs,Δ',h', .agg _ _ h1,h2⟩
theorem Lays.arg1 {α:Type} {t:Nat} {e:Enc α} {ok:α→Prop} {fl:Bool} (hl:Lays t e ok fl) {H:Type} {enc:TypeId×Value→H} {w:World} {base:Nat} {v:Value} {d:DataW H} {ps:List MemPlace} {Δ:Env} {h:Hp}
  (hc:v.cells = #[v]) (hv:Value.okWide P0 w .any base t v) (hd:DataW.Trod enc P0 w 0 (fun _=>true) true t v d ps) (hR:Rd Δ h w) :
  ∃x u Δ' h',VRel Δ' u v∧e.rel (lo h'.next) h' x [u]∧ok x∧Rd Δ' h' w∧Δ.le Δ'∧Grows h h':=by
 obtain ⟨fuel,hd⟩:=hd
 obtain ⟨x,vs,Δ',h',h1,h2⟩:=hl.lay hd (fun _=>slOk_val hv) hR
 rw [hc] at h1
 cases h1 with
 | cons u _ us _ hu hus =>
   cases hus
   exact ⟨x, u, Δ', h', hu, h2⟩
end Go.Proofs.YtiepamfpilhcjaaDoor.Hx
