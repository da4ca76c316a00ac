/- Parts of the proof. -/
import Derived.Test.YtiepamfpilhcjaaDoorM01
import Derived.Laws.Pointers
import Derived.Laws.StructEq
import Derived.Laws.Strings2
import Derived.Laws.IdiomStrings
namespace Go.Proofs.YtiepamfpilhcjaaDoor.Hx
inductive ERel (Δ:Env):List (V×V×Nat)→List MapEntry→Prop
 | nil:ERel Δ [] []
 | cons (k v:V) (n:Nat) (e:MapEntry) (es:List (V×V×Nat)) (es' : List MapEntry) (hk:VRel Δ k e.key) (hv:VRel Δ v e.val) (hb:e.born=n)
   (hs:ERel Δ es es'):ERel Δ ((k,v,n)::es) (e::es')
theorem ERel.mono {Δ Δ' : Env} (hle:Δ.le Δ') {es:List (V×V×Nat)} {es' : List MapEntry} (h:ERel Δ es es'):ERel Δ' es es':=by
 induction h with
 | nil=>exact .nil
 | cons k v n e es es' hk hv hb _ ih=>exact .cons k v n e es es' (hk.mono hle) (hv.mono hle) hb ih
def CellsOk (Δ:Env) (d:D) (cs:List V) (ob:Option Obj):Prop:=
 ∃c e fr,ob=some (.cells c e fr)∧c.size=d.asz∧(d.ro=false→fr.1=fr.2∨d.asz≤fr.1)∧d.base+cs.length≤d.asz∧
  ∀(i:Nat) (v:V),cs[i]? = some v→∃x,c[d.base+i]? = some x∧VRel Δ v x
def ORel (Δ:Env) (d:D) (o:O) (ob:Option Obj):Prop:=match o with
 | .cells _ sz live ro cs=>d.kind=0∧d.sz=sz∧d.n=cs.length∧d.ro=ro∧(live=true→CellsOk Δ d cs ob)
 | .map es clock=>d.kind=1∧d.ro=false∧d.base=0∧∃es',ob=some (.map es' clock)∧ERel Δ es es'.toList
 | .iter m since seen last=>d.kind=2∧d.ro=false∧d.base=0∧∃m',ob=some (.mapIter m' since seen.toArray last)∧
   (match m with
    | none=>m' = none
    | some l=>∃d',Δ l=some d'∧m' = some d'.b)
def O.live:O→Bool
 | .cells _ _ live _ _=>live
 | _=>true
def TabOk (Δ:Env) (w:World):Prop:=∀g c,(g,c)∈tabs→(∃e fr,w.heap[g]? = some (.cells c e fr))∧∀l d,Δ l=some d→d.ro=false→d.b≠g
structure WR (Δ:Env) (h:Hp) (w:World):Prop where
 fresh:∀l d,Δ l=some d→l<h.next
 blk:∀l d,Δ l=some d→d.b<w.heap.size
 obj:∀l d,Δ l=some d→∃o,h.get l=some o∧ORel Δ d o w.heap[d.b]?
 apart:∀l l' d d' o o',Δ l=some d→Δ l' = some d'→l≠l'→h.get l=some o→h.get l' = some o'→o.live=true→o'.live=true→
  (d.ro=false∨d'.ro=false)→d.b≠d'.b
 glob:∀g o,g<P0.globals.size→h.get g=some o→∃d,Δ g=some d∧d.b=g∧d.base=0
 gnext:P0.globals.size≤h.next
 tab:TabOk Δ w
inductive DsRel (Δ:Env):List (Nat×List V)→List Deferred→Prop
 | nil:DsRel Δ [] []
 | cons (g : Nat) (args : List V) (cap args' : Array Value) (l : List (Nat × List V)) (l' : List Deferred) (ha : VsRel Δ args (args' ++ cap).toList) (hl : DsRel Δ l l') :
   DsRel Δ ((g, args) :: l) ({ target := .fn (.func g) cap, args := args' } :: l')
theorem DsRel.mono {Δ Δ' : Env} (hle:Δ.le Δ') {l:List (Nat×List V)} {l' : List Deferred} (h:DsRel Δ l l'):DsRel Δ' l l':=by
 induction h with
 | nil=>exact .nil
 | cons g args cap args' l l' ha _ ih=>exact .cons g args cap args' l l' (ha.mono hle) ih
structure TR (Δ:Env) (n:Nat) (t:Tm) (a:Act):Prop where
 size:a.tmps.size=n
 rel:∀i,VRel Δ (tget t i) (a.tmps.getD i undef)
 ds:DsRel Δ t.ds a.defers
theorem frFree {fr:Nat×Nat} {n:Nat} (h:fr.1=fr.2∨n≤fr.1):∀i,i<n→¬(fr.1≤i∧i<fr.2):=fun i hi hc=>by omega
theorem CellsOk.mono {Δ Δ' : Env} (hle:Δ.le Δ') {d:D} {cs:List V} {ob:Option Obj} (h:CellsOk Δ d cs ob):CellsOk Δ' d cs ob:=by
 obtain ⟨c,e,fr,h1,h2,h3,h5,h4⟩:=h
 exact ⟨c,e,fr,h1,h2,h3,h5,fun i v hi=>let ⟨x,hx,hr⟩:=h4 i v hi;⟨x,hx,hr.mono hle⟩⟩
theorem ORel.mono {Δ Δ' : Env} (hle:Δ.le Δ') {d:D} {o:O} {ob:Option Obj} (h:ORel Δ d o ob):ORel Δ' d o ob:=by
 cases o with
 | cells e sz live ro cs =>
   obtain ⟨h1, h2, h3, h4, h5⟩ := h
   exact ⟨h1, h2, h3, h4, fun hl => (h5 hl).mono hle⟩
 | map es clock =>
   obtain ⟨h1, h2, h3, es', h4, h5⟩ := h
   exact ⟨h1, h2, h3, es', h4, h5.mono hle⟩
 | iter m since seen last =>
   obtain ⟨h1, h2, h3, m', h4, h5⟩ := h
   refine ⟨h1, h2, h3, m', h4, ?_⟩
   cases m with
   | none => exact h5
   | some l => obtain ⟨d', hd, hm⟩ := h5; exact ⟨d', hle _ _ hd, hm⟩
theorem TR.mono {Δ Δ' : Env} (hle:Δ.le Δ') {n:Nat} {t:Tm} {a:Act} (h:TR Δ n t a):TR Δ' n t a:=⟨h.size,fun i=>(h.rel i).mono hle,h.ds.mono hle⟩
theorem run_und {t:Nat} {d:TypeDesc} {w:World} (h:P0.underlying t=some d):(underlying t).run P0 w = .ok d w:=by simp [underlying,h]
theorem info_of_sz {t n:Nat} (h:szOf t=some n):∃i,P0.info? t=some i∧i.size=n:=by
 unfold szOf at h
 rw [oB_eq] at h
 obtain ⟨i,hi,h⟩:=h
 exact ⟨i,hi,by simpa using h⟩
theorem run_sz {t n:Nat} {w:World} (h:szOf t=some n):(sizeOf t).run P0 w = .ok n w:=by
 obtain ⟨i,hi,rfl⟩:=info_of_sz h
 simp [sizeOf,typeInfo,hi]
theorem run_agg {t:Nat} {b:Bool} {w:World} (h:aggT t=some b):(isAgg t).run P0 w = .ok b w:=by
 unfold aggT at h
 split at h
 ·rename_i hu;cases h;simp [isAgg,run_und hu]
 ·rename_i hu;cases h;simp [isAgg,run_und hu]
 ·rename_i d h1 h2 hu
  cases h
  simp only [isAgg,Sem.run_bind,run_und hu,Result.andThen_ok]
  rfl
 ·cases h
theorem run_zero {t:Nat} {z:V} (h:zeroV t=some z):∃zv,(∀w,(zeroValue t).run P0 w = .ok zv w)∧(∀Δ,VRel Δ z zv)∧∃i,P0.info? t=some i∧i.zero=some zv:=by
 unfold zeroV at h
 simp only [oB_eq] at h
 obtain ⟨i,hi,zv,hz,hv⟩:=h
 exact ⟨zv,fun w=>by simp [zeroValue,typeInfo,hi,hz],fun Δ=>ofVal_rel Δ 8 zv z hv,i,hi,hz⟩
theorem addr_add (b o n:Nat):(⟨b,o,none⟩:Addr).add n=⟨b,o+n,none⟩:=by
 unfold Addr.add
 split
 ·rename_i h;subst h;rfl
 ·rfl
section
variable {Δ:Env} {h:Hp} {w:World} {n:Nat} {t:Tm} {a:Act}
theorem evN_ok (hT:TR Δ n t a) {x:Operand} {v:V} (hv:(evN x).f t=some v):VRel Δ v (a.eval x):=by
 cases x with
 | tmp i=>simp only [evN] at hv;cases hv;exact hT.rel i
 | const c =>
   simp only [evN] at hv
   split at hv
   · rename_i y hy; cases hv; exact ofVal_rel Δ 8 c _ hy
   · cases hv
 | global g=>simp [evN] at hv
 | func f=>simp only [evN] at hv;cases hv;exact .func f [] [] #[] #[] .nil .nil
theorem evO_ok (hW:WR Δ h w) (hT:TR Δ n t a) {x:Operand} {v:V} (hv:(evO x).f t h=some v):VRel Δ v (a.eval x):=by
 cases x with
 | global g =>
   unfold evO at hv
   cases hlt : Nat.blt g P0.globals.size with
   | true =>
     simp only [hlt, oB_eq] at hv
     obtain ⟨o, ho, hv⟩ := hv
     cases hv
     have hg : g < P0.globals.size := by rw [← Nat.blt_eq]; exact hlt
     obtain ⟨d, hd, hb, hba⟩ := hW.glob g o hg ho
     have := VRel.ptr (Δ := Δ) g 0 d hd
     rw [hb, hba] at this
     exact this
   | false => simp [hlt] at hv
 | tmp i=>exact evN_ok hT hv
 | const c=>exact evN_ok hT hv
 | func f=>exact evN_ok hT hv
theorem evNs_ok (hT:TR Δ n t a):∀{l:List Operand} {vs:List V},evNs t l=some vs→VsRel Δ vs (l.map a.eval)
 | [],vs,hv=>by simp [evNs] at hv;subst hv;exact .nil
 | x :: l, vs, hv => by
   simp only [evNs, oB_eq] at hv
   obtain ⟨v, h1, vs', h2, h3⟩ := hv
   cases h3
   exact .cons _ _ _ _ (evN_ok hT h1) (evNs_ok hT h2)
inductive PRel (Δ:Env):List (Nat×V)→List (Nat×Value)→Prop
 | nil:PRel Δ [] []
 | cons (i:Nat) (v:V) (v' : Value) (l:List (Nat×V)) (l' : List (Nat×Value)) (hv:VRel Δ v v') (hs:PRel Δ l l'):PRel Δ ((i,v)::l) ((i,v')::l')
theorem evParts_ok (hT:TR Δ n t a):∀{l:List (Nat×Operand)} {vs:List (Nat×V)},evParts t l=some vs→PRel Δ vs (l.map fun x=>(x.1,a.eval x.2))
 | [],vs,hv=>by simp [evParts] at hv;subst hv;exact .nil
 | x :: l, vs, hv => by
   simp only [evParts, oB_eq] at hv
   obtain ⟨v, h1, vs', h2, h3⟩ := hv
   cases h3
   exact .cons _ _ _ _ _ (evN_ok hT h1) (evParts_ok hT h2)
theorem cell_ok (hW:WR Δ h w) {l:Nat} {d:D} (hl:Δ l=some d) {e sz:Nat} {ro:Bool} {cs:List V} (hg:h.get l=some (.cells e sz true ro cs))
  {i:Nat} {v:V} (hi:cs[i]? = some v):∃x,w.cell? ⟨d.b,d.base+i,none⟩=some x∧VRel Δ v x:=by
 obtain ⟨o,ho,hr⟩:=hW.obj l d hl
 rw [hg] at ho
 cases ho
 obtain ⟨_,_,_,_,hc⟩:=hr
 obtain ⟨c,e',fr,h1,_,_,_,h4⟩:=hc rfl
 obtain ⟨x,hx,hr⟩:=h4 i v hi
 exact ⟨x,by simp [World.cell?,h1,hx],hr⟩
theorem loadCells_ok (hW:WR Δ h w) {l:Nat} {d:D} (hl:Δ l=some d) {off m:Nat} {cs:List V} (hv:ldAt h l off m=some cs) :
  ∃arr,(loadCells ⟨d.b,d.base+off,none⟩ m).run P0 w = .ok arr w∧VsRel Δ cs arr.toList:=by
 unfold ldAt at hv
 rw [cellsAt_eq] at hv
 obtain ⟨e,sz,live,ro,all,hg,hv⟩:=hv
 rw [bB_eq] at hv
 obtain ⟨rfl,hv⟩:=hv
 obtain ⟨hlen,hget⟩:=sub_eq hv
 have key:∀j,j<m→∃x v,w.cell? ⟨d.b,d.base+off+j,none⟩=some x∧cs[j]? = some v∧VRel Δ v x:=fun j hj=>by
  have hj' : j<cs.length:=by omega
  have h1:cs[j]? = some cs[j]:=List.getElem?_eq_getElem hj'
  have h2:=hget j hj
  rw [h1] at h2
  obtain ⟨x,hx,hr⟩:=cell_ok hW hl hg h2.symm
  exact ⟨x,_,by rw [Nat.add_assoc];exact hx,h1,hr⟩
 refine ⟨_,run_loadCells w ⟨d.b,d.base+off,none⟩ m (fun j=>(w.cell? ⟨d.b,d.base+off+j,none⟩).getD undef) (fun j hj=>?_),?_⟩
 ·obtain ⟨x,v,hx,_,_⟩:=key j hj
  rw [addr_add,hx];rfl
 ·refine VsRel.of_get (by simp [hlen]) fun i v hi=>?_
  have him:i<m:=by
   have:=(List.getElem?_eq_some_iff.1 hi).1
   omega
  obtain ⟨x,v',hx,hv',hr⟩:=key i him
  rw [hi] at hv'
  cases hv'
  exact ⟨x,by simp [him,hx],hr⟩
theorem load1_ok (hW:WR Δ h w) {l:Nat} {d:D} (hl:Δ l=some d) {off:Nat} {v:V} (hv:ld1 h l off=some v) :
  ∃x,w.cell? ⟨d.b,d.base+off,none⟩=some x∧VRel Δ v x:=by
 unfold ld1 at hv
 rw [cellsAt_eq] at hv
 obtain ⟨e,sz,live,ro,all,hg,hv⟩:=hv
 rw [bB_eq] at hv
 obtain ⟨rfl,hv⟩:=hv
 exact cell_ok hW hl hg (at1_eq hv)
theorem hload_ok (hW:WR Δ h w) {ty:Nat} {p:PF} {xv:Value} (hp:∀v,p.f t h=some v→VRel Δ v xv) {v:V} (hv:(hload ty p).f t h=some v) :
  ∃x,(Instr.loadAt ty xv).run P0 w = .ok x w∧VRel Δ v x:=by
 unfold hload at hv
 split at hv
 ·rename_i ha
  split at hv
  ·rename_i m hm
   simp only [oB_eq,asPtr_eq] at hv
   obtain ⟨av,h1,l,off,rfl,cs,h2,h3⟩:=hv
   cases h3
   cases hp _ h1 with
   | ptr _ _ d hd =>
     obtain ⟨arr, hr, hrel⟩ := loadCells_ok hW hd h2
     exact ⟨.agg arr, by simp [Instr.loadAt, Instr.sureAddr, loadVar, run_agg ha, run_sz hm, hr], .agg _ _ hrel⟩
  ·cases hv
 ·rename_i ha
  simp only [oB_eq,asPtr_eq] at hv
  obtain ⟨av,h1,l,off,rfl,h2⟩:=hv
  cases hp _ h1 with
  | ptr _ _ d hd =>
    obtain ⟨x, hx, hrel⟩ := load1_ok hW hd h2
    exact ⟨x, by simp [Instr.loadAt, Instr.sureAddr, loadVar, run_agg ha, hx], hrel⟩
 ·cases hv
theorem placesOf_ok:∀(fs:List Field) (pl:List (Nat×Nat)),placesOf fs=some pl→fs.mapM (fun f=>(P0.info? f.type).map fun i=>(f.offset,i.size))=some pl
 | [],pl,h=>by simp [placesOf] at h;subst h;simp
 | f :: fs, pl, h => by
   simp only [placesOf, oB_eq] at h
   obtain ⟨m, h1, l, h2, h3⟩ := h
   cases h3
   obtain ⟨i, hi, rfl⟩ := info_of_sz h1
   simp [List.mapM_cons, hi, placesOf_ok fs l h2]
theorem setAll_ok:∀(xs:List Value) (k off:Nat) (c:Array Value),off+k+xs.length≤c.size→
  ∀i,((xs.zipIdx k).foldl (fun cs (p:Value×Nat)=>cs.setIfInBounds (off+p.2) p.1) c)[i]? = if off+k≤i∧i<off+k+xs.length then xs[i - (off+k)]? else c[i]?
 | [], k, off, c, _, i => by
   rw [if_neg (by simp only [List.length_nil]; omega)]
   rfl
 | x :: xs, k, off, c, hle, i => by
   simp only [List.zipIdx_cons, List.foldl_cons]
   simp only [List.length_cons] at hle
   rw [setAll_ok xs (k + 1) off _ (by simp; omega)]
   by_cases h1 : off + (k + 1) ≤ i ∧ i < off + (k + 1) + xs.length
   · rw [if_pos h1, if_pos (by simp only [List.length_cons]; omega)]
     have : i - (off + k) = (i - (off + (k + 1))) + 1 := by omega
     rw [this, List.getElem?_cons_succ]
   · rw [if_neg h1]
     by_cases h2 : i = off + k
     · subst h2
       rw [if_pos (by simp only [List.length_cons]; omega)]
       have hlt : off + k < c.size := by omega
       simp [hlt]
     · rw [if_neg (by simp only [List.length_cons]; omega)]
       rw [Array.getElem?_setIfInBounds_ne (fun e => h2 e.symm)]
theorem fill_ok {place:Nat→Option (Nat×Nat)} : ∀{ps:List (Nat×V)} {ps' : List (Nat×Value)} {cells cs:List V} {cells' : Array Value},PRel Δ ps ps'→VsRel Δ cells cells'.toList→
  fillV place cells ps=some cs→∃cs',Instr.fill place cells' ps' = some cs'∧VsRel Δ cs cs'.toList
 | _,_,cells,cs,cells', .nil,hc,hf=>by simp [fillV] at hf;subst hf;exact ⟨cells',rfl,hc⟩
 | _, _, cells, cs, cells', .cons i v v' l l' hv hs, hc, hf => by
   simp only [fillV, oB_eq, bB_eq] at hf
   obtain ⟨⟨off, size⟩, h1, h2, mid, h3, h4⟩ := hf
   obtain ⟨hl, hle, hget⟩ := splice_eq h3
   have hvc := hv.cells
   have hsz : v'.cells.size = size := by
     have := hvc.length
     rw [Nat.eq_of_beq_eq_true h2] at this
     simpa using this.symm
   have hcl := hc.length
   simp only [Array.length_toList] at hcl
   have hvl : v.cells.length = v'.cells.size := by simpa using hvc.length
   have hno : ¬ (v'.cells.size ≠ size ∨ off + v'.cells.size > cells'.size) := by
     rintro (h | h)
     · exact h hsz
     · omega
   have hmid : VsRel Δ mid (v'.cells.zipIdx.foldl (fun cs (c, j) => cs.setIfInBounds (off + j) c) cells').toList := by
     have hset := setAll_ok v'.cells.toList 0 off cells' (by simp; omega)
     have hfold : (v'.cells.zipIdx.foldl (fun cs (c, j) => cs.setIfInBounds (off + j) c) cells') = ((v'.cells.toList.zipIdx 0).foldl (fun cs (p : Value × Nat) => cs.setIfInBounds (off + p.2) p.1) cells') := by
       rw [← Array.foldl_toList]
       simp
     rw [hfold]
     generalize hF : ((v'.cells.toList.zipIdx 0).foldl (fun cs (p : Value × Nat) => cs.setIfInBounds (off + p.2) p.1) cells') = F at hset
     have hFs : F.size = cells'.size := by
       apply Nat.le_antisymm
       · rcases Nat.lt_or_ge cells'.size F.size with hlt | hge
         · have := hset cells'.size
           rw [if_neg (by simp; omega)] at this
           simp [hlt] at this
         · exact hge
       · rcases Nat.lt_or_ge F.size cells'.size with hlt | hge
         · have := hset F.size
           by_cases hin : off + 0 ≤ F.size ∧ F.size < off + 0 + v'.cells.toList.length
           · rw [if_pos hin] at this
             have hh : F.size - (off + 0) < v'.cells.toList.length := by omega
             rw [List.getElem?_eq_getElem hh] at this
             simp at this
           · rw [if_neg hin] at this
             simp [hlt] at this
         · exact hge
     refine VsRel.of_get (by simp only [Array.length_toList]; omega) fun j x hx => ?_
     rw [hget j] at hx
     have hsj := hset j
     simp only [Nat.add_zero, Array.length_toList] at hsj
     rw [Array.getElem?_toList, hsj]
     by_cases hin : off ≤ j ∧ j < off + v.cells.length
     · rw [if_pos hin] at hx
       rw [if_pos (by omega)]
       exact hvc.get _ _ hx
     · rw [if_neg hin] at hx
       rw [if_neg (by omega)]
       obtain ⟨y, hy, hr⟩ := hc.get _ _ hx
       exact ⟨y, by simpa using hy, hr⟩
   obtain ⟨cs', hf', hr⟩ := fill_ok hs hmid h4
   refine ⟨cs', ?_, hr⟩
   simp only [Instr.fill, h1]
   rw [if_neg (by simpa using hno)]
   exact hf'
theorem hbuild_ok (hT:TR Δ n t a) {ty:Nat} {parts:List (Nat×Operand)} {v:V} (hv:(hbuild ty parts).f t h=some v) :
  ∃x,(Instr.build ty (parts.map fun x=>(x.1,a.eval x.2)).toArray).run P0 w = .ok x w∧VRel Δ v x:=by
 unfold hbuild at hv
 split at hv
 ·rename_i z hz
  obtain ⟨zv,_,hzr,i,hi,hzi⟩:=run_zero hz
  have hzc:=(hzr Δ).cells
  split at hv
  ·rename_i fields hu
   split at hv
   ·rename_i places hp
    simp only [oB_eq] at hv
    obtain ⟨ps,h1,cs,h2,h3⟩:=hv
    cases h3
    obtain ⟨cs',hf,hr⟩:=fill_ok (evParts_ok hT h1) hzc h2
    refine ⟨.agg cs',?_, .agg _ _ hr⟩
    refine run_build w ty _ cs' ?_
    unfold Program.built
    simp only [hi,hu,hzi,placesOf_ok _ _ hp]
    simpa using hf
   ·cases hv
  ·rename_i len elem hu
   split at hv
   ·rename_i size hs
    obtain ⟨ie,hie,rfl⟩:=info_of_sz hs
    simp only [oB_eq] at hv
    obtain ⟨ps,h1,cs,h2,h3⟩:=hv
    cases h3
    obtain ⟨cs',hf,hr⟩:=fill_ok (evParts_ok hT h1) hzc h2
    refine ⟨.agg cs',?_, .agg _ _ hr⟩
    refine run_build w ty _ cs' ?_
    unfold Program.built
    simp only [hi,hu,hzi,hie]
    simpa using hf
   ·cases hv
  ·cases hv
 ·cases hv
end
end Go.Proofs.YtiepamfpilhcjaaDoor.Hx
namespace Go.Proofs.YtiepamfpilhcjaaDoor.Hx
theorem wrapF_eq (k:IntKind) (n:Int):wrapF k n=k.wrap n:=by
 unfold wrapF
 cases n with
 | negSucc m=>rfl
 | ofNat m =>
   simp only
   split
   · rename_i hb
     rw [Nat.blt_eq] at hb
     have e : (Int.ofNat m) = (m : Int) := rfl
     rw [e]
     cases k <;> simp [IntKind.wrap, IntKind.bits, IntKind.signed] at hb ⊢ <;> omega
   · rfl
section
variable {Δ:Env} {h:Hp} {w:World} {n:Nat} {t:Tm} {a:Act}
theorem run_v {s:Sem Value} {x:Value} {w w' : World} (h:s.run P0 w = .ok x w'):(do pure (Next.value (←s)):Sem Next).run P0 w = .ok (.value x) w':=by simp [h]
theorem kindEq_eq {k k' : IntKind} (h:kindEq k k' = true):k=k':=by cases k <;> cases k' <;> first | rfl | cases h
theorem hint_ok {op:BinOp} {k:IntKind} {x y:Int} {v:V} (ty:Nat) (w:World) (hs:isShift op=false) (hv:hint op k x y=some v) :
  ∃r,(binOp op ty (.int k x) (.int k y)).run P0 w = .ok r w∧∀Δ,VRel Δ v r:=by
 cases op with
 | shl=>cases hs
 | shr=>cases hs
 | add=>simp only [hint] at hv;cases hv;rw [wrapF_eq];exact ⟨_,by simp [binOp,Op.intArith],fun Δ=> .int _ _⟩
 | sub=>simp only [hint] at hv;cases hv;rw [wrapF_eq];exact ⟨_,by simp [binOp,Op.intArith],fun Δ=> .int _ _⟩
 | mul=>simp only [hint] at hv;cases hv;rw [wrapF_eq];exact ⟨_,by simp [binOp,Op.intArith],fun Δ=> .int _ _⟩
 | quo =>
   have hy : y ≠ 0 := by rintro rfl; simp [hint] at hv
   have hv' : some (V.int k (wrapF k (x.tdiv y))) = some v := by
     rw [← hv]; unfold hint; simp only; split
     · exact absurd rfl hy
     · rfl
   cases hv'; rw [wrapF_eq]; exact ⟨_, by simp [binOp, Op.intDiv, hy], fun Δ => .int _ _⟩
 | rem =>
   have hy : y ≠ 0 := by rintro rfl; simp [hint] at hv
   have hv' : some (V.int k (x.tmod y)) = some v := by
     rw [← hv]; unfold hint; simp only; split
     · exact absurd rfl hy
     · rfl
   cases hv'; exact ⟨_, by simp [binOp, Op.intDiv, hy], fun Δ => .int _ _⟩
 | and=>simp only [hint] at hv;cases hv;exact ⟨_,by simp [binOp,Op.intBits],fun Δ=> .int _ _⟩
 | or=>simp only [hint] at hv;cases hv;exact ⟨_,by simp [binOp,Op.intBits],fun Δ=> .int _ _⟩
 | xor=>simp only [hint] at hv;cases hv;exact ⟨_,by simp [binOp,Op.intBits],fun Δ=> .int _ _⟩
 | andNot=>simp only [hint] at hv;cases hv;exact ⟨_,by simp [binOp,Op.intBits],fun Δ=> .int _ _⟩
 | eql=>simp only [hint] at hv;cases hv;exact ⟨_,by simp [binOp,Op.intCmp],fun Δ=> .bool _⟩
 | neq=>simp only [hint] at hv;cases hv;exact ⟨_,by simp [binOp,Op.intCmp],fun Δ=> .bool _⟩
 | lss=>simp only [hint] at hv;cases hv;exact ⟨_,by simp [binOp,Op.intCmp],fun Δ=> .bool _⟩
 | leq=>simp only [hint] at hv;cases hv;exact ⟨_,by simp [binOp,Op.intCmp],fun Δ=> .bool _⟩
 | gtr=>simp only [hint] at hv;cases hv;exact ⟨_,by simp [binOp,Op.intCmp],fun Δ=> .bool _⟩
 | geq=>simp only [hint] at hv;cases hv;exact ⟨_,by simp [binOp,Op.intCmp],fun Δ=> .bool _⟩
theorem hshift_ok {op:BinOp} {k k' : IntKind} {x y:Int} {v:V} (ty:Nat) (w:World) (hv:hshift op k x y=some v) :
  ∃r,(binOp op ty (.int k x) (.int k' y)).run P0 w = .ok r w∧∀Δ,VRel Δ v r:=by
 unfold hshift at hv
 split at hv
 ·cases hv
 ·rename_i m
  have hn:¬((Int.ofNat m)<0):=by simp
  split at hv
  ·cases hv;exact ⟨_,by simp only [binOp,Op.shift];rw [if_neg hn];rfl,fun Δ=> .int _ _⟩
  ·cases hv;exact ⟨_,by simp only [binOp,Op.shift];rw [if_neg hn];rfl,fun Δ=> .int _ _⟩
  ·cases hv
theorem hstr_ok {op:BinOp} {x y:ByteArray} {v:V} (ty:Nat) (w:World) (hv:hstr op x.data.toList y.data.toList=some v) :
  ∃r,(binOp op ty (.string x) (.string y)).run P0 w = .ok r w∧∀Δ,VRel Δ v r:=by
 have hb:(binOp op ty (.string x) (.string y))=Op.stringOp op x y:=by cases op <;> rfl
 rw [hb]
 have ex:x.toList=x.data.toList:=ByteArray.toList_eq x
 have ey:y.toList=y.data.toList:=ByteArray.toList_eq y
 cases op <;> simp only [hstr] at hv <;> try (cases hv;done)
 case add=>
  split at hv
  ·rename_i hle
   cases hv
   have hle':=Nat.le_of_ble_eq_true hle
   have hsz:¬(((x.size+y.size:Nat):Int)>IntKind.i64.max):=by
    have e1:x.data.toList.length=x.size:=rfl
    have e2:y.data.toList.length=y.size:=rfl
    rw [e1,e2] at hle'
    simp only [IntKind.max,IntKind.signed,IntKind.bits,if_true]
    omega
   have e:x.data.toList++y.data.toList=(x++y).data.toList:=by simp
   rw [e]
   exact ⟨_,by simp only [Op.stringOp];rw [if_neg hsz];rfl,fun Δ=> .str _⟩
  ·cases hv
 all_goals
  cases hv
  refine ⟨_,by simp only [Op.stringOp,ex,ey];rfl,fun Δ=> .bool _⟩
theorem eqGuard_ok {op:BinOp} {ty:Nat} {X Y:Operand} {x y:Value} (w:World) (h1:x≠ .nilIface) (h2:∀c,x≠ .agg c) :
  (eqGuard op ty X Y x y).run P0 w = .ok () w:=by
 cases op <;> unfold eqGuard <;> dsimp only <;> simp only [Bool.not_true,Bool.not_false,Bool.false_eq_true,if_true,if_false] <;> first
  | rfl
  | (split
     · exact absurd rfl h1
     · exact absurd rfl (h2 _)
     · rfl)
theorem hnil_deep {d:TypeDesc} {ty:Nat} {x y:V} {xv yv:Value} {b:Bool} (w:World) (dd:Nat) (hu:P0.underlying ty=some d) (hx:VRel Δ x xv) (hy:VRel Δ y yv)
  (hv:hnil d x y=some b):(Op.equalIn (dd+1) ty xv yv).run P0 w = .ok b w:=by
 unfold hnil at hv
 split at hv <;> first | (cases hv;done) | skip
 all_goals
  first
   | cases hv
   | (rw [bB_eq] at hv;obtain ⟨_,hv⟩:=hv;cases hv)
  cases hx
  cases hy
  simp only [Op.equalIn,Sem.run_bind,run_und hu,Result.andThen_ok]
  rfl
theorem guard_nil {ms:Array (String×TypeId)} {ty:Nat} (w:World) (dd:Nat) (hu:P0.underlying ty=some (.interface ms)) (hm:ms.isEmpty=true):(Op.eqGuardIn (dd+1) ty .nilIface .nilIface).run P0 w = .ok false w:=by
 simp only [Op.eqGuardIn,Sem.run_bind,run_und hu,Result.andThen_ok,hm]
 rfl
theorem hnil_ok {d:TypeDesc} {ty:Nat} {x y:V} {xv yv:Value} {b:Bool} (w:World) (hu:P0.underlying ty=some d) (hx:VRel Δ x xv) (hy:VRel Δ y yv)
  (hv:hnil d x y=some b):(Op.equal ty xv yv).run P0 w = .ok b w∧(∀op X Y,(eqGuard op ty X Y xv yv).run P0 w = .ok () w)∧
   (binOp .eql ty xv yv)=(do pure (.bool (←Op.equal ty xv yv)))∧(binOp .neq ty xv yv)=(do pure (.bool (!(←Op.equal ty xv yv)))):=by
 refine ⟨hnil_deep w 9999 hu hx hy hv,?_⟩
 unfold hnil at hv
 split at hv <;> first | (cases hv;done) | skip
 all_goals
  cases hx
  cases hy
 all_goals refine ⟨?_,rfl,rfl⟩
 all_goals intro op X Y
 any_goals (refine eqGuard_ok w ?_ ?_ <;> first | (intro e;cases e;done) | (intro c e;cases e;done))
 ·rename_i ms
  rw [bB_eq] at hv
  have hm:=hv.1
  have hin:=guard_nil w 9999 hu hm
  cases op <;> unfold eqGuard <;> dsimp only <;> simp only [Bool.not_true,Bool.not_false,Bool.false_eq_true,if_true,if_false] <;> first
   | rfl
   | (split
      · rfl
      · split
        · rfl
        · have hin' : Sem.run P0 (Op.eqGuardIn Op.maxDepth ty .nilIface .nilIface) w = .ok false w := hin
          rw [if_neg (by decide)]
          simp only [Sem.run_bind, hin', Result.andThen_ok]; rfl)
 ·cases op <;> rfl
theorem eq1_ok {ty:Nat} {x y:V} {xv yv:Value} {b:Bool} (w:World) (dd:Nat) (hx:VRel Δ x xv) (hy:VRel Δ y yv) (hv:eq1 (P0.underlying ty) x y=some b) :
  (Op.equalIn (dd+1) ty xv yv).run P0 w = .ok b w∧aggT ty=some false:=by
 unfold eq1 at hv
 split at hv
 ·rename_i hu
  cases hx;cases hy;cases hv
  refine ⟨?_,by unfold aggT;rw [hu]⟩
  simp only [Op.equalIn,Sem.run_bind,run_und hu,Result.andThen_ok]
  rfl
 ·rename_i hu
  cases hx;cases hy
  rw [bB_eq] at hv
  obtain ⟨hk,hv⟩:=hv
  obtain rfl:=kindEq_eq hk
  cases hv
  refine ⟨?_,by unfold aggT;rw [hu]⟩
  simp only [Op.equalIn,Sem.run_bind,run_und hu,Result.andThen_ok,if_true]
  rfl
 ·rename_i hu
  cases hx with | str xs=>cases hy with | str ys=>
  cases hv
  refine ⟨?_,by unfold aggT;rw [hu]⟩
  simp only [Op.equalIn,Sem.run_bind,run_und hu,Result.andThen_ok]
  have e:(xs.data.toList == ys.data.toList)=(xs == ys):=by
   rw [show (xs == ys)=(xs.data == ys.data) from rfl,Bool.eq_iff_iff,beq_iff_eq,beq_iff_eq]
   exact ⟨fun h=>Array.ext' h,fun h=>by rw [h]⟩
  rw [e]
  rfl
 ·cases hv
theorem eqCells_ok {xs ys:List V} {xs' ys' : Array Value} (w:World) (dd:Nat) (hx:VsRel Δ xs xs'.toList) (hy:VsRel Δ ys ys'.toList):∀{fs:List Field} {b:Bool},eqCells fs xs ys=some b→
  ((do
    for f in fs do
      if f.name ≠ "_" then
        if !(← Op.equalIn (dd + 1) f.type (← part f.type xs' f.offset) (← part f.type ys' f.offset)) then return false
    pure true : Sem Bool)).run P0 w = .ok b w
 | [],b,h=>by cases h;rfl
 | f :: fs, b, h => by
   simp only [eqCells, bB_eq, oB_eq, Bool.not_eq_true', beq_eq_false_iff_ne] at h
   obtain ⟨hn, x, h1, y, h2, c, h3, h4⟩ := h
   obtain ⟨xv, hx1, hxr⟩ := hx.get _ _ (at1_eq h1)
   obtain ⟨yv, hy1, hyr⟩ := hy.get _ _ (at1_eq h2)
   obtain ⟨he, ha⟩ := eq1_ok w dd hxr hyr h3
   have hpx : (part f.type xs' f.offset).run P0 w = .ok xv w := by
     have hx1' : xs'[f.offset]? = some xv := by simpa using hx1
     simp only [part, Sem.run_bind, run_agg ha, Result.andThen_ok, Bool.false_eq_true, if_false]
     simp [hx1']
   have hpy : (part f.type ys' f.offset).run P0 w = .ok yv w := by
     have hy1' : ys'[f.offset]? = some yv := by simpa using hy1
     simp only [part, Sem.run_bind, run_agg ha, Result.andThen_ok, Bool.false_eq_true, if_false]
     simp [hy1']
   have ih := fun {b} => eqCells_ok w dd hx hy (fs := fs) (b := b)
   cases c with
   | false =>
     cases h4
     simp only [List.forIn_cons, Sem.run_bind, ne_eq, hn, not_false_iff, if_true, hpx, hpy, he, Result.andThen_ok, Bool.not_false, Sem.run_pure]
   | true =>
     have h4' : eqCells fs xs ys = some b := h4
     have := ih h4'
     simp only [List.forIn_cons, Sem.run_bind, ne_eq, hn, not_false_iff, if_true, hpx, hpy, he, Result.andThen_ok, Bool.not_true, Bool.false_eq_true, if_false, Sem.run_pure] at this ⊢
     exact this
theorem agg_ok {ty:Nat} {xs ys:List V} {xv yv:Value} {b:Bool} (w:World) (hx:VRel Δ (.agg xs) xv) (hy:VRel Δ (.agg ys) yv) (hv:aggEq ty xs ys=some b) :
  (Op.equal ty xv yv).run P0 w = .ok b w∧(∀op X Y,(eqGuard op ty X Y xv yv).run P0 w = .ok () w)∧
   (binOp .eql ty xv yv)=(do pure (.bool (←Op.equal ty xv yv)))∧(binOp .neq ty xv yv)=(do pure (.bool (!(←Op.equal ty xv yv)))):=by
 cases hx with | agg _ xs' hx=>cases hy with | agg _ ys' hy=>
 unfold aggEq at hv
 split at hv
 ·rename_i fs hu
  simp only [bB_eq,Bool.not_eq_true'] at hv
  obtain ⟨hs,hg,hv⟩:=hv
  refine ⟨?_,fun op X Y=>?_,rfl,rfl⟩
  ·have h1:=eqCells_ok w 9998 hx hy hv
   show (Op.equalIn (9999+1) ty (.agg xs') (.agg ys')).run P0 w=_
   rw [Op.equalIn]
   simp only [Sem.run_bind,run_und hu,Result.andThen_ok,run_program,hs,Bool.false_eq_true,if_false,Sem.run_pure,←Array.forIn_toList] at h1 ⊢
   exact h1
  ·cases op <;> unfold eqGuard <;> dsimp only <;> simp only [Bool.not_true,Bool.not_false,Bool.false_eq_true,if_true,if_false] <;> first
    | rfl
    | (simp only [Sem.run_bind,run_program,Result.andThen_ok,hg,Bool.not_false,if_true];rfl)
 ·cases hv
theorem hbin_ok {op:BinOp} {ty:Nat} {X Y:Operand} {x y v:V} {xv yv:Value} (w:World) (hx:VRel Δ x xv) (hy:VRel Δ y yv) (hv:hbin op ty x y=some v) :
  ∃r,(do eqGuard op ty X Y xv yv;binOp op ty xv yv:Sem Value).run P0 w = .ok r w∧VRel Δ v r:=by
 unfold hbin at hv
 split at hv
 ·rename_i k p k' q
  cases hx;cases hy
  have hg:=eqGuard_ok (op:=op) (ty:=ty) (X:=X) (Y:=Y) (y:= .int k' q) w (x:= .int k p) (by simp) (by simp)
  split at hv
  ·obtain ⟨r,hr,hrel⟩:=hshift_ok (k':=k') ty w hv
   exact ⟨r,by simp only [Sem.run_bind,hg,Result.andThen_ok,hr],hrel Δ⟩
  ·rename_i hs
   rw [bB_eq] at hv
   obtain ⟨hk,hv⟩:=hv
   obtain rfl:=kindEq_eq hk
   obtain ⟨r,hr,hrel⟩:=hint_ok ty w hs hv
   exact ⟨r,by simp only [Sem.run_bind,hg,Result.andThen_ok,hr],hrel Δ⟩
 ·cases hx with | str xs=>cases hy with | str ys=>
  have hg:=eqGuard_ok (op:=op) (ty:=ty) (X:=X) (Y:=Y) (y:= .string ys) w (x:= .string xs) (by simp) (by simp)
  obtain ⟨r,hr,hrel⟩:=hstr_ok ty w hv
  exact ⟨r,by simp only [Sem.run_bind,hg,Result.andThen_ok,hr],hrel Δ⟩
 ·have key:∀neg,heql ty neg x y=some v→∃b,(Op.equal ty xv yv).run P0 w = .ok b w∧(∀op X Y,(eqGuard op ty X Y xv yv).run P0 w = .ok () w)∧
    (binOp .eql ty xv yv)=(do pure (.bool (←Op.equal ty xv yv)))∧(binOp .neq ty xv yv)=(do pure (.bool (!(←Op.equal ty xv yv))))∧v = .bool (Bool.rec (motive:=fun _=>Bool) b (!b) neg):=by
   clear hv
   intro neg hv1
   unfold heql heqT at hv1
   rw [oB_eq] at hv1
   obtain ⟨b,hb,hv1⟩:=hv1
   split at hb
   ·obtain ⟨he,h1,h3,h4⟩:=agg_ok w hx hy hb
    cases hv1
    exact ⟨b,he,h1,h3,h4,rfl⟩
   unfold hnilT at hb
   split at hb
   ·rename_i d hu
    obtain ⟨he,h1,h3,h4⟩:=hnil_ok w hu hx hy hb
    cases hv1
    exact ⟨b,he,h1,h3,h4,rfl⟩
   ·cases hb
  split at hv
  ·obtain ⟨b,he,h1,h3,_,rfl⟩:=key false hv
   have hg:=h1 .eql X Y
   exact ⟨.bool b,by rw [h3];simp only [Sem.run_bind,hg,Result.andThen_ok,he,Sem.run_pure], .bool b⟩
  ·obtain ⟨b,he,h1,_,h4,rfl⟩:=key true hv
   have hg:=h1 .neq X Y
   exact ⟨.bool (!b),by rw [h4];simp only [Sem.run_bind,hg,Result.andThen_ok,he,Sem.run_pure], .bool _⟩
  ·cases hv
theorem hun_ok {op:UnOp} {x v:V} {xv:Value} (w:World) (hx:VRel Δ x xv) (hv:hun op x=some v):∃r,(Op.unary op xv).run P0 w = .ok r w∧VRel Δ v r:=by
 unfold hun at hv
 split at hv
 ·cases hv;cases hx;rw [wrapF_eq];exact ⟨_,rfl, .int _ _⟩
 ·cases hv;cases hx;exact ⟨_,rfl, .bool _⟩
 ·simp only [hint] at hv;cases hv;cases hx;exact ⟨_,rfl, .int _ _⟩
 ·cases hv
theorem hconv_ok {src dst:Nat} {p:PF} {xv:Value} {v:V} (w:World) (hn:¬∃e,P0.underlying src=some (.slice e)∧P0.underlying dst=some .string) (hp:∀v,p.f t h=some v→VRel Δ v xv) (hv:(hconv src dst p).f t h=some v) :
  ∃r,(convert src dst xv).run P0 w = .ok r w∧VRel Δ v r:=by
 unfold hconv at hv
 split at hv
 ·rename_i k' k hs hd
  rw [oB_eq] at hv
  obtain ⟨x,h1,h2⟩:=hv
  have hr:=hp _ h1
  split at h2
  ·cases h2;cases hr;rw [wrapF_eq]
   exact ⟨_,by simp [convert,run_und hs,run_und hd,Conv.intToInt], .int _ _⟩
  ·cases h2
 ·rename_i hs hd
  rw [oB_eq] at hv
  obtain ⟨x,h1,h2⟩:=hv
  have hr:=hp _ h1
  split at h2
  ·cases h2;cases hr
   exact ⟨_,by simp [convert,run_und hs,run_und hd], .str _⟩
  ·cases h2
 ·rename_i e hs hd
  exact absurd ⟨e,hs,hd⟩ hn
 ·cases hv
theorem hpart_ok {ty:Nat} {cs:List V} {cs' : Array Value} {off:Nat} {v:V} (w:World) (hc:VsRel Δ cs cs'.toList) (hv:hpart ty cs off=some v) :
  ∃r,(part ty cs' off).run P0 w = .ok r w∧VRel Δ v r:=by
 unfold hpart at hv
 cases ha:aggT ty with
 | none=>simp [ha] at hv
 | some b=>cases b with
 | true =>
   simp only [ha] at hv
   cases hm : szOf ty with
   | none => simp [hm] at hv
   | some m =>
     simp only [hm, oB_eq] at hv
     obtain ⟨l, h1, h2⟩ := hv
     cases h2
     obtain ⟨hl, hg⟩ := sub_eq h1
     refine ⟨.agg (cs'.extract off (off + m)), by simp [part, run_agg ha, run_sz hm], .agg _ _ (VsRel.of_get ?_ ?_)⟩
     · have hcl := hc.length
       have : ∀ i, i < m → off + i < cs.length := fun i hi => by
         have := hg i hi
         rw [List.getElem?_eq_getElem (by omega)] at this
         exact (List.getElem?_eq_some_iff.1 this.symm).1
       simp only [Array.length_toList] at hcl
       simp only [Array.length_toList, Array.size_extract, hl]
       rcases Nat.eq_zero_or_pos m with h0 | h0
       · omega
       · have := this (m - 1) (by omega)
         omega
     · intro i v hi
       have him : i < m := by have := (List.getElem?_eq_some_iff.1 hi).1; omega
       rw [hg i him] at hi
       obtain ⟨x, hx, hr⟩ := hc.get _ _ hi
       refine ⟨x, ?_, hr⟩
       have hx' : cs'[off + i]? = some x := by simpa using hx
       have hlt : off + i < cs'.size := (Array.getElem?_eq_some_iff.1 hx').1
       rw [Array.getElem?_toList, Array.getElem?_extract]
       rw [if_pos (by omega)]
       exact hx'
 | false =>
   simp only [ha] at hv
   obtain ⟨x, hx, hr⟩ := hc.get _ _ (at1_eq hv)
   have hx' : cs'[off]? = some x := by simpa using hx
   exact ⟨x, by simp [part, run_agg ha, hx'], hr⟩
theorem fieldOf_eq {s f:Nat} {fd:Field} (h:fieldOf s f=some fd):∃fs,P0.underlying s=some (.struct fs)∧fs[f]? = some fd:=by
 unfold fieldOf at h
 split at h
 ·rename_i fs hu;exact ⟨fs,hu,by simpa using h⟩
 ·cases h
theorem hfieldAddr_ok {s f:Nat} {p:PF} {xv:Value} {v:V} (w:World) (hp:∀v,p.f t h=some v→VRel Δ v xv) (hv:(hfieldAddr s p f).f t h=some v) :
  ∃r,(Instr.fieldAt s xv f).run P0 w = .ok r w∧VRel Δ v r:=by
 unfold hfieldAddr at hv
 split at hv
 ·rename_i fd hf
  obtain ⟨fs,hu,hfd⟩:=fieldOf_eq hf
  split at hv
  ·rename_i m hm
   simp only [oB_eq,asPtr_eq] at hv
   obtain ⟨x,h1,l,off,rfl,h2⟩:=hv
   cases h2
   cases hp _ h1 with
   | ptr _ _ d hd =>
     refine ⟨_, by simp [Instr.fieldAt, run_und hu, hfd, Instr.sureAddr, fieldPlace, run_sz hm, addr_add]; rfl, ?_⟩
     have := VRel.ptr (Δ := Δ) l (off + fd.offset) d hd
     rw [← Nat.add_assoc] at this
     exact this
  ·cases hv
 ·cases hv
theorem hfield_ok {s f:Nat} {p:PF} {xv:Value} {v:V} (w:World) (hp:∀v,p.f t h=some v→VRel Δ v xv) (hv:(hfield s p f).f t h=some v) :
  ∃r,(Instr.field s xv f).run P0 w = .ok r w∧VRel Δ v r:=by
 unfold hfield at hv
 split at hv
 ·rename_i fd hf
  obtain ⟨fs,hu,hfd⟩:=fieldOf_eq hf
  rw [oB_eq] at hv
  obtain ⟨x,h1,h2⟩:=hv
  have hr:=hp _ h1
  split at h2
  ·cases hr with
   | agg _ cs' hc =>
     obtain ⟨r, hr, hrel⟩ := hpart_ok w hc h2
     exact ⟨r, by simp [Instr.field, run_und hu, hfd, asAgg, hr], hrel⟩
  ·cases h2
 ·cases hv
theorem hindexAddr_ok {ty:Nat} {p q:PF} {xv iv:Value} {v:V} (w:World) (hp:∀v,p.f t h=some v→VRel Δ v xv) (hq:∀v,q.f t h=some v→VRel Δ v iv)
  (hv:(hindexAddr ty p q).f t h=some v):∃r,(Instr.indexAt ty xv iv).run P0 w = .ok r w∧VRel Δ v r:=by
 unfold hindexAddr at hv
 split at hv
 ·rename_i elem hu
  split at hv
  ·rename_i m hm
   simp only [oB_eq,asNat_eq] at hv
   obtain ⟨x,h1,i,h2,kd,i',rfl,h3⟩:=hv
   have hx:=hp _ h1
   cases hq _ h2
   split at h3
   ·rename_i l off len
    rw [bB_eq] at h3
    obtain ⟨hlt,h3⟩:=h3
    cases h3
    rw [Nat.blt_eq] at hlt
    cases hx with
    | slice _ _ _ cap o d hd hk hl ho =>
      rcases ho with ⟨rfl, _, _⟩ | ⟨hc, _⟩
      · refine ⟨_, by simp [Instr.indexAt, asIntOf, run_und hu, run_sz hm, hlt, addr_add]; rfl, ?_⟩
        have := VRel.ptr (Δ := Δ) l (off + i' * m) d hd
        rw [← Nat.add_assoc] at this
        exact this
      · omega
   ·cases h3
  ·cases hv
 ·rename_i len elem hu
  split at hv
  ·rename_i m hm
   simp only [oB_eq,asNat_eq,asPtr_eq,bB_eq] at hv
   obtain ⟨x,h1,i,h2,kd,i',rfl,l,off,rfl,hlt,h3⟩:=hv
   cases h3
   rw [Nat.blt_eq] at hlt
   cases hq _ h2
   cases hp _ h1 with
   | ptr _ _ d hd =>
     refine ⟨_, by simp [Instr.indexAt, asIntOf, run_und hu, run_sz hm, hlt, addr_add, Instr.sureAddr]; rfl, ?_⟩
     have := VRel.ptr (Δ := Δ) l (off + i' * m) d hd
     rw [← Nat.add_assoc] at this
     exact this
  ·cases hv
 ·cases hv
theorem hindex_ok {ty:Nat} {p q:PF} {xv iv:Value} {v:V} (w:World) (hp:∀v,p.f t h=some v→VRel Δ v xv) (hq:∀v,q.f t h=some v→VRel Δ v iv)
  (hv:(hindex ty p q).f t h=some v):∃r,(Instr.index ty xv iv).run P0 w = .ok r w∧VRel Δ v r:=by
 unfold hindex at hv
 split at hv
 ·rename_i len elem hu
  split at hv
  ·rename_i m hm
   simp only [oB_eq,asNat_eq] at hv
   obtain ⟨x,h1,i,h2,kd,i',rfl,h3⟩:=hv
   have hx:=hp _ h1
   cases hq _ h2
   split at h3
   ·rw [bB_eq] at h3
    obtain ⟨hlt,h3⟩:=h3
    rw [Nat.blt_eq] at hlt
    cases hx with
    | agg _ cs' hc =>
      obtain ⟨r, hr, hrel⟩ := hpart_ok w hc h3
      refine ⟨r, ?_, hrel⟩
      have e : (Nat.mul i' m) = i' * m := rfl
      rw [e] at hr
      simp [Instr.index, asIntOf, run_und hu, run_sz hm, hlt, hr]
   ·cases h3
  ·cases hv
 ·rename_i hu
  simp only [oB_eq,asNat_eq] at hv
  obtain ⟨x,h1,i,h2,kd,i',rfl,h3⟩:=hv
  have hx:=hp _ h1
  cases hq _ h2
  split at h3
  ·rw [oB_eq] at h3
   obtain ⟨b,hb,h3⟩:=h3
   cases h3
   cases hx with
   | str s =>
     rw [List.head?_drop] at hb
     have hlt : i' < s.size := (List.getElem?_eq_some_iff.1 hb).1
     have hs : s[i']? = some b := by
       rw [getElem?_pos s i' hlt]
       have := (List.getElem?_eq_some_iff.1 hb).2
       simp only [Array.getElem_toList] at this
       rw [← this]; rfl
     exact ⟨.int .u8 b.toNat, by simp [Instr.index, asIntOf, run_und hu, hs], .int _ _⟩
  ·cases h3
 ·cases hv
end
end Go.Proofs.YtiepamfpilhcjaaDoor.Hx
namespace Go.Proofs.YtiepamfpilhcjaaDoor.Hx
section
variable {Δ:Env} {h:Hp} {w:World} {n:Nat} {t:Tm} {a:Act}
inductive OptRel (Δ:Env):Option V→Option Value→Prop
 | none:OptRel Δ none none
 | some (v:V) (v' : Value) (h:VRel Δ v v'):OptRel Δ (some v) (some v')
theorem optF_ok (hW:WR Δ h w) (hT:TR Δ n t a) {x:Option Operand} {v:Option V} (hv:optF x t h=some v):OptRel Δ v (x.map a.eval):=by
 cases x with
 | none=>simp only [optF] at hv;cases hv;exact .none
 | some x =>
   simp only [optF, oB_eq] at hv
   obtain ⟨y, h1, h2⟩ := hv
   cases h2
   exact .some _ _ (evO_ok hW hT h1)
theorem hbound_some {d m:Nat} {lo:Option V} (hv:hbound d lo=some m):(lo=none∧m=d)∨∃k,lo=some (.int k (.ofNat m)):=by
 unfold hbound at hv
 split at hv
 ·cases hv;exact .inl ⟨rfl,rfl⟩
 ·cases hv;exact .inr ⟨_,rfl⟩
 ·cases hv
theorem bound_ok {k:IntKind} {m y:Nat} {c:BoundsCode} (w:World) (hle:m≤y):(Instr.sliceBound (.int k (.ofNat m)) y c).run P0 w = .ok m w:=by
 have h1:(0:Int)≤Int.ofNat m∧(Int.ofNat m)≤(y:Int):=⟨Int.natCast_nonneg m,by simp;exact hle⟩
 simp only [Instr.sliceBound,asIntOf,Sem.run_bind,Sem.run_pure,Result.andThen_ok]
 rw [if_pos h1]
 rfl
theorem bounds_ok {isS:Bool} {len cap l u:Nat} {lo hi:Option V} {lo' hi' : Option Value} (w:World) (hlo:OptRel Δ lo lo') (hhi:OptRel Δ hi hi')
  (h1:hbound 0 lo=some l) (h2:hbound len hi=some u) (hlu:l≤u) (huc:u≤cap):(Instr.sliceBounds isS len cap lo' hi' none).run P0 w = .ok (l,u,cap) w:=by
 rcases hbound_some h1 with ⟨rfl,rfl⟩ | ⟨k,rfl⟩
 ·cases hlo
  rcases hbound_some h2 with ⟨rfl,rfl⟩ | ⟨k,rfl⟩
  ·cases hhi
   rfl
  ·cases hhi with | some _ _ hr=>
   cases hr
   simp only [Instr.sliceBounds,Sem.run_bind,Sem.run_pure,Result.andThen_ok,bound_ok w huc]
 ·cases hlo with | some _ _ hr=>
  cases hr
  rcases hbound_some h2 with ⟨rfl,rfl⟩ | ⟨k,rfl⟩
  ·cases hhi
   simp only [Instr.sliceBounds,Sem.run_bind,Sem.run_pure,Result.andThen_ok,bound_ok w hlu]
  ·cases hhi with | some _ _ hr=>
   cases hr
   simp only [Instr.sliceBounds,Sem.run_bind,Sem.run_pure,Result.andThen_ok,bound_ok w huc,bound_ok w hlu]
theorem hsliceV_ok (hW:WR Δ h w) {ty elem size:Nat} {x v:V} {xv:Value} {lo hi:Option V} {lo' hi' : Option Value} (hx:VRel Δ x xv) (hlo:OptRel Δ lo lo') (hhi:OptRel Δ hi hi')
  (hu:P0.underlying ty=some (.slice elem)) (hs:szOf elem=some (size+1)) (hv:hsliceV (Nat.succ size) x lo hi h=some v) :
  ∃r,(Instr.sliceAt ty xv lo' hi' none).run P0 w = .ok r w∧VRel Δ v r:=by
 unfold hsliceV at hv
 split at hv
 ·rename_i lc off len
  rw [cellsAt_eq] at hv
  obtain ⟨e,sz,live,ro,cs,hg,hv⟩:=hv
  simp only [bB_eq,oB_eq] at hv
  obtain ⟨hsz,l,h1,u,h2,hlu,hle,hv⟩:=hv
  cases hv
  have hsz':=Nat.eq_of_beq_eq_true hsz
  have hlu':=Nat.le_of_ble_eq_true hlu
  cases hx with
  | slice _ _ _ cap o d hd hk hl ho =>
    obtain ⟨ob, hob, hr⟩ := hW.obj lc d hd
    rw [hg] at hob
    cases hob
    obtain ⟨_, hdsz, hdn, _, _⟩ := hr
    have huc : u ≤ cap := by
      rw [Bool.or_eq_true] at hle
      rcases hle with hle | hle
      · exact Nat.le_trans (Nat.le_of_ble_eq_true hle) hl
      · have hle' : off + u * (size + 1) ≤ cs.length := Nat.le_of_ble_eq_true hle
        rcases ho with ⟨_, hb, _⟩ | ⟨hc, hb⟩
        · rw [hdsz, ← hsz'] at hb
          have : u * (size + 1) ≤ cap * (size + 1) := by have e : Nat.succ size = size + 1 := rfl; rw [e] at hb; omega
          exact Nat.le_of_mul_le_mul_right this (by omega)
        · have : u * (size + 1) = 0 := by omega
          rcases Nat.mul_eq_zero.1 this with h0 | h0 <;> omega
    have hrun := bounds_ok (isS := true) (len := len) (cap := cap) w hlo hhi h1 h2 hlu' huc
    have hlc : l ≤ cap := Nat.le_trans hlu' huc
    refine ⟨.slice (if cap = l then some ⟨d.b, o, none⟩ else some ⟨d.b, o + l * (size + 1), none⟩) (u - l) (cap - l), ?_, ?_⟩
    · simp only [Instr.sliceAt, Sem.run_bind, run_und hu, Result.andThen_ok, Instr.slice, hrun, run_sz hs]
      split <;> simp [addr_add, *]
    · have hmul : cap * d.sz = l * d.sz + (cap - l) * d.sz := by rw [← Nat.add_mul]; congr 1; omega
      have e2 : d.sz = size + 1 := by rw [hdsz, ← hsz']
      split
      · rename_i hcl
        refine .slice lc (Nat.add off (Nat.mul l (Nat.succ size))) (Nat.sub u l) (cap - l) o d hd hk ?_ (.inr ⟨by omega, ?_⟩)
        · show u - l ≤ cap - l; omega
        · show d.n ≤ off + l * (size + 1)
          rcases ho with ⟨_, hb, _⟩ | ⟨hc, hb⟩
          · rw [hcl, e2] at hb; exact hb
          · omega
      · rename_i hcl
        refine .slice lc (Nat.add off (Nat.mul l (Nat.succ size))) (Nat.sub u l) (cap - l) (o + l * (size + 1)) d hd hk ?_ (.inl ?_)
        · show u - l ≤ cap - l; omega
        · show o + l * (size + 1) = d.base + (off + l * (size + 1)) ∧ d.n ≤ off + l * (size + 1) + (cap - l) * d.sz ∧ d.base + (off + l * (size + 1)) + (cap - l) * d.sz ≤ d.asz
          rcases ho with ⟨ho, hb, hb'⟩ | ⟨hc, hb⟩
          · rw [e2] at hmul hb hb' ⊢
            omega
          · omega
 ·simp only [bB_eq,oB_eq] at hv
  obtain ⟨l,h1,u,h2,hl,hu',hv⟩:=hv
  cases hv
  have hl0:=Nat.eq_of_beq_eq_true hl
  have hu0:=Nat.eq_of_beq_eq_true hu'
  subst hl0;subst hu0
  cases hx
  have hrun:=bounds_ok (isS:=true) (len:=0) (cap:=0) w hlo hhi h1 h2 (Nat.le_refl _) (Nat.le_refl _)
  exact ⟨.slice none 0 0,by simp [Instr.sliceAt,run_und hu,Instr.slice,hrun,run_sz hs], .nilSlice⟩
 ·cases hv
theorem extract_list (s:ByteArray) (p q:Nat):(s.extract p q).data.toList=(s.data.toList.drop p).take (q - p):=by
 obtain ⟨⟨l⟩⟩:=s
 rw [ByteArray.extract_mk]
theorem hsliceS_ok {ty:Nat} {x v:V} {xv:Value} {lo hi:Option V} {lo' hi' : Option Value} (w:World) (hx:VRel Δ x xv) (hlo:OptRel Δ lo lo') (hhi:OptRel Δ hi hi')
  (hu:P0.underlying ty=some .string) (hv:hsliceS x lo hi=some v):∃r,(Instr.sliceAt ty xv lo' hi' none).run P0 w = .ok r w∧VRel Δ v r:=by
 unfold hsliceS at hv
 split at hv
 ·simp only [bB_eq,oB_eq] at hv
  obtain ⟨l,h1,u,h2,hlu,hus,hv⟩:=hv
  cases hv
  cases hx with
  | str s =>
    have hrun := bounds_ok (isS := false) (len := s.size) (cap := s.size) w hlo hhi h1 h2 (Nat.le_of_ble_eq_true hlu) (Nat.le_of_ble_eq_true hus)
    refine ⟨.string (s.extract l u), by simp [Instr.sliceAt, run_und hu, Instr.slice, hrun], ?_⟩
    have := VRel.str (Δ := Δ) (s.extract l u)
    rw [extract_list] at this
    exact this
 ·cases hv
theorem hslice_ok (hW:WR Δ h w) (hT:TR Δ n t a) {ty:Nat} {p:PF} {xv:Value} {lo hi:Option Operand} {v:V} (hp:∀v,p.f t h=some v→VRel Δ v xv)
  (hv:(hslice ty p lo hi).f t h=some v):∃r,(Instr.sliceAt ty xv (lo.map a.eval) (hi.map a.eval) none).run P0 w = .ok r w∧VRel Δ v r:=by
 unfold hslice at hv
 split at hv
 ·rename_i hu
  simp only [oB_eq] at hv
  obtain ⟨x,h1,l,h2,u,h3,h4⟩:=hv
  exact hsliceS_ok w (hp _ h1) (optF_ok hW hT h2) (optF_ok hW hT h3) hu h4
 ·rename_i elem hu
  split at hv
  ·rename_i m hm
   simp only [oB_eq] at hv
   obtain ⟨x,h1,l,h2,u,h3,h4⟩:=hv
   exact hsliceV_ok hW (hp _ h1) (optF_ok hW hT h2) (optF_ok hW hT h3) hu hm h4
  ·cases hv
 ·cases hv
theorem flatEq_ok {ty:Nat} {x y:V} {xv yv:Value} {b:Bool} (hx:VRel Δ x xv) (hy:VRel Δ y yv) (hv:flatEq ty x y=some b) :
  (∀dd w,(Op.equalIn (dd+1) ty xv yv).run P0 w = .ok b w)∧(∀d,P0.underlying ty=some d→Instr.sameNow d xv yv=some b):=by
 unfold flatEq at hv
 split at hv
 ·rename_i hu
  split at hv
  ·rw [bB_eq] at hv
   obtain ⟨hk,hv⟩:=hv
   cases hv
   obtain rfl:=kindEq_eq hk
   cases hx;cases hy
   exact ⟨fun dd w=>run_equalIn_int w dd ty _ _ _ _ hu,fun d hd=>by rw [hu] at hd;cases hd;simp [Instr.sameNow]⟩
  ·cases hv
 ·rename_i hu
  split at hv
  ·cases hv
   cases hx with | str xs=>cases hy with | str ys=>
   refine ⟨fun dd w=>?_,fun d hd=>?_⟩
   ·rw [run_equalIn_string w dd ty _ _ hu,ByteArray.toList_eq,ByteArray.toList_eq]
   ·rw [hu] at hd;cases hd
    simp only [Instr.sameNow]
    rw [beq_toListBytes,ByteArray.toList_eq,ByteArray.toList_eq]
  ·cases hv
 ·rename_i hu
  split at hv
  ·cases hv
   cases hx;cases hy
   exact ⟨fun dd w=>run_equalIn_bool' w dd ty _ _ hu,fun d hd=>by rw [hu] at hd;cases hd;simp [Instr.sameNow]⟩
  ·cases hv
 ·cases hv
theorem flatT_agg {ty:Nat} (hf:flatT ty=true):aggT ty=some false:=by
 unfold flatT at hf
 unfold aggT
 split at hf <;> simp_all
theorem part_flat {ty:Nat} {cs:List V} {cs' : Array Value} {off:Nat} {v:V} (w:World) (hf:flatT ty=true) (hc:VsRel Δ cs cs'.toList) (hv:at1 cs off=some v) :
  ∃x,(part ty cs' off).run P0 w = .ok x w∧VRel Δ v x:=
 hpart_ok w hc (by unfold hpart;rw [flatT_agg hf];exact hv)
theorem rowEq_ok:∀{fs:List Field} {x y:List V} {xs ys:Array Value} {b:Bool},(∀f∈fs,flatT f.type=true∧f.name≠ "_")→VsRel Δ x xs.toList→VsRel Δ y ys.toList→
  rowEq fs x y=some b→∀dd w,(Op.eqFields (dd+1) xs ys fs).run P0 w = .ok b w
 | [],x,y,xs,ys,b,_,_,_,hv,dd,w=>by simp [rowEq] at hv;subst hv;rfl
 | f :: fs, x, y, xs, ys, b, hf, hx, hy, hv, dd, w => by
   simp only [rowEq, oB_eq] at hv
   obtain ⟨p, h1, q, h2, e, h3, h4⟩ := hv
   obtain ⟨hft, hfn⟩ := hf f (by simp)
   obtain ⟨p', hp, hpr⟩ := part_flat w hft hx h1
   obtain ⟨q', hq, hqr⟩ := part_flat w hft hy h2
   have he := (flatEq_ok hpr hqr h3).1 dd w
   simp only [Op.eqFields]
   rw [if_pos hfn]
   simp only [Sem.run_bind, hp, hq, he, Result.andThen_ok]
   cases e with
   | false => cases h4; rfl
   | true => exact rowEq_ok (fun f hm => hf f (by simp [hm])) hx hy h4 dd w
theorem keyD_flat {ty:Nat} (hd:keyD ty=some none):flatT ty=true:=by
 unfold keyD at hd
 unfold flatT
 split at hd <;> first | (split at hd <;> cases hd) | simp_all
theorem keyD_row {ty:Nat} {fs:List Field} (hd:keyD ty=some (some fs)):∃arr,P0.underlying ty=some (.struct arr)∧arr.toList=fs∧P0.stoodInHeld ty=false∧∀f∈fs,flatT f.type=true∧f.name≠ "_" :=by
 unfold keyD at hd
 split at hd
 ·cases hd
 ·cases hd
 ·cases hd
 ·rename_i arr hu
  split at hd
  ·rename_i hb
   cases hd
   simp only [Bool.and_eq_true,Bool.not_eq_true',List.all_eq_true,bne_iff_ne,ne_eq] at hb
   exact ⟨arr,hu,rfl,hb.1,hb.2⟩
  ·cases hd
 ·cases hd
theorem keyEq_ok {ty:Nat} {d:Option (List Field)} {x y:V} {xv yv:Value} {b:Bool} (hd:keyD ty=some d) (hx:VRel Δ x xv) (hy:VRel Δ y yv) (hv:keyEq ty d x y=some b) (w:World) :
  (Op.equal ty xv yv).run P0 w = .ok b w:=by
 cases d with
 | none=>exact (flatEq_ok hx hy hv).1 9999 w
 | some fs =>
   obtain ⟨arr, hu, harr, hs, hf⟩ := keyD_row hd
   simp only [keyEq] at hv
   split at hv
   · cases hx with | agg _ xs hx => cases hy with | agg _ ys hy =>
     have hfo : P0.fieldsOf ty = arr := by simp [Program.fieldsOf, hu]
     have := run_equalIn_struct (P := P0) w 9999 ty xs ys (by rw [hfo]; exact hu) hs
     rw [hfo, harr] at this
     exact this.trans (rowEq_ok hf hx hy hv 9998 w)
   · cases hv
def FRel (Δ:Env):Option (Nat×V)→Option (Nat×Value)→Prop
 | none,none=>True
 | some (i,v),some (i',v')=>i=i'∧VRel Δ v v'
 | _,_=>False
theorem findAsking_ok {ty:Nat} {d:Option (List Field)} {k:V} {kv:Value} (hd:keyD ty=some d) (hk:VRel Δ k kv) (w:World):∀{es:List (V×V×Nat)} {es' : List MapEntry} {i:Nat} {r:Option (Nat×V)},
  ERel Δ es es'→findV ty d k es i=some r→∃r',(Instr.findAsking ty kv es' i).run P0 w = .ok r' w∧FRel Δ r r'
 | _,_,i,r, .nil,hv=>by simp [findV] at hv;subst hv;exact ⟨none,rfl,trivial⟩
 | _, _, i, r, .cons k' v n e es es' hk' hv' hb hs, hv => by
   simp only [findV, oB_eq] at hv
   obtain ⟨b, h1, h2⟩ := hv
   have he := keyEq_ok hd hk hk' h1 w
   simp only [Instr.findAsking, Sem.run_bind, he, Result.andThen_ok]
   cases b with
   | true => cases h2; exact ⟨some (i, e.val), rfl, rfl, hv'⟩
   | false => exact findAsking_ok hd hk w hs h2
theorem findNow_ok {ty:Nat} {k:V} {kv:Value} {ds:TypeDesc} (hu:P0.underlying ty=some ds) (hk:VRel Δ k kv):∀{es:List (V×V×Nat)} {es' : List MapEntry} {i:Nat} {r:Option (Nat×V)},
  ERel Δ es es'→findV ty none k es i=some r→∃r',Instr.findNow ds kv es' i=some r'∧FRel Δ r r'
 | _,_,i,r, .nil,hv=>by simp [findV] at hv;subst hv;exact ⟨none,rfl,trivial⟩
 | _, _, i, r, .cons k' v n e es es' hk' hv' hb hs, hv => by
   simp only [findV, oB_eq] at hv
   obtain ⟨b, h1, h2⟩ := hv
   have he := (flatEq_ok hk hk' h1).2 ds hu
   simp only [Instr.findNow, he]
   cases b with
   | true => cases h2; exact ⟨some (i, e.val), rfl, rfl, hv'⟩
   | false => exact findNow_ok hu hk hs h2
theorem findKey_ok {ty:Nat} {d:Option (List Field)} {k:V} {kv:Value} (hd:keyD ty=some d) (hk:VRel Δ k kv) (w:World) {es:List (V×V×Nat)} {es' : List MapEntry} {r:Option (Nat×V)}
  (he:ERel Δ es es') (hv:findV ty d k es 0=some r):∃r',(Instr.findKey ty kv es').run P0 w = .ok r' w∧FRel Δ r r':=by
 cases d with
 | none =>
   have hf := keyD_flat hd
   unfold flatT at hf
   cases hu : P0.underlying ty with
   | none => simp [hu] at hf
   | some ds =>
     obtain ⟨r', h1, h2⟩ := findNow_ok hu hk he hv
     exact ⟨r', by simp [Instr.findKey, run_und hu, h1], h2⟩
 | some fs =>
   obtain ⟨arr, hu, _, _, _⟩ := keyD_row hd
   cases he with
   | nil =>
     simp [findV] at hv; subst hv
     exact ⟨none, by simp [Instr.findKey, run_und hu, Instr.findNow], trivial⟩
   | cons k' v n e es es' hk' hv' hb hs =>
     obtain ⟨r', h1, h2⟩ := findAsking_ok hd hk w (.cons k' v n e es es' hk' hv' hb hs) hv
     refine ⟨r', ?_, h2⟩
     have hno : Instr.findNow (.struct arr) kv (e :: es') 0 = none := by
       simp only [Instr.findNow]
       have : Instr.sameNow (.struct arr) kv e.key = none := by cases kv <;> rfl
       rw [this]
     simp only [Instr.findKey, Sem.run_bind, run_und hu, Result.andThen_ok, hno]
     exact h1
theorem checkFields_ok {em:Bool} {q:Nat} {cs:List V} {cs' : Array Value} (w:World) (hq:0<q) (hc:VsRel Δ cs cs'.toList):∀(fs:List Field),(∀f∈fs,flatT f.type=true∧f.name≠ "_")→
  (fs.all fun f=>(at1 cs f.offset).isSome)=true→
  (forIn fs PUnit.unit (fun f _=>if f.name≠ "_" then do
    let x ←part f.type cs' f.offset
    Instr.checkKey em q f.type x
    pure (ForInStep.yield PUnit.unit)
   else pure (ForInStep.yield PUnit.unit):Field→PUnit→Sem (ForInStep PUnit))).run P0 w = .ok PUnit.unit w
 | [],_,_=>rfl
 | f :: fs, hf, hh => by
   obtain ⟨m, rfl⟩ : ∃ m, q = m + 1 := ⟨q - 1, by omega⟩
   obtain ⟨hft, hfn⟩ := hf f (by simp)
   simp only [List.all_cons, Bool.and_eq_true] at hh
   obtain ⟨v, hv⟩ := Option.isSome_iff_exists.1 hh.1
   obtain ⟨x, hx, hr⟩ := part_flat w hft hc hv
   have hck : (Instr.checkKey em (m + 1) f.type x).run P0 w = .ok () w := by
     unfold flatT at hft
     split at hft
     · rename_i hu; simp [Instr.checkKey, run_und hu]
     · rename_i hu; simp [Instr.checkKey, run_und hu]
     · rename_i hu; simp [Instr.checkKey, run_und hu]
     · cases hft
   have ih := checkFields_ok (em := em) (q := m + 1) w hq hc fs (fun f hm => hf f (by simp [hm])) hh.2
   rw [List.forIn_cons]
   rw [if_pos hfn]
   simp only [Sem.run_bind, hx, hck, Result.andThen_ok, Sem.run_pure]
   exact ih
theorem checkKey_ok {ty:Nat} {d:Option (List Field)} {k:V} {kv:Value} (em:Bool) (q:Nat) (hq:0<q) (w:World) (hd:keyD ty=some d) (hk:VRel Δ k kv) (hh:keyHas d k=true) :
  (Instr.checkKey em (q+1) ty kv).run P0 w = .ok () w:=by
 cases d with
 | none =>
   have hft := keyD_flat hd
   unfold flatT at hft
   split at hft
   · rename_i hu; simp [Instr.checkKey, run_und hu]
   · rename_i hu; simp [Instr.checkKey, run_und hu]
   · rename_i hu; simp [Instr.checkKey, run_und hu]
   · cases hft
 | some fs =>
   obtain ⟨arr, hu, harr, _, hf⟩ := keyD_row hd
   simp only [keyHas] at hh
   split at hh
   · cases hk with
     | agg cs cs' hc =>
       have := checkFields_ok (em := em) (q := q) w hq hc fs hf hh
       rw [← harr, Array.forIn_toList] at this
       simp only [Instr.checkKey, Sem.run_bind, run_und hu, Result.andThen_ok, this]
       rfl
   · cases hh
end
end Go.Proofs.YtiepamfpilhcjaaDoor.Hx
namespace Go.Proofs.YtiepamfpilhcjaaDoor.Hx
section
variable {Δ:Env} {h:Hp} {w:World} {n:Nat} {t:Tm} {a:Act}
theorem map_ok (hW:WR Δ h w) {l:Nat} {d:D} (hl:Δ l=some d) {es:List (V×V×Nat)} {c:Nat} (hg:h.get l=some (.map es c)) :
  ∃es',w.heap[d.b]? = some (.map es' c)∧ERel Δ es es'.toList:=by
 obtain ⟨o,ho,hr⟩:=hW.obj l d hl
 rw [hg] at ho
 cases ho
 obtain ⟨_,_,_,es',h1,h2⟩:=hr
 exact ⟨es',h1,h2⟩
theorem run_getObj_map {r:Nat} {es:Array MapEntry} {c:Nat} (hg:w.heap[r]? = some (.map es c)):(getObj r).run P0 w = .ok (.map es c) w:=by simp [getObj,Sem.run,hg]
theorem found_ok {z:V} {zv:Value} {ok:Bool} {r:Option (Nat×V)} {r' : Option (Nat×Value)} (hz:VRel Δ z zv) (hr:FRel Δ r r') :
  VRel Δ (found z ok r) (match r' with
   | some (_,v)=>if ok then .tuple #[v, .bool true] else v
   | none=>if ok then .tuple #[zv, .bool false] else zv):=by
 cases r with
 | none => cases r' with
   | none => cases ok
             · exact hz
             · exact .tuple _ _ (.cons _ _ _ _ hz (.one (.bool false)))
   | some _ => cases hr
 | some x => cases r' with
   | none => cases hr
   | some x' =>
     obtain ⟨_, hv⟩ := hr
     cases ok
     · exact hv
     · exact .tuple _ _ (.cons _ _ _ _ hv (.one (.bool true)))
theorem hlookup_ok (hW:WR Δ h w) {mT:Nat} {p q:PF} {ok:Bool} {mv kv:Value} {v:V} (hp:∀v,p.f t h=some v→VRel Δ v mv) (hq:∀v,q.f t h=some v→VRel Δ v kv)
  (hv:(hlookup mT p q ok).f t h=some v):∃r,(Instr.lookup mT mv kv ok).run P0 w = .ok r w∧VRel Δ v r:=by
 unfold hlookup at hv
 split at hv
 ·rename_i kt et hu
  split at hv
  ·rename_i d z hd hz
   obtain ⟨zv,hzr,hzv,_⟩:=run_zero hz
   simp only [oB_eq,bB_eq] at hv
   obtain ⟨m,h1,k,h2,hh,h3⟩:=hv
   have hm:=hp _ h1
   have hk:=hq _ h2
   split at h3
   ·cases h3;cases hm
    have hck:=checkKey_ok true 9999 (by omega) w hd hk hh
    have hf:=findKey_ok hd hk w ERel.nil (r:=none) (by simp [findV])
    obtain ⟨r',hf,hr⟩:=hf
    have hr' : r' = none:=by cases r' <;> first | rfl | cases hr
    subst hr'
    refine ⟨_,?_,found_ok (ok:=ok) (r:=none) (r':=none) (hzv Δ) trivial⟩
    simp only [Instr.lookup,Sem.run_bind,run_und hu,Result.andThen_ok,Sem.run_pure]
    rw [show (#[]:Array MapEntry).isEmpty=true from rfl,hck]
    simp only [Result.andThen_ok]
    rw [hf]
    simp only [Result.andThen_ok,Sem.run_bind,hzr,Sem.run_pure]
   ·simp only [mapAt_eq,oB_eq] at h3
    obtain ⟨es,c,hg,r,hf,h3⟩:=h3
    cases h3
    cases hm with
    | map l d' hl =>
      obtain ⟨es', hb, he⟩ := map_ok hW hl hg
      obtain ⟨r', hf, hr⟩ := findKey_ok hd hk w he hf
      have hck := checkKey_ok es'.isEmpty 9999 (by omega) w hd hk hh
      refine ⟨_, ?_, found_ok (ok := ok) (hzv Δ) hr⟩
      simp only [Instr.lookup, Sem.run_bind, run_und hu, Result.andThen_ok, Sem.run_pure, run_getObj_map hb, hck, hf]
      cases r' with
      | none => simp only [Sem.run_bind, hzr, Result.andThen_ok, Sem.run_pure]
      | some x => rfl
   ·cases h3
  ·cases hv
 ·cases hv
theorem hlen_ok (hW:WR Δ h w) {ty:Nat} {tys:Array Nat} (hty:tys[0]? = some ty) {rt:Nat} {p:PF} {xv:Value} {v:V} (hp:∀v,p.f t h=some v→VRel Δ v xv)
  (hv:(hlen ty p).f t h=some v):∃r,(Builtin.len_ tys rt #[xv]).run P0 w = .ok r w∧VRel Δ v r:=by
 unfold hlen at hv
 split at hv
 ·rename_i hu
  rw [oB_eq] at hv
  obtain ⟨x,h1,h2⟩:=hv
  have hx:=hp _ h1
  split at h2
  ·cases h2
   cases hx with
   | str s=>exact ⟨goInt s.size,by simp [Builtin.len_,hty,run_und hu], .int _ _⟩
  ·cases h2
 ·rename_i e hu
  rw [oB_eq] at hv
  obtain ⟨x,h1,h2⟩:=hv
  have hx:=hp _ h1
  split at h2
  ·rename_i lc off m
   cases h2;cases hx;exact ⟨goInt m,by simp [Builtin.len_,hty,run_und hu], .int _ _⟩
  ·cases h2;cases hx;exact ⟨goInt 0,by simp [Builtin.len_,hty,run_und hu], .int _ _⟩
  ·cases h2
 ·rename_i m e hu
  rw [oB_eq] at hv
  obtain ⟨x,h1,h2⟩:=hv
  cases h2
  exact ⟨goInt m,by simp [Builtin.len_,hty,run_und hu], .int _ _⟩
 ·rename_i k e hu
  rw [oB_eq] at hv
  obtain ⟨x,h1,h2⟩:=hv
  have hx:=hp _ h1
  split at h2
  ·cases h2;cases hx;exact ⟨goInt 0,by simp [Builtin.len_,hty,run_und hu], .int _ _⟩
  ·rw [mapAt_eq] at h2
   obtain ⟨es,c,hg,h2⟩:=h2
   cases h2
   cases hx with
   | map l d hl =>
     obtain ⟨es', hb, he⟩ := map_ok hW hl hg
     have hlen : es.length = es'.size := by
       have : ∀ {a : List (V × V × Nat)} {b : List MapEntry}, ERel Δ a b → a.length = b.length := fun h => by induction h <;> simp_all
       simpa using this he
     refine ⟨goInt es'.size, by simp [Builtin.len_, hty, run_und hu, run_getObj_map hb], ?_⟩
     rw [hlen]; exact .int _ _
  ·cases h2
 ·cases hv
theorem hmin_ok {gt:Bool} (w:World):∀{l:List V} {l' : List Value} {x:V} {x' : Value} {v:V},VRel Δ x x'→VsRel Δ l l'→hmin gt x l=some v→
  ∃r,(l'.foldlM (if gt then Builtin.max2 else Builtin.min2) x').run P0 w = .ok r w∧VRel Δ v r
 | [],_,x,x',v,hx,hl,hv=>by simp [hmin] at hv;subst hv;cases hl;exact ⟨x',rfl,hx⟩
 | y :: l, _, x, x', v, hx, hl, hv => by
   cases hl with
   | cons _ y' _ l' hy hs =>
     unfold hmin at hv
     split at hv
     · rename_i e; cases e
     · rename_i k p k' q r e1
       cases e1
       cases hx; cases hy
       obtain ⟨res, h1, h2⟩ := hmin_ok w (.int k _) hs hv
       refine ⟨res, ?_, h2⟩
       rw [List.foldlM_cons]
       simp only [Sem.run_bind]
       cases gt
       · simp only [Bool.false_eq_true, if_false, Builtin.min2, Sem.run_pure, Result.andThen_ok] at h1 ⊢; exact h1
       · simp only [if_true, Builtin.max2, Sem.run_pure, Result.andThen_ok] at h1 ⊢; exact h1
     · cases hv
theorem isIface_eq {ty:Nat} (hi:isIface ty=some false):∃d,P0.underlying ty=some d∧∀m,d≠ .interface m:=by
 unfold isIface at hi
 split at hi
 ·cases hi
 ·rename_i d hn hu;exact ⟨d,hu,fun m e=>hn m (by rw [e])⟩
 ·cases hi
theorem hassert_ok {p:PF} {asserted xT:Nat} {ok:Bool} {xv:Value} {v:V} (w:World) (hp:∀v,p.f t h=some v→VRel Δ v xv)
  (hv:(hassert p asserted ok).f t h=some v):∃r,(Instr.typeAssert xv xT asserted ok).run P0 w = .ok r w∧VRel Δ v r:=by
 unfold hassert at hv
 split at hv
 ·rename_i z hi hz
  obtain ⟨zv,hzr,hzv,_⟩:=run_zero hz
  obtain ⟨d,hu,hd⟩:=isIface_eq hi
  rw [oB_eq] at hv
  obtain ⟨x,h1,h2⟩:=hv
  have hx:=hp _ h1
  split at h2
  ·rename_i u y
   cases h2
   cases hx with
   | iface _ _ y' hy =>
     rw [brec_eq]
     by_cases e : u = asserted
     · have e' : Nat.beq u asserted = true := by rw [e]; exact Nat.beq_refl _
       rw [if_pos e']
       refine ⟨.tuple #[y', .bool true], ?_, .tuple _ _ (.cons _ _ _ _ hy (.one (.bool true)))⟩
       simp only [Instr.typeAssert, Sem.run_bind, run_und hu, Result.andThen_ok]
       cases d <;> first | exact absurd rfl (hd _) | (rw [if_pos e]; rfl)
     · have e' : ¬ Nat.beq u asserted = true := fun h => e (Nat.eq_of_beq_eq_true h)
       rw [if_neg e']
       refine ⟨.tuple #[zv, .bool false], ?_, .tuple _ _ (.cons _ _ _ _ (hzv Δ) (.one (.bool false)))⟩
       simp only [Instr.typeAssert, Sem.run_bind, run_und hu, Result.andThen_ok]
       cases d <;> first | exact absurd rfl (hd _) | (rw [if_neg e]; simp [hzr])
  ·rename_i u y
   rw [bB_eq] at h2
   obtain ⟨e,h2⟩:=h2
   cases h2
   have e:=Nat.eq_of_beq_eq_true e
   cases hx with
   | iface _ _ y' hy =>
     refine ⟨y', ?_, hy⟩
     simp only [Instr.typeAssert, Sem.run_bind, run_und hu, Result.andThen_ok]
     cases d <;> first | exact absurd rfl (hd _) | (rw [if_pos e]; rfl)
  ·cases h2
   cases hx
   refine ⟨.tuple #[zv, .bool false],?_, .tuple _ _ (.cons _ _ _ _ (hzv Δ) (.one (.bool false)))⟩
   simp only [Instr.typeAssert,Sem.run_bind,run_und hu,Result.andThen_ok]
   cases d <;> first | exact absurd rfl (hd _) | simp [hzr]
  ·cases h2
 ·cases hv
theorem hpick_ok {c p q:PF} {cv pv qv:Value} {v:V} (w:World) (hc:∀v,c.f t h=some v→VRel Δ v cv) (hp:∀v,p.f t h=some v→VRel Δ v pv) (hq:∀v,q.f t h=some v→VRel Δ v qv)
  (hv:(hpick c p q).f t h=some v):∃r,(do pure (Next.value (if ←asBool cv then pv else qv)):Sem Next).run P0 w = .ok (.value r) w∧VRel Δ v r:=by
 unfold hpick at hv
 simp only [oB_eq] at hv
 obtain ⟨x,h1,h2⟩:=hv
 have hx:=hc _ h1
 split at h2
 ·rename_i b
  cases hx
  cases b
  ·exact ⟨qv,by simp [asBool],hq _ h2⟩
  ·exact ⟨pv,by simp [asBool],hp _ h2⟩
 ·cases h2
theorem hnilCheck_ok {p:PF} {x:Operand} {v:V} (w:World) (hp:∀v,p.f t h=some v→VRel Δ v (a.eval x)) (hv:(hnilCheck p).f t h=some v) {dst ty pos af gd} :
  (execOp a.eval { dst:=dst,op:= .nilCheck x,type:=ty,pos:=pos,after:=af,guard:=gd }).run P0 w = .ok (.value (a.eval x)) w∧VRel Δ v (a.eval x):=by
 unfold hnilCheck at hv
 rw [oB_eq] at hv
 obtain ⟨y,h1,h2⟩:=hv
 have hy:=hp _ h1
 simp only [execOp]
 generalize a.eval x=xv at hy ⊢
 split at h2
 ·cases h2;cases hy with | ptr _ _ d hd=>exact ⟨rfl, .ptr _ _ d hd⟩
 ·cases h2;cases hy with | func _ _ _ p' q' h1 h2=>exact ⟨rfl, .func _ _ _ p' q' h1 h2⟩
 ·cases h2;cases hy with | iface _ _ v' hv=>exact ⟨rfl, .iface _ _ v' hv⟩
 ·cases h2
theorem hextract_ok {p:PF} {i:Nat} {xv:Value} {v:V} (w:World) (hp:∀v,p.f t h=some v→VRel Δ v xv) (hv:(hextract p i).f t h=some v) :
  ∃r,(Instr.extract xv i).run P0 w = .ok r w∧VRel Δ v r:=by
 unfold hextract at hv
 rw [oB_eq] at hv
 obtain ⟨y,h1,h2⟩:=hv
 have hy:=hp _ h1
 split at h2
 ·cases hy with
  | tuple vs vs' hvs =>
    obtain ⟨x, hx, hr⟩ := hvs.get _ _ (at1_eq h2)
    have hx' : vs'[i]? = some x := by simpa using hx
    exact ⟨x, by simp [Instr.extract, hx'], hr⟩
 ·cases h2
theorem bytesOf_ok {cs:List V} {xs:List Value} {s:List UInt8} (hr:VsRel Δ cs xs) (hv:bytesOf cs=some s):xs=(s.map fun b=>(b.toNat:Int)).map (Value.int .u8):=by
 induction cs generalizing xs s with
 | nil=>cases hr;simp [bytesOf] at hv;subst hv;rfl
 | cons c cs ih =>
   simp only [bytesOf, oB_eq] at hv
   obtain ⟨b, h1, l, h2, h3⟩ := hv
   cases h3
   cases hr with
   | cons _ x _ xs hx hxs =>
     rw [ih hxs h2]
     unfold byteOf at h1
     split at h1
     · rename_i m
       rw [bB_eq] at h1
       obtain ⟨h4, h5⟩ := h1
       cases h5
       cases hx
       have h4' : m < 256 := by rw [Nat.blt_eq] at h4; exact h4
       have : (UInt8.ofNat m).toNat = m := by simp; omega
       simp only [List.map_cons, this]
       rfl
     · cases h1
theorem push_bytes (l:List UInt8):∀(r:ByteArray),((l.map fun b=>(b.toNat:Int)).foldl (fun r n=>r.push (UInt8.ofNat n.toNat)) r).data.toList=r.data.toList++l:=by
 induction l with
 | nil=>intro r;simp
 | cons b l ih =>
   intro r
   simp only [List.map_cons, List.foldl_cons]
   rw [ih]
   simp [ByteArray.push]
theorem hstring_ok {src dst e:Nat} (hs:P0.underlying src=some (.slice e)) (hd:P0.underlying dst=some .string) (he:P0.underlying e=some (.int .u8)) {ad:Option Addr} {len cap:Nat} {cs:List V} {s:List UInt8}
  (hb:bytesOf cs=some s) (hc:∀b,ad=some b→∃xs,(loadCells b len).run P0 w = .ok (Array.mk xs) w∧VsRel Δ cs xs) (hn:ad=none→s=[]) :
  ∃x,(convert src dst (.slice ad len cap)).run P0 w = .ok x w∧VRel Δ (.str s) x:=by
 cases ad with
 | none =>
   cases hn rfl
   exact ⟨.string .empty, by simp [convert, run_und hs, run_und hd, run_und he, Conv.bytesToString], .str ByteArray.empty⟩
 | some b =>
   obtain ⟨xs, h1, h2⟩ := hc b rfl
   rw [bytesOf_ok h2 hb] at h1
   have hr := run_bytesToString (P := P0) w b len cap _ h1
   generalize hB : (List.foldl (fun r n => ByteArray.push r (UInt8.ofNat n.toNat)) ByteArray.empty (List.map (fun b => (b.toNat : Int)) s)) = B at hr
   have hBl : B.data.toList = s := by rw [← hB, push_bytes]; rfl
   refine ⟨.string B, ?_, by rw [← hBl]; exact .str B⟩
   simp only [convert, Sem.run_bind, run_und hs, run_und hd, Result.andThen_ok, run_und he, hr]
theorem loadCells_list (hW:WR Δ h w) {l:Nat} {d:D} (hl:Δ l=some d) {off m:Nat} {cs:List V} (hv:ldAt h l off m=some cs) :
  ∃xs,(loadCells ⟨d.b,d.base+off,none⟩ m).run P0 w = .ok (Array.mk xs) w∧VsRel Δ cs xs:=by
 obtain ⟨arr,h1,h2⟩:=loadCells_ok hW hl hv
 exact ⟨arr.toList,by simpa using h1,h2⟩
theorem ldAt_len {l off m:Nat} {cs:List V} (hv:ldAt h l off m=some cs):cs.length=m:=by
 unfold ldAt at hv
 rw [cellsAt_eq] at hv
 obtain ⟨e,sz,live,ro,all,hg,hv⟩:=hv
 rw [bB_eq] at hv
 exact (sub_eq hv.2).1
theorem hconvS_ok (hW:WR Δ h w) {src dst e:Nat} {p:PF} {xv:Value} {v:V} (hs:P0.underlying src=some (.slice e)) (hd:P0.underlying dst=some .string) (hp:∀v,p.f t h=some v→VRel Δ v xv) (hv:(hconv src dst p).f t h=some v) :
  ∃r,(convert src dst xv).run P0 w = .ok r w∧VRel Δ v r:=by
 unfold hconv at hv
 rw [hs,hd] at hv
 simp only at hv
 split at hv
 ·rename_i he
  simp only [oB_eq] at hv
  obtain ⟨x,h1,h2⟩:=hv
  have hx:=hp _ h1
  split at h2
  ·cases h2;cases hx
   exact hstring_ok (Δ:=Δ) (w:=w) (src:=src) (dst:=dst) (e:=e) (ad:=none) (len:=0) (cap:=0) (cs:=[]) (s:=[]) hs hd he rfl (fun b hb=>by cases hb) (fun _=>rfl)
  ·rename_i l off len
   simp only [oB_eq] at h2
   obtain ⟨cs,h3,s,h4,h5⟩:=h2
   cases h5
   cases hx with
   | slice _ _ _ cap o d hd' hk hle ho =>
     have hld : ∃ xs, (loadCells ⟨d.b, o, none⟩ len).run P0 w = .ok (Array.mk xs) w ∧ VsRel Δ cs xs := by
       rcases ho with ⟨rfl, _, _⟩ | ⟨rfl, _⟩
       · exact loadCells_list hW hd' h3
       · have : len = 0 := by omega
         subst this
         have hc0 : cs = [] := List.eq_nil_of_length_eq_zero (ldAt_len h3)
         subst hc0
         exact ⟨[], by simp [loadCells, loadCellsFrom], .nil⟩
     exact hstring_ok (Δ := Δ) (w := w) (src := src) (dst := dst) (e := e) (ad := some ⟨d.b, o, none⟩) (len := len) (cap := cap) hs hd he h4 (fun b hb => by cases hb; exact hld) (fun hn => by cases hn)
  ·cases h2
 ·cases hv
theorem VsRel.toArray {l:List Operand} {vs:List V} (h:VsRel Δ vs (l.map a.eval)):VsRel Δ vs (l.toArray.map a.eval).toList:=by simpa using h
theorem pure_ok (hW:WR Δ h w) (hT:TR Δ n t a) {o:Oper} {v:V} (hv:(pureC o).f t h=some v):∃x,(execOp a.eval o).run P0 w = .ok (.value x) w∧VRel Δ v x:=by
 obtain ⟨dst,op,ty,pos,af,gd⟩:=o
 have ev:∀(x:Operand) v,(evO x).f t h=some v→VRel Δ v (a.eval x):=fun x v hx=>evO_ok hW hT hx
 cases op with
 | move x=>exact ⟨_,rfl,ev x v hv⟩
 | assign x=>exact ⟨_,rfl,ev x v hv⟩
 | pick c p q=>exact hpick_ok w (ev c) (ev p) (ev q) hv
 | load ty a' =>
   obtain ⟨x, h1, h2⟩ := hload_ok hW (ev a') hv
   exact ⟨x, run_v h1, h2⟩
 | nilCheck x =>
   obtain ⟨h1, h2⟩ := hnilCheck_ok w (ev x) hv (dst := dst) (ty := ty) (pos := pos) (af := af) (gd := gd)
   exact ⟨_, h1, h2⟩
 | binOp op xt x y yt =>
   simp only [pureC, oB_eq] at hv
   obtain ⟨p, h1, q, h2, h3⟩ := hv
   obtain ⟨r, h4, h5⟩ := hbin_ok (X := x) (Y := y) w (ev x _ h1) (ev y _ h2) h3
   exact ⟨r, run_v h4, h5⟩
 | unOp op xt x =>
   simp only [pureC, oB_eq] at hv
   obtain ⟨p, h1, h2⟩ := hv
   obtain ⟨r, h4, h5⟩ := hun_ok w (ev x _ h1) h2
   exact ⟨r, run_v h4, h5⟩
 | convert src d x =>
   have hall : ∃ r, (convert src d (a.eval x)).run P0 w = .ok r w ∧ VRel Δ v r := by
     by_cases hsl : ∃ e, P0.underlying src = some (.slice e) ∧ P0.underlying d = some .string
     · obtain ⟨e, h1, h2⟩ := hsl
       exact hconvS_ok hW h1 h2 (ev x) hv
     · exact hconv_ok w hsl (ev x) hv
   obtain ⟨r, h4, h5⟩ := hall
   exact ⟨r, run_v h4, h5⟩
 | build ty parts =>
   obtain ⟨r, h4, h5⟩ := hbuild_ok hT hv
   refine ⟨r, run_v ?_, h5⟩
   rw [← h4]
   congr 2
   apply Array.ext'
   simp
 | makeFunc fn first caps =>
   cases fn with
   | func f =>
     simp only [pureC, oB_eq] at hv
     obtain ⟨p, h1, q, h2, h3⟩ := hv
     cases h3
     refine ⟨_, rfl, .func f p q _ _ ?_ ?_⟩
     · have := evNs_ok hT h1; simpa using this
     · have := evNs_ok hT h2; simpa using this
   | _ => cases hv
 | slice ty x lo hi mx =>
   cases mx with
   | none =>
     obtain ⟨r, h4, h5⟩ := hslice_ok hW hT (ev x) hv
     exact ⟨r, run_v h4, h5⟩
   | some _ => cases hv
 | fieldAddr s x f =>
   obtain ⟨r, h4, h5⟩ := hfieldAddr_ok w (ev x) hv
   exact ⟨r, run_v h4, h5⟩
 | field s x f =>
   obtain ⟨r, h4, h5⟩ := hfield_ok w (ev x) hv
   exact ⟨r, run_v h4, h5⟩
 | indexAddr ty x i =>
   obtain ⟨r, h4, h5⟩ := hindexAddr_ok w (ev x) (ev i) hv
   exact ⟨r, run_v h4, h5⟩
 | index ty x i =>
   obtain ⟨r, h4, h5⟩ := hindex_ok w (ev x) (ev i) hv
   exact ⟨r, run_v h4, h5⟩
 | lookup ty m k ok =>
   obtain ⟨r, h4, h5⟩ := hlookup_ok hW (ev m) (ev k) hv
   exact ⟨r, run_v h4, h5⟩
 | extract x i =>
   obtain ⟨r, h4, h5⟩ := hextract_ok w (ev x) hv
   exact ⟨r, run_v h4, h5⟩
 | makeInterface ty x =>
   simp only [pureC] at hv
   split at hv
   · rename_i hi
     obtain ⟨d, hu, hd⟩ := isIface_eq hi
     simp only [oB_eq] at hv
     obtain ⟨p, h1, h2⟩ := hv
     cases h2
     refine ⟨.iface ty (a.eval x), run_v ?_, .iface _ _ _ (ev x _ h1)⟩
     simp only [Instr.makeInterface, Sem.run_bind, run_und hu, Result.andThen_ok]
     cases d <;> first | exact absurd rfl (hd _) | rfl
   · cases hv
 | typeAssert x xT asserted ok =>
   obtain ⟨r, h4, h5⟩ := hassert_ok (xT := xT) w (ev x) hv
   exact ⟨r, run_v h4, h5⟩
 | call c =>
   obtain ⟨callee, args, argTypes⟩ := c
   simp only [pureC] at hv
   cases callee with
   | builtin b =>
     cases b <;> try (cases hv; done)
     case len =>
       simp only at hv
       split at hv
       · rename_i x ty' tys hargs htys
         have hty : argTypes[0]? = some ty' := by rw [← Array.getElem?_toList, htys]; rfl
         obtain ⟨r, h4, h5⟩ := hlen_ok hW (rt := ty) hty (ev x) hv
         refine ⟨r, ?_, h5⟩
         have hm : args.map a.eval = #[a.eval x] := by apply Array.ext'; simp [hargs]
         simp only [execOp, resolve, hm]
         exact run_v h4
       · cases hv
     case min =>
       simp only [oB_eq] at hv
       obtain ⟨l, h1, h2⟩ := hv
       split at h2
       · rename_i x r
         have hvs := evNs_ok hT h1
         cases hargs : args.toList.map a.eval with
         | nil => rw [hargs] at hvs; cases hvs
         | cons x' r' =>
           rw [hargs] at hvs
           cases hvs with
           | cons _ _ _ _ hx hr =>
             obtain ⟨res, h3, h4⟩ := hmin_ok w hx hr h2
             refine ⟨res, ?_, h4⟩
             have hm : (args.map a.eval).toList = x' :: r' := by simpa using hargs
             simp only [execOp, resolve]
             refine run_v ?_
             simp only [Builtin.min_, hm]
             simpa using h3
       · cases h2
     case max =>
       simp only [oB_eq] at hv
       obtain ⟨l, h1, h2⟩ := hv
       split at h2
       · rename_i x r
         have hvs := evNs_ok hT h1
         cases hargs : args.toList.map a.eval with
         | nil => rw [hargs] at hvs; cases hvs
         | cons x' r' =>
           rw [hargs] at hvs
           cases hvs with
           | cons _ _ _ _ hx hr =>
             obtain ⟨res, h3, h4⟩ := hmin_ok w hx hr h2
             refine ⟨res, ?_, h4⟩
             have hm : (args.map a.eval).toList = x' :: r' := by simpa using hargs
             simp only [execOp, resolve]
             refine run_v ?_
             simp only [Builtin.max_, hm]
             simpa using h3
       · cases h2
   | value f => cases hv
   | invoke r m => cases hv
 | _=>cases hv
end
end Go.Proofs.YtiepamfpilhcjaaDoor.Hx
namespace Go.Proofs.YtiepamfpilhcjaaDoor.Hx
def RW (Δ:Env) (b:Nat):Prop:=∃l d,Δ l=some d∧d.ro=false∧d.b=b
structure FR (Δ Δ' : Env) (w w' : World):Prop where
 le:Δ.le Δ'
 size:w.heap.size≤w'.heap.size
 os:w'.os=w.os
 tape:w'.tape=w.tape
 output:w'.output=w.output
 keep:∀b,b<w.heap.size→¬RW Δ b→w'.heap[b]? = w.heap[b]?
 new:∀l d,Δ' l=some d→Δ l=some d∨w.heap.size≤d.b∨RW Δ d.b
theorem FR.refl (Δ:Env) (w:World):FR Δ Δ w w:=⟨Env.le_refl _,Nat.le_refl _,rfl,rfl,rfl,fun _ _ _=>rfl,fun _ _ h=> .inl h⟩
theorem FR.trans {Δ Δ' Δ'' : Env} {w w' w'' : World} (h:FR Δ Δ' w w') (h' : FR Δ' Δ'' w' w''):FR Δ Δ'' w w'' where
 le:=Env.le_trans h.le h'.le
 size:=Nat.le_trans h.size h'.size
 os:=h'.os.trans h.os
 tape:=h'.tape.trans h.tape
 output:=h'.output.trans h.output
 keep:=fun b hb hn=>by
  rw [h'.keep b (Nat.lt_of_lt_of_le hb h.size) ?_,h.keep b hb hn]
  rintro ⟨l,d,hl,hr,rfl⟩
  rcases h.new l d hl with h1 | h1 | h1
  ·exact hn ⟨l,d,h1,hr,rfl⟩
  ·omega
  ·exact hn h1
 new:=fun l d hl=>by
  rcases h'.new l d hl with h1 | h1 | ⟨l',d',hl',hr',hb'⟩
  ·exact h.new l d h1
  ·exact .inr (.inl (Nat.le_trans h.size h1))
  ·rcases h.new l' d' hl' with h2 | h2 | h2
   ·exact .inr (.inr ⟨l',d',h2,hr',hb'⟩)
   ·exact .inr (.inl (by rw [←hb'];exact h2))
   ·exact .inr (.inr (by rw [←hb'];exact h2))
theorem get_new (h:Hp) (o:O) (l:Nat):(h.new o).get l=if h.next=l then some o else h.get l:=by
 rw [Hp.get_eq,Hp.get_eq]
 unfold Hp.new
 simp only [Tr.get_set]
 by_cases h1:h.next=l
 ·subst h1;simp
 ·simp only [h1,if_false]
  by_cases h2:l<h.next
  ·rw [if_pos (by omega),if_pos h2]
  ·rw [if_neg (by omega),if_neg h2]
theorem get_put {h:Hp} {l:Nat} (o:O) (m:Nat) (hl:l<h.next):(h.put l o).get m=if l=m then some o else h.get m:=by
 rw [Hp.get_eq,Hp.get_eq]
 unfold Hp.put
 simp only [Tr.get_set]
 by_cases h1:l=m
 ·subst h1;simp [hl]
 ·simp only [h1,if_false]
def Env.set (Δ:Env) (l:Nat) (d:D):Env:=fun m=>if m=l then some d else Δ m
theorem Env.le_set {Δ:Env} {l:Nat} {d:D} (h:Δ l=none):Δ.le (Δ.set l d):=fun m e hm=>by
 unfold Env.set
 by_cases he:m=l
 ·subst he;rw [h] at hm;cases hm
 ·rw [if_neg he];exact hm
theorem Env.set_self (Δ:Env) (l:Nat) (d:D):(Δ.set l d) l=some d:=if_pos rfl
theorem Env.set_other {Δ:Env} {l m:Nat} {d e:D} (h:(Δ.set l d) m=some e):(m=l∧e=d)∨(m≠l∧Δ m=some e):=by
 unfold Env.set at h
 by_cases he:m=l
 ·rw [if_pos he] at h;cases h;exact .inl ⟨he,rfl⟩
 ·rw [if_neg he] at h;exact .inr ⟨he,h⟩
theorem WR.none_next {Δ:Env} {h:Hp} {w:World} (hW:WR Δ h w):Δ h.next=none:=by
 cases hd:Δ h.next with
 | none=>rfl
 | some d=>exact absurd (hW.fresh _ _ hd) (Nat.lt_irrefl _)
theorem heap_alloc (w:World) (ob:Obj) (b:Nat):(w.alloc ob).heap[b]? = if b=w.heap.size then some ob else w.heap[b]?:=by
 unfold World.alloc
 simp only [Array.getElem?_push]
theorem TabOk.step {Δ Δ' : Env} {w w' : World} (h:TabOk Δ w) (hk:∀b,b<w.heap.size→¬RW Δ b→w'.heap[b]? = w.heap[b]?) (hn:∀l d,Δ' l=some d→d.ro=false→Δ l=some d∨w.heap.size≤d.b∨RW Δ d.b):TabOk Δ' w':=by
 intro g c hm
 obtain ⟨⟨e,fr,h1⟩,h2⟩:=h g c hm
 have hlt:=(Array.getElem?_eq_some_iff.1 h1).1
 have hrw:¬RW Δ g:=fun ⟨l,d,hl,hro,hb⟩=>h2 l d hl hro hb
 refine ⟨⟨e,fr,by rw [hk g hlt hrw];exact h1⟩,fun l d hl hro hb=>?_⟩
 rcases hn l d hl hro with h3 | h3 | h3
 ·exact h2 l d h3 hro hb
 ·omega
 ·rw [hb] at h3;exact hrw h3
theorem WR.lay {Δ:Env} {h:Hp} {w:World} (hW:WR Δ h w) {l:Nat} {o:O} {d:D} {ob:Obj} (hn:Δ l=none) (hl:l<h.next) (hg:h.get l=some o) (hb:d.b=w.heap.size)
  (ho:ORel (Δ.set l d) d o (some ob)):WR (Δ.set l d) h (w.alloc ob) where
 fresh:=fun m e hm=>by
  rcases Env.set_other hm with ⟨rfl,rfl⟩ | ⟨_,hm⟩
  ·exact hl
  ·exact hW.fresh m e hm
 blk:=fun m e hm=>by
  simp only [World.size_alloc]
  rcases Env.set_other hm with ⟨rfl,rfl⟩ | ⟨_,hm⟩
  ·omega
  ·have:=hW.blk m e hm;omega
 obj:=fun m e hm=>by
  rcases Env.set_other hm with ⟨rfl,rfl⟩ | ⟨_,hm⟩
  ·refine ⟨o,hg,?_⟩
   rw [heap_alloc,if_pos hb];exact ho
  ·obtain ⟨o',h1,h2⟩:=hW.obj m e hm
   refine ⟨o',h1,?_⟩
   rw [heap_alloc,if_neg (Nat.ne_of_lt (hW.blk m e hm))]
   exact h2.mono (Env.le_set hn)
 apart:=fun m m' e e' p p' hm hm' hne hp hp' hlp hlp' hro=>by
  rcases Env.set_other hm with ⟨h1,h2⟩ | ⟨_,h1⟩ <;> rcases Env.set_other hm' with ⟨h3,h4⟩ | ⟨_,h3⟩
  ·exact absurd (h1.trans h3.symm) hne
  ·have:=hW.blk m' e' h3;rw [h2];omega
  ·have:=hW.blk m e h1;rw [h4];omega
  ·exact hW.apart m m' e e' p p' h1 h3 hne hp hp' hlp hlp' hro
 glob:=fun g p hlt hp=>by
  obtain ⟨e,h1,h2⟩:=hW.glob g p hlt hp
  exact ⟨e,Env.le_set hn _ _ h1,h2⟩
 gnext:=hW.gnext
 tab:=hW.tab.step (fun b hb' _=>by rw [heap_alloc,if_neg (Nat.ne_of_lt hb')]) fun m e hm _=>by
  rcases Env.set_other hm with ⟨rfl,rfl⟩ | ⟨_,hm⟩
  ·exact .inr (.inl (by omega))
  ·exact .inl hm
theorem WR.more {Δ:Env} {h:Hp} {w:World} (hW:WR Δ h w) (o:O):WR Δ (h.new o) w where
 fresh:=fun l d hl=>Nat.lt_succ_of_lt (hW.fresh l d hl)
 blk:=hW.blk
 obj:=fun l d hl=>by
  obtain ⟨o',h1,h2⟩:=hW.obj l d hl
  refine ⟨o',?_,h2⟩
  rw [get_new,if_neg (Nat.ne_of_gt (hW.fresh l d hl))]
  exact h1
 apart:=fun m m' e e' p p' hm hm' hne hp hp'=>by
  rw [get_new,if_neg (Nat.ne_of_gt (hW.fresh _ _ hm))] at hp
  rw [get_new,if_neg (Nat.ne_of_gt (hW.fresh _ _ hm'))] at hp'
  exact hW.apart m m' e e' p p' hm hm' hne hp hp'
 glob:=fun g p hlt hp=>by
  rw [get_new,if_neg (by have:=hW.gnext;omega)] at hp
  exact hW.glob g p hlt hp
 gnext:=Nat.le_succ_of_le hW.gnext
 tab:=hW.tab
theorem FR.lay {Δ:Env} {w:World} {l:Nat} {d:D} {ob:Obj} (hn:Δ l=none) (hb:d.b=w.heap.size):FR Δ (Δ.set l d) w (w.alloc ob) where
 le:=Env.le_set hn
 size:=by simp
 os:=rfl
 tape:=rfl
 output:=rfl
 keep:=fun b hlt _=>by rw [heap_alloc,if_neg (Nat.ne_of_lt hlt)]
 new:=fun m e hm=>by
  rcases Env.set_other hm with ⟨rfl,rfl⟩ | ⟨_,hm⟩
  ·exact .inr (.inl (by omega))
  ·exact .inl hm
def Made (Δ:Env) (ob:O) (mk:Nat→V) (mo:Obj) (mv:Nat→Value):Prop:=
 ∀l b,Δ l=none→∃d,d.b=b∧ORel (Δ.set l d) d ob (some mo)∧VRel (Δ.set l d) (mk l) (mv b)
theorem cellsOk_new {Δ:Env} {d:D} {cs:List V} {c:Array Value} {e:Nat} (hs:c.size=d.asz) (hb:d.base=0) (hl:cs.length≤d.asz) (hc:∀(i:Nat) (v:V),cs[i]? = some v→∃x,c[i]? = some x∧VRel Δ v x) :
  CellsOk Δ d cs (some (.cells c e (0,0))):=
 ⟨c,e,(0,0),rfl,hs,fun _=> .inl rfl,by omega,fun i v hi=>by rw [hb,Nat.zero_add];exact hc i v hi⟩
theorem hbox_ok {Δ:Env} {e:Nat} {v:V} {xv:Value} {ob:O} {mk:Nat→V} (hx:VRel Δ v xv) (hv:hbox e v=some (ob,mk)) :
  Made Δ ob mk (.cells xv.cells e) (fun b=> .pointer (some ⟨b,0,none⟩)):=by
 unfold hbox at hv
 rw [bB_eq] at hv
 obtain ⟨_,hv⟩:=hv
 cases hv
 intro l b hn
 have hc:=hx.cells
 have hle:=Env.le_set (d:=⟨b,0,1,v.cells.length,xv.cells.size,false,0⟩) hn
 refine ⟨⟨b,0,1,v.cells.length,xv.cells.size,false,0⟩,rfl,⟨rfl,rfl,rfl,rfl,fun _=>?_⟩,?_⟩
 ·refine cellsOk_new rfl rfl (Nat.le_of_eq (by first | (simpa using hc.length) | (simpa using hr.length))) fun i u hi=>?_
  obtain ⟨x,hx,hr⟩:=hc.get i u hi
  exact ⟨x,by simpa using hx,hr.mono hle⟩
 ·exact VRel.ptr l 0 ⟨b,0,1,v.cells.length,xv.cells.size,false,0⟩ (Env.set_self _ _ _)
theorem elemOf_eq {elem size by_:Nat} {z:V} (h:elemOf elem=some (size,by_,z)) :
  szOf elem=some size∧byOf elem=some by_∧zeroV elem=some z∧0<size∧z.cells.length=size∧allOne z.cells=true:=by
 unfold elemOf at h
 simp only [oB_eq,bB_eq] at h
 obtain ⟨s,h1,b,h2,z',h3,h4,h5,h6,h7⟩:=h
 cases h7
 rw [Nat.blt_eq] at h4
 exact ⟨h1,h2,h3,h4,Nat.eq_of_beq_eq_true h5,h6⟩
theorem sliceOf_eq {t e:Nat} (h:sliceOf t=some e):P0.underlying t=some (.slice e):=by
 unfold sliceOf at h
 split at h
 ·rename_i e' hu;cases h;exact hu
 ·cases h
theorem repl_get (z:List V):∀(m i:Nat),(repl m z)[i]? = if i<m * z.length then z[i % z.length]? else none
 | 0,i=>by simp [repl]
 | m + 1, i => by
   simp only [repl, List.getElem?_append]
   by_cases h1 : i < z.length
   · rw [if_pos h1, if_pos (by rw [Nat.add_mul]; omega), Nat.mod_eq_of_lt h1]
   · rw [if_neg h1, repl_get z m]
     have e : i % z.length = (i - z.length) % z.length := by
       rw [Nat.mod_eq_sub_mod (by omega)]
     rw [e]
     by_cases h2 : i - z.length < m * z.length
     · rw [if_pos h2, if_pos (by rw [Nat.add_mul]; omega)]
     · rw [if_neg h2, if_neg (by rw [Nat.add_mul]; omega)]
theorem repl_length (z:List V):∀m,(repl m z).length=m * z.length
 | 0=>by simp [repl]
 | m+1=>by simp [repl,repl_length z m,Nat.add_mul,Nat.add_comm]
theorem repl_rel {Δ:Env} {z:List V} {zs:Array Value} (hz:VsRel Δ z zs.toList) (h0:0<z.length) (m:Nat):VsRel Δ (repl m z) ((Array.range (m * z.length)).map fun i=>zs[i % zs.size]!).toList:=by
 have hlen:=hz.length
 simp only [Array.length_toList] at hlen
 refine VsRel.of_get (by simp [repl_length]) fun i v hi=>?_
 rw [repl_get] at hi
 by_cases h:i<m * z.length
 ·rw [if_pos h] at hi
  obtain ⟨x,hx,hr⟩:=hz.get _ _ hi
  refine ⟨x,?_,hr⟩
  have hx' : zs[i % z.length]? = some x:=by simpa using hx
  rw [hlen] at hx'
  rw [Array.getElem?_toList]
  simp [h,getElem!_def,hx']
 ·rw [if_neg h] at hi;cases hi
section
variable {Δ:Env} {h:Hp} {w:World} {n:Nat} {t:Tm} {a:Act}
theorem alloc_ok (hT : TR Δ n t a) {o : Oper} {ob : O} {mk : Nat → V} (hv : (allocC o).f t = some (ob, mk)) :
    ∃ mo mv, (∀ w, (execOp a.eval o).run P0 w = .ok (.value (mv w.heap.size)) (w.alloc mo)) ∧ Made Δ ob mk mo mv := by
  obtain ⟨dst, op, ty, pos, af, gd⟩ := o
  cases op with
  | alloc e =>
    simp only [allocC] at hv
    split at hv
    · rename_i z hz
      obtain ⟨zv, hzr, hzv, _⟩ := run_zero hz
      refine ⟨_, _, fun w => run_v (x := .pointer (some ⟨w.heap.size, 0, none⟩)) ?_, hbox_ok (hzv Δ) hv⟩
      simp [Instr.alloc, hzr, newVar, newRow]
    · cases hv
  | box e x =>
    simp only [allocC, oB_eq] at hv
    obtain ⟨v, h1, h2⟩ := hv
    refine ⟨_, _, fun w => run_v (x := .pointer (some ⟨w.heap.size, 0, none⟩)) ?_, hbox_ok (evN_ok hT h1) h2⟩
    simp [Instr.box, newVar, newRow]
  | buildSlice ty' len parts =>
    simp only [allocC] at hv
    split at hv
    · rename_i elem hse
      have hu := sliceOf_eq hse
      split at hv
      · rename_i size by_ z he
        obtain ⟨hs, _, hz, hpos, hzl, _⟩ := elemOf_eq he
        obtain ⟨zv, hzr, hzv, _⟩ := run_zero hz
        split at hv
        · rename_i hle
          have hle' : len * size ≤ 16777216 := Nat.le_of_ble_eq_true hle
          simp only [hbuildSlice, oB_eq, bB_eq] at hv
          obtain ⟨ps, h1, cs, h2, _, h3⟩ := hv
          cases h3
          have hzc := (hzv Δ).cells
          have hrep := repl_rel hzc (by omega) len
          have hzs : zv.cells.size = size := by have := hzc.length; simp only [Array.length_toList] at this; omega
          have hzero : VsRel Δ (repl len z.cells) ((Array.range (len * size)).map fun i => (if len * size = 0 then (#[] : Array Value) else zv.cells)[i % (if len * size = 0 then (#[] : Array Value) else zv.cells).size]!).toList := by
            by_cases h0 : len * size = 0
            · rw [if_pos h0, h0]
              have : len = 0 := by rcases Nat.mul_eq_zero.1 h0 with h | h <;> omega
              subst this
              simp [repl]; exact .nil
            · rw [if_neg h0]; rw [hzl] at hrep; exact hrep
          obtain ⟨cs', hf, hr⟩ := fill_ok (evParts_ok hT h1) hzero h2
          refine ⟨.cells cs' elem, fun b => .slice (some ⟨b, 0, none⟩) len len, fun w => run_v (w := w) (x := .slice (some ⟨w.heap.size, 0, none⟩) len len) ?_, ?_⟩
          · have hparts : (parts.map fun (x : Nat × Operand) => (x.1, a.eval x.2)).toList = parts.toList.map fun x => (x.1, a.eval x.2) := by simp
            have hno : ¬ (len * size > 2 ^ 24) := by omega
            have hzr' : (if len * size = 0 then (pure #[] : Sem (Array Value)) else do pure (← zeroValue elem).cells).run P0 w = .ok (if len * size = 0 then (#[] : Array Value) else zv.cells) w := by
              by_cases h0 : len * size = 0
              · rw [if_pos h0, if_pos h0]; rfl
              · rw [if_neg h0, if_neg h0]; simp [hzr]
            simp only [Instr.buildSlice, Sem.run_bind, run_und hu, run_sz hs, Result.andThen_ok, Sem.run_ite]
            rw [if_neg hno]
            simp only [Sem.run_pure, Result.andThen_ok, Sem.run_bind]
            clear hzero hzr'
            by_cases h0 : len * size = 0
            · simp only [if_pos h0] at hf ⊢
              rw [hparts]
              have hf' : Instr.fill (fun i => some (i * size, size)) (Array.map (fun x => (#[] : Array Value)[x % (#[] : Array Value).size]!) (Array.range (len * size))) (List.map (fun x => (x.1, a.eval x.2)) parts.toList) = some cs' := hf
              rw [hf']
              rfl
            · simp only [if_neg h0, hzr, Result.andThen_ok] at hf ⊢
              rw [hparts]
              have hf' : Instr.fill (fun i => some (i * size, size)) (Array.map (fun x => zv.cells[x % zv.cells.size]!) (Array.range (len * size))) (List.map (fun x => (x.1, a.eval x.2)) parts.toList) = some cs' := hf
              rw [hf']
              rfl
          · intro l b hn
            have hcl := hr.length
            simp only [Array.length_toList] at hcl
            have hcs : cs.length = len * size := by
              have h5 : ∀ {place : Nat → Option (Nat × Nat)} {ps : List (Nat × V)} {c c' : List V}, fillV place c ps = some c' → c'.length = c.length := by
                intro place ps
                induction ps with
                | nil => intro c c' h; simp [fillV] at h; rw [h]
                | cons p ps ih =>
                  intro c c' h
                  simp only [fillV, oB_eq, bB_eq] at h
                  obtain ⟨q, _, _, mid, h6, h7⟩ := h
                  rw [ih h7, (splice_eq h6).1]
              rw [h5 h2, repl_length, hzl]
            have hle := Env.le_set (d := ⟨b, 0, size, cs.length, cs'.size, false, 0⟩) hn
            refine ⟨⟨b, 0, size, cs.length, cs'.size, false, 0⟩, rfl, ⟨rfl, rfl, rfl, rfl, fun _ => ?_⟩, ?_⟩
            · refine cellsOk_new rfl rfl (Nat.le_of_eq (by first | (simpa using hc.length) | (simpa using hr.length))) fun i u hi => ?_
              obtain ⟨x, hx, hrx⟩ := hr.get i u hi
              exact ⟨x, by simpa using hx, hrx.mono hle⟩
            · refine VRel.slice l 0 len len 0 ⟨b, 0, size, cs.length, cs'.size, false, 0⟩ (Env.set_self _ _ _) rfl (Nat.le_refl _) (.inl ⟨rfl, ?_, ?_⟩)
              · show cs.length ≤ 0 + len * size; omega
              · show 0 + 0 + len * size ≤ cs'.size; omega
        · cases hv
      · cases hv
    · cases hv
  | makeSlice ty' m c =>
    simp only [allocC] at hv
    split at hv
    · rename_i elem hse
      have hu := sliceOf_eq hse
      split at hv
      · rename_i size by_ z he
        obtain ⟨hs, hby, hz, hpos, hzl, _⟩ := elemOf_eq he
        obtain ⟨zv, hzr, hzv, i, hi, hzi⟩ := run_zero hz
        simp only [oB_eq] at hv
        obtain ⟨mv, h1, cv, h2, h3⟩ := hv
        have hm := evN_ok hT h1
        have hc := evN_ok hT h2
        unfold hmakeSlice at h3
        split at h3
        · rename_i m' c'
          simp only [bB_eq] at h3
          obtain ⟨h4, h5, h6, h7⟩ := h3
          cases h7
          have h4' : m' ≤ c' := Nat.le_of_ble_eq_true h4
          have h5' : c' * by_ ≤ 281474976710656 := Nat.le_of_ble_eq_true h5
          have h6' : c' ≤ 1099511627776 := Nat.le_of_ble_eq_true h6
          have hib : i.bytes = by_ := by
            unfold byOf at hby
            rw [oB_eq] at hby
            obtain ⟨i', hi', hb⟩ := hby
            rw [hi] at hi'; cases hi'; simpa using hb
          have hzc := (hzv Δ).cells
          have hrep := repl_rel hzc (by omega) c'
          rw [hzl] at hrep
          have ev1 : a.eval m = .int .i64 (m' : Int) := by
            generalize a.eval m = x at hm; cases hm; rfl
          have ev2 : a.eval c = .int .i64 (c' : Int) := by
            generalize a.eval c = x at hc; cases hc; rfl
          have wr : ∀ k : Nat, k ≤ 1099511627776 → IntKind.i64.wrap (k : Int) = k := fun k hk => by
            simp [IntKind.wrap, IntKind.bits, IntKind.signed]; omega
          refine ⟨.cells ((Array.range (c' * size)).map fun i => zv.cells[i % zv.cells.size]!) elem, fun b => .slice (some ⟨b, 0, none⟩) m' c', fun w => run_v (w := w) (x := .slice (some ⟨w.heap.size, 0, none⟩) m' c') ?_, ?_⟩
          · rw [ev1, ev2]
            have e1 : ((i.bytes : Int) * (c' : Int) > 2 ^ 48) = False := by
              rw [hib]
              have : (by_ : Int) * (c' : Int) = ((c' * by_ : Nat) : Int) := by rw [Nat.mul_comm]; simp
              rw [this]; simp; omega
            have hzero : (if c' * size = 0 then (pure #[] : Sem (Array Value)) else do pure (← zeroValue elem).cells).run P0 w = .ok (if c' * size = 0 then (#[] : Array Value) else zv.cells) w := by
              by_cases h0 : c' * size = 0
              · rw [if_pos h0, if_pos h0]; rfl
              · rw [if_neg h0, if_neg h0]; simp [hzr]
            have hrow : ((Array.range (c' * size)).map fun i => (if c' * size = 0 then (#[] : Array Value) else zv.cells)[i % (if c' * size = 0 then (#[] : Array Value) else zv.cells).size]!) = ((Array.range (c' * size)).map fun i => zv.cells[i % zv.cells.size]!) := by
              by_cases h0 : c' * size = 0
              · rw [h0]; simp
              · rw [if_neg h0]
            have c1 : ¬ ((c' : Int) < 0) := by omega
            have c2 : ¬ ((m' : Int) < 0) := by omega
            have c3 : ¬ ((m' : Int) > (c' : Int)) := by omega
            simp only [Instr.makeSlice, Sem.run_bind, run_und hu, Result.andThen_ok, asInt, asIntOf, Sem.run_pure, typeInfo, run_program, hi, wr m' (by omega), wr c' h6', e1, c1, c2, c3, decide_false, Bool.or_false, Bool.false_eq_true, if_false, run_askRoom, run_sz hs, Int.toNat_natCast]
            clear hzero
            by_cases h0 : c' * size = 0
            · simp only [if_pos h0, newRow, run_newObj, Sem.run_bind, Sem.run_pure, Result.andThen_ok] at hrow ⊢
              rw [hrow]
              rfl
            · simp only [if_neg h0, hzr, newRow, run_newObj, Sem.run_bind, Sem.run_pure, Result.andThen_ok]
              rfl
          · intro l b hn
            have hcl := hrep.length
            simp only [Array.length_toList] at hcl
            have hrl : (repl c' z.cells).length = c' * size := by rw [repl_length, hzl]
            have hle := Env.le_set (d := ⟨b, 0, size, (repl c' z.cells).length, c' * size, false, 0⟩) hn
            refine ⟨⟨b, 0, size, (repl c' z.cells).length, c' * size, false, 0⟩, rfl, ⟨rfl, rfl, rfl, rfl, fun _ => ?_⟩, ?_⟩
            · refine cellsOk_new (by simp) rfl (Nat.le_of_eq hrl) fun i u hi => ?_
              obtain ⟨x, hx, hrx⟩ := hrep.get i u hi
              exact ⟨x, by rw [Array.getElem?_toList] at hx; exact hx, hrx.mono hle⟩
            · refine VRel.slice l 0 m' c' 0 ⟨b, 0, size, (repl c' z.cells).length, c' * size, false, 0⟩ (Env.set_self _ _ _) rfl h4' (.inl ⟨rfl, ?_, ?_⟩)
              · show (repl c' z.cells).length ≤ 0 + c' * size; omega
              · show 0 + 0 + c' * size ≤ c' * size; omega
        · cases h3
      · cases hv
    · cases hv
  | makeMap ty' r =>
    cases r with
    | none =>
      simp only [allocC] at hv
      split at hv
      · cases hv
        refine ⟨.map #[] 0, fun b => .map (some b), fun w => run_v (x := .map (some w.heap.size)) (by simp [Instr.makeMap]), ?_⟩
        intro l b hn
        exact ⟨⟨b, 0, 0, 0, 0, false, 1⟩, rfl, ⟨rfl, rfl, rfl, #[], rfl, .nil⟩, VRel.map l ⟨b, 0, 0, 0, 0, false, 1⟩ (Env.set_self _ _ _)⟩
      · cases hv
    | some _ => cases hv
  | _ => cases hv
end
end Go.Proofs.YtiepamfpilhcjaaDoor.Hx
