/- Parts of the proof. -/
import Derived.Test.YtiepamfpilhcjaaDoorM02
import Derived.Laws.AppendOwn
import Derived.Laws.NewFold
import Derived.Laws.IdiomStrings
namespace Go.Proofs.YtiepamfpilhcjaaDoor.Hx
structure Gr (h:Hp) (Δ:Env) (h' : Hp) (Δ' : Env):Prop where
 next:h.next≤h'.next
 none:∀l,Δ l = .none→l<h.next→Δ' l = .none
theorem Gr.refl (h:Hp) (Δ:Env):Gr h Δ h Δ:=⟨Nat.le_refl _,fun _ h _=>h⟩
theorem Gr.trans {h h' h'' : Hp} {Δ Δ' Δ'' : Env} (a:Gr h Δ h' Δ') (b:Gr h' Δ' h'' Δ''):Gr h Δ h'' Δ'':=
 ⟨Nat.le_trans a.next b.next,fun l hl hn=>b.none l (a.none l hl hn) (Nat.lt_of_lt_of_le hn a.next)⟩
theorem Gr.same {h h' : Hp} {Δ:Env} (hn:h.next≤h'.next):Gr h Δ h' Δ:=⟨hn,fun _ h _=>h⟩
theorem Gr.set {h h' : Hp} {Δ:Env} {d:D} (hn:h.next≤h'.next):Gr h Δ h' (Δ.set h.next d):=
 ⟨hn,fun l hl hlt=>by unfold Env.set;rw [if_neg (Nat.ne_of_lt hlt)];exact hl⟩
theorem WR.alloc {Δ:Env} {h:Hp} {w:World} (hW:WR Δ h w) {ob:O} {mk:Nat→V} {mo:Obj} {mv:Nat→Value} (hm:Made Δ ob mk mo mv) :
  ∃Δ',WR Δ' (h.new ob) (w.alloc mo)∧VRel Δ' (mk h.next) (mv w.heap.size)∧FR Δ Δ' w (w.alloc mo)∧Gr h Δ (h.new ob) Δ':=by
 obtain ⟨d,hb,ho,hv⟩:=hm h.next w.heap.size hW.none_next
 exact ⟨Δ.set h.next d,(hW.more ob).lay hW.none_next (Nat.lt_succ_self _) (by rw [get_new,if_pos rfl]) hb ho,hv,FR.lay hW.none_next hb,Gr.set (Nat.le_succ _)⟩
theorem run_storeCells_fr (g o e:Nat) (fr:Nat×Nat):∀(vs:List Value) (i:Nat) (cur:Array Value) (w:World),w.heap[g]? = some (.cells cur e fr)→(∀j,j<cur.size→¬(fr.1≤j∧j<fr.2))→
  o+i+vs.length≤cur.size→(∀v∈vs,v.oneCell' = true)→
  (storeCells ⟨g,o,none⟩ vs i).run P0 w = .ok () (w.setRow g (cur.toList.take (o+i)++vs++cur.toList.drop (o+i+vs.length)).toArray)
 | [], i, cur, w, hg, _, _, _ => by
   simp only [storeCells, List.append_nil, List.length_nil, Nat.add_zero, List.take_append_drop, Array.toArray_toList]
   rw [setRow_self w g cur e fr hg]
   rfl
 | v :: rest, i, cur, w, hg, hf, hl, h1 => by
   have hi : o + i < cur.size := by simp at hl; omega
   have hcell : w.cell? ⟨g, o + i, none⟩ = some cur[o + i] := by simp [World.cell?, hg, hi]
   have hfro : w.frozen? ⟨g, o + i, none⟩ = false := by
     have := hf (o + i) hi
     simp only [World.frozen?, hg]
     simpa using this
   have hst : (store ((⟨g, o, none⟩ : Addr).add i) v).run P0 w = .ok () (w.setRow g (cur.setIfInBounds (o + i) v)) := by
     rw [addr_add, run_store P0 w _ v _ (h1 v (by simp)), hcell]
     simp [hfro, setCell_eq_setRow w g (o + i) cur e fr v hg]
   have ih := run_storeCells_fr g o e fr rest (i + 1) (cur.setIfInBounds (o + i) v) (w.setRow g (cur.setIfInBounds (o + i) v)) (setRow_heap w g cur _ e _ hg) (by simpa using hf) (by simp at hl ⊢; omega) (fun x hx => h1 x (by simp [hx]))
   simp only [storeCells, Sem.run_bind, hst, Result.andThen_ok, ih, setRow_setRow]
   congr 3
   have e := list_seg_step cur.toList (o + i) v rest (by simp at hl ⊢; omega)
   simpa [Array.toList_setIfInBounds, Nat.add_assoc] using e
theorem seg_get (l vs:List Value) (k:Nat) (hk:k+vs.length≤l.length) (j:Nat) :
  (l.take k++vs++l.drop (k+vs.length))[j]? = if k≤j∧j<k+vs.length then vs[j - k]? else l[j]?:=by
 rw [List.append_assoc,List.getElem?_append,List.length_take,Nat.min_eq_left (by omega)]
 by_cases h1:j<k
 ·rw [if_pos h1,if_neg (by omega),List.getElem?_take_of_lt h1]
 ·rw [if_neg h1,List.getElem?_append]
  by_cases h2:j - k<vs.length
  ·rw [if_pos h2,if_pos (by omega)]
  ·rw [if_neg h2,if_neg (by omega),List.getElem?_drop]
   congr 1
   omega
theorem seg_length (l vs:List Value) (k:Nat) (hk:k+vs.length≤l.length):(l.take k++vs++l.drop (k+vs.length)).length=l.length:=by
 simp;omega
theorem WR.set {Δ:Env} {h:Hp} {w w' : World} (hW:WR Δ h w) {l:Nat} {d:D} {o o' : O} (hl:Δ l=some d) (hg:h.get l=some o) (hlive:o.live=true) (hro:d.ro=false)
  (hlive' : o'.live=true→o.live=true) (ho:ORel Δ d o' w'.heap[d.b]?) (hsz:w'.heap.size=w.heap.size) (hk:∀b,b≠d.b→w'.heap[b]? = w.heap[b]?):WR Δ (h.put l o') w' where
 fresh:=hW.fresh
 blk:=fun m e hm=>by rw [hsz];exact hW.blk m e hm
 obj:=fun m e hm=>by
  by_cases he:l=m
  ·subst he
   rw [hl] at hm;cases hm
   exact ⟨o',by rw [get_put _ _ (Hp.get_lt hg),if_pos rfl],ho⟩
  ·obtain ⟨p,h1,h2⟩:=hW.obj m e hm
   refine ⟨p,by rw [get_put _ _ (Hp.get_lt hg),if_neg he];exact h1,?_⟩
   by_cases hb:e.b=d.b
   ·have hdead:p.live=false:=by
     cases hp:p.live with
     | false=>rfl
     | true=>exact absurd hb.symm (hW.apart l m d e o p hl hm he hg h1 hlive hp (.inl hro))
    cases p with
    | cells e' sz live ro cs =>
      obtain ⟨a1, a2, a3, a4, _⟩ := h2
      exact ⟨a1, a2, a3, a4, fun hh => by simp only [O.live] at hdead; rw [hdead] at hh; cases hh⟩
    | map es c=>cases hdead
    | iter m s x c=>cases hdead
   ·rw [hk _ hb];exact h2
 apart:=fun m m' e e' p p' hm hm' hne hp hp' hlp hlp' hr=>by
  rw [get_put _ _ (Hp.get_lt hg)] at hp hp'
  by_cases h1:l=m
  ·subst h1
   rw [if_pos rfl] at hp;cases hp
   rw [if_neg hne] at hp'
   exact hW.apart l m' e e' o p' hm hm' hne hg hp' (hlive' hlp) hlp' hr
  ·rw [if_neg h1] at hp
   by_cases h2:l=m'
   ·subst h2
    rw [if_pos rfl] at hp';cases hp'
    exact hW.apart m l e e' p o hm hm' hne hp hg hlp (hlive' hlp') hr
   ·rw [if_neg h2] at hp'
    exact hW.apart m m' e e' p p' hm hm' hne hp hp' hlp hlp' hr
 glob:=fun g p hlt hp=>by
  rw [get_put _ _ (Hp.get_lt hg)] at hp
  by_cases h1:l=g
  ·subst h1;exact hW.glob l o hlt hg
  ·rw [if_neg h1] at hp;exact hW.glob g p hlt hp
 gnext:=hW.gnext
 tab:=hW.tab.step (fun b _ hn=>hk b fun e=>hn ⟨l,d,hl,hro,e.symm⟩) fun _ _ h _=> .inl h
theorem FR.set {Δ:Env} {w w' : World} {l:Nat} {d:D} (hl:Δ l=some d) (hro:d.ro=false) (hsz:w'.heap.size=w.heap.size) (hk:∀b,b≠d.b→w'.heap[b]? = w.heap[b]?)
  (h1:w'.os=w.os) (h2:w'.tape=w.tape) (h3:w'.output=w.output):FR Δ Δ w w':=
 ⟨Env.le_refl _,Nat.le_of_eq hsz.symm,h1,h2,h3,fun b _ hb=>hk b fun e=>hb ⟨l,d,hl,hro,e.symm⟩,fun _ _ h=> .inl h⟩
theorem WR.kill {Δ:Env} {h:Hp} {w:World} (hW:WR Δ h w) {l e sz:Nat} {cs:List V} (hg:h.get l=some (.cells e sz true false cs)) {d:D} (hl:Δ l=some d) :
  WR Δ (h.put l (.cells e sz false false cs)) w∧(∀m d' p,m≠l→Δ m=some d'→h.get m=some p→p.live=true→d'.b≠d.b)∧d.ro=false:=by
 obtain ⟨o,ho,hr⟩:=hW.obj l d hl
 rw [hg] at ho;cases ho
 obtain ⟨a1,a2,a3,a4,a5⟩:=hr
 refine ⟨hW.set hl hg rfl a4 (fun h=>(nomatch h)) ⟨a1,a2,a3,a4,fun h=>(nomatch h)⟩ rfl (fun _ _=>rfl),fun m d' p hne hm hp hlp=>?_,a4⟩
 exact hW.apart m l d' d p _ hm hl hne hp hg hlp rfl (.inr a4)
section
variable {Δ:Env} {h:Hp} {w:World} {n:Nat} {t:Tm} {a:Act}
theorem stAt_ok (hW:WR Δ h w) {l:Nat} {d:D} (hl:Δ l=some d) {off:Nat} {new:List V} {new' : List Value} (hn:VsRel Δ new new') {h' : Hp} (hv:stAt h l off new=some h') :
  ∃w',(storeCells ⟨d.b,d.base+off,none⟩ new' 0).run P0 w = .ok () w'∧WR Δ h' w'∧FR Δ Δ w w':=by
 unfold stAt at hv
 rw [cellsAt_eq] at hv
 obtain ⟨e,sz,live,ro,cs,hg,hv⟩:=hv
 simp only [bB_eq,oB_eq] at hv
 obtain ⟨rfl,hro,hone,cs',hs,hv⟩:=hv
 cases hv
 have hro' : ro=false:=by simpa using hro
 subst hro'
 obtain ⟨hsl,hsle,hsg⟩:=splice_eq hs
 obtain ⟨o,ho,hr⟩:=hW.obj l d hl
 rw [hg] at ho;cases ho
 obtain ⟨a1,a2,a3,a4,a5⟩:=hr
 obtain ⟨c,e',fr,b1,b2,b3,b5,b4⟩:=a5 rfl
 have hnl:=hn.length
 have hfit:d.base+off+new'.length≤c.size:=by omega
 have hrun:=run_storeCells_fr d.b (d.base+off) e' fr new' 0 c w b1 (fun j hj=>frFree (b3 a4) j (by omega)) (by simpa using hfit) (hn.ones hone)
 simp only [Nat.add_zero] at hrun
 refine ⟨_,hrun,hW.set hl hg rfl a4 (fun h=>h) ⟨a1,a2,by rw [hsl];exact a3,a4,fun _=>?_⟩ (by simp) (fun b hb=>setRow_other _ _ _ _ hb),FR.set hl a4 (by simp) (fun b hb=>setRow_other _ _ _ _ hb) rfl rfl rfl⟩
 refine ⟨_,e',fr,setRow_heap w d.b c _ e' fr b1,?_,b3,by rw [hsl];exact b5,fun i v hi=>?_⟩
 ·have:=seg_length c.toList new' (d.base+off) (by simpa using hfit)
  simp only [Array.length_toList] at this
  rw [←b2,←this]
  rfl
 ·rw [hsg i] at hi
  have hseg:=seg_get c.toList new' (d.base+off) (by simpa using hfit) (d.base+i)
  rw [List.getElem?_toArray,hseg]
  by_cases hin:off≤i∧i<off+new.length
  ·rw [if_pos hin] at hi
   rw [if_pos (by omega)]
   obtain ⟨x,hx,hrx⟩:=hn.get _ _ hi
   refine ⟨x,?_,hrx⟩
   rw [←hx]
   congr 1
   omega
  ·rw [if_neg hin] at hi
   rw [if_neg (by omega)]
   obtain ⟨x,hx,hrx⟩:=b4 i v hi
   exact ⟨x,by simpa using hx,hrx⟩
end
end Go.Proofs.YtiepamfpilhcjaaDoor.Hx
namespace Go.Proofs.YtiepamfpilhcjaaDoor.Hx
structure After (Δ:Env) (h:Hp) (w:World) (v:V) (h' : Hp) (Δ' : Env) (x:Value) (w' : World):Prop where
 val:VRel Δ' v x
 world:WR Δ' h' w'
 frame:FR Δ Δ' w w'
 grow:Gr h Δ h' Δ'
theorem WR.heap {Δ:Env} {h:Hp} {w w' : World} (hW:WR Δ h w) (he:w'.heap=w.heap):WR Δ h w':=
 ⟨hW.fresh,fun l d hl=>by rw [he];exact hW.blk l d hl,fun l d hl=>by rw [he];exact hW.obj l d hl,hW.apart,hW.glob,hW.gnext,fun g c hm=>by rw [he];exact hW.tab g c hm⟩
theorem WR.layAt {Δ:Env} {h:Hp} {w:World} (hW:WR Δ h w) {l:Nat} {o:O} {d:D} (hn:Δ l=none) (hl:l<h.next) (hg:h.get l=some o) (hb:d.b<w.heap.size)
  (ho:ORel (Δ.set l d) d o w.heap[d.b]?) (hap:∀m d' p,Δ m=some d'→h.get m=some p→p.live=true→d'.b≠d.b) (hrw:RW Δ d.b):WR (Δ.set l d) h w where
 fresh:=fun m e hm=>by
  rcases Env.set_other hm with ⟨rfl,rfl⟩ | ⟨_,hm⟩
  ·exact hl
  ·exact hW.fresh m e hm
 blk:=fun m e hm=>by
  rcases Env.set_other hm with ⟨rfl,rfl⟩ | ⟨_,hm⟩
  ·exact hb
  ·exact hW.blk m e hm
 obj:=fun m e hm=>by
  rcases Env.set_other hm with ⟨rfl,rfl⟩ | ⟨_,hm⟩
  ·exact ⟨o,hg,ho⟩
  ·obtain ⟨o',h1,h2⟩:=hW.obj m e hm
   exact ⟨o',h1,h2.mono (Env.le_set hn)⟩
 apart:=fun m m' e e' p p' hm hm' hne hp hp' hlp hlp' hro=>by
  rcases Env.set_other hm with ⟨h1,h2⟩ | ⟨_,h1⟩ <;> rcases Env.set_other hm' with ⟨h3,h4⟩ | ⟨_,h3⟩
  ·exact absurd (h1.trans h3.symm) hne
  ·rw [h2];exact (hap m' e' p' h3 hp' hlp').symm
  ·rw [h4];exact hap m e p h1 hp hlp
  ·exact hW.apart m m' e e' p p' h1 h3 hne hp hp' hlp hlp' hro
 glob:=fun g p hlt hp=>by
  obtain ⟨e,h1,h2⟩:=hW.glob g p hlt hp
  exact ⟨e,Env.le_set hn _ _ h1,h2⟩
 gnext:=hW.gnext
 tab:=hW.tab.step (fun _ _ _=>rfl) fun m e hm _=>by
  rcases Env.set_other hm with ⟨rfl,rfl⟩ | ⟨_,hm⟩
  ·exact .inr (.inr hrw)
  ·exact .inl hm
theorem FR.layAt {Δ:Env} {w w' : World} {l:Nat} {d:D} (hn:Δ l=none) (h:FR Δ Δ w w') (hrw:RW Δ d.b):FR Δ (Δ.set l d) w w' where
 le:=Env.le_set hn
 size:=h.size
 os:=h.os
 tape:=h.tape
 output:=h.output
 keep:=h.keep
 new:=fun m e hm=>by
  rcases Env.set_other hm with ⟨rfl,rfl⟩ | ⟨_,hm⟩
  ·exact .inr (.inr hrw)
  ·exact .inl hm
theorem FR.drew {Δ Δ' : Env} {w w' : World} (h:FR Δ Δ' w.drew w'):FR Δ Δ' w w':=⟨h.le,h.size,h.os,h.tape,h.output,h.keep,h.new⟩
section
variable {Δ:Env} {h:Hp} {w:World} {n:Nat} {t:Tm} {a:Act}
theorem bytes_rel (Δ:Env) (s:ByteArray):VsRel Δ (bytesV s.data.toList) (s.data.toList.map fun b=>Value.int .u8 b.toNat):=by
 generalize s.data.toList=l
 induction l with
 | nil=>exact .nil
 | cons b l ih=>exact .cons _ _ _ _ (.int .u8 _) ih
theorem xcells_ok (hW:WR Δ h w) {size:Nat} {x:V} {xv:Value} {m:Nat} {cs:List V} (hx:VRel Δ x xv) (hv:xcells h size x=some (m,cs)) :
  ∃news,VsRel Δ cs news∧(∀w',(Builtin.lenOf xv).run P0 w' = .ok m w')∧(Builtin.firstCells size m xv).run P0 w = .ok (Array.mk news) w∧news.length=m * size:=by
 unfold xcells at hv
 split at hv
 ·cases hv;cases hx
  exact ⟨[], .nil,fun _=>rfl,rfl,by simp⟩
 ·cases hv;cases hx
  exact ⟨[], .nil,fun _=>rfl,by simp [Builtin.firstCells,loadCells,loadCellsFrom],by simp⟩
 ·rename_i l off k
  rw [oB_eq] at hv
  obtain ⟨cs',h1,h2⟩:=hv
  cases h2
  cases hx with
  | slice _ _ _ cap o d hd hk hle ho =>
    rcases ho with ⟨rfl, _, _⟩ | ⟨rfl, _⟩
    · obtain ⟨xs, h3, h4⟩ := loadCells_list hW hd h1
      exact ⟨xs, h4, fun _ => rfl, by simpa [Builtin.firstCells] using h3, by rw [← h4.length, ldAt_len h1]; rfl⟩
    · simp at hle
 ·rename_i s
  rw [bB_eq] at hv
  obtain ⟨h1,h2⟩:=hv
  cases h2
  have h1' : size=1:=Nat.eq_of_beq_eq_true h1
  subst h1'
  cases hx with
  | str s =>
    refine ⟨_, bytes_rel Δ s, fun _ => by simp [Builtin.lenOf], ?_, by simp⟩
    have he : s.extract 0 s.size = s := by
      rw [ByteArray.ext_iff]; simp
    simp only [Builtin.firstCells]
    have : s.data.toList.length = s.size := by simp
    rw [this, he]
    simp only [Sem.run_pure]
    congr 1
    apply Array.ext'
    simp
 ·cases hv
theorem run_append_room' {sT xT ty elem:Nat} {dx:TypeDesc} (hs:P0.underlying sT=some (.slice elem)) (hx:P0.underlying xT=some dx) (hi:∀k,dx≠ .int k) {size:Nat} (hz:szOf elem=some size)
  {base:Option Addr} {sLen sCap m:Nat} {x:Value} (hlen:(Builtin.lenOf x).run P0 w = .ok m w) {news:List Value} (hnew:(Builtin.firstCells size m x).run P0 w = .ok (Array.mk news) w)
  (hroom:sLen+m≤sCap) {w' : World} (hst:∀b,base=some b→(storeCells (b.add (sLen * size)) news 0).run P0 w = .ok () w') (hw:base=none→w' = w) :
  (Builtin.append_ #[sT,xT] ty #[.slice base sLen sCap,x]).run P0 w = .ok (.slice base (sLen+m) sCap) w':=by
 have hz':=run_sz (w:=w) hz
 have hno:(match (generalizing:=false) dx with | .int _=>true | _=>false)=false:=by cases dx <;> first | rfl | exact absurd rfl (hi _)
 cases base with
 | none =>
   cases hw rfl
   simp [Builtin.append_, run_und hs, run_und hx, hz', hno, hlen, hroom, hnew]
 | some b=>simp [Builtin.append_,run_und hs,run_und hx,hz',hno,hlen,hroom,hnew,hst b rfl]
theorem run_append_grow' {sT xT ty elem:Nat} {dx:TypeDesc} (hs:P0.underlying sT=some (.slice elem)) (hx:P0.underlying xT=some dx) (hi:∀k,dx≠ .int k) {size by_:Nat} {z:V}
  (hz:elemOf elem=some (size,by_,z)) {base:Option Addr} {sLen sCap m:Nat} {x:Value} (hlen:(Builtin.lenOf x).run P0 w = .ok m w) {olds news:List Value}
  (hold:(Builtin.firstCells size sLen (.slice base sLen sCap)).run P0 w.drew = .ok (Array.mk olds) w.drew)
  (hnew:(Builtin.firstCells size m x).run P0 w.drew = .ok (Array.mk news) w.drew) (hg:¬sLen+m≤sCap) (hb:(sLen+m) * by_≤70368744177664) (hm:sLen+m≤70368744177664) :
  ∃zc,zc.size=size∧(Builtin.append_ #[sT,xT] ty #[.slice base sLen sCap,x]).run P0 w = .ok (.slice (some ⟨w.heap.size,0,none⟩) (sLen+m) (grownCap w (sLen+m) sCap elem))
   (w.drew.alloc (.cells (Array.mk olds++Array.mk news++Builtin.zeroCells zc (grownCap w (sLen+m) sCap elem - (sLen+m))) elem)):=by
 obtain ⟨hsz,hby,hzv,hpos,hzl,_⟩:=elemOf_eq hz
 obtain ⟨zv,hzr,hzvr,i,hi',hzi⟩:=run_zero hzv
 have hno:(match (generalizing:=false) dx with | .int _=>true | _=>false)=false:=by cases dx <;> first | rfl | exact absurd rfl (hi _)
 have hib:i.bytes=by_:=by
  unfold byOf at hby
  rw [oB_eq] at hby
  obtain ⟨i',h1,h2⟩:=hby
  rw [hi'] at h1;cases h1;simpa using h2
 have his:i.size=size:=by
  obtain ⟨i',h1,h2⟩:=info_of_sz hsz
  rw [hi'] at h1;cases h1;exact h2
 have hfit:Builtin.nextslicecap (sLen+m) sCap * i.bytes≤281474976710656:=growslice_fits (by omega) (by rw [hib];omega)
 have h48' : ¬(281474976710656<Builtin.nextslicecap (sLen+m) sCap * i.bytes):=by omega
 have h63' : ¬(9223372036854775807<((sLen:Int)+(m:Int))):=by omega
 have hzc:=(hzvr fun _=>none).cells.length
 refine ⟨zv.cells,by simp only [Array.length_toList] at hzc;omega,?_⟩
 rw [←his] at hold hnew
 have hq:(Question.appendCap (sLen+m) sCap elem).forced=false:=rfl
 simp [Builtin.append_,run_und hs,run_und hx,sizeOf,typeInfo,zeroValue,hi',hzi,hno,hlen,hg,h63',h48',hq,hold,hnew,newRow,grownCap]
 congr 2
 apply Array.ext'
 simp
theorem happend_ok (hW : WR Δ h w) {sT xT ty elem : Nat} {dx : TypeDesc} (hs : P0.underlying sT = some (.slice elem)) (hx : P0.underlying xT = some dx) (hi : ∀ k, dx ≠ .int k) {size by_ : Nat} {z : V}
    (hz : elemOf elem = some (size, by_, z)) {s x : V} {sv xv : Value} (hsv : VRel Δ s sv) (hxv : VRel Δ x xv) {r : R} (hv : happend elem size by_ s x h = some r) :
    ∃ v h' Δ' y w', r = .val v h' ∧ (Builtin.append_ #[sT, xT] ty #[sv, xv]).run P0 w = .ok y w' ∧ After Δ h w v h' Δ' y w' := by
  obtain ⟨hsz, hby, hzv, hpos, hzl, _⟩ := elemOf_eq hz
  unfold happend at hv
  rw [oB_eq] at hv
  obtain ⟨⟨m, cs⟩, h1, h2⟩ := hv
  obtain ⟨news, n1, n2, n3, n4⟩ := xcells_ok hW hxv h1
  have hWd : WR Δ h w.drew := hW.heap rfl
  obtain ⟨newsd, d1, d2, d3, d4⟩ := xcells_ok hWd hxv h1
  have hcl : cs.length = m * size := by rw [n1.length, n4]
  cases hm : Nat.beq m 0 with
  | true =>
    have hm0 : m = 0 := Nat.eq_of_beq_eq_true hm
    subst hm0
    simp only [hm] at h2
    have hn0 : news = [] := List.eq_nil_of_length_eq_zero (by simpa using n4)
    subst hn0
    split at h2
    · cases h2; cases hsv
      exact ⟨_, _, Δ, _, w, rfl, run_append_room' hs hx hi hsz (n2 w) n3 (Nat.le_refl _) (fun b hb => by cases hb) (fun _ => rfl), .nilSlice, hW, .refl _ _, .refl _ _⟩
    · cases h2
      cases hsv with
      | slice l off len cap o d hd hk hle ho =>
        exact ⟨_, _, Δ, _, w, rfl, run_append_room' hs hx hi hsz (n2 w) n3 hle (fun b hb => rfl) (fun _ => rfl), .slice _ _ _ cap o d hd hk hle ho, hW, .refl _ _, .refl _ _⟩
    · cases h2
  | false =>
    have hm0 : 0 < m := Nat.pos_of_ne_zero fun e => by rw [e] at hm; cases hm
    simp only [hm, bB_eq] at h2
    obtain ⟨hone, h2⟩ := h2
    have fresh : ∀ (base : Option Addr) (sLen sCap : Nat) (olds : List Value) (old : List V) (h0 : Hp), sv = .slice base sLen sCap → VsRel Δ old olds → olds.length = sLen * size →
        (Builtin.firstCells size sLen (.slice base sLen sCap)).run P0 w.drew = .ok (Array.mk olds) w.drew → ¬ sLen + m ≤ sCap → (sLen + m) * by_ ≤ 70368744177664 → sLen + m ≤ 70368744177664 →
        WR Δ h0 w → h0.next = h.next →
        ∃ Δ' y w', (Builtin.append_ #[sT, xT] ty #[sv, xv]).run P0 w = .ok y w' ∧ After Δ h w (.slice h.next 0 (sLen + m)) (h0.new (.cells elem size true false (old ++ cs))) Δ' y w' := by
      intro base sLen sCap olds old h0 hsv' hold holdl hrun hg hb hmx hW0 hnext
      obtain ⟨zc, hzc, hr⟩ := run_append_grow' (ty := ty) hs hx hi hz (n2 w) hrun d3 hg hb hmx
      have hge := grownCap_ge w (sLen + m) sCap elem
      generalize grownCap w (sLen + m) sCap elem = nc at hr hge
      have hmade : Made Δ (.cells elem size true false (old ++ cs)) (fun l => .slice l 0 (sLen + m)) (.cells (Array.mk olds ++ Array.mk newsd ++ Builtin.zeroCells zc (nc - (sLen + m))) elem)
          (fun b => .slice (some ⟨b, 0, none⟩) (sLen + m) nc) := by
        intro l b hn
        have hle := Env.le_set (d := ⟨b, 0, size, (old ++ cs).length, nc * size, false, 0⟩) hn
        have hall := hold.append d1
        have hlen : (old ++ cs).length = (sLen + m) * size := by rw [List.length_append, hold.length, holdl, hcl, Nat.add_mul]
        have hle2 : (sLen + m) * size ≤ nc * size := Nat.mul_le_mul_right _ hge
        refine ⟨⟨b, 0, size, (old ++ cs).length, nc * size, false, 0⟩, rfl, ⟨rfl, rfl, rfl, rfl, fun _ => ?_⟩, ?_⟩
        · refine cellsOk_new ?_ rfl (by show (old ++ cs).length ≤ nc * size; omega) fun i u hi' => ?_
          · show (Array.mk olds ++ Array.mk newsd ++ Builtin.zeroCells zc (nc - (sLen + m))).size = nc * size
            simp only [Array.size_append, List.size_toArray, size_zeroCells, hzc, holdl, d4]
            rw [← Nat.add_mul, ← Nat.add_mul]
            congr 1
            omega
          · obtain ⟨y, hy, hry⟩ := hall.get i u hi'
            refine ⟨y, ?_, hry.mono hle⟩
            have hlt : i < (olds ++ newsd).length := (List.getElem?_eq_some_iff.1 hy).1
            rw [Array.getElem?_append_left (by simpa using hlt)]
            simpa using hy
        · refine VRel.slice l 0 (sLen + m) nc 0 _ (Env.set_self _ _ _) rfl hge (.inl ⟨rfl, ?_, ?_⟩)
          · show (old ++ cs).length ≤ 0 + nc * size; omega
          · show 0 + 0 + nc * size ≤ nc * size; omega
      obtain ⟨Δ', a1, a2, a3, a4⟩ := (hW0.heap (w' := w.drew) rfl).alloc hmade
      have hgr : Gr h Δ (h0.new (.cells elem size true false (old ++ cs))) Δ' := ⟨by rw [← hnext]; exact a4.next, fun l hl hlt => a4.none l hl (by rw [hnext]; exact hlt)⟩
      rw [hnext] at a2
      exact ⟨Δ', _, _, hsv' ▸ hr, a2, a1, a3.drew, hgr⟩
    split at h2
    · simp only [bB_eq] at h2
      obtain ⟨h3, h4, h5⟩ := h2
      cases h5
      cases hsv
      have h3' : m * by_ ≤ 70368744177664 := Nat.le_of_ble_eq_true h3
      have h4' : m ≤ 70368744177664 := Nat.le_of_ble_eq_true h4
      obtain ⟨Δ', y, w', b1, b2⟩ := fresh none 0 0 [] [] h rfl .nil (by simp) rfl (by omega) (by simpa using h3') (by simpa using h4') hW rfl
      exact ⟨_, _, Δ', y, w', rfl, b1, by simpa using b2⟩
    · rename_i l off len
      rw [cellsAt_eq] at h2
      obtain ⟨e, sz, live, ro, all, hg, h2⟩ := h2
      simp only [bB_eq] at h2
      obtain ⟨rfl, hro, hsz', h2⟩ := h2
      have hsz'' : sz = size := Nat.eq_of_beq_eq_true hsz'
      subst hsz''
      have hro' : ro = false := by simpa using hro
      subst hro'
      cases hsv with
      | slice _ _ _ cap o d hd hk hle ho =>
        obtain ⟨ob, hob, hr⟩ := hW.obj l d hd
        rw [hg] at hob; cases hob
        obtain ⟨a1, a2, a3, a4, a5⟩ := hr
        obtain ⟨c, e', fr, b1, b2, b3, b5, b4⟩ := a5 rfl
        rw [a2] at ho
        have hmul : (len + m) * sz = len * sz + m * sz := Nat.add_mul _ _ _
        have hms : 0 < m * sz := Nat.mul_pos hm0 hpos
        cases hin : Nat.ble (Nat.add off (Nat.mul (Nat.add len m) sz)) all.length with
        | true =>
          simp only [hin, oB_eq] at h2
          obtain ⟨cs', h3, h4⟩ := h2
          cases h4
          have hin' : off + (len + m) * sz ≤ all.length := Nat.le_of_ble_eq_true hin
          rcases ho with ⟨rfl, ho1, ho2⟩ | ⟨rfl, ho1⟩
          · have hroom : len + m ≤ cap := by
              rcases Nat.lt_or_ge cap (len + m) with hlt | hge
              · exfalso
                have : cap * sz < (len + m) * sz := Nat.mul_lt_mul_of_pos_right hlt hpos
                omega
              · exact hge
            have hst : stAt h l (off + len * sz) cs = some (h.put l (.cells e sz true false cs')) := by
              unfold stAt
              rw [cellsAt_eq]
              refine ⟨e, sz, true, false, all, hg, ?_⟩
              simp only [bB_eq, oB_eq]
              exact ⟨trivial, rfl, hone, cs', h3, rfl⟩
            obtain ⟨w', c1, c2, c3⟩ := stAt_ok hW hd n1 hst
            refine ⟨_, _, Δ, _, w', rfl, run_append_room' hs hx hi hsz (n2 w) n3 hroom (fun b hb => ?_) (fun hb => by cases hb), ?_, c2, c3, .same (Nat.le_refl _)⟩
            · cases hb
              rw [addr_add, Nat.add_assoc]
              exact c1
            · exact .slice l off (len + m) cap _ d hd hk hroom (.inl ⟨rfl, by rw [a2]; exact ho1, by rw [a2]; exact ho2⟩)
          · exfalso; omega
        | false =>
          simp only [hin, oB_eq, bB_eq] at h2
          obtain ⟨old, h3, hold1, h4, h5, h6⟩ := h2
          cases h6
          have h4' : (len + m) * by_ ≤ 70368744177664 := Nat.le_of_ble_eq_true h4
          have h5' : len + m ≤ 70368744177664 := Nat.le_of_ble_eq_true h5
          have h3' : sub all off (len * sz) = some old := h3
          obtain ⟨hol, hog⟩ := sub_eq h3'
          obtain ⟨hWk, hap, _⟩ := hW.kill hg hd
          have hld : ldAt h l off (len * sz) = some old := by
            unfold ldAt
            rw [cellsAt_eq]
            exact ⟨e, sz, true, false, all, hg, by rw [bB_eq]; exact ⟨rfl, h3'⟩⟩
          by_cases hroom : len + m ≤ cap
          · rcases ho with ⟨rfl, ho1, ho2⟩ | ⟨rfl, ho1⟩
            · have hcap : (len + m) * sz ≤ cap * sz := Nat.mul_le_mul_right _ hroom
              have hfit : d.base + off + len * sz + news.length ≤ c.size := by rw [n4]; omega
              have hrun := run_storeCells_fr d.b (d.base + off + len * sz) e' fr news 0 c w b1 (fun j hj => frFree (b3 a4) j (by omega)) (by simpa using hfit) (n1.ones hone)
              simp only [Nat.add_zero] at hrun
              have hfit' : d.base + off + len * sz + news.length ≤ c.toList.length := by simpa using hfit
              generalize hw' : w.setRow d.b (c.toList.take (d.base + off + len * sz) ++ news ++ c.toList.drop (d.base + off + len * sz + news.length)).toArray = w' at hrun
              have hsize : w'.heap.size = w.heap.size := by rw [← hw']; simp
              have hother : ∀ b, b ≠ d.b → w'.heap[b]? = w.heap[b]? := fun b hb => by rw [← hw']; exact setRow_other _ _ _ _ hb
              have hrow : w'.heap[d.b]? = some (.cells (c.toList.take (d.base + off + len * sz) ++ news ++ c.toList.drop (d.base + off + len * sz + news.length)).toArray e' fr) := by
                rw [← hw']; exact setRow_heap w d.b c _ e' fr b1
              have hWk' : WR Δ (h.put l (.cells e sz false false all)) w' := hW.set hd hg rfl a4 (fun h => (nomatch h)) ⟨a1, a2, a3, a4, fun h => (nomatch h)⟩ hsize hother
              have hFR : FR Δ Δ w w' := FR.set hd a4 hsize hother (by rw [← hw']; rfl) (by rw [← hw']; rfl) (by rw [← hw']; rfl)
              have hn := hW.none_next
              have hoc : (old ++ cs).length = (len + m) * sz := by rw [List.length_append, hol, hcl, hmul]
              have hle' := Env.le_set (d := ⟨d.b, d.base + off, sz, (old ++ cs).length, d.asz, false, 0⟩) hn
              refine ⟨_, _, Δ.set h.next ⟨d.b, d.base + off, sz, (old ++ cs).length, d.asz, false, 0⟩, _, w', rfl,
                run_append_room' hs hx hi hsz (n2 w) n3 hroom (fun b hb => ?_) (fun hb => by cases hb), ?_, ?_, hFR.layAt hn ⟨l, d, hd, a4, rfl⟩, Gr.set (Nat.le_succ _)⟩
              · cases hb
                rw [addr_add]
                exact hrun
              · refine .slice h.next 0 (len + m) cap (d.base + off) ⟨d.b, d.base + off, sz, (old ++ cs).length, d.asz, false, 0⟩ (Env.set_self _ _ _) rfl hroom (.inl ⟨rfl, ?_, ?_⟩)
                · show (old ++ cs).length ≤ 0 + cap * sz; omega
                · show d.base + off + 0 + cap * sz ≤ d.asz; omega
              · refine (hWk'.more (.cells elem sz true false (old ++ cs))).layAt (o := .cells elem sz true false (old ++ cs)) (d := ⟨d.b, d.base + off, sz, (old ++ cs).length, d.asz, false, 0⟩) hn (Nat.lt_succ_self _) (by rw [get_new]; exact if_pos rfl) (by rw [hsize]; exact hW.blk l d hd) ⟨rfl, rfl, rfl, rfl, fun _ => ?_⟩ (fun m' d' p hm' hp hlp => ?_) ⟨l, d, hd, a4, rfl⟩
                · refine ⟨_, e', fr, hrow, ?_, fun _ => b3 a4, ?_, fun i v hi' => ?_⟩
                  · have := seg_length c.toList news _ hfit'
                    simp only [Array.length_toList] at this
                    show _ = d.asz
                    rw [← b2, ← this]; rfl
                  · show d.base + off + (old ++ cs).length ≤ d.asz; omega
                  · show ∃ x, (List.toArray _)[d.base + off + i]? = some x ∧ _
                    rw [List.getElem?_toArray, seg_get c.toList news _ hfit']
                    rw [List.getElem?_append] at hi'
                    by_cases hlt : i < old.length
                    · rw [if_pos hlt, hog i (by omega)] at hi'
                      obtain ⟨x, hx1, hx2⟩ := b4 _ _ hi'
                      rw [if_neg (by omega)]
                      exact ⟨x, by rw [Array.getElem?_toList, Nat.add_assoc]; exact hx1, hx2.mono hle'⟩
                    · rw [if_neg hlt] at hi'
                      obtain ⟨x, hx1, hx2⟩ := n1.get _ _ hi'
                      have hlt2 := (List.getElem?_eq_some_iff.1 hi').1
                      rw [if_pos (by omega)]
                      refine ⟨x, ?_, hx2.mono hle'⟩
                      rw [← hx1]
                      congr 1
                      omega
                · have hne : h.next ≠ m' := Nat.ne_of_gt (hW.fresh _ _ hm')
                  rw [get_new] at hp
                  rw [if_neg (by exact hne)] at hp
                  rw [get_put _ _ (hW.fresh _ _ hd)] at hp
                  by_cases he : l = m'
                  · subst he
                    rw [if_pos rfl] at hp
                    cases hp
                    cases hlp
                  · rw [if_neg he] at hp
                    exact hap m' d' p (Ne.symm he) hm' hp hlp
            · exfalso; omega
          · have hfc : ∃ olds, VsRel Δ old olds ∧ (Builtin.firstCells sz len (.slice (some ⟨d.b, o, none⟩) len cap)).run P0 w.drew = .ok (Array.mk olds) w.drew := by
              rcases ho with ⟨rfl, ho1, ho2⟩ | ⟨rfl, ho1⟩
              · obtain ⟨xs, c1, c2⟩ := loadCells_list hWd hd hld
                exact ⟨xs, c2, by simpa [Builtin.firstCells] using c1⟩
              · have hl0 : len = 0 := by omega
                subst hl0
                have ho0 : old = [] := List.eq_nil_of_length_eq_zero (by rw [hol]; simp)
                subst ho0
                exact ⟨[], .nil, by simp [Builtin.firstCells, loadCells, loadCellsFrom]⟩
            obtain ⟨olds, c1, c2⟩ := hfc
            obtain ⟨Δ', y, w', e1, e2⟩ := fresh _ len cap olds old (h.put l (.cells e sz false false all)) rfl c1 (by rw [← c1.length, hol]) c2 hroom h4' h5' hWk rfl
            exact ⟨_, _, Δ', y, w', rfl, e1, e2⟩
    · cases h2
end
end Go.Proofs.YtiepamfpilhcjaaDoor.Hx
namespace Go.Proofs.YtiepamfpilhcjaaDoor.Hx
section
variable {Δ:Env} {h:Hp} {w:World} {n:Nat} {t:Tm} {a:Act}
theorem hstore_ok (hW:WR Δ h w) {ty size:Nat} (hz:szOf ty=some size) {l off:Nat} {v:V} {pv xv:Value} (hp:VRel Δ (.ptr l off) pv) (hx:VRel Δ v xv)
  (hlen:Nat.beq v.cells.length size=true) {h' : Hp} (hs:stAt h l off v.cells=some h') :
  ∃w',(Instr.storeAt ty pv xv).run P0 w = .ok () w'∧WR Δ h' w'∧FR Δ Δ w w'∧Gr h Δ h' Δ:=by
 cases hp with
 | ptr _ _ d hd =>
   have hc := hx.cells
   obtain ⟨w', h1, h2, h3⟩ := stAt_ok hW hd hc hs
   have hl := Nat.eq_of_beq_eq_true hlen
   have hcl := hc.length
   simp only [Array.length_toList] at hcl
   have hnx : h'.next = h.next := by
     unfold stAt at hs
     rw [cellsAt_eq] at hs
     obtain ⟨e, sz, live, ro, cs, hg, hv⟩ := hs
     simp only [bB_eq, oB_eq] at hv
     obtain ⟨_, _, _, _, _, hv⟩ := hv
     cases hv; rfl
   refine ⟨w', ?_, h2, h3, .same (Nat.le_of_eq hnx.symm)⟩
   have : ¬ (xv.cells.size ≠ size) := by omega
   simp [Instr.storeAt, Instr.sureAddr, storeVar, run_sz hz, this, h1]
theorem ERel.length {es:List (V×V×Nat)} {es' : List MapEntry} (h:ERel Δ es es'):es.length=es'.length:=by
 induction h with
 | nil=>rfl
 | cons k v n e es es' hk hv hb _ ih=>simp [ih]
theorem ERel.get {es:List (V×V×Nat)} {es' : List MapEntry} (h:ERel Δ es es') {i:Nat} {e:V×V×Nat} (hi:es[i]? = some e) :
  ∃e',es'[i]? = some e'∧VRel Δ e.1 e'.key∧VRel Δ e.2.1 e'.val∧e'.born=e.2.2:=by
 induction h generalizing i with
 | nil=>simp at hi
 | cons k v n e0 es es' hk hv hb _ ih =>
   cases i with
   | zero => simp at hi; subst hi; exact ⟨e0, rfl, hk, hv, hb⟩
   | succ i => exact ih (by simpa using hi)
theorem ERel.set {es:List (V×V×Nat)} {es' : List MapEntry} (h:ERel Δ es es') {i:Nat} {k v:V} {m:Nat} {e' : MapEntry} (hk:VRel Δ k e'.key) (hv:VRel Δ v e'.val) (hb:e'.born=m) :
  ERel Δ (es.set i (k,v,m)) (es'.set i e'):=by
 induction h generalizing i with
 | nil=>exact .nil
 | cons k0 v0 n e0 es es' hk0 hv0 hb0 hs ih =>
   cases i with
   | zero => exact .cons _ _ _ _ _ _ hk hv hb hs
   | succ i => exact .cons _ _ _ _ _ _ hk0 hv0 hb0 ih
theorem ERel.snoc {es:List (V×V×Nat)} {es' : List MapEntry} (h:ERel Δ es es') {k v:V} {m:Nat} {e' : MapEntry} (hk:VRel Δ k e'.key) (hv:VRel Δ v e'.val) (hb:e'.born=m) :
  ERel Δ (es++[(k,v,m)]) (es'++[e']):=by
 induction h with
 | nil=>exact .cons _ _ _ _ _ _ hk hv hb .nil
 | cons k0 v0 n e0 es es' hk0 hv0 hb0 hs ih=>exact .cons _ _ _ _ _ _ hk0 hv0 hb0 ih
theorem ERel.erase {es:List (V×V×Nat)} {es' : List MapEntry} (h:ERel Δ es es') {i:Nat} : ERel Δ (es.eraseIdx i) (es'.eraseIdx i):=by
 induction h generalizing i with
 | nil=>exact .nil
 | cons k0 v0 n e0 es es' hk0 hv0 hb0 hs ih =>
   cases i with
   | zero => exact hs
   | succ i => exact .cons _ _ _ _ _ _ hk0 hv0 hb0 ih
theorem sameBits_flat {k:V} {x y:Value} (m:Nat) (hf:flatKey k=true) (hx:VRel Δ k x) (hy:VRel Δ k y):Instr.sameBits m x y=true:=by
 cases k <;> simp [flatKey] at hf
 ·cases hx;cases hy;cases m <;> simp [Instr.sameBits]
 ·cases hx;cases hy;cases m <;> simp [Instr.sameBits]
 ·rename_i s
  cases hx with
  | str s1 =>
    generalize hs : s1.data.toList = l at hy
    cases hy with
    | str s2 =>
      have : s1 = s2 := by
        rw [ByteArray.ext_iff]
        exact Array.ext' hs
      subst this
      have hb : (s1 == s1) = true := by show (s1.data == s1.data) = true; simp
      cases m <;> simpa [Instr.sameBits] using hb
theorem zip_flat (m:Nat) {cs:List V} {xs ys:List Value} (hf:cs.all flatKey=true) (hx:VsRel Δ cs xs) (hy:VsRel Δ cs ys):xs.length=ys.length∧(xs.zip ys).all (fun p=>Instr.sameBits m p.1 p.2)=true:=by
 induction cs generalizing xs ys with
 | nil=>cases hx;cases hy;exact ⟨rfl,rfl⟩
 | cons c cs ih =>
   cases hx with
   | cons _ x _ xs hx hxs =>
     cases hy with
     | cons _ y _ ys hy hys =>
       simp only [List.all_cons, Bool.and_eq_true] at hf
       obtain ⟨h1, h2⟩ := ih hf.2 hxs hys
       exact ⟨by simp [h1], by simp only [List.zip_cons_cons, List.all_cons, Bool.and_eq_true]; exact ⟨sameBits_flat m hf.1 hx hy, h2⟩⟩
theorem sameBits_simple {k:V} {x y:Value} (m:Nat) (hf:simpleKey k=true) (hx:VRel Δ k x) (hy:VRel Δ k y):Instr.sameBits (m+1) x y=true:=by
 cases k with
 | agg cs =>
   cases hx with | agg _ xs hx => cases hy with | agg _ ys hy =>
   obtain ⟨h1, h2⟩ := zip_flat m hf hx hy
   simp only [Instr.sameBits, Bool.and_eq_true]
   exact ⟨by simpa using h1, h2⟩
 | _=>exact sameBits_flat (m+1) (by simpa [simpleKey] using hf) hx hy
theorem map_set (hW:WR Δ h w) {l:Nat} {d:D} (hl:Δ l=some d) {es es2:List (V×V×Nat)} {c c2:Nat} (hg:h.get l=some (.map es c)) {es2' : Array MapEntry} (he:ERel Δ es2 es2'.toList) :
  (setObj d.b (.map es2' c2)).run P0 w = .ok () { w with heap:=w.heap.setIfInBounds d.b (.map es2' c2) }∧
  WR Δ (h.put l (.map es2 c2)) { w with heap:=w.heap.setIfInBounds d.b (.map es2' c2) }∧FR Δ Δ w { w with heap:=w.heap.setIfInBounds d.b (.map es2' c2) }:=by
 obtain ⟨o,ho,hr⟩:=hW.obj l d hl
 rw [hg] at ho;cases ho
 obtain ⟨a1,a2,a3,es',h1,h2⟩:=hr
 have hlt:=hW.blk l d hl
 have hother:∀b,b≠d.b→({ w with heap:=w.heap.setIfInBounds d.b (.map es2' c2) } : World).heap[b]? = w.heap[b]?:=fun b hb=>by
  simp only
  rw [Array.getElem?_setIfInBounds_ne (fun e=>hb e.symm)]
 refine ⟨by simp [setObj,Sem.run,h1],hW.set hl hg rfl a2 (fun h=>h) ⟨a1,a2,a3,es2',?_,he⟩ (by simp) hother,FR.set hl a2 (by simp) hother rfl rfl rfl⟩
 simp [hlt]
theorem hput_ok (hW:WR Δ h w) {mT kt et:Nat} (hu:P0.underlying mT=some (.map kt et)) {d:Option (List Field)} (hd:keyD kt=some d) {m k v:V} {mv kv vv:Value} (hm:VRel Δ m mv) (hk:VRel Δ k kv) (hx:VRel Δ v vv)
  {r:R} (hv:hput kt d m k v h=some r):∃h' w',r = .val .undef h'∧(Instr.mapUpdate mT mv kv vv).run P0 w = .ok () w'∧WR Δ h' w'∧FR Δ Δ w w'∧Gr h Δ h' Δ:=by
 unfold hput at hv
 rw [bB_eq] at hv
 obtain ⟨hh,hv⟩:=hv
 split at hv
 ·rename_i l
  simp only [mapAt_eq,oB_eq] at hv
  obtain ⟨es,c,hg,ob,hp,hv⟩:=hv
  cases hv
  cases hm with
  | map _ dd hl =>
    obtain ⟨es', hb, he⟩ := map_ok hW hl hg
    have hck := checkKey_ok (em := false) 9999 (by omega) w hd hk hh
    unfold mapPut at hp
    rw [oB_eq] at hp
    obtain ⟨fr, hf, hp⟩ := hp
    obtain ⟨fr', hf', hrel⟩ := findKey_ok hd hk w he hf
    cases fr with
    | none =>
      cases hp
      cases fr' with
      | some _ => cases hrel
      | none =>
        obtain ⟨s1, s2, s3⟩ := map_set hW hl hg (es2' := es'.push { key := kv, val := vv, born := c }) (c2 := c + 1) (by rw [Array.toList_push]; exact he.snoc (m := c) hk hx rfl)
        refine ⟨_, _, rfl, ?_, s2, s3, .same (Nat.le_refl _)⟩
        simp only [Instr.mapUpdate, Sem.run_bind, run_und hu, Result.andThen_ok, run_getObj_map hb, hck, hf', s1]
    | some p =>
      obtain ⟨i, u⟩ := p
      simp only [oB_eq, bB_eq] at hp
      obtain ⟨e, he1, he2, hsk, hp⟩ := hp
      cases hp
      cases fr' with
      | none => cases hrel
      | some p' =>
        obtain ⟨i', u'⟩ := p'
        obtain ⟨rfl, _⟩ := hrel
        obtain ⟨e', g1, g2, g3, g4⟩ := he.get he1
        rw [V.eq_of_beq _ _ he2] at g2
        have hsb : Instr.sameBits 10000 e'.key kv = true := sameBits_simple 9999 hsk g2 hk
        have g1' : es'[i]? = some e' := by simpa using g1
        have hmod : (es'.modify i fun e => { e with key := kv, val := vv }).toList = es'.toList.set i { e' with key := kv, val := vv } := by
          rw [Array.toList_modify]
          rw [List.modify_eq_set]
          simp [g1']
        obtain ⟨s1, s2, s3⟩ := map_set hW hl hg (es2' := es'.modify i fun e => { e with key := kv, val := vv }) (c2 := c) (by rw [hmod]; exact he.set (i := i) (k := k) (v := v) (m := e.2.2) hk hx g4)
        refine ⟨_, _, rfl, ?_, s2, s3, .same (Nat.le_refl _)⟩
        simp only [Instr.mapUpdate, Sem.run_bind, run_und hu, Result.andThen_ok, run_getObj_map hb, hck, hf', Instr.keyThatStays, g1', Option.map_some, Option.getD_some, hsb, if_true, Sem.run_pure, s1]
 ·cases hv
theorem hdelete_ok (hW:WR Δ h w) {mT kt et rt:Nat} {tys:Array Nat} (hty:tys[0]? = some mT) (hu:P0.underlying mT=some (.map kt et)) {d:Option (List Field)} (hd:keyD kt=some d) {m k:V} {mv kv:Value} (hm:VRel Δ m mv) (hk:VRel Δ k kv)
  {r:R} (hv:hdelete kt d m k h=some r):∃h' w',r = .val (.tuple []) h'∧(Builtin.delete_ tys rt #[mv,kv]).run P0 w = .ok (.tuple #[]) w'∧WR Δ h' w'∧FR Δ Δ w w'∧Gr h Δ h' Δ:=by
 unfold hdelete at hv
 rw [bB_eq] at hv
 obtain ⟨hh,hv⟩:=hv
 split at hv
 ·cases hv;cases hm
  have hck:=checkKey_ok (em:=true) 9999 (by omega) w hd hk hh
  refine ⟨h,w,rfl,?_,hW, .refl _ _, .refl _ _⟩
  simp only [Builtin.delete_,hty,List.getElem?_toArray,List.getElem?_cons_zero,List.getElem?_cons_succ,Sem.run_bind,run_und hu,Result.andThen_ok,hck,Sem.run_pure]
 ·rename_i l
  simp only [mapAt_eq,oB_eq] at hv
  obtain ⟨es,c,hg,fr,hf,hv⟩:=hv
  cases hm with
  | map _ dd hl =>
    obtain ⟨es', hb, he⟩ := map_ok hW hl hg
    have hck := checkKey_ok (em := es'.isEmpty) 9999 (by omega) w hd hk hh
    obtain ⟨fr', hf', hrel⟩ := findKey_ok hd hk w he hf
    cases fr with
    | none =>
      cases hv
      cases fr' with
      | some _ => cases hrel
      | none =>
        obtain ⟨s1, s2, s3⟩ := map_set hW hl hg (es2' := es') (c2 := c) he
        have hsame : ({ w with heap := w.heap.setIfInBounds dd.b (.map es' c) } : World) = w := by
          have : w.heap.setIfInBounds dd.b (.map es' c) = w.heap := by
            apply Array.ext_getElem?
            intro i
            by_cases hi : dd.b = i
            · subst hi
              have hlt := hW.blk l dd hl
              simp [hlt]
              simpa [hlt] using hb.symm
            · rw [Array.getElem?_setIfInBounds_ne hi]
          rw [this]
        rw [hsame] at s1
        refine ⟨h, w, rfl, ?_, hW, .refl _ _, .refl _ _⟩
        simp only [Builtin.delete_, hty, List.getElem?_toArray, List.getElem?_cons_zero, List.getElem?_cons_succ, Sem.run_bind, run_und hu, Result.andThen_ok, run_getObj_map hb, hck, hf', s1, Sem.run_pure]
    | some p =>
      obtain ⟨i, u⟩ := p
      cases hv
      cases fr' with
      | none => cases hrel
      | some p' =>
        obtain ⟨i', u'⟩ := p'
        obtain ⟨rfl, _⟩ := hrel
        have her : (es'.eraseIdxIfInBounds i).toList = es'.toList.eraseIdx i := by
          rw [Array.eraseIdxIfInBounds_eq]
          split
          · rw [Array.toList_eraseIdx]
          · rename_i hge
            rw [List.eraseIdx_of_length_le (by simpa using hge)]
        obtain ⟨s1, s2, s3⟩ := map_set hW hl hg (es2' := es'.eraseIdxIfInBounds i) (c2 := c) (by rw [her]; exact he.erase)
        refine ⟨_, _, rfl, ?_, s2, s3, .same (Nat.le_refl _)⟩
        simp only [Builtin.delete_, hty, List.getElem?_toArray, List.getElem?_cons_zero, List.getElem?_cons_succ, Sem.run_bind, run_und hu, Result.andThen_ok, run_getObj_map hb, hck, hf', s1, Sem.run_pure]
 ·cases hv
end
end Go.Proofs.YtiepamfpilhcjaaDoor.Hx
namespace Go.Proofs.YtiepamfpilhcjaaDoor.Hx
section
variable {Δ:Env} {h:Hp} {w:World} {n:Nat} {t:Tm} {a:Act}
theorem stAt_next {l off:Nat} {new:List V} {h' : Hp} (hs:stAt h l off new=some h'):h'.next=h.next:=by
 unfold stAt at hs
 rw [cellsAt_eq] at hs
 obtain ⟨e,sz,live,ro,cs,hg,hv⟩:=hs
 simp only [bB_eq,oB_eq] at hv
 obtain ⟨_,_,_,_,_,hv⟩:=hv
 cases hv;rfl
theorem bytes_take (s:ByteArray) (m:Nat):((s.extract 0 m).data.map fun b=>Value.int .u8 b.toNat)=Array.mk ((s.data.toList.take m).map fun b=>Value.int .u8 b.toNat):=by
 apply Array.ext'
 have:=extract_list s 0 m
 simp only [List.drop_zero,Nat.sub_zero] at this
 rw [Array.toList_map,this]
theorem bytes_rel' (Δ:Env) (l:List UInt8):VsRel Δ (bytesV l) (l.map fun b=>Value.int .u8 b.toNat):=by
 induction l with
 | nil=>exact .nil
 | cons b l ih=>exact .cons _ _ _ _ (.int .u8 _) ih
theorem hcopy_ok (hW:WR Δ h w) {dT elem size rt:Nat} {tys:Array Nat} (hty:tys[0]? = some dT) (hu:P0.underlying dT=some (.slice elem)) (hz:szOf elem=some size) {d s:V} {dv sv:Value}
  (hd:VRel Δ d dv) (hs:VRel Δ s sv) {r:R} (hv:hcopy size d s h=some r) :
  ∃h' m w',r = .val (.int .i64 (.ofNat m)) h'∧(Builtin.copy_ tys rt #[dv,sv]).run P0 w = .ok (.int .i64 m) w'∧WR Δ h' w'∧FR Δ Δ w w'∧Gr h Δ h' Δ:=by
 have none_:∀(base:Option Addr) (dLen dCap:Nat) (m:Nat),dv = .slice base dLen dCap→(Builtin.lenOf sv).run P0 w = .ok m w→Nat.min m dLen=0→(Builtin.firstCells size 0 sv).run P0 w = .ok #[] w→
   (Builtin.copy_ tys rt #[dv,sv]).run P0 w = .ok (.int .i64 (0:Nat)) w:=by
  intro base dLen dCap m hdv hl hm hf
  subst hdv
  have hz':=run_sz (w:=w) hz
  cases base <;> simp [Builtin.copy_,hty,run_und hu,hl,hm,hz',hf,storeCells,goInt]
 have some_:∀(base:Addr) (dLen dCap:Nat) (m:Nat) (xs:List Value) (w' : World),dv = .slice (some base) dLen dCap→(Builtin.lenOf sv).run P0 w = .ok m w→
   (Builtin.firstCells size (Nat.min m dLen) sv).run P0 w = .ok (Array.mk xs) w→(storeCells base xs 0).run P0 w = .ok () w'→
   (Builtin.copy_ tys rt #[dv,sv]).run P0 w = .ok (.int .i64 (Nat.min m dLen:Nat)) w':=by
  intro base dLen dCap m xs w' hdv hl hf hst
  subst hdv
  have hz':=run_sz (w:=w) hz
  simp [Builtin.copy_,hty,run_und hu,hl,hz',hf,hst,goInt]
 unfold hcopy at hv
 split at hv
 ·cases hd
  split at hv
  ·cases hv;cases hs
   exact ⟨_,0,w,rfl,none_ none 0 0 0 rfl rfl rfl rfl,hW, .refl _ _, .refl _ _⟩
  ·cases hv
   cases hs with
   | slice l off len cap o dd hdd hk hle ho =>
     exact ⟨_, 0, w, rfl, none_ none 0 0 _ rfl rfl (Nat.min_zero _) (by simp [Builtin.firstCells, loadCells, loadCellsFrom]), hW, .refl _ _, .refl _ _⟩
  ·cases hv
   cases hs with
   | str s=>exact ⟨_,0,w,rfl,none_ none 0 0 s.size rfl rfl (Nat.min_zero _) (by simp [Builtin.firstCells]),hW, .refl _ _, .refl _ _⟩
  ·cases hv
 ·rename_i l off len
  cases hd with
  | slice _ _ _ dcap o dd hdd hk hle ho =>
    split at hv
    · cases hv; cases hs
      exact ⟨_, 0, w, rfl, none_ _ len dcap 0 rfl rfl (Nat.zero_min _) rfl, hW, .refl _ _, .refl _ _⟩
    · rename_i l' off' len'
      cases hs with
      | slice _ _ _ scap so sd hsd hsk hsle hso =>
        cases hm : Nat.beq (min len' len) 0 with
        | true =>
          simp only [hm] at hv
          cases hv
          have hm' : Nat.min len' len = 0 := Nat.eq_of_beq_eq_true hm
          exact ⟨_, 0, w, rfl, none_ _ len dcap len' rfl rfl hm' (by simp [Builtin.firstCells, loadCells, loadCellsFrom]), hW, .refl _ _, .refl _ _⟩
        | false =>
          have hm' : 0 < min len' len := Nat.pos_of_ne_zero fun e => by rw [e] at hm; cases hm
          simp only [hm, oB_eq] at hv
          obtain ⟨cs, h1, h2, h3, h4⟩ := hv
          cases h4
          rcases hso with ⟨rfl, _, _⟩ | ⟨rfl, _⟩
          · rcases ho with ⟨rfl, _, _⟩ | ⟨rfl, _⟩
            · obtain ⟨xs, c1, c2⟩ := loadCells_list hW hsd h1
              obtain ⟨w', e1, e2, e3⟩ := stAt_ok hW hdd c2 h3
              exact ⟨_, _, w', rfl, some_ _ len dcap len' xs w' rfl rfl (by simpa [Builtin.firstCells] using c1) e1, e2, e3, .same (Nat.le_of_eq (stAt_next h3).symm)⟩
            · omega
          · omega
    · rename_i b
      rw [bB_eq] at hv
      obtain ⟨h1, hv⟩ := hv
      have h1' : size = 1 := Nat.eq_of_beq_eq_true h1
      subst h1'
      cases hs with
      | str s =>
        have hsl : s.data.toList.length = s.size := by simp
        rw [hsl] at hv
        cases hm : Nat.beq (min s.size len) 0 with
        | true =>
          simp only [hm] at hv
          cases hv
          have hm' : Nat.min s.size len = 0 := Nat.eq_of_beq_eq_true hm
          exact ⟨_, 0, w, rfl, none_ _ len dcap s.size rfl rfl hm' (by simp [Builtin.firstCells]), hW, .refl _ _, .refl _ _⟩
        | false =>
          have hm' : 0 < min s.size len := Nat.pos_of_ne_zero fun e => by rw [e] at hm; cases hm
          simp only [hm, oB_eq] at hv
          obtain ⟨h2, h3, h4⟩ := hv
          cases h4
          rcases ho with ⟨rfl, _, _⟩ | ⟨rfl, _⟩
          · obtain ⟨w', e1, e2, e3⟩ := stAt_ok hW hdd (bytes_rel' Δ _) h3
            refine ⟨_, _, w', rfl, some_ _ len dcap s.size _ w' rfl rfl ?_ e1, e2, e3, .same (Nat.le_of_eq (stAt_next h3).symm)⟩
            simp only [Builtin.firstCells, bytes_take]
            rfl
          · omega
    · cases hv
 ·cases hv
theorem cellsOk_marked {d:D} {cs:List V} {c:Array Value} {e:Nat} (hs:c.size=d.asz) (hb:d.base=0) (hl:cs.length≤d.asz) (hc:∀(i:Nat) (v:V),cs[i]? = some v→∃x,c[i]? = some x∧VRel Δ v x) :
  CellsOk Δ d cs (some (.cells c e (c.size,c.size+1))):=
 ⟨c,e,(c.size,c.size+1),rfl,hs,fun _=> .inr (Nat.le_of_eq hs.symm),by omega,fun i v hi=>by rw [hb,Nat.zero_add];exact hc i v hi⟩
theorem hbytes_ok (hW:WR Δ h w) {src dst e:Nat} (hs:P0.underlying src=some .string) (hd:P0.underlying dst=some (.slice e)) (he:P0.underlying e=some (.int .u8)) (s:ByteArray) :
  ∃Δ' x w',(convert src dst (.string s)).run P0 w = .ok x w'∧After Δ h w (.slice h.next 0 s.data.toList.length) (h.new (.cells e 1 true false (bytesV s.data.toList))) Δ' x w':=by
 have hr:=run_bytes_of_string (P:=P0) w src dst e s hs hd he
 have hge:=grownCap_ge w s.size 0 e
 generalize grownCap w s.size 0 e=cap at hr hge
 have hsl:s.data.toList.length=s.size:=by simp
 have hbl:(bytesV s.data.toList).length=s.size:=by simp [bytesV]
 have hrs:(bytesRow s cap).size=cap:=by
  have:s.data.size=s.size:=rfl
  simp [bytesRow];omega
 have hmade:Made Δ (.cells e 1 true false (bytesV s.data.toList)) (fun l=> .slice l 0 s.data.toList.length) (.cells (bytesRow s cap) e ((bytesRow s cap).size,(bytesRow s cap).size+1))
   (fun b=> .slice (some ⟨b,0,none⟩) s.size cap):=by
  intro l b hn
  refine ⟨⟨b,0,1,(bytesV s.data.toList).length,cap,false,0⟩,rfl,⟨rfl,rfl,rfl,rfl,fun _=>?_⟩,?_⟩
  ·refine cellsOk_marked hrs rfl (by show (bytesV s.data.toList).length≤cap;omega) fun i u hi=>?_
   obtain ⟨x,hx,hrx⟩:=(bytes_rel _ s).get i u hi
   refine ⟨x,?_,hrx⟩
   have hlt:i<(s.data.toList.map fun b=>Value.int .u8 b.toNat).length:=(List.getElem?_eq_some_iff.1 hx).1
   unfold bytesRow
   rw [Array.getElem?_append_left (by simpa using hlt)]
   rw [←hx]
   simp
  ·rw [hsl]
   refine VRel.slice l 0 s.size cap 0 ⟨b,0,1,(bytesV s.data.toList).length,cap,false,0⟩ (Env.set_self _ _ _) rfl hge (.inl ⟨rfl,?_,?_⟩)
   ·show (bytesV s.data.toList).length≤0+cap * 1;omega
   ·show 0+0+cap * 1≤cap;omega
 obtain ⟨Δ',a1,a2,a3,a4⟩:=(hW.heap (w':=w.drew) rfl).alloc hmade
 exact ⟨Δ',_,_,hr,a2,a1,a3.drew,a4⟩
theorem hmark_ok (hW:WR Δ h w) {src dst e0 e:Nat} {x:V} {y:Value} (hx:VRel Δ x y) (hs:P0.underlying src=some (.slice e0)) (hd:P0.underlying dst=some (.slice e)) (he:P0.underlying e=some (.int .u8)) (hsd:src=dst)
  {r:R} (hv:hmark x h=some r):∃v' h' w',r = .val v' h'∧(convert src dst y).run P0 w = .ok y w'∧After Δ h w v' h' Δ y w':=by
 unfold hmark at hv
 split at hv
 ·rename_i l off n
  rw [cellsAt_eq] at hv
  obtain ⟨e1,sz,live,ro,cs,hg,hv⟩:=hv
  simp only [bB_eq] at hv
  obtain ⟨rfl,hro,hv⟩:=hv
  cases hv
  have hro' : ro=false:=by simpa using hro
  subst hro'
  cases hx with
  | slice _ _ _ cap o d hl hk hle ho =>
    obtain ⟨p, hp, hr⟩ := hW.obj l d hl
    rw [hg] at hp; cases hp
    obtain ⟨a1, a2, a3, a4, a5⟩ := hr
    obtain ⟨c, e2, fr, b1, b2, b3, b5, b4⟩ := a5 rfl
    subst hsd
    obtain rfl : e0 = e := by rw [hs] at hd; cases hd; rfl
    obtain ⟨lo, hi⟩ := fr
    have hlt : d.b < w.heap.size := hW.blk l d hl
    have hw' : (w.freeze ⟨d.b, c.size, none⟩ 1).heap[d.b]? = some (.cells c e2 (if lo == hi then (c.size, c.size + 1) else (min lo c.size, max hi (c.size + 1)))) := by
      unfold World.freeze
      rw [if_neg (by omega)]
      simp only [Array.getElem?_modify, b1, if_true, Option.map_some]
    have hoth : ∀ b, b ≠ d.b → (w.freeze ⟨d.b, c.size, none⟩ 1).heap[b]? = w.heap[b]? := by
      intro b hb
      unfold World.freeze
      rw [if_neg (by omega)]
      simp only [Array.getElem?_modify]
      rw [if_neg (fun e => hb e.symm)]
    have hsz : (w.freeze ⟨d.b, c.size, none⟩ 1).heap.size = w.heap.size := by
      unfold World.freeze
      rw [if_neg (by omega)]
      simp
    have hwd : ∀ b, (w.freeze b 1).os = w.os ∧ (w.freeze b 1).tape = w.tape ∧ (w.freeze b 1).output = w.output := by
      intro b
      unfold World.freeze
      rw [if_neg (by omega)]
      exact ⟨rfl, rfl, rfl⟩
    refine ⟨_, _, w.freeze ⟨d.b, c.size, none⟩ 1, rfl, ?_, ⟨.slice l off n cap o d hl hk hle ho, ?_, FR.set hl a4 hsz hoth (hwd _).1 (hwd _).2.1 (hwd _).2.2, Gr.same (Nat.le_refl _)⟩⟩
    · have hshape : (Go.shape d.b).run P0 w = .ok (some (e2, c.size)) w := by
        show Result.ok (w.shape? d.b) w = _
        unfold World.shape?
        rw [b1]
      simp only [convert, Sem.run_bind, run_und hs, run_und hd, Result.andThen_ok, run_und he, beq_self_eq_true, markStringish, hshape, run_freeze]
      rfl
    · refine hW.set hl hg rfl a4 (fun h => h) ⟨a1, a2, a3, a4, fun _ => ⟨c, e2, _, hw', b2, fun _ => ?_, b5, b4⟩⟩ hsz hoth
      have h3 := b3 a4
      simp only at h3
      by_cases hlh : lo = hi
      · subst hlh
        simp only [beq_self_eq_true, if_true]
        right; omega
      · have : (lo == hi) = false := by simpa using hlh
        simp only [this, Bool.false_eq_true, if_false]
        right
        rcases h3 with h3 | h3
        · exact absurd h3 hlh
        · omega
 ·cases hv
end
end Go.Proofs.YtiepamfpilhcjaaDoor.Hx
namespace Go.Proofs.YtiepamfpilhcjaaDoor.Hx
section
variable {Δ:Env} {h:Hp} {w:World} {n:Nat} {t:Tm} {a:Act}
theorem hrange_ok (hW:WR Δ h w) {ty kt et:Nat} (hu:P0.underlying ty=some (.map kt et)) {m:V} {mv:Value} (hm:VRel Δ m mv) {r:R} (hv:hrange m h=some r) :
  ∃v h' Δ' x w',r = .val v h'∧(Instr.range ty mv).run P0 w = .ok x w'∧After Δ h w v h' Δ' x w':=by
 unfold hrange at hv
 split at hv
 ·cases hv;cases hm
  have hmade:Made Δ (.iter none 0 [] 0) (fun l=> .ptr l 0) (.mapIter none 0 #[] 0) (fun b=> .pointer (some ⟨b,0,none⟩)):=fun l b hn=>
   ⟨⟨b,0,0,0,0,false,2⟩,rfl,⟨rfl,rfl,rfl,none,rfl,rfl⟩,VRel.ptr l 0 ⟨b,0,0,0,0,false,2⟩ (Env.set_self _ _ _)⟩
  obtain ⟨Δ',a1,a2,a3,a4⟩:=hW.alloc hmade
  exact ⟨_,_,Δ',_,_,rfl,by simp [Instr.range,run_und hu],a2,a1,a3,a4⟩
 ·rename_i l
  rw [mapAt_eq] at hv
  obtain ⟨es,c,hg,hv⟩:=hv
  cases hv
  cases hm with
  | map _ d hd =>
    obtain ⟨es', hb, he⟩ := map_ok hW hd hg
    have hmade : Made Δ (.iter (some l) c [] c) (fun l => .ptr l 0) (.mapIter (some d.b) c #[] c) (fun b => .pointer (some ⟨b, 0, none⟩)) := fun l' b hn =>
      ⟨⟨b, 0, 0, 0, 0, false, 2⟩, rfl, ⟨rfl, rfl, rfl, some d.b, rfl, d, Env.le_set hn _ _ hd, rfl⟩, VRel.ptr l' 0 ⟨b, 0, 0, 0, 0, false, 2⟩ (Env.set_self _ _ _)⟩
    obtain ⟨Δ', a1, a2, a3, a4⟩ := hW.alloc hmade
    exact ⟨_, _, Δ', _, _, rfl, by simp [Instr.range, run_und hu, run_getObj_map hb], a2, a1, a3, a4⟩
 ·cases hv
theorem run_getObj_iter {r:Nat} {m:Option Nat} {s l:Nat} {seen:Array Nat} (hg:w.heap[r]? = some (.mapIter m s seen l)):(getObj r).run P0 w = .ok (.mapIter m s seen l) w:=by simp [getObj,Sem.run,hg]
theorem filter_rel {es:List (V×V×Nat)} {es' : List MapEntry} (he:ERel Δ es es') (p:Nat→Bool):ERel Δ (es.filter fun e=>p e.2.2) (es'.filter fun e=>p e.born):=by
 induction he with
 | nil=>exact .nil
 | cons k v n e es es' hk hv hb _ ih =>
   subst hb
   simp only [List.filter_cons]
   by_cases hp : p e.born = true
   · simp only [hp, if_true]; exact .cons _ _ _ _ _ _ hk hv rfl ih
   · simp only [hp]; exact ih
theorem all_rel {es:List (V×V×Nat)} {es' : List MapEntry} (he:ERel Δ es es') (p:Nat→Bool):es'.all (fun e=>p e.born)=es.all fun e=>p e.2.2:=by
 induction he with
 | nil=>rfl
 | cons k v n e es es' hk hv hb _ ih=>subst hb;simp [ih]
theorem hnext_ok (hW:WR Δ h w) {it:V} {iv:Value} {ty:Nat} (hi:VRel Δ it iv) {r:R} (hv:hnext it h=some r) :
  ∃v h' x w',r = .val v h'∧(Instr.next iv false ty).run P0 w = .ok x w'∧After Δ h w v h' Δ x w':=by
 unfold hnext at hv
 rw [asPtr_eq] at hv
 obtain ⟨rl,off,rfl,hv⟩:=hv
 rw [bB_eq,oB_eq] at hv
 obtain ⟨h0,o,hg,hv⟩:=hv
 have h0' : off=0:=Nat.eq_of_beq_eq_true h0
 subst h0'
 cases hi with
 | ptr _ _ d hd =>
   obtain ⟨o', ho, hr⟩ := hW.obj rl d hd
   rw [hg] at ho; cases ho
   split at hv
   · cases hv
     obtain ⟨a1, a2, a3, m', a4, a5⟩ := hr
     subst a5
     refine ⟨_, _, _, w, rfl, ?_, .tuple _ #[.bool false] (.one (.bool false)), hW, .refl _ _, .refl _ _⟩
     rw [a3]
     simp [Instr.next, run_getObj_iter a4]
   · rename_i m since seen last
     obtain ⟨a1, a2, a3, m', a4, dm, hdm, rfl⟩ := hr
     rw [mapAt_eq] at hv
     obtain ⟨es, c, hgm, hv⟩ := hv
     rw [bB_eq] at hv
     obtain ⟨hchk, hv⟩ := hv
     obtain ⟨es', hb, he⟩ := map_ok hW hdm hgm
     have hchk' : (!seen.toArray.isEmpty && !es'.isEmpty && es'.all (fun e => decide (e.born ≥ last))) = false := by
       have h1 : es'.isEmpty = es.isEmpty := by
         have := he.length
         cases es <;> cases hes : es' with | mk l => cases l <;> simp_all
       have h2 : es'.all (fun e => decide (e.born ≥ last)) = es.all (fun e => Nat.ble last e.2.2) := by
         rw [← Array.all_toList]
         have := all_rel he (fun n => Nat.ble last n)
         rw [← this]
         congr 1
         funext e
         rw [Bool.eq_iff_iff]
         simp [Nat.ble_eq]
       have h3 : seen.toArray.isEmpty = seen.isEmpty := by simp
       rw [h3, h1, h2]
       simpa only [Bool.not_eq_true'] using hchk
     have hleft := filter_rel he (fun n => !seen.contains n)
     have hl' : (es'.filter fun e => !seen.toArray.contains e.born) = Array.mk (es'.toList.filter fun e => !seen.contains e.born) := by
       apply Array.ext'
       rw [Array.toList_filter]
       simp
     rw [a3]
     split at hv
     · rename_i hf
       cases hv
       rw [hf] at hleft
       generalize (es'.toList.filter fun e => !seen.contains e.born) = L at hleft hl'
       cases hleft
       refine ⟨_, _, _, w, rfl, ?_, .tuple _ #[.bool false] (.one (.bool false)), hW, .refl _ _, .refl _ _⟩
       simp only [Instr.next, Sem.run_bind, run_getObj_iter a4, Result.andThen_ok, run_getObj_map hb, hchk', hl']
       simp [Question.forced]
     · rename_i e hf
       rw [bB_eq] at hv
       obtain ⟨hlt, hv⟩ := hv
       cases hv
       rw [hf] at hleft
       generalize (es'.toList.filter fun e => !seen.contains e.born) = L at hleft hl'
       cases hleft with
       | cons k v nb e' _ L hk hx hbn hs =>
         cases hs
         have hlt' : e'.born < since := by rw [Nat.blt_eq] at hlt; rw [hbn]; exact hlt
         have hdb := hW.blk _ _ hd
         have hother : ∀ b, b ≠ d.b → ({ w with heap := w.heap.setIfInBounds d.b (.mapIter (some dm.b) since (seen ++ [nb]).toArray c) } : World).heap[b]? = w.heap[b]? := fun b hb => by
           simp only
           rw [Array.getElem?_setIfInBounds_ne (fun e => hb e.symm)]
         refine ⟨_, _, _, { w with heap := w.heap.setIfInBounds d.b (.mapIter (some dm.b) since (seen ++ [nb]).toArray c) }, rfl, ?_,
           .tuple _ #[.bool true, e'.key, e'.val] (.cons _ _ _ _ (.bool true) (.cons _ _ _ _ hk (.one hx))), ?_, FR.set hd a2 (by simp) hother rfl rfl rfl, .same (Nat.le_refl _)⟩
         · have hge : ¬ (e'.born ≥ since) := by omega
           have f1 : (Array.mk [e']).filter (fun x => decide (x.born < since)) = #[e'] := by simp [hlt']
           have f2 : (Array.mk [e']).filter (fun x => decide (x.born ≥ since)) = #[] := by simp [hge]
           simp only [Instr.next, Sem.run_bind, run_getObj_iter a4, Result.andThen_ok, run_getObj_map hb, hchk', hl', f1, f2]
           simp [Question.forced, setObj, Sem.run, a4, hbn]
         · refine hW.set hd hg rfl a2 (fun h => h) ⟨a1, a2, a3, some dm.b, ?_, dm, hdm, rfl⟩ (by simp) hother
           simp [hdb]
     · cases hv
   · cases hv
theorem find_rel {es:List (V×V×Nat)} {es' : List MapEntry} (he:ERel Δ es es') (st:Nat) {e:V×V×Nat} (hf:(es.find? fun e=>Nat.beq e.2.2 st)=some e) :
  ∃e',(es'.find? fun e=>e.born == st)=some e'∧VRel Δ e.1 e'.key∧VRel Δ e.2.1 e'.val:=by
 induction he with
 | nil=>cases hf
 | cons k v n e0 es es' hk hv hb _ ih =>
   subst hb
   simp only [List.find?_cons] at hf ⊢
   have hbe : (e0.born == st) = Nat.beq e0.born st := by rw [Bool.eq_iff_iff]; simp
   rw [hbe]
   cases hq : Nat.beq e0.born st with
   | true => rw [hq] at hf; cases hf; exact ⟨e0, rfl, hk, hv⟩
   | false => rw [hq] at hf; exact ih hf
theorem hentry_ok (hW:WR Δ h w) {it:V} {iv:Value} (hi:VRel Δ it iv) {r:R} (hv:hentry it h=some r) :
  ∃v x,r = .val v h∧(Instr.entry iv).run P0 w = .ok x w∧VRel Δ v x:=by
 unfold hentry at hv
 rw [asPtr_eq] at hv
 obtain ⟨rl,off,rfl,hv⟩:=hv
 rw [bB_eq,oB_eq] at hv
 obtain ⟨h0,o,hg,hv⟩:=hv
 have h0' : off=0:=Nat.eq_of_beq_eq_true h0
 subst h0'
 cases hi with
 | ptr _ _ d hd =>
   obtain ⟨o', ho, hr⟩ := hW.obj rl d hd
   rw [hg] at ho; cases ho
   split at hv
   · rename_i m since seen last
     obtain ⟨a1, a2, a3, m', a4, dm, hdm, rfl⟩ := hr
     rw [mapAt_eq] at hv
     obtain ⟨es, c, hgm, hv⟩ := hv
     simp only [bB_eq, oB_eq] at hv
     obtain ⟨hc, st, hst, e, he1, hv⟩ := hv
     cases hv
     obtain ⟨es', hb, he⟩ := map_ok hW hdm hgm
     obtain ⟨e', f1, f2, f3⟩ := find_rel he st he1
     refine ⟨_, .tuple #[e'.key, e'.val], rfl, ?_, .tuple _ _ (.cons _ _ _ _ f2 (.one f3))⟩
     have hcl : c = last := Nat.eq_of_beq_eq_true hc
     subst hcl
     have hback : seen.toArray.back? = some st := by rw [List.back?_toArray]; exact hst
     have hfind : (es'.find? fun e => e.born == st) = some e' := by rw [← Array.find?_toList]; exact f1
     rw [a3]
     simp only [Instr.entry, Sem.run_bind, run_getObj_iter a4, Result.andThen_ok, hback, run_getObj_map hb, bne_self_eq_false, Bool.false_eq_true, if_false, Sem.run_pure, hfind]
   · cases hv
theorem hcall_ok {f:V} {fv:Value} {args:List V} {argv:Array Value} {ty:Nat} {c:Go.Call} {op:Operand} (hc:c.callee = .value op) (ho:a.eval op=fv) (hav:c.args.map a.eval=argv) (hf:VRel Δ f fv) (ha:VsRel Δ args argv.toList) {r:R}
  (hv:hcall f args=some r):∃g l args',r = .call g l∧VsRel Δ l args'.toList∧(do let d ←resolve a.eval c ty;invoke d.target d.args:Sem Next)=callFunc g args':=by
 unfold hcall at hv
 split at hv
 ·cases hv
  cases hf with
  | func _ _ _ first' caps' h1 h2 =>
    refine ⟨_, _, first' ++ argv ++ caps', rfl, ?_, ?_⟩
    · simp only [Array.toList_append, List.append_assoc]
      exact h1.append (ha.append h2)
    · simp only [resolve, hc, ho, hav, Deferred.ofValue]
      rfl
 ·cases hv
theorem hinvoke_ok (hW:WR Δ h w) {name:String} {r:V} {rv:Value} {args:List V} {argv:Array Value} {ty:Nat} {c:Go.Call} {op:Operand} (hc:c.callee = .invoke op name) (ho:a.eval op=rv) (hav:c.args.map a.eval=argv)
  (hr:VRel Δ r rv) (ha:VsRel Δ args argv.toList) {x:R} (hv:hinvoke name r args h=some x) :
  ∃g l args',x = .call g l∧VsRel Δ l args'.toList∧(do let d ←resolve a.eval c ty;invoke d.target d.args:Sem Next).run P0 w=(callFunc g args').run P0 w:=by
 unfold hinvoke at hv
 split at hv
 ·rename_i t v
  cases hr with
  | iface _ _ v' hvv =>
    have hres : (do let d ← resolve a.eval c ty; invoke d.target d.args : Sem Next) = callMethod (.iface t v') name argv := by
      simp only [resolve, hc, ho, hav]
      show invoke (.fn (.method name) #[]) (#[.iface t v'] ++ argv) = _
      have h1 : (#[Value.iface t v'] ++ argv)[0]? = some (.iface t v') := by
        rw [Array.getElem?_append_left (by simp)]; rfl
      have h2 : (#[Value.iface t v'] ++ argv).extract 1 (#[Value.iface t v'] ++ argv).size = argv := by
        apply Array.ext'
        simp
      simp only [invoke, h1, h2]
    have hmeth : ∀ {f : Nat} {o : Option Nat}, methodOf t name = some (f, o) → ∃ i m b, P0.info? t = some i ∧ i.methods.find? (fun m => m.name == name) = some m ∧ m.path = #[] ∧ m.func = some (f, b) ∧
        ((∃ e, P0.underlying t = some (.pointer e) ∧ ((b = true ∧ o = none) ∨ (b = false ∧ o = some e))) ∨ (b = false ∧ o = none ∧ ∃ dd, P0.underlying t = some dd ∧ ∀ e, dd ≠ .pointer e)) := by
      intro f o hm
      unfold methodOf at hm
      rw [oB_eq] at hm
      obtain ⟨i, hi, hm⟩ := hm
      split at hm
      · rename_i m hf
        refine ⟨i, m, ?_⟩
        have hf' : i.methods.find? (fun m => m.name == name) = some m := by rw [← Array.find?_toList]; exact hf
        split at hm
        · rename_i f' e hp hfn hu
          cases hm
          exact ⟨true, hi, hf', by apply Array.ext'; exact hp, hfn, .inl ⟨e, hu, .inl ⟨rfl, rfl⟩⟩⟩
        · rename_i f' e hp hfn hu
          cases hm
          exact ⟨false, hi, hf', by apply Array.ext'; exact hp, hfn, .inl ⟨e, hu, .inr ⟨rfl, rfl⟩⟩⟩
        · rename_i f' dd hne hp hfn hu
          cases hm
          refine ⟨false, hi, hf', by apply Array.ext'; exact hp, hfn, .inr ⟨rfl, rfl, dd, hu, fun e he => ?_⟩⟩
          subst he
          exact hne e rfl
        · cases hm
      · cases hm
    obtain ⟨fuel, hm1⟩ : ∃ k, P0.types.size + Made.depth = k + 1 := ⟨P0.types.size + 99, rfl⟩
    split at hv
    · rename_i f hm
      cases hv
      obtain ⟨i, m, b, h1, h2, h3, h4, h5⟩ := hmeth hm
      refine ⟨f, _, #[v'] ++ argv, rfl, by simp only [Array.toList_append]; exact .cons _ _ _ _ hvv ha, ?_⟩
      rw [hres]
      have hrec : (receiverAt t (.val v') b (some ((name.splitOn ".").getLastD name))).run P0 w = .ok v' w := by
        rcases h5 with ⟨e, hu, ⟨rfl, _⟩ | ⟨_, h6⟩⟩ | ⟨rfl, _, dd, hu, hne⟩
        · simp [receiverAt, run_und hu, Place.get]
        · cases h6
        · simp only [receiverAt, Sem.run_bind, run_und hu, Result.andThen_ok]
          cases dd <;> first | rfl | exact absurd rfl (hne _)
      have hmr : (method (P0.types.size + Made.depth) t v' name).run P0 w = .ok (f, v') w := by
        rw [hm1]
        simp only [method, Sem.run_bind, typeInfo, run_program, Result.andThen_ok, h1, Sem.run_pure, h2, h3, h4, follow, hrec, Array.isEmpty, Array.size_empty, if_true, decide_true]
      simp only [callMethod, Sem.run_bind, run_program, Result.andThen_ok, hmr]
    · rename_i f e hm
      rw [oB_eq] at hv
      obtain ⟨y, hy, hv⟩ := hv
      cases hv
      obtain ⟨i, m, b, h1, h2, h3, h4, h5⟩ := hmeth hm
      have h5' : P0.underlying t = some (.pointer e) ∧ b = false := by
        rcases h5 with ⟨e', hu, ⟨_, h6⟩ | ⟨hb, h6⟩⟩ | ⟨_, h6, _⟩
        · cases h6
        · cases h6; exact ⟨hu, hb⟩
        · cases h6
      obtain ⟨hu, rfl⟩ := h5'
      obtain ⟨xl, hxl, hxr⟩ := hload_ok (t := .tree .leaf []) (xv := v') hW (fun v hv => by cases hv; exact hvv) hy
      refine ⟨f, _, #[xl] ++ argv, rfl, by simp only [Array.toList_append]; exact .cons _ _ _ _ hxr ha, ?_⟩
      rw [hres]
      have hptr : ∃ ad, v' = .pointer (some ad) := by
        cases v' with
        | pointer p => cases p with
          | some ad => exact ⟨ad, rfl⟩
          | none => simp [Instr.loadAt, Instr.sureAddr] at hxl
        | _ => simp [Instr.loadAt, Instr.sureAddr] at hxl
      obtain ⟨ad, rfl⟩ := hptr
      have hlv : (loadVar e ad).run P0 w = .ok xl w := by simpa [Instr.loadAt, Instr.sureAddr] using hxl
      have hrec : (receiverAt t (.val (.pointer (some ad))) false (some ((name.splitOn ".").getLastD name))).run P0 w = .ok xl w := by
        have hchk : ∀ s1 s2, (Builtin.ssaWrapNilChk_ #[t] t #[.pointer (some ad), strVal s1, strVal s2]).run P0 w = .ok (.pointer (some ad)) w := fun _ _ => rfl
        simp only [receiverAt, Sem.run_bind, run_und hu, Result.andThen_ok, Place.get, Sem.run_pure, hchk, asAddr, hlv]
      have hmr : (method (P0.types.size + Made.depth) t (.pointer (some ad)) name).run P0 w = .ok (f, xl) w := by
        rw [hm1]
        simp only [method, Sem.run_bind, typeInfo, run_program, Result.andThen_ok, h1, Sem.run_pure, h2, h3, h4, follow, hrec, Array.isEmpty, Array.size_empty, if_true, decide_true]
      simp only [callMethod, Sem.run_bind, run_program, Result.andThen_ok, hmr]
    · cases hv
 ·cases hv
theorem write_ok (hW:WR Δ h w) (hT:TR Δ n t a) {o:Oper} {r:R} (hv:(writeC o).f t h=some r) :
  (∃v h' Δ' x w',r = .val v h'∧((execOp a.eval o).run P0 w = .ok (.value x) w'∨(x=undef∧(execOp a.eval o).run P0 w = .ok .skip w'))∧After Δ h w v h' Δ' x w')∨
  (∃g l args',r = .call g l∧VsRel Δ l args'.toList∧(execOp a.eval o).run P0 w=(callFunc g args').run P0 w):=by
 obtain ⟨dst,op,oty,pos,af,gd⟩:=o
 cases op with
 | store ty p x =>
   simp only [writeC] at hv
   split at hv
   · rename_i size hz
     simp only [oB_eq, asPtr_eq, bB_eq] at hv
     obtain ⟨pv, h1, v, h2, l, off, rfl, h3, h', h4, h5⟩ := hv
     cases h5
     obtain ⟨w', r1, r2, r3, r4⟩ := hstore_ok hW hz (evO_ok hW hT h1) (evO_ok hW hT h2) h3 h4
     exact .inl ⟨_, _, Δ, undef, w', rfl, .inr ⟨rfl, by simp [execOp, r1]⟩, .undef Δ, r2, r3, r4⟩
   · cases hv
 | mapUpdate ty m k x =>
   simp only [writeC] at hv
   split at hv
   · rename_i kt et hu
     split at hv
     · rename_i d hd
       simp only [oB_eq] at hv
       obtain ⟨mv, h1, kv, h2, xv, h3, h4⟩ := hv
       obtain ⟨h', w', rfl, r1, r2, r3, r4⟩ := hput_ok hW hu hd (evO_ok hW hT h1) (evO_ok hW hT h2) (evO_ok hW hT h3) h4
       exact .inl ⟨_, _, Δ, undef, w', rfl, .inr ⟨rfl, by simp [execOp, r1]⟩, .undef Δ, r2, r3, r4⟩
     · cases hv
   · cases hv
 | insert ty m k x =>
   simp only [writeC] at hv
   split at hv
   · rename_i kt et hu
     split at hv
     · rename_i d hd
       simp only [oB_eq] at hv
       obtain ⟨mv, h1, kv, h2, xv, h3, h4⟩ := hv
       obtain ⟨h', w', rfl, r1, r2, r3, r4⟩ := hput_ok hW hu hd (evO_ok hW hT h1) (evO_ok hW hT h2) (evO_ok hW hT h3) h4
       exact .inl ⟨_, _, Δ, undef, w', rfl, .inr ⟨rfl, by simp [execOp, r1]⟩, .undef Δ, r2, r3, r4⟩
     · cases hv
   · cases hv
 | range ty x =>
   simp only [writeC] at hv
   split at hv
   · rename_i kt et hu
     simp only [oB_eq] at hv
     obtain ⟨mv, h1, h2⟩ := hv
     obtain ⟨v, h', Δ', y, w', rfl, r1, r2⟩ := hrange_ok hW hu (evO_ok hW hT h1) h2
     exact .inl ⟨_, _, Δ', y, w', rfl, .inl (run_v r1), r2⟩
   · cases hv
 | next x isS =>
   cases isS with
   | true => cases hv
   | false =>
     simp only [writeC, oB_eq] at hv
     obtain ⟨mv, h1, h2⟩ := hv
     obtain ⟨v, h', y, w', rfl, r1, r2⟩ := hnext_ok (ty := oty) hW (evO_ok hW hT h1) h2
     exact .inl ⟨_, _, Δ, y, w', rfl, .inl (run_v r1), r2⟩
 | entry x =>
   simp only [writeC, oB_eq] at hv
   obtain ⟨mv, h1, h2⟩ := hv
   obtain ⟨v, y, rfl, r1, r2⟩ := hentry_ok hW (evO_ok hW hT h1) h2
   exact .inl ⟨_, _, Δ, y, w, rfl, .inl (run_v r1), r2, hW, .refl _ _, .refl _ _⟩
 | convert src dst' x =>
   simp only [writeC] at hv
   split at hv
   · rename_i e hs hd
     split at hv
     · rename_i he hz
       simp only [oB_eq] at hv
       obtain ⟨xv, h1, h2⟩ := hv
       have hx := evO_ok hW hT h1
       split at h2
       · cases h2
         generalize hy : a.eval x = y at hx
         cases hx with
         | str s =>
           obtain ⟨Δ', z, w', r1, r2⟩ := hbytes_ok hW hs hd he s
           refine .inl ⟨_, _, Δ', z, w', rfl, .inl (run_v ?_), r2⟩
           rw [hy]; exact r1
       · cases h2
     · cases hv
   · rename_i e0 e hs hd
     split at hv
     · rename_i he hb
       simp only [oB_eq] at hv
       obtain ⟨xv, h1, h2⟩ := hv
       have hx := evO_ok hW hT h1
       generalize hy : a.eval x = y at hx
       obtain ⟨v', h', w', r1, r3, r2⟩ := hmark_ok hW hx (src := src) (dst := dst') (e0 := e0) (e := e) hs hd he (Nat.eq_of_beq_eq_true hb) h2
       refine .inl ⟨v', h', Δ, y, w', r1, .inl (run_v ?_), r2⟩
       rw [hy]; exact r3
     · cases hv
   · cases hv
 | call c =>
   obtain ⟨cal, args, tys⟩ := c
   cases cal with
   | builtin b =>
     simp only [writeC] at hv
     cases b with
     | append =>
       simp only at hv
       split at hv
       · rename_i s x sT xT hargs htys
         have ha : args = #[s, x] := by apply Array.ext'; exact hargs
         have hty : tys = #[sT, xT] := by apply Array.ext'; exact htys
         subst ha; subst hty
         split at hv
         · rename_i elem e' hs hu
           have hs' := sliceOf_eq hs
           split at hv
           · rename_i size by_ z he
             simp only [oB_eq] at hv
             obtain ⟨sv, h1, xv, h2, h3⟩ := hv
             obtain ⟨v, h', Δ', y, w', rfl, r1, r2⟩ := happend_ok (ty := oty) (xT := xT) hW hs' hu (fun k hk => by cases hk) he (evO_ok hW hT h1) (evO_ok hW hT h2) h3
             refine .inl ⟨_, _, Δ', y, w', rfl, .inl ?_, r2⟩
             simp only [execOp, resolve, List.map_toArray]
             exact run_v r1
           · cases hv
         · rename_i elem hs hu
           have hs' := sliceOf_eq hs
           split at hv
           · rename_i size by_ z he
             simp only [oB_eq] at hv
             obtain ⟨sv, h1, xv, h2, h3⟩ := hv
             obtain ⟨v, h', Δ', y, w', rfl, r1, r2⟩ := happend_ok (ty := oty) (xT := xT) hW hs' hu (fun k hk => by cases hk) he (evO_ok hW hT h1) (evO_ok hW hT h2) h3
             refine .inl ⟨_, _, Δ', y, w', rfl, .inl ?_, r2⟩
             simp only [execOp, resolve, List.map_toArray]
             exact run_v r1
           · cases hv
         · cases hv
       · cases hv
     | copy =>
       simp only at hv
       split at hv
       · rename_i d s dT rest hargs htys
         have ha : args = #[d, s] := by apply Array.ext'; exact hargs
         have hty : tys[0]? = some dT := by rw [← Array.getElem?_toList, htys]; rfl
         subst ha
         split at hv
         · rename_i elem hs
           have hs' := sliceOf_eq hs
           split at hv
           · rename_i size hz
             simp only [oB_eq] at hv
             obtain ⟨dv, h1, sv, h2, h3⟩ := hv
             obtain ⟨h', m, w', rfl, r1, r2, r3, r4⟩ := hcopy_ok (rt := oty) hW hty hs' hz (evO_ok hW hT h1) (evO_ok hW hT h2) h3
             refine .inl ⟨_, _, Δ, _, w', rfl, .inl ?_, .int _ _, r2, r3, r4⟩
             simp only [execOp, resolve, List.map_toArray]
             exact run_v r1
           · cases hv
         · cases hv
       · cases hv
     | delete =>
       simp only at hv
       split at hv
       · rename_i m k mT rest hargs htys
         have ha : args = #[m, k] := by apply Array.ext'; exact hargs
         have hty : tys[0]? = some mT := by rw [← Array.getElem?_toList, htys]; rfl
         subst ha
         split at hv
         · rename_i kt et hu
           split at hv
           · rename_i d hd
             simp only [oB_eq] at hv
             obtain ⟨mv, h1, kv, h2, h3⟩ := hv
             obtain ⟨h', w', rfl, r1, r2, r3, r4⟩ := hdelete_ok (rt := oty) hW hty hu hd (evO_ok hW hT h1) (evO_ok hW hT h2) h3
             refine .inl ⟨_, _, Δ, _, w', rfl, .inl ?_, .tuple _ #[] .nil, r2, r3, r4⟩
             simp only [execOp, resolve, List.map_toArray]
             exact run_v r1
           · cases hv
         · cases hv
       · cases hv
     | _ => cases hv
   | value f =>
     simp only [writeC, oB_eq] at hv
     obtain ⟨fv, h1, l, h2, h3⟩ := hv
     obtain ⟨g, l, args', rfl, r1, r2⟩ := hcall_ok (a := a) (c := ⟨.value f, args, tys⟩) (ty := oty) (args := l) rfl rfl rfl (evO_ok hW hT h1) (by simpa using evNs_ok hT h2) h3
     refine .inr ⟨g, l, args', rfl, r1, ?_⟩
     simp only [execOp]
     rw [r2]
   | invoke rcv m =>
     simp only [writeC, oB_eq] at hv
     obtain ⟨fv, h1, l, h2, h3⟩ := hv
     obtain ⟨g, l, args', rfl, r1, r2⟩ := hinvoke_ok (a := a) (c := ⟨.invoke rcv m, args, tys⟩) (ty := oty) hW (args := l) rfl rfl rfl (evO_ok hW hT h1) (by simpa using evNs_ok hT h2) h3
     exact .inr ⟨g, l, args', rfl, r1, r2⟩
 | _=>cases hv
end
end Go.Proofs.YtiepamfpilhcjaaDoor.Hx
