/- Parts of the proof. -/
import Derived.Test.YtiepamfpilhcjaaDoorM12
import Derived.Test.YtiepamfpilhcjaaDoorM11
namespace Go.Proofs.YtiepamfpilhcjaaDoor.Un
open Go.Proofs.YtiepamfpilhcjaaDoor.Dm
def aheadF (nx:Nat→List Nat) (n b:Nat):List Nat:=(List.range n).flatMap fun i=>((nx i).filter (·= b)).map fun _=>i
theorem aheadF_succ (nx:Nat→List Nat) (n b:Nat):aheadF nx (n+1) b=aheadF nx n b++((nx n).filter (·= b)).map fun _=>n:=by
 unfold aheadF
 rw [List.range_succ,List.flatMap_append]
 simp
theorem aheadF_congr {nx nx' : Nat→List Nat} (n b:Nat) (h:∀i,i<n→nx' i=nx i):aheadF nx' n b=aheadF nx n b:=by
 induction n with
 | zero=>rfl
 | succ n ih=>rw [aheadF_succ,aheadF_succ,ih fun i hi=>h i (by omega),h n (by omega)]
theorem mem_aheadF {nx:Nat→List Nat} {n b q:Nat} : q∈aheadF nx n b↔q<n∧b∈nx q:=by
 unfold aheadF
 rw [List.mem_flatMap]
 constructor
 ·rintro ⟨i,h1,h2⟩
  obtain ⟨t,h3,rfl⟩:=List.mem_map.1 h2
  have h4:=List.mem_filter.1 h3
  simp at h4
  rw [←h4.2]
  exact ⟨List.mem_range.1 h1,h4.1⟩
 ·rintro ⟨h1,h2⟩
  exact ⟨q,List.mem_range.2 h1,List.mem_map.2 ⟨b,List.mem_filter.2 ⟨h2,by simp⟩,rfl⟩⟩
theorem aheadF_none {nx:Nat→List Nat} {n b:Nat} (h:∀i,i<n→b ∉ nx i):aheadF nx n b=[]:=by
 apply List.eq_nil_iff_forall_not_mem.2
 intro q hq
 obtain ⟨h1,h2⟩:=mem_aheadF.1 hq
 exact h q h1 h2
inductive Pn (nx:Nat→List Nat) (n:Nat):Nat→List Nat→Prop
 | nil:Pn nx n 0 [0]
 | step {p b:Nat} {l:List Nat} (h:Pn nx n p l) (hp:p<n) (e:b∈nx p):Pn nx n b (b::l)
theorem Pn.mono {nx nx' : Nat→List Nat} {n n' : Nat} (hn:n≤n') (he:∀i,i<n→nx' i=nx i):∀{b l},Pn nx n b l→Pn nx' n' b l
 | _,_, .nil=> .nil
 | _,_, .step h hp e=> .step (h.mono hn he) (by omega) (by rw [he _ hp];exact e)
structure Gh (D:Nat→Nat) (pr nx:Nat→List Nat) (hi:Nat):Prop where
 tree:∀p b,p<hi→b∈nx p→b≤hi∧b≠0∧Anc D (D b) p
 down:∀b,b≠0→b≤hi→D b<b
 preds:∀b,b≤hi→pr b=aheadF nx hi b
 reach:∀b,b≤hi→∃l,Pn nx hi b l
 crit:∀p,p<hi→(nx p).length=2→∀t∈nx p,(pr t).length=1
theorem anc_agree {D D' : Nat→Nat} {hi:Nat} (hd:∀b,b≠0→b≤hi→D b<b) (he:∀b,b≤hi→D' b=D b) {x b:Nat} (h:Anc D x b):b≤hi→Anc D' x b:=by
 induction h with
 | refl=>exact fun _=> .refl _
 | up h0 _ ih =>
   rename_i b _
   intro hb
   have := hd b h0 hb
   exact .up h0 (by rw [he b hb]; exact ih (by omega))
theorem owLe {t:Dt} {v b:Nat} (h:Ow t v b):b≤t.blocks.length:=by
 rcases h with ⟨B,h1,_⟩ | ⟨h1,_⟩
 ·exact Nat.le_of_lt (List.getElem?_eq_some_iff.1 h1).1
 ·omega
section
variable {D D' : Nat→Nat} {pr nx pr' nx' : Nat→List Nat} {E:Nat→Prop} {t:Dt}
theorem Mid.agree (hM:Mid D pr nx E t) (hG:Gh D pr nx t.blocks.length) (heD:∀b,b≤t.blocks.length→D' b=D b) (hep:∀b,b≤t.blocks.length→pr' b=pr b) (hen:∀b,b<t.blocks.length→nx' b=nx b):Mid D' pr' nx' E t:=by
 have kn:∀{a w},a≤t.blocks.length→Kn D t a w→Kn D' t a w:=fun ha ⟨b,x,h1,h2,h3⟩=>⟨b,x,h1,anc_agree hG.down heD h2 ha,h3⟩
 refine ⟨hM.cat,fun v x h=>?_,fun v x h ho=>?_,fun b B h=>?_,fun s fs h=>?_,by rw [hep _ (Nat.le_refl _)];exact hM.pc,hM.ne,fun w hw=>kn (Nat.le_refl _) (hM.kn w hw)⟩
 ·have hV:=hM.vok v x h
  obtain ⟨b,h1,h2,h3,h4⟩:=hV.own
  refine ⟨hV.op,hV.putAt,hV.par,b,h1,fun hn w hw=>⟨(h2 hn w hw).1,kn (owLe h1) (h2 hn w hw).2⟩,fun hl=>?_,h4⟩
  obtain ⟨fs,g1,g2⟩:=h3 hl
  exact ⟨fs,g1,fun w hw=>⟨(g2 w hw).1,kn (owLe h1) (g2 w hw).2⟩⟩
 ·obtain ⟨b,g1,g2,g3⟩:=hM.ph v x h ho
  refine ⟨b,g1,g2,fun hE=>?_⟩
  rw [hep b (owLe g1)]
  refine ⟨(g3 hE).1,fun j w q e1 e2=>kn ?_ ((g3 hE).2 j w q e1 e2)⟩
  have:=List.mem_of_getElem? e2
  rw [hG.preds b (owLe g1)] at this
  exact Nat.le_of_lt (mem_aheadF.1 this).1
 ·have hlt:=(List.getElem?_eq_some_iff.1 h).1
  obtain ⟨g1,g2,g3⟩:=hM.bk b B h
  refine ⟨by rw [hen b hlt];exact g1,by rw [hep b (by omega)];exact g2,?_⟩
  rcases g3 with g | ⟨k1,k2,k3⟩ | ⟨k1,k2,fs,k3,k4⟩
  ·exact .inl g
  ·exact .inr (.inl ⟨k1,k2,kn (by omega) k3⟩)
  ·exact .inr (.inr ⟨k1,k2,fs,k3,fun w hw=>kn (by omega) (k4 w hw)⟩)
 ·obtain ⟨g1,g2⟩:=hM.st s fs h
  refine ⟨g1,fun f hf=>?_⟩
  obtain ⟨g3,g4,g5,g6⟩:=g2 f hf
  have own:∀w,(∃a,Kn D t a w)→∃a,Kn D' t a w:=fun w ⟨a,b,x,h1,_,h3⟩=>⟨b,b,x,h1, .refl _,h3⟩
  exact ⟨g3,g4,fun w hw=>own w (g5 w hw),fun w hw=>own w (g6 w hw)⟩
end
def ext {α:Type} (hi:Nat) (f:Nat→α) (g:Nat→α):Nat→α:=fun b=>if b≤hi then f b else g (b - hi)
def extN (hi:Nat) (f:Nat→List Nat) (g:Nat→List Nat):Nat→List Nat:=fun b=>if b<hi then f b else g (b - hi)
theorem ext_old {α:Type} {hi b:Nat} {f g:Nat→α} (h:b≤hi):ext hi f g b=f b:=by unfold ext;rw [if_pos h]
theorem ext_new {α:Type} {hi k:Nat} {f g:Nat→α} (h:0<k):ext hi f g (hi+k)=g k:=by unfold ext;rw [if_neg (by omega),Nat.add_sub_cancel_left]
theorem extN_old {hi b:Nat} {f g:Nat→List Nat} (h:b<hi):extN hi f g b=f b:=by unfold extN;rw [if_pos h]
theorem extN_new {hi k:Nat} {f g:Nat→List Nat} : extN hi f g (hi+k)=g k:=by unfold extN;rw [if_neg (by omega),Nat.add_sub_cancel_left]
section
variable {D:Nat→Nat} {pr nx:Nat→List Nat} {hi:Nat}
theorem Gh.none (hG:Gh D pr nx hi) {b:Nat} (hb:hi<b):aheadF nx hi b=[]:=aheadF_none fun i h hm=>by
 have:=(hG.tree i b h hm).1
 omega
def dF (hi:Nat) (k:Nat):Nat:=hi
def pF (hi k:Nat):List Nat:=if k=3 then [hi+1,hi+2] else [hi]
def nF (hi k:Nat):List Nat:=if k=0 then [hi+1,hi+2] else [hi+3]
theorem Gh.fork (hG:Gh D pr nx hi):Gh (ext hi D (dF hi)) (ext hi pr (pF hi)) (extN hi nx (nF hi)) (hi+3):=by
 have dn:∀k,0<k→ext hi D (dF hi) (hi+k)=hi:=fun k hk=>ext_new hk
 have n0:extN hi nx (nF hi) hi=[hi+1,hi+2]:=extN_new (k:=0)
 have n1:extN hi nx (nF hi) (hi+1)=[hi+3]:=extN_new (k:=1)
 have n2:extN hi nx (nF hi) (hi+2)=[hi+3]:=extN_new (k:=2)
 have ag:∀b,b≤hi→ext hi D (dF hi) b=D b:=fun b h=>ext_old h
 have old:∀i,i<hi→extN hi nx (nF hi) i=nx i:=fun i h=>extN_old h
 have ahd:∀b,aheadF (extN hi nx (nF hi)) (hi+3) b=aheadF nx hi b++([hi+1,hi+2].filter (·= b)).map (fun _=>hi)++([hi+3].filter (·= b)).map (fun _=>hi+1)++([hi+3].filter (·= b)).map (fun _=>hi+2):=fun b=>by
  rw [aheadF_succ,aheadF_succ,aheadF_succ,aheadF_congr hi b old,n0,n1,n2]
 have low:∀b,b≤hi+3→b≤hi∨b=hi+1∨b=hi+2∨b=hi+3:=fun b h=>by omega
 refine ⟨fun p b hp hb=>?_,fun b h0 hb=>?_,fun b hb=>?_,fun b hb=>?_,fun p hp hl t ht=>?_⟩
 ·have hp' : p<hi∨p=hi∨p=hi+1∨p=hi+2:=by omega
  rcases hp' with h | rfl | rfl | rfl
  ·rw [old p h] at hb
   obtain ⟨h1,h2,h3⟩:=hG.tree p b h hb
   exact ⟨by omega,h2,by rw [ag b h1];exact anc_agree hG.down ag h3 (by omega)⟩
  ·rw [n0] at hb
   simp at hb
   rcases hb with rfl | rfl
   ·exact ⟨by omega,by omega,by rw [dn 1 (by omega)];exact .refl _⟩
   ·exact ⟨by omega,by omega,by rw [dn 2 (by omega)];exact .refl _⟩
  ·rw [n1] at hb
   simp at hb
   subst hb
   exact ⟨by omega,by omega,by rw [dn 3 (by omega)];exact anc1 (by omega) (dn 1 (by omega))⟩
  ·rw [n2] at hb
   simp at hb
   subst hb
   exact ⟨by omega,by omega,by rw [dn 3 (by omega)];exact anc1 (by omega) (dn 2 (by omega))⟩
 ·rcases low b hb with h | rfl | rfl | rfl
  ·rw [ag b h];exact hG.down b h0 h
  ·rw [dn 1 (by omega)];omega
  ·rw [dn 2 (by omega)];omega
  ·rw [dn 3 (by omega)];omega
 ·rw [ahd]
  rcases low b hb with h | rfl | rfl | rfl
  ·rw [ext_old h,hG.preds b h]
   have e1:¬hi+1=b:=by omega
   have e2:¬hi+2=b:=by omega
   have e3:¬hi+3=b:=by omega
   simp [e1,e2,e3]
  ·rw [ext_new (by omega),hG.none (by omega)]
   simp [pF]
  ·rw [ext_new (by omega),hG.none (by omega)]
   simp [pF]
  ·rw [ext_new (by omega),hG.none (by omega)]
   simp [pF]
 ·obtain ⟨l,hl⟩:=hG.reach hi (Nat.le_refl _)
  have h0:Pn (extN hi nx (nF hi)) (hi+3) hi l:=hl.mono (by omega) old
  have h1:Pn (extN hi nx (nF hi)) (hi+3) (hi+1) ((hi+1)::l):= .step h0 (by omega) (by rw [n0];simp)
  rcases low b hb with h | rfl | rfl | rfl
  ·obtain ⟨l',hl'⟩:=hG.reach b h
   exact ⟨l',hl'.mono (by omega) old⟩
  ·exact ⟨_,h1⟩
  ·exact ⟨_, .step h0 (by omega) (by rw [n0];simp)⟩
  ·exact ⟨_, .step h1 (by omega) (by rw [n1];simp)⟩
 ·have hp' : p<hi∨p=hi∨p=hi+1∨p=hi+2:=by omega
  rcases hp' with h | rfl | rfl | rfl
  ·rw [old p h] at hl ht
   rw [ext_old (hG.tree p t h ht).1]
   exact hG.crit p h hl t ht
  ·rw [n0] at ht
   simp at ht
   rcases ht with rfl | rfl
   ·rw [ext_new (by omega)];rfl
   ·rw [ext_new (by omega)];rfl
  ·rw [n1] at hl;simp at hl
  ·rw [n2] at hl;simp at hl
def nX (hi k:Nat):List Nat:=if k=0 then [hi+1,hi+2] else []
def pX (hi _k:Nat):List Nat:=[hi]
theorem Gh.exit (hG:Gh D pr nx hi):Gh (ext hi D (dF hi)) (ext hi pr (pX hi)) (extN hi nx (nX hi)) (hi+2):=by
 have dn:∀k,0<k→ext hi D (dF hi) (hi+k)=hi:=fun k hk=>ext_new hk
 have n0:extN hi nx (nX hi) hi=[hi+1,hi+2]:=extN_new (k:=0)
 have n1:extN hi nx (nX hi) (hi+1)=[]:=extN_new (k:=1)
 have ag:∀b,b≤hi→ext hi D (dF hi) b=D b:=fun b h=>ext_old h
 have old:∀i,i<hi→extN hi nx (nX hi) i=nx i:=fun i h=>extN_old h
 have ahd:∀b,aheadF (extN hi nx (nX hi)) (hi+2) b=aheadF nx hi b++([hi+1,hi+2].filter (·= b)).map (fun _=>hi):=fun b=>by
  rw [aheadF_succ,aheadF_succ,aheadF_congr hi b old,n0,n1]
  simp
 have low:∀b,b≤hi+2→b≤hi∨b=hi+1∨b=hi+2:=fun b h=>by omega
 refine ⟨fun p b hp hb=>?_,fun b h0 hb=>?_,fun b hb=>?_,fun b hb=>?_,fun p hp hl t ht=>?_⟩
 ·have hp' : p<hi∨p=hi∨p=hi+1:=by omega
  rcases hp' with h | rfl | rfl
  ·rw [old p h] at hb
   obtain ⟨h1,h2,h3⟩:=hG.tree p b h hb
   exact ⟨by omega,h2,by rw [ag b h1];exact anc_agree hG.down ag h3 (by omega)⟩
  ·rw [n0] at hb
   simp at hb
   rcases hb with rfl | rfl
   ·exact ⟨by omega,by omega,by rw [dn 1 (by omega)];exact .refl _⟩
   ·exact ⟨by omega,by omega,by rw [dn 2 (by omega)];exact .refl _⟩
  ·rw [n1] at hb
   cases hb
 ·rcases low b hb with h | rfl | rfl
  ·rw [ag b h];exact hG.down b h0 h
  ·rw [dn 1 (by omega)];omega
  ·rw [dn 2 (by omega)];omega
 ·rw [ahd]
  rcases low b hb with h | rfl | rfl
  ·rw [ext_old h,hG.preds b h]
   have e1:¬hi+1=b:=by omega
   have e2:¬hi+2=b:=by omega
   simp [e1,e2]
  ·rw [ext_new (by omega),hG.none (by omega)]
   simp [pX]
  ·rw [ext_new (by omega),hG.none (by omega)]
   simp [pX]
 ·obtain ⟨l,hl⟩:=hG.reach hi (Nat.le_refl _)
  have h0:Pn (extN hi nx (nX hi)) (hi+2) hi l:=hl.mono (by omega) old
  rcases low b hb with h | rfl | rfl
  ·obtain ⟨l',hl'⟩:=hG.reach b h
   exact ⟨l',hl'.mono (by omega) old⟩
  ·exact ⟨_, .step h0 (by omega) (by rw [n0];simp)⟩
  ·exact ⟨_, .step h0 (by omega) (by rw [n0];simp)⟩
 ·have hp' : p<hi∨p=hi∨p=hi+1:=by omega
  rcases hp' with h | rfl | rfl
  ·rw [old p h] at hl ht
   rw [ext_old (hG.tree p t h ht).1]
   exact hG.crit p h hl t ht
  ·rw [n0] at ht
   simp at ht
   rcases ht with rfl | rfl
   ·rw [ext_new (by omega)];rfl
   ·rw [ext_new (by omega)];rfl
  ·rw [n1] at hl;simp at hl
def dL (hi k:Nat):Nat:=if k=1 then hi else hi+1
def pL (hi k:Nat):List Nat:=if k=1 then [hi,hi+2] else [hi+1]
def nL (hi k:Nat):List Nat:=if k=1 then [hi+2,hi+3] else [hi+1]
theorem Gh.loop (hG:Gh D pr nx hi):Gh (ext hi D (dL hi)) (ext hi pr (pL hi)) (extN hi nx (nL hi)) (hi+3):=by
 have dn1:ext hi D (dL hi) (hi+1)=hi:=ext_new (by omega)
 have dn2:ext hi D (dL hi) (hi+2)=hi+1:=ext_new (by omega)
 have dn3:ext hi D (dL hi) (hi+3)=hi+1:=ext_new (by omega)
 have n0:extN hi nx (nL hi) hi=[hi+1]:=extN_new (k:=0)
 have n1:extN hi nx (nL hi) (hi+1)=[hi+2,hi+3]:=extN_new (k:=1)
 have n2:extN hi nx (nL hi) (hi+2)=[hi+1]:=extN_new (k:=2)
 have ag:∀b,b≤hi→ext hi D (dL hi) b=D b:=fun b h=>ext_old h
 have old:∀i,i<hi→extN hi nx (nL hi) i=nx i:=fun i h=>extN_old h
 have ahd:∀b,aheadF (extN hi nx (nL hi)) (hi+3) b=aheadF nx hi b++([hi+1].filter (·= b)).map (fun _=>hi)++([hi+2,hi+3].filter (·= b)).map (fun _=>hi+1)++([hi+1].filter (·= b)).map (fun _=>hi+2):=fun b=>by
  rw [aheadF_succ,aheadF_succ,aheadF_succ,aheadF_congr hi b old,n0,n1,n2]
 have low:∀b,b≤hi+3→b≤hi∨b=hi+1∨b=hi+2∨b=hi+3:=fun b h=>by omega
 refine ⟨fun p b hp hb=>?_,fun b h0 hb=>?_,fun b hb=>?_,fun b hb=>?_,fun p hp hl t ht=>?_⟩
 ·have hp' : p<hi∨p=hi∨p=hi+1∨p=hi+2:=by omega
  rcases hp' with h | rfl | rfl | rfl
  ·rw [old p h] at hb
   obtain ⟨h1,h2,h3⟩:=hG.tree p b h hb
   exact ⟨by omega,h2,by rw [ag b h1];exact anc_agree hG.down ag h3 (by omega)⟩
  ·rw [n0] at hb
   simp at hb
   subst hb
   exact ⟨by omega,by omega,by rw [dn1];exact .refl _⟩
  ·rw [n1] at hb
   simp at hb
   rcases hb with rfl | rfl
   ·exact ⟨by omega,by omega,by rw [dn2];exact .refl _⟩
   ·exact ⟨by omega,by omega,by rw [dn3];exact .refl _⟩
  ·rw [n2] at hb
   simp at hb
   subst hb
   exact ⟨by omega,by omega,by rw [dn1];exact (anc1 (by omega) dn1).trans (anc1 (by omega) dn2)⟩
 ·rcases low b hb with h | rfl | rfl | rfl
  ·rw [ag b h];exact hG.down b h0 h
  ·rw [dn1];omega
  ·rw [dn2];omega
  ·rw [dn3];omega
 ·rw [ahd]
  rcases low b hb with h | rfl | rfl | rfl
  ·rw [ext_old h,hG.preds b h]
   have e1:¬hi+1=b:=by omega
   have e2:¬hi+2=b:=by omega
   have e3:¬hi+3=b:=by omega
   simp [e1,e2,e3]
  ·rw [ext_new (by omega),hG.none (by omega)]
   simp [pL]
  ·rw [ext_new (by omega),hG.none (by omega)]
   simp [pL]
  ·rw [ext_new (by omega),hG.none (by omega)]
   simp [pL]
 ·obtain ⟨l,hl⟩:=hG.reach hi (Nat.le_refl _)
  have h0:Pn (extN hi nx (nL hi)) (hi+3) hi l:=hl.mono (by omega) old
  have h1:Pn (extN hi nx (nL hi)) (hi+3) (hi+1) ((hi+1)::l):= .step h0 (by omega) (by rw [n0];simp)
  rcases low b hb with h | rfl | rfl | rfl
  ·obtain ⟨l',hl'⟩:=hG.reach b h
   exact ⟨l',hl'.mono (by omega) old⟩
  ·exact ⟨_,h1⟩
  ·exact ⟨_, .step h1 (by omega) (by rw [n1];simp)⟩
  ·exact ⟨_, .step h1 (by omega) (by rw [n1];simp)⟩
 ·have hp' : p<hi∨p=hi∨p=hi+1∨p=hi+2:=by omega
  rcases hp' with h | rfl | rfl | rfl
  ·rw [old p h] at hl ht
   rw [ext_old (hG.tree p t h ht).1]
   exact hG.crit p h hl t ht
  ·rw [n0] at hl;simp at hl
  ·rw [n1] at ht
   simp at ht
   rcases ht with rfl | rfl
   ·rw [ext_new (by omega)];rfl
   ·rw [ext_new (by omega)];rfl
  ·rw [n2] at hl;simp at hl
end
end Go.Proofs.YtiepamfpilhcjaaDoor.Un
namespace Go.Proofs.YtiepamfpilhcjaaDoor.Un
open Go.Proofs.YtiepamfpilhcjaaDoor.Dm
def noE:Nat→Prop:=fun _=>False
def Ok (t:Dt):Prop:=∃D pr nx,Gh D pr nx t.blocks.length∧Mid D pr nx noE t
theorem Ok.fork {t:Dt} (ops:List Int) (h:Ok t):Ok (fork ops t):=by
 obtain ⟨D,pr,nx,hG,hM⟩:=h
 generalize hh:t.blocks.length=hi at *
 have hM':=hM.agree (D':=ext hi D (dF hi)) (pr':=ext hi pr (pF hi)) (nx':=extN hi nx (nF hi)) (by rw [hh];exact hG) (fun b h=>ext_old (by omega)) (fun b h=>ext_old (by omega)) (fun b h=>extN_old (by omega))
 obtain ⟨h1,h2⟩:=fork_ok hM' ops (by rw [hh];exact extN_new (k:=0)) (by rw [hh];exact extN_new (k:=1)) (by rw [hh];exact extN_new (k:=2)) (by rw [hh];exact ext_new (by omega)) (by rw [hh];exact ext_new (by omega)) (by rw [hh];exact ext_new (by omega))
  (by rw [hh];exact ext_new (by omega)) (by rw [hh];exact ext_new (by omega)) (by rw [hh];exact ext_new (by omega))
 exact ⟨_,_,_,by rw [h2,hh];exact hG.fork,h1⟩
theorem Ok.exit {t:Dt} (ops:List Int) (h:Ok t):Ok (exit_ ops t):=by
 obtain ⟨D,pr,nx,hG,hM⟩:=h
 generalize hh:t.blocks.length=hi at *
 have hM':=hM.agree (D':=ext hi D (dF hi)) (pr':=ext hi pr (pX hi)) (nx':=extN hi nx (nX hi)) (by rw [hh];exact hG) (fun b h=>ext_old (by omega)) (fun b h=>ext_old (by omega)) (fun b h=>extN_old (by omega))
 obtain ⟨h1,h2⟩:=exit_ok hM' ops (by rw [hh];exact extN_new (k:=0)) (by rw [hh];exact extN_new (k:=1)) (by rw [hh];exact ext_new (by omega)) (by rw [hh];exact ext_new (by omega))
  (by rw [hh];exact ext_new (by omega)) (by rw [hh];exact ext_new (by omega))
 exact ⟨_,_,_,by rw [h2,hh];exact hG.exit,h1⟩
theorem Ok.loop {t:Dt} (ops:List Int) (h:Ok t):Ok (loop ops t):=by
 obtain ⟨D,pr,nx,hG,hM⟩:=h
 generalize hh:t.blocks.length=hi at *
 have hM':=hM.agree (D':=ext hi D (dL hi)) (pr':=ext hi pr (pL hi)) (nx':=extN hi nx (nL hi)) (by rw [hh];exact hG) (fun b h=>ext_old (by omega)) (fun b h=>ext_old (by omega)) (fun b h=>extN_old (by omega))
 obtain ⟨h1,h2⟩:=loop_ok hM' ops (by rw [hh];exact extN_new (k:=0)) (by rw [hh];exact extN_new (k:=1)) (by rw [hh];exact extN_new (k:=2)) (by rw [hh];exact ext_new (by omega)) (by rw [hh];exact ext_new (by omega)) (by rw [hh];exact ext_new (by omega))
  (by rw [hh];exact ext_new (by omega)) (by rw [hh];exact ext_new (by omega)) (by rw [hh];exact ext_new (by omega))
 exact ⟨_,_,_,by rw [h2,hh];exact hG.loop,h1⟩
theorem Ok.shapes (ops:List Int):∀(l:List Int) {t:Dt},Ok t→Ok (shapes ops l t)
 | [],_,h=>h
 | k :: l, t, h => by
   unfold Un.shapes
   split
   · refine Ok.shapes ops l ?_
     unfold shapeM
     split
     · exact h.fork ops
     split
     · exact h.loop ops
     · exact h.exit ops
   · exact h
def t0 (s:Ds):Dt:=⟨s,[],[]⟩
structure Ps (s:Ds) (i:Nat):Prop where
 vals:s.vals.length=i
 all:∀(v:Nat) (x:Vl),s.vals[v]? = some x→x=vl 1 0 0 (v:Nat) [] 0
 cur:s.cur=List.range i
 known:s.known=List.range i
 states:s.states=[]
theorem params_ok:∀(n i:Nat) (s:Ds),Ps s i→Ps (params n i s) (i+n)
 | 0,i,s,h=>h
 | n + 1, i, s, h => by
   have := params_ok n (i + 1) (putK s (vl 1 0 0 (i : Nat) [] 0)) ⟨by simp [putK, h.vals], fun v x hv => ?_, by simp only [putK]; rw [h.cur, h.vals, List.range_succ], by simp only [putK]; rw [h.known, h.vals, List.range_succ], h.states⟩
   · rw [show i + (n + 1) = i + 1 + n by omega]
     exact this
   · have hv' : (s.vals ++ [vl 1 0 0 (i : Nat) [] 0])[v]? = some x := hv
     by_cases hlt : v < s.vals.length
     · rw [List.getElem?_append_left hlt] at hv'
       exact h.all v x hv'
     · have h2 := (List.getElem?_eq_some_iff.1 hv').1
       simp at h2
       have hv2 : v = s.vals.length := by omega
       subst hv2
       rw [List.getElem?_concat_length] at hv'
       rw [h.vals]
       exact (Option.some.inj hv').symm
theorem gh0:Gh (fun _=>0) (fun _=>[]) (fun _=>[]) 0:=
 ⟨fun p b hp=>by omega,fun b h0 hb=>by omega,fun b hb=>rfl,fun b hb=>by
  obtain rfl:b=0:=by omega
  exact ⟨[0], .nil⟩,fun p hp=>by omega⟩
theorem first_ok {s:Ds} {n:Nat} (h:Ps s n) (hn:n≤5):Mid (fun _=>0) (fun _=>[]) (fun _=>[]) noE (t0 (putK s (vl 2 0 0 5 [] 0))):=by
 have hvals:(t0 (putK s (vl 2 0 0 5 [] 0))).s.vals=s.vals++[vl 2 0 0 5 [] 0]:=rfl
 have hcur:(t0 (putK s (vl 2 0 0 5 [] 0))).s.cur=List.range (n+1):=by
  show s.cur++[s.vals.length]=_
  rw [h.cur,h.vals,List.range_succ]
 have hlen:(t0 (putK s (vl 2 0 0 5 [] 0))).s.vals.length=n+1:=by rw [hvals];simp [h.vals]
 have hcase:∀(v:Nat) (x:Vl),(t0 (putK s (vl 2 0 0 5 [] 0))).s.vals[v]? = some x→(v<n∧x=vl 1 0 0 (v:Nat) [] 0)∨(v=n∧x=vl 2 0 0 5 [] 0):=fun v x hv=>by
  rw [hvals] at hv
  by_cases hlt:v<s.vals.length
  ·rw [List.getElem?_append_left hlt] at hv
   exact .inl ⟨by rw [←h.vals];exact hlt,h.all v x hv⟩
  ·have h2:=(List.getElem?_eq_some_iff.1 hv).1
   simp at h2
   have hv2:v=s.vals.length:=by omega
   subst hv2
   rw [List.getElem?_concat_length] at hv
   exact .inr ⟨h.vals,(Option.some.inj hv).symm⟩
 have how:∀v,v<n+1→Ow (t0 (putK s (vl 2 0 0 5 [] 0))) v 0:=fun v hv=> .inr ⟨rfl,by rw [hcur];exact List.mem_range.2 hv⟩
 have hkn:∀v,v<n+1→Kn (fun _=>0) (t0 (putK s (vl 2 0 0 5 [] 0))) 0 v:=fun v hv=>by
  have hx:∃x,(t0 (putK s (vl 2 0 0 5 [] 0))).s.vals[v]? = some x:=⟨_,List.getElem?_eq_getElem (by rw [hlen];exact hv)⟩
  obtain ⟨x,hx⟩:=hx
  refine ⟨0,x,how v hv, .refl _,hx,?_⟩
  rcases hcase v x hx with ⟨_,rfl⟩ | ⟨_,rfl⟩ <;> rfl
 refine ⟨?_,fun v x hv=>?_,fun v x hv ho=>?_,fun b B hB=>(by cases hB),fun st fs hs=>?_,rfl,?_,fun w hw=>?_⟩
 ·rw [hlen,hcur];rfl
 ·rcases hcase v x hv with ⟨hlt,rfl⟩ | ⟨rfl,rfl⟩
  ·refine ⟨by simp [vl],fun e=>by simp [vl] at e,fun _=>⟨how v (by omega),rfl,by omega⟩,0,how v (by omega),fun _ w hw=>by simp [uses,vl,two,oneP] at hw,fun e=>by simp [vl,leaves] at e,fun _ w _ hw=>?_⟩
   have hw2:w<(t0 (putK s (vl 2 0 0 5 [] 0))).s.vals.length:=by rw [hlen];omega
   refine ⟨_,List.getElem?_eq_getElem hw2,?_⟩
   rcases hcase w _ (List.getElem?_eq_getElem hw2) with ⟨_,e⟩ | ⟨e,_⟩
   ·rw [e];rfl
   ·omega
  ·exact ⟨by simp [vl],fun e=>by simp [vl] at e,fun e=>by simp [vl] at e,0,how _ (by omega),fun _ w hw=>by simp [uses,vl,two,oneP] at hw,fun e=>by simp [vl,leaves] at e,fun e=>by simp [vl,isHead] at e⟩
 ·rcases hcase v x hv with ⟨_,rfl⟩ | ⟨_,rfl⟩
  ·simp [vl] at ho
  ·simp [vl] at ho
 ·have hs' : s.states[st]? = some fs:=hs
  rw [h.states] at hs'
  cases hs'
 ·show s.known++[s.vals.length]≠[]
  simp
 ·have hw' : w∈s.known++[s.vals.length]:=hw
  rw [h.known,h.vals,←List.range_succ] at hw'
  exact hkn w (List.mem_range.1 hw')
theorem shapes_ok (ops shape:List Int) (n:Int):Ok (shapes ops (shape.take 6) ⟨row ops (putK (params (pickN n 5) 0 ⟨[],[],[],[],0⟩) (vl 2 0 0 5 [] 0)),[],[]⟩):=by
 have h0:Ps ⟨[],[],[],[],0⟩ 0:=⟨rfl,fun v x h=>(by cases h),rfl,rfl,rfl⟩
 have h1:=params_ok (pickN n 5) 0 _ h0
 rw [Nat.zero_add] at h1
 have h2:=first_ok h1 (Nat.le_of_lt (pickN_lt n (by omega)))
 obtain ⟨h3,_⟩:=h2.row ops
 exact Ok.shapes ops _ ⟨_,_,_,gh0,h3⟩
end Go.Proofs.YtiepamfpilhcjaaDoor.Un
namespace Go.Proofs.YtiepamfpilhcjaaDoor.Un
open Go.Proofs.YtiepamfpilhcjaaDoor.Dm
theorem flat_lt:∀(l:List Bk),(l.flatMap fun B=>B.vals).Pairwise (·< ·)→∀(b b' k k' : Nat) (B B' : Bk) (v v' : Nat),l[b]? = some B→l[b']? = some B'→B.vals[k]? = some v→B'.vals[k']? = some v'→(b<b'→v<v')∧(b=b'→k<k'→v<v')
 | [],_,b,_,_,_,_,_,_,_,h,_,_,_=>by simp at h
 | C :: l, hp, b, b', k, k', B, B', v, v', h1, h2, h3, h4 => by
   rw [List.flatMap_cons, List.pairwise_append] at hp
   obtain ⟨p1, p2, p3⟩ := hp
   match b, b', h1, h2 with
   | 0, 0, h1, h2 =>
     obtain rfl : C = B := by simpa using h1
     obtain rfl : C = B' := by simpa using h2
     refine ⟨fun h => by omega, fun _ hk => ?_⟩
     obtain ⟨g1, g2⟩ := List.getElem?_eq_some_iff.1 h3
     obtain ⟨g3, g4⟩ := List.getElem?_eq_some_iff.1 h4
     have := List.pairwise_iff_getElem.1 p1 k k' g1 g3 hk
     rw [g2, g4] at this
     exact this
   | 0, n + 1, h1, h2 =>
     obtain rfl : C = B := by simpa using h1
     have h2' : l[n]? = some B' := by simpa using h2
     refine ⟨fun _ => p3 v (List.mem_of_getElem? h3) v' (List.mem_flatMap.2 ⟨B', List.mem_of_getElem? h2', List.mem_of_getElem? h4⟩), fun h => by omega⟩
   | n + 1, 0, h1, h2 => exact ⟨fun h => by omega, fun h => by omega⟩
   | n + 1, m + 1, h1, h2 =>
     have h1' : l[n]? = some B := by simpa using h1
     have h2' : l[m]? = some B' := by simpa using h2
     have := flat_lt l p2 n m k k' B B' v v' h1' h2' h3 h4
     exact ⟨fun h => this.1 (by omega), fun h => this.2 (by omega)⟩
section
variable {u:U} (hc:u.blocks.flatMap (fun B=>B.vals)=List.range u.vals.length)
include hc
theorem at_lt {v v' b b' k k' : Nat} (h:At u v b k) (h' : At u v' b' k'):(b<b'→v<v')∧(b=b'→k<k'→v<v'):=by
 obtain ⟨B,h1,h2⟩:=h
 obtain ⟨B',h3,h4⟩:=h'
 exact flat_lt u.blocks (by rw [hc];exact List.pairwise_lt_range) b b' k k' B B' v v' h1 h3 h2 h4
theorem at_uniq {v b b' k k' : Nat} (h:At u v b k) (h' : At u v b' k'):b=b'∧k=k':=by
 have e1:=(at_lt hc h h').1
 have e2:=(at_lt hc h' h).1
 have hb:b=b':=by
  rcases Nat.lt_trichotomy b b' with h | h | h
  ·exact absurd (e1 h) (Nat.lt_irrefl _)
  ·exact h
  ·exact absurd (e2 h) (Nat.lt_irrefl _)
 have e3:=(at_lt hc h h').2 hb
 have e4:=(at_lt hc h' h).2 hb.symm
 refine ⟨hb,?_⟩
 rcases Nat.lt_trichotomy k k' with h | h | h
 ·exact absurd (e3 h) (Nat.lt_irrefl _)
 ·exact h
 ·exact absurd (e4 h) (Nat.lt_irrefl _)
theorem at_order {v v' b k k' : Nat} (h:At u v b k) (h' : At u v' b k') (hlt:v<v'):k<k':=by
 rcases Nat.lt_trichotomy k k' with g | g | g
 ·exact g
 ·subst g
  obtain ⟨B,h1,h2⟩:=h
  obtain ⟨B',h3,h4⟩:=h'
  rw [h1] at h3
  obtain rfl:=Option.some.inj h3
  rw [h2] at h4
  obtain rfl:=Option.some.inj h4
  omega
 ·have:=(at_lt hc h' h).2 rfl g
  omega
theorem at_there {v:Nat} (hv:v<u.vals.length):∃b k,At u v b k:=by
 have:v∈u.blocks.flatMap (fun B=>B.vals):=by rw [hc];exact List.mem_range.2 hv
 obtain ⟨B,h1,h2⟩:=List.mem_flatMap.1 this
 obtain ⟨b,hb⟩:=List.mem_iff_getElem?.1 h1
 obtain ⟨k,hk⟩:=List.mem_iff_getElem?.1 h2
 exact ⟨b,k,B,hb,hk⟩
theorem at_in {v b k:Nat} (h:At u v b k):v<u.vals.length:=by
 obtain ⟨B,h1,h2⟩:=h
 have:v∈u.blocks.flatMap (fun B=>B.vals):=List.mem_flatMap.2 ⟨B,List.mem_of_getElem? h1,List.mem_of_getElem? h2⟩
 rw [hc] at this
 exact List.mem_range.1 this
end
end Go.Proofs.YtiepamfpilhcjaaDoor.Un
namespace Go.Proofs.YtiepamfpilhcjaaDoor.Un
theorem some_pos (ops:List Int):∀(i:Nat) (s:Ds) (l:List Nat),∃p,(some_ ops i s l).2 = { s with pos:=p }
 | 0,s,_=>⟨s.pos,rfl⟩
 | i+1,s,l=>some_pos ops i (one_ ops s).2 (l++[(one_ ops s).1])
theorem state_sz (ops:List Int) (s:Ds):(stateM ops s).2.vals=s.vals∧(stateM ops s).2.states.length=s.states.length+1∧(stateM ops s).2.cur=s.cur:=by
 obtain ⟨p,hp⟩:=some_pos ops (num ops s 4).1 (num ops s 4).2 []
 unfold stateM
 simp only
 rw [hp]
 exact ⟨rfl,by simp,rfl⟩
structure Sz (s s' : Ds):Prop where
 vals:s.vals.length≤s'.vals.length
 states:s'.states.length+s.vals.length≤s.states.length+s'.vals.length
theorem Sz.refl (s:Ds):Sz s s:=⟨Nat.le_refl _,Nat.le_refl _⟩
theorem Sz.trans {s s' s'' : Ds} (h1:Sz s s') (h2:Sz s' s''):Sz s s'':=by
 have a:=h1.vals;have b:=h2.vals;have c:=h1.states;have d:=h2.states
 exact ⟨by omega,by omega⟩
theorem kind_sz (ops:List Int) (s:Ds) (k a b:Nat):(kindM ops s k a b).vals.length=s.vals.length+1∧(kindM ops s k a b).states.length≤s.states.length+1:=by
 obtain ⟨h1,h2,_⟩:=state_sz ops s
 unfold kindM
 split
 ·simp [putK]
 split
 ·simp [putK,num]
 split
 ·simp [putK,num]
 split
 ·simp [putK]
 split
 ·simp [put,num]
 split
 ·simp [put,one_]
 split
 ·simp [put,h1,h2]
 split
 ·simp [put,h1,h2]
 ·simp [putK,num]
theorem rows_sz (ops:List Int):∀(i:Nat) (s:Ds),Sz s (rows ops i s)∧(rows ops i s).vals.length≤max s.vals.length 200
 | 0,s=>⟨.refl s,by show s.vals.length≤_;omega⟩
 | i + 1, s => by
   unfold rows
   split
   · rename_i hlt
     obtain ⟨h1, h2⟩ := rows_sz ops i (rowStep ops s)
     have h3 := kind_sz ops (num ops (one_ ops (one_ ops s).2).2 20).2 (num ops (one_ ops (one_ ops s).2).2 20).1 (one_ ops s).1 (one_ ops (one_ ops s).2).1
     have h4 : (rowStep ops s).vals.length = s.vals.length + 1 := h3.1
     have h5 : (rowStep ops s).states.length ≤ s.states.length + 1 := h3.2
     exact ⟨Sz.trans ⟨by omega, by omega⟩ h1, by omega⟩
   · exact ⟨.refl s, by omega⟩
theorem row_sz (ops:List Int) (s:Ds):Sz s (row ops s)∧(row ops s).vals.length≤max s.vals.length 200:=by
 obtain ⟨h1,h2⟩:=rows_sz ops (1+(num ops s 6).1) (num ops s 6).2
 exact ⟨⟨h1.vals,h1.states⟩,h2⟩
structure Big (t:Dt) (m:Nat):Prop where
 vals:t.s.vals.length≤210
 states:t.s.states.length≤t.s.vals.length+t.blocks.length
 blocks:t.blocks.length≤m
theorem big_fork (ops:List Int) {t:Dt} {m:Nat} (h:Big t m) (hv:t.s.vals.length<160):Big (fork ops t) (m+3):=by
 obtain ⟨h1,h2,h3⟩:=h
 unfold fork
 simp only
 have a1:=row_sz ops (end_ { t with s:=(one_ ops t.s).2 } 2 (one_ ops t.s).1 [t.blocks.length+1,t.blocks.length+2] 0 [t.blocks.length]).s
 generalize hs1:row ops (end_ { t with s:=(one_ ops t.s).2 } 2 (one_ ops t.s).1 [t.blocks.length+1,t.blocks.length+2] 0 [t.blocks.length]).s=s1 at *
 have a1v:t.s.vals.length≤s1.vals.length:=a1.1.vals
 have a1s:s1.states.length+t.s.vals.length≤t.s.states.length+s1.vals.length:=a1.1.states
 have a1m:s1.vals.length≤max t.s.vals.length 200:=a1.2
 generalize hu1:end_ { s:=cut t.s.known.length s1,blocks:=(end_ { t with s:=(one_ ops t.s).2 } 2 (one_ ops t.s).1 [t.blocks.length+1,t.blocks.length+2] 0 [t.blocks.length]).blocks,preds:=(end_ { t with s:=(one_ ops t.s).2 } 2 (one_ ops t.s).1 [t.blocks.length+1,t.blocks.length+2] 0 [t.blocks.length]).preds } 1 0 [t.blocks.length+3] 0 [t.blocks.length]=t2 at *
 have b2:t2.blocks.length=t.blocks.length+2:=by rw [←hu1];simp [end_]
 have v2:t2.s.vals=s1.vals:=by rw [←hu1];rfl
 have s2:t2.s.states=s1.states:=by rw [←hu1];rfl
 have a2:=row_sz ops t2.s
 generalize row ops t2.s=s3 at *
 have a2v:=a2.1.vals
 have a2s:=a2.1.states
 have a2m:=a2.2
 rw [v2] at a2v a2s a2m
 rw [s2] at a2s
 have a3:=row_sz ops (putK (end_ { s:=cut t.s.known.length s3,blocks:=t2.blocks,preds:=t2.preds } 1 0 [t.blocks.length+3] 0 [t.blocks.length+1,t.blocks.length+2]).s (vl 21 0 0 0 [s1.known.getLastD 0,s3.known.getLastD 0] 0))
 have e3v:(putK (end_ { s:=cut t.s.known.length s3,blocks:=t2.blocks,preds:=t2.preds } 1 0 [t.blocks.length+3] 0 [t.blocks.length+1,t.blocks.length+2]).s (vl 21 0 0 0 [s1.known.getLastD 0,s3.known.getLastD 0] 0)).vals.length=s3.vals.length+1:=by simp [putK,end_,cut]
 have e3s:(putK (end_ { s:=cut t.s.known.length s3,blocks:=t2.blocks,preds:=t2.preds } 1 0 [t.blocks.length+3] 0 [t.blocks.length+1,t.blocks.length+2]).s (vl 21 0 0 0 [s1.known.getLastD 0,s3.known.getLastD 0] 0)).states.length=s3.states.length:=by simp [putK,end_,cut]
 have a3v:=a3.1.vals
 have a3s:=a3.1.states
 have a3m:=a3.2
 rw [e3v] at a3v a3s a3m
 rw [e3s] at a3s
 refine ⟨?_,?_,?_⟩
 ·show (row ops _).vals.length≤210
  omega
 ·show (row ops _).states.length≤(row ops _).vals.length+(t2.blocks++[_]).length
  rw [List.length_append,b2]
  omega
 ·show (t2.blocks++[_]).length≤m+3
  rw [List.length_append,b2]
  simp
  omega
theorem big_exit (ops:List Int) {t:Dt} {m:Nat} (h:Big t m) (hv:t.s.vals.length<160):Big (exit_ ops t) (m+3):=by
 obtain ⟨h1,h2,h3⟩:=h
 unfold exit_
 simp only
 have a1:=row_sz ops (end_ { t with s:=(one_ ops t.s).2 } 2 (one_ ops t.s).1 [t.blocks.length+1,t.blocks.length+2] 0 [t.blocks.length]).s
 generalize hs1:row ops (end_ { t with s:=(one_ ops t.s).2 } 2 (one_ ops t.s).1 [t.blocks.length+1,t.blocks.length+2] 0 [t.blocks.length]).s=s1 at *
 have a1v:t.s.vals.length≤s1.vals.length:=a1.1.vals
 have a1s:s1.states.length+t.s.vals.length≤t.s.states.length+s1.vals.length:=a1.1.states
 have a1m:s1.vals.length≤max t.s.vals.length 200:=a1.2
 obtain ⟨q1,q2,_⟩:=state_sz ops s1
 generalize hu1:end_ { s:=cut t.s.known.length (stateM ops s1).2,blocks:=(end_ { t with s:=(one_ ops t.s).2 } 2 (one_ ops t.s).1 [t.blocks.length+1,t.blocks.length+2] 0 [t.blocks.length]).blocks,preds:=(end_ { t with s:=(one_ ops t.s).2 } 2 (one_ ops t.s).1 [t.blocks.length+1,t.blocks.length+2] 0 [t.blocks.length]).preds } 3 0 [] (stateM ops s1).1 [t.blocks.length]=t2 at *
 have b2:t2.blocks.length=t.blocks.length+2:=by rw [←hu1];simp [end_]
 have v2:t2.s.vals=s1.vals:=by rw [←hu1];exact q1
 have s2:t2.s.states.length=s1.states.length+1:=by rw [←hu1];exact q2
 have a2:=row_sz ops t2.s
 generalize row ops t2.s=s3 at *
 have a2v:=a2.1.vals
 have a2s:=a2.1.states
 have a2m:=a2.2
 rw [v2] at a2v a2s a2m
 rw [s2] at a2s
 refine ⟨?_,?_,?_⟩
 ·show s3.vals.length≤210
  omega
 ·show s3.states.length≤s3.vals.length+t2.blocks.length
  rw [b2]
  omega
 ·show t2.blocks.length≤m+3
  rw [b2]
  omega
theorem set_sz (s:Ds) (v:Nat) (args:List Nat):(setArgs s v args).vals.length=s.vals.length∧(setArgs s v args).states=s.states:=⟨by simp [setArgs,List.length_modify],rfl⟩
theorem big_loop (ops:List Int) {t:Dt} {m:Nat} (h:Big t m) (hv:t.s.vals.length<160):Big (loop ops t) (m+3):=by
 obtain ⟨h1,h2,h3⟩:=h
 unfold loop
 simp only
 generalize hu1:end_ { t with s:=(one_ ops t.s).2 } 1 0 [t.blocks.length+1] 0 [t.blocks.length,t.blocks.length+2]=t1 at *
 have b1:t1.blocks.length=t.blocks.length+1:=by rw [←hu1];simp [end_]
 have v1:t1.s.vals=t.s.vals:=by rw [←hu1];rfl
 have s1:t1.s.states=t.s.states:=by rw [←hu1];rfl
 generalize hs3:({ put (one_ ops (put t1.s (vl 21 0 0 0 [(one_ ops t.s).1,0] 0))).2 (vl 21 0 0 0 [(one_ ops (put t1.s (vl 21 0 0 0 [(one_ ops t.s).1,0] 0))).1,t1.s.vals.length] 0) with known:=(put (one_ ops (put t1.s (vl 21 0 0 0 [(one_ ops t.s).1,0] 0))).2 (vl 21 0 0 0 [(one_ ops (put t1.s (vl 21 0 0 0 [(one_ ops t.s).1,0] 0))).1,t1.s.vals.length] 0)).known++[t1.s.vals.length,t1.s.vals.length+1] } : Ds)=s3 at *
 have v3:s3.vals.length=t.s.vals.length+2:=by rw [←hs3,←v1];simp [put,one_]
 have st3:s3.states=t.s.states:=by rw [←hs3,←s1];rfl
 obtain ⟨q1,q2,_⟩:=state_sz ops s3
 generalize hs6:putK (put (put (stateM ops s3).2 (vl 23 0 0 0 [] (stateM ops s3).1)) (vl 2 0 0 1 [] 0)) (vl 4 t1.s.vals.length (put (stateM ops s3).2 (vl 23 0 0 0 [] (stateM ops s3).1)).vals.length 0 [] 0)=s6 at *
 have v6:s6.vals.length=t.s.vals.length+5:=by rw [←hs6];simp [putK,put,q1,v3]
 have st6:s6.states.length=t.s.states.length+1:=by rw [←hs6,←st3,←q2];rfl
 generalize hu2:end_ { s:=s6,blocks:=t1.blocks,preds:=t1.preds } 2 t1.s.vals.length [t.blocks.length+2,t.blocks.length+3] 0 [t.blocks.length+1]=t2 at *
 have b2:t2.blocks.length=t.blocks.length+2:=by rw [←hu2];simp [end_,b1]
 have v2:t2.s.vals=s6.vals:=by rw [←hu2];rfl
 have st2:t2.s.states=s6.states:=by rw [←hu2];rfl
 have a1:=row_sz ops t2.s
 generalize row ops t2.s=s7 at *
 have a1v:=a1.1.vals
 have a1s:=a1.1.states
 have a1m:=a1.2
 rw [v2] at a1v a1s a1m
 rw [st2] at a1s
 have key:∀s10:Ds,s10.vals.length=s7.vals.length→s10.states=s7.states→Big { s:=row ops (end_ { s:=cut s6.known.length s10,blocks:=t2.blocks,preds:=t2.preds } 1 0 [t.blocks.length+1] 0 [t.blocks.length+1]).s,blocks:=(end_ { s:=cut s6.known.length s10,blocks:=t2.blocks,preds:=t2.preds } 1 0 [t.blocks.length+1] 0 [t.blocks.length+1]).blocks,preds:=(end_ { s:=cut s6.known.length s10,blocks:=t2.blocks,preds:=t2.preds } 1 0 [t.blocks.length+1] 0 [t.blocks.length+1]).preds } (m+3):=by
  intro s10 e1 e2
  have a2:=row_sz ops (end_ { s:=cut s6.known.length s10,blocks:=t2.blocks,preds:=t2.preds } 1 0 [t.blocks.length+1] 0 [t.blocks.length+1]).s
  have a2v:s10.vals.length≤_:=a2.1.vals
  have a2s:_+s10.vals.length≤s10.states.length+_:=a2.1.states
  have a2m:_≤max s10.vals.length 200:=a2.2
  rw [e1] at a2v a2s a2m
  rw [e2] at a2s
  refine ⟨?_,?_,?_⟩
  ·show (row ops _).vals.length≤210
   omega
  ·show (row ops _).states.length≤(row ops _).vals.length+(t2.blocks++[_]).length
   rw [List.length_append,b2]
   omega
  ·show (t2.blocks++[_]).length≤m+3
   rw [List.length_append,b2]
   simp
   omega
 refine key _ ?_ ?_
 ·rw [(set_sz _ _ _).1]
  split
  ·rw [(set_sz _ _ _).1]
   exact (set_sz _ _ _).1
  ·exact (set_sz _ _ _).1
 ·rw [(set_sz _ _ _).2]
  split
  ·rfl
  ·rfl
theorem big_shapes (ops:List Int):∀(l:List Int) {t:Dt} {m:Nat},Big t m→Big (shapes ops l t) (m+3 * l.length)
 | [],t,m,h=>h
 | k :: l, t, m, h => by
   unfold shapes
   split
   · rename_i hv
     have h1 : Big (shapeM ops (pickN k 3) t) (m + 3) := by
       unfold shapeM
       split
       · exact big_fork ops h hv
       split
       · exact big_loop ops h hv
       · exact big_exit ops h hv
     have := big_shapes ops l h1
     rw [show m + 3 * (k :: l).length = m + 3 + 3 * l.length by rw [List.length_cons]; omega]
     exact this
   · exact ⟨h.vals, h.states, by have := h.blocks; rw [List.length_cons]; omega⟩
end Go.Proofs.YtiepamfpilhcjaaDoor.Un
namespace Go.Proofs.YtiepamfpilhcjaaDoor.Un
open Go.Proofs.YtiepamfpilhcjaaDoor.Dm
theorem last_ok {t:Dt} (ops:List Int) (h:Ok t):∃D pr nx,Gh D pr nx t.blocks.length∧nx t.blocks.length=[]∧Mid D pr nx noE (end_ (on t (stateM ops t.s).2) 3 0 [] (stateM ops t.s).1 []):=by
 obtain ⟨D,pr,nx,hG,hM⟩:=h
 generalize hh:t.blocks.length=hi at *
 have ag:∀b,b≤hi→ext hi D (dF hi) b=D b:=fun b h=>ext_old h
 have old:∀i,i<hi→extN hi nx (fun _=>[]) i=nx i:=fun i h=>extN_old h
 have hG' : Gh (ext hi D (dF hi)) (ext hi pr fun _=>[]) (extN hi nx fun _=>[]) hi:=by
  refine ⟨fun p b hp hb=>?_,fun b h0 hb=>?_,fun b hb=>?_,fun b hb=>?_,fun p hp hl u hu=>?_⟩
  ·rw [old p hp] at hb
   obtain ⟨h1,h2,h3⟩:=hG.tree p b hp hb
   exact ⟨h1,h2,by rw [ag b h1];exact anc_agree hG.down ag h3 (by omega)⟩
  ·rw [ag b hb];exact hG.down b h0 hb
  ·rw [ext_old hb,hG.preds b hb,aheadF_congr hi b old]
  ·obtain ⟨l,hl⟩:=hG.reach b hb
   exact ⟨l,hl.mono (Nat.le_refl _) old⟩
  ·rw [old p hp] at hl hu
   rw [ext_old (hG.tree p u hp hu).1]
   exact hG.crit p hp hl u hu
 have hM':=hM.agree (D':=ext hi D (dF hi)) (pr':=ext hi pr fun _=>[]) (nx':=extN hi nx fun _=>[]) (by rw [hh];exact hG) (fun b h=>ext_old (by omega)) (fun b h=>ext_old (by omega)) (fun b h=>extN_old (by omega))
 have n0:extN hi nx (fun _=>[]) hi=[]:=extN_new (k:=0) (g:=fun _=>[])
 obtain ⟨m1,g1,hk,_,_,fs,h5,h6⟩:=hM'.state ops
 have b1:(on t (stateM ops t.s).2).blocks.length=hi:=hh
 obtain ⟨m2,_⟩:=m1.end_ (fin:=3) (cond:=0) (n:=[]) (state:=(stateM ops t.s).1) (preds:=[]) (by rw [b1,n0]) (by rw [b1];exact (ext_new (g:=fun _=>([]:List Nat)) (by omega)).symm)
  (.inr (.inr ⟨rfl,rfl,fs,h5,fun w hw=>m1.kn w (by show w∈(stateM ops t.s).2.known;rw [hk];exact h6 w hw)⟩))
  (fun w hw=>(m1.kn w hw).up (by rw [b1];exact anc1 (by omega) (ext_new (by omega))))
 exact ⟨_,_,_,hG',n0,m2⟩
theorem good_of {D:Nat→Nat} {pr nx:Nat→List Nat} {t:Dt} {hi:Nat} (hG:Gh D pr nx hi) (hn:nx hi=[]) (hM:Mid D pr nx noE t) (hb:t.blocks.length=hi+1) (hcur:t.s.cur=[]) (hv:t.s.vals.length≤3000) (hs:t.s.states.length≤1000) (hbs:t.blocks.length≤300) (f p:Int) :
  Good ⟨f,p,t.s.vals,t.blocks,t.s.states⟩:=by
 have hc:t.blocks.flatMap (fun B=>B.vals)=List.range t.s.vals.length:=by
  have:=hM.cat
  rw [hcur,List.append_nil] at this
  exact this
 have own:∀{v b},Ow t v b→∃k,At ⟨f,p,t.s.vals,t.blocks,t.s.states⟩ v b k:=fun h=>by
  rcases h with ⟨B,h1,h2⟩ | ⟨_,h2⟩
  ·obtain ⟨k,hk⟩:=List.mem_iff_getElem?.1 h2
   exact ⟨k,B,h1,hk⟩
  ·rw [hcur] at h2;cases h2
 have owl:∀{v b},Ow t v b→b<t.blocks.length:=fun h=>by
  rcases h with ⟨B,h1,_⟩ | ⟨_,h2⟩
  ·exact (List.getElem?_eq_some_iff.1 h1).1
  ·rw [hcur] at h2;cases h2
 have toOw:∀{v b k},At ⟨f,p,t.s.vals,t.blocks,t.s.states⟩ v b k→Ow t v b:=fun ⟨B,h1,h2⟩=> .inl ⟨B,h1,List.mem_of_getElem? h2⟩
 have hnx:∀b,b<t.blocks.length→next ⟨f,p,t.s.vals,t.blocks,t.s.states⟩ b=nx b:=fun b h=>by
  have e:=List.getElem?_eq_getElem h
  unfold next
  simp only [e]
  exact (hM.bk b _ e).1
 have hnn:∀b,¬b<t.blocks.length→next ⟨f,p,t.s.vals,t.blocks,t.s.states⟩ b=[]:=fun b h=>by
  unfold next
  simp only [List.getElem?_eq_none (Nat.le_of_not_lt h)]
 have edge:∀q b,b∈next ⟨f,p,t.s.vals,t.blocks,t.s.states⟩ q→q<hi∧b∈nx q:=fun q b h=>by
  by_cases hq:q<t.blocks.length
  ·rw [hnx q hq] at h
   refine ⟨?_,h⟩
   by_cases e:q=hi
   ·rw [e,hn] at h;cases h
   ·omega
  ·rw [hnn q hq] at h;cases h
 have domi:∀{x b},Anc D x b→Domi (next ⟨f,p,t.s.vals,t.blocks,t.s.states⟩) x b:=fun h l hl=>domi_of_tree (fun q b hb _=>(hG.tree q b (edge q b hb).1 (edge q b hb).2).2.2) hl h
 have give:∀{a w},Kn D t a w→Gives ⟨f,p,t.s.vals,t.blocks,t.s.states⟩ w:=fun ⟨_,x,_,_,h3,h4⟩=>⟨x,h3,h4⟩
 have seesEnd:∀{a w},Kn D t a w→SeesEnd ⟨f,p,t.s.vals,t.blocks,t.s.states⟩ w a:=fun ⟨b,x,h1,h2,_⟩=>let ⟨k,hk⟩:=own h1;⟨b,k,hk,domi h2⟩
 have sees:∀{v w b k},At ⟨f,p,t.s.vals,t.blocks,t.s.states⟩ v b k→w<v→Kn D t b w→Sees ⟨f,p,t.s.vals,t.blocks,t.s.states⟩ w b k:=fun {v w b k} hv hlt ⟨c,x,h1,h2,_⟩=>by
  obtain ⟨j,hj⟩:=own h1
  by_cases e:c=b
  ·subst e
   exact ⟨c,j,hj, .inl ⟨rfl,at_order hc hj hv hlt⟩⟩
  ·exact ⟨c,j,hj, .inr ⟨e,domi h2⟩⟩
 have uniq:∀{v b b'},Ow t v b→Ow t v b'→b=b':=fun h h'=>by
  obtain ⟨k,hk⟩:=own h
  obtain ⟨k',hk'⟩:=own h'
  exact (at_uniq hc hk hk').1
 have hah:∀b,ahead ⟨f,p,t.s.vals,t.blocks,t.s.states⟩ b=aheadF nx hi b:=fun b=>by
  have key:∀(l:List Bk) (i:Nat),(∀k B,l[k]? = some B→B.next=nx (i+k))→aheadTo l i b=((List.range' i l.length).flatMap fun q=>((nx q).filter (·= b)).map fun _=>q):=by
   intro l
   induction l with
   | nil=>intro i _;rfl
   | cons B l ih =>
     intro i h
     have h0 := h 0 B rfl
     rw [Nat.add_zero] at h0
     rw [List.length_cons, List.range'_succ, List.flatMap_cons]
     unfold aheadTo
     rw [h0, ih (i + 1) fun k B hB => by rw [show i + 1 + k = i + (k + 1) by omega]; exact h (k + 1) B hB]
  unfold ahead
  rw [key t.blocks 0 fun k B hB=>by rw [Nat.zero_add];exact (hM.bk k B hB).1]
  have e:List.range' 0 t.blocks.length=List.range t.blocks.length:=(List.range_eq_range').symm
  rw [e,hb]
  have:=aheadF_succ nx hi b
  unfold aheadF at this ⊢
  rw [this,hn]
  simp
 refine { nv:=hv,nb0:=by show 1≤t.blocks.length;omega,nb:=hbs,ns:=hs,st:=?_,at1:=fun v h=>at_there hc h,at2:=fun v b k b' k' h h'=>at_uniq hc h h',atlt:=fun v b k h=>at_in hc h,heads:=?_,par:=?_,phi:=?_,op:=fun v x h=>(hM.vok v x h).op,use:=?_,leave:=?_,putAt:=fun v x h=>(hM.vok v x h).putAt,param:=?_,fin:=?_,nx:=?_,preds:=?_,preds0:=?_,crit:=?_,reach:=?_,seesV:=?_,seesP:=?_,seesS:=?_,seesC:=?_,seesO:=?_ }
 ·intro s fs h
  obtain ⟨g1,g2⟩:=hM.st s fs h
  refine ⟨by omega,by omega,fun f hf=>?_⟩
  obtain ⟨g3,g4,g5,g6⟩:=g2 f hf
  exact ⟨by omega,by omega,fun v hv=>let ⟨a,ha⟩:=g5 v hv;give ha,fun v hv=>let ⟨a,ha⟩:=g6 v hv;give ha⟩
 ·intro v w b k x y h1 h2 h3 h4 h5
  obtain ⟨c,g1,_,_,g4⟩:=(hM.vok v x h3).own
  obtain rfl:=uniq g1 (toOw h1)
  have hlt:w<v:=(at_lt hc h2 h1).2 rfl (Nat.lt_succ_self _)
  obtain ⟨z,g5,g6⟩:=g4 h5 w (toOw h2) hlt
  have h4' : t.s.vals[w]? = some y:=h4
  rw [h4'] at g5
  obtain rfl:=Option.some.inj g5
  exact g6
 ·intro v b k x h1 h2 h3
  exact uniq (toOw h1) ((hM.vok v x h2).par h3).1
 ·intro v b k x B h1 h2 h3 h4
  obtain ⟨c,g1,g2,g3⟩:=hM.ph v x h2 h3
  obtain rfl:=uniq g1 (toOw h1)
  exact ⟨g2,by rw [(hM.bk c B h4).2.1];exact (g3 id).1⟩
 ·intro v x h w hw
  by_cases h21:x.op=21
  ·obtain ⟨c,g1,g2,g3⟩:=hM.ph v x h h21
   have hw' : w∈x.args:=by unfold uses at hw;rw [if_pos h21] at hw;exact hw
   obtain ⟨j,hj⟩:=List.mem_iff_getElem?.1 hw'
   have hlt:=(List.getElem?_eq_some_iff.1 hj).1
   rw [(g3 id).1] at hlt
   exact give ((g3 id).2 j w _ hj (List.getElem?_eq_getElem hlt))
  ·obtain ⟨c,g1,g2,_⟩:=(hM.vok v x h).own
   exact give (g2 h21 w hw).2
 ·intro v x h hl
  obtain ⟨c,g1,_,g3,_⟩:=(hM.vok v x h).own
  obtain ⟨fs,g4,_⟩:=g3 hl
  exact (List.getElem?_eq_some_iff.1 g4).1
 ·intro v x h h1
  obtain ⟨g1,g2,g3⟩:=(hM.vok v x h).par h1
  refine ⟨by omega,by omega,fun w y hy hy1 he=>?_⟩
  obtain ⟨_,k2,_⟩:=(hM.vok w y hy).par hy1
  omega
 ·intro b B h
  rcases (hM.bk b B h).2.2 with g | ⟨g1,g2,g3⟩ | ⟨g1,g2,fs,g3,_⟩
  ·exact .inl g
  ·exact .inr (.inl ⟨g1,g2,give g3⟩)
  ·exact .inr (.inr ⟨g1,g2,(List.getElem?_eq_some_iff.1 g3).1⟩)
 ·intro b u hu
  obtain ⟨g1,g2⟩:=edge b u hu
  have:=(hG.tree b u g1 g2).1
  show u<t.blocks.length
  omega
 ·intro b B h
  have hlt:=(List.getElem?_eq_some_iff.1 h).1
  rw [(hM.bk b B h).2.1,hah,hG.preds b (by have:b<t.blocks.length:=hlt;omega)]
 ·rw [hah]
  exact aheadF_none fun i hi' hm=>(hG.tree i 0 hi' hm).2.1 rfl
 ·intro b B h h2 u hu
  have hlt:b<t.blocks.length:=(List.getElem?_eq_some_iff.1 h).1
  have e:=(hM.bk b B h).1
  have hu' : u∈nx b:=by rw [←e];exact hu
  have hbhi:b<hi:=by
   by_cases e2:b=hi
   ·rw [e2,hn] at hu';cases hu'
   ·omega
  have hl:(nx b).length=2:=by
   rw [←e]
   rcases (hM.bk b B h).2.2 with g | ⟨_,g2,_⟩ | ⟨g1,_⟩
   ·omega
   ·exact g2
   ·omega
  rw [hah,←hG.preds u (hG.tree b u hbhi hu').1]
  exact hG.crit b hbhi hl u hu'
 ·intro b hlt
  have hlt' : b<t.blocks.length:=hlt
  obtain ⟨l,hl⟩:=hG.reach b (by omega)
  have conv:∀{b l},Pn nx hi b l→Pt (next ⟨f,p,t.s.vals,t.blocks,t.s.states⟩) b l:=by
   intro b l h
   induction h with
   | nil=>exact .nil
   | step _ hp e ih=>exact .step ih (by rw [hnx _ (by omega)];exact e)
  exact ⟨l,conv hl⟩
 ·intro v b k x h1 h2 h3 w hw
  obtain ⟨c,g1,g2,_⟩:=(hM.vok v x h2).own
  obtain rfl:=uniq g1 (toOw h1)
  exact sees h1 (g2 h3 w hw).1 (g2 h3 w hw).2
 ·intro v b k x B h1 h2 h3 h4 j w q h5 h6
  obtain ⟨c,g1,_,g3⟩:=hM.ph v x h2 h3
  obtain rfl:=uniq g1 (toOw h1)
  rw [(hM.bk c B h4).2.1] at h6
  exact seesEnd ((g3 id).2 j w q h5 h6)
 ·intro v b k x fs h1 h2 h3 h4 w hw
  obtain ⟨c,g1,_,g3,_⟩:=(hM.vok v x h2).own
  obtain rfl:=uniq g1 (toOw h1)
  obtain ⟨fs',g4,g5⟩:=g3 h3
  have h4' : t.s.states[x.state]? = some fs:=h4
  rw [h4'] at g4
  obtain rfl:=Option.some.inj g4
  exact sees h1 (g5 w hw).1 (g5 w hw).2
 ·intro b B h h2
  rcases (hM.bk b B h).2.2 with g | ⟨_,_,g3⟩ | ⟨g1,_⟩
  ·omega
  ·exact seesEnd g3
  ·omega
 ·intro b B fs h h2 h3 w hw
  rcases (hM.bk b B h).2.2 with g | ⟨g1,_,_⟩ | ⟨_,_,fs',g3,g4⟩
  ·omega
  ·omega
  ·have h3' : t.s.states[B.state]? = some fs:=h3
   rw [h3'] at g3
   obtain rfl:=Option.some.inj g3
   exact seesEnd (g4 w hw)
theorem params_sz:∀(n i:Nat) (s:Ds),(params n i s).vals.length=s.vals.length+n∧(params n i s).states=s.states
 | 0,_,_=>⟨rfl,rfl⟩
 | n + 1, i, s => by
   obtain ⟨h1, h2⟩ := params_sz n (i + 1) (putK s (vl 1 0 0 (i : Nat) [] 0))
   refine ⟨?_, h2⟩
   unfold params
   rw [h1]
   simp [putK]
   omega
theorem unit_good (ops shape:List Int) (n:Int):Good (unitM ops shape n):=by
 have hok:=shapes_ok ops shape n
 have hp:=params_sz (pickN n 5) 0 ⟨[],[],[],[],0⟩
 have hpn:=pickN_lt n (m:=5) (by omega)
 obtain ⟨r1,r2⟩:=row_sz ops (putK (params (pickN n 5) 0 ⟨[],[],[],[],0⟩) (vl 2 0 0 5 [] 0))
 have e1:(putK (params (pickN n 5) 0 ⟨[],[],[],[],0⟩) (vl 2 0 0 5 [] 0)).vals.length=pickN n 5+1:=by
  simp only [putK,List.length_append,List.length_singleton,hp.1]
  simp
 have e2:(putK (params (pickN n 5) 0 ⟨[],[],[],[],0⟩) (vl 2 0 0 5 [] 0)).states=[]:=hp.2
 have hb0:Big ⟨row ops (putK (params (pickN n 5) 0 ⟨[],[],[],[],0⟩) (vl 2 0 0 5 [] 0)),[],[]⟩ 0:=by
  have a:=r1.vals
  have b:=r1.states
  rw [e1] at a b r2
  rw [e2] at b
  refine ⟨by show (row ops _).vals.length≤210;omega,?_,Nat.le_refl _⟩
  show (row ops _).states.length≤(row ops _).vals.length+0
  simp at b
  omega
 have hb:=big_shapes ops (shape.take 6) hb0
 have hlen:(shape.take 6).length≤6:=by rw [List.length_take];omega
 unfold unitM
 simp only
 generalize shapes ops (shape.take 6) ⟨row ops (putK (params (pickN n 5) 0 ⟨[],[],[],[],0⟩) (vl 2 0 0 5 [] 0)),[],[]⟩=t at *
 obtain ⟨D,pr,nx,hG,hn,hM⟩:=last_ok ops hok
 obtain ⟨q1,q2,_⟩:=state_sz ops t.s
 have v:=hb.vals
 have s:=hb.states
 have bl:=hb.blocks
 refine good_of hG hn hM (by simp [end_,on]) rfl ?_ ?_ ?_ 1 2
 ·show (stateM ops t.s).2.vals.length≤3000
  rw [q1];omega
 ·show (stateM ops t.s).2.states.length≤1000
  rw [q2];omega
 ·show (t.blocks++[_]).length≤300
  rw [List.length_append,List.length_singleton];omega
end Go.Proofs.YtiepamfpilhcjaaDoor.Un
namespace Go.Proofs.YtiepamfpilhcjaaDoor.Un
theorem unit_sz (ops shape:List Int) (n:Int):1≤(unitM ops shape n).vals.length∧(unitM ops shape n).vals.length≤210:=by
 constructor
 ·have g:=unit_good ops shape n
  have hs:∃(s:Nat) (fs:List Fm) (f:Fm),(unitM ops shape n).states[s]? = some fs∧f∈fs∧∃v,v∈f.stack:=by
   unfold unitM end_ stateM
   refine ⟨_,_,_,List.getElem?_concat_length,List.mem_singleton.2 rfl,_,List.mem_singleton.2 rfl⟩
  obtain ⟨s,fs,f,h1,h2,v,h3⟩:=hs
  obtain ⟨x,h4,_⟩:=((g.st s fs h1).2.2 f h2).2.2.2 v h3
  have:=(List.getElem?_eq_some_iff.1 h4).1
  omega
 ·have hp:=params_sz (pickN n 5) 0 ⟨[],[],[],[],0⟩
  have hpn:=pickN_lt n (m:=5) (by omega)
  obtain ⟨r1,r2⟩:=row_sz ops (putK (params (pickN n 5) 0 ⟨[],[],[],[],0⟩) (vl 2 0 0 5 [] 0))
  have e1:(putK (params (pickN n 5) 0 ⟨[],[],[],[],0⟩) (vl 2 0 0 5 [] 0)).vals.length=pickN n 5+1:=by
   simp only [putK,List.length_append,List.length_singleton,hp.1]
   simp
  have e2:(putK (params (pickN n 5) 0 ⟨[],[],[],[],0⟩) (vl 2 0 0 5 [] 0)).states=[]:=hp.2
  have hb0:Big ⟨row ops (putK (params (pickN n 5) 0 ⟨[],[],[],[],0⟩) (vl 2 0 0 5 [] 0)),[],[]⟩ 0:=by
   have a:=r1.vals
   have b:=r1.states
   rw [e1] at a b r2
   rw [e2] at b
   refine ⟨by show (row ops _).vals.length≤210;omega,?_,Nat.le_refl _⟩
   show (row ops _).states.length≤(row ops _).vals.length+0
   simp at b
   omega
  have hb:=big_shapes ops (shape.take 6) hb0
  unfold unitM
  simp only
  generalize shapes ops (shape.take 6) ⟨row ops (putK (params (pickN n 5) 0 ⟨[],[],[],[],0⟩) (vl 2 0 0 5 [] 0)),[],[]⟩=t at *
  obtain ⟨q1,_,_⟩:=state_sz ops t.s
  have v:=hb.vals
  show (stateM ops t.s).2.vals.length≤210
  rw [q1]
  exact v
end Go.Proofs.YtiepamfpilhcjaaDoor.Un
namespace Go.Proofs.YtiepamfpilhcjaaDoor.Un
open Go.Proofs.YtiepamfpilhcjaaDoor.Dm
def On (l:List Bool) (v:Nat):Prop:=l[v]? = some true
theorem On_set {l:List Bool} {v w:Nat} (hv:v<l.length) (b:Bool):On (l.set v b) w↔(w=v∧b=true)∨(w≠v∧On l w):=by
 unfold On
 by_cases h:v=w
 ·subst h
  rw [List.getElem?_set_self hv]
  simp
 ·rw [List.getElem?_set_ne h]
  constructor
  ·exact fun h2=> .inr ⟨fun e=>h e.symm,h2⟩
  ·rintro (⟨h2,_⟩ | ⟨_,h2⟩)
   ·exact absurd h2.symm h
   ·exact h2
def headB (u:U) (v:Nat):Bool:=match u.vals[v]? with
 | some x=>isHead x.op
 | none=>false
def valsOf (u:U) (b:Nat):List Nat:=match u.blocks[b]? with
 | some B=>B.vals
 | none=>[]
def headIn (u:U) (t w:Nat):Prop:=w∈valsOf u t∧headB u w=true
def stFrames (u:U) (s:Nat):List Nat:=match u.states[s]? with
 | some fs=>frames fs
 | none=>[]
def takes (u:U) (v:Nat):List Nat:=match u.vals[v]? with
 | some x=>uses x++(if leaves x.op=true then stFrames u x.state else [])
 | none=>[]
def ln (In H:Nat→Nat→Prop):List Nat→(Nat→Prop)→Nat→Prop
 | [],P=>P
 | t::ts,P=>ln In H ts fun w=>(P w∨In t w)∧¬H t w
def phiTake (u:U) (b w:Nat):Prop:=∃t∈next u b,∃(B:Bk) (v:Nat) (x:Vl) (j:Nat),u.blocks[t]? = some B∧v∈B.vals∧u.vals[v]? = some x∧x.op=21∧B.preds[j]? = some b∧x.args[j]? = some w
def endTake (u:U) (b w:Nat):Prop:=∃B:Bk,u.blocks[b]? = some B∧(B.fin=2∧w=B.cond∨B.fin=3∧w∈stFrames u B.state)
def EndP (u:U) (H In:Nat→Nat→Prop) (b w:Nat):Prop:=ln In H (next u b) (fun _=>False) w∨phiTake u b w∨endTake u b w
def bk (u:U):List Nat→(Nat→Prop)→Nat→Prop
 | [],P=>P
 | v::r,P=>if headB u v=true then P else bk u r fun w=>(P w∧w≠v)∨w∈takes u v
def BackP (u:U) (b:Nat) (O:Nat→Prop):Nat→Prop:=bk u (valsOf u b).reverse O
def Tr (u:U) (H In:Nat→Nat→Prop) (b:Nat):Nat→Prop:=BackP u b (EndP u H In b)
theorem ln_mono {In In' H:Nat→Nat→Prop} (h:∀b w,In b w→In' b w):∀{ts:List Nat} {P P' : Nat→Prop},(∀w,P w→P' w)→∀w,ln In H ts P w→ln In' H ts P' w
 | [],_,_,hp,w,hw=>hp w hw
 | _::ts,_,_,hp,w,hw=>ln_mono (ts:=ts) h (fun x hx=>⟨hx.1.elim (fun h1=> .inl (hp x h1)) fun h1=> .inr (h _ x h1),hx.2⟩) w hw
theorem ln_congr {In H H' : Nat→Nat→Prop} : ∀{ts:List Nat} {P:Nat→Prop},(∀t∈ts,∀w,H t w↔H' t w)→∀w,ln In H ts P w↔ln In H' ts P w
 | [],_,_,_=>Iff.rfl
 | t :: ts, P, h, w => by
   have e : (fun w => (P w ∨ In t w) ∧ ¬ H t w) = fun w => (P w ∨ In t w) ∧ ¬ H' t w := by
     funext x
     rw [h t (by simp) x]
   show ln In H ts _ w ↔ ln In H' ts _ w
   rw [e]
   exact ln_congr (fun t ht => h t (by simp [ht])) w
theorem ln_inv {In H:Nat→Nat→Prop} : ∀{ts:List Nat} {P:Nat→Prop} {w:Nat},ln In H ts P w→P w∨∃t∈ts,In t w∧¬H t w
 | [],_,_,h=> .inl h
 | t :: ts, P, w, h => by
   rcases ln_inv (ts := ts) h with h1 | ⟨t', h1, h2⟩
   · rcases h1.1 with h2 | h2
     · exact .inl h2
     · exact .inr ⟨t, by simp, h2, h1.2⟩
   · exact .inr ⟨t', by simp [h1], h2⟩
theorem ln_keep {In H:Nat→Nat→Prop} {w:Nat} : ∀{ts:List Nat} {P:Nat→Prop},P w→(∀t∈ts,¬H t w)→ln In H ts P w
 | [],_,h,_=>h
 | t::ts,_,h,hn=>ln_keep (ts:=ts) ⟨.inl h,hn t (by simp)⟩ fun t ht=>hn t (by simp [ht])
theorem ln_mem {In H:Nat→Nat→Prop} {w b:Nat} : ∀{ts:List Nat} {P:Nat→Prop},b∈ts→In b w→(∀t∈ts,¬H t w)→ln In H ts P w
 | [],_,h,_,_=>by cases h
 | t :: ts, _, h, hi, hn => by
   rcases List.mem_cons.1 h with rfl | h
   · exact ln_keep (ts := ts) ⟨.inr hi, hn _ (by simp)⟩ fun t ht => hn t (by simp [ht])
   · exact ln_mem (ts := ts) h hi fun t ht => hn t (by simp [ht])
theorem EndP_mono {u:U} {H In In' : Nat→Nat→Prop} (h:∀b w,In b w→In' b w) {b w:Nat} (hw:EndP u H In b w):EndP u H In' b w:=
 hw.elim (fun h1=> .inl (ln_mono h (fun _ hx=>hx) w h1)) fun h1=> .inr h1
theorem bk_mono {u:U} : ∀{r:List Nat} {P P' : Nat→Prop},(∀w,P w→P' w)→∀w,bk u r P w→bk u r P' w
 | [],_,_,h,w,hw=>h w hw
 | v :: r, P, P', h, w, hw => by
   unfold bk at hw ⊢
   split at hw
   · rename_i e; rw [if_pos e]; exact h w hw
   · rename_i e; rw [if_neg e]; exact bk_mono (fun x hx => hx.elim (fun h1 => .inl ⟨h x h1.1, h1.2⟩) fun h1 => .inr h1) w hw
theorem Tr_mono {u:U} {H In In' : Nat→Nat→Prop} (h:∀b w,In b w→In' b w) {b w:Nat} (hw:Tr u H In b w):Tr u H In' b w:=
 bk_mono (fun _ hx=>EndP_mono h hx) w hw
theorem bk_keep {u:U} {w:Nat} : ∀{r:List Nat} {P:Nat→Prop},P w→w ∉ r→bk u r P w
 | [],_,h,_=>h
 | v :: r, P, h, hn => by
   unfold bk
   split
   · exact h
   · exact bk_keep (.inl ⟨h, fun e => hn (by simp [e])⟩) fun hm => hn (by simp [hm])
theorem bk_use {u:U} {v w:Nat} : ∀{r:List Nat} {P:Nat→Prop},v∈r→r.Pairwise (fun a b=>headB u a=true→headB u b=true)→headB u v≠true→w∈takes u v→w ∉ r→bk u r P w
 | [],_,h,_,_,_,_=>by cases h
 | x :: r, P, h, hp, hv, hw, hn => by
   rw [List.pairwise_cons] at hp
   unfold bk
   rcases List.mem_cons.1 h with rfl | h
   · rw [if_neg hv]
     exact bk_keep (.inr hw) fun hm => hn (by simp [hm])
   · rw [if_neg fun e => hv (hp.1 v h e)]
     exact bk_use h hp.2 hv hw fun hm => hn (by simp [hm])
structure Seek (u:U) (H In:Nat→Nat→Prop):Prop where
 up:∀b w,In b w→Tr u H In b w
 least:∀X:Nat→Nat→Prop,(∀b w,b<u.blocks.length→Tr u H X b w→X b w)→∀b w,In b w→X b w
theorem Seek.start (u:U) (H:Nat→Nat→Prop):Seek u H fun _ _=>False:=⟨fun _ _ h=>h.elim,fun _ _ _ _ h=>h.elim⟩
def setP (In:Nat→Nat→Prop) (b:Nat) (P:Nat→Prop):Nat→Nat→Prop:=fun c w=>(c=b∧P w)∨(c≠b∧In c w)
theorem Seek.step {u:U} {H In:Nat→Nat→Prop} (h:Seek u H In) {b:Nat} (hb:b<u.blocks.length):Seek u H (setP In b (Tr u H In b)):=by
 have hle:∀c w,In c w→setP In b (Tr u H In b) c w:=fun c w hw=>by
  by_cases e:c=b
  ·subst e;exact .inl ⟨rfl,h.up _ _ hw⟩
  ·exact .inr ⟨e,hw⟩
 refine ⟨fun c w hw=>?_,fun X hX c w hw=>?_⟩
 ·rcases hw with ⟨rfl,h1⟩ | ⟨_,h1⟩
  ·exact Tr_mono hle h1
  ·exact Tr_mono hle (h.up _ _ h1)
 ·rcases hw with ⟨rfl,h1⟩ | ⟨_,h1⟩
  ·exact hX _ _ hb (Tr_mono (h.least X hX) h1)
  ·exact h.least X hX _ _ h1
structure Alive (u:U) (H In Out:Nat→Nat→Prop):Prop where
 out:∀b w,b<u.blocks.length→(Out b w↔EndP u H In b w)
 inn:∀b w,b<u.blocks.length→(In b w↔BackP u b (Out b) w)
 least:∀X:Nat→Nat→Prop,(∀b w,b<u.blocks.length→Tr u H X b w→X b w)→∀b w,In b w→X b w
theorem Alive.tr {u:U} {H In Out:Nat→Nat→Prop} (h:Alive u H In Out) {b w:Nat} (hb:b<u.blocks.length):In b w↔Tr u H In b w:=by
 rw [h.inn b w hb]
 exact ⟨bk_mono (fun x hx=>(h.out b x hb).1 hx) w,bk_mono (fun x hx=>(h.out b x hb).2 hx) w⟩
theorem Tr_congr {u:U} {H H' In:Nat→Nat→Prop} {b:Nat} (hH:∀t∈next u b,∀w,H t w↔H' t w) (w:Nat):Tr u H In b w↔Tr u H' In b w:=
 ⟨bk_mono (fun x hx=>hx.imp (fun h1=>(ln_congr hH x).1 h1) id) w,bk_mono (fun x hx=>hx.imp (fun h1=>(ln_congr hH x).2 h1) id) w⟩
theorem Alive.uniq {u:U} {H H' In Out In' Out' : Nat→Nat→Prop} (h:Alive u H In Out) (h' : Alive u H' In' Out') (hH:∀b,∀t∈next u b,∀w,H t w↔H' t w) {b w:Nat} (hb:b<u.blocks.length):(In b w↔In' b w)∧(Out b w↔Out' b w):=by
 have e:∀b w,In b w→In' b w:=h.least In' fun b w hb hw=>(h'.tr hb).2 ((Tr_congr (hH b) w).1 hw)
 have e' : ∀b w,In' b w→In b w:=h'.least In fun b w hb hw=>(h.tr hb).2 ((Tr_congr (hH b) w).2 hw)
 refine ⟨⟨e b w,e' b w⟩,?_⟩
 rw [h.out b w hb,h'.out b w hb]
 exact ⟨fun h1=>(EndP_mono e h1).imp (fun h2=>(ln_congr (hH b) w).1 h2) id,fun h1=>(EndP_mono e' h1).imp (fun h2=>(ln_congr (hH b) w).2 h2) id⟩
theorem valsOf_at {u:U} {b v:Nat} : v∈valsOf u b↔∃k,At u v b k:=by
 unfold valsOf At
 split
 ·rename_i B hB
  rw [List.mem_iff_getElem?]
  exact ⟨fun ⟨k,h⟩=>⟨k,B,hB,h⟩,fun ⟨k,B',h1,h2⟩=>⟨k,by rw [hB] at h1;cases h1;exact h2⟩⟩
 ·rename_i hB
  constructor
  ·intro h;cases h
  ·rintro ⟨k,B',h1,_⟩
   rw [hB] at h1;cases h1
theorem valsOf_get {u:U} {b v k:Nat} : (valsOf u b)[k]? = some v↔At u v b k:=by
 unfold valsOf At
 split
 ·rename_i B hB
  exact ⟨fun h=>⟨B,hB,h⟩,fun ⟨B',h1,h2⟩=>by rw [hB] at h1;cases h1;exact h2⟩
 ·rename_i hB
  exact ⟨fun h=>by simp at h,fun ⟨B',h1,_⟩=>by rw [hB] at h1;cases h1⟩
theorem Pt.cut {nx:Nat→List Nat} {x:Nat} : ∀{b l},Pt nx b l→x∈l→∃l',Pt nx x l'∧l'.length≤l.length
 | _, _, .nil, h => by
   obtain rfl : x = 0 := by simpa using h
   exact ⟨_, .nil, Nat.le_refl _⟩
 | _, _, .step h e, hx => by
   rcases List.mem_cons.1 hx with rfl | hx
   · exact ⟨_, .step h e, Nat.le_refl _⟩
   · obtain ⟨l', h1, h2⟩ := Pt.cut h hx
     exact ⟨l', h1, by simp; omega⟩
section
variable {u:U} (g:Good u)
include g
theorem Good.nextLt {p b:Nat} (h:b∈next u p):p<u.blocks.length∧b<u.blocks.length∧b≠0:=by
 refine ⟨?_,g.nx p b h,fun e=>?_⟩
 ·unfold next at h
  split at h
  ·rename_i B hB;exact (List.getElem?_eq_some_iff.1 hB).1
  ·cases h
 ·subst e
  have:=mem_ahead.2 h
  rw [g.preds0] at this
  cases this
omit g in
theorem domStep {c p b:Nat} (h:Domi (next u) c b) (hc:c≠b) (e:b∈next u p):Domi (next u) c p:=fun l hl=>by
 have:=h _ (.step hl e)
 rcases List.mem_cons.1 this with h1 | h1
 ·exact absurd h1 hc
 ·exact h1
theorem Good.alone {t p:Nat} (ht:t≠0) (ha:∀q,t∈next u q→q=p) (hp:p<u.blocks.length) (h:Domi (next u) t p):False:=by
 have key:∀(n:Nat) (l:List Nat),l.length≤n→¬Pt (next u) p l:=by
  intro n
  induction n with
  | zero =>
    intro l hl hP
    cases hP <;> simp at hl
  | succ n ih =>
    intro l hl hP
    obtain ⟨l', h1, h2⟩ := hP.cut (h l hP)
    cases h1 with
    | nil => exact ht rfl
    | step h3 e =>
      have := ha _ e
      subst this
      exact ih _ (by simp at h2; omega) h3
 obtain ⟨l,hl⟩:=g.reach p hp
 exact key l.length l (Nat.le_refl _) hl
theorem Good.headB_at {v b k:Nat} (h:At u v b k):∃x,u.vals[v]? = some x∧headB u v=isHead x.op:=by
 have:=g.atlt v b k h
 refine ⟨_,List.getElem?_eq_getElem this,?_⟩
 unfold headB
 rw [List.getElem?_eq_getElem this]
theorem Good.headsUp {v b k:Nat} (h:At u v b k) (hv:headB u v=true):∀{w j:Nat},At u w b j→j≤k→headB u w=true:=by
 have key:∀(n:Nat) (v k:Nat),At u v b k→headB u v=true→∀w j,At u w b j→j+n=k→headB u w=true:=by
  intro n
  induction n with
  | zero =>
    intro v k h hv w j hw hj
    obtain rfl : j = k := by omega
    obtain ⟨B, h1, h2⟩ := h
    obtain ⟨B', h3, h4⟩ := hw
    rw [h1] at h3; cases h3
    rw [h2] at h4; cases h4
    exact hv
  | succ n ih =>
    intro v k h hv w j hw hj
    obtain ⟨k, rfl⟩ : ∃ i, k = i + 1 := ⟨k - 1, by omega⟩
    obtain ⟨B, h1, h2⟩ := h
    have hk : k < B.vals.length := by have := (List.getElem?_eq_some_iff.1 h2).1; omega
    have h3 : At u (B.vals[k]) b k := ⟨B, h1, List.getElem?_eq_getElem hk⟩
    obtain ⟨x, hx, ex⟩ := g.headB_at ⟨B, h1, h2⟩
    obtain ⟨y, hy, ey⟩ := g.headB_at h3
    rw [ex] at hv
    exact ih _ k h3 (by rw [ey]; exact g.heads _ _ _ _ _ _ ⟨B, h1, h2⟩ h3 hx hy hv) w j hw (by omega)
 exact fun {w j} hw hj=>key (k - j) v k h hv w j hw (by omega)
theorem Good.pw (b:Nat):(valsOf u b).reverse.Pairwise fun x y=>headB u x=true→headB u y=true:=by
 rw [List.pairwise_reverse,List.pairwise_iff_getElem]
 intro i j hi hj hij h
 exact g.headsUp (valsOf_get.1 (List.getElem?_eq_getElem hj)) h (valsOf_get.1 (List.getElem?_eq_getElem hi)) (by omega)
def Above (u:U) (b w:Nat):Prop:=∃c j,At u w c j∧Domi (next u) c b∧(c=b→headB u w=true)
theorem Good.endAbove {X:Nat→Nat→Prop} (hX:∀b w,X b w→Above u b w) {b w:Nat} (h:EndP u (headIn u) X b w):∃c j,At u w c j∧Domi (next u) c b:=by
 rcases h with h | ⟨t,h1,B,v,x,j,h2,h3,h4,h5,h6,h7⟩ | ⟨B,h1,h2⟩
 ·rcases ln_inv h with h1 | ⟨t,h1,h2,h3⟩
  ·exact h1.elim
  ·obtain ⟨c,j,h4,h5,h6⟩:=hX t w h2
   refine ⟨c,j,h4,domStep h5 (fun e=>?_) h1⟩
   subst e
   exact h3 ⟨valsOf_at.2 ⟨j,h4⟩,h6 rfl⟩
 ·obtain ⟨k,hk⟩:=valsOf_at.1 (show v∈valsOf u t by unfold valsOf;rw [h2];exact h3)
  exact g.seesP v t k x B hk h4 h5 h2 j w b h7 h6
 ·rcases h2 with ⟨h3,rfl⟩ | ⟨h3,h4⟩
  ·exact g.seesC b B h1 h3
  ·unfold stFrames at h4
   split at h4
   ·rename_i fs hf
    exact g.seesO b B fs h1 h3 hf w h4
   ·cases h4
theorem Good.backAbove {b:Nat} {O:Nat→Prop} (hO:∀w,O w→∃c j,At u w c j∧Domi (next u) c b) {w:Nat} (h:BackP u b O w):Above u b w:=by
 have key : ∀ (l d : List Nat) (P : Nat → Prop), valsOf u b = l ++ d → (∀ w, P w → ∃ c j, At u w c j ∧ Domi (next u) c b ∧ (c = b → j < l.length ∨ headB u w = true)) → ∀ w, bk u l.reverse P w → Above u b w := by
   intro l
   induction hl : l.length generalizing l with
   | zero =>
     intro d P _ hP w hw
     obtain rfl : l = [] := List.eq_nil_of_length_eq_zero hl
     obtain ⟨c, j, h1, h2, h3⟩ := hP w hw
     refine ⟨c, j, h1, h2, fun e => ?_⟩
     rcases h3 e with h4 | h4
     · omega
     · exact h4
   | succ n ih =>
     intro d P hv hP w hw
     obtain ⟨s, v, rfl⟩ : ∃ s v, l = s ++ [v] := by
       rcases eq_nil_or_snoc l with rfl | h
       · simp at hl
       · exact h
     have hs : s.length = n := by simpa using hl
     have hat : At u v b s.length := valsOf_get.1 (by rw [hv]; simp)
     rw [List.reverse_append] at hw
     simp only [List.reverse_cons, List.reverse_nil, List.nil_append, List.singleton_append] at hw
     unfold bk at hw
     split at hw
     · rename_i hh
       obtain ⟨c, j, h1, h2, h3⟩ := hP w hw
       refine ⟨c, j, h1, h2, fun e => ?_⟩
       rcases h3 e with h4 | h4
       · subst e
         exact g.headsUp hat hh h1 (by omega)
       · exact h4
     · rename_i hh
       refine ih s hs (v :: d) _ (by rw [hv]; simp) (fun x hx => ?_) w hw
       rcases hx with ⟨hx, hne⟩ | hx
       · obtain ⟨c, j, h1, h2, h3⟩ := hP x hx
         refine ⟨c, j, h1, h2, fun e => ?_⟩
         rcases h3 e with h4 | h4
         · left
           rcases Nat.lt_or_ge j s.length with h5 | h5
           · omega
           · exfalso
             obtain rfl : j = s.length := by omega
             subst e
             obtain ⟨B, e1, e2⟩ := h1
             obtain ⟨B', e3, e4⟩ := hat
             rw [e1] at e3; cases e3
             rw [e2] at e4; cases e4
             exact hne rfl
         · exact .inr h4
       · unfold takes at hx
         obtain ⟨y, hy, ey⟩ := g.headB_at hat
         rw [hy] at hx
         simp only [List.mem_append] at hx
         have hop : y.op ≠ 21 := fun e => hh (by rw [ey, e]; rfl)
         have : Sees u x b s.length := by
           rcases hx with hx | hx
           · exact g.seesV v b s.length y hat hy hop x hx
           · split at hx
             · rename_i hlv
               unfold stFrames at hx
               split at hx
               · rename_i fs hf
                 exact g.seesS v b s.length y fs hat hy hlv hf x hx
               · cases hx
             · cases hx
         obtain ⟨c, j, h1, h2⟩ := this
         rcases h2 with ⟨rfl, h2⟩ | ⟨h2, h3⟩
         · exact ⟨c, j, h1, Domi.self _ _, fun _ => .inl (by omega)⟩
         · exact ⟨c, j, h1, h3, fun e => absurd e h2⟩
 refine key (valsOf u b) [] O (by simp) (fun w hw=>?_) w h
 obtain ⟨c,j,h1,h2⟩:=hO w hw
 refine ⟨c,j,h1,h2,fun e=> .inl ?_⟩
 subst e
 have:=valsOf_get.2 h1
 exact (List.getElem?_eq_some_iff.1 this).1
theorem Good.above {In Out:Nat→Nat→Prop} (h:Alive u (headIn u) In Out) {b w:Nat} (hw:In b w):Above u b w:=
 h.least (Above u) (fun _ _ _ hw=>g.backAbove (fun _ hx=>g.endAbove (fun _ _ h=>h) hx) hw) b w hw
variable {In Out:Nat→Nat→Prop} (h:Alive u (headIn u) In Out)
include h
theorem Good.inOut {b p v c k:Nat} (hp:b∈next u p) (hi:In b v) (hat:At u v c k) (hne:c≠b∨¬opOf u v 21):Out p v:=by
 obtain ⟨hpl,hbl,hb0⟩:=g.nextLt hp
 refine (h.out p v hpl).2 (.inl (ln_mem hp hi fun t ht hH=>?_))
 obtain ⟨j,hj⟩:=valsOf_at.1 hH.1
 obtain ⟨rfl,rfl⟩:=g.at2 _ _ _ _ _ hat hj
 obtain ⟨x,hx,ex⟩:=g.headB_at hat
 obtain ⟨_,hcl,hc0⟩:=g.nextLt ht
 have hop:x.op=21:=by
  have:=hH.2
  rw [ex] at this
  simp only [isHead,Bool.or_eq_true,beq_iff_eq] at this
  rcases this with h1 | h1
  ·exact absurd (g.par _ _ _ _ hat hx h1) hc0
  ·exact h1
 have hcb:c≠b:=by
  rcases hne with h1 | h1
  ·exact h1
  ·exact absurd ⟨x,hx,hop⟩ h1
 obtain ⟨c',j',h1,h2,_⟩:=g.above h hi
 obtain ⟨rfl,rfl⟩:=g.at2 _ _ _ _ _ hat h1
 obtain ⟨B,hB⟩:∃B,u.blocks[p]? = some B:=⟨_,List.getElem?_eq_getElem hpl⟩
 have hnx:next u p=B.next:=by unfold next;rw [hB]
 have h2l:B.fin=2:=by
  rcases g.fin p B hB with ⟨_,h3⟩ | ⟨h3,_⟩ | ⟨_,h3,_⟩
  ·exfalso
   rw [hnx] at hp ht
   obtain ⟨z,hz⟩:∃z,B.next=[z]:=by
    match hq:B.next,h3 with
    | [z],_=>exact ⟨z,rfl⟩
   rw [hz] at hp ht
   simp at hp ht
   omega
  ·exact h3
  ·rw [hnx,h3] at hp;cases hp
 have hlen:=g.crit p B hB h2l c (by rw [←hnx];exact ht)
 refine g.alone hc0 (fun q hq=>?_) hpl (domStep h2 hcb hp)
 have m1:=mem_ahead.2 hq
 have m2:=mem_ahead.2 ht
 obtain ⟨z,hz⟩:∃z,ahead u c=[z]:=by
  match hq:ahead u c,hlen with
  | [z],_=>exact ⟨z,rfl⟩
 rw [hz] at m1 m2
 simp at m1 m2
 omega
theorem Good.outIn {b v c k:Nat} (hb:b<u.blocks.length) (ho:Out b v) (hat:At u v c k) (hne:c≠b):In b v:=by
 refine (h.inn b v hb).2 (bk_keep ho fun hm=>hne ?_)
 obtain ⟨j,hj⟩:=valsOf_at.1 (List.mem_reverse.1 hm)
 exact (g.at2 _ _ _ _ _ hat hj).1
theorem Good.useIn {b v k w c j:Nat} {x:Vl} (hat:At u v b k) (hx:u.vals[v]? = some x) (hop:x.op≠21) (hw:w∈uses x) (hwa:At u w c j) (hne:c≠b):In b w:=by
 have hb:b<u.blocks.length:=by obtain ⟨B,h1,_⟩:=hat;exact (List.getElem?_eq_some_iff.1 h1).1
 refine (h.inn b w hb).2 (bk_use (v:=v) (List.mem_reverse.2 (valsOf_at.2 ⟨k,hat⟩)) (g.pw b) ?_ ?_ fun hm=>hne ?_)
 ·unfold headB
  rw [hx]
  show ¬isHead x.op=true
  unfold isHead
  rw [Bool.or_eq_true,beq_iff_eq,beq_iff_eq]
  intro e
  rcases e with e | e
  ·unfold uses at hw
   rw [e] at hw
   simp [two,oneP] at hw
  ·exact hop e
 ·unfold takes
  rw [hx]
  simp [hw]
 ·obtain ⟨i,hi⟩:=valsOf_at.1 (List.mem_reverse.1 hm)
  exact (g.at2 _ _ _ _ _ hwa hi).1
end
end Go.Proofs.YtiepamfpilhcjaaDoor.Un
