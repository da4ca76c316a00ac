/- Parts of the proof. -/
import Derived.Test.YtiepamfpilhcjaaDoorM07
namespace Go.Proofs.YtiepamfpilhcjaaDoor.Hx
abbrev Rho:=Nat→V
def Ev (C:Cfg) (f:Nat) (args:List V) (h:Hp) (v:V) (h' : Hp):Prop:=∃m d,callN C m d f args h=some (v,h')
inductive Wp (C:Cfg) (n:Nat) (c:Code) (Q:X→Rho→Hp→Prop) (ρ:Rho) (h:Hp):Prop
 | mk (hw:∃m d x ρ' h',(codeC n c).f (callN C m d) m (.fn ρ []) h=some (x, .fn ρ' [],h')∧Q x ρ' h')
def oP {α:Type} (x:Option α) (k:α→Prop):Prop:=Option.rec (motive:=fun _=>Prop) False k x
theorem oP_some {α:Type} (a:α) (k:α→Prop):oP (some a) k=k a:=rfl
theorem oP_eq {α:Type} {x:Option α} {k:α→Prop} : oP x k↔∃a,x=some a∧k a:=by
 cases x with
 | none=>exact ⟨fun h=>h.elim,fun ⟨_,h,_⟩=>nomatch h⟩
 | some a=>exact ⟨fun h=>⟨a,rfl,h⟩,fun ⟨_,h,h'⟩=>by cases h;exact h'⟩
theorem oP_mk {α:Type} {x:Option α} {k:α→Prop} {a:α} (h:x=some a) (h' : k a):oP x k:=by subst h;exact h'
def cP (C:Cfg) (f:Nat) (args:List V) (h:Hp) (k:V→Hp→Prop):Prop:=∃v h',Ev C f args h v h'∧k v h'
def bP (v:V) (a b:Prop):Prop:=match v with
 | .bool x=>Bool.rec (motive:=fun _=>Prop) b a x
 | _=>False
theorem bP_bool (x:Bool) (a b:Prop):bP (.bool x) a b=if x=true then a else b:=by cases x <;> rfl
section
variable {C:Cfg} {n:Nat} {Q:X→Rho→Hp→Prop} {ρ:Rho} {h:Hp}
theorem Wp.mono {c:Code} {Q' : X→Rho→Hp→Prop} (hw:Wp C n c Q ρ h) (hq:∀x ρ h,Q x ρ h→Q' x ρ h):Wp C n c Q' ρ h:=by
 obtain ⟨m,d,x,ρ',h',h1,h2⟩:=hw
 exact ⟨m,d,x,ρ',h',h1,hq _ _ _ h2⟩
theorem Wp.skip (hq:Q .normal ρ h):Wp C n .skip Q ρ h:=⟨0,0, .normal,ρ,h,rfl,hq⟩
theorem Wp.ret (hq:Q .ret ρ h):Wp C n .ret Q ρ h:=⟨0,0, .ret,ρ,h,rfl,hq⟩
theorem Wp.exit {id:Nat} (hq:Q (.exit id) ρ h):Wp C n (.exit id) Q ρ h:=⟨0,0, .exit id,ρ,h,rfl,hq⟩
def andThen (k:Rho→Hp→Prop) (Q:X→Rho→Hp→Prop):X→Rho→Hp→Prop
 | .normal,ρ,h=>k ρ h
 | x,ρ,h=>Q x ρ h
theorem callN_lift {m d m' d' : Nat} (hm:m≤m') (hd:d≤d') {c:Code} {t:Tm} {h:Hp} {r:X×Tm×Hp} (hv:(codeC n c).f (callN C m d) m t h=some r):(codeC n c).f (callN C m' d') m' t h=some r:=
 codeC_mono (callN_mono hm hd) hm c hv
theorem Wp.seq {a b:Code} (hw:Wp C n a (andThen (Wp C n b Q) Q) ρ h):Wp C n (.seq a b) Q ρ h:=by
 obtain ⟨m,d,x,ρ',h',h1,h2⟩:=hw
 cases x with
 | normal =>
   obtain ⟨m', d', x', ρ'', h'', h3, h4⟩ := h2
   refine ⟨max m m', max d d', x', ρ'', h'', ?_, h4⟩
   simp only [codeC, callN_lift (Nat.le_max_left m m') (Nat.le_max_left d d') h1, seqK]
   exact callN_lift (Nat.le_max_right m m') (Nat.le_max_right d d') h3
 | exit id=>exact ⟨m,d, .exit id,ρ',h',by simp only [codeC,h1,seqK],h2⟩
 | ret=>exact ⟨m,d, .ret,ρ',h',by simp only [codeC,h1,seqK],h2⟩
theorem Wp.cond {e:Operand} {a b:Code} (hw:oP ((evO e).f (.fn ρ []) h) fun v=>bP v (Wp C n a Q ρ h) (Wp C n b Q ρ h)):Wp C n (.cond e a b) Q ρ h:=by
 obtain ⟨v,hv,hw⟩:=oP_eq.1 hw
 unfold bP at hw
 split at hw
 ·rename_i x
  cases x with
  | true =>
    obtain ⟨m, d, x, ρ', h', h1, h2⟩ := hw
    exact ⟨m, d, x, ρ', h', by simp only [codeC, oB_eq]; exact ⟨_, hv, h1⟩, h2⟩
  | false =>
    obtain ⟨m, d, x, ρ', h', h1, h2⟩ := hw
    exact ⟨m, d, x, ρ', h', by simp only [codeC, oB_eq]; exact ⟨_, hv, h1⟩, h2⟩
 ·exact hw.elim
def blockQ (id:Nat) (Q:X→Rho→Hp→Prop):X→Rho→Hp→Prop
 | .exit i,ρ,h=>Bool.rec (motive:=fun _=>Prop) (Q (.exit i) ρ h) (Q .normal ρ h) (Nat.beq i id)
 | x,ρ,h=>Q x ρ h
theorem Wp.block {id:Nat} {c:Code} (hw:Wp C n c (blockQ id Q) ρ h):Wp C n (.block id c) Q ρ h:=by
 obtain ⟨m,d,x,ρ',h',h1,h2⟩:=hw
 cases x with
 | normal=>exact ⟨m,d, .normal,ρ',h',by simp only [codeC,h1,blockK],h2⟩
 | ret=>exact ⟨m,d, .ret,ρ',h',by simp only [codeC,h1,blockK],h2⟩
 | exit i =>
   simp only [blockQ] at h2
   cases hb : Nat.beq i id with
   | true => rw [hb] at h2; exact ⟨m, d, .normal, ρ', h', by simp only [codeC, h1, blockK, hb], h2⟩
   | false => rw [hb] at h2; exact ⟨m, d, .exit i, ρ', h', by simp only [codeC, h1, blockK, hb], h2⟩
theorem Wp.loop {c:Code} (hw:Wp C n c (andThen (Wp C n (.loop c) Q) Q) ρ h):Wp C n (.loop c) Q ρ h:=by
 obtain ⟨m,d,x,ρ',h',h1,h2⟩:=hw
 cases x with
 | normal =>
   obtain ⟨m', d', x', ρ'', h'', h3, h4⟩ := h2
   refine ⟨max m m' + 1, max d d', x', ρ'', h'', ?_, h4⟩
   have e1 := callN_lift (C := C) (n := n) (Nat.le_trans (Nat.le_max_left m m') (Nat.le_succ _)) (Nat.le_max_left d d') h1
   simp only [codeC] at h3 ⊢
   show seqK _ _ = _
   simp only [e1, seqK]
   have h5 : (codeC n (.loop c)).f (callN C m' d') m' (.fn ρ' []) h' = some (x', .fn ρ'' [], h'') := h3
   have key : ∀ (k k' : Nat) (t : Tm) (h : Hp) (r : X × Tm × Hp), k ≤ k' → loopN (fun t h => (codeC n c).f (callN C m' d') m' t h) k t h = some r →
       loopN (fun t h => (codeC n c).f (callN C (max m m' + 1) (max d d')) (max m m' + 1) t h) k' t h = some r := by
     intro k
     induction k with
     | zero => intro k' t h r _ hv; cases hv
     | succ k ih =>
       intro k' t h r hk hv
       obtain ⟨k', rfl⟩ : ∃ j, k' = j + 1 := ⟨k' - 1, by omega⟩
       have hv' : seqK ((codeC n c).f (callN C m' d') m' t h) (loopN (fun t h => (codeC n c).f (callN C m' d') m' t h) k) = some r := hv
       show seqK ((codeC n c).f (callN C (max m m' + 1) (max d d')) (max m m' + 1) t h) (loopN (fun t h => (codeC n c).f (callN C (max m m' + 1) (max d d')) (max m m' + 1) t h) k') = some r
       have hl : ∀ {r}, (codeC n c).f (callN C m' d') m' t h = some r → (codeC n c).f (callN C (max m m' + 1) (max d d')) (max m m' + 1) t h = some r :=
         fun hr => callN_lift (Nat.le_trans (Nat.le_max_right m m') (Nat.le_succ _)) (Nat.le_max_right d d') hr
       rcases seqK_eq hv' with ⟨t1, h1, e1, e2⟩ | ⟨e1, e2⟩
       · rw [hl e1]; exact ih k' t1 h1 r (by omega) e2
       · rw [hl e1]
         obtain ⟨x', t', h'⟩ := r
         cases x' with
         | normal => exact absurd rfl e2
         | exit id => rfl
         | ret => rfl
   exact key m' (max m m') _ _ _ (Nat.le_max_right m m') h3
 | exit id =>
   refine ⟨m + 1, d, .exit id, ρ', h', ?_, h2⟩
   have e1 := callN_lift (C := C) (n := n) (Nat.le_succ m) (Nat.le_refl d) h1
   simp only [codeC]
   show seqK _ _ = _
   simp only [e1, seqK]
 | ret =>
   refine ⟨m + 1, d, .ret, ρ', h', ?_, h2⟩
   have e1 := callN_lift (C := C) (n := n) (Nat.le_succ m) (Nat.le_refl d) h1
   simp only [codeC]
   show seqK _ _ = _
   simp only [e1, seqK]
theorem Wp.loopI {c:Code} (I:Nat→Rho→Hp→Prop) (hI:∀k ρ h,I k ρ h→Wp C n c (andThen (fun ρ' h'=>∃k',k' < k∧I k' ρ' h') Q) ρ h) {k:Nat} (h0:I k ρ h):Wp C n (.loop c) Q ρ h:=by
 induction k using Nat.strongRecOn generalizing ρ h with
 | _ k ih =>
   refine .loop ((hI k ρ h h0).mono fun x ρ' h' hq => ?_)
   cases x with
   | normal => obtain ⟨k', hk, hi⟩ := hq; exact ih k' hk hi
   | exit id => exact hq
   | ret => exact hq
def dstR (n:Nat) (o:Oper) (K:Rho→Hp→Prop):V→Rho→Hp→Prop:=match o.dst with
 | none=>fun _ ρ h=>K ρ h
 | some d => match Nat.blt d n with
   | true => fun v ρ h => K (rset ρ d v) h
   | false => fun _ _ _ => False
def valOf:R→Option (V×Hp)
 | .val v h=>some (v,h)
 | .call _ _=>none
def callOf:R→Option (Nat×List V)
 | .call f args=>some (f,args)
 | .val _ _=>none
def isCall (o:Oper):Bool:=match o.op with
 | .call c => match c.callee with
   | .value _ | .invoke _ _ => true
   | .builtin _ => false
 | _=>false
def wrR (C:Cfg) (o:Oper) (K:V→Rho→Hp→Prop):Rho→Hp→Prop:=match isCall o with
 | true=>fun ρ h=>oP (oB ((writeC o).f (.fn ρ []) h) callOf) fun x=>cP C x.1 x.2 h fun v h'=>K v ρ h'
 | false=>fun ρ h=>oP (oB ((writeC o).f (.fn ρ []) h) valOf) fun x=>K x.1 ρ x.2
def opR (C:Cfg) (o:Oper) (K:V→Rho→Hp→Prop):Rho→Hp→Prop:=match cls o with
 | 0=>fun ρ h=>oP ((pureC o).f (.fn ρ []) h) fun v=>K v ρ h
 | 1=>fun ρ h=>oP ((allocC o).f (.fn ρ [])) fun r=>K (r.2 h.next) ρ (h.new r.1)
 | _=>wrR C o K
noncomputable def gV (b:Bool) (x:Option V):Option V:=Bool.rec (motive:=fun _=>Option V) (some .undef) x b
noncomputable def gH (b:Bool) (h:Hp) (x:Option (V×Hp)):Option (V×Hp):=Bool.rec (motive:=fun _=>Option (V×Hp)) (some (.undef,h)) x b
noncomputable def gC (b:Bool) (x:Option (Nat×List V)):Option (Option (Nat×List V)):=Bool.rec (motive:=fun _=>Option (Option (Nat×List V))) (some none) (oB x fun y=>some (some y)) b
def cgP (C:Cfg) (x:Option (Nat×List V)) (h:Hp) (K:V→Hp→Prop):Prop:=match x with
 | none=>K .undef h
 | some y=>cP C y.1 y.2 h K
def gdR (C:Cfg) (o:Oper) (b:Bool) (K:V→Rho→Hp→Prop) (ρ:Rho) (h:Hp):Prop:=match cls o with
 | 0=>oP (gV b ((pureC o).f (.fn ρ []) h)) fun v=>K v ρ h
 | 1=>oP (gH b h (oB ((allocC o).f (.fn ρ [])) fun r=>some (r.2 h.next,h.new r.1))) fun x=>K x.1 ρ x.2
 | _ => match isCall o with
   | true => oP (gC b (oB ((writeC o).f (.fn ρ []) h) callOf)) fun x => cgP C x h fun v h' => K v ρ h'
   | false => oP (gH b h (oB ((writeC o).f (.fn ρ []) h) valOf)) fun x => K x.1 ρ x.2
def stepR (C:Cfg) (n:Nat) (all:List Oper) (o:Oper) (K:Rho→Hp→Prop):Rho→Hp→Prop:=match deferC o with
 | some _=>fun _ _=>False
 | none => match wantC n all o with
   | none => opR C o (dstR n o K)
   | some g => fun ρ h => oP (g.f (.fn ρ [])) fun b => gdR C o b (dstR n o K) ρ h
noncomputable def regR (C:Cfg) (n:Nat) (all:List Oper) (K:Rho→Hp→Prop) (os:List Oper):Rho→Hp→Prop:=
 List.rec (motive:=fun _=>Rho→Hp→Prop) K (fun o _ ih=>stepR C n all o ih) os
theorem regR_cons (C:Cfg) (n:Nat) (all:List Oper) (K:Rho→Hp→Prop) (o:Oper) (os:List Oper):regR C n all K (o::os)=stepR C n all o (regR C n all K os):=rfl
theorem dstR_of {o:Oper} {K:Rho→Hp→Prop} {v:V} (hk:dstR n o K v ρ h):∃d,dstC n o=some d∧∃ρ',d.f (.fn ρ []) v = .fn ρ' []∧K ρ' h:=by
 unfold dstR at hk
 unfold dstC
 cases ho:o.dst with
 | none=>rw [ho] at hk;exact ⟨_,rfl,ρ,rfl,hk⟩
 | some d =>
   rw [ho] at hk
   simp only at hk ⊢
   cases hb : Nat.blt d n with
   | true => rw [hb] at hk; exact ⟨_, rfl, _, rfl, hk⟩
   | false => rw [hb] at hk; exact hk.elim
def OpGo (C:Cfg) (o:Oper) (K:V→Rho→Hp→Prop) (ρ:Rho) (h:Hp):Prop:=∃m d v h',(opC o).f (callN C m d) (.fn ρ []) h=some (v,h')∧K v ρ h'
theorem wrR_of {o:Oper} {K:V→Rho→Hp→Prop} (hk:wrR C o K ρ h):(∃v h',(writeC o).f (.fn ρ []) h=some (.val v h')∧K v ρ h')∨∃f args,(writeC o).f (.fn ρ []) h=some (.call f args)∧cP C f args h fun v h'=>K v ρ h':=by
 unfold wrR at hk
 cases hb:isCall o
 all_goals rw [hb] at hk
 rotate_left
 ·obtain ⟨x,h1,h2⟩:=oP_eq.1 hk
  rw [oB_eq] at h1
  obtain ⟨r,h3,h4⟩:=h1
  cases r with
  | val v h'=>cases h4
  | call f args=>cases h4;exact .inr ⟨f,args,h3,h2⟩
 ·obtain ⟨x,h1,h2⟩:=oP_eq.1 hk
  rw [oB_eq] at h1
  obtain ⟨r,h3,h4⟩:=h1
  cases r with
  | val v h'=>cases h4;exact .inl ⟨v,h',h3,h2⟩
  | call f args=>cases h4
theorem opR_of {o:Oper} {K:V→Rho→Hp→Prop} (hk:opR C o K ρ h):OpGo C o K ρ h:=by
 by_cases hc0:cls o=0
 ·have hk' : oP ((pureC o).f (.fn ρ []) h) (fun v=>K v ρ h):=by unfold opR at hk;rw [hc0] at hk;exact hk
  obtain ⟨v,h1,h2⟩:=oP_eq.1 hk'
  exact ⟨0,0,v,h,by unfold opC;rw [hc0];simp only [h1,oB],h2⟩
 ·by_cases hc1:cls o=1
  ·have hk' : oP ((allocC o).f (.fn ρ [])) (fun r=>K (r.2 h.next) ρ (h.new r.1)):=by unfold opR at hk;rw [hc1] at hk;exact hk
   obtain ⟨r,h1,h2⟩:=oP_eq.1 hk'
   exact ⟨0,0,_,_,by unfold opC;rw [hc1];simp only [h1,oB],h2⟩
  ·have hk' : wrR C o K ρ h:=by
    unfold opR at hk
    generalize cls o=c at hk hc0 hc1
    rcases c with _ | _ | c
    ·exact absurd rfl hc0
    ·exact absurd rfl hc1
    ·exact hk
   have hop:∀call,(opC o).f call (.fn ρ []) h=oB ((writeC o).f (.fn ρ []) h) fun r=>match r with
     | .val v h=>some (v,h)
     | .call f args=>call f args h:=by
    intro call
    unfold opC
    split
    ·exact absurd (by assumption) hc0
    ·exact absurd (by assumption) hc1
    ·rfl
   rcases wrR_of hk' with ⟨v,h',h1,h2⟩ | ⟨f,args,h1,v,h',⟨m,d,h3⟩,h4⟩
   ·exact ⟨0,0,v,h',by rw [hop];simp only [h1,oB],h2⟩
   ·exact ⟨m,d,v,h',by rw [hop];simp only [h1,oB];exact h3,h4⟩
theorem gdR_of {o:Oper} {b:Bool} {K:V→Rho→Hp→Prop} (hk:gdR C o b K ρ h):(b=true∧OpGo C o K ρ h)∨(b=false∧K .undef ρ h):=by
 unfold gdR at hk
 by_cases hc0:cls o=0
 ·rw [hc0] at hk
  obtain ⟨v,h1,h2⟩:=oP_eq.1 hk
  cases b with
  | true=>exact .inl ⟨rfl,opR_of (by unfold opR;rw [hc0];exact oP_mk h1 h2)⟩
  | false=>cases h1;exact .inr ⟨rfl,h2⟩
 ·by_cases hc1:cls o=1
  ·rw [hc1] at hk
   obtain ⟨v,h1,h2⟩:=oP_eq.1 hk
   cases b with
   | true =>
     obtain ⟨r, h3, h4⟩ := oB_eq.1 (show oB _ _ = _ from h1)
     cases h4
     exact .inl ⟨rfl, opR_of (by unfold opR; rw [hc1]; exact oP_mk h3 h2)⟩
   | false=>cases h1;exact .inr ⟨rfl,h2⟩
  ·have hw:∀K,wrR C o K ρ h→opR C o K ρ h:=by
    intro K hk
    unfold opR
    generalize cls o=c at hc0 hc1
    rcases c with _ | _ | c
    ·exact absurd rfl hc0
    ·exact absurd rfl hc1
    ·exact hk
   have hk' : (match isCall o with
     | true=>oP (gC b (oB ((writeC o).f (.fn ρ []) h) callOf)) fun x=>cgP C x h fun v h'=>K v ρ h'
     | false=>oP (gH b h (oB ((writeC o).f (.fn ρ []) h) valOf)) fun x=>K x.1 ρ x.2):=by
    generalize cls o=c at hk hc0 hc1
    rcases c with _ | _ | c
    ·exact absurd rfl hc0
    ·exact absurd rfl hc1
    ·exact hk
   cases hi:isCall o with
   | true =>
     rw [hi] at hk'
     obtain ⟨x, h1, h2⟩ := oP_eq.1 hk'
     cases b with
     | true =>
       obtain ⟨y, h3, h4⟩ := oB_eq.1 (show oB _ _ = _ from h1)
       cases h4
       exact .inl ⟨rfl, opR_of (hw _ (by unfold wrR; rw [hi]; exact oP_mk h3 h2))⟩
     | false => cases h1; exact .inr ⟨rfl, h2⟩
   | false =>
     rw [hi] at hk'
     obtain ⟨x, h1, h2⟩ := oP_eq.1 hk'
     cases b with
     | true => exact .inl ⟨rfl, opR_of (hw _ (by unfold wrR; rw [hi]; exact oP_mk h1 h2))⟩
     | false => cases h1; exact .inr ⟨rfl, h2⟩
theorem regionC_lift {m d m' d' : Nat} (hm:m≤m') (hd:d≤d') {all os:List Oper} {t:Tm} {h:Hp} {r:Tm×Hp} (hv:(regionC n all os).f (callN C m d) t h=some r):(regionC n all os).f (callN C m' d') t h=some r:=
 regionC_mono (callN_mono hm hd) os hv
theorem regR_of {all:List Oper} {K:Rho→Hp→Prop} : ∀(os:List Oper) {ρ:Rho} {h:Hp},regR C n all K os ρ h→∃m d ρ' h',(regionC n all os).f (callN C m d) (.fn ρ []) h=some (.fn ρ' [],h')∧K ρ' h'
 | [],ρ,h,hk=>⟨0,0,ρ,h,rfl,hk⟩
 | o :: os, ρ, h, hk => by
   rw [regR_cons] at hk
   unfold stepR at hk
   cases hq : deferC o with
   | some q => rw [hq] at hk; exact hk.elim
   | none =>
     rw [hq] at hk
     simp only at hk
     have run : ∀ {ρ h}, OpGo C o (dstR n o (regR C n all K os)) ρ h → ∃ d, dstC n o = some d ∧ ∃ m dd v h1, (opC o).f (callN C m dd) (.fn ρ []) h = some (v, h1) ∧ ∃ ρ1, d.f (.fn ρ []) v = .fn ρ1 [] ∧
         ∃ ρ' h', (regionC n all os).f (callN C m dd) (.fn ρ1 []) h1 = some (.fn ρ' [], h') ∧ K ρ' h' := by
       intro ρ h hk
       obtain ⟨m, dd, v, h1, h2, h3⟩ := hk
       obtain ⟨d, h4, ρ1, h5, h6⟩ := dstR_of h3
       obtain ⟨m', d', ρ', h', h7, h8⟩ := regR_of os h6
       exact ⟨d, h4, max m m', max dd d', v, h1, opC_mono (callN_mono (Nat.le_max_left _ _) (Nat.le_max_left _ _)) h2, ρ1, h5, ρ', h', regionC_lift (Nat.le_max_right _ _) (Nat.le_max_right _ _) h7, h8⟩
     cases hw : wantC n all o with
     | none =>
       rw [hw] at hk
       obtain ⟨d, h4, m, dd, v, h1, h2, ρ1, h5, ρ', h', h7, h8⟩ := run (opR_of hk)
       refine ⟨m, dd, ρ', h', ?_, h8⟩
       simp only [regionC, stepC, h4, hw, hq, h2, oB, h5]
       exact h7
     | some g =>
       rw [hw] at hk
       obtain ⟨b, hb, hk⟩ := oP_eq.1 hk
       rcases gdR_of hk with ⟨hb1, hk2⟩ | ⟨hb1, hk2⟩ <;> subst hb1
       · obtain ⟨d, h4, m, dd, v, h1, h2, ρ1, h5, ρ', h', h7, h8⟩ := run hk2
         refine ⟨m, dd, ρ', h', ?_, h8⟩
         simp only [regionC, stepC, h4, hw, hb, h2, oB, h5]
         exact h7
       · obtain ⟨d, h4, ρ1, h5, h6⟩ := dstR_of hk2
         obtain ⟨m', d', ρ', h', h7, h8⟩ := regR_of os h6
         refine ⟨m', d', ρ', h', ?_, h8⟩
         simp only [regionC, stepC, h4, hw, hb, oB, h5]
         exact h7
theorem Wp.region {id:Nat} {ops:Array Oper} (hw:regR C n ops.toList (fun ρ h=>Q .normal ρ h) ops.toList ρ h):Wp C n (.region id ops false) Q ρ h:=by
 obtain ⟨m,d,ρ',h',h1,h2⟩:=regR_of _ hw
 exact ⟨m,d, .normal,ρ',h',by simp only [codeC,h1,oB],h2⟩
end
end Go.Proofs.YtiepamfpilhcjaaDoor.Hx
namespace Go.Proofs.YtiepamfpilhcjaaDoor.Hx
section
variable {C:Cfg} {n:Nat} {Q:X→Rho→Hp→Prop} {ρ:Rho} {h:Hp}
def holdP (h:Hp) (r:Rec):Prop:=match r.made with
 | none=>(pureC r.it.o).f r.t h=some r.v
 | some (l,ob)=>h.get l=some ob∧O.beq ob ob=true
def stabP (k:Nat) (h:Hp):List (Bool×Rec)→Prop→Prop
 | [],K=>K
 | r::rs,K=>Bool.rec (motive:=fun _=>Prop) (Bool.rec (motive:=fun _=>Prop) True (holdP h r.2) r.1∧stabP k h rs K) (stabP k h rs K) (Nat.blt r.2.last k)
def recs (rs:List (Bool×Rec)):List Rec:=(rs.filter (·.1)).map (·.2)
def itR (C:Cfg) (n:Nat) (all:List Oper) (ws:List It) (a:It) (ih:Nat→Rho→Hp→List (Bool×Rec)→Prop) (k:Nat):Rho→Hp→List (Bool×Rec)→Prop:=match cls a.o with
  | 0 => match wantC n all a.o with
    | none => fun ρ h rs => oP ((pureC a.o).f (.fn ρ []) h) fun v => dstR n a.o (fun ρ' h => ih k ρ' h ((true, { it := a, t := .fn ρ [], v, made := none, last := late ws a }) :: rs)) v ρ h
    | some g => fun ρ h rs => oP (g.f (.fn ρ [])) fun b => oP (gV b ((pureC a.o).f (.fn ρ []) h)) fun v =>
        dstR n a.o (fun ρ' h => ih k ρ' h ((b, { it := a, t := .fn ρ [], v, made := none, last := late ws a }) :: rs)) v ρ h
  | 1 => match wantC n all a.o with
    | none => fun ρ h rs => oP ((allocC a.o).f (.fn ρ [])) fun r => dstR n a.o (fun ρ' h' => ih k ρ' h' ((true, { it := a, t := .fn ρ [], v := r.2 h.next, made := some (h.next, r.1), last := late ws a }) :: rs)) (r.2 h.next) ρ (h.new r.1)
    | some _ => fun _ _ _ => False
  | _ => match wantC n all a.o with
    | none => fun ρ h rs => stabP k h rs (wrR C a.o (fun v ρ h' => h.next ≤ h'.next ∧ dstR n a.o (fun ρ h => ih (Nat.succ k) ρ h rs) v ρ h') ρ h)
    | some g => match isCall a.o with
      | true => fun ρ h rs => stabP k h rs (oP (g.f (.fn ρ [])) fun b => oP (gC b (oB ((writeC a.o).f (.fn ρ []) h) callOf)) fun x => cgP C x h fun v h' => h.next ≤ h'.next ∧ dstR n a.o (fun ρ h => ih (Nat.succ k) ρ h rs) v ρ h')
      | false => fun _ _ _ => False
noncomputable def seqR (C:Cfg) (n:Nat) (all:List Oper) (ws:List It) (K:Rho→Hp→Prop) (l:List It):Nat→Rho→Hp→List (Bool×Rec)→Prop:=
 List.rec (motive:=fun _=>Nat→Rho→Hp→List (Bool×Rec)→Prop) (fun k ρ h rs=>stabP k h rs (K ρ h)) (fun a _ ih k=>itR C n all ws a ih k) l
theorem seqR_cons (C:Cfg) (n:Nat) (all:List Oper) (ws:List It) (K:Rho→Hp→Prop) (a:It) (l:List It) (k:Nat):seqR C n all ws K (a::l) k=itR C n all ws a (seqR C n all ws K l) k:=rfl
theorem stabP_of {k:Nat} : ∀{rs:List (Bool×Rec)} {K:Prop},stabP k h rs K→stable k h (recs rs)=true∧K
 | [],K,hk=>⟨rfl,hk⟩
 | (b, r) :: rs, K, hk => by
   simp only [stabP] at hk
   have hrest : ∀ {K : Prop}, stabP k h rs K → (b = true → (Nat.blt r.last k || holdsAt h r) = true) → stable k h (recs ((b, r) :: rs)) = true ∧ K := by
     intro K hk hb
     obtain ⟨h1, h2⟩ := stabP_of hk
     refine ⟨?_, h2⟩
     cases b with
     | false => exact h1
     | true =>
       show stable k h (r :: recs rs) = true
       unfold stable
       rw [List.all_cons, hb rfl, Bool.true_and]
       exact h1
   cases hb : Nat.blt r.last k with
   | true => rw [hb] at hk; exact hrest hk (fun _ => by rw [hb]; rfl)
   | false =>
     rw [hb] at hk
     obtain ⟨h0, hk⟩ := hk
     refine hrest hk (fun e => ?_)
     subst e
     rw [hb, Bool.false_or]
     have h0 : holdP h r := h0
     unfold holdP at h0
     unfold holdsAt
     cases hm : r.made with
     | none => rw [hm] at h0; simp only at h0 ⊢; rw [h0]; exact V.beq_self _
     | some x =>
       obtain ⟨l, ob⟩ := x
       rw [hm] at h0
       simp only at h0 ⊢
       rw [h0.1]
       exact h0.2
theorem gV_of {b:Bool} {x:Option V} {v:V} (h:gV b x=some v):(b=true∧x=some v)∨(b=false∧v = .undef):=by
 cases b with
 | true=>exact .inl ⟨rfl,h⟩
 | false=>cases h;exact .inr ⟨rfl,rfl⟩
theorem dstC_of {o:Oper} {d:DF} (hd:dstC n o=some d) {K:Rho→Hp→Prop} {v:V} (hk:dstR n o K v ρ h):∃ρ',d.f (.fn ρ []) v = .fn ρ' []∧K ρ' h:=by
 obtain ⟨d',h1,h2⟩:=dstR_of hk
 rw [hd] at h1;cases h1
 exact h2
theorem seqC_lift {m d m' d' : Nat} (hm:m≤m') (hd:d≤d') {all:List Oper} {ws l:List It} {k:Nat} {t:Tm} {h:Hp} {rs:List Rec} {r:Tm×Hp} (hv:(seqC n all ws l k).f (callN C m d) t h rs=some r) :
  (seqC n all ws l k).f (callN C m' d') t h rs=some r:=seqC_mono (callN_mono hm hd) l k hv
theorem seqR_of {all:List Oper} {ws:List It} {K:Rho→Hp→Prop} : ∀(l:List It) (k:Nat) {ρ:Rho} {h:Hp} {rs:List (Bool×Rec)},seqR C n all ws K l k ρ h rs→
  ∃m d ρ' h',(seqC n all ws l k).f (callN C m d) (.fn ρ []) h (recs rs)=some (.fn ρ' [],h')∧K ρ' h'
 | [], k, ρ, h, rs, hk => by
   obtain ⟨h1, h2⟩ := stabP_of hk
   exact ⟨0, 0, ρ, h, by simp only [seqC, h1, bB], h2⟩
 | a :: l, k, ρ, h, rs, hk => by
   have hsome : ∀ {K : Rho → Hp → Prop} {v : V} {ρ : Rho} {h : Hp}, dstR n a.o K v ρ h → ∃ d, dstC n a.o = some d := fun hk => let ⟨d, h1, _⟩ := dstR_of hk; ⟨d, h1⟩
   have hsq : ∀ {d}, dstC n a.o = some d → ∀ call t h rs, (seqC n all ws (a :: l) k).f call t h rs = (match cls a.o with
       | 0 => pureS n all ws a d (seqC n all ws l k)
       | 1 => allocS n all ws a d (seqC n all ws l k)
       | _ => writeS n all k a d (seqC n all ws l (Nat.succ k))).f call t h rs := by
     intro d hd call t h rs
     conv => lhs; unfold seqC
     rw [hd]
     simp only
     generalize cls a.o = c
     rcases c with _ | _ | c <;> rfl
   have hop2 : ∀ call t h, cls a.o ≠ 0 → cls a.o ≠ 1 → (opC a.o).f call t h = oB ((writeC a.o).f t h) fun r => match r with
       | .val v h => some (v, h)
       | .call f args => call f args h := by
     intro call t h h0 h1
     unfold opC
     split
     · exact absurd (by assumption) h0
     · exact absurd (by assumption) h1
     · rfl
   have hw0 : ∀ t, wantC n all a.o = none → wants n all a.o t = some true := fun t h => by unfold wants; rw [h]
   have hw1 : ∀ t g, wantC n all a.o = some g → wants n all a.o t = g.f t := fun t g h => by unfold wants; rw [h]
   have step : ∀ {h : Hp} {ρ : Rho} {rs : List (Bool × Rec)} {c : Nat}, cls a.o = c + 2 → stable k h (recs rs) = true → wants n all a.o (.fn ρ []) = some true →
       wrR C a.o (fun v ρ h' => h.next ≤ h'.next ∧ dstR n a.o (fun ρ h => seqR C n all ws K l (Nat.succ k) ρ h rs) v ρ h') ρ h →
       ∃ m d ρ' h', (seqC n all ws (a :: l) k).f (callN C m d) (.fn ρ []) h (recs rs) = some (.fn ρ' [], h') ∧ K ρ' h' := by
     intro h ρ rs c hc hst hw hk
     have hop := fun call => hop2 call (.fn ρ []) h (by omega) (by omega)
     rcases wrR_of hk with ⟨v, h', hv, hle, hk⟩ | ⟨f, args, hv, v, h', ⟨m0, d0, hev⟩, hle, hk⟩
     · simp only [hv, oB] at hop
       obtain ⟨d, hd⟩ := hsome hk
       obtain ⟨ρ1, h1, hk⟩ := dstC_of hd hk
       obtain ⟨m, dd, ρ', h'', h2, h3⟩ := seqR_of l _ hk
       exact ⟨m, dd, ρ', h'', by rw [hsq hd, hc]; simp only [writeS, hst, bB, hw, oB, hop, h1, Nat.ble_eq_true_of_le hle]; exact h2, h3⟩
     · simp only [hv, oB] at hop
       obtain ⟨d, hd⟩ := hsome hk
       obtain ⟨ρ1, h1, hk⟩ := dstC_of hd hk
       obtain ⟨m, dd, ρ', h'', h2, h3⟩ := seqR_of l _ hk
       refine ⟨max m0 m, max d0 dd, ρ', h'', ?_, h3⟩
       have hev' := callN_mono (C := C) (Nat.le_max_left m0 m) (Nat.le_max_left d0 dd) _ _ _ _ hev
       rw [hsq hd, hc]
       simp only [writeS, hst, bB, hw, oB, hop, hev', h1, Nat.ble_eq_true_of_le hle]
       exact seqC_lift (Nat.le_max_right m0 m) (Nat.le_max_right d0 dd) h2
   have stepN : ∀ {h : Hp} {ρ : Rho} {rs : List (Bool × Rec)} {c : Nat}, cls a.o = c + 2 → stable k h (recs rs) = true → wants n all a.o (.fn ρ []) = some false →
       dstR n a.o (fun ρ h => seqR C n all ws K l (Nat.succ k) ρ h rs) .undef ρ h →
       ∃ m d ρ' h', (seqC n all ws (a :: l) k).f (callN C m d) (.fn ρ []) h (recs rs) = some (.fn ρ' [], h') ∧ K ρ' h' := by
     intro h ρ rs c hc hst hw hk
     obtain ⟨d, hd⟩ := hsome hk
     obtain ⟨ρ1, h1, hk⟩ := dstC_of hd hk
     obtain ⟨m, dd, ρ', h'', h2, h3⟩ := seqR_of l _ hk
     exact ⟨m, dd, ρ', h'', by rw [hsq hd, hc]; simp only [writeS, hst, bB, hw, oB, h1]; exact h2, h3⟩
   rw [seqR_cons] at hk
   unfold itR at hk
   generalize hc : cls a.o = c at hk
   rcases c with _ | _ | c
   · simp only at hk
     cases hwc : wantC n all a.o with
     | none =>
       rw [hwc] at hk
       obtain ⟨v, hv, hk⟩ := oP_eq.1 hk
       obtain ⟨d, hd⟩ := hsome hk
       obtain ⟨ρ1, h1, hk⟩ := dstC_of hd hk
       obtain ⟨m, dd, ρ', h', h2, h3⟩ := seqR_of l k hk
       exact ⟨m, dd, ρ', h', by rw [hsq hd, hc]; simp only [pureS, hw0 _ hwc, hv, oB, h1]; exact h2, h3⟩
     | some g =>
       rw [hwc] at hk
       obtain ⟨b, hb, hk⟩ := oP_eq.1 hk
       obtain ⟨v, hv, hk⟩ := oP_eq.1 hk
       obtain ⟨d, hd⟩ := hsome hk
       obtain ⟨ρ1, h1, hk⟩ := dstC_of hd hk
       obtain ⟨m, dd, ρ', h', h2, h3⟩ := seqR_of l k hk
       rcases gV_of hv with ⟨e1, hv2⟩ | ⟨e1, e2⟩
       · subst e1
         exact ⟨m, dd, ρ', h', by rw [hsq hd, hc]; simp only [pureS, hw1 _ _ hwc, hb, hv2, oB, h1]; exact h2, h3⟩
       · subst e1; subst e2
         exact ⟨m, dd, ρ', h', by rw [hsq hd, hc]; simp only [pureS, hw1 _ _ hwc, hb, oB, h1]; exact h2, h3⟩
   · simp only at hk
     cases hwc : wantC n all a.o with
     | none =>
       rw [hwc] at hk
       obtain ⟨v, hv, hk⟩ := oP_eq.1 hk
       obtain ⟨d, hd⟩ := hsome hk
       obtain ⟨ρ1, h1, hk⟩ := dstC_of hd hk
       obtain ⟨m, dd, ρ', h', h2, h3⟩ := seqR_of l k hk
       exact ⟨m, dd, ρ', h', by rw [hsq hd, hc]; simp only [allocS, hw0 _ hwc, hv, oB, h1]; exact h2, h3⟩
     | some g => rw [hwc] at hk; exact hk.elim
   · simp only at hk
     cases hwc : wantC n all a.o with
     | none =>
       rw [hwc] at hk
       obtain ⟨hst, hk⟩ := stabP_of hk
       exact step hc hst (hw0 _ hwc) hk
     | some g =>
       rw [hwc] at hk
       simp only at hk
       cases hi : isCall a.o with
       | false => rw [hi] at hk; exact hk.elim
       | true =>
         rw [hi] at hk
         obtain ⟨hst, hk⟩ := stabP_of hk
         obtain ⟨b, hb, hk⟩ := oP_eq.1 hk
         obtain ⟨x, hx, hk⟩ := oP_eq.1 hk
         cases b with
         | true =>
           obtain ⟨y, h3, h4⟩ := oB_eq.1 (show oB _ _ = _ from hx)
           cases h4
           exact step hc hst (by rw [hw1 _ _ hwc, hb]) (by unfold wrR; rw [hi]; exact oP_mk h3 hk)
         | false =>
           cases hx
           exact stepN hc hst (by rw [hw1 _ _ hwc, hb]) hk.2
noncomputable def drawable (all:List Oper):Bool:=
 drawOk (items all 0 []) (wsOf (items all 0 []))&&orderOk (items all 0 []) (wsOf (items all 0 [])) (order (items all 0 []) (wsOf (items all 0 [])) (wsOf (items all 0 [])) 0) 0 0
noncomputable def drawR (C:Cfg) (n:Nat) (all:List Oper) (K:Rho→Hp→Prop) (ρ:Rho) (h:Hp):Prop:=
 seqR C n all (wsOf (items all 0 [])) K (order (items all 0 []) (wsOf (items all 0 [])) (wsOf (items all 0 [])) 0) 0 ρ h []
theorem Wp.draw {id:Nat} {ops:Array Oper} (hok:drawable ops.toList=true) (hw:drawR C n ops.toList (fun ρ h=>Q .normal ρ h) ρ h):Wp C n (.region id ops true) Q ρ h:=by
 obtain ⟨m,d,ρ',h',h1,h2⟩:=seqR_of _ _ hw
 have e:recs []=[]:=rfl
 rw [e] at h1
 refine ⟨m,d, .normal,ρ',h',?_,h2⟩
 unfold drawable at hok
 simp only [codeC,drawC,hok,h1,oB]
noncomputable def codeR (C:Cfg) (n:Nat) (c:Code):(X→Rho→Hp→Prop)→Rho→Hp→Prop:=
 Code.rec (motive:=fun _=>(X→Rho→Hp→Prop)→Rho→Hp→Prop)
  (fun Q=>Q .normal)
  (fun _ ops d Q=>match d with
   | false=>regR C n ops.toList (fun ρ h=>Q .normal ρ h) ops.toList
   | true => match drawable ops.toList with
     | true => drawR C n ops.toList (fun ρ h => Q .normal ρ h)
     | false => fun _ _ => False)
  (fun _ b iha _ Q=>iha (andThen (Wp C n b Q) Q))
  (fun c _ _ iha ihb Q ρ h=>oP ((evO c).f (.fn ρ []) h) fun v=>bP v (iha Q ρ h) (ihb Q ρ h))
  (fun id _ ih Q=>ih (blockQ id Q))
  (fun c _ Q=>Wp C n (.loop c) Q)
  (fun _ _ _ _ _ _ _ _ _=>False)
  (fun id Q=>Q (.exit id))
  (fun _ _ _ _ _=>False)
  (fun _ _ _ _=>False)
  (fun _ _ _ _=>False)
  (fun Q=>Q .ret)
  (fun _ _ _ _=>False) c
theorem Wp.code:∀(c:Code) {Q:X→Rho→Hp→Prop} {ρ:Rho} {h:Hp},codeR C n c Q ρ h→Wp C n c Q ρ h
 | .skip,_,_,_,hk=> .skip hk
 | .region _ ops false,_,_,_,hk=> .region hk
 | .region _ ops true, Q, ρ, h, hk => by
   have hk' : (match drawable ops.toList with
       | true => drawR C n ops.toList (fun ρ h => Q .normal ρ h)
       | false => fun _ _ => False) ρ h := hk
   cases hd : drawable ops.toList with
   | true => rw [hd] at hk'; exact .draw hd hk'
   | false => rw [hd] at hk'; exact hk'.elim
 | .seq a _,_,_,_,hk=> .seq (Wp.code a hk)
 | .cond c a b, _, _, _, hk => by
   obtain ⟨v, hv, hk⟩ := oP_eq.1 hk
   refine .cond (oP_mk hv ?_)
   unfold bP at hk ⊢
   split at hk
   · rename_i x
     cases x with
     | true => exact Wp.code a hk
     | false => exact Wp.code b hk
   · exact hk.elim
 | .block id c,_,_,_,hk=> .block (Wp.code c hk)
 | .loop c,_,_,_,hk=>hk
 | .exit id,_,_,_,hk=> .exit hk
 | .ret,_,_,_,hk=> .ret hk
 | .rangeFunc ..,_,_,_,hk=>hk.elim
 | .scope _,_,_,_,hk=>hk.elim
 | .label _,_,_,_,hk=>hk.elim
 | .goto _,_,_,_,hk=>hk.elim
 | .refuse _,_,_,_,hk=>hk.elim
def retP (l:List ResultVar) (Q:V→Hp→Prop) (ρ:Rho) (h:Hp):Prop:=oP (resVs (.fn ρ []) h l) fun vs=>Q (tupleOf vs) h
def bodyQ (l:List ResultVar) (Q:V→Hp→Prop):X→Rho→Hp→Prop
 | .exit _,_,_=>False
 | _,ρ,h=>retP l Q ρ h
def argsR (args:List V):Rho:=fun i=>(args[i]?).getD .undef
theorem cP.func (hs:C.start=startF) {f:Nat} {fn:Func} {c:Code} {args:List V} (hf:P0.funcs[f]? = some fn) (hb:fn.body=some c) (hk:C.K f args h=none) (hle:args.length≤fn.ntmps) {Q:V→Hp→Prop}
  (hw:Wp C fn.ntmps c (bodyQ fn.results.toList Q) (argsR args) h):cP C f args h Q:=by
 obtain ⟨m,d,x,ρ',h',h1,h2⟩:=hw
 have key:retP fn.results.toList Q ρ' h'→(∀id,x≠ .exit id)→cP C f args h Q:=by
  intro hr hx
  obtain ⟨vs,h3,h4⟩:=oP_eq.1 hr
  refine ⟨_,_,⟨m,d+1,?_⟩,h4⟩
  show (funcC C f).f (callN C m d) m args h=_
  unfold funcC
  rw [hf]
  simp only [hb,hk,orB,hs]
  have hle' : Nat.ble args.length fn.ntmps=true:=Nat.ble_eq_true_of_le hle
  have hst:startF args = .fn (argsR args) []:=rfl
  rw [hst,hle',h1]
  cases x with
  | normal=>simp only [bB,oB,Tm.ds,runD,h3]
  | ret=>simp only [bB,oB,Tm.ds,runD,h3]
  | exit id=>exact absurd rfl (hx id)
 cases x with
 | normal=>exact key h2 (fun id e=>nomatch e)
 | ret=>exact key h2 (fun id e=>nomatch e)
 | exit id=>exact h2.elim
theorem cP.funcN (hs:C.start=startF) {f:Nat} {fn:Func} {c:Code} {args:List V} {k:Nat} {rs:List ResultVar} (hf:P0.funcs[f]? = some fn) (hb:fn.body=some c) (hn:fn.ntmps=k) (hr:fn.results.toList=rs)
  (hk:C.K f args h=none) (hle:args.length≤k) {Q:V→Hp→Prop} (hw:Wp C k c (bodyQ rs Q) (argsR args) h):cP C f args h Q:=by
 subst hn;subst hr
 exact cP.func hs hf hb hk hle hw
theorem cP.known {f:Nat} {fn:Func} {c:Code} {args:List V} {v:V} (hf:P0.funcs[f]? = some fn) (hb:fn.body=some c) (hk:C.K f args h=some v) (h1:flats args=true) (h2:v.flat=true) {Q:V→Hp→Prop} (hq:Q v h):cP C f args h Q:=by
 refine ⟨v,h,⟨0,1,?_⟩,hq⟩
 show (funcC C f).f _ _ args h=_
 unfold funcC
 rw [hf]
 simp only [hb,hk,orB,h1,h2,Bool.and_self,bB]
theorem cP.ext {f:Nat} {fn:Func} {args:List V} {v:V} (hf:P0.funcs[f]? = some fn) (hb:fn.body=none) (hx:extF (C.ext f) args=some v) {Q:V→Hp→Prop} (hq:Q v h):cP C f args h Q:=by
 refine ⟨v,h,⟨0,1,?_⟩,hq⟩
 show (funcC C f).f _ _ args h=_
 unfold funcC
 rw [hf]
 simp only [hb,hx,oB]
theorem cP.mono {f:Nat} {args:List V} {Q Q' : V→Hp→Prop} (hc:cP C f args h Q) (hq:∀v h,Q v h→Q' v h):cP C f args h Q':=by
 obtain ⟨v,h',h1,h2⟩:=hc
 exact ⟨v,h',h1,hq _ _ h2⟩
end
end Go.Proofs.YtiepamfpilhcjaaDoor.Hx
