/- Parts of the proof. -/
import Derived.Test.YtiepamfpilhcjaaDoorM06
import Derived.KernelRfl
namespace Go.Proofs.YtiepamfpilhcjaaDoor.Hx
def Call.Le (c c' : Call):Prop:=∀f a h r,c f a h=some r→c' f a h=some r
theorem Call.Le.refl (c:Call):c.Le c:=fun _ _ _ _ h=>h
section
variable {n:Nat} {c c' : Call} (hc:c.Le c')
include hc
theorem opC_mono {o:Oper} {t:Tm} {h:Hp} {r:V×Hp} (hv:(opC o).f c t h=some r):(opC o).f c' t h=some r:=by
 unfold opC at hv ⊢
 split
 ·rename_i hk;rw [hk] at hv;exact hv
 ·rename_i hk;rw [hk] at hv;exact hv
 ·rename_i h0 h1
  split at hv
  ·rename_i hk;exact absurd hk h0
  ·rename_i hk;exact absurd hk h1
  ·simp only [oB_eq] at hv ⊢
   obtain ⟨x,h2,h3⟩:=hv
   refine ⟨x,h2,?_⟩
   cases x with
   | val v h'=>exact h3
   | call f args=>exact hc _ _ _ _ h3
theorem stepC_mono {all:List Oper} {o:Oper} {rest:SF} (hr:∀t h r,rest.f c t h=some r→rest.f c' t h=some r) {t:Tm} {h:Hp} {r:Tm×Hp} (hv:(stepC n all o rest).f c t h=some r):(stepC n all o rest).f c' t h=some r:=by
 unfold stepC at hv ⊢
 cases hd:dstC n o with
 | none=>rw [hd] at hv;cases hv
 | some d =>
   rw [hd] at hv
   simp only at hv ⊢
   cases hw : wantC n all o with
   | none =>
     rw [hw] at hv
     simp only at hv ⊢
     cases hq : deferC o with
     | some q =>
       rw [hq] at hv
       simp only [oB_eq] at hv ⊢
       obtain ⟨x, h1, h2⟩ := hv
       exact ⟨x, h1, hr _ _ _ h2⟩
     | none =>
       rw [hq] at hv
       simp only [oB_eq] at hv ⊢
       obtain ⟨x, h1, h2⟩ := hv
       exact ⟨x, opC_mono hc h1, hr _ _ _ h2⟩
   | some g =>
     rw [hw] at hv
     simp only [oB_eq] at hv ⊢
     obtain ⟨b, h1, h2⟩ := hv
     refine ⟨b, h1, ?_⟩
     cases b with
     | false => exact hr _ _ _ h2
     | true =>
       simp only [oB_eq] at h2 ⊢
       obtain ⟨x, h3, h4⟩ := h2
       exact ⟨x, opC_mono hc h3, hr _ _ _ h4⟩
theorem regionC_mono {all:List Oper} : ∀(os:List Oper) {t:Tm} {h:Hp} {r:Tm×Hp},(regionC n all os).f c t h=some r→(regionC n all os).f c' t h=some r
 | [],_,_,_,hv=>hv
 | o::os,_,_,_,hv=>stepC_mono hc (fun _ _ _ h=>regionC_mono os h) hv
omit hc in
theorem pureS_mono {all:List Oper} {ws:List It} {a:It} {d:DF} {rest:LF} (hr:∀t h rs r,rest.f c t h rs=some r→rest.f c' t h rs=some r) {t:Tm} {h:Hp} {rs:List Rec} {r:Tm×Hp} (hv:(pureS n all ws a d rest).f c t h rs=some r) :
  (pureS n all ws a d rest).f c' t h rs=some r:=by
 unfold pureS at hv ⊢
 simp only [oB_eq] at hv ⊢
 obtain ⟨b,h1,h2⟩:=hv
 refine ⟨b,h1,?_⟩
 cases b with
 | false=>exact hr _ _ _ _ h2
 | true =>
   simp only [oB_eq] at h2 ⊢
   obtain ⟨x, h3, h4⟩ := h2
   exact ⟨x, h3, hr _ _ _ _ h4⟩
omit hc in
theorem allocS_mono {all:List Oper} {ws:List It} {a:It} {d:DF} {rest:LF} (hr:∀t h rs r,rest.f c t h rs=some r→rest.f c' t h rs=some r) {t:Tm} {h:Hp} {rs:List Rec} {r:Tm×Hp} (hv:(allocS n all ws a d rest).f c t h rs=some r) :
  (allocS n all ws a d rest).f c' t h rs=some r:=by
 unfold allocS at hv ⊢
 simp only [oB_eq] at hv ⊢
 obtain ⟨b,h1,h2⟩:=hv
 refine ⟨b,h1,?_⟩
 cases b with
 | false=>exact hr _ _ _ _ h2
 | true =>
   simp only [oB_eq] at h2 ⊢
   obtain ⟨x, h3, h4⟩ := h2
   exact ⟨x, h3, hr _ _ _ _ h4⟩
theorem writeS_mono {all:List Oper} {k:Nat} {a:It} {d:DF} {rest:LF} (hr:∀t h rs r,rest.f c t h rs=some r→rest.f c' t h rs=some r) {t:Tm} {h:Hp} {rs:List Rec} {r:Tm×Hp} (hv:(writeS n all k a d rest).f c t h rs=some r) :
  (writeS n all k a d rest).f c' t h rs=some r:=by
 unfold writeS at hv ⊢
 simp only [bB_eq,oB_eq] at hv ⊢
 obtain ⟨h0,b,h1,h2⟩:=hv
 refine ⟨h0,b,h1,?_⟩
 cases b with
 | false=>exact hr _ _ _ _ h2
 | true =>
   simp only [oB_eq, bB_eq] at h2 ⊢
   obtain ⟨x, h3, h4, h5⟩ := h2
   exact ⟨x, opC_mono hc h3, h4, hr _ _ _ _ h5⟩
theorem seqC_mono {all:List Oper} {ws:List It} : ∀(l:List It) (k:Nat) {t:Tm} {h:Hp} {rs:List Rec} {r:Tm×Hp},(seqC n all ws l k).f c t h rs=some r→(seqC n all ws l k).f c' t h rs=some r
 | [],_,_,_,_,_,hv=>hv
 | a :: l, k, t, h, rs, r, hv => by
   unfold seqC at hv ⊢
   cases hd : dstC n a.o with
   | none => rw [hd] at hv; cases hv
   | some d =>
     rw [hd] at hv
     simp only at hv ⊢
     split
     · rename_i hk; rw [hk] at hv; exact pureS_mono (fun _ _ _ _ h => seqC_mono l _ h) hv
     · rename_i hk; rw [hk] at hv; exact allocS_mono (fun _ _ _ _ h => seqC_mono l _ h) hv
     · rename_i h0 h1
       split at hv
       · rename_i hk; exact absurd hk h0
       · rename_i hk; exact absurd hk h1
       · exact writeS_mono hc (fun _ _ _ _ h => seqC_mono l _ h) hv
theorem drawC_mono {all:List Oper} {t:Tm} {h:Hp} {r:Tm×Hp} (hv:(drawC n all).f c t h=some r):(drawC n all).f c' t h=some r:=by
 unfold drawC at hv ⊢
 cases hb:drawOk (items all 0 []) (wsOf (items all 0 []))&&orderOk (items all 0 []) (wsOf (items all 0 [])) (order (items all 0 []) (wsOf (items all 0 [])) (wsOf (items all 0 [])) 0) 0 0 with
 | true=>rw [hb] at hv;exact seqC_mono hc _ _ hv
 | false =>
   rw [hb] at hv
   simp only at hv ⊢
   cases hf : freePair (items all 0 []) (wsOf (items all 0 [])) with
   | none => rw [hf] at hv; cases hv
   | some p =>
     rw [hf] at hv
     cases hb2 : drawOk2 (items all 0 []) && orderOk (items all 0 []) (wsOf (items all 0 [])) (order (items all 0 []) (wsOf (items all 0 [])) (wsOf (items all 0 [])) 0) 0 0 with
     | false => rw [hb2] at hv; cases hv
     | true =>
       rw [hb2] at hv
       simp only [oB_eq, bB_eq] at hv ⊢
       obtain ⟨x, h1, h2, h3⟩ := hv
       exact ⟨x, seqC_mono hc _ _ h1, h2, h3⟩
theorem codeC_mono {m m' : Nat} (hm:m≤m'):∀(k:Code) {t:Tm} {h:Hp} {r:X×Tm×Hp},(codeC n k).f c m t h=some r→(codeC n k).f c' m' t h=some r
 | .skip,_,_,_,hv=>hv
 | .seq x y, t, h, r, hv => by
   simp only [codeC] at hv ⊢
   rcases seqK_eq hv with ⟨t1, h1, e1, e2⟩ | ⟨e1, e2⟩
   · rw [codeC_mono hm x e1]; exact codeC_mono hm y e2
   · rw [codeC_mono hm x e1]
     obtain ⟨x', t', h'⟩ := r
     cases x' with
     | normal => exact absurd rfl e2
     | exit id => rfl
     | ret => rfl
 | .cond e x y, t, h, r, hv => by
   simp only [codeC, oB_eq] at hv ⊢
   obtain ⟨v, h1, h2⟩ := hv
   refine ⟨v, h1, ?_⟩
   split
   · rename_i b
     cases b with
     | true => exact codeC_mono hm x h2
     | false => exact codeC_mono hm y h2
   · rename_i hne
     split at h2
     · rename_i b; exact absurd rfl (hne b)
     · exact h2
 | .block id x, t, h, r, hv => by
   simp only [codeC] at hv ⊢
   cases hr : (codeC n x).f c m t h with
   | none => rw [hr] at hv; cases hv
   | some r' => rw [hr] at hv; rw [codeC_mono hm x hr]; exact hv
 | .loop x, t, h, r, hv => by
   simp only [codeC] at hv ⊢
   have key : ∀ (k k' : Nat) (t : Tm) (h : Hp), k ≤ k' → loopN (fun t h => (codeC n x).f c m t h) k t h = some r → loopN (fun t h => (codeC n x).f c' m' t h) k' t h = some r := by
     intro k
     induction k with
     | zero => intro k' t h _ hv; cases hv
     | succ k ih =>
       intro k' t h hk hv
       obtain ⟨k', rfl⟩ : ∃ j, k' = j + 1 := ⟨k' - 1, by omega⟩
       have hv' : seqK ((codeC n x).f c m t h) (loopN (fun t h => (codeC n x).f c m t h) k) = some r := hv
       show seqK ((codeC n x).f c' m' t h) (loopN (fun t h => (codeC n x).f c' m' t h) k') = some r
       rcases seqK_eq hv' with ⟨t1, h1, e1, e2⟩ | ⟨e1, e2⟩
       · rw [codeC_mono hm x e1]; exact ih k' t1 h1 (by omega) e2
       · rw [codeC_mono hm x e1]
         obtain ⟨x', t', h'⟩ := r
         cases x' with
         | normal => exact absurd rfl e2
         | exit id => rfl
         | ret => rfl
   exact key m m' t h hm hv
 | .exit id,_,_,_,hv=>hv
 | .ret,_,_,_,hv=>hv
 | .region id ops false, t, h, r, hv => by
   simp only [codeC, oB_eq] at hv ⊢
   obtain ⟨x, h1, h2⟩ := hv
   exact ⟨x, regionC_mono hc _ h1, h2⟩
 | .region id ops true, t, h, r, hv => by
   simp only [codeC, oB_eq] at hv ⊢
   obtain ⟨x, h1, h2⟩ := hv
   exact ⟨x, drawC_mono hc h1, h2⟩
 | .rangeFunc ..,_,_,_,hv=>by cases hv
 | .scope _,_,_,_,hv=>by cases hv
 | .label _,_,_,_,hv=>by cases hv
 | .goto _,_,_,_,hv=>by cases hv
 | .refuse _,_,_,_,hv=>by cases hv
theorem dfuncC_mono {C:Cfg} {m m' : Nat} (hm:m≤m') {f:Nat} {args:List V} {h:Hp} {r:V×Hp} (hv:(dfuncC C f).f c m args h=some r):(dfuncC C f).f c' m' args h=some r:=by
 unfold dfuncC at hv ⊢
 cases hf:P0.funcs[f]? with
 | none=>rw [hf] at hv;cases hv
 | some fn =>
   rw [hf] at hv
   simp only at hv ⊢
   cases hb : fn.body with
   | none => rw [hb] at hv; cases hv
   | some k =>
     rw [hb] at hv
     simp only at hv ⊢
     cases hr : recOf k with
     | none =>
       rw [hr] at hv
       simp only [bB_eq, oB_eq] at hv ⊢
       obtain ⟨h0, x, h1, h2⟩ := hv
       exact ⟨h0, x, codeC_mono hc hm k h1, h2⟩
     | some y =>
       rw [hr] at hv
       simp only [bB_eq, oB_eq] at hv ⊢
       obtain ⟨h0, h3, x, h1, h2⟩ := hv
       exact ⟨h0, h3, x, codeC_mono hc hm y.2 h1, h2⟩
theorem runD_mono {C:Cfg} {m m' : Nat} (hm:m≤m'):∀(l:List (Nat×List V)) {h h' : Hp},runD C c m l h=some h'→runD C c' m' l h=some h'
 | [],_,_,hv=>hv
 | x :: l, _, _, hv => by
   simp only [runD, oB_eq] at hv ⊢
   obtain ⟨r, h1, h2⟩ := hv
   exact ⟨r, dfuncC_mono hc hm h1, runD_mono hm l h2⟩
theorem funcC_mono {C:Cfg} {m m' : Nat} (hm:m≤m') {f:Nat} {args:List V} {h:Hp} {r:V×Hp} (hv:(funcC C f).f c m args h=some r):(funcC C f).f c' m' args h=some r:=by
 unfold funcC at hv ⊢
 cases hf:P0.funcs[f]? with
 | none=>rw [hf] at hv;cases hv
 | some fn =>
   rw [hf] at hv
   simp only at hv ⊢
   cases hb : fn.body with
   | none => rw [hb] at hv; exact hv
   | some k =>
     rw [hb] at hv
     simp only at hv ⊢
     cases hk : C.K f args h with
     | some u => rw [hk] at hv; exact hv
     | none =>
       rw [hk] at hv
       simp only [orB, bB_eq, oB_eq] at hv ⊢
       obtain ⟨h0, x, h1, h2⟩ := hv
       refine ⟨h0, x, codeC_mono hc hm k h1, ?_⟩
       obtain ⟨e, t, hp⟩ := x
       cases e with
       | exit id => exact h2
       | normal =>
         simp only [oB_eq] at h2 ⊢
         obtain ⟨y, h3, h4⟩ := h2
         exact ⟨y, runD_mono hc hm _ h3, h4⟩
       | ret =>
         simp only [oB_eq] at h2 ⊢
         obtain ⟨y, h3, h4⟩ := h2
         exact ⟨y, runD_mono hc hm _ h3, h4⟩
end
theorem callN_mono {C:Cfg} {m m' : Nat} (hm:m≤m'):∀{d d' : Nat},d≤d'→(callN C m d).Le (callN C m' d')
 | 0,_,_=>fun _ _ _ _ h=>(nomatch h)
 | d+1,0,h=>absurd h (by omega)
 | d + 1, d' + 1, h => fun f a hp r hv => by
   have hv' : (funcC C f).f (callN C m d) m a hp = some r := hv
   show (funcC C f).f (callN C m' d') m' a hp = some r
   exact funcC_mono (callN_mono hm (by omega)) hm hv'
end Go.Proofs.YtiepamfpilhcjaaDoor.Hx
namespace Go.Proofs.YtiepamfpilhcjaaDoor.Hx
inductive KE where
 | names (f:Nat) (l:List (Nat×V))
 | yes (f:Nat)
noncomputable def lookN:List (Nat×V)→Nat→Option V
 | [],_=>none
 | x::l,n=>Bool.rec (motive:=fun _=>Option V) (lookN l n) (some x.2) (Nat.beq x.1 n)
noncomputable def KE.ask (e:KE) (f:Nat) (args:List V):Option V:=match e with
 | .names g l => bB (Nat.beq f g) (match args with
   | [.int .i64 (.ofNat n)] => lookN l n
   | _ => none)
 | .yes g => bB (Nat.beq f g) (match args with
   | [] => some (.bool true)
   | _ => none)
noncomputable def askAll:List KE→Nat→List V→Option V
 | [],_,_=>none
 | e::es,f,args=>orB (e.ask f args) (fun v=>some v) (askAll es f args)
def isV (v:V):Option (V×Hp)→Bool
 | some (u,_)=>V.beq u v
 | _=>false
theorem known_flat {C:Cfg} (hF:Facts C) {m d n f:Nat} {args:List V} {v:V} (hn:P0.globals.size≤n) (hb:∃fn c,P0.funcs[f]? = some fn∧fn.body=some c) (hv:isV v (callN C m d f args { next:=n,tr:= .leaf })=true)
  (W:World) (ht:TabOk (fun _=>none) W) (args' : Array Value) (ha:VsRel (fun _=>none) args args'.toList) :
  Calls P0 f args' W fun e W'=>∃x,e = .returned x∧(v.flat=true→VRel (fun _=>none) v x)∧Still W W':=by
 cases hr:callN C m d f args { next:=n,tr:= .leaf } with
 | none=>rw [hr] at hv;cases hv
 | some r =>
   obtain ⟨u, h'⟩ := r
   rw [hr] at hv
   obtain rfl : u = v := V.eq_of_beq _ _ hv
   rcases callN_ok hF m d f args _ _ _ (fun _ => none) W args' hr (WR.start n hn W ht) ha with ⟨x, h1, _⟩ | ⟨_, h2⟩
   · exfalso
     obtain ⟨fn, c, hf, hbd⟩ := hb
     have hnm := hF.named f fn hf
     have : (callFunc f args').run P0 W = .ok (.enter f args') W := by
       simp only [callFunc, Sem.run_bind, run_program, Result.andThen_ok, hf, hnm, hbd, Option.isNone_some, Bool.false_eq_true, if_false]
       rfl
     rw [this] at h1
     cases h1
   · refine Calls.mono h2 fun e w' he => ?_
     obtain ⟨Δ', x, rfl, hA⟩ := he
     exact ⟨x, rfl, fun hfl => flat_rel hA.val hfl, hA.frame.still noRW⟩
noncomputable def namesOk (C:Cfg) (m d n f:Nat):List (Nat×V)→Bool
 | []=>true
 | x::l=>Bool.rec (motive:=fun _=>Bool) false (namesOk C m d n f l) (isV x.2 (callN C m d f [.int .i64 (.ofNat x.1)] { next:=n,tr:= .leaf }))
theorem namesOk_get {C:Cfg} {m d n f:Nat} : ∀(l:List (Nat×V)),namesOk C m d n f l=true→∀k s,lookN l k=some s→isV s (callN C m d f [.int .i64 (.ofNat k)] { next:=n,tr:= .leaf })=true
 | [],_,k,s,hk=>by cases hk
 | x :: l, h, k, s', hk => by
   simp only [namesOk] at h
   simp only [lookN] at hk
   cases hb : isV x.2 (callN C m d f [.int .i64 (.ofNat x.1)] { next := n, tr := .leaf }) with
   | false => rw [hb] at h; cases h
   | true =>
     rw [hb] at h
     cases hx : Nat.beq x.1 k with
     | true =>
       rw [hx] at hk
       cases hk
       rw [← Nat.eq_of_beq_eq_true hx]
       exact hb
     | false =>
       rw [hx] at hk
       exact namesOk_get l h k s' hk
inductive KOk (C:Cfg):KE→Prop where
 | names {m d n f l} (hn:P0.globals.size≤n) (hb:∃fn c,P0.funcs[f]? = some fn∧fn.body=some c) (h:namesOk C m d n f l=true):KOk C (.names f l)
 | yes {m d n f} (hn:P0.globals.size≤n) (hb:∃fn c,P0.funcs[f]? = some fn∧fn.body=some c) (h:isTrue (callN C m d f [] { next:=n,tr:= .leaf })=true):KOk C (.yes f)
theorem isTrue_isV {r:Option (V×Hp)} (h:isTrue r=true):isV (.bool true) r=true:=by
 unfold isTrue at h
 split at h
 ·rfl
 ·cases h
theorem KOk.calls {C:Cfg} (hF:Facts C) {e:KE} (he:KOk C e) {f:Nat} {args:List V} {v:V} (hv:e.ask f args=some v) (hfl:v.flat=true) (W:World) (ht:TabOk (fun _=>none) W) (args' : Array Value) (ha:VsRel (fun _=>none) args args'.toList) :
  Calls P0 f args' W fun e W'=>∃x,e = .returned x∧VRel (fun _=>none) v x∧Still W W':=by
 cases he with
 | @names m d n g l hn hb h =>
   simp only [KE.ask, bB_eq] at hv
   obtain ⟨hfg, hv⟩ := hv
   obtain rfl := Nat.eq_of_beq_eq_true hfg
   split at hv
   · rename_i k
     have h1 := namesOk_get l h k v hv
     exact Calls.mono (known_flat hF hn hb h1 W ht args' ha) fun e W' ⟨x, he, hx, hst⟩ => ⟨x, he, hx hfl, hst⟩
   · cases hv
 | @yes m d n g hn hb h =>
   simp only [KE.ask, bB_eq] at hv
   obtain ⟨hfg, hv⟩ := hv
   obtain rfl := Nat.eq_of_beq_eq_true hfg
   split at hv
   · cases hv
     exact Calls.mono (known_flat hF hn hb (isTrue_isV h) W ht args' ha) fun e W' ⟨x, he, hx, hst⟩ => ⟨x, he, hx rfl, hst⟩
   · cases hv
noncomputable def Cfg.more (C:Cfg) (l:List KE):Cfg:=⟨C.start,C.ext,fun f args h=>orB (askAll l f args) (fun v=>some v) (C.K f args h)⟩
theorem askAll_mem:∀(l:List KE) {f:Nat} {args:List V} {v:V},askAll l f args=some v→∃e∈l,e.ask f args=some v
 | [],_,_,_,h=>by cases h
 | e :: es, f, args, v, h => by
   simp only [askAll] at h
   cases hq : e.ask f args with
   | some u => rw [hq] at h; exact ⟨e, .head _, by rw [hq]; exact h⟩
   | none =>
     rw [hq] at h
     obtain ⟨e', hm, h'⟩ := askAll_mem es h
     exact ⟨e', .tail _ hm, h'⟩
theorem Facts.more {C:Cfg} (hF:Facts C) {l:List KE} (hl:∀e∈l,KOk C e):Facts (C.more l) where
 startD:=hF.startD
 start:=hF.start
 mixed:=hF.mixed
 named:=hF.named
 ext:=hF.ext
 known:=fun f args v h hk hf1 hf2 Δ W args' hW ha=>by
  simp only [Cfg.more] at hk
  cases hq:askAll l f args with
  | some u =>
    rw [hq] at hk
    have : u = v := by simpa [orB] using hk
    subst this
    obtain ⟨e, hm, he⟩ := askAll_mem l hq
    exact (hl e hm).calls hF he hf2 W hW.tab.none args' ha
  | none =>
    rw [hq] at hk
    exact hF.known f args v h (by simpa [orB] using hk) hf1 hf2 Δ W args' hW ha
end Go.Proofs.YtiepamfpilhcjaaDoor.Hx
namespace Go.Proofs.YtiepamfpilhcjaaDoor.Hx
def E1:Nat→Ext
 | 76=> .countByte
 | 83=> .indexByte
 | _=> .none
theorem namedAll:(P0.funcs.toList.all fun fn=>!(fn.name == "runtime.NumGoroutine"))=true:=by kernel_rfl
theorem mixed:P0.follows .mixedOrders=true:=by kernel_rfl
theorem globs:Nat.ble P0.globals.size 3=true:=by kernel_rfl
theorem fn76:P0.funcs[76]? = some Tryd.f76:=by unfold P0;exact Tryd.func76
theorem fn83:P0.funcs[83]? = some Tryd.f83:=by unfold P0;exact Tryd.func83
theorem noTab (w:World):TabOk (fun _=>none) w:=fun g c h=>by simp [tabs] at h
noncomputable def C1:Cfg:=⟨startT,E1,fun _ _ _=>none⟩
theorem facts:Facts C1 where
 startD:=fun _=>rfl
 start:=startT_get
 known:=fun _ _ _ _ h=>nomatch h
 mixed:=mixed
 named:=fun f fn hf=>by
  have h:=List.all_eq_true.1 namedAll fn (by rw [Array.mem_toList_iff];exact Array.mem_of_getElem? hf)
  simpa using h
 ext:=fun f fn hf hb Δ args v args' w hv ha=>by
  by_cases h1:f=76
  ·subst h1
   rw [fn76] at hf
   cases hf
   exact ext_count fn76 (by kernel_rfl) (by kernel_rfl) (by kernel_rfl) (by kernel_rfl) hv ha
  ·by_cases h2:f=83
   ·subst h2
    rw [fn83] at hf
    cases hf
    exact ext_index fn83 (by kernel_rfl) (by kernel_rfl) (by kernel_rfl) (by kernel_rfl) hv ha
   ·have h9:C1.ext f = .none:=by
     show E1 f = .none
     unfold E1
     split
     ·exact absurd rfl h1
     ·exact absurd rfl h2
     ·rfl
    rw [h9] at hv
    simp [extF] at hv
end Go.Proofs.YtiepamfpilhcjaaDoor.Hx
