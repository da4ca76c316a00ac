/- Parts of the proof. -/
import Derived.Test.YtiepamfpilhcjaaDoorM34
namespace Go.Proofs.YtiepamfpilhcjaaDoor.Hx
open Go.Proofs.YtiepamfpilhcjaaDoor.Un Go.Proofs.YtiepamfpilhcjaaDoor.Dm
def ptq (u:U)(b:Nat)(T:Bk)(q m x:Nat):Prop:=∃(m' q' v:Nat)(xv:Vl),(q' < q∨(q' = q∧m' < m))∧T.preds[m']? = some b∧T.vals[q']? = some v∧u.vals[v]? = some xv∧xv.op=21∧xv.args[m']? = some x
theorem ptq_zero (u:U)(b:Nat)(T:Bk)(x:Nat):¬ptq u b T 0 0 x:=fun ⟨_,_,_,_,h,_⟩=>by omega
theorem ptq_step {u:U}{b:Nat}{T:Bk}{m q v x:Nat}{xv:Vl}(hv:T.vals[q]? = some v)(hx:u.vals[v]? = some xv)(h21:xv.op=21):ptq u b T q (m+1) x↔ptq u b T q m x∨(T.preds[m]? = some b∧xv.args[m]? = some x):=by
 constructor
 ·rintro ⟨m',q',v',xv',h1,h2,h3,h4,h5,h6⟩
  by_cases e:m' = m∧q' = q
  ·obtain ⟨rfl,rfl⟩:=e
   rw [hv] at h3;cases h3
   rw [hx] at h4;cases h4
   exact .inr ⟨h2,h6⟩
  ·exact .inl ⟨m',q',v',xv',by omega,h2,h3,h4,h5,h6⟩
 ·rintro (⟨m',q',v',xv',h1,h2⟩ | ⟨h1,h3⟩)
  ·exact ⟨m',q',v',xv',by omega,h2⟩
  ·exact ⟨m,q,v,xv, .inr ⟨rfl,by omega⟩,h1,hv,hx,h21,h3⟩
theorem ptq_next {u:U}{b:Nat}{T:Bk}{q x:Nat} : ptq u b T q T.preds.length x↔ptq u b T (q+1) 0 x:=by
 constructor
 ·rintro ⟨m',q',v',xv',h1,h2⟩
  exact ⟨m',q',v',xv',by omega,h2⟩
 ·rintro ⟨m',q',v',xv',h1,h2,h3⟩
  have:=(List.getElem?_eq_some_iff.1 h2).1
  exact ⟨m',q',v',xv',by omega,h2,h3⟩
theorem ptq_all {u:U}(g:Good u){t b j:Nat}{T:Bk}(hT:u.blocks[t]? = some T)(hb:t∈next u b)(h1:∀(i v:Nat)(x:Vl),i<j→T.vals[i]? = some v→u.vals[v]? = some x→x.op=21)
  (h2:∀(v:Nat) (x:Vl),T.vals[j]? = some v→u.vals[v]? = some x→x.op≠21) (w:Nat):ptq u b T j 0 w↔ptk u b T T.preds.length 0 w:=by
 constructor
 ·rintro ⟨m',q',v',xv',_,h4,h5⟩
  exact ⟨m',q',v',xv', .inl (List.getElem?_eq_some_iff.1 h4).1,h4,h5⟩
 ·rintro ⟨m',q',v',xv',_,h4,h5,h6,h7,h8⟩
  have hh:headIn u t v':=by
   unfold headIn valsOf headB
   rw [hT,h6]
   refine ⟨List.mem_of_getElem? h5,?_⟩
   show isHead xv'.op=true
   unfold isHead
   rw [h7];rfl
  obtain ⟨i,hi⟩:=List.mem_iff_getElem?.1 ((phis_head g hT hb h1 h2 v').2 hh)
  have hij:i<j:=by
   have:=(List.getElem?_eq_some_iff.1 hi).1
   rw [List.length_take] at this
   omega
  rw [List.getElem?_take_of_lt hij] at hi
  have:=(g.at2 v' t i t q' ⟨T,hT,hi⟩ ⟨T,hT,h5⟩).2
  exact ⟨m',q',v',xv', .inl (by omega),h4,h5,h6,h7,h8⟩
section
variable {F F' : Nat→Prop} {h h' : Hp} {cs:List Pc} {Q:QP1} {u:U} {vv vb vs:V} {lb bx:Nat} {vin vout lw:V} {ins outs:List (List Bool)}
theorem rf_phis {KL1:QP5}{KL2:QP6}{x4 x6:V}{b:Nat}{B:Bk}{bv bn bp:V}{l0:List Bool}(g:Good u)
  (H0:Hold F h (cellP bx 36 (bkC B bv bn bp)::rfP u vv vb vs lb vin vout lw ins outs l0 cs)) (hu:URd F h u vv vb vs) (hB:u.blocks[b]? = some B) (iN:SlR eN F h B.next bn) (hl0:l0.length=u.vals.length)
  (H:∀h' l,Sn F h F h'→Hold F h' (cellP bx 36 (bkC B bv bn bp)::rfP u vv vb vs lb vin vout lw ins outs l cs)→l.length=u.vals.length→(∀w,On l w↔On l0 w∨phiTake u b w∨(B.fin=2∧w=B.cond))→
   J_turnstoneref14_Live_R29 CS Q KL1 KL2 (.ptr lb 0) vin vout x4 x6 (.int .i64 (b:Nat)) lw (.ptr bx 0) h') :
  J_turnstoneref14_Live_L4 CS Q KL1 KL2 (.ptr lb 0) vin vout x4 x6 (.int .i64 (b:Nat)) lw (.ptr bx 0) (.int .i64 (0:Nat)) h:=by
 have nv:=g.nv
 have nb:=g.nb
 have hnx:next u b=B.next:=by unfold next;rw [hB]
 have hn2:=good_next g hB
 unfold rfP at H0 H
 refine l_turnstoneref14_Live_L4 (fun k x1 x2 x3 x4' x6' x7 x8 x9 x15 h'=>∃(n:Nat) (l:List Bool),x1 = .ptr lb 0∧x2=vin∧x3=vout∧x4' = x4∧x6' = x6∧x7 = .int .i64 (b:Nat)∧x8=lw∧x9 = .ptr bx 0∧x15 = .int .i64 (n:Nat)∧n+k=B.next.length∧Sn F h F h'∧l.length=u.vals.length∧
  Hold F h' (cellP bx 36 (bkC B bv bn bp)::rowP eB tyBool l lw::rowP (eL eB) tyBools ins vin::rowP (eL eB) tyBools outs vout::cellP lb 29 (uC u vv vb vs)::cs)∧∀w,On l w↔On l0 w∨ptn u b B n w) ?_ (k:=B.next.length)
  ⟨0, l0, rfl, rfl, rfl, rfl, rfl, rfl, rfl, rfl, rfl, by omega, Sn.refl _ _, hl0, H0, fun w => by
    constructor
    · exact .inl
    · rintro (h1 | ⟨n', _, _, h1, _⟩)
      · exact h1
      · omega⟩
 rintro k x1 x2 x3 x4' x6' x7 x8 x9 x15 h3 ⟨n,l,rfl,e2,e3,e4,e6,rfl,e8,rfl,rfl,hk,s3,hl,H3,ho⟩
 subst x2 x3 x4' x6' x8
 unfold B_turnstoneref14_Live_L4
 have hu3:=hu.since s3
 have iN3:=iN.since s3
 refine oP_mk (pFA_ptr _ _ _) (oP_mk (H3.ld 0 rfl rfl) (oP_mk iN3.len ?_))
 by_cases hn:n<B.next.length
 rotate_left
 ·refine st_lt (if_f (by omega) ?_)
  obtain rfl:n=B.next.length:=by omega
  refine oP_mk (pFA_ptr _ _ _) (oP_mk (H3.ld 0 rfl rfl) (oP_mk (hbin_eql _ _ _ _) (st_b ?_)))
  rw [show ((B.fin:Int) == 2)=(B.fin == 2) from ieq _ 2]
  cases hf:B.fin == 2 with
  | true =>
    refine if_t rfl ?_
    have hf2 : B.fin = 2 := by simpa using hf
    have hc : B.cond < u.vals.length := by
      rcases g.fin b B hB with ⟨e, _⟩ | ⟨_, _, e⟩ | ⟨e, _⟩
      · omega
      · exact gives_lt e
      · omega
    obtain ⟨l5, o5, h5, e1, e2, _, H5, s5⟩ := H3.stR 1 rfl (k := B.cond) (y := true) (u := V.bool true) (show B.cond < l.length by omega) rfl rfl rfl
    refine oP_mk (pFA_ptr _ _ _) (oP_mk (H3.ld 0 rfl rfl) (oP_mk e1 ?_))
    rw [e2, valP_some]
    simp only [List.set_cons_succ, List.set_cons_zero] at H5
    refine H h5 _ (s3.trans s5) H5 (by simp [hl]) fun w => ?_
    rw [On_set (by omega), ho w, ptn_all hB]
    constructor
    · rintro (⟨h1, _⟩ | ⟨_, h1 | h1⟩)
      · exact .inr (.inr ⟨hf2, h1⟩)
      · exact .inl h1
      · exact .inr (.inl h1)
    · intro h1
      by_cases e : w = B.cond
      · exact .inl ⟨e, rfl⟩
      · refine .inr ⟨e, ?_⟩
        rcases h1 with h1 | h1 | h1
        · exact .inl h1
        · exact .inr h1
        · exact absurd h1.2 e
  | false =>
    refine if_f (by simp) (H h3 l s3 H3 hl fun w => ?_)
    rw [ho w, ptn_all hB]
    constructor
    · exact fun h1 => h1.imp id .inl
    · rintro (h1 | h1 | h1)
      · exact .inl h1
      · exact .inr h1
      · rw [h1.1] at hf; simp at hf
 refine st_lt (if_t (by omega) ?_)
 have htn:B.next[n]∈next u b:=by rw [hnx];exact List.getElem_mem hn
 have htl:B.next[n]<u.blocks.length:=g.nx b _ htn
 obtain ⟨t,ht⟩:∃t,B.next[n]? = some t:=⟨_,List.getElem?_eq_getElem hn⟩
 obtain ⟨_,hte⟩:=List.getElem?_eq_some_iff.1 ht
 rw [hte] at htl htn
 obtain ⟨T,hT⟩:∃T,u.blocks[t]? = some T:=⟨_,List.getElem?_eq_getElem htl⟩
 obtain ⟨l4,o4,hF4,j1,j2⟩:=iN3.nat ht .i64
 obtain ⟨l6,o6,tv,tn,tp,hF6,k1,k2,kv,kN,kp,_⟩:=hu3.blk hT
 refine oP_mk (pFA_ptr _ _ _) (oP_mk (H3.ld 4 rfl rfl) (oP_mk (pFA_ptr _ _ _) (oP_mk (H3.ld 0 rfl rfl) (oP_mk j1 (oP_mk j2 (oP_mk k1 (oP_mk k2 ?_)))))))
 rw [alO_some]
 obtain ⟨H4,s4⟩:=H3.newC 36 [V.nilSlice,V.int .i64 0,V.int .i64 0,V.nilSlice,V.nilSlice,V.int .i64 0]
 have g4:(h3.new (.cells 36 1 true false [V.nilSlice,V.int .i64 0,V.int .i64 0,V.nilSlice,V.nilSlice,V.int .i64 0])).get h3.next=some (.cells 36 1 true false [V.nilSlice,V.int .i64 0,V.int .i64 0,V.nilSlice,V.nilSlice,V.int .i64 0]):=get_new_self _ _
 generalize h3.new (.cells 36 1 true false [V.nilSlice,V.int .i64 0,V.int .i64 0,V.nilSlice,V.nilSlice,V.int .i64 0])=h4 at *
 refine ⟨⟨g4,O.beq_cells _ _ _ _ _⟩,pLdA_keep k2 (s4.keep _ hF6),pLd_keep j2 (s4.keep _ hF4),H4.ld 1 rfl rfl,H4.ld 5 rfl rfl,?_⟩
 obtain ⟨h5,e5,n5,H5,s5⟩:=H4.stA 0 (ws:=bkC T tv tn tp) (n:=6) rfl rfl rfl (by simp only [bkC,allOne_cons,kv.one,kN.one,kp.one];rfl)
 rw [e5,valP_some]
 simp only [List.set_cons_zero] at H5
 refine ⟨n5,?_⟩
 generalize h3.next=tx at *
 have s45:=s4.trans s5
 have kv5:=kv.since s45
 have kp5:=kp.since s45
 have hu5:=hu3.since s45
 have htp:=good_preds g hT
 have htv:=good_vals g hT
 refine l_turnstoneref14_Live_L6 (fun k x1 x2 x3 x4' x6' x7 x8 x9 x15 x16 x17 h'=>∃(q:Nat) (l2:List Bool),x1 = .ptr lb 0∧x2=vin∧x3=vout∧x4' = x4∧x6' = x6∧x7 = .int .i64 (b:Nat)∧x8=lw∧x9 = .ptr bx 0∧x15 = .int .i64 (n:Nat)∧x16 = .ptr tx 0∧x17 = .int .i64 (q:Nat)∧q+k=T.vals.length∧
  Sn F h5 F h'∧l2.length=u.vals.length∧Hold F h' (cellP tx 36 (bkC T tv tn tp)::cellP bx 36 (bkC B bv bn bp)::rowP eB tyBool l2 lw::rowP (eL eB) tyBools ins vin::rowP (eL eB) tyBools outs vout::cellP lb 29 (uC u vv vb vs)::cs)∧
  (∀(i v:Nat) (x:Vl),i<q→T.vals[i]? = some v→u.vals[v]? = some x→x.op=21)∧∀w,On l2 w↔On l w∨ptq u b T q 0 w) ?_ (k:=T.vals.length)
  ⟨0,l,rfl,rfl,rfl,rfl,rfl,rfl,rfl,rfl,rfl,rfl,rfl,by omega,Sn.refl _ _,hl,H5,fun i _ _ h=>by omega,fun w=>⟨.inl,fun h1=>h1.elim id fun h2=>absurd h2 (ptq_zero _ _ _ _)⟩⟩
 rintro k3 x1 x2 x3 x4' x6' x7 x8 x9 x15 x16 x17 h7 ⟨q,l2,rfl,e2,e3,e4,e6,rfl,e8,rfl,rfl,rfl,rfl,hk3,s7,hl2,H7,hph,ho7⟩
 subst x2 x3 x4' x6' x8
 unfold B_turnstoneref14_Live_L6
 have kv7:=kv5.since s7
 have hu7:=hu5.since s7
 refine oP_mk (pFA_ptr _ _ _) (oP_mk (H7.ld 0 rfl rfl) (oP_mk kv7.len (oP_mk (hbin_lss _ _ _ _) ?_)))
 have stop:(∀(v:Nat) (x:Vl),T.vals[q]? = some v→u.vals[v]? = some x→x.op≠21)→∃k',k' < k∧∃(n:Nat) (l:List Bool),V.ptr lb 0 = .ptr lb 0∧vin=vin∧vout=vout∧x4=x4∧x6=x6∧V.int .i64 (b:Nat) = .int .i64 (b:Nat)∧lw=lw∧V.ptr bx 0 = .ptr bx 0∧V.int .i64 ((B.next.length - k+1:Nat):Int) = .int .i64 (n:Nat)∧n+k' = B.next.length∧Sn F h F h7∧l.length=u.vals.length∧
   Hold F h7 (cellP bx 36 (bkC B bv bn bp)::rowP eB tyBool l lw::rowP (eL eB) tyBools ins vin::rowP (eL eB) tyBools outs vout::cellP lb 29 (uC u vv vb vs)::cs)∧∀w,On l w↔On l0 w∨ptn u b B n w:=by
  intro hst
  refine ⟨k - 1,by omega,n+1,l2,rfl,rfl,rfl,rfl,rfl,rfl,rfl,rfl,by rw [show B.next.length - k+1=n+1 by omega],by omega,(s3.trans s45).trans s7,hl2,H7.tail,fun w=>?_⟩
  rw [ho7 w,ho w,ptn_step ht hT,or_assoc,ptq_all g hT htn hph hst w]
 by_cases hq:q<T.vals.length
 rotate_left
 ·rw [decide_eq_false (by omega)]
  refine oP_mk (pAnd_false _) (st_b (if_f (by simp) ?_))
  refine st_add (m:=1) (by omega) (by omega) ?_
  rw [show n+1=B.next.length - k+1 by omega]
  refine stop fun v x h1 _=>?_
  have:=(List.getElem?_eq_some_iff.1 h1).1
  omega
 rw [decide_eq_true (by omega)]
 obtain ⟨v,hv⟩:∃v,T.vals[q]? = some v:=⟨_,List.getElem?_eq_getElem hq⟩
 have hat:At u v t q:=⟨T,hT,hv⟩
 have hvl:v<u.vals.length:=g.atlt v t q hat
 obtain ⟨x,hx⟩:∃x,u.vals[v]? = some x:=⟨_,List.getElem?_eq_getElem hvl⟩
 obtain ⟨l10,o10,_,q1,q2⟩:=kv7.nat hv .i64
 obtain ⟨l11,o11,xw,_,r1,_,_,ra⟩:=hu7.val hx
 have l3:pLd (.ptr lb (0+2)) h7=some vv:=H7.ld 5 rfl rfl
 have l4' : pLd (.ptr tx (0+0)) h7=some tv:=H7.ld 0 rfl rfl
 have l5' : pLd (.ptr l11 (o11+0)) h7=some (.int .i64 (x.op:Nat)):=ra.op
 have eA:pAnd (.bool true) (oB (pFA 2 (V.ptr lb 0)) fun v111=>oB (pLd v111 h7) fun v112=>oB (pFA 0 (V.ptr tx 0)) fun v113=>oB (pLd v113 h7) fun v114=>oB (some (V.int .i64 (q:Nat))) fun v115=>oB (pIx 1 v114 v115) fun v116=>oB (pLd v116 h7) fun v117=>oB (pIx 6 v112 v117) fun v118=>oB (pFA 0 v118) fun v119=>oB (pLd v119 h7) fun v120=>hbin .eql 3 v120 (V.int .i64 21))=some (.bool (x.op == 21)):=by
  simp only [oB_some',pFA_ptr,l3,l4',q1,q2,r1,l5',hbin_eql,pAnd_true]
  rw [show ((x.op:Int) == 21)=(x.op == 21) from ieq _ 21]
 refine oP_mk eA (st_b ?_)
 cases hc:x.op == 21 with
 | false =>
   refine if_f (by simp) ?_
   refine st_add (m := 1) (by omega) (by omega) ?_
   rw [show n + 1 = B.next.length - k + 1 by omega]
   refine stop fun v' x' h1 h2 => ?_
   rw [hv] at h1; cases h1
   rw [hx] at h2; cases h2
   simpa using hc
 | true =>
   have c21 : x.op = 21 := by simpa using hc
   have hpl := (g.phi _ _ _ _ _ hat hx c21 hT).2
   refine if_t rfl ?_
   refine l_turnstoneref14_Live_L10 (fun k x1 x2 x3 x4' x6' x7 x8 x9 x15 x16 x17 x18 h' => ∃ (m : Nat) (l3 : List Bool), x1 = .ptr lb 0 ∧ x2 = vin ∧ x3 = vout ∧ x4' = x4 ∧ x6' = x6 ∧ x7 = .int .i64 (b : Nat) ∧ x8 = lw ∧ x9 = .ptr bx 0 ∧ x15 = .int .i64 (n : Nat) ∧ x16 = .ptr tx 0 ∧ x17 = .int .i64 (q : Nat) ∧ x18 = .int .i64 (m : Nat) ∧ m + k = T.preds.length ∧
     Sn F h7 F h' ∧ l3.length = u.vals.length ∧ Hold F h' (cellP tx 36 (bkC T tv tn tp) :: cellP bx 36 (bkC B bv bn bp) :: rowP eB tyBool l3 lw :: rowP (eL eB) tyBools ins vin :: rowP (eL eB) tyBools outs vout :: cellP lb 29 (uC u vv vb vs) :: cs) ∧
     ∀ w, On l3 w ↔ On l w ∨ ptq u b T q m w) ?_ (k := T.preds.length)
     ⟨0, l2, rfl, rfl, rfl, rfl, rfl, rfl, rfl, rfl, rfl, rfl, rfl, rfl, by omega, Sn.refl _ _, hl2, H7, ho7⟩
   rintro k4 x1 x2 x3 x4' x6' x7 x8 x9 x15 x16 x17 x18 h8 ⟨m, l3', rfl, e2, e3, e4, e6, rfl, e8, rfl, rfl, rfl, rfl, rfl, hk4, s8, hl3, H8, ho8⟩
   subst x2 x3 x4' x6' x8
   unfold B_turnstoneref14_Live_L10
   have kp8 := (kp5.since s7).since s8
   have kv8 := kv7.since s8
   have hu8 := hu7.since s8
   refine oP_mk (pFA_ptr _ _ _) (oP_mk (H8.ld 0 rfl rfl) (oP_mk kp8.len ?_))
   by_cases hm : m < T.preds.length
   rotate_left
   · refine st_lt (if_f (by omega) ?_)
     obtain rfl : m = T.preds.length := by omega
     refine st_add (m := 1) (by omega) (by omega) ⟨k3 - 1, by omega, q + 1, l3', rfl, rfl, rfl, rfl, rfl, rfl, rfl, rfl, rfl, rfl, rfl, by omega, s7.trans s8, hl3, H8, fun i v' x' hi hv' hx' => ?_, fun w => ?_⟩
     · rcases Nat.lt_or_ge i q with h1 | h1
       · exact hph i v' x' h1 hv' hx'
       · obtain rfl : i = q := by omega
         rw [hv] at hv'; cases hv'
         rw [hx] at hx'; cases hx'
         exact c21
     · rw [ho8 w, ptq_next]
   refine st_lt (if_t (by omega) ?_)
   obtain ⟨p, hp⟩ : ∃ p, T.preds[m]? = some p := ⟨_, List.getElem?_eq_getElem hm⟩
   obtain ⟨l12, o12, _, p1, p2⟩ := kp8.nat hp .i64
   refine oP_mk (pFA_ptr _ _ _) (oP_mk (H8.ld 0 rfl rfl) (oP_mk p1 (oP_mk p2 (oP_mk (hbin_eql _ _ _ _) (st_b ?_)))))
   rw [ieq]
   cases hpb : p == b with
   | true =>
     refine if_t rfl ?_
     rw [beq_iff_eq] at hpb
     subst hpb
     obtain ⟨a, ha⟩ : ∃ a, x.args[m]? = some a := ⟨_, List.getElem?_eq_getElem (show m < x.args.length by omega)⟩
     have hal : a < u.vals.length := by
       refine gives_lt (g.use v x hx a ?_)
       unfold uses
       rw [if_pos c21]
       exact List.mem_of_getElem? ha
     obtain ⟨l13, o13, _, q3, q4⟩ := kv8.nat hv .i64
     obtain ⟨l14, o14, xw2, _, r2, _, rw2, ra2⟩ := hu8.val hx
     obtain ⟨l15, o15, _, t1, t2⟩ := rw2.nat ha .i64
     obtain ⟨l16, o16, h9, e1, e2, n9, H9, s9⟩ := H8.stR 2 rfl (k := a) (y := true) (u := V.bool true) (show a < l3'.length by omega) rfl rfl rfl
     refine oP_mk (pFA_ptr _ _ _) (oP_mk (H8.ld 5 rfl rfl) (oP_mk (pFA_ptr _ _ _) (oP_mk (H8.ld 0 rfl rfl) (oP_mk q3 (oP_mk q4 (oP_mk r2 (oP_mk (pFA_ptr _ _ _) (oP_mk ra2.args (oP_mk t1 (oP_mk t2 (oP_mk e1 ?_)))))))))))
     rw [e2, valP_some]
     simp only [List.set_cons_succ, List.set_cons_zero] at H9
     refine ⟨n9, j_turnstoneref14_Live_R73 ?_⟩
     unfold B_turnstoneref14_Live_R73
     refine st_add (m := 1) (by omega) (by omega) ⟨k4 - 1, by omega, m + 1, l3'.set a true, rfl, rfl, rfl, rfl, rfl, rfl, rfl, rfl, rfl, rfl, rfl, rfl, by omega, s8.trans s9, by simp [hl3], H9, fun w => ?_⟩
     rw [On_set (by omega), ho8 w, ptq_step hv hx c21]
     constructor
     · rintro (⟨rfl, _⟩ | ⟨_, h1 | h1⟩)
       · exact .inr (.inr ⟨hp, ha⟩)
       · exact .inl h1
       · exact .inr (.inl h1)
     · intro h1
       by_cases e : w = a
       · exact .inl ⟨e, rfl⟩
       · refine .inr ⟨e, ?_⟩
         rcases h1 with h2 | h2 | ⟨_, h2⟩
         · exact .inl h2
         · exact .inr h2
         · rw [ha] at h2
           exact absurd (Option.some.inj h2).symm e
   | false =>
     refine if_f (by simp) (j_turnstoneref14_Live_R73 ?_)
     unfold B_turnstoneref14_Live_R73
     refine st_add (m := 1) (by omega) (by omega) ⟨k4 - 1, by omega, m + 1, l3', rfl, rfl, rfl, rfl, rfl, rfl, rfl, rfl, rfl, rfl, rfl, rfl, by omega, s8, hl3, H8, fun w => ?_⟩
     rw [ho8 w, ptq_step hv hx c21]
     constructor
     · exact fun h => h.imp id .inl
     · rintro (h1 | h1 | ⟨h1, _⟩)
       · exact .inl h1
       · exact .inr h1
       · rw [hp] at h1
         obtain rfl := Option.some.inj h1
         simp at hpb
end
end Go.Proofs.YtiepamfpilhcjaaDoor.Hx
namespace Go.Proofs.YtiepamfpilhcjaaDoor.Hx
open Go.Proofs.YtiepamfpilhcjaaDoor.Un Go.Proofs.YtiepamfpilhcjaaDoor.Dm
section
variable {F F' : Nat→Prop} {h h' : Hp} {cs:List Pc} {Q:QP1} {u:U} {vv vb vs:V} {lb bx:Nat} {vin vout lw:V} {ins outs:List (List Bool)}
theorem rf_state {K:Hp→Prop}{l:List Bool}{v:V}{s:Nat}(g:Good u)(H0:Hold F h (rowP eB tyBool l v::cs))(hu:URd F h u vv vb vs)(hl:l.length=u.vals.length)(hs:s<u.states.length)
  (H:∀F' h' l',Sn F h F' h'→Hold F' h' (rowP eB tyBool l' v::cs)→l'.length=u.vals.length→(∀x,On l' x↔On l x∨x∈stFrames u s)→K h') :
  oP (pIx 1 vs (.int .i64 (s:Nat))) fun p=>oP (pLdA 1 p h) fun f=>cP CS n_turnstoneref14_frames [f] h fun w h1=>cP CS n_turnstoneref14_mark [v,w] h1 fun _ h2=>K h2:=by
 obtain ⟨fs,hfs⟩:∃fs,u.states[s]? = some fs:=⟨_,List.getElem?_eq_getElem hs⟩
 obtain ⟨l1,o1,f,_,i1,i2,_,i4⟩:=hu.st hfs
 refine oP_mk i1 (oP_mk i2 ?_)
 have hb:=good_st g s fs hfs
 refine ct_frames H0 i4 hb fun F1 h1 w s1 H1 r1=>?_
 have hlt:=frames_lt g hfs
 have hlen:=frames_len (fs:=fs) hb.2
 refine ct_mark H1 r1 (by omega) (fun x hx=>by rw [hl];exact hlt x hx) fun h2 l2 s2 H2 hl2 ho2=>?_
 refine H F1 h2 l2 (s1.trans s2) H2 (by omega) fun x=>?_
 rw [ho2 x]
 unfold stFrames
 rw [hfs]
theorem rf_end {KL1:QP5}{KL2:QP6}{x4 x6:V}{b:Nat}{B:Bk}{bv bn bp:V}{l0:List Bool}(g:Good u)
  (H0:Hold F h (cellP bx 36 (bkC B bv bn bp)::rfP u vv vb vs lb vin vout lw ins outs l0 cs)) (hu:URd F h u vv vb vs) (hB:u.blocks[b]? = some B) (hl0:l0.length=u.vals.length)
  (H:∀F' h' l,Sn F h F' h'→Hold F' h' (cellP bx 36 (bkC B bv bn bp)::rfP u vv vb vs lb vin vout lw ins outs l cs)→l.length=u.vals.length→(∀w,On l w↔On l0 w∨(B.fin=3∧w∈stFrames u B.state))→
   J_turnstoneref14_Live_R35 CS Q KL1 KL2 (.ptr lb 0) vin vout x4 x6 (.int .i64 (b:Nat)) lw (.ptr bx 0) h') :
  J_turnstoneref14_Live_R29 CS Q KL1 KL2 (.ptr lb 0) vin vout x4 x6 (.int .i64 (b:Nat)) lw (.ptr bx 0) h:=by
 unfold rfP at H0 H
 refine j_turnstoneref14_Live_R29 ?_
 unfold B_turnstoneref14_Live_R29
 refine oP_mk (pFA_ptr _ _ _) (oP_mk (H0.ld 0 rfl rfl) (oP_mk (hbin_eql _ _ _ _) (st_b ?_)))
 rw [show ((B.fin:Int) == 3)=(B.fin == 3) from ieq _ 3]
 cases hf:B.fin == 3 with
 | false =>
   refine if_f (by simp) (H F h l0 (Sn.refl _ _) H0 hl0 fun w => ⟨.inl, ?_⟩)
   rintro (h1 | ⟨h1, _⟩)
   · exact h1
   · rw [h1] at hf; simp at hf
 | true =>
   refine if_t rfl ?_
   have hf3 : B.fin = 3 := by simpa using hf
   have hs : B.state < u.states.length := by
     rcases g.fin b B hB with ⟨e, _⟩ | ⟨e, _⟩ | ⟨_, _, e⟩
     · omega
     · omega
     · exact e
   refine oP_mk (pFA_ptr _ _ _) (oP_mk (H0.ld 4 rfl rfl) (oP_mk (pFA_ptr _ _ _) (oP_mk (H0.ld 0 rfl rfl) ?_)))
   refine rf_state g H0.sw hu hl0 hs fun F1 h1 l1 s1 H1 hl1 ho1 => H F1 h1 l1 s1 H1.sw hl1 fun w => ?_
   rw [ho1 w]
   exact ⟨fun h => h.imp id fun h => ⟨hf3, h⟩, fun h => h.imp id fun h => h.2⟩
theorem rf_back {KL1:QP5}{KL2:QP6}{x4 x6:V}{b:Nat}{B:Bk}{bv bn bp:V}{l0:List Bool}(g:Good u)
  (H0:Hold F h (cellP bx 36 (bkC B bv bn bp)::rfP u vv vb vs lb vin vout lw ins outs l0 cs)) (hu:URd F h u vv vb vs) (hB:u.blocks[b]? = some B) (iv:SlR eN F h B.vals bv) (hl0:l0.length=u.vals.length)
  (H:∀F' h' cur v,Sn F h F' h'→Hold F' h' (rowP eB tyBool cur v::rfP u vv vb vs lb vin vout lw ins outs l0 cs)→cur.length=u.vals.length→(∀w,On cur w↔BackP u b (On l0) w)→
   J_turnstoneref14_Live_R44 CS Q KL1 KL2 (.ptr lb 0) vin vout x4 x6 (.int .i64 (b:Nat)) lw v h') :
  J_turnstoneref14_Live_R35 CS Q KL1 KL2 (.ptr lb 0) vin vout x4 x6 (.int .i64 (b:Nat)) lw (.ptr bx 0) h:=by
 have nv:=g.nv
 have nb:=g.nb
 have hvo:valsOf u b=B.vals:=by unfold valsOf;rw [hB]
 unfold rfP at H0 H
 refine j_turnstoneref14_Live_R35 ?_
 unfold B_turnstoneref14_Live_R35
 rw [pBS_zero,alP_some]
 obtain ⟨H2,s2⟩:=H0.newR (E:=eB) (xs:=[]) (ws:=[]) (n:=0) tyBool rfl trivial rfl
 have H2:Hold F (h.new (.cells 4 1 true false [])) (rowP eB tyBool [] (.slice h.next 0 0)::_):=H2
 have s2:Sn F h F (h.new (.cells 4 1 true false [])):=s2
 generalize h.new (.cells 4 1 true false [])=h2 at *
 obtain ⟨v3,h3,e3,n3,H3,s3⟩:=H2.appO 0 2 rfl rfl (by_:=1) (by decide) (by decide) (by simp;omega)
 have e3' : happend 4 1 1 (.slice h.next 0 0) lw h2=some (.val v3 h3):=e3
 rw [e3',valP_some]
 simp only [List.set_cons_zero,List.nil_append] at H3
 have s03:=s2.trans s3
 have iv3:=iv.since s03
 have hbv:=good_vals g hB
 have wsub:∀n:Nat,n≤3000→wrapF .i64 (((n:Nat):Int) - 1)=(n:Int) - 1:=fun n hn=>by rw [wrapF_in (by simp only [inK];omega)]
 refine oP_mk (pFA_ptr _ _ _) (oP_mk (H3.ld 1 rfl rfl) (oP_mk iv3.len (oP_mk (hbin_sub _ _ _ _) ?_)))
 rw [wsub _ hbv]
 refine l_turnstoneref14_Live_L7 (fun k x1 x2 x3 x4' x6' x7 x8 x9 x19 x20 h'=>∃(F' : Nat→Prop) (l d:List Nat) (cur:List Bool),x1 = .ptr lb 0∧x2=vin∧x3=vout∧x4' = x4∧x6' = x6∧x7 = .int .i64 (b:Nat)∧x8=lw∧x9 = .ptr bx 0∧x19=v3∧x20 = .int .i64 ((l.length:Int) - 1)∧k=l.length∧B.vals=l++d∧Sn F h F' h'∧cur.length=u.vals.length∧
  Hold F' h' (rowP eB tyBool cur v3::cellP bx 36 (bkC B bv bn bp)::rowP eB tyBool l0 lw::rowP (eL eB) tyBools ins vin::rowP (eL eB) tyBools outs vout::cellP lb 29 (uC u vv vb vs)::cs)∧∀w,bk u l.reverse (On cur) w↔BackP u b (On l0) w) ?_ (k:=B.vals.length)
  ⟨F,B.vals,[],l0,rfl,rfl,rfl,rfl,rfl,rfl,rfl,rfl,rfl,rfl,rfl,by simp,s03,hl0,H3,fun w=>by unfold BackP;rw [hvo]⟩
 rintro k x1 x2 x3 x4' x6' x7 x8 x9 x19 x20 h6 ⟨F6,l,d,cur,rfl,e2,e3,e4,e6,rfl,e8,rfl,e19,rfl,hk,hld,s6,hcl,H6,hbk⟩
 subst x2 x3 x4' x6' x8 x19
 unfold B_turnstoneref14_Live_L7
 have hll:l.length≤B.vals.length:=by rw [hld,List.length_append];omega
 rcases eq_nil_or_snoc l with rfl | ⟨s,v,rfl⟩
 ·refine st_ge (if_f (by simp) ?_)
  exact H F6 h6 cur v3 s6 H6.drop1 hcl fun w=>hbk w
 have hsl:((s++[v]).length:Int) - 1=(s.length:Nat):=by simp
 rw [hsl]
 refine st_ge (if_t (by omega) ?_)
 have hget:B.vals[s.length]? = some v:=by rw [hld];simp
 have hat:At u v b s.length:=⟨B,hB,hget⟩
 have hvl:=g.atlt v b _ hat
 obtain ⟨x,hx⟩:∃x,u.vals[v]? = some x:=⟨_,List.getElem?_eq_getElem hvl⟩
 have iv6:SlR eN F6 h6 B.vals bv:=iv.since s6
 have hu6:=hu.since s6
 obtain ⟨l7,o7,hF7,p1,p2⟩:=iv6.nat hget .i64
 obtain ⟨l8,o8,xw,hF8,r1,r2,rw8,_⟩:=hu6.val hx
 refine oP_mk (pFA_ptr _ _ _) (oP_mk (H6.ld 5 rfl rfl) (oP_mk (pFA_ptr _ _ _) (oP_mk (H6.ld 1 rfl rfl) (oP_mk p1 (oP_mk p2 (oP_mk r1 (oP_mk r2 ?_)))))))
 rw [alO_some]
 obtain ⟨H7,s7⟩:=H6.newC 39 [V.int .i64 0,V.int .i64 0,V.int .i64 0,V.int .i64 0,V.nilSlice,V.int .i64 0]
 have g7:(h6.new (.cells 39 1 true false [V.int .i64 0,V.int .i64 0,V.int .i64 0,V.int .i64 0,V.nilSlice,V.int .i64 0])).get h6.next=some (.cells 39 1 true false [V.int .i64 0,V.int .i64 0,V.int .i64 0,V.int .i64 0,V.nilSlice,V.int .i64 0]):=get_new_self _ _
 generalize h6.new (.cells 39 1 true false [V.int .i64 0,V.int .i64 0,V.int .i64 0,V.int .i64 0,V.nilSlice,V.int .i64 0])=h7 at *
 refine ⟨⟨g7,O.beq_cells _ _ _ _ _⟩,pLdA_keep r2 (s7.keep _ hF8),pLd_keep p2 (s7.keep _ hF7),H7.ld 2 rfl rfl,H7.ld 6 rfl rfl,?_⟩
 obtain ⟨h8,e8,n8,H8,s8⟩:=H7.stA 0 (ws:=vlC x xw) (n:=6) rfl rfl rfl (by simp only [vlC,allOne_cons,rw8.one];rfl)
 rw [e8,valP_some]
 simp only [List.set_cons_zero] at H8
 refine ⟨n8,?_⟩
 generalize h6.next=xc at *
 have s78:=s7.trans s8
 have H8:=H8.sw
 have lop:pLd (.ptr xc (0+0)) h8=some (.int .i64 (x.op:Nat)):=H8.ld 1 rfl rfl
 refine oP_mk (pFA_ptr _ _ _) (oP_mk lop (oP_mk (hbin_eql _ _ _ _) ?_))
 have eH:pOr (.bool ((x.op:Int) == 21)) (oB (pFA 0 (V.ptr xc 0)) fun v240=>oB (pLd v240 h8) fun v241=>hbin .eql 3 v241 (V.int .i64 1))=some (.bool (headB u v)):=by
  simp only [oB_some',pFA_ptr,lop,hbin_eql,pOr_bool]
  unfold headB
  rw [hx]
  show _=some (V.bool (isHead x.op))
  unfold isHead
  rw [show ((x.op:Int) == 21)=(x.op == 21) from ieq _ 21,show ((x.op:Int) == 1)=(x.op == 1) from ieq _ 1,Bool.or_comm]
 refine oP_mk eH (st_b ?_)
 rw [List.reverse_append] at hbk
 simp only [List.reverse_cons,List.reverse_nil,List.nil_append,List.singleton_append] at hbk
 cases hq:headB u v with
 | true =>
   refine if_t rfl (H F6 h8 cur v3 (s6.trans s78) H8.drop1.drop1 hcl fun w => ?_)
   rw [← hbk w]
   unfold bk
   rw [if_pos hq]
 | false =>
   refine if_f (by simp) ?_
   obtain ⟨l9, o9, _, p3, p4⟩ := (iv6.since s78).nat hget .i64
   obtain ⟨l10, o10, h10, e10, e11, _, H10, s10⟩ := H8.stR 0 rfl (k := v) (y := false) (u := V.bool false) (show v < cur.length by omega) rfl rfl rfl
   refine oP_mk (pFA_ptr _ _ _) (oP_mk (H8.ld 2 rfl rfl) (oP_mk p3 (oP_mk p4 (oP_mk e10 ?_))))
   rw [e11, valP_some]
   simp only [List.set_cons_succ, List.set_cons_zero] at H10
   have rw10 := (rw8.since s78).since s10
   refine oP_mk (H10.ldA 1 rfl rfl) ?_
   refine ct_refUses H10 rw10 fun F11 h11 vu s11 H11 r11 => ?_
   have hargs := good_args g hx
   have huse : ∀ y ∈ uses x, y < u.vals.length := fun y hy => gives_lt (g.use v x hx y hy)
   have hcl10 : (cur.set v false).length = u.vals.length := by rw [List.length_set]; exact hcl
   refine ct_mark H11 r11 (by have := uses_len hargs; omega) (fun y hy => by rw [hcl10]; exact huse y hy) fun h12 l12 s12 H12 hl12 ho12 => ?_
   have lop2 : pLd (.ptr xc (0 + 0)) h12 = some (.int .i64 (x.op : Nat)) := H12.ld 1 rfl rfl
   refine oP_mk (pFA_ptr _ _ _) (oP_mk lop2 (oP_mk (hbin_eql _ _ _ _) ?_))
   have eLv : pOr (.bool ((x.op : Int) == 22)) (oB (pFA 0 (.ptr xc 0)) fun v26 => oB (pLd v26 h12) fun v27 => hbin .eql 3 v27 (V.int .i64 23)) = some (.bool (leaves x.op)) := by
     simp only [pFA_ptr, oB_some', lop2, hbin_eql, pOr_bool]
     unfold leaves
     rw [show ((x.op : Int) == 22) = (x.op == 22) from ieq _ 22, show ((x.op : Int) == 23) = (x.op == 23) from ieq _ 23]
   refine oP_mk eLv (st_b ?_)
   have s612 := (((s6.trans s78).trans s10).trans s11).trans s12
   have hu12 := hu.since s612
   have hset : ∀ y, On (cur.set v false) y ↔ On cur y ∧ y ≠ v := fun y => by
     rw [On_set (by omega)]
     constructor
     · rintro (⟨_, h⟩ | ⟨h1, h2⟩)
       · cases h
       · exact ⟨h2, h1⟩
     · exact fun h => .inr ⟨h.2, h.1⟩
   have fin : ∀ (F' : Nat → Prop) (h' : Hp) (cur' : List Bool), Sn F6 h6 F' h' → Hold F' h' (rowP eB tyBool cur' v3 :: cellP xc 39 (vlC x xw) :: cellP bx 36 (bkC B bv bn bp) :: rowP eB tyBool l0 lw :: rowP (eL eB) tyBools ins vin :: rowP (eL eB) tyBools outs vout :: cellP lb 29 (uC u vv vb vs) :: cs) → cur'.length = u.vals.length →
       (∀ y, On cur' y ↔ (On cur y ∧ y ≠ v) ∨ y ∈ takes u v) → J_turnstoneref14_Live_R61 CS Q KL1 KL2 (fun x1 x2 x3 x4' x6' x7 x8 x9 x19 x20 h' => ∃ k', k' < k ∧ ∃ (F' : Nat → Prop) (l d : List Nat) (cur : List Bool), x1 = .ptr lb 0 ∧ x2 = vin ∧ x3 = vout ∧ x4' = x4 ∧ x6' = x6 ∧ x7 = .int .i64 (b : Nat) ∧ x8 = lw ∧ x9 = .ptr bx 0 ∧ x19 = v3 ∧ x20 = .int .i64 ((l.length : Int) - 1) ∧ k' = l.length ∧ B.vals = l ++ d ∧ Sn F h F' h' ∧ cur.length = u.vals.length ∧
         Hold F' h' (rowP eB tyBool cur v3 :: cellP bx 36 (bkC B bv bn bp) :: rowP eB tyBool l0 lw :: rowP (eL eB) tyBools ins vin :: rowP (eL eB) tyBools outs vout :: cellP lb 29 (uC u vv vb vs) :: cs) ∧ ∀ w, bk u l.reverse (On cur) w ↔ BackP u b (On l0) w)
         (.ptr lb 0) vin vout x4 x6 (.int .i64 (b : Nat)) lw (.ptr bx 0) v3 (.int .i64 (s.length : Nat)) h' := by
     intro F' h' cur' s' H' hcl' hon
     refine j_turnstoneref14_Live_R61 ?_
     unfold B_turnstoneref14_Live_R61
     refine oP_mk (hbin_sub _ _ _ _) ?_
     rw [wsub s.length (by simp at hll; omega)]
     refine ⟨s.length, by rw [hk]; simp, F', s, v :: d, cur', rfl, rfl, rfl, rfl, rfl, rfl, rfl, rfl, rfl, rfl, rfl, by rw [hld]; simp, s6.trans s', hcl', H'.drop1, fun w => ?_⟩
     rw [← hbk w]
     conv => rhs; unfold bk
     rw [if_neg (by rw [hq]; simp)]
     exact bk_congr hon w
   have s712 := ((s78.trans s10).trans s11).trans s12
   cases hlv : leaves x.op with
   | false =>
     refine if_f (by simp) (fin F11 h12 l12 s712 H12 (by omega) fun y => ?_)
     rw [ho12 y, hset y]
     unfold takes
     rw [hx]
     simp [hlv]
   | true =>
     refine if_t rfl ?_
     have hsl := g.leave v x hx hlv
     refine oP_mk (pFA_ptr _ _ _) (oP_mk (H12.ld 6 rfl rfl) (oP_mk (pFA_ptr _ _ _) (oP_mk (H12.ld 1 rfl rfl) ?_)))
     refine rf_state g H12 hu12 (by omega) hsl fun F' h' l' s' H' hl' ho' => fin F' h' l' (s712.trans s') H' hl' fun y => ?_
     rw [ho' y, ho12 y, hset y]
     unfold takes
     rw [hx]
     simp [hlv, or_assoc]
end
end Go.Proofs.YtiepamfpilhcjaaDoor.Hx
