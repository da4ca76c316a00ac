/- Parts of the proof. -/
import Derived.Test.YtiepamfpilhcjaaDoorM29
import Derived.Test.YtiepamfpilhcjaaDoorM33
namespace Go.Proofs.YtiepamfpilhcjaaDoor.Hx
open Go.Proofs.YtiepamfpilhcjaaDoor.Un Go.Proofs.YtiepamfpilhcjaaDoor.Dm
section
variable {F F' : Nat→Prop} {h h' : Hp} {cs:List Pc} {Q:QP1} {u:U} {vv vb vs:V}
theorem SlR.frm2 {fs:List Fm}{f:V}(a:SlR eF F h fs f){i:Nat}{x:Fm}(hx:fs[i]? = some x) :
  ∃l o a b,F l∧pIx 4 f (.int .i64 (i:Nat))=some (.ptr l o)∧pLd (.ptr l (o+2)) h=some a∧pLd (.ptr l (o+3)) h=some b∧SlR eN F h x.locals a∧SlR eN F h x.stack b:=by
 obtain ⟨hi,rfl⟩:=List.getElem?_eq_some_iff.1 hx
 obtain ⟨l,o,w,h1,h2,h3,⟨a,b,rfl,h5,h6⟩,h7⟩:=a.ix hi .i64
 exact ⟨l,o,a,b,h1,h2,h7 2 a rfl,h7 3 b rfl,h5,h6⟩
theorem frames_len:∀{fs:List Fm},(∀f∈fs,f.locals.length≤40∧f.stack.length≤60)→(frames fs).length≤fs.length * 100
 | [],_=>by simp [frames]
 | f :: fs, hf => by
   have ih := frames_len (fs := fs) fun f hm => hf f (List.mem_cons_of_mem _ hm)
   obtain ⟨h1, h2⟩ := hf f (List.mem_cons_self ..)
   unfold frames at ih ⊢
   simp only [List.flatMap_cons, List.length_append, List.length_cons]
   omega
theorem ct_mark {l:List Bool}{v w:V}{ws:List Nat}(H0:Hold F h (rowP eB tyBool l v::cs))(hs:SlR eN F h ws w)(hn:ws.length<1000000)(hw:∀x∈ws,x<l.length)
  (H:∀h' l',Sn F h F h'→Hold F h' (rowP eB tyBool l' v::cs)→l'.length=l.length→(∀x,On l' x↔On l x∨x∈ws)→Q (.tuple []) h'):cP CS n_turnstoneref14_mark [v,w] h Q:=by
 refine c_turnstoneref14_mark rfl rfl ?_
 unfold B_turnstoneref14_mark
 refine l_turnstoneref14_mark_L0 (fun k x0 x1 x4 h'=>∃(i:Nat) (l' : List Bool),x0=v∧x1=w∧x4 = .int .i64 (i:Nat)∧i+k=ws.length∧Sn F h F h'∧Hold F h' (rowP eB tyBool l' v::cs)∧l'.length=l.length∧∀x,On l' x↔On l x∨x∈ws.take i) ?_ (k:=ws.length)
  ⟨0,l,rfl,rfl,rfl,by omega,Sn.refl _ _,H0,rfl,fun x=>by simp⟩
 rintro k x0 x1 x4 h1 ⟨i,l1,e0,e1,rfl,hk,s1,H1,hl1,ho⟩
 subst x0 x1
 unfold B_turnstoneref14_mark_L0
 refine oP_mk (hs.since s1).len ?_
 by_cases hi:i<ws.length
 rotate_left
 ·refine st_lt (if_f (by omega) (H h1 l1 s1 H1 hl1 fun x=>?_))
  rw [ho x,List.take_of_length_le (by omega)]
 refine st_lt (if_t (by omega) ?_)
 obtain ⟨l2,o2,_,i1,i2⟩:=(hs.since s1).nat (List.getElem?_eq_getElem hi) .i64
 have hx:=hw _ (List.getElem_mem hi)
 obtain ⟨l3,o3,h3,e1,e2,_,H3,s3⟩:=H1.stR 0 rfl (k:=ws[i]) (y:=true) (u:=V.bool true) (by omega) rfl rfl rfl
 refine oP_mk i1 (oP_mk i2 (oP_mk e1 ?_))
 rw [e2,valP_some]
 simp only [List.set_cons_zero] at H3
 refine st_add (m:=1) (by omega) (by omega) ⟨k - 1,by omega,i+1,l1.set ws[i] true,rfl,rfl,rfl,by omega,s1.trans s3,H3,by simp [hl1],fun x=>?_⟩
 rw [On_set (by omega),List.take_succ_eq_append_getElem hi,ho x]
 simp only [and_true,List.mem_append,List.mem_singleton]
 constructor
 ·rintro (h1 | ⟨_,h1 | h1⟩)
  ·exact .inr (.inr h1)
  ·exact .inl h1
  ·exact .inr (.inl h1)
 ·rintro (h1 | h1 | h1)
  ·by_cases e:x=ws[i]
   ·exact .inl e
   ·exact .inr ⟨e, .inl h1⟩
  ·by_cases e:x=ws[i]
   ·exact .inl e
   ·exact .inr ⟨e, .inr h1⟩
  ·exact .inl h1
theorem ct_frames {fs:List Fm}{f:V}(H0:Hold F h cs)(hs:SlR eF F h fs f)(hf:fs.length≤30∧∀f∈fs,f.locals.length≤40∧f.stack.length≤60)
  (H:∀F' h' v,Sn F h F' h'→Hold F' h' cs→SlR eN F' h' (frames fs) v→Q v h'):cP CS n_turnstoneref14_frames [.agg [f]] h Q:=by
 refine c_turnstoneref14_frames rfl rfl ?_
 unfold B_turnstoneref14_frames
 refine st_box H0 (by simp only [allOne_cons,hs.one];rfl) fun h1 H1 s1=>?_
 generalize h.next=bx at *
 have H1:Hold F h1 (rowP eN tyInt [] .nilSlice::cellP bx 60 [f]::cs):=H1.add .nil fun _ h=>h
 refine l_turnstoneref14_frames_L0 (fun k x1 x3 x4 h'=>∃(j:Nat) (v:V),x1 = .ptr bx 0∧x3=v∧x4 = .int .i64 (j:Nat)∧j+k=fs.length∧Sn F h1 F h'∧Hold F h' (rowP eN tyInt (frames (fs.take j)) v::cellP bx 60 [f]::cs)) ?_ (k:=fs.length)
  ⟨0,_,rfl,rfl,rfl,by omega,Sn.refl _ _,H1⟩
 rintro k x1 x3 x4 h2 ⟨j,v,rfl,e3,rfl,hk,s2,H2⟩
 subst x3
 unfold B_turnstoneref14_frames_L0
 have hs2:=(hs.since s1).since s2
 refine oP_mk (pFA_ptr _ _ _) (oP_mk (H2.ld 1 rfl rfl) (oP_mk hs2.len ?_))
 by_cases hj:j<fs.length
 rotate_left
 ·refine st_lt (if_f (by omega) ?_)
  rw [List.take_of_length_le (by omega)] at H2
  obtain ⟨H3,s3,r3⟩:=H2.freezeR 0 rfl
  simp only [List.set_cons_zero] at H3
  exact H _ _ _ ((s1.trans s2).trans s3) H3.tail.tail r3
 refine st_lt (if_t (by omega) ?_)
 obtain ⟨l,o,a,c,hl,i1,i2,i3,ia,ic⟩:=hs2.frm2 (List.getElem?_eq_getElem hj)
 obtain ⟨f1,f2⟩:=hf.2 _ (List.getElem_mem hj)
 have hlen:=frames_len (fs:=fs.take j) fun f hm=>hf.2 f (List.mem_of_mem_take hm)
 rw [List.length_take] at hlen
 have hlen2:(frames (fs.take j)).length≤3000:=by
  have:=hf.1
  have:min j fs.length≤30:=by omega
  omega
 refine oP_mk (pFA_ptr _ _ _) (oP_mk (H2.ld 1 rfl rfl) (oP_mk i1 (oP_mk (pFA_ptr _ _ _) (oP_mk i2 (oP_mk (pFA_ptr _ _ _) (oP_mk (H2.ld 1 rfl rfl) (oP_mk i1 (oP_mk (pFA_ptr _ _ _) (oP_mk i3 ?_)))))))))
 obtain ⟨v3,h3,e3,n3,H3,s3⟩:=H2.appR 0 rfl (by_:=8) ia (by decide) (by decide) (by omega)
 have e3' : happend 3 1 8 v a h2=some (.val v3 h3):=e3
 rw [e3',valP_some]
 simp only [List.set_cons_zero] at H3
 refine ⟨n3,pLd_keep i3 (s3.keep _ hl),H3.ld 1 rfl rfl,?_⟩
 obtain ⟨v4,h4,e4,n4,H4,s4⟩:=H3.appR 0 rfl (by_:=8) (ic.since s3) (by decide) (by decide) (by simp only [List.length_append];omega)
 have e4' : happend 3 1 8 v3 c h3=some (.val v4 h4):=e4
 rw [e4',valP_some]
 simp only [List.set_cons_zero] at H4
 refine ⟨n4,st_add (m:=1) (by omega) (by omega) ⟨k - 1,by omega,j+1,v4,rfl,rfl,rfl,by omega,(s2.trans s3).trans s4,?_⟩⟩
 have e5:frames (fs.take (j+1))=frames (fs.take j)++fs[j].locals++fs[j].stack:=by
  rw [List.take_succ_eq_append_getElem hj]
  unfold frames
  simp only [List.flatMap_append,List.flatMap_cons,List.flatMap_nil,List.append_nil,List.append_assoc]
 rw [e5]
 exact H4
theorem ct_rows {xs:List (List Bool)}{va vb:V}(ha:SlR (eL eB) F h xs va)(hb:SlR (eL eB) F h xs vb)(hn:xs.length<1000000)(hr:∀r∈xs,r.length<1000000)(H:Q (.bool true) h) :
  cP CS n_turnstonelaw24_rows [va,vb] h Q:=by
 refine c_turnstonelaw24_rows rfl rfl ?_
 unfold B_turnstonelaw24_rows
 refine oP_mk ha.len (oP_mk hb.len ?_)
 refine oP_mk (hbin_neq _ _ _ _) (st_b (if_f (by simp) ?_))
 refine l_turnstonelaw24_rows_L0 (fun k x0 x1 x5 h'=>∃i:Nat,x0=va∧x1=vb∧x5 = .int .i64 (i:Nat)∧i+k=xs.length∧h' = h) ?_ (k:=xs.length) ⟨0,rfl,rfl,rfl,by omega,rfl⟩
 rintro k x0 x1 x5 h1 ⟨i,e0,e1,rfl,hk,e⟩
 subst x0 x1 h1
 unfold B_turnstonelaw24_rows_L0
 refine oP_mk ha.len ?_
 by_cases hi:i<xs.length
 rotate_left
 ·exact st_lt (if_f (by omega) H)
 refine st_lt (if_t (by omega) ?_)
 obtain ⟨l1,o1,w1,_,p1,p2,p3⟩:=ha.list (List.getElem?_eq_getElem hi) .i64
 obtain ⟨l2,o2,w2,_,q1,q2,q3⟩:=hb.list (List.getElem?_eq_getElem hi) .i64
 have hri:=hr _ (List.getElem_mem hi)
 refine oP_mk p1 (oP_mk p2 (oP_mk p3.len (oP_mk q1 (oP_mk q2 (oP_mk q3.len ?_)))))
 refine oP_mk (hbin_neq _ _ _ _) (st_b (if_f (by simp) ?_))
 refine l_turnstonelaw24_rows_L1 (fun k x0 x1 x5 x6 h'=>∃j:Nat,x0=va∧x1=vb∧x5 = .int .i64 (i:Nat)∧x6 = .int .i64 (j:Nat)∧j+k=xs[i].length∧h' = h) ?_ (k:=xs[i].length) ⟨0,rfl,rfl,rfl,rfl,by omega,rfl⟩
 rintro k2 x0 x1 x5 x6 h1 ⟨j,e0,e1,rfl,rfl,hk2,e⟩
 subst x0 x1 h1
 unfold B_turnstonelaw24_rows_L1
 refine oP_mk p1 (oP_mk p2 (oP_mk p3.len ?_))
 by_cases hj:j<xs[i].length
 rotate_left
 ·exact st_lt (if_f (by omega) (st_add (m:=1) (by omega) (by omega) ⟨k - 1,by omega,i+1,rfl,rfl,rfl,by omega,rfl⟩))
 refine st_lt (if_t (by omega) ?_)
 obtain ⟨l3,o3,_,m1,m2⟩:=p3.bool (List.getElem?_eq_getElem hj) .i64
 obtain ⟨l4,o4,_,n1,n2⟩:=q3.bool (List.getElem?_eq_getElem hj) .i64
 refine oP_mk p1 (oP_mk p2 (oP_mk m1 (oP_mk m2 (oP_mk q1 (oP_mk q2 (oP_mk n1 (oP_mk n2 ?_)))))))
 refine oP_mk (hbin_neqB' _ _) (st_b (if_f (by simp) ?_))
 exact st_add (m:=1) (by omega) (by omega) ⟨k2 - 1,by omega,j+1,rfl,rfl,rfl,rfl,by omega,rfl⟩
end
end Go.Proofs.YtiepamfpilhcjaaDoor.Hx
namespace Go.Proofs.YtiepamfpilhcjaaDoor.Hx
open Go.Proofs.YtiepamfpilhcjaaDoor.Un Go.Proofs.YtiepamfpilhcjaaDoor.Dm
theorem phis_head {u:U}(g:Good u){t b j:Nat}{T:Bk}(hT:u.blocks[t]? = some T)(hb:t∈next u b)(h1:∀(i v:Nat)(x:Vl),i<j→T.vals[i]? = some v→u.vals[v]? = some x→x.op=21)
  (h2:∀(v:Nat) (x:Vl),T.vals[j]? = some v→u.vals[v]? = some x→x.op≠21) (w:Nat):w∈T.vals.take j↔headIn u t w:=by
 have hvo:valsOf u t=T.vals:=by unfold valsOf;rw [hT]
 unfold headIn
 rw [hvo]
 have t0:t≠0:=fun e=>by
  have h3:b∈Un.ahead u t:=mem_ahead.2 hb
  rw [e,g.preds0] at h3
  cases h3
 have two:∀(v x k:Nat) (X:Vl),T.vals[k]? = some v→u.vals[v]? = some X→headB u v=true→X.op=21:=by
  intro v _ k X hk hX hh
  unfold headB at hh
  rw [hX] at hh
  have hh:isHead X.op=true:=hh
  unfold isHead at hh
  rw [Bool.or_eq_true,beq_iff_eq,beq_iff_eq] at hh
  rcases hh with e | e
  ·exact absurd (g.par v t k X ⟨T,hT,hk⟩ hX e) t0
  ·exact e
 constructor
 ·intro hw
  refine ⟨List.mem_of_mem_take hw,?_⟩
  obtain ⟨i,hi⟩:=List.mem_iff_getElem?.1 hw
  have hij:i<j:=by
   have:=(List.getElem?_eq_some_iff.1 hi).1
   rw [List.length_take] at this
   omega
  rw [List.getElem?_take_of_lt hij] at hi
  have hvl:=g.atlt w t i ⟨T,hT,hi⟩
  have hx:=List.getElem?_eq_getElem hvl
  have h3:=h1 i w _ hij hi hx
  unfold headB
  rw [hx]
  show isHead _=true
  unfold isHead
  rw [h3];rfl
 ·rintro ⟨hw,hh⟩
  obtain ⟨k,hk⟩:=List.mem_iff_getElem?.1 hw
  rcases Nat.lt_or_ge k j with h3 | h3
  ·exact List.mem_of_getElem? ((List.getElem?_take_of_lt h3).trans hk)
  ·exfalso
   have hkl:=(List.getElem?_eq_some_iff.1 hk).1
   have hj:=List.getElem?_eq_getElem (show j<T.vals.length by omega)
   have h4:=Good.headsUp g (w:=T.vals[j]) (j:=j) ⟨T,hT,hk⟩ hh ⟨T,hT,hj⟩ h3
   have hvl:=g.atlt _ t j ⟨T,hT,hj⟩
   have hx:=List.getElem?_eq_getElem hvl
   exact h2 _ _ hj hx (two _ 0 _ _ hj hx h4)
section
variable {F F' : Nat→Prop} {h h' : Hp} {cs:List Pc} {Q:QP1} {u:U} {vv vb vs:V} {lb bx:Nat} {vin vout lw:V} {ins outs:List (List Bool)}
def rfP (u:U)(vv vb vs:V)(lb:Nat)(vin vout lw:V)(ins outs:List (List Bool))(l:List Bool)(cs:List Pc):List Pc:=
 rowP eB tyBool l lw::rowP (eL eB) tyBools ins vin::rowP (eL eB) tyBools outs vout::cellP lb 29 (uC u vv vb vs)::cs
theorem rf_ln {KL1:QP5}{KL2:QP6}{x4 x6:V}{b:Nat}{B:Bk}{bv bn bp:V}{l0:List Bool}(g:Good u)
  (H0:Hold F h (cellP bx 36 (bkC B bv bn bp)::rfP u vv vb vs lb vin vout lw ins outs l0 cs)) (hu:URd F h u vv vb vs) (hB:u.blocks[b]? = some B) (iN:SlR eN F h B.next bn) (hi1:ins.length=u.blocks.length) (hi2:∀r∈ins,r.length=u.vals.length)
  (hl0:l0.length=u.vals.length) (ho0:∀w,¬On l0 w)
  (H:∀h' l,Sn F h F h'→Hold F h' (cellP bx 36 (bkC B bv bn bp)::rfP u vv vb vs lb vin vout lw ins outs l cs)→l.length=u.vals.length→(∀w,On l w↔ln (inOf ins) (headIn u) (next u b) (fun _=>False) w)→
   J_turnstoneref14_Live_L4 CS Q KL1 KL2 (.ptr lb 0) vin vout x4 x6 (.int .i64 (b:Nat)) lw (.ptr bx 0) (.int .i64 (0:Nat)) h') :
  J_turnstoneref14_Live_L3 CS Q KL1 KL2 (.ptr lb 0) vin vout x4 x6 (.int .i64 (b:Nat)) lw (.ptr bx 0) (.int .i64 (0:Nat)) h:=by
 have nv:=g.nv
 have nb:=g.nb
 have hnx:next u b=B.next:=by unfold next;rw [hB]
 have hn2:=good_next g hB
 unfold rfP at H0 H
 refine l_turnstoneref14_Live_L3 (fun k x1 x2 x3 x4' x6' x7 x8 x9 x10 h'=>∃(n:Nat) (l:List Bool),x1 = .ptr lb 0∧x2=vin∧x3=vout∧x4' = x4∧x6' = x6∧x7 = .int .i64 (b:Nat)∧x8=lw∧x9 = .ptr bx 0∧x10 = .int .i64 (n:Nat)∧n+k=B.next.length∧Sn F h F h'∧l.length=u.vals.length∧
  Hold F h' (cellP bx 36 (bkC B bv bn bp)::rowP eB tyBool l lw::rowP (eL eB) tyBools ins vin::rowP (eL eB) tyBools outs vout::cellP lb 29 (uC u vv vb vs)::cs)∧∀w,On l w↔ln (inOf ins) (headIn u) (B.next.take n) (fun _=>False) w) ?_ (k:=B.next.length)
  ⟨0,l0,rfl,rfl,rfl,rfl,rfl,rfl,rfl,rfl,rfl,by omega,Sn.refl _ _,hl0,H0,fun w=>by
   simp only [List.take_zero,ln,iff_false]
   exact ho0 w⟩
 rintro k x1 x2 x3 x4' x6' x7 x8 x9 x10 h3 ⟨n,l,rfl,e2,e3,e4,e6,rfl,e8,rfl,rfl,hk,s3,hl,H3,ho⟩
 subst x2 x3 x4' x6' x8
 unfold B_turnstoneref14_Live_L3
 have hu3:=hu.since s3
 have iN3:=iN.since s3
 refine oP_mk (pFA_ptr _ _ _) (oP_mk (H3.ld 0 rfl rfl) (oP_mk iN3.len ?_))
 by_cases hn:n<B.next.length
 rotate_left
 ·refine st_lt (if_f (by omega) ?_)
  exact H h3 l s3 H3 hl fun w=>by rw [ho w,hnx,List.take_of_length_le (by omega)]
 refine st_lt (if_t (by omega) ?_)
 have htn:B.next[n]∈next u b:=by rw [hnx];exact List.getElem_mem hn
 have htl:B.next[n]<u.blocks.length:=g.nx b _ htn
 obtain ⟨t,ht⟩:∃t,B.next[n]? = some t:=⟨_,List.getElem?_eq_getElem hn⟩
 obtain ⟨_,hte⟩:=List.getElem?_eq_some_iff.1 ht
 rw [hte] at htl htn
 obtain ⟨T,hT⟩:∃T,u.blocks[t]? = some T:=⟨_,List.getElem?_eq_getElem htl⟩
 obtain ⟨r,hr⟩:∃r,ins[t]? = some r:=⟨_,List.getElem?_eq_getElem (show t<ins.length by omega)⟩
 have hrl:=hi2 r (List.mem_of_getElem? hr)
 obtain ⟨l4,o4,_,j1,j2⟩:=iN3.nat ht .i64
 refine oP_mk (pFA_ptr _ _ _) (oP_mk (H3.ld 0 rfl rfl) (oP_mk j1 (oP_mk j2 ?_)))
 refine l_turnstoneref14_Live_L5 (fun k x1 x2 x3 x4' x6' x7 x8 x9 x10 x11 x12 h'=>∃(j:Nat) (l' : List Bool),x1 = .ptr lb 0∧x2=vin∧x3=vout∧x4' = x4∧x6' = x6∧x7 = .int .i64 (b:Nat)∧x8=lw∧x9 = .ptr bx 0∧x10 = .int .i64 (n:Nat)∧x11 = .int .i64 (t:Nat)∧x12 = .int .i64 (j:Nat)∧j+k=r.length∧
  Sn F h3 F h'∧l'.length=u.vals.length∧Hold F h' (cellP bx 36 (bkC B bv bn bp)::rowP eB tyBool l' lw::rowP (eL eB) tyBools ins vin::rowP (eL eB) tyBools outs vout::cellP lb 29 (uC u vv vb vs)::cs)∧∀w,On l' w↔On l w∨(w<j∧On r w)) ?_ (k:=r.length)
  ⟨0,l,rfl,rfl,rfl,rfl,rfl,rfl,rfl,rfl,rfl,rfl,rfl,by omega,Sn.refl _ _,hl,H3,fun w=>by simp⟩
 rintro k2 x1 x2 x3 x4' x6' x7 x8 x9 x10 x11 x12 h5 ⟨j,l',rfl,e2,e3,e4,e6,rfl,e8,rfl,rfl,rfl,rfl,hk2,s5,hl',H5,ho'⟩
 subst x2 x3 x4' x6' x8
 unfold B_turnstoneref14_Live_L5
 have hu5:=hu3.since s5
 refine oP_mk (pFA_ptr _ _ _) (oP_mk (H5.ld 4 rfl rfl) (oP_mk hu5.v.len ?_))
 by_cases hj:j<r.length
 ·refine st_lt (if_t (by omega) ?_)
  obtain ⟨y,hy⟩:∃y,r[j]? = some y:=⟨_,List.getElem?_eq_getElem hj⟩
  obtain ⟨z,hz⟩:∃z,l'[j]? = some z:=⟨_,List.getElem?_eq_getElem (show j<l'.length by omega)⟩
  obtain ⟨l6,o6,w6,m1,m2,m3⟩:=H5.listR 2 rfl hr
  obtain ⟨l7,o7,_,p1,p2⟩:=m3.bool hy .i64
  obtain ⟨l8,o8,q1,q2⟩:=H5.boolR 1 rfl hz .i64
  obtain ⟨l9,o9,h9,e1,e2,_,H9,s9⟩:=H5.stR 1 rfl (k:=j) (y:=(z || y)) (u:=V.bool (z || y)) (show j<l'.length by omega) rfl rfl rfl
  have eO:pOr (.bool z) (oB (some vin) fun v91=>oB (some (V.int .i64 (t:Nat))) fun v92=>oB (pIx 1 v91 v92) fun v93=>oB (pLd v93 h5) fun v94=>oB (some (V.int .i64 (j:Nat))) fun v95=>oB (pIx 1 v94 v95) fun v96=>pLd v96 h5)=some (.bool (z || y)):=by
   simp only [oB_some',m1,m2,p1,p2,pOr_bool]
  refine oP_mk q1 (oP_mk q2 (oP_mk eO (oP_mk e1 ?_)))
  rw [e2,valP_some]
  simp only [List.set_cons_succ,List.set_cons_zero] at H9
  refine st_add (m:=1) (by omega) (by omega) ⟨k2 - 1,by omega,j+1,l'.set j (z || y),rfl,rfl,rfl,rfl,rfl,rfl,rfl,rfl,rfl,rfl,rfl,by omega,s5.trans s9,by simp [hl'],H9,fun w=>?_⟩
  rw [On_set (by omega),ho' w]
  by_cases e:w=j
  ·subst e
   have hz' : On l w↔z=true:=by
    have h1:=ho' w
    unfold On at h1 ⊢
    rw [hz] at h1
    constructor
    ·intro h2;have:=h1.2 (.inl h2);simpa using this
    ·intro h2;subst h2
     rcases h1.1 rfl with h3 | h3
     ·exact h3
     ·omega
   have hy' : On r w↔y=true:=by unfold On;rw [hy];simp
   rw [hz',hy']
   simp
  ·constructor
   ·rintro (⟨h1,_⟩ | ⟨_,h1 | ⟨h1,h2⟩⟩)
    ·exact absurd h1 e
    ·exact .inl h1
    ·exact .inr ⟨by omega,h2⟩
   ·rintro (h1 | ⟨h1,h2⟩)
    ·exact .inr ⟨e, .inl h1⟩
    ·exact .inr ⟨e, .inr ⟨by omega,h2⟩⟩
 refine st_lt (if_f (by omega) ?_)
 obtain ⟨l6,o6,tv,tn,tp,_,k1,k2',kv,kN,kp,_⟩:=hu5.blk hT
 refine oP_mk (pFA_ptr _ _ _) (oP_mk (H5.ld 4 rfl rfl) (oP_mk k1 (oP_mk k2' ?_)))
 refine st_copy H5 rfl rfl (by simp only [bkC,allOne_cons,kv.one,kN.one,kp.one];rfl) fun h6 H6 s6=>?_
 generalize h5.next=tx at *
 have kv6:=kv.since s6
 have hu6:=hu5.since s6
 have htv:=good_vals g hT
 have ho5:∀w,On l' w↔On l w∨On r w:=fun w=>by
  rw [ho' w]
  constructor
  ·exact fun h=>h.imp id fun h=>h.2
  ·exact fun h=>h.imp id fun h=>⟨by have:=On_len h;omega,h⟩
 refine l_turnstoneref14_Live_L8 (fun k x1 x2 x3 x4' x6' x7 x8 x9 x10 x13 x14 h'=>∃(m:Nat) (l2:List Bool),x1 = .ptr lb 0∧x2=vin∧x3=vout∧x4' = x4∧x6' = x6∧x7 = .int .i64 (b:Nat)∧x8=lw∧x9 = .ptr bx 0∧x10 = .int .i64 (n:Nat)∧x13 = .ptr tx 0∧x14 = .int .i64 (m:Nat)∧m+k=T.vals.length∧
  Sn F h6 F h'∧l2.length=u.vals.length∧Hold F h' (cellP tx 36 (bkC T tv tn tp)::cellP bx 36 (bkC B bv bn bp)::rowP eB tyBool l2 lw::rowP (eL eB) tyBools ins vin::rowP (eL eB) tyBools outs vout::cellP lb 29 (uC u vv vb vs)::cs)∧
  (∀(i v:Nat) (x:Vl),i<m→T.vals[i]? = some v→u.vals[v]? = some x→x.op=21)∧∀w,On l2 w↔On l' w∧¬(w∈T.vals.take m)) ?_ (k:=T.vals.length)
  ⟨0,l',rfl,rfl,rfl,rfl,rfl,rfl,rfl,rfl,rfl,rfl,rfl,by omega,Sn.refl _ _,hl',H6,fun i _ _ h=>by omega,fun w=>by simp⟩
 rintro k3 x1 x2 x3 x4' x6' x7 x8 x9 x10 x13 x14 h7 ⟨m,l2,rfl,e2,e3,e4,e6,rfl,e8,rfl,rfl,rfl,rfl,hk3,s7,hl2,H7,hph,ho7⟩
 subst x2 x3 x4' x6' x8
 unfold B_turnstoneref14_Live_L8
 have kv7:=kv6.since s7
 have hu7:=hu6.since s7
 refine oP_mk (pFA_ptr _ _ _) (oP_mk (H7.ld 0 rfl rfl) (oP_mk kv7.len (oP_mk (hbin_lss _ _ _ _) ?_)))
 have stop:(∀(v:Nat) (x:Vl),T.vals[m]? = some v→u.vals[v]? = some x→x.op≠21)→∃k',k' < k∧∃(n:Nat) (l:List Bool),V.ptr lb 0 = .ptr lb 0∧vin=vin∧vout=vout∧x4=x4∧x6=x6∧V.int .i64 (b:Nat) = .int .i64 (b:Nat)∧lw=lw∧V.ptr bx 0 = .ptr bx 0∧V.int .i64 ((B.next.length - k+1:Nat):Int) = .int .i64 (n:Nat)∧n+k' = B.next.length∧Sn F h F h7∧l.length=u.vals.length∧
   Hold F h7 (cellP bx 36 (bkC B bv bn bp)::rowP eB tyBool l lw::rowP (eL eB) tyBools ins vin::rowP (eL eB) tyBools outs vout::cellP lb 29 (uC u vv vb vs)::cs)∧∀w,On l w↔ln (inOf ins) (headIn u) (B.next.take n) (fun _=>False) w:=by
  intro hst
  refine ⟨k - 1,by omega,n+1,l2,rfl,rfl,rfl,rfl,rfl,rfl,rfl,rfl,by rw [show B.next.length - k+1=n+1 by omega],by omega,((s3.trans s5).trans s6).trans s7,hl2,H7.tail,fun w=>?_⟩
  have htk:B.next.take (n+1)=B.next.take n++[t]:=by rw [List.take_succ_eq_append_getElem hn,hte]
  have e1:inOf ins t w↔On r w:=⟨fun ⟨r',h1,h2⟩=>by rw [hr] at h1;cases h1;exact h2,fun h=>⟨r,hr,h⟩⟩
  rw [htk,ln_snoc,ho7 w,ho5 w,ho w,e1,phis_head g hT htn hph hst w]
 by_cases hm:m<T.vals.length
 rotate_left
 ·rw [decide_eq_false (by omega)]
  refine oP_mk (pAnd_false _) (st_b (if_f (by simp) ?_))
  refine st_add (m:=1) (by omega) (by omega) ?_
  rw [show n+1=B.next.length - k+1 by omega]
  refine stop fun v x h1 _=>?_
  have:=(List.getElem?_eq_some_iff.1 h1).1
  omega
 rw [decide_eq_true (by omega)]
 obtain ⟨v,hv⟩:∃v,T.vals[m]? = some v:=⟨_,List.getElem?_eq_getElem hm⟩
 have hvl:v<u.vals.length:=g.atlt v t m ⟨T,hT,hv⟩
 obtain ⟨x,hx⟩:∃x,u.vals[v]? = some x:=⟨_,List.getElem?_eq_getElem hvl⟩
 obtain ⟨l10,o10,_,q1,q2⟩:=kv7.nat hv .i64
 obtain ⟨l11,o11,xw,_,r1,_,_,ra⟩:=hu7.val hx
 have l3:pLd (.ptr lb (0+2)) h7=some vv:=H7.ld 5 rfl rfl
 have l4' : pLd (.ptr tx (0+0)) h7=some tv:=H7.ld 0 rfl rfl
 have l5' : pLd (.ptr l11 (o11+0)) h7=some (.int .i64 (x.op:Nat)):=ra.op
 have eA:pAnd (.bool true) (oB (pFA 2 (V.ptr lb 0)) fun v111=>oB (pLd v111 h7) fun v112=>oB (pFA 0 (V.ptr tx 0)) fun v113=>oB (pLd v113 h7) fun v114=>oB (some (V.int .i64 (m:Nat))) fun v115=>oB (pIx 1 v114 v115) fun v116=>oB (pLd v116 h7) fun v117=>oB (pIx 6 v112 v117) fun v118=>oB (pFA 0 v118) fun v119=>oB (pLd v119 h7) fun v120=>hbin .eql 3 v120 (V.int .i64 21))=some (.bool (x.op == 21)):=by
  simp only [oB_some',pFA_ptr,l3,l4',q1,q2,r1,l5',hbin_eql,pAnd_true]
  rw [show ((x.op:Int) == 21)=(x.op == 21) from ieq _ 21]
 refine oP_mk eA (st_b ?_)
 cases hq:x.op == 21 with
 | true =>
   refine if_t rfl ?_
   obtain ⟨l12, o12, h8, e1, e2, _, H8, s8⟩ := H7.stR 2 rfl (k := v) (y := false) (u := V.bool false) (show v < l2.length by omega) rfl rfl rfl
   refine oP_mk (pFA_ptr _ _ _) (oP_mk l4' (oP_mk q1 (oP_mk q2 (oP_mk e1 ?_))))
   rw [e2, valP_some]
   simp only [List.set_cons_succ, List.set_cons_zero] at H8
   have htk : T.vals.take (m + 1) = T.vals.take m ++ [v] := by
     obtain ⟨h1, rfl⟩ := List.getElem?_eq_some_iff.1 hv
     exact List.take_succ_eq_append_getElem h1
   refine st_add (m := 1) (by omega) (by omega) ⟨k3 - 1, by omega, m + 1, l2.set v false, rfl, rfl, rfl, rfl, rfl, rfl, rfl, rfl, rfl, rfl, rfl, by omega, s7.trans s8, by simp [hl2], H8, fun i v' x' hi hv' hx' => ?_, fun w => ?_⟩
   · rcases Nat.lt_or_ge i m with h1 | h1
     · exact hph i v' x' h1 hv' hx'
     · obtain rfl : i = m := by omega
       rw [hv] at hv'; cases hv'
       rw [hx] at hx'; cases hx'
       simpa using hq
   · rw [On_set (by omega), ho7 w, htk]
     simp only [List.mem_append, List.mem_singleton]
     constructor
     · rintro (⟨_, h1⟩ | ⟨h1, h2, h3⟩)
       · cases h1
       · exact ⟨h2, fun h4 => h4.elim h3 h1⟩
     · rintro ⟨h1, h2⟩
       exact .inr ⟨fun e => h2 (.inr e), h1, fun h4 => h2 (.inl h4)⟩
 | false =>
   refine if_f (by simp) ?_
   refine st_add (m := 1) (by omega) (by omega) ?_
   rw [show n + 1 = B.next.length - k + 1 by omega]
   refine stop fun v' x' h1 h2 => ?_
   rw [hv] at h1; cases h1
   rw [hx] at h2; cases h2
   simpa using hq
end
end Go.Proofs.YtiepamfpilhcjaaDoor.Hx
