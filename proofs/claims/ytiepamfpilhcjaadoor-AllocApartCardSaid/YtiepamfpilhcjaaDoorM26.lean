/- Parts of the proof. -/
import Derived.Test.YtiepamfpilhcjaaDoorM25
import Derived.Test.YtiepamfpilhcjaaDoorM19
namespace Go.Proofs.YtiepamfpilhcjaaDoor.Hx
open Go.Proofs.YtiepamfpilhcjaaDoor.Un Go.Proofs.YtiepamfpilhcjaaDoor.Dm
theorem knownName (h:Hp):∀op:Nat,1≤op→op≤23→∃s,s≠[]∧CS.K n_ssa_Name [.int .i64 (op:Nat)] h=some (.str s)
 | 0,h,_=>by omega
 | 1,_,_=>⟨_,by decide,rfl⟩
 | 2,_,_=>⟨_,by decide,rfl⟩
 | 3,_,_=>⟨_,by decide,rfl⟩
 | 4,_,_=>⟨_,by decide,rfl⟩
 | 5,_,_=>⟨_,by decide,rfl⟩
 | 6,_,_=>⟨_,by decide,rfl⟩
 | 7,_,_=>⟨_,by decide,rfl⟩
 | 8,_,_=>⟨_,by decide,rfl⟩
 | 9,_,_=>⟨_,by decide,rfl⟩
 | 10,_,_=>⟨_,by decide,rfl⟩
 | 11,_,_=>⟨_,by decide,rfl⟩
 | 12,_,_=>⟨_,by decide,rfl⟩
 | 13,_,_=>⟨_,by decide,rfl⟩
 | 14,_,_=>⟨_,by decide,rfl⟩
 | 15,_,_=>⟨_,by decide,rfl⟩
 | 16,_,_=>⟨_,by decide,rfl⟩
 | 17,_,_=>⟨_,by decide,rfl⟩
 | 18,_,_=>⟨_,by decide,rfl⟩
 | 19,_,_=>⟨_,by decide,rfl⟩
 | 20,_,_=>⟨_,by decide,rfl⟩
 | 21,_,_=>⟨_,by decide,rfl⟩
 | 22,_,_=>⟨_,by decide,rfl⟩
 | 23,_,_=>⟨_,by decide,rfl⟩
 | n+24,_,h=>by omega
theorem gh_tt {h:Hp}{X:Option (V×Hp)}{K:QP1}(H:oP X fun y=>K y.1 y.2):oP (pGd true (.bool true)) fun b=>ghP b h X K:=H
section
variable {F F' : Nat→Prop} {h h' : Hp} {cs:List Pc} {Q:QP1} {u:U} {vv vb vs:V} {lc:Nat} {bl pl idm:V}
theorem ct_Name {op:Nat}(h1:1≤op)(h2:op≤23)(H:∀s,s≠[]→Q (.str s) h):cP CS n_ssa_Name [.int .i64 (op:Nat)] h Q:=by
 obtain ⟨fn,c,hf,hb⟩:=bodyName
 obtain ⟨s,hs,hk⟩:=knownName h op h1 h2
 exact cP.known hf hb hk rfl rfl (H s hs)
theorem ct_Contains {lv:Nat}{x:Vl}{w v:V}{ys:List Vl}(H0:Hold F h (cellP lv tyVal (vlC x w)::cs))(hl:SlR eV F h ys v)(hn:ys.length<1000000)(hno:∀y∈ys,¬(y.op=1∧y.n=x.n))
  (H:∀h',Sn F h F h'→Hold F h' (cellP lv tyVal (vlC x w)::cs)→Q (.bool false) h'):cP CS n_slices_ContainsFunc_ssa_Val_ssa_Val [v, .func n_ssa_checker_val_1 [] [.ptr lv 0]] h Q:=by
 refine c_slices_ContainsFunc_ssa_Val_ssa_Val rfl rfl ?_
 unfold B_slices_ContainsFunc_ssa_Val_ssa_Val
 refine c_slices_IndexFunc_ssa_Val_ssa_Val rfl rfl ?_
 unfold B_slices_IndexFunc_ssa_Val_ssa_Val
 refine oP_mk hl.len ?_
 refine l_slices_IndexFunc_ssa_Val_ssa_Val_L0 (fun k x0 x1 x7 x8 h'=>∃i:Nat,x0=v∧x1 = .func n_ssa_checker_val_1 [] [.ptr lv 0]∧x7 = .int .i64 (ys.length:Nat)∧x8 = .int .i64 (i:Nat)∧i+k=ys.length∧Sn F h F h'∧Hold F h' (cellP lv tyVal (vlC x w)::cs)) ?_ (k:=ys.length)
  ⟨0,rfl,rfl,rfl,rfl,by omega,Sn.refl _ _,H0⟩
 rintro k x0 x1 x7 x8 h' ⟨i,rfl,rfl,rfl,rfl,hk,s1,H1⟩
 unfold B_slices_IndexFunc_ssa_Val_ssa_Val_L0
 by_cases hi:i<ys.length
 rotate_left
 ·refine st_lt (if_f (by omega) ?_)
  refine oP_mk (hbin_geq _ _ _ _) ?_
  exact H h' s1 H1
 refine st_lt (if_t (by omega) ?_)
 obtain ⟨l,o,c,_,i1,i2,⟨a,rfl,ha⟩,_⟩:=(hl.since s1).ix hi .i64
 refine oP_mk i1 (oP_mk i2 ?_)
 show cP CS n_ssa_checker_val_1 [.agg (vlC ys[i] a), .ptr lv 0] h' _
 refine c_ssa_checker_val_1 rfl rfl ?_
 unfold B_ssa_checker_val_1
 refine st_box H1 (by simp only [vlC,allOne_cons,ha.one];rfl) fun h2 H2 s2=>?_
 refine oP_mk (pFA_ptr _ _ _) (oP_mk (H2.ld 0 rfl rfl) (oP_mk (hbin_eql _ _ _ _) ?_))
 have e:pAnd (.bool (((ys[i].op:Nat):Int) == 1)) (oB (pFA 3 (.ptr h'.next 0)) fun v8=>oB (pLd v8 h2) fun v9=>oB (pFA 3 (.ptr lv 0)) fun v10=>oB (pLd v10 h2) fun v11=>hbin .eql 2 v9 v11)=some (.bool false):=by
  have l1:pLd (.ptr h'.next (0+3)) h2=some (.int .i64 ys[i].n):=H2.ld 0 rfl rfl
  have l2:pLd (.ptr lv (0+3)) h2=some (.int .i64 x.n):=H2.ld 1 rfl rfl
  simp only [pFA_ptr,oB_some',l1,l2,hbin_eql,pAnd_bool]
  congr 2
  rw [Bool.eq_false_iff]
  intro hh
  simp only [Bool.and_eq_true,beq_iff_eq] at hh
  exact hno _ (List.getElem_mem hi) ⟨by omega,hh.2⟩
 refine oP_mk e (st_b (if_f (by simp) ?_))
 exact st_add (m:=1) (by omega) (by omega) ⟨k - 1,by omega,i+1,rfl,rfl,rfl,rfl,by omega,s1.trans s2,H2.tail⟩
theorem lv_chain {lv:Nat}{x:Vl}{w:V}{a0:V}(ha0:a0 = .ptr lc 0)(C:Ck F h (cellP lv tyVal (vlC x w)::cs) lc u vv vb vs bl pl idm)(hl:leaves x.op=true→x.state<u.states.length)(hc:lv≠lc)(H0:pLd (.ptr lv 5) h=some (.int .i64 (x.state:Nat))){K:QP1}(HK:K (.bool false) h) :
  oP (pGd true (.bool (leaves x.op))) fun b16=>
  oP (gV b16 (pFA 5 (.ptr lv 0))) fun v30=>
  oP (pGd true (.bool (leaves x.op))) fun b17=>
  oP (gV b17 (pLd v30 h)) fun v31=>
  oP (pGd true (.bool (leaves x.op))) fun b18=>
  oP (gV b18 (some a0)) fun v32=>
  oP (pGd true (.bool (leaves x.op))) fun b19=>
  oP (gV b19 (pNil v32)) fun v33=>
  oP (pGd true (.bool (leaves x.op))) fun b20=>
  oP (gV b20 (pFA 0 v33)) fun v34=>
  oP (pGd true (.bool (leaves x.op))) fun b21=>
  oP (gV b21 (pFA 4 v34)) fun v35=>
  oP (pGd true (.bool (leaves x.op))) fun b22=>
  oP (gV b22 (pLd v35 h)) fun v36=>
  oP (pGd true (.bool (leaves x.op))) fun b23=>
  oP (gV b23 (pLen v36)) fun v37=>
  oP (pGd true (.bool (leaves x.op))) fun b24=>
  oP (gC b24 (some (n_ssa_below,[v31,v37]))) fun y24=>cgP CS y24 h fun v38 h7=>
  (h.next≤h7.next∧
  oP (pGd true (.bool (leaves x.op))) fun b25=>
  oP (gV b25 (hun .not v38)) fun v39=>
  oP (pOr (.bool false) (pPick (.bool (leaves x.op)) v39 (V.bool false))) fun v41=>K v41 h7):=by
 subst ha0
 cases hq:leaves x.op with
 | true =>
   have := hl hq
   refine gd_tt (oP_mk (pFA_ptr _ _ _) (gd_tt (oP_mk H0 (gd_tt (oP_mk rfl (gd_tt (oP_mk (pNil_ptr _ _) (gd_tt (oP_mk (pFA_ptr _ _ _) (gd_tt (oP_mk (pFA_ptr _ _ _) (gd_tt (oP_mk (C.ld 4 rfl) (gd_tt (oP_mk C.u.s.len (gc_tt ?_))))))))))))))))
   refine ct_below ⟨Nat.le_refl _, gd_tt ?_⟩
   rw [decide_eq_true this]
   exact oP_mk rfl (oP_mk rfl HK)
 | false=>exact gd_tf (gd_tf (gd_tf (gd_tf (gd_tf (gd_tf (gd_tf (gd_tf (gc_tf ⟨Nat.le_refl _,gd_tf (oP_mk rfl HK)⟩))))))))
theorem ck_val (g:Good u)(C:Ck F h cs lc u vv vb vs bl pl idm){xs ys:List Int}(hbl:SlR eZ F h xs bl)(S:Std u u.blocks.length 0 xs ys){i:Nat}(hi:i<u.vals.length)(hlc:lc<h.next)
  (H:∀F' h',Sn F h F' h'→Hold F' h' cs→Q (.bool true) h'):cP CS n_ssa_checker_val [.ptr lc 0, .int .i64 (i:Nat)] h Q:=by
 refine c_ssa_checker_val rfl rfl ?_
 unfold B_ssa_checker_val
 have nv:=g.nv
 have nb:=g.nb
 obtain ⟨x,hx⟩:∃x,u.vals[i]? = some x:=⟨_,List.getElem?_eq_getElem hi⟩
 obtain ⟨b,k,hat⟩:=g.at1 i hi
 obtain ⟨B,hB,hk⟩:=id hat
 have hop:=g.op i x hx
 have huse:=g.use i x hx
 have hbn:B.preds.length≤700:=by
  rw [g.preds b B hB,←aheadUp_all]
  have:=aheadUp_len g (i:=u.blocks.length) (j:=0) (b:=b) (Nat.le_refl _) (by omega)
  omega
 have hargs:x.op=21∨x.op=20→x.args.length≤700:=by
  rintro (h1 | h1)
  ·rw [(g.phi _ _ _ _ _ hat hx h1 hB).2];exact hbn
  ·rw [g.putAt i x hx h1];omega
 obtain ⟨l1,o1,w,_,i1,i2,iw,_⟩:=C.u.val hx
 refine oP_mk (pNil_ptr _ _) (oP_mk (pFA_ptr _ _ _) (oP_mk (pFA_ptr _ _ _) (oP_mk (C.ld 2 rfl) (oP_mk i1 (oP_mk i2 ?_)))))
 refine st_copy C.H rfl rfl (by simp only [vlC,allOne_cons,iw.one];rfl) fun h2 H2 s2=>?_
 have C2:=C.cons s2 H2
 have iw2:=iw.since s2
 refine oP_mk (pFA_ptr _ _ _) (oP_mk (H2.ld 0 rfl rfl) ?_)
 refine ct_Name hop.1 hop.2 fun s hs=>⟨Nat.le_refl _,?_⟩
 refine oP_mk (hbin_eqlS _ _ _) ?_
 rw [show (s == [])=false from beq_eq_false_iff_ne.2 hs]
 refine gd_ff (oP_mk rfl (gd_ff (oP_mk (H2.ldA 0 rfl rfl) (gc_ff ?_))))
 refine ct_Uses H2 iw2 (fun h=>by have:=hargs h.symm.symm;omega) fun F3 h3 v s3 H3 r3=>⟨s3.next,?_⟩
 have C3:=C2.since s3 H3
 have s03:=s2.trans s3
 refine gc_ff (ck_there C3 r3 (by have:=uses_len hargs;omega) huse ⟨Nat.le_refl _,oP_mk rfl ?_⟩)
 refine gd_ff (oP_mk (pFA_ptr _ _ _) (gd_ff (oP_mk (H3.ld 0 rfl rfl) (gc_ff ?_))))
 refine ct_leaves ⟨Nat.le_refl _,gd_ff (oP_mk rfl ?_)⟩
 refine lv_chain rfl C3 (g.leave i x hx) (by omega) (H3.ld 0 rfl rfl) ?_
 refine st_b (if_f (by simp) ?_)
 refine oP_mk (pFA_ptr _ _ _) (oP_mk (H3.ld 0 rfl rfl) ?_)
 by_cases c20:x.op=20
 ·refine st_eq (if_t (by omega) ?_)
  refine oP_mk (pFA_ptr _ _ _) (oP_mk (H3.ld 0 rfl rfl) (oP_mk (iw2.since s3).len (st_eqv ?_)))
  rw [g.putAt i x hx c20]
  exact H _ _ s03 H3.tail
 refine st_eq (if_f (by omega) ?_)
 by_cases c21:x.op=21
 ·refine st_eq (if_t (by omega) ?_)
  obtain ⟨lb,ob,_,b1,b2⟩:=(hbl.since s03).int ((S.yes i b k hat (.inl (List.getElem?_eq_some_iff.1 hB).1)).1) .i64
  obtain ⟨l7,o7,bv,bn,bp,_,i1',_,_,_,ip,ba⟩:=C3.u.blk hB
  refine oP_mk (pFA_ptr _ _ _) (oP_mk (H3.ld 0 rfl rfl) (oP_mk (iw2.since s3).len ?_))
  refine oP_mk (pNil_ptr _ _) (oP_mk (pFA_ptr _ _ _) (oP_mk (pFA_ptr _ _ _) (oP_mk (C3.ld 3 rfl) (oP_mk (pNil_ptr _ _) (oP_mk (pFA_ptr _ _ _) (oP_mk (C3.ld 5 rfl) (oP_mk b1 (oP_mk b2 (oP_mk i1' ?_)))))))))
  refine oP_mk (pFA_ptr _ _ _) (oP_mk ba.preds (oP_mk ip.len (st_eqv ?_)))
  rw [(g.phi _ _ _ _ _ hat hx c21 hB).2,decide_eq_true rfl]
  exact H _ _ s03 H3.tail
 refine st_eq (if_f (by omega) ?_)
 by_cases c1:x.op=1
 ·refine st_eq (if_t (by omega) ?_)
  obtain ⟨p1,p2,p3⟩:=g.param i x hx c1
  refine oP_mk (pFA_ptr _ _ _) (oP_mk (H3.ld 0 rfl rfl) (oP_mk (hbin_geq _ _ _ _) ?_))
  have e:pAnd (.bool (decide ((0:Int)≤x.n))) (oB (pFA 3 (.ptr h.next 0)) fun v78=>oB (pLd v78 h3) fun v79=>hbin .lss 2 v79 (V.int .i64 40))=some (.bool true):=by
   have l1:pLd (.ptr h.next (0+3)) h3=some (.int .i64 x.n):=H3.ld 0 rfl rfl
   simp only [pFA_ptr,oB_some',l1,hbin_lss,pAnd_bool]
   simp [p1,p2]
  refine oP_mk e ?_
  obtain ⟨vc,e1,r1⟩:=C3.u.v.cut (lo:=none) (hi:=some (.int .i64 (i:Nat))) (m:=0) (n:=i) rfl (hbound_at _ _ _) (Nat.zero_le _) (by omega)
  rw [List.drop_zero] at r1
  refine gd_tt (oP_mk rfl (gd_tt (oP_mk (pNil_ptr _ _) (gd_tt (oP_mk (pFA_ptr _ _ _) (gd_tt (oP_mk (pFA_ptr _ _ _) (gd_tt (oP_mk (C3.ld 2 rfl) (gd_tt (oP_mk rfl (gd_tt (oP_mk e1 (gd_tt (oP_mk rfl (gc_tt ?_))))))))))))))))
  refine ct_Contains H3 r1 (by rw [List.length_take];omega) (fun y hy hh=>?_) fun h4 s4 H4=>oP_mk rfl (H _ _ (s03.trans s4) H4.tail)
  obtain ⟨j,hj⟩:=List.mem_iff_getElem?.1 hy
  have hji:j<i:=by
   have:=(List.getElem?_eq_some_iff.1 hj).1
   rw [List.length_take] at this
   omega
  rw [List.getElem?_take_of_lt hji] at hj
  have:=p3 j y hj hh.1 hh.2
  omega
 ·refine st_eq (if_f (by omega) ?_)
  exact H _ _ s03 H3.tail
theorem ck_ends (g:Good u)(C:Ck F h cs lc u vv vb vs bl pl idm){i:Nat}{B:Bk}(hB:u.blocks[i]? = some B)(H:∀F' h',Sn F h F' h'→Hold F' h' cs→Q (.bool true) h'):cP CS n_ssa_checker_ends [.ptr lc 0, .int .i64 (i:Nat)] h Q:=by
 refine c_ssa_checker_ends rfl rfl ?_
 unfold B_ssa_checker_ends
 have hfin:=g.fin i B hB
 have nv:=g.nv
 have nb:=g.nb
 obtain ⟨l7,o7,bv,bn,bp,_,i1,i2,iv,iN,ip,_⟩:=C.u.blk hB
 refine oP_mk (pNil_ptr _ _) (oP_mk (pFA_ptr _ _ _) (oP_mk (pFA_ptr _ _ _) (oP_mk (C.ld 3 rfl) (oP_mk i1 (oP_mk i2 ?_)))))
 refine st_copy C.H rfl rfl (by simp only [bkC,allOne_cons,iv.one,iN.one,ip.one];rfl) fun h2 H2 s2=>?_
 have C2:=C.cons s2 H2
 have iN:=iN.since s2
 refine oP_mk (pFA_ptr _ _ _) (oP_mk (H2.ld 0 rfl rfl) (oP_mk iN.len ?_))
 have hn2:B.next.length≤2:=by
  rcases hfin with ⟨_,h⟩ | ⟨_,h,_⟩ | ⟨_,h,_⟩
  ·omega
  ·omega
  ·rw [h];simp
 refine l_ssa_checker_ends_L0 (fun k x0 x5 x17 x18 x19 h'=>∃j:Nat,x0 = .ptr lc 0∧x5 = .ptr h.next 0∧x17=bn∧x18 = .int .i64 (B.next.length:Nat)∧x19 = .int .i64 (j:Nat)∧j+k=B.next.length∧h' = h2) ?_ (k:=B.next.length) ⟨0,rfl,rfl,rfl,rfl,rfl,by omega,rfl⟩
 rintro k x0 x5 x17 x18 x19 h' ⟨j,rfl,rfl,rfl,rfl,rfl,hk,rfl⟩
 unfold B_ssa_checker_ends_L0
 by_cases hj:j<B.next.length
 ·refine st_lt (if_t (by omega) ?_)
  obtain ⟨l8,o8,_,j1,j2⟩:=iN.nat (List.getElem?_eq_getElem hj) .i64
  have htl:B.next[j]<u.blocks.length:=g.nx i _ (by unfold next;rw [hB];exact List.getElem_mem hj)
  refine oP_mk j1 (oP_mk j2 (oP_mk (pNil_ptr _ _) (oP_mk (pFA_ptr _ _ _) (oP_mk (pFA_ptr _ _ _) (oP_mk (C2.ld 3 rfl) (oP_mk C2.u.b.len ?_))))))
  refine ct_below (st_not (if_t (by simpa using htl) ?_))
  exact st_add (m:=1) (by omega) (by omega) ⟨k - 1,by omega,j+1,rfl,rfl,rfl,rfl,rfl,by omega,rfl⟩
 refine st_lt (if_f (by omega) ?_)
 refine oP_mk (pFA_ptr _ _ _) (oP_mk (H2.ld 0 rfl rfl) ?_)
 rcases hfin with ⟨h1,h3⟩ | ⟨h1,h3,h4⟩ | ⟨h1,h3,h4⟩
 ·refine st_eq (if_t (by omega) ?_)
  refine oP_mk (pFA_ptr _ _ _) (oP_mk (H2.ld 0 rfl rfl) (oP_mk iN.len (st_eqv ?_)))
  rw [h3]
  exact H _ _ s2 H2.tail
 ·refine st_eq (if_f (by omega) ?_)
  refine st_eq (if_t (by omega) ?_)
  refine oP_mk (pFA_ptr _ _ _) (oP_mk (H2.ld 0 rfl rfl) (oP_mk iN.len (st_eqv ?_)))
  rw [h3,show decide (((2:Nat):Int)=2)=true from rfl]
  refine gd_tt (oP_mk rfl (gd_tt (oP_mk (pFA_ptr _ _ _) (gd_tt (oP_mk (H2.ld 0 rfl rfl) (gh_tt ?_))))))
  rw [pBS_nat,oB_some']
  obtain ⟨H3,s3,r3⟩:=H2.newF (E:=eN) (xs:=[B.cond]) (n:=1) tyInt rfl (win_nats F h' [B.cond]) false
  have C3:=C2.since s3 H3
  refine oP_mk rfl (gc_tt ?_)
  refine ck_there C3 r3 (by simp) (fun w hw=>by obtain rfl:=List.mem_singleton.1 hw;exact h4) (oP_mk rfl ?_)
  exact H _ _ (s2.trans s3) H3.tail
 ·refine st_eq (if_f (by omega) ?_)
  refine st_eq (if_f (by omega) ?_)
  refine st_eq (if_t (by omega) ?_)
  refine oP_mk (pFA_ptr _ _ _) (oP_mk (H2.ld 0 rfl rfl) (oP_mk iN.len (st_eqv ?_)))
  rw [h3,show decide ((([]:List Nat).length:Int)=0)=true from rfl]
  refine gd_tt (oP_mk (pFA_ptr _ _ _) (gd_tt (oP_mk (H2.ld 0 rfl rfl) (gd_tt (oP_mk rfl (gd_tt (oP_mk (pNil_ptr _ _) (gd_tt (oP_mk (pFA_ptr _ _ _) (gd_tt (oP_mk (pFA_ptr _ _ _) (gd_tt (oP_mk (C2.ld 4 rfl) (gd_tt (oP_mk C2.u.s.len (gc_tt ?_))))))))))))))))
  refine ct_below ⟨Nat.le_refl _,?_⟩
  rw [decide_eq_true h4]
  exact oP_mk rfl (H _ _ s2 H2.tail)
theorem ck_led (g:Good u)(C:Ck F h cs lc u vv vb vs bl pl idm){i:Nat}{B:Bk}(hB:u.blocks[i]? = some B)(H:∀F' h',Sn F h F' h'→Hold F' h' cs→Q (.bool true) h'):cP CS n_ssa_checker_led [.ptr lc 0, .int .i64 (i:Nat)] h Q:=by
 refine c_ssa_checker_led rfl rfl ?_
 unfold B_ssa_checker_led
 have nv:=g.nv
 have nb:=g.nb
 have r2:∀F1 h1,Sn F h F1 h1→Hold F1 h1 cs→J_ssa_checker_led_R2 CS Q (.ptr lc 0) (.int .i64 (i:Nat)) h1:=by
  intro F1 h1 s1 H1
  have C1:=C.since s1 H1
  refine j_ssa_checker_led_R2 ?_
  unfold B_ssa_checker_led_R2
  obtain ⟨l7,o7,bv,bn,bp,_,i1,i2,iv,iN,ip,_⟩:=C1.u.blk hB
  refine oP_mk (pNil_ptr _ _) (oP_mk (pFA_ptr _ _ _) (oP_mk (pFA_ptr _ _ _) (oP_mk (C1.ld 3 rfl) (oP_mk i1 (oP_mk i2 ?_)))))
  refine st_copy C1.H rfl rfl (by simp only [bkC,allOne_cons,iv.one,iN.one,ip.one];rfl) fun h2 H2 s2=>?_
  have C2:=C1.cons s2 H2
  have iN:=iN.since s2
  refine oP_mk (pFA_ptr _ _ _) (oP_mk (H2.ld 0 rfl rfl) (oP_mk iN.len ?_))
  have hn2:B.next.length≤2:=by
   rcases g.fin i B hB with ⟨_,h⟩ | ⟨_,h,_⟩ | ⟨_,h,_⟩
   ·omega
   ·omega
   ·rw [h];simp
  refine l_ssa_checker_led_L1 (fun k x0 x7 x54 x55 x56 h'=>∃j:Nat,x0 = .ptr lc 0∧x7 = .ptr h1.next 0∧x54=bn∧x55 = .int .i64 (B.next.length:Nat)∧x56 = .int .i64 (j:Nat)∧j+k=B.next.length∧h' = h2) ?_ (k:=B.next.length) ⟨0,rfl,rfl,rfl,rfl,rfl,by omega,rfl⟩
  rintro k x0 x7 x54 x55 x56 h' ⟨j,rfl,rfl,rfl,rfl,rfl,hk,rfl⟩
  unfold B_ssa_checker_led_L1
  by_cases hj:j<B.next.length
  rotate_left
  ·exact st_lt (if_f (by omega) (H _ _ (s1.trans s2) H2.tail))
  refine st_lt (if_t (by omega) ?_)
  obtain ⟨l8,o8,_,j1,j2⟩:=iN.nat (List.getElem?_eq_getElem hj) .i64
  have hmem:B.next[j]∈next u i:=by unfold next;rw [hB];exact List.getElem_mem hj
  have htl:B.next[j]<u.blocks.length:=g.nx i _ hmem
  obtain ⟨B',hB'⟩:∃B',u.blocks[B.next[j]]? = some B':=⟨_,List.getElem?_eq_getElem htl⟩
  obtain ⟨l9,o9,bv',bn',bp',_,i1',_,_,_,ip',ba'⟩:=C2.u.blk hB'
  refine oP_mk j1 (oP_mk j2 (oP_mk (pFA_ptr _ _ _) (oP_mk (H2.ld 0 rfl rfl) (oP_mk (hbin_eql _ _ _ _) ?_))))
  have e:pAnd (.bool (((B.fin:Nat):Int) == 2)) (oB (some (V.ptr lc 0)) fun v64=>oB (pNil v64) fun v65=>oB (pFA 0 v65) fun v66=>oB (pFA 3 v66) fun v67=>oB (pLd v67 h') fun v68=>oB (some (V.int .i64 (B.next[j]:Nat))) fun v69=>oB (pIx 6 v68 v69) fun v70=>oB (pFA 4 v70) fun v71=>oB (pLd v71 h') fun v72=>oB (pLen v72) fun v73=>hbin .neq 3 v73 (V.int .i64 1))=some (.bool false):=by
   have l1:pLd (.ptr lc (0+0+3)) h' = some vb:=C2.ld 3 rfl
   have l2:pLd (.ptr l9 (o9+4)) h' = some bp':=ba'.preds
   simp only [oB_some',pNil_ptr,pFA_ptr,l1,i1',l2,ip'.len,hbin_neq,pAnd_bool]
   congr 2
   rw [Bool.eq_false_iff]
   intro hh
   simp only [Bool.and_eq_true,beq_iff_eq,bne_iff_ne] at hh
   have h1:=g.crit i B hB (by omega) (B.next[j]) (List.getElem_mem hj)
   rw [g.preds _ _ hB',h1] at hh
   exact hh.2 rfl
  refine oP_mk e (st_b (if_f (by simp) ?_))
  exact st_add (m:=1) (by omega) (by omega) ⟨k - 1,by omega,j+1,rfl,rfl,rfl,rfl,rfl,by omega,rfl⟩
 by_cases hi:i=0
 rotate_left
 ·exact st_eq (if_f (by omega) (r2 F h (Sn.refl _ _) C.H))
 refine st_eq (if_t (by omega) ?_)
 have lA:pLdA 5 (.ptr lc 0) h=some (.agg (uC u vv vb vs)):=by
  obtain ⟨j,ty,hc⟩:=C.c
  rw [pLdA_ptr (C.H.get j hc),sub_of (by simp)]
  rfl
 refine oP_mk (pNil_ptr _ _) (oP_mk (pFA_ptr _ _ _) (oP_mk lA ?_))
 refine ct_Ahead g C.H C.u fun F1 h1 v s1 H1 r1=>?_
 have lr:=r1.len
 rw [List.length_map,List.length_range] at lr
 refine oP_mk lr ?_
 have C1:=C.since s1 H1
 refine l_ssa_checker_led_L0 (fun k x0 x1 x16 x17 x18 h'=>∃j:Nat,x0 = .ptr lc 0∧x1 = .int .i64 (i:Nat)∧x16=v∧x17 = .int .i64 (u.blocks.length:Nat)∧x18 = .int .i64 (j:Nat)∧j+k=u.blocks.length∧h' = h1) ?_ (k:=u.blocks.length) ⟨0,rfl,rfl,rfl,rfl,rfl,by omega,rfl⟩
 rintro k x0 x1 x16 x17 x18 h' ⟨j,rfl,rfl,rfl,rfl,rfl,hk,rfl⟩
 unfold B_ssa_checker_led_L0
 by_cases hj:j<u.blocks.length
 rotate_left
 ·exact st_lt (if_f (by omega) (r2 F1 h' s1 H1))
 refine st_lt (if_t (by omega) ?_)
 obtain ⟨B',hB'⟩:∃B',u.blocks[j]? = some B':=⟨_,List.getElem?_eq_getElem hj⟩
 obtain ⟨l8,o8,w8,_,j1,j2,j3⟩:=r1.list (i:=j) (x:=Un.ahead u j) (by simp [hj]) .i64
 obtain ⟨l9,o9,bv',bn',bp',_,i1',_,_,_,ip',ba'⟩:=C1.u.blk hB'
 have hal:(Un.ahead u j).length≤700:=by
  rw [←aheadUp_all]
  have:=aheadUp_len g (i:=u.blocks.length) (j:=0) (b:=j) (Nat.le_refl _) (by omega)
  omega
 rw [g.preds j B' hB'] at ip'
 refine oP_mk j1 (oP_mk j2 (oP_mk (pNil_ptr _ _) (oP_mk (pFA_ptr _ _ _) (oP_mk (pFA_ptr _ _ _) (oP_mk (C1.ld 3 rfl) (oP_mk i1' (oP_mk (pFA_ptr _ _ _) (oP_mk ba'.preds ?_))))))))
 refine ct_Equal j3 ip' (by omega) (oP_mk rfl ?_)
 have e:pOr (.bool (!true)) (oB (some (V.int .i64 (j:Nat))) fun v36=>oB (hbin .eql 3 v36 (V.int .i64 0)) fun v37=>oB (some v37) fun v38=>pAnd v38 (oB (some w8) fun v39=>oB (pLen v39) fun v40=>hbin .gtr 3 v40 (V.int .i64 0)))=some (.bool false):=by
  simp only [Bool.not_true,pOr_false,oB_some',hbin_eql,j3.len,hbin_gtr,pAnd_bool]
  congr 2
  rw [Bool.eq_false_iff]
  intro hh
  simp only [Bool.and_eq_true,beq_iff_eq,decide_eq_true_eq] at hh
  obtain ⟨h1,h2⟩:=hh
  obtain rfl:j=0:=by omega
  rw [g.preds0] at h2
  simp at h2
 refine oP_mk e (st_b (if_f (by simp) ?_))
 exact st_add (m:=1) (by omega) (by omega) ⟨k - 1,by omega,j+1,rfl,rfl,rfl,rfl,rfl,by omega,rfl⟩
end
end Go.Proofs.YtiepamfpilhcjaaDoor.Hx
namespace Go.Proofs.YtiepamfpilhcjaaDoor.Hx
open Go.Proofs.YtiepamfpilhcjaaDoor.Un Go.Proofs.YtiepamfpilhcjaaDoor.Dm
section
variable {F F' : Nat→Prop} {h h' : Hp} {cs:List Pc} {Q:QP1} {u:U} {vv vb vs:V}
theorem Hold.stF {α:Type}{E:Enc α}{ty:Nat}{xs:List α}{v:V}(H:Hold F h cs)(i:Nat)(hi:cs[i]? = some (rowP E ty xs v)){k j:Nat}{y:α}{a:V}(hk:k<xs.length)(hj:j<E.sz)(ha:a.one=true)(hy:∀w,E.rel F h xs[k] w→E.rel F h y (w.set j a)) :
  ∃l h',pIx E.sz v (.int .i64 (k:Nat))=some (.ptr l (k * E.sz))∧pSt 1 (.ptr l (k * E.sz+j)) a h=some (.val .undef h')∧h.next≤h'.next∧Hold F h' (cs.set i (rowP E ty (xs.set k y) v))∧Sn F h F h':=by
 obtain ⟨t,h',h1,h2,h3,h4,h5⟩:=(H.row i hi).store (k:=j) (y:=y) (u:=a) hk hj ha hy
 exact ⟨t,h',h2,h3,h5.next,H.turn' hi h5 h4 fun _ h=> .inl h⟩
theorem Hold.natR {ty:Nat}{xs:List Nat}{v:V}(H:Hold F h cs)(i:Nat)(hi:cs[i]? = some (rowP eN ty xs v)){k x:Nat}(hx:xs[k]? = some x)(kd:IntKind):∃l o,pIx 1 v (.int kd (k:Nat))=some (.ptr l o)∧pLd (.ptr l o) h=some (.int .i64 (x:Nat)):=by
 obtain ⟨l,o,_,h1,h2⟩:=(H.row i hi).read.nat hx kd
 exact ⟨l,o,h1,h2⟩
theorem Hold.intR {ty:Nat}{xs:List Int}{v:V}(H:Hold F h cs)(i:Nat)(hi:cs[i]? = some (rowP eZ ty xs v)){k:Nat}{x:Int}(hx:xs[k]? = some x)(kd:IntKind):∃l o,pIx 1 v (.int kd (k:Nat))=some (.ptr l o)∧pLd (.ptr l o) h=some (.int .i64 x):=by
 obtain ⟨l,o,_,h1,h2⟩:=(H.row i hi).read.int hx kd
 exact ⟨l,o,h1,h2⟩
theorem Hold.boolR {ty:Nat}{xs:List Bool}{v:V}(H:Hold F h cs)(i:Nat)(hi:cs[i]? = some (rowP eB ty xs v)){k:Nat}{x:Bool}(hx:xs[k]? = some x)(kd:IntKind):∃l o,pIx 1 v (.int kd (k:Nat))=some (.ptr l o)∧pLd (.ptr l o) h=some (.bool x):=by
 obtain ⟨l,o,_,h1,h2⟩:=(H.row i hi).read.bool hx kd
 exact ⟨l,o,h1,h2⟩
theorem ct_Reverse {ty:Nat}{xs:List Nat}{v:V}(H0:Hold F h (rowP eN ty xs v::cs))(h0:0<xs.length)(hl:xs.length<1000000)(H:∀h',Sn F h F h'→Hold F h' (rowP eN ty xs.reverse v::cs)→Q (.tuple []) h') :
  cP CS n_slices_Reverse_int_int [v] h Q:=by
 refine c_slices_Reverse_int_int rfl rfl ?_
 unfold B_slices_Reverse_int_int
 refine oP_mk (H0.len 0 rfl) (st_sub1 (by omega) h0 ?_)
 refine l_slices_Reverse_int_int_L0 (fun k x0 x2 x3 h'=>∃(i:Nat) (ys:List Nat),x0=v∧x2 = .int .i64 (i:Nat)∧x3 = .int .i64 ((xs.length - 1 - i:Nat):Int)∧i+k=xs.length∧2 * i≤xs.length∧ys.length=xs.length∧
  (∀p,p<xs.length→ys[p]? = if p<i∨xs.length - i≤p then xs[xs.length - 1 - p]? else xs[p]?)∧Sn F h F h'∧Hold F h' (rowP eN ty ys v::cs)) ?_ (k:=xs.length)
  ⟨0,xs,rfl,rfl,by rw [Nat.sub_zero],by omega,by omega,rfl,fun p hp=>by rw [if_neg (by omega)],Sn.refl _ _,H0⟩
 rintro k x0 x2 x3 h1 ⟨i,ys,rfl,rfl,rfl,hk,h2i,hy,hp,s1,H1⟩
 unfold B_slices_Reverse_int_int_L0
 by_cases hij:i<xs.length - 1 - i
 ·refine st_lt (if_t (by omega) ?_)
  obtain ⟨a,ha⟩:∃a,ys[i]? = some a:=⟨_,List.getElem?_eq_getElem (by omega)⟩
  obtain ⟨b,hb⟩:∃b,ys[xs.length - 1 - i]? = some b:=⟨_,List.getElem?_eq_getElem (by omega)⟩
  obtain ⟨l1,o1,i1,i2⟩:=H1.natR 0 rfl hb .i64
  obtain ⟨l2,o2,j1,j2⟩:=H1.natR 0 rfl ha .i64
  refine oP_mk i1 (oP_mk i2 (oP_mk j1 (oP_mk j2 ?_)))
  obtain ⟨l3,o3,h3,e1,e2,e3,H3,s3⟩:=H1.stR 0 rfl (k:=i) (y:=b) (u:=V.int .i64 (b:Nat)) (by omega) rfl rfl rfl
  refine oP_mk e1 ?_
  rw [e2,valP_some]
  simp only [List.set_cons_zero] at H3
  obtain ⟨l4,o4,h4,f1,f2,f3,H4,s4⟩:=H3.stR 0 rfl (k:=xs.length - 1 - i) (y:=a) (u:=V.int .i64 (a:Nat)) (by simp;omega) rfl rfl rfl
  refine ⟨e3,oP_mk f1 ?_⟩
  rw [f2,valP_some]
  simp only [List.set_cons_zero] at H4
  refine ⟨f3,st_add (m:=1) (by omega) (by omega) (st_sub1 (by omega) (by omega) ?_)⟩
  refine ⟨k - 1,by omega,i+1,(ys.set i b).set (xs.length - 1 - i) a,rfl,rfl,by rw [show xs.length - 1 - (i+1)=xs.length - 1 - i - 1 by omega],by omega,by omega,by simp [hy],fun p hpl=>?_,(s1.trans s3).trans s4,H4⟩
  have pi:=hp i (by omega)
  rw [if_neg (by omega),ha] at pi
  have pj:=hp (xs.length - 1 - i) (by omega)
  rw [if_neg (by omega),hb] at pj
  by_cases e1:p=xs.length - 1 - i
  ·subst e1
   rw [List.getElem?_set_self (by simp;omega),if_pos (by omega),show xs.length - 1 - (xs.length - 1 - i)=i by omega]
   exact pi
  ·rw [List.getElem?_set_ne fun h=>e1 h.symm]
   by_cases e2:p=i
   ·subst e2
    rw [List.getElem?_set_self (by omega),if_pos (by omega)]
    exact pj
   ·rw [List.getElem?_set_ne fun h=>e2 h.symm,hp p hpl]
    by_cases c:p<i∨xs.length - i≤p
    ·rw [if_pos c,if_pos (by omega)]
    ·rw [if_neg c,if_neg (by omega)]
 ·refine st_lt (if_f (by omega) ?_)
  have e:ys=xs.reverse:=by
   refine List.ext_getElem? fun p=>?_
   by_cases hpl:p<xs.length
   ·rw [hp p hpl,List.getElem?_reverse hpl]
    by_cases c:p<i∨xs.length - i≤p
    ·rw [if_pos c]
    ·rw [if_neg c,show xs.length - 1 - p=p by omega]
   ·rw [List.getElem?_eq_none (by omega),List.getElem?_eq_none (by simp;omega)]
  subst e
  exact H h1 s1 H1
theorem snoc_set {α:Type}(s:List α)(x y:α):(s++[x]).set s.length y=s++[y]:=by simp
theorem ct_Order (g:Good u)(H0:Hold F h cs)(hu:URd F h u vv vb vs)(H:∀F' h' v seen post,Sn F h F' h'→Hold F' h' cs→Go_ u.blocks.length (next u) seen post []→SlR eN F' h' post.reverse v→Q v h') :
  cP CS n_ssa_Order [.agg (uC u vv vb vs)] h Q:=by
 refine c_ssa_Order rfl rfl ?_
 unfold B_ssa_Order
 have nb:=g.nb
 have nb0:=g.nb0
 have hlow:∀b,b<u.blocks.length→∀t∈next u b,t<u.blocks.length:=fun b _ t ht=>g.nx b t ht
 refine st_box H0 hu.one fun h1 H1 s1=>?_
 refine oP_mk (pFA_ptr _ _ _) (oP_mk (H1.ld 0 rfl rfl) (oP_mk (hu.since s1).b.len ?_))
 rw [hmake_of (z:=V.bool false) rfl (by decide) (by omega),alP_some]
 obtain ⟨H2,s2⟩:=H1.make (E:=eB) (ty:=tyBool) (y:=false) (u:=V.bool false) u.blocks.length rfl rfl
 have s02:=s1.trans s2
 refine oP_mk (pFA_ptr _ _ _) (oP_mk (H2.ld 1 rfl rfl) (oP_mk (hu.since s02).b.len ?_))
 refine st_gt (if_t (by omega) ?_)
 refine oP_mk (show _=some (V.agg [.int .i64 0, .int .i64 0]) from rfl) ?_
 generalize h1.new (.cells tyBool 1 true false (List.replicate u.blocks.length (V.bool false)))=h2 at *
 have eB1:∀a b:Nat,pBS tyVisit 2 1 (V.agg [(V.int .i64 0),(V.int .i64 0)]) [(0,V.agg [.int .i64 (a:Nat), .int .i64 (b:Nat)])]=some (.cells tyVisit 2 true false [.int .i64 (a:Nat), .int .i64 (b:Nat)],fun l=> .slice l 0 1):=fun a b=>pBS_rec rfl rfl rfl
 have eB0:pBS tyVisit 2 1 (V.agg [(V.int .i64 0),(V.int .i64 0)]) [(0,V.agg [.int .i64 0, .int .i64 0])]=some (.cells tyVisit 2 true false [.int .i64 ((0:Nat):Int), .int .i64 ((0:Nat):Int)],fun l=> .slice l 0 1):=eB1 0 0
 rw [eB0,alP_some]
 have H3:Hold F h2 (rowP eW tyVisit [] .nilSlice::rowP eN tyInt [] .nilSlice::rowP eB tyBool (List.replicate u.blocks.length false) (.slice h1.next 0 u.blocks.length)::cellP h.next 29 (uC u vv vb vs)::cs):=
  (H2.add (p:=rowP eN tyInt [] .nilSlice) .nil fun _ h=>h).add (p:=rowP eW tyVisit [] .nilSlice) .nil fun _ h=>h
 obtain ⟨v4,h4,e4,n4,H4,s4⟩:=H3.app1 0 rfl (by_:=16) (ety:=tyVisit) (y:=(0,0)) (w:=[.int .i64 ((0:Nat):Int), .int .i64 ((0:Nat):Int)]) (ro:=false) rfl (by decide) (by decide) (by simp)
 have e4' : happend 86 2 16 V.nilSlice (.slice h2.next 0 1) (h2.new (.cells tyVisit 2 true false [.int .i64 ((0:Nat):Int), .int .i64 ((0:Nat):Int)]))=some (.val v4 h4):=e4
 rw [e4',valP_some]
 simp only [List.set_cons_zero,List.nil_append] at H4
 obtain ⟨l5,o5,h5,e5,e6,n5,H5,s5⟩:=H4.stR 2 rfl (k:=0) (y:=true) (u:=V.bool true) (by simp;omega) rfl rfl rfl
 refine oP_mk e5 ?_
 rw [e6,valP_some]
 simp only [List.set_cons_succ,List.set_cons_zero] at H5
 refine j_ssa_Order_R5 ?_
 unfold B_ssa_Order_R5
 have s05:=(s02.trans s4).trans s5
 refine l_ssa_Order_L0 (fun k x1 x3 x4 x5 h'=>∃(seen:List Bool) (post:List Nat) (stack:List (Nat×Nat)),x1 = .ptr h.next 0∧x3 = .slice h1.next 0 u.blocks.length∧k=mu u.blocks.length (next u) seen stack∧Go_ u.blocks.length (next u) seen post stack∧Sn F h F h'∧
  Hold F h' (rowP eW tyVisit stack x5::rowP eN tyInt post x4::rowP eB tyBool seen (.slice h1.next 0 u.blocks.length)::cellP h.next 29 (uC u vv vb vs)::cs)) ?_ (k:=mu u.blocks.length (next u) ((List.replicate u.blocks.length false).set 0 true) [(0,0)])
  ⟨_,[],[(0,0)],rfl,rfl,rfl,Go_.start (by omega) hlow,s05,H5⟩
 rintro k x1 x3 x4 x5 h6 ⟨seen,post,stack,rfl,rfl,hk,G,s6,H6⟩
 unfold B_ssa_Order_L0
 have hnd:=G.nodup
 have hpl:post.length≤u.blocks.length:=nodup_le _ _ (List.nodup_append.1 hnd).1 G.pre
 have hsl:stack.length≤u.blocks.length:=by
  have:=nodup_le u.blocks.length _ (List.nodup_append.1 hnd).2.1 fun x hx=>by
   obtain ⟨y,hy,rfl⟩:=List.mem_map.1 hx
   exact (G.range y hy).1
  simpa using this
 refine oP_mk (H6.len 0 rfl) ?_
 rcases eq_nil_or_snoc stack with rfl | ⟨s,⟨b,i⟩,rfl⟩
 ·refine st_gt (if_f (by simp) ?_)
  have hp0:0<post.length:=by
   obtain ⟨p,hp⟩:=G.last rfl
   rw [hp];simp
  refine ct_Reverse H6.tail hp0 (by omega) fun h7 s7 H7=>?_
  obtain ⟨H8,s8,r8⟩:=H7.freezeR 0 rfl
  exact H _ _ _ seen post ((s6.trans s7).trans s8) H8.tail.tail.tail G r8
 have hsl' : s.length+1≤u.blocks.length:=by simpa using hsl
 refine st_gt (if_t (by simp <;> omega) ?_)
 have hlen:(s++[(b,i)]).length - 1=s.length:=by simp
 have hlt:s.length<(s++[(b,i)]).length:=by simp
 have hgt:(s++[(b,i)])[s.length]'hlt=(b,i):=by simp
 obtain ⟨hbn,hin⟩:=G.range (b,i) (by simp)
 obtain ⟨B,hB⟩:∃B,u.blocks[b]? = some B:=⟨_,List.getElem?_eq_getElem hbn⟩
 have hnx:next u b=B.next:=by unfold next;rw [hB]
 simp only [hnx] at hin
 refine oP_mk (H6.len 0 rfl) (st_sub1 (by omega) (by simp) ?_)
 rw [hlen]
 obtain ⟨l7,h7,e7,e8,n7,H7,s7⟩:=H6.stF 0 rfl (k:=s.length) (j:=1) (y:=(b,i+1)) (a:= .int .i64 ((i+1:Nat):Int)) hlt (by decide) rfl (fun w hw=>by
  rw [hgt] at hw
  have hw:w=[.int .i64 (b:Nat), .int .i64 (i:Nat)]:=hw
  subst hw;rfl)
 have e7:pIx 2 x5 (.int .i64 (s.length:Nat))=some (.ptr l7 (s.length * 2)):=e7
 obtain ⟨l8,o8,w8,i1,i2,i3,i4⟩:=H6.ix 0 rfl hlt .i64
 rw [hgt] at i3
 obtain rfl:w8=[.int .i64 (b:Nat), .int .i64 (i:Nat)]:=i3
 have i1:pIx 2 x5 (.int .i64 (s.length:Nat))=some (.ptr l8 o8):=i1
 rw [e7] at i1
 obtain ⟨rfl,rfl⟩:l7=l8∧s.length * 2=o8:=by
  have:=Option.some.inj i1
  cases this
  exact ⟨rfl,rfl⟩
 have ib:=i4 0 _ rfl
 have ii:=i4 1 _ rfl
 obtain ⟨lb,ob,bv,bn,bp,_,b1,b2,iv,iN,ip,ba⟩:=(hu.since s6).blk hB
 refine oP_mk e7 (oP_mk (pFA_ptr _ _ _) (oP_mk (H6.ld 3 rfl rfl) (oP_mk (pNil_ptr _ _) (oP_mk (pFA_ptr _ _ _) (oP_mk ib (oP_mk b1 (oP_mk (pFA_ptr _ _ _) (oP_mk ba.next ?_))))))))
 refine oP_mk (pNil_ptr _ _) (oP_mk (pFA_ptr _ _ _) (oP_mk ii (oP_mk iN.len ?_)))
 by_cases hi:i=B.next.length
 ·refine st_eq (if_t (by omega) ?_)
  refine oP_mk (pNil_ptr _ _) (oP_mk (pFA_ptr _ _ _) (oP_mk ib ?_))
  rw [pBS_nat,alP_some]
  obtain ⟨v9,h9,e9,n9,H9,s9⟩:=H6.app1 1 rfl (by_:=8) (ety:=3) (y:=b) (w:=nats [b]) (ro:=false) rfl (by decide) (by decide) (by omega)
  have e9' : happend 3 1 8 x4 (.slice h6.next 0 1) (h6.new (.cells 3 1 true false (nats [b])))=some (.val v9 h9):=e9
  rw [e9',valP_some]
  simp only [List.set_cons_succ,List.set_cons_zero] at H9
  refine oP_mk (H9.len 0 rfl) (st_sub1 (by omega) (by simp) ?_)
  rw [hlen]
  obtain ⟨v10,e10,H10⟩:=H9.cutR 0 rfl (n:=s.length) (by simp)
  refine oP_mk e10 ?_
  simp only [List.set_cons_zero] at H10
  have et:(s++[(b,i)]).take s.length=s:=by simp
  rw [et] at H10
  exact ⟨_,by rw [hk];exact mu_pop,seen,post++[b],s,rfl,rfl,rfl,G.pop (by rw [hnx];exact hi),s6.trans s9,H10⟩
 refine st_eq (if_f (by omega) ?_)
 have hi' : i<B.next.length:=by omega
 have hn2:B.next.length≤2:=by
  rcases g.fin b B hB with ⟨_,h⟩ | ⟨_,h,_⟩ | ⟨_,h,_⟩
  ·omega
  ·omega
  ·rw [h];simp
 have ht:(next u b)[i]? = some B.next[i]:=by rw [hnx];exact List.getElem?_eq_getElem hi'
 have htl:B.next[i]<u.blocks.length:=g.nx b _ (by rw [hnx];exact List.getElem_mem hi')
 obtain ⟨l9,o9,_,j1,j2⟩:=iN.nat (List.getElem?_eq_getElem hi') .i64
 refine oP_mk (pNil_ptr _ _) (oP_mk (pFA_ptr _ _ _) (oP_mk ii (oP_mk j1 (oP_mk j2 ?_))))
 refine oP_mk (pNil_ptr _ _) (oP_mk (pFA_ptr _ _ _) (oP_mk ii (st_add (m:=1) (by omega) (by omega) ?_)))
 refine oP_mk (pNil_ptr _ _) (oP_mk (pFA_ptr _ _ _) ?_)
 have e8:pSt 1 (.ptr l7 (s.length * 2+1)) (.int .i64 ((i+1:Nat):Int)) h6=some (.val .undef h7):=e8
 rw [e8,valP_some]
 simp only [List.set_cons_zero,snoc_set] at H7
 have hsn:seen.length=u.blocks.length:=G.len
 have lsn:=H7.len 2 (xs:=seen) rfl
 rw [hsn] at lsn
 refine oP_mk lsn (ct_below ?_)
 rw [decide_eq_true htl]
 obtain ⟨q,hq⟩:∃q,seen[B.next[i]]? = some q:=⟨_,List.getElem?_eq_getElem (show B.next[i]<seen.length by omega)⟩
 obtain ⟨lq,oq,q1,q2⟩:=H7.boolR 2 rfl hq .i64
 have ea:pAnd (.bool true) (oB (some (V.slice h1.next 0 u.blocks.length)) fun v78=>oB (some (V.int .i64 (B.next[i]:Nat))) fun v79=>oB (pIx 1 v78 v79) fun v80=>oB (pLd v80 h7) fun v81=>hun .not v81)=some (.bool (!q)):=by
  simp only [pAnd_true,oB_some',q1,q2,hun_not]
 refine oP_mk ea (st_b ?_)
 cases q with
 | true =>
   refine if_f (by simp) ?_
   exact ⟨_, by rw [hk]; exact mu_skip ht, seen, post, s ++ [(b, i + 1)], rfl, rfl, rfl, G.skip ht hq, s6.trans s7, H7⟩
 | false =>
   refine if_t rfl ?_
   have hns : ¬ isSeen seen B.next[i] := by unfold isSeen; rw [hq]; simp
   obtain ⟨l10, o10, h10, e10, e11, n10, H10, s10⟩ := H7.stR 2 rfl (k := B.next[i]) (y := true) (u := V.bool true) (by omega) rfl rfl rfl
   refine oP_mk e10 ?_
   rw [e11, valP_some]
   simp only [List.set_cons_succ, List.set_cons_zero] at H10
   refine oP_mk (show _ = some (V.agg [.int .i64 (B.next[i] : Nat), .int .i64 ((0 : Nat) : Int)]) from rfl) ?_
   rw [eB1, alP_some]
   obtain ⟨v12, h12, e12, n12, H12, s12⟩ := H10.app1 0 rfl (by_ := 16) (ety := tyVisit) (y := (B.next[i], 0)) (w := [.int .i64 (B.next[i] : Nat), .int .i64 ((0 : Nat) : Int)]) (ro := false) rfl (by decide) (by decide) (by simp; omega)
   have e12' : happend 86 2 16 x5 (.slice h10.next 0 1) (h10.new (.cells tyVisit 2 true false [.int .i64 (B.next[i] : Nat), .int .i64 ((0 : Nat) : Int)])) = some (.val v12 h12) := e12
   rw [e12', valP_some]
   simp only [List.set_cons_zero] at H12
   exact ⟨_, by rw [hk]; exact mu_push G ht hns, _, post, s ++ [(b, i + 1)] ++ [(B.next[i], 0)], rfl, rfl, rfl, G.push ht hns, ((s6.trans s7).trans s10).trans s12, H12⟩
end
end Go.Proofs.YtiepamfpilhcjaaDoor.Hx
