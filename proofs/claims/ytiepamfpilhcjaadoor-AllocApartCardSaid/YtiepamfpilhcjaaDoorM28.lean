/- Parts of the proof. -/
import Derived.Test.YtiepamfpilhcjaaDoorM27
import Derived.Test.YtiepamfpilhcjaaDoorM17
namespace Go.Proofs.YtiepamfpilhcjaaDoor.Hx
open Go.Proofs.YtiepamfpilhcjaaDoor.Un Go.Proofs.YtiepamfpilhcjaaDoor.Dm
section
variable {F F' : Nat→Prop} {h h' : Hp} {cs:List Pc} {Q:QP1} {u:U} {vv vb vs:V} {p q:Pc}
theorem Hold.sw (H:Hold F h (p::q::cs)):Hold F h (q::p::cs) where
 fl:=H.fl
 ok:=fun i c hc=>by
  match i,hc with
  | 0,hc=>exact H.ok 1 c hc
  | 1,hc=>exact H.ok 0 c hc
  | i+2,hc=>exact H.ok (i+2) c hc
 dis:=fun i j c d hc hd hn=>by
  match i,j,hc,hd with
  | 0,0,_,_=>exact absurd rfl hn
  | 0,1,hc,hd=>exact H.dis 1 0 c d hc hd (by omega)
  | 0,j+2,hc,hd=>exact H.dis 1 (j+2) c d hc hd (by omega)
  | 1,0,hc,hd=>exact H.dis 0 1 c d hc hd (by omega)
  | 1,1,_,_=>exact absurd rfl hn
  | 1,j+2,hc,hd=>exact H.dis 0 (j+2) c d hc hd (by omega)
  | i+2,0,hc,hd=>exact H.dis (i+2) 1 c d hc hd (by omega)
  | i+2,1,hc,hd=>exact H.dis (i+2) 0 c d hc hd (by omega)
  | i+2,j+2,hc,hd=>exact H.dis (i+2) (j+2) c d hc hd hn
theorem Hold.drop1 (H:Hold F h (p::q::cs)):Hold F h (p::cs):=H.sw.tail
theorem Hold.listR {α:Type}{E:Enc α}{ty:Nat}{xs:List (List α)}{v:V}(H:Hold F h cs)(i:Nat)(hi:cs[i]? = some (rowP (eL E) ty xs v)){k:Nat}{x:List α}(hx:xs[k]? = some x) :
  ∃l o w,pIx 1 v (.int .i64 (k:Nat))=some (.ptr l o)∧pLd (.ptr l o) h=some w∧SlR E F h x w:=by
 have hO:=H.row i hi
 obtain ⟨hk,rfl⟩:=List.getElem?_eq_some_iff.1 hx
 rcases hO with ⟨rfl,rfl⟩ | ⟨t,ds,rfl,h1,h2,h3,h4,h5⟩
 ·simp at hk
 ·obtain ⟨w,g1,g2,f,g3,g4⟩:=h4.get (List.getElem?_eq_getElem hk)
  have e1:(eL E).sz=1:=rfl
  rw [e1,Nat.mul_one] at g1 g2
  subst g3
  refine ⟨t,k,f,by rw [pIx_slice _ _ _ _ _ _ hk,Nat.zero_add,Nat.mul_one],?_,g4⟩
  refine pLd_get h3 ?_
  have h6:((ds.drop k).take 1)[0]? = some f:=by rw [g1];rfl
  rw [List.getElem?_take_of_lt (by omega),List.getElem?_drop,Nat.add_zero] at h6
  exact h6
theorem Hold.newF1 {α:Type}{E:Enc α}(H:Hold F h cs)(ty:Nat)(hz:E.sz=1){xs:List α}{ws:List V}{n:Nat}(hn:n=xs.length)(hw:Win E F h ws xs) :
  Hold (fun l=>F l∨l=h.next) (h.new (.cells ty 1 true false ws)) cs∧Sn F h (fun l=>F l∨l=h.next) (h.new (.cells ty 1 true false ws))∧SlR E (fun l=>F l∨l=h.next) (h.new (.cells ty 1 true false ws)) xs (.slice h.next 0 n):=by
 have:=H.newF (E:=E) ty hn hw false
 rwa [hz] at this
theorem On_len {l:List Bool}{w:Nat}(h:On l w):w<l.length:=(List.getElem?_eq_some_iff.1 h).1
theorem ct_take {l:List Bool}{v w:V}{ws:List Nat}(H0:Hold F h (rowP eB tyBool l v::cs))(hs:SlR eN F h ws w)(hn:ws.length<1000000)(hw:∀x∈ws,x<l.length)
  (H:∀h' l',Sn F h F h'→Hold F h' (rowP eB tyBool l' v::cs)→l'.length=l.length→(∀x,On l' x↔On l x∨x∈ws)→Q (.tuple []) h'):cP CS n_alloc_take [v,w] h Q:=by
 refine c_alloc_take rfl rfl ?_
 unfold B_alloc_take
 refine oP_mk hs.len ?_
 refine l_alloc_take_L0 (fun k x0 x6 x7 x8 h'=>∃(i:Nat) (l' : List Bool),x0=v∧x6=w∧x7 = .int .i64 (ws.length:Nat)∧x8 = .int .i64 (i:Nat)∧i+k=ws.length∧Sn F h F h'∧Hold F h' (rowP eB tyBool l' v::cs)∧l'.length=l.length∧∀x,On l' x↔On l x∨x∈ws.take i) ?_ (k:=ws.length)
  ⟨0,l,rfl,rfl,rfl,rfl,by omega,Sn.refl _ _,H0,rfl,fun x=>by simp⟩
 rintro k x0 x6 x7 x8 h1 ⟨i,l1,e0,e6,rfl,rfl,hk,s1,H1,hl1,ho⟩
 subst x0 x6
 unfold B_alloc_take_L0
 by_cases hi:i<ws.length
 rotate_left
 ·refine st_lt (if_f (by omega) (H h1 l1 s1 H1 hl1 fun x=>?_))
  rw [ho x,List.take_of_length_le (by omega)]
 refine st_lt (if_t (by omega) ?_)
 obtain ⟨l2,o2,_,i1,i2⟩:=(hs.since s1).nat (List.getElem?_eq_getElem hi) .i64
 have hx:=hw _ (List.getElem_mem hi)
 obtain ⟨l3,o3,h3,e1,e2,_,H3,s3⟩:=H1.stR 0 rfl (k:=ws[i]) (y:=true) (u:=V.bool true) (by omega) rfl rfl rfl
 refine oP_mk i1 (oP_mk i2 (oP_mk e1 ?_))
 rw [e2,valP_some]
 simp only [List.set_cons_zero] at H3
 refine st_add (m:=1) (by omega) (by omega) ⟨k - 1,by omega,i+1,l1.set ws[i] true,rfl,rfl,rfl,rfl,by omega,s1.trans s3,H3,by simp [hl1],fun x=>?_⟩
 rw [On_set (by omega),List.take_succ_eq_append_getElem hi,ho x]
 simp only [and_true,List.mem_append,List.mem_singleton]
 constructor
 ·rintro (h1 | ⟨_,h1 | h1⟩)
  ·exact .inr (.inr h1)
  ·exact .inl h1
  ·exact .inr (.inl h1)
 ·rintro (h1 | h1 | h1)
  ·by_cases e:x=ws[i]
   ·exact .inl e
   ·exact .inr ⟨e, .inl h1⟩
  ·by_cases e:x=ws[i]
   ·exact .inl e
   ·exact .inr ⟨e, .inr h1⟩
  ·exact .inl h1
variable {lv:Nat} {vin vout:V}
structure Lk (F:Nat→Prop) (h:Hp) (cs:List Pc) (lv:Nat) (u:U) (vv vb vs vin vout:V):Prop where
 H:Hold F h cs
 c:∃(i:Nat),cs[i]? = some (cellP lv tyLiver [.int .i64 u.func, .int .i64 u.pc,vv,vb,vs,vin,vout])
 u:URd F h u vv vb vs
theorem Lk.since (C:Lk F h cs lv u vv vb vs vin vout)(s:Sn F h F' h') (H' : Hold F' h' cs):Lk F' h' cs lv u vv vb vs vin vout:=⟨H',C.c,C.u.since s⟩
theorem Lk.cons (C:Lk F h cs lv u vv vb vs vin vout)(s:Sn F h F' h'){p:Pc} (H' : Hold F' h' (p::cs)):Lk F' h' (p::cs) lv u vv vb vs vin vout:=
 ⟨H',let ⟨i,hc⟩:=C.c;⟨i+1,hc⟩,C.u.since s⟩
theorem Lk.ld (C:Lk F h cs lv u vv vb vs vin vout)(o:Nat){y:V}(hy:[.int .i64 u.func, .int .i64 u.pc,vv,vb,vs,vin,vout][o]? = some y):pLd (.ptr lv o) h=some y:=
 let ⟨i,hc⟩:=C.c;C.H.ld i hc hy
theorem lv_head (C:Lk F h cs lv u vv vb vs vin vout){v:Nat}(hv:v<u.vals.length)(H:Q (.bool (headB u v)) h):cP CS n_alloc_liver_head [.ptr lv 0, .int .i64 (v:Nat)] h Q:=by
 refine c_alloc_liver_head rfl rfl ?_
 unfold B_alloc_liver_head
 obtain ⟨x,hx⟩:∃x,u.vals[v]? = some x:=⟨_,List.getElem?_eq_getElem hv⟩
 obtain ⟨l,o,w,_,i1,_,_,ia⟩:=C.u.val hx
 refine oP_mk (pNil_ptr _ _) (oP_mk (pFA_ptr _ _ _) (oP_mk (pFA_ptr _ _ _) (oP_mk (C.ld 2 rfl) (oP_mk i1 (oP_mk (pFA_ptr _ _ _) (oP_mk ia.op (oP_mk (hbin_eql _ _ _ _) ?_)))))))
 have eH:pOr (.bool ((x.op:Int) == 21)) (oB (some (V.int .i64 (x.op:Nat))) fun v97=>hbin .eql 3 v97 (V.int .i64 1))=some (.bool (headB u v)):=by
  simp only [oB_some',hbin_eql,pOr_bool]
  unfold headB
  rw [hx]
  show _=some (V.bool (isHead x.op))
  unfold isHead
  rw [show ((x.op:Int) == 21)=(x.op == 21) from ieq _ 21,show ((x.op:Int) == 1)=(x.op == 1) from ieq _ 1,Bool.or_comm]
 exact oP_mk eH H
theorem lv_state {l:List Bool}{v:V}(C:Lk F h (rowP eB tyBool l v::cs) lv u vv vb vs vin vout){s:Nat}{fs:List Fm}(hfs:u.states[s]? = some fs)(hf:fs.length≤30∧∀f∈fs,f.locals.length≤40∧f.stack.length≤60)(hw:∀x∈frames fs,x<l.length)
  (H:∀h' l',Sn F h F h'→Hold F h' (rowP eB tyBool l' v::cs)→l'.length=l.length→(∀x,On l' x↔On l x∨x∈frames fs)→Q (.tuple []) h'):cP CS n_alloc_liver_state [.ptr lv 0,v, .int .i64 (s:Nat)] h Q:=by
 refine c_alloc_liver_state rfl rfl ?_
 unfold B_alloc_liver_state
 obtain ⟨l1,o1,f,_,i1,_,i3,i4⟩:=C.u.st hfs
 refine oP_mk (pNil_ptr _ _) (oP_mk (pFA_ptr _ _ _) (oP_mk (pFA_ptr _ _ _) (oP_mk (C.ld 4 rfl) (oP_mk i1 (oP_mk (pFA_ptr _ _ _) (oP_mk i3 (oP_mk i4.len ?_)))))))
 refine l_alloc_liver_state_L0 (fun k x1 x16 x17 x18 h'=>∃(j:Nat) (l' : List Bool),x1=v∧x16=f∧x17 = .int .i64 (fs.length:Nat)∧x18 = .int .i64 (j:Nat)∧j+k=fs.length∧Sn F h F h'∧Hold F h' (rowP eB tyBool l' v::cs)∧l'.length=l.length∧∀x,On l' x↔On l x∨x∈frames (fs.take j)) ?_ (k:=fs.length)
  ⟨0,l,rfl,rfl,rfl,rfl,by omega,Sn.refl _ _,C.H,rfl,fun x=>by simp [frames]⟩
 rintro k x1 x16 x17 x18 h1 ⟨j,l1,e1,e16,rfl,rfl,hk,s1,H1,hl1,ho⟩
 subst x1 x16
 unfold B_alloc_liver_state_L0
 by_cases hj:j<fs.length
 rotate_left
 ·refine st_lt (if_f (by omega) (H h1 l1 s1 H1 hl1 fun x=>?_))
  rw [ho x,List.take_of_length_le (by omega)]
 refine st_lt (if_t (by omega) ?_)
 obtain ⟨l3,o3,a,c,_,j1,j2,ja,jb⟩:=(i4.since s1).frm (List.getElem?_eq_getElem hj)
 obtain ⟨f1,f2⟩:=hf.2 _ (List.getElem_mem hj)
 have hin:∀w,w∈fs[j].locals∨w∈fs[j].stack→w∈frames fs:=fun w hw=>by
  unfold frames
  rw [List.mem_flatMap]
  exact ⟨fs[j],List.getElem_mem hj,List.mem_append.2 hw⟩
 refine oP_mk j1 (oP_mk j2 ?_)
 refine st_copy H1 rfl rfl (by simp only [fmC,allOne_cons,ja.one,jb.one];rfl) fun h2 H2 s2=>?_
 refine oP_mk (pFA_ptr _ _ _) (oP_mk (H2.ld 0 rfl rfl) ?_)
 refine ct_take H2.sw (ja.since s2) (by omega) (fun x hx=>by rw [hl1];exact hw x (hin x (.inl hx))) fun h3 l3 s3 H3 hl3 ho3=>?_
 refine oP_mk (pFA_ptr _ _ _) (oP_mk (H3.ld 1 rfl rfl) ?_)
 refine ct_take H3 ((jb.since s2).since s3) (by omega) (fun x hx=>by rw [hl3,hl1];exact hw x (hin x (.inr hx))) fun h4 l4 s4 H4 hl4 ho4=>?_
 refine st_add (m:=1) (by omega) (by omega) ⟨k - 1,by omega,j+1,l4,rfl,rfl,rfl,rfl,by omega,((s1.trans s2).trans s3).trans s4,H4.drop1,by omega,fun x=>?_⟩
 rw [ho4 x,ho3 x,ho x,List.take_succ_eq_append_getElem hj]
 unfold frames
 simp only [List.flatMap_append,List.flatMap_cons,List.flatMap_nil,List.append_nil,List.mem_append]
 constructor
 ·rintro (((h1 | h1) | h1) | h1)
  ·exact .inl h1
  ·exact .inr (.inl h1)
  ·exact .inr (.inr (.inl h1))
  ·exact .inr (.inr (.inr h1))
 ·rintro (h1 | h1 | h1 | h1)
  ·exact .inl (.inl (.inl h1))
  ·exact .inl (.inl (.inr h1))
  ·exact .inl (.inr h1)
  ·exact .inr h1
theorem gives_lt {w:Nat}(h:Gives u w):w<u.vals.length:=by
 obtain ⟨x,h1,_⟩:=h
 exact (List.getElem?_eq_some_iff.1 h1).1
theorem frames_lt (g:Good u){s:Nat}{fs:List Fm}(hfs:u.states[s]? = some fs):∀w∈frames fs,w<u.vals.length:=by
 intro w hw
 unfold frames at hw
 obtain ⟨f,h1,h2⟩:=List.mem_flatMap.1 hw
 obtain ⟨_,_,h3⟩:=g.st s fs hfs
 obtain ⟨_,_,h4,h5⟩:=h3 f h1
 rcases List.mem_append.1 h2 with h6 | h6
 ·exact gives_lt (h4 w h6)
 ·exact gives_lt (h5 w h6)
theorem good_args (g:Good u){i:Nat}{x:Vl}(hx:u.vals[i]? = some x):x.op=21∨x.op=20→x.args.length≤700:=by
 have nb:=g.nb
 obtain ⟨b,k,hat⟩:=g.at1 i (List.getElem?_eq_some_iff.1 hx).1
 obtain ⟨B,hB,hk⟩:=id hat
 rintro (h1 | h1)
 ·rw [(g.phi _ _ _ _ _ hat hx h1 hB).2,g.preds b B hB,←aheadUp_all]
  have:=aheadUp_len g (i:=u.blocks.length) (j:=0) (b:=b) (Nat.le_refl _) (by omega)
  omega
 ·rw [g.putAt i x hx h1];omega
theorem good_st (g:Good u)(s:Nat)(fs:List Fm)(hfs:u.states[s]? = some fs):fs.length≤30∧∀f∈fs,f.locals.length≤40∧f.stack.length≤60:=by
 obtain ⟨_,h2,h3⟩:=g.st s fs hfs
 exact ⟨h2,fun f hf=>⟨(h3 f hf).1,(h3 f hf).2.1⟩⟩
theorem good_vals (g:Good u){b:Nat}{B:Bk}(hB:u.blocks[b]? = some B):B.vals.length≤3000:=by
 have nv:=g.nv
 have:=nodup_le u.vals.length B.vals (vals_nodup g hB) fun v hv=>by
  obtain ⟨k,hk⟩:=List.mem_iff_getElem?.1 hv
  exact g.atlt v b k ⟨B,hB,hk⟩
 omega
theorem good_preds (g:Good u){b:Nat}{B:Bk}(hB:u.blocks[b]? = some B):B.preds.length≤700:=by
 have nb:=g.nb
 rw [g.preds b B hB,←aheadUp_all]
 have:=aheadUp_len g (i:=u.blocks.length) (j:=0) (b:=b) (Nat.le_refl _) (by omega)
 omega
theorem good_next (g:Good u){b:Nat}{B:Bk}(hB:u.blocks[b]? = some B):B.next.length≤2:=by
 rcases g.fin b B hB with ⟨_,h⟩ | ⟨_,h,_⟩ | ⟨_,h,_⟩
 ·omega
 ·omega
 ·rw [h];simp
theorem lv_ahead (g:Good u){l:List Bool}{v:V}(C:Lk F h (rowP eB tyBool l v::cs) lv u vv vb vs vin vout)(hl:l.length=u.vals.length){a:Nat}(ha:a<u.vals.length)
  (H:∀F' h' l',Sn F h F' h'→Hold F' h' (rowP eB tyBool l' v::cs)→l'.length=l.length→(∀x,On l' x↔(On l x∧x≠a)∨x∈takes u a)→Q (.tuple []) h'):cP CS n_alloc_liver_ahead [.ptr lv 0,v, .int .i64 (a:Nat)] h Q:=by
 refine c_alloc_liver_ahead rfl rfl ?_
 unfold B_alloc_liver_ahead
 obtain ⟨x,hx⟩:∃x,u.vals[a]? = some x:=⟨_,List.getElem?_eq_getElem ha⟩
 obtain ⟨l1,o1,w,_,i1,i2,iw,_⟩:=C.u.val hx
 refine oP_mk (pNil_ptr _ _) (oP_mk (pFA_ptr _ _ _) (oP_mk (pFA_ptr _ _ _) (oP_mk (C.ld 2 rfl) (oP_mk i1 (oP_mk i2 ?_)))))
 refine st_copy C.H rfl rfl (by simp only [vlC,allOne_cons,iw.one];rfl) fun h2 H2 s2=>?_
 obtain ⟨l3,o3,h3,e1,e2,_,H3,s3⟩:=H2.stR 1 rfl (k:=a) (y:=false) (u:=V.bool false) (by omega) rfl rfl rfl
 refine oP_mk e1 ?_
 rw [e2,valP_some]
 simp only [List.set_cons_succ,List.set_cons_zero] at H3
 refine oP_mk (H3.ldA 0 rfl rfl) ?_
 have hargs:=good_args g hx
 refine ct_Uses H3 ((iw.since s2).since s3) (fun h=>by have:=hargs h;omega) fun F4 h4 vu s4 H4 r4=>?_
 have huse:∀y∈uses x,y<u.vals.length:=fun y hy=>gives_lt (g.use a x hx y hy)
 refine ct_take H4.sw r4 (by have:=uses_len hargs;omega) (fun y hy=>by simp only [List.length_set];rw [hl];exact huse y hy) fun h5 l5 s5 H5 hl5 ho5=>?_
 have s25:=((s2.trans s3).trans s4).trans s5
 have l6:pLd (.ptr h.next (0+0)) h5=some (.int .i64 (x.op:Nat)):=H5.ld 1 rfl rfl
 refine oP_mk (pFA_ptr _ _ _) (oP_mk l6 (oP_mk (hbin_eql _ _ _ _) ?_))
 have eL:pOr (.bool ((x.op:Int) == 22)) (oB (pFA 0 (.ptr h.next 0)) fun v26=>oB (pLd v26 h5) fun v27=>hbin .eql 3 v27 (V.int .i64 23))=some (.bool (leaves x.op)):=by
  simp only [pFA_ptr,oB_some',l6,hbin_eql,pOr_bool]
  unfold leaves
  rw [show ((x.op:Int) == 22)=(x.op == 22) from ieq _ 22,show ((x.op:Int) == 23)=(x.op == 23) from ieq _ 23]
 refine oP_mk eL (st_b ?_)
 have hset:∀y,On (l.set a false) y↔On l y∧y≠a:=fun y=>by
  rw [On_set (by omega)]
  constructor
  ·rintro (⟨_,h⟩ | ⟨h1,h2⟩)
   ·cases h
   ·exact ⟨h2,h1⟩
  ·exact fun h=> .inr ⟨h.2,h.1⟩
 cases hq:leaves x.op with
 | false =>
   refine if_f (by simp) (H _ _ l5 s25 H5.drop1 (by rw [hl5, List.length_set]) fun y => ?_)
   rw [ho5 y, hset y]
   unfold takes
   rw [hx]
   simp [hq]
 | true =>
   refine if_t rfl ?_
   refine oP_mk (pFA_ptr _ _ _) (oP_mk (H5.ld 1 rfl rfl) ?_)
   have hsl := g.leave a x hx hq
   obtain ⟨fs, hfs⟩ : ∃ fs, u.states[x.state]? = some fs := ⟨_, List.getElem?_eq_getElem hsl⟩
   have C5 : Lk F4 h5 (rowP eB tyBool l5 v :: cellP h.next 39 (vlC x w) :: cs) lv u vv vb vs vin vout := by
     obtain ⟨i, hc⟩ := C.c
     cases i with
     | zero =>
       exfalso
       have h1 := C.H.ok 0 _ rfl
       have h2 := C.H.ok 0 _ hc
       have e := Option.some.inj hc
       have hlv : Loc v lv := by
         have := congrArg Pc.foot e
         have h3 := congrFun this lv
         show (rowP eB tyBool l v).foot lv
         rw [h3]
         rfl
       have hg := h2.1
       have h4 : OwnR eB tyBool F h l v := h1
       have := (h4.tyOf hlv).1
       rw [tyAt_of hg] at this
       exact absurd this (by decide)
     | succ i => exact ⟨H5, ⟨i + 2, hc⟩, C.u.since s25⟩
   refine lv_state C5 hfs (good_st g _ _ hfs) (fun y hy => by rw [hl5, List.length_set, hl]; exact frames_lt g hfs y hy) fun h6 l6' s6 H6 hl6 ho6 => ?_
   refine H _ _ l6' (s25.trans s6) H6.drop1 (by rw [hl6, hl5, List.length_set]) fun y => ?_
   rw [ho6 y, ho5 y, hset y]
   unfold takes stFrames
   rw [hx]
   simp only [hq, if_true, hfs, List.mem_append]
   constructor
   · rintro ((h1 | h1) | h1)
     · exact .inl h1
     · exact .inr (.inl h1)
     · exact .inr (.inr h1)
   · rintro (h1 | h1 | h1)
     · exact .inl (.inl h1)
     · exact .inl (.inr h1)
     · exact .inr h1
end
end Go.Proofs.YtiepamfpilhcjaaDoor.Hx
namespace Go.Proofs.YtiepamfpilhcjaaDoor.Hx
open Go.Proofs.YtiepamfpilhcjaaDoor.Un Go.Proofs.YtiepamfpilhcjaaDoor.Dm
def inOf (ins:List (List Bool))(b w:Nat):Prop:=∃r,ins[b]? = some r∧On r w
theorem ln_snoc {In H:Nat→Nat→Prop}{t w:Nat} : ∀{ts:List Nat}{P:Nat→Prop},ln In H (ts++[t]) P w↔(ln In H ts P w∨In t w)∧¬H t w
 | [],_=>Iff.rfl
 | t'::ts,P=>ln_snoc (ts:=ts)
def ptk (u:U)(b:Nat)(T:Bk)(m q x:Nat):Prop:=∃(m' q' v:Nat)(xv:Vl),(m' < m∨(m' = m∧q' < q))∧T.preds[m']? = some b∧T.vals[q']? = some v∧u.vals[v]? = some xv∧xv.op=21∧xv.args[m']? = some x
theorem ptk_zero (u:U)(b:Nat)(T:Bk)(x:Nat):¬ptk u b T 0 0 x:=fun ⟨_,_,_,_,h,_⟩=>by omega
theorem ptk_step {u:U}{b:Nat}{T:Bk}{m q v x:Nat}{xv:Vl}(hv:T.vals[q]? = some v)(hx:u.vals[v]? = some xv):ptk u b T m (q+1) x↔ptk u b T m q x∨(T.preds[m]? = some b∧xv.op=21∧xv.args[m]? = some x):=by
 constructor
 ·rintro ⟨m',q',v',xv',h1,h2,h3,h4,h5,h6⟩
  by_cases e:m' = m∧q' = q
  ·obtain ⟨rfl,rfl⟩:=e
   rw [hv] at h3;cases h3
   rw [hx] at h4;cases h4
   exact .inr ⟨h2,h5,h6⟩
  ·exact .inl ⟨m',q',v',xv',by omega,h2,h3,h4,h5,h6⟩
 ·rintro (⟨m',q',v',xv',h1,h2⟩ | ⟨h1,h2,h3⟩)
  ·exact ⟨m',q',v',xv',by omega,h2⟩
  ·exact ⟨m,q,v,xv, .inr ⟨rfl,by omega⟩,h1,hv,hx,h2,h3⟩
theorem ptk_next {u:U}{b:Nat}{T:Bk}{m x:Nat} : ptk u b T m T.vals.length x↔ptk u b T (m+1) 0 x:=by
 constructor
 ·rintro ⟨m',q',v',xv',h1,h2⟩
  exact ⟨m',q',v',xv',by omega,h2⟩
 ·rintro ⟨m',q',v',xv',h1,h2,h3,h4⟩
  have:=(List.getElem?_eq_some_iff.1 h3).1
  exact ⟨m',q',v',xv',by omega,h2,h3,h4⟩
def ptn (u:U)(b:Nat)(B:Bk)(n x:Nat):Prop:=∃(n' t:Nat)(T:Bk),n' < n∧B.next[n']? = some t∧u.blocks[t]? = some T∧ptk u b T T.preds.length 0 x
theorem ptn_step {u:U}{b:Nat}{B T:Bk}{n t x:Nat}(ht:B.next[n]? = some t)(hT:u.blocks[t]? = some T):ptn u b B (n+1) x↔ptn u b B n x∨ptk u b T T.preds.length 0 x:=by
 constructor
 ·rintro ⟨n',t',T',h1,h2,h3,h4⟩
  by_cases e:n' = n
  ·subst e
   rw [ht] at h2;cases h2
   rw [hT] at h3;cases h3
   exact .inr h4
  ·exact .inl ⟨n',t',T',by omega,h2,h3,h4⟩
 ·rintro (⟨n',t',T',h1,h2⟩ | h)
  ·exact ⟨n',t',T',by omega,h2⟩
  ·exact ⟨n,t,T,by omega,ht,hT,h⟩
theorem ptn_all {u:U}{b:Nat}{B:Bk}(hB:u.blocks[b]? = some B){x:Nat} : ptn u b B B.next.length x↔phiTake u b x:=by
 have hn:next u b=B.next:=by unfold next;rw [hB]
 unfold phiTake
 rw [hn]
 constructor
 ·rintro ⟨n,t,T,h1,h2,h3,m,q,v,xv,_,h5,h6,h7,h8,h9⟩
  exact ⟨t,List.mem_of_getElem? h2,T,v,xv,m,h3,List.mem_of_getElem? h6,h7,h8,h5,h9⟩
 ·rintro ⟨t,h1,T,v,xv,m,h3,h4,h5,h6,h7,h8⟩
  obtain ⟨n,hn⟩:=List.mem_iff_getElem?.1 h1
  obtain ⟨q,hq⟩:=List.mem_iff_getElem?.1 h4
  exact ⟨n,t,T,(List.getElem?_eq_some_iff.1 hn).1,hn,h3,m,q,v,xv, .inl (List.getElem?_eq_some_iff.1 h7).1,h7,hq,h5,h6,h8⟩
section
variable {F F' : Nat→Prop} {h h' : Hp} {cs:List Pc} {Q:QP1} {u:U} {vv vb vs:V} {lv:Nat} {vin vout:V} {ins:List (List Bool)}
theorem lv_end (g:Good u)(C:Lk F h cs lv u vv vb vs vin vout){ii:Nat}(hii:cs[ii]? = some (rowP (eL eB) tyBools ins vin))(hi1:ins.length=u.blocks.length)(hi2:∀r∈ins,r.length=u.vals.length){b:Nat}{B:Bk}(hB:u.blocks[b]? = some B)
  (H:∀F' h' l v,Sn F h F' h'→Hold F' h' (rowP eB tyBool l v::cs)→l.length=u.vals.length→(∀w,On l w↔EndP u (headIn u) (inOf ins) b w)→Q v h'):cP CS n_alloc_liver_end [.ptr lv 0, .int .i64 (b:Nat)] h Q:=by
 refine c_alloc_liver_end rfl rfl ?_
 unfold B_alloc_liver_end
 have nv:=g.nv
 have nb:=g.nb
 have hnx:next u b=B.next:=by unfold next;rw [hB]
 have hn2:=good_next g hB
 obtain ⟨ic,hc⟩:=C.c
 have hu:=C.u
 refine oP_mk (pNil_ptr _ _) (oP_mk (pFA_ptr _ _ _) (oP_mk (pFA_ptr _ _ _) (oP_mk (C.ld 2 rfl) (oP_mk hu.v.len ?_))))
 rw [hmake_of (z:=V.bool false) rfl (by decide) (by omega),alP_some]
 obtain ⟨H1,s1⟩:=C.H.make (E:=eB) (ty:=tyBool) (y:=false) (u:=V.bool false) u.vals.length rfl rfl
 generalize V.slice h.next 0 u.vals.length=lw at *
 generalize h.new (.cells tyBool 1 true false (List.replicate u.vals.length (V.bool false)))=h1 at *
 have hu1:=hu.since s1
 have C1:Lk F h1 _ lv u vv vb vs vin vout:=⟨H1,⟨ic+1,hc⟩,hu1⟩
 obtain ⟨l2,o2,bv,bn,bp,_,i1,i2,iv,iN,ip,_⟩:=hu1.blk hB
 refine oP_mk (pNil_ptr _ _) (oP_mk (pFA_ptr _ _ _) (oP_mk (pFA_ptr _ _ _) (oP_mk (C1.ld 3 rfl) (oP_mk i1 (oP_mk i2 ?_)))))
 refine st_copy H1 rfl rfl (by simp only [bkC,allOne_cons,iv.one,iN.one,ip.one];rfl) fun h2 H2 s2=>?_
 have s12:=s1.trans s2
 have hu2:=hu1.since s2
 have iN2:=iN.since s2
 generalize h1.next=bx at *
 refine oP_mk (pFA_ptr _ _ _) (oP_mk (H2.ld 0 rfl rfl) (oP_mk iN2.len ?_))
 refine l_alloc_liver_end_L0 (fun k x0 x1 x5 x6 x37 x38 x39 h'=>∃(n:Nat) (l:List Bool),x0 = .ptr lv 0∧x1 = .int .i64 (b:Nat)∧x5=lw∧x6 = .ptr bx 0∧x37=bn∧x38 = .int .i64 (B.next.length:Nat)∧x39 = .int .i64 (n:Nat)∧n+k=B.next.length∧Sn F h2 F h'∧l.length=u.vals.length∧
  Hold F h' (cellP bx 36 (bkC B bv bn bp)::rowP eB tyBool l lw::cs)∧∀w,On l w↔ln (inOf ins) (headIn u) (B.next.take n) (fun _=>False) w) ?_ (k:=B.next.length)
  ⟨0,_,rfl,rfl,rfl,rfl,rfl,rfl,rfl,by omega,Sn.refl _ _,by simp,H2,fun w=>by
   simp only [List.take_zero,ln,iff_false]
   unfold On
   intro h
   have:=List.eq_of_mem_replicate (List.mem_of_getElem? h)
   cases this⟩
 rintro k x0 x1 x5 x6 x37 x38 x39 h3 ⟨n,l,rfl,rfl,e5,rfl,e37,rfl,rfl,hk,s3,hl,H3,ho⟩
 subst x5 x37
 unfold B_alloc_liver_end_L0
 have hu3:=hu2.since s3
 have iN3:=iN2.since s3
 by_cases hn:n<B.next.length
 ·refine st_lt (if_t (by omega) ?_)
  have htl:B.next[n]<u.blocks.length:=g.nx b _ (by rw [hnx];exact List.getElem_mem hn)
  obtain ⟨t,ht⟩:∃t,B.next[n]? = some t:=⟨_,List.getElem?_eq_getElem hn⟩
  obtain ⟨_,hte⟩:=List.getElem?_eq_some_iff.1 ht
  rw [hte] at htl
  obtain ⟨T,hT⟩:∃T,u.blocks[t]? = some T:=⟨_,List.getElem?_eq_getElem htl⟩
  obtain ⟨r,hr⟩:∃r,ins[t]? = some r:=⟨_,List.getElem?_eq_getElem (show t<ins.length by omega)⟩
  have hrl:=hi2 r (List.mem_of_getElem? hr)
  have C3:Lk F h3 _ lv u vv vb vs vin vout:=⟨H3,⟨ic+2,hc⟩,hu3⟩
  obtain ⟨l4,o4,_,j1,j2⟩:=iN3.nat ht .i64
  obtain ⟨l5,o5,tv,tn,tp,_,k1,k2,kv,kN,kp,_⟩:=hu3.blk hT
  refine oP_mk j1 (oP_mk j2 (oP_mk (pNil_ptr _ _) (oP_mk (pFA_ptr _ _ _) (oP_mk (pFA_ptr _ _ _) (oP_mk (C3.ld 3 rfl) (oP_mk k1 (oP_mk k2 ?_)))))))
  refine st_copy H3 rfl rfl (by simp only [bkC,allOne_cons,kv.one,kN.one,kp.one];rfl) fun h4 H4 s4=>?_
  have C4:Lk F h4 _ lv u vv vb vs vin vout:=⟨H4,⟨ic+3,hc⟩,hu3.since s4⟩
  obtain ⟨l6,o6,w6,m1,m2,m3⟩:=H4.listR (ii+3) hii hr
  generalize h3.next=tx at *
  refine oP_mk (pNil_ptr _ _) (oP_mk (pFA_ptr _ _ _) (oP_mk (C4.ld 5 rfl) (oP_mk m1 (oP_mk m2 (oP_mk m3.len ?_)))))
  refine l_alloc_liver_end_L2 (fun k x0 x1 x5 x6 x9 x37 x38 x39 x57 x58 x59 h'=>∃(j:Nat) (l' : List Bool),x0 = .ptr lv 0∧x1 = .int .i64 (b:Nat)∧x5=lw∧x6 = .ptr bx 0∧x9 = .ptr tx 0∧x37=bn∧x38 = .int .i64 (B.next.length:Nat)∧x39 = .int .i64 (n:Nat)∧x57=w6∧x58 = .int .i64 (r.length:Nat)∧x59 = .int .i64 (j:Nat)∧j+k=r.length∧
   Sn F h4 F h'∧l'.length=u.vals.length∧Hold F h' (cellP tx 36 (bkC T tv tn tp)::cellP bx 36 (bkC B bv bn bp)::rowP eB tyBool l' lw::cs)∧∀w,On l' w↔On l w∨(w<j∧On r w)) ?_ (k:=r.length)
   ⟨0,l,rfl,rfl,rfl,rfl,rfl,rfl,rfl,rfl,rfl,rfl,rfl,by omega,Sn.refl _ _,hl,H4,fun w=>by simp⟩
  rintro k2 x0 x1 x5 x6 x9 x37 x38 x39 x57 x58 x59 h5 ⟨j,l',rfl,rfl,e5,rfl,rfl,e37,rfl,rfl,e57,rfl,rfl,hk2,s5,hl',H5,ho'⟩
  subst x5 x37 x57
  unfold B_alloc_liver_end_L2
  by_cases hj:j<r.length
  ·refine st_lt (if_t (by omega) ?_)
   obtain ⟨y,hy⟩:∃y,r[j]? = some y:=⟨_,List.getElem?_eq_getElem hj⟩
   obtain ⟨z,hz⟩:∃z,l'[j]? = some z:=⟨_,List.getElem?_eq_getElem (show j<l'.length by omega)⟩
   obtain ⟨l7,o7,_,p1,p2⟩:=(m3.since s5).bool hy .i64
   obtain ⟨l8,o8,q1,q2⟩:=H5.boolR 2 rfl hz .i64
   obtain ⟨l9,o9,h9,e1,e2,_,H9,s9⟩:=H5.stR 2 rfl (k:=j) (y:=(z || y)) (u:=V.bool (z || y)) (show j<l'.length by omega) rfl rfl rfl
   refine oP_mk p1 (oP_mk p2 (oP_mk q1 (oP_mk q2 (oP_mk (pOr_bool _ _) (oP_mk e1 ?_)))))
   rw [e2,valP_some]
   simp only [List.set_cons_succ,List.set_cons_zero] at H9
   refine st_add (m:=1) (by omega) (by omega) ⟨k2 - 1,by omega,j+1,l'.set j (z || y),rfl,rfl,rfl,rfl,rfl,rfl,rfl,rfl,rfl,rfl,rfl,by omega,s5.trans s9,by simp [hl'],H9,fun w=>?_⟩
   rw [On_set (by omega),ho' w]
   by_cases e:w=j
   ·subst e
    have hz' : On l w↔z=true:=by
     have h1:=ho' w
     unfold On at h1 ⊢
     rw [hz] at h1
     constructor
     ·intro h2;have:=h1.2 (.inl h2);simpa using this
     ·intro h2;subst h2
      rcases h1.1 rfl with h3 | h3
      ·exact h3
      ·omega
    have hy' : On r w↔y=true:=by unfold On;rw [hy];simp
    rw [hz',hy']
    simp
   ·constructor
    ·rintro (⟨h1,_⟩ | ⟨_,h1 | ⟨h1,h2⟩⟩)
     ·exact absurd h1 e
     ·exact .inl h1
     ·exact .inr ⟨by omega,h2⟩
    ·rintro (h1 | ⟨h1,h2⟩)
     ·exact .inr ⟨e, .inl h1⟩
     ·exact .inr ⟨e, .inr ⟨by omega,h2⟩⟩
  refine st_lt (if_f (by omega) ?_)
  have kv5:=(kv.since s4).since s5
  refine oP_mk (pFA_ptr _ _ _) (oP_mk (H5.ld 0 rfl rfl) (oP_mk kv5.len ?_))
  have htv:=good_vals g hT
  have hu5:=(hu3.since s4).since s5
  have ho5:∀w,On l' w↔On l w∨On r w:=fun w=>by
   rw [ho' w]
   constructor
   ·exact fun h=>h.imp id fun h=>h.2
   ·exact fun h=>h.imp id fun h=>⟨by have:=On_len h;omega,h⟩
  refine l_alloc_liver_end_L3 (fun k x0 x1 x5 x6 x37 x38 x39 x76 x77 x78 h'=>∃(m:Nat) (l2:List Bool),x0 = .ptr lv 0∧x1 = .int .i64 (b:Nat)∧x5=lw∧x6 = .ptr bx 0∧x37=bn∧x38 = .int .i64 (B.next.length:Nat)∧x39 = .int .i64 (n:Nat)∧x76=tv∧x77 = .int .i64 (T.vals.length:Nat)∧x78 = .int .i64 (m:Nat)∧m+k=T.vals.length∧
   Sn F h5 F h'∧l2.length=u.vals.length∧Hold F h' (cellP tx 36 (bkC T tv tn tp)::cellP bx 36 (bkC B bv bn bp)::rowP eB tyBool l2 lw::cs)∧∀w,On l2 w↔On l' w∧¬(w∈T.vals.take m∧headB u w=true)) ?_ (k:=T.vals.length)
   ⟨0,l',rfl,rfl,rfl,rfl,rfl,rfl,rfl,rfl,rfl,rfl,by omega,Sn.refl _ _,hl',H5,fun w=>by simp⟩
  rintro k3 x0 x1 x5 x6 x37 x38 x39 x76 x77 x78 h6 ⟨m,l2,rfl,rfl,e5,rfl,e37,rfl,rfl,e76,rfl,rfl,hk3,s6,hl2,H6,ho6⟩
  subst x5 x37 x76
  unfold B_alloc_liver_end_L3
  by_cases hm:m<T.vals.length
  rotate_left
  ·refine st_lt (if_f (by omega) ?_)
   refine st_add (m:=1) (by omega) (by omega) ⟨k - 1,by omega,n+1,l2,rfl,rfl,rfl,rfl,rfl,rfl,rfl,by omega,((s3.trans s4).trans s5).trans s6,hl2,H6.tail,fun w=>?_⟩
   have htk:B.next.take (n+1)=B.next.take n++[t]:=by rw [List.take_succ_eq_append_getElem hn,hte]
   rw [htk,ln_snoc,ho6 w,ho5 w,ho w,List.take_of_length_le (show T.vals.length≤m by omega)]
   have e1:inOf ins t w↔On r w:=⟨fun ⟨r',h1,h2⟩=>by rw [hr] at h1;cases h1;exact h2,fun h=>⟨r,hr,h⟩⟩
   have e2:headIn u t w↔w∈T.vals∧headB u w=true:=by unfold headIn valsOf;rw [hT]
   rw [e1,e2]
  refine st_lt (if_t (by omega) ?_)
  obtain ⟨v,hv⟩:∃v,T.vals[m]? = some v:=⟨_,List.getElem?_eq_getElem hm⟩
  have hvl:v<u.vals.length:=g.atlt v t m ⟨T,hT,hv⟩
  have htk:T.vals.take (m+1)=T.vals.take m++[v]:=by
   obtain ⟨h1,rfl⟩:=List.getElem?_eq_some_iff.1 hv
   exact List.take_succ_eq_append_getElem h1
  obtain ⟨l7,o7,_,p1,p2⟩:=(kv5.since s6).nat hv .i64
  have C6:Lk F h6 _ lv u vv vb vs vin vout:=⟨H6,⟨ic+3,hc⟩,hu5.since s6⟩
  refine oP_mk p1 (oP_mk p2 (lv_head C6 hvl (st_b ?_)))
  cases hq:headB u v with
  | true =>
    refine if_t rfl ?_
    obtain ⟨l8, o8, h8, e1, e2, _, H8, s8⟩ := H6.stR 2 rfl (k := v) (y := false) (u := V.bool false) (show v < l2.length by omega) rfl rfl rfl
    refine oP_mk e1 ?_
    rw [e2, valP_some]
    simp only [List.set_cons_succ, List.set_cons_zero] at H8
    refine j_alloc_liver_end_R35 ?_
    unfold B_alloc_liver_end_R35
    refine st_add (m := 1) (by omega) (by omega) ⟨k3 - 1, by omega, m + 1, l2.set v false, rfl, rfl, rfl, rfl, rfl, rfl, rfl, rfl, rfl, rfl, by omega, s6.trans s8, by simp [hl2], H8, fun w => ?_⟩
    rw [On_set (by omega), ho6 w, htk]
    simp only [List.mem_append, List.mem_singleton]
    constructor
    · rintro (⟨_, h1⟩ | ⟨h1, h2, h3⟩)
      · cases h1
      · exact ⟨h2, fun h4 => h3 ⟨h4.1.resolve_right h1, h4.2⟩⟩
    · rintro ⟨h1, h2⟩
      refine .inr ⟨fun e => h2 ⟨.inr e, e ▸ hq⟩, h1, fun h4 => h2 ⟨.inl h4.1, h4.2⟩⟩
  | false =>
    refine if_f (by simp) ?_
    refine j_alloc_liver_end_R35 ?_
    unfold B_alloc_liver_end_R35
    refine st_add (m := 1) (by omega) (by omega) ⟨k3 - 1, by omega, m + 1, l2, rfl, rfl, rfl, rfl, rfl, rfl, rfl, rfl, rfl, rfl, by omega, s6, hl2, H6, fun w => ?_⟩
    rw [ho6 w, htk]
    simp only [List.mem_append, List.mem_singleton]
    constructor
    · rintro ⟨h1, h2⟩
      refine ⟨h1, fun h4 => ?_⟩
      rcases h4.1 with h5 | rfl
      · exact h2 ⟨h5, h4.2⟩
      · rw [hq] at h4; exact absurd h4.2 (by simp)
    · rintro ⟨h1, h2⟩
      exact ⟨h1, fun h4 => h2 ⟨.inl h4.1, h4.2⟩⟩
 refine st_lt (if_f (by omega) ?_)
 have hob:∀w,On l w↔ln (inOf ins) (headIn u) (next u b) (fun _=>False) w:=fun w=>by rw [ho w,hnx,List.take_of_length_le (by omega)]
 refine oP_mk (pFA_ptr _ _ _) (oP_mk (H3.ld 0 rfl rfl) (oP_mk iN3.len ?_))
 refine l_alloc_liver_end_L1 (fun k x0 x1 x5 x6 x91 x92 x93 h'=>∃(n:Nat) (l2:List Bool),x0 = .ptr lv 0∧x1 = .int .i64 (b:Nat)∧x5=lw∧x6 = .ptr bx 0∧x91=bn∧x92 = .int .i64 (B.next.length:Nat)∧x93 = .int .i64 (n:Nat)∧n+k=B.next.length∧Sn F h3 F h'∧l2.length=u.vals.length∧
  Hold F h' (cellP bx 36 (bkC B bv bn bp)::rowP eB tyBool l2 lw::cs)∧∀w,On l2 w↔On l w∨ptn u b B n w) ?_ (k:=B.next.length)
  ⟨0, l, rfl, rfl, rfl, rfl, rfl, rfl, rfl, by omega, Sn.refl _ _, hl, H3, fun w => by
    constructor
    · exact .inl
    · rintro (h1 | ⟨n', _, _, h1, _⟩)
      · exact h1
      · omega⟩
 clear hk k
 rintro k x0 x1 x5 x6 x91 x92 x93 h4 ⟨n2,l2,rfl,rfl,e5,rfl,e91,rfl,rfl,hk,s4,hl2,H4,ho2⟩
 subst x5 x91
 unfold B_alloc_liver_end_L1
 have hu4:=hu3.since s4
 have iN4:=iN3.since s4
 by_cases hn3:n2<B.next.length
 ·refine st_lt (if_t (by omega) ?_)
  have htl:B.next[n2]<u.blocks.length:=g.nx b _ (by rw [hnx];exact List.getElem_mem hn3)
  obtain ⟨t,ht⟩:∃t,B.next[n2]? = some t:=⟨_,List.getElem?_eq_getElem hn3⟩
  obtain ⟨_,hte⟩:=List.getElem?_eq_some_iff.1 ht
  rw [hte] at htl
  obtain ⟨T,hT⟩:∃T,u.blocks[t]? = some T:=⟨_,List.getElem?_eq_getElem htl⟩
  have C4:Lk F h4 _ lv u vv vb vs vin vout:=⟨H4,⟨ic+2,hc⟩,hu4⟩
  obtain ⟨l5,o5,_,j1,j2⟩:=iN4.nat ht .i64
  obtain ⟨l6,o6,tv,tn,tp,_,k1,k2,kv,kN,kp,_⟩:=hu4.blk hT
  refine oP_mk j1 (oP_mk j2 (oP_mk (pNil_ptr _ _) (oP_mk (pFA_ptr _ _ _) (oP_mk (pFA_ptr _ _ _) (oP_mk (C4.ld 3 rfl) (oP_mk k1 (oP_mk k2 ?_)))))))
  refine st_copy H4 rfl rfl (by simp only [bkC,allOne_cons,kv.one,kN.one,kp.one];rfl) fun h5 H5 s5=>?_
  generalize h4.next=tx at *
  have kp5:=kp.since s5
  have kv5:=kv.since s5
  have hu5:=hu4.since s5
  have htp:=good_preds g hT
  have htv:=good_vals g hT
  refine oP_mk (pFA_ptr _ _ _) (oP_mk (H5.ld 0 rfl rfl) (oP_mk kp5.len ?_))
  refine l_alloc_liver_end_L4 (fun k x0 x1 x5 x6 x16 x91 x92 x93 x106 x107 x108 h'=>∃(m:Nat) (l3:List Bool),x0 = .ptr lv 0∧x1 = .int .i64 (b:Nat)∧x5=lw∧x6 = .ptr bx 0∧x16 = .ptr tx 0∧x91=bn∧x92 = .int .i64 (B.next.length:Nat)∧x93 = .int .i64 (n2:Nat)∧x106=tp∧x107 = .int .i64 (T.preds.length:Nat)∧x108 = .int .i64 (m:Nat)∧m+k=T.preds.length∧
   Sn F h5 F h'∧l3.length=u.vals.length∧Hold F h' (cellP tx 36 (bkC T tv tn tp)::cellP bx 36 (bkC B bv bn bp)::rowP eB tyBool l3 lw::cs)∧∀w,On l3 w↔On l2 w∨ptk u b T m 0 w) ?_ (k:=T.preds.length)
   ⟨0, l2, rfl, rfl, rfl, rfl, rfl, rfl, rfl, rfl, rfl, rfl, rfl, by omega, Sn.refl _ _, hl2, H5, fun w => by
     constructor
     · exact .inl
     · rintro (h1 | h1)
       · exact h1
       · exact absurd h1 (ptk_zero _ _ _ _)⟩
  rintro k2 x0 x1 x5 x6 x16 x91 x92 x93 x106 x107 x108 h6 ⟨m,l3,rfl,rfl,e5,rfl,rfl,e91,rfl,rfl,e106,rfl,rfl,hk2,s6,hl3,H6,ho3⟩
  subst x5 x91 x106
  unfold B_alloc_liver_end_L4
  by_cases hm:m<T.preds.length
  rotate_left
  ·refine st_lt (if_f (by omega) ?_)
   obtain rfl:m=T.preds.length:=by omega
   refine st_add (m:=1) (by omega) (by omega) ⟨k - 1,by omega,n2+1,l3,rfl,rfl,rfl,rfl,rfl,rfl,rfl,by omega,(s4.trans s5).trans s6,hl3,H6.tail,fun w=>?_⟩
   rw [ho3 w,ho2 w,ptn_step ht hT,or_assoc]
  refine st_lt (if_t (by omega) ?_)
  obtain ⟨p,hp⟩:∃p,T.preds[m]? = some p:=⟨_,List.getElem?_eq_getElem hm⟩
  obtain ⟨l7,o7,_,p1,p2⟩:=(kp5.since s6).nat hp .i64
  have kv6:=kv5.since s6
  refine oP_mk p1 (oP_mk p2 (oP_mk (pFA_ptr _ _ _) (oP_mk (H6.ld 0 rfl rfl) (oP_mk kv6.len ?_))))
  refine l_alloc_liver_end_L5 (fun k x0 x1 x5 x6 x16 x17 x18 x91 x92 x93 x106 x107 x108 x114 x115 x116 h'=>∃(q:Nat) (l4:List Bool),x0 = .ptr lv 0∧x1 = .int .i64 (b:Nat)∧x5=lw∧x6 = .ptr bx 0∧x16 = .ptr tx 0∧x17 = .int .i64 (m:Nat)∧x18 = .int .i64 (p:Nat)∧x91=bn∧x92 = .int .i64 (B.next.length:Nat)∧x93 = .int .i64 (n2:Nat)∧x106=tp∧x107 = .int .i64 (T.preds.length:Nat)∧x108 = .int .i64 (m:Nat)∧
   x114=tv∧x115 = .int .i64 (T.vals.length:Nat)∧x116 = .int .i64 (q:Nat)∧q+k=T.vals.length∧
   Sn F h6 F h'∧l4.length=u.vals.length∧Hold F h' (cellP tx 36 (bkC T tv tn tp)::cellP bx 36 (bkC B bv bn bp)::rowP eB tyBool l4 lw::cs)∧∀w,On l4 w↔On l2 w∨ptk u b T m q w) ?_ (k:=T.vals.length)
   ⟨0,l3,rfl,rfl,rfl,rfl,rfl,rfl,rfl,rfl,rfl,rfl,rfl,rfl,rfl,rfl,rfl,rfl,by omega,Sn.refl _ _,hl3,H6,ho3⟩
  rintro k3 x0 x1 x5 x6 x16 x17 x18 x91 x92 x93 x106 x107 x108 x114 x115 x116 h7 ⟨q,l4,rfl,rfl,e5,rfl,rfl,rfl,rfl,e91,rfl,rfl,e106,rfl,rfl,e114,rfl,rfl,hk3,s7,hl4,H7,ho4⟩
  subst x5 x91 x106 x114
  unfold B_alloc_liver_end_L5
  by_cases hq:q<T.vals.length
  rotate_left
  ·refine st_lt (if_f (by omega) ?_)
   obtain rfl:q=T.vals.length:=by omega
   refine st_add (m:=1) (by omega) (by omega) ⟨k2 - 1,by omega,m+1,l4,rfl,rfl,rfl,rfl,rfl,rfl,rfl,rfl,rfl,rfl,rfl,by omega,s6.trans s7,hl4,H7,fun w=>?_⟩
   rw [ho4 w,ptk_next]
  refine st_lt (if_t (by omega) ?_)
  obtain ⟨v,hv⟩:∃v,T.vals[q]? = some v:=⟨_,List.getElem?_eq_getElem hq⟩
  have hat:At u v t q:=⟨T,hT,hv⟩
  have hvl:v<u.vals.length:=g.atlt v t q hat
  obtain ⟨x,hx⟩:∃x,u.vals[v]? = some x:=⟨_,List.getElem?_eq_getElem hvl⟩
  have hu7:=(hu5.since s6).since s7
  have C7:Lk F h7 _ lv u vv vb vs vin vout:=⟨H7,⟨ic+3,hc⟩,hu7⟩
  obtain ⟨l8,o8,_,q1,q2⟩:=(kv6.since s7).nat hv .i64
  obtain ⟨l9,o9,xw,_,r1,_,rw9,ra⟩:=hu7.val hx
  refine oP_mk q1 (oP_mk q2 (oP_mk (hbin_eql _ _ _ _) ?_))
  have eA:pAnd (.bool ((p:Int) == (b:Int))) (oB (some (V.ptr lv 0)) fun v124=>oB (pNil v124) fun v125=>oB (pFA 0 v125) fun v126=>oB (pFA 2 v126) fun v127=>oB (pLd v127 h7) fun v128=>oB (some (V.int .i64 (v:Nat))) fun v129=>oB (pIx 6 v128 v129) fun v130=>oB (pFA 0 v130) fun v131=>oB (pLd v131 h7) fun v132=>hbin .eql 3 v132 (V.int .i64 21))=some (.bool (p == b&&x.op == 21)):=by
   have l2:pLd (.ptr lv (0+0+2)) h7=some vv:=C7.ld 2 rfl
   have l3:pLd (.ptr l9 (o9+0)) h7=some (.int .i64 (x.op:Nat)):=ra.op
   simp only [oB_some',pNil_ptr,pFA_ptr,l2,r1,l3,hbin_eql,pAnd_bool]
   rw [ieq,show ((x.op:Int) == 21)=(x.op == 21) from ieq _ 21]
  refine oP_mk eA (st_b ?_)
  cases hcd:(p == b&&x.op == 21) with
  | true =>
    refine if_t rfl ?_
    rw [Bool.and_eq_true, beq_iff_eq, beq_iff_eq] at hcd
    obtain ⟨rfl, c21⟩ := hcd
    have hpl := (g.phi _ _ _ _ _ hat hx c21 hT).2
    obtain ⟨a, ha⟩ : ∃ a, x.args[m]? = some a := ⟨_, List.getElem?_eq_getElem (show m < x.args.length by omega)⟩
    have hal : a < u.vals.length := by
      refine gives_lt (g.use v x hx a ?_)
      unfold uses
      rw [if_pos c21]
      exact List.mem_of_getElem? ha
    obtain ⟨l10, o10, _, t1, t2⟩ := rw9.nat ha .i64
    obtain ⟨l11, o11, h11, e1, e2, _, H11, s11⟩ := H7.stR 2 rfl (k := a) (y := true) (u := V.bool true) (show a < l4.length by omega) rfl rfl rfl
    refine oP_mk (pNil_ptr _ _) (oP_mk (pFA_ptr _ _ _) (oP_mk (pFA_ptr _ _ _) (oP_mk (C7.ld 2 rfl) (oP_mk r1 (oP_mk (pFA_ptr _ _ _) (oP_mk ra.args (oP_mk t1 (oP_mk t2 (oP_mk e1 ?_)))))))))
    rw [e2, valP_some]
    simp only [List.set_cons_succ, List.set_cons_zero] at H11
    refine j_alloc_liver_end_R43 ?_
    unfold B_alloc_liver_end_R43
    refine st_add (m := 1) (by omega) (by omega) ⟨k3 - 1, by omega, q + 1, l4.set a true, rfl, rfl, rfl, rfl, rfl, rfl, rfl, rfl, rfl, rfl, rfl, rfl, rfl, rfl, rfl, rfl, by omega, s7.trans s11, by simp [hl4], H11, fun w => ?_⟩
    rw [On_set (by omega), ho4 w, ptk_step hv hx]
    constructor
    · rintro (⟨rfl, _⟩ | ⟨_, h1 | h1⟩)
      · exact .inr (.inr ⟨hp, c21, ha⟩)
      · exact .inl h1
      · exact .inr (.inl h1)
    · intro h1
      by_cases e : w = a
      · exact .inl ⟨e, rfl⟩
      · refine .inr ⟨e, ?_⟩
        rcases h1 with h2 | h2 | ⟨_, _, h2⟩
        · exact .inl h2
        · exact .inr h2
        · rw [ha] at h2
          exact absurd (Option.some.inj h2).symm e
  | false =>
    refine if_f (by simp) ?_
    refine j_alloc_liver_end_R43 ?_
    unfold B_alloc_liver_end_R43
    refine st_add (m := 1) (by omega) (by omega) ⟨k3 - 1, by omega, q + 1, l4, rfl, rfl, rfl, rfl, rfl, rfl, rfl, rfl, rfl, rfl, rfl, rfl, rfl, rfl, rfl, rfl, by omega, s7, hl4, H7, fun w => ?_⟩
    rw [ho4 w, ptk_step hv hx]
    constructor
    · exact fun h => h.imp id .inl
    · rintro (h1 | h1 | ⟨h1, h2, _⟩)
      · exact .inl h1
      · exact .inr h1
      · rw [hp] at h1
        obtain rfl := Option.some.inj h1
        rw [h2] at hcd
        simp at hcd
 refine st_lt (if_f (by omega) ?_)
 obtain rfl:n2=B.next.length:=by omega
 have ho2' : ∀w,On l2 w↔ln (inOf ins) (headIn u) (next u b) (fun _=>False) w∨phiTake u b w:=fun w=>by rw [ho2 w,hob w,ptn_all hB]
 have s04:=(s12.trans s3).trans s4
 refine oP_mk (pFA_ptr _ _ _) (oP_mk (H4.ld 0 rfl rfl) ?_)
 have fin:∀(h5:Hp) (l5:List Bool),Sn F h4 F h5→Hold F h5 (rowP eB tyBool l5 lw::cs)→l5.length=u.vals.length→(∀w,On l5 w↔On l2 w∨endTake u b w)→J_alloc_liver_end_R9 CS Q lw h5:=by
  intro h5 l5 s5 H5 hl5 ho5
  refine j_alloc_liver_end_R9 ?_
  unfold B_alloc_liver_end_R9
  refine H F h5 l5 lw (s04.trans s5) H5 hl5 fun w=>?_
  rw [ho5 w,ho2' w]
  unfold EndP
  rw [or_assoc]
 by_cases c2:B.fin=2
 ·refine st_eq (if_t (by omega) ?_)
  have hcl:B.cond<u.vals.length:=by
   rcases g.fin b B hB with ⟨h1,_⟩ | ⟨_,_,h1⟩ | ⟨h1,_⟩
   ·omega
   ·exact gives_lt h1
   ·omega
  obtain ⟨l8,o8,h8,e1,e2,_,H8,s8⟩:=H4.stR 1 rfl (k:=B.cond) (y:=true) (u:=V.bool true) (show B.cond<l2.length by omega) rfl rfl rfl
  refine oP_mk (pFA_ptr _ _ _) (oP_mk (H4.ld 0 rfl rfl) (oP_mk e1 ?_))
  rw [e2,valP_some]
  simp only [List.set_cons_succ,List.set_cons_zero] at H8
  refine fin h8 _ s8 H8.tail (by simp [hl2]) fun w=>?_
  rw [On_set (by omega)]
  unfold endTake
  constructor
  ·rintro (⟨rfl,_⟩ | ⟨_,h1⟩)
   ·exact .inr ⟨B,hB, .inl ⟨c2,rfl⟩⟩
   ·exact .inl h1
  ·rintro (h1 | ⟨B',h1,h2 | h2⟩)
   ·by_cases e:w=B.cond
    ·exact .inl ⟨e,rfl⟩
    ·exact .inr ⟨e,h1⟩
   ·rw [hB] at h1;cases h1
    exact .inl ⟨h2.2,rfl⟩
   ·rw [hB] at h1;cases h1
    omega
 refine st_eq (if_f (by omega) ?_)
 by_cases c3:B.fin=3
 ·refine st_eq (if_t (by omega) ?_)
  have hsl:B.state<u.states.length:=by
   rcases g.fin b B hB with ⟨h1,_⟩ | ⟨h1,_⟩ | ⟨_,_,h1⟩
   ·omega
   ·omega
   ·exact h1
  obtain ⟨fs,hfs⟩:∃fs,u.states[B.state]? = some fs:=⟨_,List.getElem?_eq_getElem hsl⟩
  refine oP_mk (pFA_ptr _ _ _) (oP_mk (H4.ld 0 rfl rfl) ?_)
  have C4:Lk F h4 (rowP eB tyBool l2 lw::cellP bx 36 (bkC B bv bn bp)::cs) lv u vv vb vs vin vout:=⟨H4.sw,⟨ic+2,hc⟩,hu4⟩
  refine lv_state C4 hfs (good_st g _ _ hfs) (fun y hy=>by rw [hl2];exact frames_lt g hfs y hy) fun h5 l5 s5 H5 hl5 ho5=>?_
  refine fin h5 l5 s5 H5.drop1 (by omega) fun w=>?_
  rw [ho5 w]
  unfold endTake
  constructor
  ·rintro (h1 | h1)
   ·exact .inl h1
   ·exact .inr ⟨B,hB, .inr ⟨c3,by unfold stFrames;rw [hfs];exact h1⟩⟩
  ·rintro (h1 | ⟨B',h1,h2 | h2⟩)
   ·exact .inl h1
   ·rw [hB] at h1;cases h1
    omega
   ·rw [hB] at h1;cases h1
    have h3:=h2.2
    unfold stFrames at h3
    rw [hfs] at h3
    exact .inr h3
 ·refine st_eq (if_f (by omega) ?_)
  refine fin h4 l2 (Sn.refl _ _) H4.tail hl2 fun w=>?_
  constructor
  ·exact .inl
  ·rintro (h1 | ⟨B',h1,h2 | h2⟩)
   ·exact h1
   ·rw [hB] at h1;cases h1
    omega
   ·rw [hB] at h1;cases h1
    omega
end
end Go.Proofs.YtiepamfpilhcjaaDoor.Hx
