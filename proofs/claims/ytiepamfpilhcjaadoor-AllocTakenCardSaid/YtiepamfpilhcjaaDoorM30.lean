/- Parts of the proof, joined: HxTa. -/
import Derived.Test.YtiepamfpilhcjaaDoorM29
namespace Go.Proofs.YtiepamfpilhcjaaDoor.Hx
open Go.Proofs.YtiepamfpilhcjaaDoor.Un Go.Proofs.YtiepamfpilhcjaaDoor.Dm
theorem knownKnown (h:Hp):CS.K n_turnstonelaw24_known [] h=some (.bool true):=rfl
section
variable {F F' : Nat→Prop} {h h' : Hp} {cs:List Pc} {Q:V→Hp→Prop} {u:U} {vv vb vs:V}
theorem ct_known (H:Q (.bool true) h):cP CS n_turnstonelaw24_known [] h Q:=by
 obtain ⟨fn,c,hf,hb⟩:=bodyKnown
 exact cP.known hf hb (knownKnown h) rfl rfl H
def Bof (u:U) (b k:Nat) (bl:List Nat):Prop:=bl.length=u.vals.length∧∀(v c j:Nat),At u v c j→(c<b∨(c=b∧j<k))→bl[v]? = some c
theorem Bof.step {b k:Nat} {bl:List Nat} (S:Bof u b k bl) (g:Good u) {v:Nat} (hv:At u v b k):Bof u b (k+1) (bl.set v b):=by
 have hlt:=g.atlt _ _ _ hv
 refine ⟨by simp [S.1],fun w c j hw hc=>?_⟩
 by_cases e:w=v
 ·subst e
  obtain ⟨rfl,rfl⟩:=g.at2 _ _ _ _ _ hw hv
  rw [List.getElem?_set_self (by rw [S.1];exact hlt)]
 ·rw [List.getElem?_set_ne fun h=>e h.symm]
  refine S.2 w c j hw ?_
  rcases hc with h1 | ⟨rfl,h1⟩
  ·exact .inl h1
  ·refine .inr ⟨rfl,?_⟩
   rcases Nat.lt_or_ge j k with h2 | h2
   ·exact h2
   ·exfalso
    obtain rfl:j=k:=by omega
    obtain ⟨B,h3,h4⟩:=hw
    obtain ⟨B',h5,h6⟩:=hv
    rw [h3] at h5;cases h5
    rw [h4] at h6;cases h6
    exact e rfl
theorem Bof.next {b:Nat} {bl:List Nat} {B:Bk} (S:Bof u b B.vals.length bl) (hB:u.blocks[b]? = some B):Bof u (b+1) 0 bl:=by
 refine ⟨S.1,fun v c j hv hc=>S.2 v c j hv ?_⟩
 by_cases e:c=b
 ·subst e
  obtain ⟨B',h1,h2⟩:=hv
  rw [hB] at h1;cases h1
  exact .inr ⟨rfl,(List.getElem?_eq_some_iff.1 h2).1⟩
 ·exact .inl (by omega)
theorem row_bool {ins:List (List Bool)} (S:Shp u ins) {vin:V} (r:SlR (eL eB) F h ins vin) {b v:Nat} (hb:b<u.blocks.length) (hv:v<u.vals.length) :
  ∃(row:List Bool) (y:Bool) (w:V) (l o l' o' : Nat),(y=true↔inOf ins b v)∧row.length=u.vals.length∧ins[b]? = some row∧pIx 1 vin (.int .i64 (b:Nat))=some (.ptr l o)∧pLd (.ptr l o) h=some w∧pLen w=some (.int .i64 (u.vals.length:Nat))∧pIx 1 w (.int .i64 (v:Nat))=some (.ptr l' o')∧pLd (.ptr l' o') h=some (.bool y):=by
 obtain ⟨row,hr⟩:∃r,ins[b]? = some r:=⟨_,List.getElem?_eq_getElem (show b<ins.length by rw [S.len];exact hb)⟩
 have hl:=S.row row (List.mem_of_getElem? hr)
 obtain ⟨y,hy⟩:∃y,row[v]? = some y:=⟨_,List.getElem?_eq_getElem (show v<row.length by omega)⟩
 obtain ⟨l,o,w,_,h1,h2,h3⟩:=r.list hr .i64
 obtain ⟨l',o',_,h4,h5⟩:=h3.bool hy .i64
 refine ⟨row,y,w,l,o,l',o',?_,hl,hr,h1,h2,by rw [h3.len,hl],h4,h5⟩
 rw [inOf_row hr]
 unfold On
 rw [hy]
 simp
theorem row_len {ins:List (List Bool)} (S:Shp u ins) {vin:V} (r:SlR (eL eB) F h ins vin) {b:Nat} (hb:b<u.blocks.length) :
  ∃(w:V) (l o:Nat),pIx 1 vin (.int .i64 (b:Nat))=some (.ptr l o)∧pLd (.ptr l o) h=some w∧pLen w=some (.int .i64 (u.vals.length:Nat)):=by
 obtain ⟨row,hr⟩:∃r,ins[b]? = some r:=⟨_,List.getElem?_eq_getElem (show b<ins.length by rw [S.len];exact hb)⟩
 obtain ⟨l,o,w,_,h1,h2,h3⟩:=r.list hr .i64
 exact ⟨w,l,o,h1,h2,by rw [h3.len,S.row row (List.mem_of_getElem? hr)]⟩
theorem ct_AllocTaken {ops shape:List Int} {np:Int} {vo vsh:V} (H0:Hold F h cs) (hvo:SlR (eI .i64) F h ops vo) (hvs:SlR (eI .i64) F h shape vsh) (ho:ops.length<9223372036854775808) (H:∀h',Q (.bool true) h') :
  cP CS n_turnstonelaw24_AllocTaken [.agg [vo,vsh, .int .i64 np]] h Q:=by
 refine c_turnstonelaw24_AllocTaken rfl rfl ?_
 unfold B_turnstonelaw24_AllocTaken
 refine st_box H0 (by simp only [allOne_cons,hvo.one,hvs.one];rfl) fun h1 H1 s1=>?_
 refine oP_mk (H1.ldA 0 rfl rfl) ?_
 refine ct_Unit H1 (hvo.since s1) (hvs.since s1) ho fun F2 h2 w s2 H2 hw=>?_
 have g:Good (unitM ops shape np):=unit_good ops shape np
 generalize unitM ops shape np=u at *
 obtain ⟨vv,vb,vs,rfl,w1,w2,w3⟩:=hw
 have u2:URd F2 h2 u vv vb vs:=⟨w1,w2,w3⟩
 have nv:=g.nv
 have nb:=g.nb
 refine st_copy H2 rfl rfl u2.one fun h3 H3 s3=>?_
 have u3:=u2.since s3
 generalize h2.next=lu at *
 refine oP_mk (H3.ldA 0 rfl rfl) ?_
 refine ct_Live g H3 u3 fun F4 h4 vin vout ins outs s4 H4 ri ro hsi hso hA=>?_
 have u4:=u3.since s4
 refine oP_mk rfl (oP_mk rfl (ct_known (oP_mk rfl ?_)))
 have l3:pLd (.ptr lu (0+3)) h4=some vb:=H4.ld 0 rfl rfl
 have eI:pOr (.bool (!true)) (oB (some vin) fun v26=>oB (pLen v26) fun v27=>oB (pFA 3 (.ptr lu 0)) fun v28=>oB (pLd v28 h4) fun v29=>oB (pLen v29) fun v30=>hbin .neq 3 v27 v30)=some (.bool false):=by
  simp only [Bool.not_true,pOr_false,oB_some',ri.len,pFA_ptr,l3,u4.b.len,hbin_neq,hsi.len,bne_self_eq_false]
 have eO:pOr (.bool false) (oB (some vout) fun v26=>oB (pLen v26) fun v27=>oB (pFA 3 (.ptr lu 0)) fun v28=>oB (pLd v28 h4) fun v29=>oB (pLen v29) fun v30=>hbin .neq 3 v27 v30)=some (.bool false):=by
  simp only [pOr_false,oB_some',ro.len,pFA_ptr,l3,u4.b.len,hbin_neq,hso.len,bne_self_eq_false]
 refine oP_mk eI (oP_mk eO (st_b (if_f (by simp) ?_)))
 refine oP_mk (pFA_ptr _ _ _) (oP_mk (H4.ld 0 rfl rfl) (oP_mk u4.v.len ?_))
 rw [hmake_of (z:=V.int .i64 0) rfl (by decide) (by omega),alP_some]
 obtain ⟨H5,s5⟩:=H4.make (E:=eN) (ty:=tyInt) (y:=0) (u:=V.int .i64 0) u.vals.length rfl rfl
 generalize V.slice h4.next 0 u.vals.length=vk at *
 generalize h4.new (.cells tyInt 1 true false (List.replicate u.vals.length (V.int .i64 0)))=h5 at *
 have u5:=u4.since s5
 refine l_turnstonelaw24_AllocTaken_L0 (fun k x3 x4 x5 x6 x7 h'=>∃(b:Nat) (bl:List Nat),x3 = .ptr lu 0∧x4=vin∧x5=vout∧x6=vk∧x7 = .int .i64 (b:Nat)∧b+k=u.blocks.length∧Bof u b 0 bl∧Sn F4 h5 F4 h'∧Hold F4 h' (rowP eN tyInt bl vk::cellP lu 29 (uC u vv vb vs)::cellP h.next 24 [vo,vsh, .int .i64 np]::cs)) ?_ (k:=u.blocks.length)
  ⟨0,_,rfl,rfl,rfl,rfl,rfl,by omega,⟨by simp,fun v c j _ h=>by omega⟩,Sn.refl _ _,H5⟩
 rintro k x3 x4 x5 x6 x7 h6 ⟨b,bl,rfl,e4,e5,e6,rfl,hk,hB0,s6,H6⟩
 subst x4 x5 x6
 unfold B_turnstonelaw24_AllocTaken_L0
 have u6:=u5.since s6
 refine oP_mk (pFA_ptr _ _ _) (oP_mk (H6.ld 1 rfl rfl) (oP_mk u6.b.len ?_))
 by_cases hb:b<u.blocks.length
 ·refine st_lt (if_t (by omega) ?_)
  obtain ⟨B,hB⟩:∃B,u.blocks[b]? = some B:=⟨_,List.getElem?_eq_getElem hb⟩
  have hbv:=good_vals g hB
  refine l_turnstonelaw24_AllocTaken_L2 (fun k x3 x4 x5 x6 x7 x8 h'=>∃(j:Nat) (bl:List Nat),x3 = .ptr lu 0∧x4=vin∧x5=vout∧x6=vk∧x7 = .int .i64 (b:Nat)∧x8 = .int .i64 (j:Nat)∧j+k=B.vals.length∧Bof u b j bl∧Sn F4 h5 F4 h'∧Hold F4 h' (rowP eN tyInt bl vk::cellP lu 29 (uC u vv vb vs)::cellP h.next 24 [vo,vsh, .int .i64 np]::cs)) ?_ (k:=B.vals.length)
   ⟨0,bl,rfl,rfl,rfl,rfl,rfl,rfl,by omega,hB0,s6,H6⟩
  rintro k2 x3 x4 x5 x6 x7 x8 h7 ⟨j,bl2,rfl,e4,e5,e6,rfl,rfl,hk2,hBj,s7,H7⟩
  subst x4 x5 x6
  unfold B_turnstonelaw24_AllocTaken_L2
  have u7:=u5.since s7
  obtain ⟨lb,ob,bv,bn,bp,_,i1,_,iv,_,_,ba⟩:=u7.blk hB
  refine oP_mk (pFA_ptr _ _ _) (oP_mk (H7.ld 1 rfl rfl) (oP_mk i1 (oP_mk (pFA_ptr _ _ _) (oP_mk ba.vals (oP_mk iv.len ?_)))))
  by_cases hj:j<B.vals.length
  ·refine st_lt (if_t (by omega) ?_)
   have hat:At u (B.vals[j]) b j:=⟨B,hB,List.getElem?_eq_getElem hj⟩
   have hvl:=g.atlt _ _ _ hat
   obtain ⟨l8,o8,_,p1,p2⟩:=iv.nat (List.getElem?_eq_getElem hj) .i64
   obtain ⟨l9,o9,h9,e1,e2,_,H9,s9⟩:=H7.stR 0 rfl (k:=B.vals[j]) (y:=b) (u:=V.int .i64 (b:Nat)) (by rw [hBj.1];exact hvl) rfl rfl rfl
   refine oP_mk (pFA_ptr _ _ _) (oP_mk (H7.ld 1 rfl rfl) (oP_mk i1 (oP_mk (pFA_ptr _ _ _) (oP_mk ba.vals (oP_mk p1 (oP_mk p2 (oP_mk e1 ?_)))))))
   rw [e2,valP_some]
   simp only [List.set_cons_zero] at H9
   exact st_add (m:=1) (by omega) (by omega) ⟨k2 - 1,by omega,j+1,_,rfl,rfl,rfl,rfl,rfl,rfl,by omega,hBj.step g hat,s7.trans s9,H9⟩
  ·refine st_lt (if_f (by omega) ?_)
   obtain rfl:j=B.vals.length:=by omega
   exact st_add (m:=1) (by omega) (by omega) ⟨k - 1,by omega,b+1,bl2,rfl,rfl,rfl,rfl,rfl,by omega,hBj.next hB,s7,H7⟩
 refine st_lt (if_f (by omega) ?_)
 obtain rfl:b=u.blocks.length:=by omega
 have hbl:∀v c j,At u v c j→bl[v]? = some c:=fun v c j hv=>hB0.2 v c j hv (.inl (by obtain ⟨B,h1,_⟩:=hv;exact (List.getElem?_eq_some_iff.1 h1).1))
 have ri6:=(ri.since s5).since s6
 have ro6:=(ro.since s5).since s6
 refine l_turnstonelaw24_AllocTaken_L1 (fun k x3 x4 x5 x6 x9 h'=>∃(F' : Nat→Prop) (b:Nat),x3 = .ptr lu 0∧x4=vin∧x5=vout∧x6=vk∧x9 = .int .i64 (b:Nat)∧b+k=u.blocks.length∧Sn F4 h6 F' h'∧Hold F' h' (rowP eN tyInt bl vk::cellP lu 29 (uC u vv vb vs)::cellP h.next 24 [vo,vsh, .int .i64 np]::cs)) ?_ (k:=u.blocks.length)
  ⟨F4,0,rfl,rfl,rfl,rfl,rfl,by omega,Sn.refl _ _,H6⟩
 clear hk k
 rintro k x3 x4 x5 x6 x9 h7 ⟨F7,b,rfl,e4,e5,e6,rfl,hk,s7,H7⟩
 subst x4 x5 x6
 unfold B_turnstonelaw24_AllocTaken_L1
 have u7:=u6.since s7
 have ri7:=ri6.since s7
 have ro7:=ro6.since s7
 refine oP_mk (pFA_ptr _ _ _) (oP_mk (H7.ld 1 rfl rfl) (oP_mk u7.b.len ?_))
 by_cases hb:b<u.blocks.length
 rotate_left
 ·exact st_lt (if_f (by omega) (H h7))
 refine st_lt (if_t (by omega) ?_)
 obtain ⟨B,hB⟩:∃B,u.blocks[b]? = some B:=⟨_,List.getElem?_eq_getElem hb⟩
 have hbv:=good_vals g hB
 have hbp:=good_preds g hB
 obtain ⟨wi,li,oi,a1,a2,a3⟩:=row_len hsi ri7 hb
 obtain ⟨wo,lo,oo,c1,c2,c3⟩:=row_len hso ro7 hb
 have l2:pLd (.ptr lu (0+2)) h7=some vv:=H7.ld 1 rfl rfl
 refine oP_mk a1 (oP_mk a2 (oP_mk a3 (oP_mk (pFA_ptr _ _ _) (oP_mk l2 (oP_mk u7.v.len (oP_mk (hbin_neq _ _ _ _) ?_))))))
 have eL:pOr (.bool (((u.vals.length:Nat):Int) != (u.vals.length:Nat))) (oB (some vout) fun v92=>oB (some (V.int .i64 (b:Nat))) fun v93=>oB (pIx 1 v92 v93) fun v94=>oB (pLd v94 h7) fun v95=>oB (pLen v95) fun v96=>oB (pFA 2 (.ptr lu 0)) fun v97=>oB (pLd v97 h7) fun v98=>oB (pLen v98) fun v99=>hbin .neq 3 v96 v99)=some (.bool false):=by
  simp only [bne_self_eq_false,pOr_false,oB_some',c1,c2,c3,pFA_ptr,l2,u7.v.len,hbin_neq]
 refine oP_mk eL (st_b (if_f (by simp) ?_))
 refine l_turnstonelaw24_AllocTaken_L3 (fun k x3 x4 x5 x6 x9 x10 h'=>∃v:Nat,x3 = .ptr lu 0∧x4=vin∧x5=vout∧x6=vk∧x9 = .int .i64 (b:Nat)∧x10 = .int .i64 (v:Nat)∧v+k=u.vals.length∧h' = h7) ?_ (k:=u.vals.length) ⟨0,rfl,rfl,rfl,rfl,rfl,rfl,by omega,rfl⟩
 rintro k2 x3 x4 x5 x6 x9 x10 h' ⟨v,rfl,e4,e5,e6,rfl,rfl,hk2,rfl⟩
 subst x4 x5 x6
 unfold B_turnstonelaw24_AllocTaken_L3
 refine oP_mk (pFA_ptr _ _ _) (oP_mk l2 (oP_mk u7.v.len ?_))
 obtain ⟨lb,ob,bv,bn,bp,_,i1,_,iv,_,ip,ba⟩:=u7.blk hB
 have l3:pLd (.ptr lu (0+3)) h' = some vb:=H7.ld 1 rfl rfl
 by_cases hv:v<u.vals.length
 ·refine st_lt (if_t (by omega) ?_)
  obtain ⟨c,jc,hat⟩:=g.at1 v hv
  obtain ⟨x,hx⟩:∃x,u.vals[v]? = some x:=⟨_,List.getElem?_eq_getElem hv⟩
  obtain ⟨row,y,wi,li,oi,l',o',hy,hrl,hrow,a1,a2,_,a4,a5⟩:=row_bool hsi ri7 hb hv
  obtain ⟨row',z,wo,lo,oo,l'',o'',hz,_,_,c1,c2,_,c4,c5⟩:=row_bool hso ro7 hb hv
  obtain ⟨lk,ok,k1,k2'⟩:=H7.natR 0 rfl (hbl v c jc hat) .i64
  obtain ⟨lx,ox,wx,_,x1,_,_,xa⟩:=u7.val hx
  have xop:pLd (.ptr lx (ox+0)) h' = some (.int .i64 (x.op:Nat)):=xa.op
  have bpd:pLd (.ptr lb (ob+4)) h' = some bp:=ba.preds
  refine l_turnstonelaw24_AllocTaken_L5 (fun k x3 x4 x5 x6 x9 x10 x11 h''=>∃m:Nat,x3 = .ptr lu 0∧x4=vin∧x5=vout∧x6=vk∧x9 = .int .i64 (b:Nat)∧x10 = .int .i64 (v:Nat)∧x11 = .int .i64 (m:Nat)∧m+k=B.preds.length∧h'' = h') ?_ (k:=B.preds.length) ⟨0,rfl,rfl,rfl,rfl,rfl,rfl,rfl,by omega,rfl⟩
  rintro k3 x3 x4 x5 x6 x9 x10 x11 h'' ⟨m,rfl,e4,e5,e6,rfl,rfl,rfl,hk3,rfl⟩
  subst x4 x5 x6
  unfold B_turnstonelaw24_AllocTaken_L5
  refine oP_mk (pFA_ptr _ _ _) (oP_mk l3 (oP_mk i1 (oP_mk (pFA_ptr _ _ _) (oP_mk bpd (oP_mk ip.len ?_)))))
  by_cases hm:m<B.preds.length
  ·refine st_lt (if_t (by omega) ?_)
   obtain ⟨p,hp⟩:∃p,B.preds[m]? = some p:=⟨_,List.getElem?_eq_getElem hm⟩
   have hbp' : b∈next u p:=by
    have:=List.mem_of_getElem? hp
    rw [g.preds b B hB] at this
    exact mem_ahead.1 this
   have hpl:=(g.nextLt hbp').1
   obtain ⟨rowp,q,wq,lq,oq,lq',oq',hq,_,_,q1,q2,_,q4,q5⟩:=row_bool hso ro7 hpl hv
   obtain ⟨lp,op,_,p1,p2⟩:=ip.nat hp .i64
   refine oP_mk a1 (oP_mk a2 (oP_mk a4 (oP_mk a5 ?_)))
   have e1:pAnd (.bool y) (oB (some vk) fun v128=>oB (some (V.int .i64 (v:Nat))) fun v129=>oB (pIx 1 v128 v129) fun v130=>oB (pLd v130 h'') fun v131=>oB (some (V.int .i64 (b:Nat))) fun v132=>oB (hbin .neq 3 v131 v132) fun v133=>oB (some v133) fun v134=>pOr v134 (oB (pFA 2 (.ptr lu 0)) fun v135=>oB (pLd v135 h'') fun v136=>oB (some (V.int .i64 (v:Nat))) fun v137=>oB (pIx 6 v136 v137) fun v138=>oB (pFA 0 v138) fun v139=>oB (pLd v139 h'') fun v140=>hbin .neq 3 v140 (V.int .i64 21)))=some (.bool (y&&(((c:Int) != (b:Int)) || ((x.op:Int) != 21)))):=by
    simp only [oB_some',k1,k2',hbin_neq,pFA_ptr,l2,x1,xop,pOr_bool,pAnd_bool]
   have e2:pAnd (.bool (y&&(((c:Int) != (b:Int)) || ((x.op:Int) != 21)))) (oB (some vout) fun v145=>oB (pFA 3 (.ptr lu 0)) fun v146=>oB (pLd v146 h'') fun v147=>oB (some (V.int .i64 (b:Nat))) fun v148=>oB (pIx 6 v147 v148) fun v149=>oB (pFA 4 v149) fun v150=>oB (pLd v150 h'') fun v151=>oB (some (V.int .i64 (m:Nat))) fun v152=>oB (pIx 1 v151 v152) fun v153=>oB (pLd v153 h'') fun v154=>oB (pIx 1 v145 v154) fun v155=>oB (pLd v155 h'') fun v156=>oB (some (V.int .i64 (v:Nat))) fun v157=>oB (pIx 1 v156 v157) fun v158=>oB (pLd v158 h'') fun v159=>hun .not v159)=some (.bool false):=by
    simp only [oB_some',pFA_ptr,l3,i1,bpd,p1,p2,q1,q2,q4,q5,hun_not,pAnd_bool]
    congr 2
    rw [Bool.eq_false_iff]
    intro hh
    simp only [Bool.and_eq_true,Bool.or_eq_true,bne_iff_ne,Bool.not_eq_true'] at hh
    obtain ⟨⟨h1,h2⟩,h3⟩:=hh
    have:=hq.2 (g.inOut hA hbp' (hy.1 h1) hat (by
     rcases h2 with h4 | h4
     ·exact .inl (by omega)
     ·refine .inr fun ⟨x',hx',ho'⟩=>?_
      rw [hx] at hx';cases hx'
      omega))
    rw [h3] at this
    cases this
   refine oP_mk e1 (oP_mk e2 (st_b (if_f (by simp) ?_)))
   exact st_add (m:=1) (by omega) (by omega) ⟨k3 - 1,by omega,m+1,rfl,rfl,rfl,rfl,rfl,rfl,rfl,by omega,rfl⟩
  ·refine st_lt (if_f (by omega) ?_)
   refine oP_mk c1 (oP_mk c2 (oP_mk c4 (oP_mk c5 ?_)))
   have e1:pAnd (.bool z) (oB (some vk) fun v170=>oB (some (V.int .i64 (v:Nat))) fun v171=>oB (pIx 1 v170 v171) fun v172=>oB (pLd v172 h'') fun v173=>oB (some (V.int .i64 (b:Nat))) fun v174=>hbin .neq 3 v173 v174)=some (.bool (z&&((c:Int) != (b:Int)))):=by
    simp only [oB_some',k1,k2',hbin_neq,pAnd_bool]
   have e2:pAnd (.bool (z&&((c:Int) != (b:Int)))) (oB (some vin) fun v178=>oB (some (V.int .i64 (b:Nat))) fun v179=>oB (pIx 1 v178 v179) fun v180=>oB (pLd v180 h'') fun v181=>oB (some (V.int .i64 (v:Nat))) fun v182=>oB (pIx 1 v181 v182) fun v183=>oB (pLd v183 h'') fun v184=>hun .not v184)=some (.bool false):=by
    simp only [oB_some',a1,a2,a4,a5,hun_not,pAnd_bool]
    congr 2
    rw [Bool.eq_false_iff]
    intro hh
    simp only [Bool.and_eq_true,bne_iff_ne,Bool.not_eq_true'] at hh
    obtain ⟨⟨h1,h2⟩,h3⟩:=hh
    have:=hy.2 (g.outIn hA hb (hz.1 h1) hat (by omega))
    rw [h3] at this
    cases this
   refine oP_mk e1 (oP_mk e2 (st_b (if_f (by simp) ?_)))
   exact st_add (m:=1) (by omega) (by omega) ⟨k2 - 1,by omega,v+1,rfl,rfl,rfl,rfl,rfl,rfl,by omega,rfl⟩
 refine st_lt (if_f (by omega) ?_)
 refine l_turnstonelaw24_AllocTaken_L4 (fun k x3 x4 x5 x6 x9 x12 h''=>∃(F' : Nat→Prop) (m:Nat),x3 = .ptr lu 0∧x4=vin∧x5=vout∧x6=vk∧x9 = .int .i64 (b:Nat)∧x12 = .int .i64 (m:Nat)∧m+k=B.vals.length∧Sn F7 h' F' h''∧Hold F' h'' (rowP eN tyInt bl vk::cellP lu 29 (uC u vv vb vs)::cellP h.next 24 [vo,vsh, .int .i64 np]::cs)) ?_ (k:=B.vals.length)
  ⟨F7,0,rfl,rfl,rfl,rfl,rfl,rfl,by omega,Sn.refl _ _,H7⟩
 rintro k3 x3 x4 x5 x6 x9 x12 h8 ⟨F8,m,rfl,e4,e5,e6,rfl,rfl,hk3,s8,H8⟩
 subst x4 x5 x6
 unfold B_turnstonelaw24_AllocTaken_L4
 have u8:=u7.since s8
 have ri8:=ri7.since s8
 have ro8:=ro7.since s8
 obtain ⟨lb,ob,bv,bn,bp,hlb,i1,_,iv,_,ip,ba⟩:=u8.blk hB
 have l2:pLd (.ptr lu (0+2)) h8=some vv:=H8.ld 1 rfl rfl
 have l3:pLd (.ptr lu (0+3)) h8=some vb:=H8.ld 1 rfl rfl
 refine oP_mk (pFA_ptr _ _ _) (oP_mk l3 (oP_mk i1 (oP_mk (pFA_ptr _ _ _) (oP_mk ba.vals (oP_mk iv.len ?_)))))
 by_cases hm:m<B.vals.length
 ·refine st_lt (if_t (by omega) ?_)
  obtain ⟨v,hvm⟩:∃v,B.vals[m]? = some v:=⟨_,List.getElem?_eq_getElem hm⟩
  have hat:At u v b m:=⟨B,hB,hvm⟩
  have hvl:=g.atlt _ _ _ hat
  obtain ⟨x,hx⟩:∃x,u.vals[v]? = some x:=⟨_,List.getElem?_eq_getElem hvl⟩
  obtain ⟨lv,ov,hlv,v1,v2⟩:=iv.nat hvm .i64
  obtain ⟨lx,ox,wx,hlx,x1,x2,xw,xa⟩:=u8.val hx
  refine oP_mk (pFA_ptr _ _ _) (oP_mk l2 (oP_mk (pFA_ptr _ _ _) (oP_mk l3 (oP_mk i1 (oP_mk (pFA_ptr _ _ _) (oP_mk ba.vals (oP_mk v1 (oP_mk v2 (oP_mk x1 (oP_mk x2 ?_))))))))))
  rw [alO_some]
  obtain ⟨H9,s9⟩:=H8.newC tyVal [(V.int .i64 0),(V.int .i64 0),(V.int .i64 0),(V.int .i64 0),V.nilSlice,(V.int .i64 0)]
  have g9:(h8.new (.cells tyVal 1 true false [(V.int .i64 0),(V.int .i64 0),(V.int .i64 0),(V.int .i64 0),V.nilSlice,(V.int .i64 0)])).get h8.next=some (.cells 39 1 true false [(V.int .i64 0),(V.int .i64 0),(V.int .i64 0),(V.int .i64 0),V.nilSlice,(V.int .i64 0)]):=get_new_self _ _
  have kF:∀l,F8 l→(h8.new (.cells tyVal 1 true false [(V.int .i64 0),(V.int .i64 0),(V.int .i64 0),(V.int .i64 0),V.nilSlice,(V.int .i64 0)])).get l=h8.get l:=fun l hl=>s9.keep l hl
  refine ⟨⟨g9,O.beq_cells _ _ _ _ _⟩,pLdA_keep x2 (kF _ hlx),pLd_keep v2 (kF _ hlv),pLd_keep ba.vals (kF _ hlb),H9.ld 2 rfl rfl,H9.ld 2 rfl rfl,?_⟩
  obtain ⟨h10,e10,n10,H10,s10⟩:=H9.stA (n:=6) (ws:=vlC x wx) 0 rfl rfl rfl (by simp only [vlC,allOne_cons,xw.one];rfl)
  have e10' : pSt 6 (.ptr h8.next 0) (.agg (vlC x wx)) (h8.new (.cells 39 1 true false [(V.int .i64 0),(V.int .i64 0),(V.int .i64 0),(V.int .i64 0),V.nilSlice,(V.int .i64 0)]))=some (.val .undef h10):=e10
  rw [e10',valP_some]
  simp only [List.set_cons_zero] at H10
  refine ⟨n10,oP_mk (H10.ldA 0 rfl rfl) ?_⟩
  refine ct_refUses H10 ((xw.since s9).since s10) fun F11 h11 vl s11 H11 r11=>?_
  have hul:(uses x).length≤1000:=uses_len (good_args g hx)
  have s811:=(s9.trans s10).trans s11
  refine l_turnstonelaw24_AllocTaken_L6 (fun k x3 x4 x5 x6 x9 x12 x13 x14 x15 h''=>∃j:Nat,x3 = .ptr lu 0∧x4=vin∧x5=vout∧x6=vk∧x9 = .int .i64 (b:Nat)∧x12 = .int .i64 (m:Nat)∧x13 = .ptr h8.next 0∧x14=vl∧x15 = .int .i64 (j:Nat)∧j+k=(uses x).length∧h'' = h11) ?_ (k:=(uses x).length) ⟨0,rfl,rfl,rfl,rfl,rfl,rfl,rfl,rfl,rfl,by omega,rfl⟩
  rintro k4 x3 x4 x5 x6 x9 x12 x13 x14 x15 h'' ⟨j,rfl,e4,e5,e6,rfl,rfl,rfl,e14,rfl,hk4,rfl⟩
  subst x4 x5 x6 x14
  unfold B_turnstonelaw24_AllocTaken_L6
  refine oP_mk r11.len ?_
  by_cases hj:j<(uses x).length
  rotate_left
  ·refine st_lt (if_f (by omega) ?_)
   exact st_add (m:=1) (by omega) (by omega) ⟨k3 - 1,by omega,F11,m+1,rfl,rfl,rfl,rfl,rfl,rfl,by omega,s8.trans s811,H11.tail⟩
  refine st_lt (if_t (by omega) ?_)
  have u11:=u8.since s811
  have ri11:=ri8.since s811
  have ro11:=ro8.since s811
  obtain ⟨w,hw⟩:∃w,(uses x)[j]? = some w:=⟨_,List.getElem?_eq_getElem hj⟩
  have hwl:w<u.vals.length:=gives_lt (g.use v x hx w (List.mem_of_getElem? hw))
  obtain ⟨cw,jw,hatw⟩:=g.at1 w hwl
  obtain ⟨l12,o12,_,t1,t2⟩:=r11.nat hw .i64
  refine oP_mk (pFA_ptr _ _ _) (oP_mk (H11.ld 0 rfl rfl) ?_)
  by_cases c21:x.op=21
  ·refine st_eq (if_t (by omega) ?_)
   have hargs:uses x=x.args:=by unfold uses;rw [if_pos c21]
   have hpl:=(g.phi _ _ _ _ _ hat hx c21 hB).2
   obtain ⟨p,hp⟩:∃p,B.preds[j]? = some p:=⟨_,List.getElem?_eq_getElem (show j<B.preds.length by rw [←hpl,←hargs];exact hj)⟩
   have hpb:p<u.blocks.length:=by
    have:=List.mem_of_getElem? hp
    rw [g.preds b B hB] at this
    exact (g.nextLt (mem_ahead.1 this)).1
   obtain ⟨lb',ob',bv',bn',bp',_,i1',_,_,_,ip',ba'⟩:=u11.blk hB
   obtain ⟨lp,op,_,p1,p2⟩:=ip'.nat hp .i64
   obtain ⟨rowp,q,wq,lq,oq,lq',oq',hq,_,_,q1,q2,_,q4,q5⟩:=row_bool hso ro11 hpb hwl
   have hqt:q=true:=hq.2 (g.phiOut hA hat hx c21 hB hp (by rw [←hargs];exact hw))
   subst hqt
   refine oP_mk (pFA_ptr _ _ _) (oP_mk (H11.ld 2 rfl rfl) (oP_mk i1' (oP_mk (pFA_ptr _ _ _) (oP_mk ba'.preds (oP_mk p1 (oP_mk p2 (oP_mk q1 (oP_mk q2 (oP_mk t1 (oP_mk t2 (oP_mk q4 (oP_mk q5 ?_))))))))))))
   refine st_not (if_t rfl ?_)
   refine j_turnstonelaw24_AllocTaken_R52 ?_
   unfold B_turnstonelaw24_AllocTaken_R52
   exact st_add (m:=1) (by omega) (by omega) ⟨k4 - 1,by omega,j+1,rfl,rfl,rfl,rfl,rfl,rfl,rfl,rfl,rfl,by omega,rfl⟩
  ·refine st_eq (if_f (by omega) ?_)
   obtain ⟨lk,ok,k1,k2'⟩:=H11.natR 1 rfl (hbl w cw jw hatw) .i64
   obtain ⟨rowi,q,wq,lq,oq,lq',oq',hq,_,_,q1,q2,_,q4,q5⟩:=row_bool hsi ri11 hb hwl
   refine oP_mk t1 (oP_mk t2 (oP_mk k1 (oP_mk k2' (oP_mk (hbin_neq _ _ _ _) ?_))))
   have e1:pAnd (.bool ((cw:Int) != (b:Int))) (oB (some vin) fun v251=>oB (some (V.int .i64 (b:Nat))) fun v252=>oB (pIx 1 v251 v252) fun v253=>oB (pLd v253 h'') fun v254=>oB (some vl) fun v255=>oB (some (V.int .i64 (j:Nat))) fun v256=>oB (pIx 1 v255 v256) fun v257=>oB (pLd v257 h'') fun v258=>oB (pIx 1 v254 v258) fun v259=>oB (pLd v259 h'') fun v260=>hun .not v260)=some (.bool false):=by
    simp only [oB_some',q1,q2,t1,t2,q4,q5,hun_not,pAnd_bool]
    congr 2
    rw [Bool.eq_false_iff]
    intro hh
    simp only [Bool.and_eq_true,bne_iff_ne,Bool.not_eq_true'] at hh
    have:=hq.2 (g.useIn hA hat hx c21 (List.mem_of_getElem? hw) hatw (by omega))
    rw [hh.2] at this
    cases this
   refine oP_mk e1 (st_b (if_f (by simp) ?_))
   refine j_turnstonelaw24_AllocTaken_R52 ?_
   unfold B_turnstonelaw24_AllocTaken_R52
   exact st_add (m:=1) (by omega) (by omega) ⟨k4 - 1,by omega,j+1,rfl,rfl,rfl,rfl,rfl,rfl,rfl,rfl,rfl,by omega,rfl⟩
 refine st_lt (if_f (by omega) ?_)
 refine oP_mk (pFA_ptr _ _ _) (oP_mk l3 (oP_mk i1 (oP_mk (pFA_ptr _ _ _) (oP_mk ba.fin (oP_mk (hbin_eql _ _ _ _) ?_)))))
 have bcd:pLd (.ptr lb (ob+2)) h8=some (.int .i64 (B.cond:Nat)):=ba.cond
 have eC:pAnd (.bool ((B.fin:Int) == 2)) (oB (some vout) fun v271=>oB (some (V.int .i64 (b:Nat))) fun v272=>oB (pIx 1 v271 v272) fun v273=>oB (pLd v273 h8) fun v274=>oB (pFA 3 (.ptr lu 0)) fun v275=>oB (pLd v275 h8) fun v276=>oB (some (V.int .i64 (b:Nat))) fun v277=>oB (pIx 6 v276 v277) fun v278=>oB (pFA 2 v278) fun v279=>oB (pLd v279 h8) fun v280=>oB (pIx 1 v274 v280) fun v281=>oB (pLd v281 h8) fun v282=>hun .not v282)=some (.bool false):=by
  by_cases c2:B.fin=2
  ·have hcl:B.cond<u.vals.length:=by
    rcases g.fin b B hB with ⟨h1,_⟩ | ⟨_,_,h1⟩ | ⟨h1,_⟩
    ·omega
    ·exact gives_lt h1
    ·omega
   obtain ⟨rowi,q,wq,lq,oq,lq',oq',hq,_,_,q1,q2,_,q4,q5⟩:=row_bool hso ro8 hb hcl
   have hqt:q=true:=hq.2 (hA.condOut hB c2)
   subst hqt
   simp only [oB_some',q1,q2,pFA_ptr,l3,i1,bcd,q4,q5,hun_not,pAnd_bool]
   simp
  ·have:((B.fin:Int) == 2)=false:=by rw [beq_eq_false_iff_ne];omega
   rw [this]
   rfl
 refine oP_mk eC (st_b (if_f (by simp) ?_))
 exact st_add (m:=1) (by omega) (by omega) ⟨k - 1,by omega,F8,b+1,rfl,rfl,rfl,rfl,rfl,by omega,s7.trans s8,H8⟩
end
end Go.Proofs.YtiepamfpilhcjaaDoor.Hx
