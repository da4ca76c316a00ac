/- Parts of the proof. -/
import Derived.Test.YtiepamfpilhcjaaDoorM24
import Derived.KernelRfl
namespace Go.Proofs.YtiepamfpilhcjaaDoor.Hx
open Go.Proofs.YtiepamfpilhcjaaDoor.Un Go.Proofs.YtiepamfpilhcjaaDoor.Dm
def pre (u:U)(b:Nat):List Nat:=(u.blocks.take b).flatMap (·.vals)
theorem pre_succ {u:U}{b:Nat}{B:Bk}(hB:u.blocks[b]? = some B):pre u (b+1)=pre u b++B.vals:=by
 unfold pre
 obtain ⟨h1,rfl⟩:=List.getElem?_eq_some_iff.1 hB
 rw [List.take_succ_eq_append_getElem h1,List.flatMap_append]
 simp
theorem mem_pre {u:U}{b v:Nat} : v∈pre u b↔∃c k,At u v c k∧c<b:=by
 unfold pre At
 simp only [List.mem_flatMap]
 constructor
 ·rintro ⟨B,h1,h2⟩
  obtain ⟨c,hc⟩:=List.mem_iff_getElem?.1 h1
  obtain ⟨k,hk⟩:=List.mem_iff_getElem?.1 h2
  rw [List.getElem?_take] at hc
  split at hc
  ·exact ⟨c,k,⟨B,hc,hk⟩,by omega⟩
  ·cases hc
 ·rintro ⟨c,k,⟨B,h1,h2⟩,h3⟩
  refine ⟨B,List.mem_iff_getElem?.2 ⟨c,?_⟩,List.mem_iff_getElem?.2 ⟨k,h2⟩⟩
  rw [List.getElem?_take,if_pos h3];exact h1
theorem vals_nodup {u:U}(g:Good u){b:Nat}{B:Bk}(hB:u.blocks[b]? = some B):B.vals.Nodup:=by
 rw [List.nodup_iff_pairwise_ne,List.pairwise_iff_getElem]
 intro i j hi hj hij e
 have h1:At u (B.vals[i]) b i:=⟨B,hB,List.getElem?_eq_getElem hi⟩
 have h2:At u (B.vals[i]) b j:=⟨B,hB,by rw [e];exact List.getElem?_eq_getElem hj⟩
 have:=(g.at2 _ _ _ _ _ h1 h2).2
 omega
theorem pre_nodup {u:U}(g:Good u):∀b,(pre u b).Nodup
 | 0=>by simp [pre]
 | b + 1 => by
   by_cases hb : b < u.blocks.length
   · have hB := List.getElem?_eq_getElem hb
     rw [pre_succ hB, List.nodup_append]
     refine ⟨pre_nodup g b, vals_nodup g hB, fun v h1 w h2 e => ?_⟩
     subst e
     obtain ⟨c, k, h3, h4⟩ := mem_pre.1 h1
     obtain ⟨j, hj⟩ := List.mem_iff_getElem?.1 h2
     have := (g.at2 _ _ _ _ _ h3 ⟨_, hB, hj⟩).1
     omega
   · have : pre u (b + 1) = pre u b := by
       unfold pre
       rw [List.take_of_length_le (by omega), List.take_of_length_le (by omega)]
     rw [this]; exact pre_nodup g b
theorem pre_all {u:U}(g:Good u):(pre u u.blocks.length).length=u.vals.length:=by
 refine Nat.le_antisymm (nodup_le _ _ (pre_nodup g _) fun v hv=>?_) ?_
 ·obtain ⟨c,k,h1,_⟩:=mem_pre.1 hv
  exact g.atlt _ _ _ h1
 ·have h1:(List.range u.vals.length).length=u.vals.length:=List.length_range
  rw [←h1]
  refine sub_le _ _ List.nodup_range fun v hv=>?_
  rw [List.mem_range] at hv
  obtain ⟨b,k,h2⟩:=g.at1 v hv
  refine mem_pre.2 ⟨b,k,h2,?_⟩
  obtain ⟨B,h3,_⟩:=h2
  exact (List.getElem?_eq_some_iff.1 h3).1
structure Std (u:U) (b k:Nat) (bl pl:List Int):Prop where
 nb:bl.length=u.vals.length
 np:pl.length=u.vals.length
 yes:∀(v c j:Nat),At u v c j→(c<b∨(c=b∧j<k))→bl[v]? = some (c:Int)∧pl[v]? = some (j:Int)
 no:∀(v c j:Nat),At u v c j→¬(c<b∨(c=b∧j<k))→bl[v]? = some (-1)
theorem Std.step {u:U}{b k:Nat}{bl pl:List Int}(g:Good u)(S:Std u b k bl pl){v:Nat}(hv:At u v b k):Std u b (k+1) (bl.set v (b:Int)) (pl.set v (k:Int)):=by
 have hlt:=g.atlt _ _ _ hv
 refine ⟨by simp [S.nb],by simp [S.np],fun w c j hw hc=>?_,fun w c j hw hc=>?_⟩
 ·by_cases e:w=v
  ·subst e
   obtain ⟨rfl,rfl⟩:=g.at2 _ _ _ _ _ hw hv
   rw [List.getElem?_set_self (by rw [S.nb];exact hlt),List.getElem?_set_self (by rw [S.np];exact hlt)]
   exact ⟨rfl,rfl⟩
  ·rw [List.getElem?_set_ne fun h=>e h.symm,List.getElem?_set_ne fun h=>e h.symm]
   refine S.yes w c j hw ?_
   rcases hc with h1 | ⟨rfl,h1⟩
   ·exact .inl h1
   ·refine .inr ⟨rfl,?_⟩
    rcases Nat.lt_or_ge j k with h2 | h2
    ·exact h2
    ·exfalso
     obtain rfl:j=k:=by omega
     obtain ⟨B,h3,h4⟩:=hw
     obtain ⟨B',h5,h6⟩:=hv
     rw [h3] at h5;cases h5
     rw [h4] at h6;cases h6
     exact e rfl
 ·have e:w≠v:=fun e=>by
   subst e
   obtain ⟨rfl,rfl⟩:=g.at2 _ _ _ _ _ hw hv
   exact hc (.inr ⟨rfl,by omega⟩)
  rw [List.getElem?_set_ne fun h=>e h.symm]
  exact S.no w c j hw fun h=>hc (by omega)
theorem Std.next {u:U}{b:Nat}{bl pl:List Int}{B:Bk}(hB:u.blocks[b]? = some B)(S:Std u b B.vals.length bl pl):Std u (b+1) 0 bl pl:=by
 have key:∀v c j,At u v c j→((c<b∨(c=b∧j<B.vals.length))↔(c<b+1∨(c=b+1∧j<0))):=by
  intro v c j hv
  constructor
  ·omega
  ·intro h
   by_cases e:c=b
   ·subst e
    obtain ⟨B',h1,h2⟩:=hv
    rw [hB] at h1;cases h1
    exact .inr ⟨rfl,(List.getElem?_eq_some_iff.1 h2).1⟩
   ·omega
 exact ⟨S.nb,S.np,fun v c j h1 h2=>S.yes v c j h1 ((key v c j h1).2 h2),fun v c j h1 h2=>S.no v c j h1 fun h3=>h2 ((key v c j h1).1 h3)⟩
theorem und_bool:P0.underlying tyBool=some .bool:=by kernel_rfl
theorem hbin_neqB (a b:Bool):hbin .neq tyBool (.bool a) (.bool b)=some (.bool (a != b)):=by
 show heql tyBool true (.bool a) (.bool b)=_
 unfold heql heqT hnilT
 rw [und_bool]
 cases a <;> cases b <;> rfl
section
variable {F F' : Nat→Prop} {h h' : Hp} {cs:List Pc} {Q:QP1} {u:U} {vv vb vs:V} {lc:Nat} {bl pl idm:V}
theorem ck_stand (g:Good u){ty:Nat}(H0:Hold F h (cellP lc ty [.int .i64 u.func, .int .i64 u.pc,vv,vb,vs,bl,pl,idm]::cs))(hu:URd F h u vv vb vs)
  (H:∀F' h' b' p' xs ys,Sn F h F' h'→Hold F' h' (cellP lc ty [.int .i64 u.func, .int .i64 u.pc,vv,vb,vs,b',p',idm]::cs)→SlR eZ F' h' xs b'→SlR eZ F' h' ys p'→Std u u.blocks.length 0 xs ys→Q (.bool true) h') :
  cP CS n_ssa_checker_stand [.ptr lc 0] h Q:=by
 refine c_ssa_checker_stand rfl rfl ?_
 unfold B_ssa_checker_stand
 have nv:=g.nv
 have nb:=g.nb
 have hlc:lc<h.next:=(H0.ok 0 _ rfl).2.1
 refine oP_mk (pNil_ptr _ _) (oP_mk (pFA_ptr _ _ _) (oP_mk (pFA_ptr _ _ _) (oP_mk (H0.ld 0 rfl rfl) (oP_mk hu.v.len ?_))))
 rw [hmake_of (z:=V.int .i64 0) rfl (by decide) (by omega),alO_some]
 obtain ⟨H1,s1⟩:=H0.make (E:=eZ) (ty:=tyInt) (y:=0) (u:=V.int .i64 0) u.vals.length rfl rfl
 have n1:(h.new (.cells tyInt 1 true false (List.replicate u.vals.length (V.int .i64 0)))).next=h.next+1:=rfl
 have g1:(h.new (.cells tyInt 1 true false (List.replicate u.vals.length (V.int .i64 0)))).get h.next=_:=get_new_self _ _
 show oP (pNil (.ptr lc 0)) _
 generalize hz1:h.new (.cells tyInt 1 true false (List.replicate u.vals.length (V.int .i64 0)))=h1 at *
 refine oP_mk (pNil_ptr _ _) (oP_mk (pFA_ptr _ _ _) (oP_mk (pFA_ptr _ _ _) (oP_mk (H1.ld 1 rfl rfl) (oP_mk (hu.since s1).v.len ?_))))
 rw [hmake_of (z:=V.int .i64 0) rfl (by decide) (by omega),alO_some]
 obtain ⟨H2,s2⟩:=H1.make (E:=eZ) (ty:=tyInt) (y:=0) (u:=V.int .i64 0) u.vals.length rfl rfl
 have g2:(h1.new (.cells tyInt 1 true false (List.replicate u.vals.length (V.int .i64 0)))).get h1.next=_:=get_new_self _ _
 have g12:=(get_new_lt (h:=h1) (.cells tyInt 1 true false (List.replicate u.vals.length (V.int .i64 0))) (l:=h.next) (by omega)).trans g1
 have n2:(h1.new (.cells tyInt 1 true false (List.replicate u.vals.length (V.int .i64 0)))).next=h1.next+1:=rfl
 show oP (pNil (.ptr lc 0)) _
 generalize hz2:h1.new (.cells tyInt 1 true false (List.replicate u.vals.length (V.int .i64 0)))=h2 at *
 refine oP_mk (pNil_ptr _ _) (oP_mk (pFA_ptr _ _ _) ⟨⟨g2,O.beq_cells _ _ _ _ _⟩,H2.ld 2 rfl rfl,⟨g12,O.beq_cells _ _ _ _ _⟩,H2.ld 2 rfl rfl,?_⟩)
 obtain ⟨h3,e3,n3,H3,s3,k3⟩:=H2.stk 2 (o:=5) (u:= .slice h.next 0 u.vals.length) rfl (by simp) rfl
 rw [show V.ptr lc (0+5)=V.ptr lc 5 from rfl,e3,valP_some]
 refine ⟨n3,oP_mk (pNil_ptr _ _) (oP_mk (pFA_ptr _ _ _) ⟨⟨(k3 _ (by omega)).trans g2,O.beq_cells _ _ _ _ _⟩,?_⟩)⟩
 simp only [List.set_cons_succ,List.set_cons_zero] at H3
 obtain ⟨h4,e4,n4,H4,s4⟩:=H3.st 2 (o:=6) (u:= .slice h1.next 0 u.vals.length) rfl (by simp) rfl
 rw [show V.ptr lc (0+6)=V.ptr lc 6 from rfl,e4,valP_some]
 refine ⟨n4,?_⟩
 simp only [List.set_cons_succ,List.set_cons_zero] at H4
 have s04:=((s1.trans s2).trans s3).trans s4
 clear e3 e4 k3 g1 g12 g2 H1 H2 H3 s1 s2 s3 s4 hz1 hz2
 generalize V.slice h1.next 0 u.vals.length=vp at *
 generalize V.slice h.next 0 u.vals.length=vq at *
 have lq:=H4.len 1 (xs:=List.replicate u.vals.length (0:Int)) rfl
 rw [List.length_replicate] at lq
 refine oP_mk (pNil_ptr _ _) (oP_mk (pFA_ptr _ _ _) (oP_mk (H4.ld 2 rfl rfl) (oP_mk lq ?_)))
 refine l_ssa_checker_stand_L0 (fun k x0 x36 x37 h'=>∃(i:Nat) (xs:List Int),x0 = .ptr lc 0∧x36 = .int .i64 (u.vals.length:Nat)∧x37 = .int .i64 (i:Nat)∧i+k=u.vals.length∧xs.length=u.vals.length∧(∀j,j<i→xs[j]? = some (-1))∧Sn F h F h'∧
  Hold F h' (rowP eZ tyInt (List.replicate u.vals.length (0:Int)) vp::rowP eZ tyInt xs vq::cellP lc ty [.int .i64 u.func, .int .i64 u.pc,vv,vb,vs,vq,vp,idm]::cs)) ?_ (k:=u.vals.length)
  ⟨0,_,rfl,rfl,rfl,by omega,by simp,fun j hj=>by omega,s04,H4⟩
 rintro k x0 x36 x37 h5 ⟨i,xs,rfl,rfl,rfl,hk,hxs,hm,s5,H5⟩
 unfold B_ssa_checker_stand_L0
 by_cases hi:i<u.vals.length
 ·refine st_lt (if_t (by omega) ?_)
  obtain ⟨l6,o6,h6,e6,e7,n6,H6,s6⟩:=H5.stR 1 rfl (k:=i) (y:=(-1:Int)) (u:=V.int .i64 (-1)) (by omega) rfl rfl rfl
  refine oP_mk (pNil_ptr _ _) (oP_mk (pFA_ptr _ _ _) (oP_mk (H5.ld 2 rfl rfl) (oP_mk e6 ?_)))
  rw [e7,valP_some]
  simp only [List.set_cons_succ,List.set_cons_zero] at H6
  refine st_add (m:=1) (by omega) (by omega) ⟨k - 1,by omega,i+1,xs.set i (-1),rfl,rfl,rfl,by omega,by simp [hxs],fun j hj=>?_,s5.trans s6,H6⟩
  by_cases e:j=i
  ·subst e;rw [List.getElem?_set_self (by omega)]
  ·rw [List.getElem?_set_ne fun h=>e h.symm];exact hm j (by omega)
 refine st_lt (if_f (by omega) ?_)
 refine oP_mk (pNil_ptr _ _) (oP_mk (pFA_ptr _ _ _) (oP_mk (pFA_ptr _ _ _) (oP_mk (H5.ld 2 rfl rfl) (oP_mk (hu.since s5).b.len ?_))))
 have S0:Std u 0 0 xs (List.replicate u.vals.length (0:Int)):=⟨hxs,by simp,fun v c j _ h=>by omega,fun v c j h1 _=>hm v (by have:=g.atlt _ _ _ h1;omega)⟩
 refine l_ssa_checker_stand_L1 (fun k x0 x4 x51 x52 x53 h'=>∃(b:Nat) (xs ys:List Int),x0 = .ptr lc 0∧x4 = .int .i64 ((pre u b).length:Nat)∧x51=vb∧x52 = .int .i64 (u.blocks.length:Nat)∧x53 = .int .i64 (b:Nat)∧b+k=u.blocks.length∧Std u b 0 xs ys∧Sn F h F h'∧
  Hold F h' (rowP eZ tyInt ys vp::rowP eZ tyInt xs vq::cellP lc ty [.int .i64 u.func, .int .i64 u.pc,vv,vb,vs,vq,vp,idm]::cs)) ?_ (k:=u.blocks.length)
  ⟨0,xs,_,rfl,rfl,rfl,rfl,rfl,by omega,S0,s5,H5⟩
 rintro k1 x0 x4 x51 x52 x53 h6 ⟨b,xs1,ys1,rfl,rfl,e51,rfl,rfl,hk1,S1,s6,H6⟩
 subst x51
 unfold B_ssa_checker_stand_L1
 by_cases hb:b<u.blocks.length
 rotate_left
 ·refine st_lt (if_f (by omega) ?_)
  obtain rfl:b=u.blocks.length:=by omega
  refine oP_mk (pNil_ptr _ _) (oP_mk (pFA_ptr _ _ _) (oP_mk (pFA_ptr _ _ _) (oP_mk (H6.ld 2 rfl rfl) (oP_mk (hu.since s6).v.len (st_eqv ?_)))))
  rw [pre_all g,decide_eq_true rfl]
  obtain ⟨H7,s7,r7⟩:=H6.freezeR 0 rfl
  simp only [List.set_cons_succ,List.set_cons_zero] at H7
  obtain ⟨H8,s8,r8⟩:=H7.freezeR 1 rfl
  simp only [List.set_cons_succ,List.set_cons_zero] at H8
  exact H _ _ _ _ _ _ ((s6.trans s7).trans s8) H8.tail.tail r8 (r7.since s8) S1
 refine st_lt (if_t (by omega) ?_)
 obtain ⟨B,hB⟩:∃B,u.blocks[b]? = some B:=⟨_,List.getElem?_eq_getElem hb⟩
 obtain ⟨l7,o7,bv,bn,bp,_,i1,i2,iv,iN,ip,_⟩:=(hu.since s6).blk hB
 refine oP_mk i1 (oP_mk i2 ?_)
 refine st_copy H6 rfl rfl (by simp only [bkC,allOne_cons,iv.one,iN.one,ip.one];rfl) fun h7 H7 s7=>?_
 have iv:=iv.since s7
 refine oP_mk (pFA_ptr _ _ _) (oP_mk (H7.ld 0 rfl rfl) (oP_mk iv.len ?_))
 have hpl:(pre u b).length≤u.vals.length:=by
  rw [←pre_all g]
  unfold pre
  have:u.blocks.take b <+: u.blocks:=List.take_prefix _ _
  obtain ⟨r,hr⟩:=this
  conv=>rhs;rw [List.take_length,←hr,List.flatMap_append,List.length_append]
  omega
 have hpl2:(pre u b).length+B.vals.length≤u.vals.length:=by
  rw [←List.length_append,←pre_succ hB]
  rw [←pre_all g]
  unfold pre
  have:u.blocks.take (b+1) <+: u.blocks:=List.take_prefix _ _
  obtain ⟨r,hr⟩:=this
  conv=>rhs;rw [List.take_length,←hr,List.flatMap_append,List.length_append]
  omega
 refine l_ssa_checker_stand_L2 (fun k x0 x4 x5 x7 x51 x52 x53 x59 x60 x61 h'=>∃(j:Nat) (fst:Bool) (xs ys:List Int),x0 = .ptr lc 0∧x4 = .int .i64 (((pre u b).length+j:Nat):Int)∧x5 = .int .i64 (b:Nat)∧x7 = .bool fst∧x51=vb∧x52 = .int .i64 (u.blocks.length:Nat)∧x53 = .int .i64 (b:Nat)∧
  x59=bv∧x60 = .int .i64 (B.vals.length:Nat)∧x61 = .int .i64 (j:Nat)∧j+k=B.vals.length∧(fst=true∨∃v w x,At u v b (j - 1)∧0<j∧w=v∧u.vals[v]? = some x∧isHead x.op=false)∧Std u b j xs ys∧Sn F h F h'∧
  Hold F h' (rowP eZ tyInt ys vp::rowP eZ tyInt xs vq::cellP lc ty [.int .i64 u.func, .int .i64 u.pc,vv,vb,vs,vq,vp,idm]::cs)) ?_ (k:=B.vals.length)
  ⟨0,true,xs1,ys1,rfl,rfl,rfl,rfl,rfl,rfl,rfl,rfl,rfl,rfl,by omega, .inl rfl,S1,s6.trans s7,H7.tail⟩
 rintro k2 x0 x4 x5 x7 x51 x52 x53 x59 x60 x61 h8 ⟨j,fst,xs2,ys2,rfl,rfl,rfl,rfl,e51,rfl,rfl,e59,rfl,rfl,hk2,hfst,S2,s8,H8⟩
 subst x51 x59
 unfold B_ssa_checker_stand_L2
 by_cases hj:j<B.vals.length
 rotate_left
 ·refine st_lt (if_f (by omega) ?_)
  obtain rfl:j=B.vals.length:=by omega
  refine st_add (m:=1) (by omega) (by omega) ⟨k1 - 1,by omega,b+1,xs2,ys2,rfl,?_,rfl,rfl,rfl,by omega,S2.next hB,s8,H8⟩
  rw [pre_succ hB,List.length_append]
 refine st_lt (if_t (by omega) ?_)
 have hat:At u (B.vals[j]) b j:=⟨B,hB,List.getElem?_eq_getElem hj⟩
 have hvl:=g.atlt _ _ _ hat
 obtain ⟨x,hx⟩:∃x,u.vals[B.vals[j]]? = some x:=⟨_,List.getElem?_eq_getElem hvl⟩
 have iv8:SlR eN F h8 B.vals bv:=by
  obtain ⟨l7,o7,bv',bn',bp',_,i1',i2',iv',_⟩:=(hu.since s8).blk hB
  have e1:l7=l7:=rfl
  exact (((hu.since s6).blk hB |> fun _=>iv) |> fun _=>(by
   have hk:∀l,F l→h8.get l=h7.get l:=fun l hl=>(s8.keep l hl).trans ((s6.trans s7).keep l hl).symm
   exact iv.keep hk))
 obtain ⟨l9,o9,_,j1,j2⟩:=iv8.nat (List.getElem?_eq_getElem hj) .i64
 refine oP_mk j1 (oP_mk j2 (oP_mk (pNil_ptr _ _) (oP_mk (pFA_ptr _ _ _) (oP_mk (pFA_ptr _ _ _) (oP_mk (H8.ld 2 rfl rfl) (oP_mk (hu.since s8).v.len ?_))))))
 refine ct_below ?_
 rw [decide_eq_true hvl]
 refine oP_mk rfl ?_
 have hno:=S2.no _ _ _ hat (by omega)
 obtain ⟨hvl2,hno2⟩:=List.getElem?_eq_some_iff.1 hno
 obtain ⟨lb,ob,ub,b1,b2,b3⟩:=H8.ix1 1 rfl (k:=B.vals[j]) hvl2 .i64 rfl
 obtain rfl:ub = .int .i64 (-1):=by
  have:[ub]=[V.int .i64 xs2[B.vals[j]]]:=b3
  rw [hno2] at this
  simpa using this
 have eA:pOr (.bool (!true)) (oB (some (V.ptr lc 0)) fun v76=>oB (pNil v76) fun v77=>oB (pFA 5 v77) fun v78=>oB (pLd v78 h8) fun v79=>oB (some (V.int .i64 (B.vals[j]:Nat))) fun v80=>oB (pIx 1 v79 v80) fun v81=>oB (pLd v81 h8) fun v82=>hbin .geq 3 v82 (V.int .i64 0))=some (.bool false):=by
  have l5:pLd (.ptr lc (0+5)) h8=some vq:=H8.ld 2 rfl rfl
  simp only [Bool.not_true,pOr_false,oB_some',pNil_ptr,pFA_ptr,l5,b1,b2,hbin_geq]
  rfl
 refine oP_mk eA (st_b (if_f (by simp) ?_))
 obtain ⟨lv,ov,wv,_,c1,_,_,cv⟩:=(hu.since s8).val hx
 refine oP_mk (pNil_ptr _ _) (oP_mk (pFA_ptr _ _ _) (oP_mk (pFA_ptr _ _ _) (oP_mk (H8.ld 2 rfl rfl) (oP_mk c1 (oP_mk (pFA_ptr _ _ _) (oP_mk cv.op ?_))))))
 refine oP_mk (hbin_eql _ _ _ _) ?_
 have eH:pOr (.bool ((x.op:Int) == 21)) (oB (some (V.int .i64 (x.op:Nat))) fun v97=>hbin .eql 3 v97 (V.int .i64 1))=some (.bool (isHead x.op)):=by
  simp only [oB_some',hbin_eql,pOr_bool]
  unfold isHead
  rw [show ((x.op:Int) == 21)=(x.op == 21) from ieq _ 21,show ((x.op:Int) == 1)=(x.op == 1) from ieq _ 1,Bool.or_comm]
 refine oP_mk eH ?_
 have hf2:isHead x.op=true→fst=true:=by
  intro hh
  rcases hfst with h1 | ⟨v,w,y,h1,h2,rfl,h3,h4⟩
  ·exact h1
  ·exfalso
   have h5:=g.heads (B.vals[j]) w b (j - 1) x y (by rw [Nat.sub_add_cancel h2];exact hat) h1 hx h3 hh
   rw [h4] at h5;cases h5
 have eN_:pAnd (.bool (isHead x.op)) (oB (some (V.bool fst)) fun v102=>hun .not v102)=some (.bool false):=by
  cases hh:isHead x.op with
  | false=>rfl
  | true=>rw [hf2 hh];rfl
 refine oP_mk eN_ ?_
 have hb0:isHead x.op=true→((x.op:Int) == 1)=((b:Int) == 0):=by
  intro hh
  unfold isHead at hh
  simp only [Bool.or_eq_true,beq_iff_eq] at hh
  rw [show ((x.op:Int) == 1)=(x.op == 1) from ieq _ 1,show ((b:Int) == 0)=(b == 0) from ieq _ 0]
  rcases hh with h1 | h1
  ·rw [g.par _ _ _ _ hat hx h1,h1];rfl
  ·have:=(g.phi _ _ _ _ _ hat hx h1 hB).1
   rw [h1]
   symm
   rw [show ((21:Nat) == 1)=false from rfl,beq_eq_false_iff_ne]
   exact this
 have eM:pOr (.bool false) (oB (some (V.int .i64 (x.op:Nat))) fun v106=>oB (hbin .eql 3 v106 (V.int .i64 1)) fun v107=>oB (some (V.int .i64 (b:Nat))) fun v108=>oB (hbin .eql 3 v108 (V.int .i64 0)) fun v109=>oB (hbin .neq 4 v107 v109) fun v110=>oB (some v110) fun v111=>pAnd v111 (some (V.bool (isHead x.op))))=some (.bool false):=by
  simp only [pOr_false,oB_some',hbin_eql,hbin_neqB,pAnd_bool]
  cases hh:isHead x.op with
  | false=>simp
  | true=>rw [hb0 hh];simp
 refine oP_mk eM (st_b (if_f (by simp) ?_))
 obtain ⟨l10,o10,h10,e10,e11,n10,H10,s10⟩:=H8.stR 1 rfl (k:=B.vals[j]) (y:=(b:Int)) (u:=V.int .i64 (b:Nat)) hvl2 rfl rfl rfl
 simp only [List.set_cons_succ,List.set_cons_zero] at H10
 refine oP_mk (pNil_ptr _ _) (oP_mk (pFA_ptr _ _ _) (oP_mk (H8.ld 2 rfl rfl) (oP_mk (pNil_ptr _ _) (oP_mk (pFA_ptr _ _ _) (oP_mk (H8.ld 2 rfl rfl) (oP_mk e10 ?_))))))
 rw [e11,valP_some]
 obtain ⟨l12,o12,h12,e12,e13,n12,H12,s12⟩:=H10.stR 0 rfl (k:=B.vals[j]) (y:=(j:Int)) (u:=V.int .i64 (j:Nat)) (by rw [S2.np];exact hvl) rfl rfl rfl
 simp only [List.set_cons_succ,List.set_cons_zero] at H12
 refine ⟨n10,oP_mk e12 ?_⟩
 rw [e13,valP_some]
 refine ⟨n12,st_add (m:=1) (by omega) (by omega) (st_add (m:=1) (by omega) (by omega) ?_)⟩
 refine ⟨k2 - 1,by omega,j+1,isHead x.op,xs2.set (B.vals[j]) (b:Int),ys2.set (B.vals[j]) (j:Int),rfl,?_,rfl,rfl,rfl,rfl,rfl,rfl,rfl,rfl,by omega,?_,S2.step g hat,(s8.trans s10).trans s12,H12⟩
 ·rw [show (pre u b).length+(j+1)=(pre u b).length+j+1 by omega]
 ·cases hh:isHead x.op with
  | true=>exact .inl rfl
  | false=>exact .inr ⟨_,_,x,hat,by omega,rfl,hx,hh⟩
end
end Go.Proofs.YtiepamfpilhcjaaDoor.Hx
namespace Go.Proofs.YtiepamfpilhcjaaDoor.Hx
open Go.Proofs.YtiepamfpilhcjaaDoor.Un Go.Proofs.YtiepamfpilhcjaaDoor.Dm
def nestP {α:Type}(E:Enc α)(tyO ty:Nat)(xss:List (List α))(v:V)(ds:List V):Pc where
 foot:=fun l=>Loc v l∨∃d∈ds,Loc d l
 ok F h:=∃t,v = .slice t 0 xss.length∧t<h.next∧¬F t∧h.get t=some (.cells tyO 1 true false ds)∧ds.length=xss.length∧(∀(i:Nat) x d,xss[i]? = some x→ds[i]? = some d→OwnR E ty F h x d)∧(∀d∈ds,¬Loc d t)∧
  ∀(i j:Nat) (d e:V),i≠j→ds[i]? = some d→ds[j]? = some e→∀l,Loc d l→¬Loc e l
 inn:=fun ⟨t,h1,h2,h3,h4,h5,h6,h7,h8⟩ l hl=>by
  rcases hl with hl | ⟨d,hd,hl⟩
  ·subst h1
   obtain rfl:t=l:=hl
   exact ⟨h2,h3⟩
  ·obtain ⟨i,hi⟩:=List.mem_iff_getElem?.1 hd
   have hlt:=(List.getElem?_eq_some_iff.1 hi).1
   exact ((h6 i _ d (List.getElem?_eq_getElem (by omega)) hi).tyOf hl).2
 keep:=fun {F h h'} ⟨t,h1,h2,h3,h4,h5,h6,h7,h8⟩ hF hl hn=>by
  refine ⟨t,h1,Nat.lt_of_lt_of_le h2 hn,h3,(hl t (.inl (by subst h1;rfl))).trans h4,h5,fun i x d hx hd=>?_,h7,h8⟩
  exact (h6 i x d hx hd).keep hF (fun l hl2=>hl l (.inr ⟨d,List.mem_iff_getElem?.2 ⟨i,hd⟩,hl2⟩)) hn
 mono:=fun {F F' h} ⟨t,h1,h2,h3,h4,h5,h6,h7,h8⟩ hF hl=>by
  refine ⟨t,h1,h2,hl t (.inl (by subst h1;rfl)),h4,h5,fun i x d hx hd=>?_,h7,h8⟩
  exact (h6 i x d hx hd).mono hF fun l hl2=>hl l (.inr ⟨d,List.mem_iff_getElem?.2 ⟨i,hd⟩,hl2⟩)
theorem win_list {α:Type}{E:Enc α}{F:Nat→Prop}{h:Hp} : ∀{xss:List (List α)}{ds:List V},ds.length=xss.length→(∀(i:Nat) x d,xss[i]? = some x→ds[i]? = some d→SlR E F h x d)→Win (eL E) F h ds xss
 | [],_,_,_=>trivial
 | x::xss,[],h,_=>by simp at h
 | x::xss,d::ds,hl,H=>⟨[d],ds,rfl,⟨d,rfl,H 0 x d rfl rfl⟩,win_list (by simpa using hl) fun i x d hx hd=>H (i+1) x d (by simpa using hx) (by simpa using hd)⟩
section
variable {F F' : Nat→Prop} {h h' : Hp} {cs:List Pc} {α:Type} {E:Enc α} {tyO ty:Nat} {xss:List (List α)} {v:V} {ds:List V}
theorem Hold.newNest (H:Hold F h cs)(n:Nat):Hold F (h.new (.cells tyO 1 true false (List.replicate n V.nilSlice))) (nestP E tyO ty (List.replicate n []) (.slice h.next 0 n) (List.replicate n V.nilSlice)::cs)∧Sn F h F (h.new (.cells tyO 1 true false (List.replicate n V.nilSlice))):=by
 have hr:∀{i:Nat} {d:V},(List.replicate n V.nilSlice)[i]? = some d→d = .nilSlice:=fun hd=>List.eq_of_mem_replicate (List.mem_iff_getElem?.2 ⟨_,hd⟩)
 refine H.new _ ⟨h.next,by simp,Nat.lt_succ_self _,H.fresh,get_new_self _ _,by simp,fun i x d hx hd=>?_,fun d hd=>?_,fun i j d e _ hd _ l hl=>?_⟩ fun l hl=>?_
 ·obtain rfl:=hr hd
  obtain rfl:x=[]:=List.eq_of_mem_replicate (List.mem_iff_getElem?.2 ⟨_,hx⟩)
  exact .nil
 ·obtain rfl:=List.eq_of_mem_replicate hd
  exact id
 ·obtain rfl:=hr hd
  exact hl.elim
 ·rcases hl with hl | ⟨d,hd,hl⟩
  ·exact hl.symm
  ·obtain rfl:=List.eq_of_mem_replicate hd
   exact hl.elim
theorem Hold.nestLen (H:Hold F h cs)(i:Nat)(hi:cs[i]? = some (nestP E tyO ty xss v ds)):pLen v=some (.int .i64 (xss.length:Nat)):=by
 obtain ⟨t,rfl,_⟩:=H.ok i _ hi
 rfl
theorem Hold.nestApp (H:Hold F h cs)(i:Nat)(hi:cs[i]? = some (nestP E tyO ty xss v ds)){b:Nat}(hb:b<xss.length){by_ ety:Nat}{y:α}{w:List V}{ro:Bool}(hw:E.rel F h y w)(hz:0<E.sz)(hby:by_≤1000)(hlen:xss[b].length<1000000) :
  ∃l d d' h2 h3,ds[b]? = some d∧l<h.next∧pIx 1 v (.int .i64 (b:Nat))=some (.ptr l (b * 1))∧pLd (.ptr l (b * 1)) h=some d∧happend ty E.sz by_ d (.slice h.next 0 1) (h.new (.cells ety E.sz true ro w))=some (.val d' h2)∧h.next+1≤h2.next∧
   pSt 1 (.ptr l (b * 1)) d' h2=some (.val .undef h3)∧h2.next≤h3.next∧Hold F h3 (cs.set i (nestP E tyO ty (xss.set b (xss[b]++[y])) v (ds.set b d')))∧Sn F h F h3:=by
 obtain ⟨t,rfl,h2,h3,h4,h5,h6,h7,h8⟩:=H.ok i _ hi
 obtain ⟨d,hd⟩:∃d,ds[b]? = some d:=⟨_,List.getElem?_eq_getElem (by omega)⟩
 have hO:=h6 b _ d (List.getElem?_eq_getElem hb) hd
 have hdm:=List.mem_iff_getElem?.2 ⟨b,hd⟩
 have hO1:OwnR E ty F (h.new (.cells ety E.sz true ro w)) xss[b] d:=hO.keep (fun l hl=>get_new_lt _ (H.fl l hl)) (fun l hl=>get_new_lt _ (hO.tyOf hl).2.1) (Nat.le_succ _)
 have hx:xcells (h.new (.cells ety E.sz true ro w)) E.sz (.slice h.next 0 1)=some (1,w):=xcells_new (k:=0) (by rw [E.len hw];simp)
 have hb3:(xss[b].length+1) * by_≤1000000 * 1000:=Nat.mul_le_mul (by omega) hby
 obtain ⟨d',h2',e1,o1,c1,l1⟩:=hO1.append (by_:=by_) (ys:=[y]) hx ⟨w,[],by simp,E.keep (fun l hl=>get_new_lt _ (H.fl l hl)) hw,trivial⟩ (by rw [E.len hw];simp) (E.one hw) (by simp) hz (fun l hl=>Nat.lt_succ_of_lt (H.fl l hl)) (by simp;omega) (by simp;omega)
 have n1:(h.new (.cells ety E.sz true ro w)).next=h.next+1:=rfl
 have l1' : ∀l,Loc d' l→Loc d l∨h.next≤l:=fun l hl=>(l1 l hl).imp id fun e=>by omega
 have ht2:t<h2'.next:=by have:=c1.next;omega
 have gt:h2'.get t=some (.cells tyO 1 true false ds):=by rw [c1.keep t (by omega) (h7 d hdm),get_new_lt _ h2];exact h4
 have e3:=pSt_at (o:=b * 1) (v:=d') gt (by rw [Nat.mul_one];omega) o1.one
 rw [Nat.mul_one] at e3
 have nt' : ¬Loc d' t:=fun hl=>(l1' t hl).elim (h7 d hdm) fun e=>by omega
 have cg:Chg (nestP E tyO ty xss (.slice t 0 xss.length) ds).foot h (h2'.put t (.cells tyO 1 true false (ds.set b d'))):=by
  refine (((Chg.new h _).weak fun _ _ h=>h).trans' (c1.weak (S':=fun l=>Loc d l) fun _ _ h=>h) fun l _ hl=> .inr ⟨d,hdm,hl⟩).trans' (Chg.put (S:=fun l=>l=t) _ rfl ht2) fun l _ e=> .inl e.symm
 have hds:∀{j:Nat} {e:V},(ds.set b d')[j]? = some e→(j=b∧e=d')∨(j≠b∧ds[j]? = some e):=fun {j e} he=>by
  by_cases ej:b=j
  ·subst ej
   rw [List.getElem?_set_self (by omega)] at he
   exact .inl ⟨rfl,(Option.some.inj he).symm⟩
  ·rw [List.getElem?_set_ne ej] at he
   exact .inr ⟨fun h=>ej h.symm,he⟩
 have hlow:∀{j:Nat} {e:V},ds[j]? = some e→∀l,Loc e l→l<h.next:=fun {j e} he l hl=>by
  have hlt:=(List.getElem?_eq_some_iff.1 he).1
  exact ((h6 j _ e (List.getElem?_eq_getElem (by omega)) he).tyOf hl).2.1
 refine ⟨t,d,d',h2',h2'.put t (.cells tyO 1 true false (ds.set b d')),hd,h2,?_,?_,e1,c1.next,by rw [Nat.mul_one];exact e3,Nat.le_refl _,H.turn' hi cg ?_ ?_⟩
 ·rw [pIx_slice _ _ _ _ _ _ hb,Nat.zero_add]
 ·rw [Nat.mul_one];exact pLd_get h4 hd
 ·refine ⟨t,by simp,ht2,h3,get_put_self _ ht2,by simp [h5],fun j x e hx' he=>?_,fun e he=>?_,fun j k e f hn he hf l hl hl'=>?_⟩
  ·rcases hds he with ⟨rfl,rfl⟩ | ⟨hj,he⟩
   ·rw [List.getElem?_set_self hb] at hx'
    obtain rfl:=Option.some.inj hx'
    exact o1.keep (fun l hl=>get_put_ne _ ht2 fun e=>h3 (e▸hl)) (fun l hl=>get_put_ne _ ht2 fun e=>nt' (e▸hl)) (Nat.le_refl _)
   ·rw [List.getElem?_set_ne fun e=>hj e.symm] at hx'
    have hem:=List.mem_iff_getElem?.2 ⟨j,he⟩
    refine (h6 j x e hx' he).keep (fun l hl=>?_) (fun l hl=>?_) (by have:=c1.next;show h.next≤h2'.next;omega)
    ·rw [get_put_ne _ ht2 fun e=>h3 (e▸hl),c1.keep l (Nat.lt_succ_of_lt (H.fl l hl)) fun hl2=>(hO.tyOf hl2).2.2 hl,get_new_lt _ (H.fl l hl)]
    ·have hll:=hlow he l hl
     rw [get_put_ne _ ht2 fun e'=>h7 e hem (e'▸hl),c1.keep l (by omega) fun hl2=>h8 j b e d hj he hd l hl hl2,get_new_lt _ hll]
  ·obtain ⟨j,hj⟩:=List.mem_iff_getElem?.1 he
   rcases hds hj with ⟨_,rfl⟩ | ⟨_,hj⟩
   ·exact nt'
   ·exact h7 e (List.mem_iff_getElem?.2 ⟨j,hj⟩)
  ·rcases hds he with ⟨e1,e2⟩ | ⟨hj,he2⟩
   ·rcases hds hf with ⟨e3,_⟩ | ⟨hk,hf2⟩
    ·exact hn (e1.trans e3.symm)
    ·subst e1 e2
     rcases l1' l hl with h9 | h9
     ·exact h8 k j f d hk hf2 hd l hl' h9
     ·have:=hlow hf2 l hl';omega
   ·rcases hds hf with ⟨e3,e4⟩ | ⟨hk,hf2⟩
    ·subst e3 e4
     rcases l1' l hl' with h9 | h9
     ·exact h8 j k e d hj he2 hd l hl h9
     ·have:=hlow he2 l hl;omega
    ·exact h8 j k e f hn he2 hf2 l hl hl'
 ·intro l hl
  rcases hl with hl | ⟨e,he,hl⟩
  ·exact .inl (.inl hl)
  ·obtain ⟨j,hj⟩:=List.mem_iff_getElem?.1 he
   rcases hds hj with ⟨_,rfl⟩ | ⟨_,hj⟩
   ·rcases l1' l hl with h9 | h9
    ·exact .inl (.inr ⟨d,hdm,h9⟩)
    ·exact .inr h9
   ·exact .inl (.inr ⟨e,List.mem_iff_getElem?.2 ⟨j,hj⟩,hl⟩)
theorem Hold.freezeN (H:Hold F h cs)(i:Nat)(hi:cs[i]? = some (nestP E tyO ty xss v ds)):∃F',Hold F' h (cs.set i emp)∧Sn F h F' h∧SlR (eL E) F' h xss v:=by
 have hok:=H.ok i _ hi
 obtain ⟨h1,h2⟩:=H.turn (p:=emp) (F':=fun l=>F l∨(nestP E tyO ty xss v ds).foot l) hi (Chg.refl _ _) (fun _ h=> .inl h) (fun _ h=>h.imp id .inl) trivial fun _ h=>h.elim
 refine ⟨_,h1,h2,?_⟩
 obtain ⟨t,rfl,g2,g3,g4,g5,g6,g7,g8⟩:=hok
 refine .inr ⟨t,0,tyO,true,false,ds,rfl, .inr (.inl rfl),g4, .inr rfl,Nat.zero_le _,?_⟩
 rw [List.drop_zero]
 exact win_list g5 fun j x d hx hd=>(g6 j x d hx hd).slR (fun _ h=> .inl h) fun l hl=> .inr (.inr ⟨d,List.mem_iff_getElem?.2 ⟨j,hd⟩,hl⟩)
end
def aheadUp (u:U)(i j b:Nat):List Nat:=aheadTo (u.blocks.take i) 0 b++(match u.blocks[i]? with
 | some B=>((B.next.take j).filter (·= b)).map fun _=>i
 | none=>[])
theorem aheadUp_zero (u:U)(b:Nat):aheadUp u 0 0 b=[]:=by
 unfold aheadUp
 cases u.blocks[0]? <;> simp [aheadTo]
theorem aheadUp_step {u:U}{i j b t:Nat}{B:Bk}(hB:u.blocks[i]? = some B)(ht:B.next[j]? = some t):aheadUp u i (j+1) b=if b=t then aheadUp u i j b++[i] else aheadUp u i j b:=by
 unfold aheadUp
 rw [hB]
 obtain ⟨hj,rfl⟩:=List.getElem?_eq_some_iff.1 ht
 simp only [List.take_succ_eq_append_getElem hj,List.filter_append,List.map_append]
 by_cases e:b=B.next[j]
 ·rw [if_pos e,←List.append_assoc]
  simp [e]
 ·rw [if_neg e]
  have:B.next[j]≠b:=fun h=>e h.symm
  simp [this]
theorem aheadUp_next {u:U}{i b:Nat}{B:Bk}(hB:u.blocks[i]? = some B):aheadUp u (i+1) 0 b=aheadUp u i B.next.length b:=by
 unfold aheadUp
 obtain ⟨hi,rfl⟩:=List.getElem?_eq_some_iff.1 hB
 rw [hB,List.take_succ_eq_append_getElem hi,aheadTo_append]
 have hl:(u.blocks.take i).length=i:=by rw [List.length_take];omega
 simp only [hl,Nat.zero_add,List.take_length]
 cases u.blocks[i+1]? <;> simp [aheadTo]
theorem aheadUp_all (u:U)(b:Nat):aheadUp u u.blocks.length 0 b=Un.ahead u b:=by
 unfold aheadUp Un.ahead
 rw [List.take_length,List.getElem?_eq_none (Nat.le_refl _)]
 simp
theorem aheadUp_len {u:U}(g:Good u){i j b:Nat}(hi:i≤u.blocks.length)(hj:j≤2):(aheadUp u i j b).length≤2 * i+2:=by
 have key:∀i,i≤u.blocks.length→(aheadTo (u.blocks.take i) 0 b).length≤2 * i:=by
  intro i
  induction i with
  | zero=>intro _;simp [aheadTo]
  | succ i ih =>
    intro hi
    have hlt : i < u.blocks.length := by omega
    rw [List.take_succ_eq_append_getElem hlt, aheadTo_append]
    have := ih (by omega)
    have hB : u.blocks[i]? = some u.blocks[i] := List.getElem?_eq_getElem hlt
    have h2 : (u.blocks[i]).next.length ≤ 2 := by
      rcases g.fin i _ hB with ⟨_, h⟩ | ⟨_, h, _⟩ | ⟨_, h, _⟩
      · omega
      · omega
      · rw [h]; simp
    have h3 := List.length_filter_le (fun x => decide (x = b)) (u.blocks[i]).next
    simp only [List.length_append, aheadTo, List.length_map, List.append_nil, List.length_nil]
    omega
 have h1:=key i hi
 unfold aheadUp
 rw [List.length_append]
 cases hq:u.blocks[i]? with
 | none=>simp only [List.length_nil];omega
 | some B =>
   have h3 := List.length_filter_le (fun x => decide (x = b)) (B.next.take j)
   simp only [List.length_map, List.length_take] at h3 ⊢
   omega
section
variable {F F' : Nat→Prop} {h h' : Hp} {cs:List Pc} {Q:QP1} {u:U} {vv vb vs:V}
theorem ct_Ahead (g:Good u)(H0:Hold F h cs)(hu:URd F h u vv vb vs)(H:∀F' h' v,Sn F h F' h'→Hold F' h' cs→SlR (eL eN) F' h' ((List.range u.blocks.length).map (Un.ahead u)) v→Q v h') :
  cP CS n_ssa_Ahead [.agg (uC u vv vb vs)] h Q:=by
 refine c_ssa_Ahead rfl rfl ?_
 unfold B_ssa_Ahead
 have nb:=g.nb
 refine st_box H0 hu.one fun h1 H1 s1=>?_
 refine oP_mk (pFA_ptr _ _ _) (oP_mk (H1.ld 0 rfl rfl) (oP_mk (hu.since s1).b.len ?_))
 rw [hmake_of (z:=V.nilSlice) rfl (by decide) (by omega),alP_some]
 obtain ⟨H2,s2⟩:=H1.newNest (E:=eN) (tyO:=tyInts) (ty:=tyInt) u.blocks.length
 have hx0:List.replicate u.blocks.length ([]:List Nat)=(List.range u.blocks.length).map (aheadUp u 0 0):=by
  refine List.ext_getElem (by simp) fun i h1 h2=>?_
  simp [aheadUp_zero]
 rw [hx0] at H2
 refine oP_mk (pFA_ptr _ _ _) (oP_mk (H2.ld 1 rfl rfl) (oP_mk (hu.since (s1.trans s2)).b.len ?_))
 refine l_ssa_Ahead_L0 (fun k x3 x13 x14 x15 h'=>∃(i:Nat) (ds:List V),x3 = .slice h1.next 0 u.blocks.length∧x13=vb∧x14 = .int .i64 (u.blocks.length:Nat)∧x15 = .int .i64 (i:Nat)∧i+k=u.blocks.length∧Sn F h F h'∧
  Hold F h' (nestP eN tyInts tyInt ((List.range u.blocks.length).map (aheadUp u i 0)) (.slice h1.next 0 u.blocks.length) ds::cs)) ?_ (k:=u.blocks.length)
  ⟨0, _, rfl, rfl, rfl, rfl, by omega, s1.trans s2, (H2.forget (i := 1) rfl) |> fun H => by
    simp only [List.set_cons_succ, List.set_cons_zero] at H
    exact ⟨H.fl, fun i c hc => by
      cases i with
      | zero => exact H.ok 0 c hc
      | succ i => exact H.ok (i + 2) c hc, fun i j c d hc hd hn => by
      cases i with
      | zero =>
        cases j with
        | zero => exact absurd rfl hn
        | succ j => exact H.dis 0 (j + 2) c d hc hd (by omega)
      | succ i =>
        cases j with
        | zero => exact H.dis (i + 2) 0 c d hc hd (by omega)
        | succ j => exact H.dis (i + 2) (j + 2) c d hc hd (by omega)⟩⟩
 rintro k x3 x13 x14 x15 h3 ⟨i,ds,rfl,e13,rfl,rfl,hk,s3,H3⟩
 subst x13
 unfold B_ssa_Ahead_L0
 by_cases hi:i<u.blocks.length
 rotate_left
 ·refine st_lt (if_f (by omega) ?_)
  obtain rfl:i=u.blocks.length:=by omega
  obtain ⟨F4,H4,s4,r4⟩:=H3.freezeN 0 rfl
  have e:(List.range u.blocks.length).map (aheadUp u u.blocks.length 0)=(List.range u.blocks.length).map (Un.ahead u):=by
   refine List.map_congr_left fun b _=>aheadUp_all u b
  rw [e] at r4
  exact H F4 h3 _ (s3.trans s4) H4.tail r4
 refine st_lt (if_t (by omega) ?_)
 obtain ⟨B,hB⟩:∃B,u.blocks[i]? = some B:=⟨_,List.getElem?_eq_getElem hi⟩
 obtain ⟨l7,o7,bv,bn,bp,_,i1,i2,iv,iN,ip,_⟩:=(hu.since s3).blk hB
 have hn2:B.next.length≤2:=by
  rcases g.fin i _ hB with ⟨_,h⟩ | ⟨_,h,_⟩ | ⟨_,h,_⟩
  ·omega
  ·omega
  ·rw [h];simp
 refine oP_mk i1 (oP_mk i2 ?_)
 refine st_copy H3 rfl rfl (by simp only [bkC,allOne_cons,iv.one,iN.one,ip.one];rfl) fun h4 H4 s4=>?_
 have iN:=iN.since s4
 refine oP_mk (pFA_ptr _ _ _) (oP_mk (H4.ld 0 rfl rfl) (oP_mk iN.len ?_))
 refine l_ssa_Ahead_L1 (fun k x3 x4 x13 x14 x15 x21 x22 x23 h'=>∃(j:Nat) (ds:List V),x3 = .slice h1.next 0 u.blocks.length∧x4 = .int .i64 (i:Nat)∧x13=vb∧x14 = .int .i64 (u.blocks.length:Nat)∧x15 = .int .i64 (i:Nat)∧x21=bn∧x22 = .int .i64 (B.next.length:Nat)∧x23 = .int .i64 (j:Nat)∧
  j+k=B.next.length∧Sn F h4 F h'∧Hold F h' (nestP eN tyInts tyInt ((List.range u.blocks.length).map (aheadUp u i j)) (.slice h1.next 0 u.blocks.length) ds::cs)) ?_ (k:=B.next.length)
  ⟨0,ds,rfl,rfl,rfl,rfl,rfl,rfl,rfl,rfl,by omega,Sn.refl _ _,H4.tail⟩
 rintro k1 x3 x4 x13 x14 x15 x21 x22 x23 h5 ⟨j,ds5,rfl,rfl,e13,rfl,rfl,e21,rfl,rfl,hk1,s5,H5⟩
 subst x13 x21
 unfold B_ssa_Ahead_L1
 by_cases hj:j<B.next.length
 rotate_left
 ·refine st_lt (if_f (by omega) ?_)
  obtain rfl:j=B.next.length:=by omega
  refine st_add (m:=1) (by omega) (by omega) ⟨k - 1,by omega,i+1,ds5,rfl,rfl,rfl,rfl,by omega,(s3.trans s4).trans s5,?_⟩
  have e:(List.range u.blocks.length).map (aheadUp u (i+1) 0)=(List.range u.blocks.length).map (aheadUp u i B.next.length):=List.map_congr_left fun b _=>aheadUp_next hB
  rw [e];exact H5
 refine st_lt (if_t (by omega) ?_)
 obtain ⟨l8,o8,_,j1,j2⟩:=(iN.since s5).nat (List.getElem?_eq_getElem hj) .i64
 have htl:B.next[j]<u.blocks.length:=g.nx i _ (by unfold next;rw [hB];exact List.getElem_mem hj)
 have lN:=H5.nestLen 0 rfl
 rw [List.length_map,List.length_range] at lN
 refine oP_mk j1 (oP_mk j2 (oP_mk lN ?_))
 refine ct_below (st_b (if_t (by simpa using htl) ?_))
 have hxl:B.next[j]<((List.range u.blocks.length).map (aheadUp u i j)).length:=by simpa using htl
 have hxe:((List.range u.blocks.length).map (aheadUp u i j))[B.next[j]]'hxl=aheadUp u i j B.next[j]:=by simp
 obtain ⟨l,d,d',h6,h7,hd,hl,e1,e2,e3,e4,e5,e6,H7,s7⟩:=H5.nestApp 0 rfl hxl (by_:=8) (ety:=3) (y:=i) (w:=[.int .i64 (i:Nat)]) (ro:=false) rfl (by decide) (by decide) (by
  rw [hxe]
  have:=aheadUp_len g (i:=i) (j:=j) (b:=B.next[j]) (by omega) (by omega)
  omega)
 refine oP_mk e1 (oP_mk e2 ?_)
 rw [pBS_nat,alP_some]
 have e3' : happend 3 1 8 d (.slice h5.next 0 1) (h5.new (.cells 3 1 true false (nats [i])))=some (.val d' h6):=e3
 rw [e3',valP_some]
 refine oP_mk e1 ?_
 rw [e5,valP_some]
 refine j_ssa_Ahead_R13 ?_
 unfold B_ssa_Ahead_R13
 simp only [List.set_cons_zero] at H7
 refine st_add (m:=1) (by omega) (by omega) ⟨k1 - 1,by omega,j+1,ds5.set (B.next[j]) d',rfl,rfl,rfl,rfl,rfl,rfl,rfl,rfl,by omega,s5.trans s7,?_⟩
 have e:((List.range u.blocks.length).map (aheadUp u i j)).set (B.next[j]) (((List.range u.blocks.length).map (aheadUp u i j))[B.next[j]]'hxl++[i])=(List.range u.blocks.length).map (aheadUp u i (j+1)):=by
  refine List.ext_getElem (by simp) fun b h1 h2=>?_
  rw [List.getElem_set]
  simp only [List.getElem_map,List.getElem_range]
  rw [aheadUp_step hB (List.getElem?_eq_getElem hj)]
  by_cases eb:B.next[j]=b
  ·subst eb;simp
  ·rw [if_neg eb,if_neg fun h=>eb h.symm]
 rw [←e]
 exact H7
end
end Go.Proofs.YtiepamfpilhcjaaDoor.Hx
