/- Parts of the proof. -/
import Derived.Test.YtiepamfpilhcjaaDoorM35
namespace Go.Proofs.YtiepamfpilhcjaaDoor.Hx
open Go.Proofs.YtiepamfpilhcjaaDoor.Un Go.Proofs.YtiepamfpilhcjaaDoor.Dm
section
variable {F F' : Nat→Prop} {h h' : Hp} {cs:List Pc} {Q:QP1} {u:U} {vv vb vs:V} {lb bx:Nat} {vin vout lw vl:V} {ins outs:List (List Bool)}
theorem rf_cmp {KL1:QP5}{KL2:QP6}{x4:V}{c:Bool}{b:Nat}{cur out r0 q0:List Bool}(g:Good u)
  (H0:Hold F h (rowP eB tyBool cur vl::rfP u vv vb vs lb vin vout lw ins outs out cs)) (hu:URd F h u vv vb vs) (hb:b<3000) (hr0:ins[b]? = some r0) (hq0:outs[b]? = some q0)
  (hcl:cur.length=u.vals.length) (hol:out.length=u.vals.length) (hrl:r0.length=u.vals.length) (hql:q0.length=u.vals.length)
  (H:∀F' h' d,Sn F h F' h'→Hold F' h' (rowP (eL eB) tyBools (ins.set b cur) vin::rowP (eL eB) tyBools (outs.set b out) vout::cellP lb 29 (uC u vv vb vs)::cs)→(d=false↔cur=r0∧out=q0)→
   KL2 (.ptr lb 0) vin vout x4 (.bool (c || d)) (.int .i64 ((b:Int) - 1)) h') :
  J_turnstoneref14_Live_R44 CS Q KL1 KL2 (.ptr lb 0) vin vout x4 (.bool c) (.int .i64 (b:Nat)) lw vl h:=by
 have nv:=g.nv
 have wsub:∀n:Nat,n≤3000→wrapF .i64 (((n:Nat):Int) - 1)=(n:Int) - 1:=fun n hn=>by rw [wrapF_in (by simp only [inK];omega)]
 unfold rfP at H0
 refine j_turnstoneref14_Live_R44 ?_
 unfold B_turnstoneref14_Live_R44
 refine l_turnstoneref14_Live_L9 (fun k x1 x2 x3 x4' x6 x7 x8 x19 x22 h'=>∃(i:Nat) (d:Bool),x1 = .ptr lb 0∧x2=vin∧x3=vout∧x4' = x4∧x6 = .bool (c || d)∧x7 = .int .i64 (b:Nat)∧x8=lw∧x19=vl∧x22 = .int .i64 (i:Nat)∧i+k=u.vals.length∧h' = h∧(d=false↔cur.take i=r0.take i∧out.take i=q0.take i)) ?_ (k:=u.vals.length)
  ⟨0,false,rfl,rfl,rfl,rfl,by rw [Bool.or_false],rfl,rfl,rfl,rfl,by omega,rfl,by simp⟩
 rintro k x1 x2 x3 x4' x6 x7 x8 x19 x22 h' ⟨i,d,rfl,e2,e3,e4,rfl,rfl,e8,e19,rfl,hk,e,hd⟩
 subst x2 x3 x4' x8 x19 h'
 unfold B_turnstoneref14_Live_L9
 refine oP_mk (pFA_ptr _ _ _) (oP_mk (H0.ld 4 rfl rfl) (oP_mk hu.v.len ?_))
 by_cases hi:i<u.vals.length
 ·refine st_lt (if_t (by omega) ?_)
  obtain ⟨y,hy⟩:∃y,cur[i]? = some y:=⟨_,List.getElem?_eq_getElem (show i<cur.length by omega)⟩
  obtain ⟨z,hz⟩:∃z,r0[i]? = some z:=⟨_,List.getElem?_eq_getElem (show i<r0.length by omega)⟩
  obtain ⟨y',hy'⟩:∃y,out[i]? = some y:=⟨_,List.getElem?_eq_getElem (show i<out.length by omega)⟩
  obtain ⟨z',hz'⟩:∃z,q0[i]? = some z:=⟨_,List.getElem?_eq_getElem (show i<q0.length by omega)⟩
  obtain ⟨l1,o1,p1,p2⟩:=H0.boolR 0 rfl hy .i64
  obtain ⟨l2,o2,p3,p4⟩:=H0.boolR 1 rfl hy' .i64
  obtain ⟨l3,o3,w3,q1,q2,q3⟩:=H0.listR 2 rfl hr0
  obtain ⟨l4,o4,w4,q4,q5,q6⟩:=H0.listR 3 rfl hq0
  obtain ⟨l5,o5,_,t1,t2⟩:=q3.bool hz .i64
  obtain ⟨l6,o6,_,t3,t4⟩:=q6.bool hz' .i64
  refine oP_mk p1 (oP_mk p2 (oP_mk q1 (oP_mk q2 (oP_mk t1 (oP_mk t2 (oP_mk (hbin_neqB' _ _) ?_))))))
  have eO:pOr (.bool (y != z)) (oB (some lw) fun v292=>oB (some (V.int .i64 (i:Nat))) fun v293=>oB (pIx 1 v292 v293) fun v294=>oB (pLd v294 h) fun v295=>oB (some vout) fun v296=>oB (some (V.int .i64 (b:Nat))) fun v297=>oB (pIx 1 v296 v297) fun v298=>oB (pLd v298 h) fun v299=>oB (some (V.int .i64 (i:Nat))) fun v300=>oB (pIx 1 v299 v300) fun v301=>oB (pLd v301 h) fun v302=>hbin .neq 4 v295 v302)=some (.bool ((y != z) || (y' != z'))):=by
   simp only [oB_some',p3,p4,q4,q5,t3,t4]
   rw [show hbin .neq 4 (V.bool y') (V.bool z')=some (.bool (y' != z')) from hbin_neqB y' z',pOr_bool]
  refine oP_mk eO (st_b ?_)
  obtain ⟨hy1,rfl⟩:=List.getElem?_eq_some_iff.1 hy
  obtain ⟨hz1,rfl⟩:=List.getElem?_eq_some_iff.1 hz
  obtain ⟨hy2,rfl⟩:=List.getElem?_eq_some_iff.1 hy'
  obtain ⟨hz2,rfl⟩:=List.getElem?_eq_some_iff.1 hz'
  have key:∀{a e:List Bool} (ha:i<a.length) (he:i<e.length),a.take (i+1)=e.take (i+1)↔a.take i=e.take i∧a[i]=e[i]:=by
   intro a e ha he
   rw [List.take_succ_eq_append_getElem ha,List.take_succ_eq_append_getElem he]
   constructor
   ·intro h1
    obtain ⟨h2,h3⟩:=List.append_inj h1 (by simp;omega)
    exact ⟨h2,by simpa using h3⟩
   ·rintro ⟨h1,h2⟩
    rw [h1,h2]
  have nx:∀d' : Bool,(d' = false↔cur.take (i+1)=r0.take (i+1)∧out.take (i+1)=q0.take (i+1))→J_turnstoneref14_Live_R68 CS Q KL1 KL2 (fun x1 x2 x3 x4' x6 x7 x8 x19 x22 h'=>∃k',k' < k∧∃(i:Nat) (d:Bool),x1 = .ptr lb 0∧x2=vin∧x3=vout∧x4' = x4∧x6 = .bool (c || d)∧x7 = .int .i64 (b:Nat)∧x8=lw∧x19=vl∧x22 = .int .i64 (i:Nat)∧i+k' = u.vals.length∧h' = h∧(d=false↔cur.take i=r0.take i∧out.take i=q0.take i))
    (.ptr lb 0) vin vout x4 (.bool (c || d')) (.int .i64 (b:Nat)) lw vl (.int .i64 (i:Nat)) h:=by
   intro d' hd'
   refine j_turnstoneref14_Live_R68 ?_
   unfold B_turnstoneref14_Live_R68
   exact st_add (m:=1) (by omega) (by omega) ⟨k - 1,by omega,i+1,d',rfl,rfl,rfl,rfl,rfl,rfl,rfl,rfl,rfl,by omega,rfl,hd'⟩
  cases hq:(cur[i] != r0[i]) || (out[i] != q0[i]) with
  | true =>
    refine if_t rfl ?_
    have := nx true ⟨fun h => (by cases h), fun h => by
      obtain ⟨_, e1⟩ := (key hy1 hz1).1 h.1
      obtain ⟨_, e2⟩ := (key hy2 hz2).1 h.2
      rw [e1, e2] at hq
      simp at hq⟩
    rwa [Bool.or_true] at this
  | false =>
    refine if_f (by simp) (nx d ?_)
    rw [Bool.or_eq_false_iff] at hq
    have e1 : cur[i] = r0[i] := by simpa using hq.1
    have e2 : out[i] = q0[i] := by simpa using hq.2
    rw [hd, key hy1 hz1, key hy2 hz2]
    exact ⟨fun h => ⟨⟨h.1, e1⟩, h.2, e2⟩, fun h => ⟨h.1.1, h.2.1⟩⟩
 refine st_lt (if_f (by omega) ?_)
 obtain rfl:i=u.vals.length:=by omega
 have hbi:=(List.getElem?_eq_some_iff.1 hr0).1
 have hbo:=(List.getElem?_eq_some_iff.1 hq0).1
 obtain ⟨H1,s1,r1⟩:=H0.freezeR 0 rfl
 simp only [List.set_cons_zero] at H1
 obtain ⟨l2,o2,h2,e1,e2,_,H2,s2⟩:=H1.stR 2 rfl (k:=b) (y:=cur) (u:=vl) hbi rfl r1.one ⟨vl,rfl,r1⟩
 refine oP_mk e1 ?_
 rw [e2,valP_some]
 simp only [List.set_cons_succ,List.set_cons_zero] at H2
 obtain ⟨H3,s3,r3⟩:=H2.freezeR 1 rfl
 simp only [List.set_cons_succ,List.set_cons_zero] at H3
 obtain ⟨l4,o4,h4,e3,e4,_,H4,s4⟩:=H3.stR 3 rfl (k:=b) (y:=out) (u:=lw) hbo rfl r3.one ⟨lw,rfl,r3⟩
 refine oP_mk e3 ?_
 rw [e4,valP_some]
 simp only [List.set_cons_succ,List.set_cons_zero] at H4
 refine oP_mk (hbin_sub _ _ _ _) ?_
 rw [wsub b (by omega)]
 rw [List.take_of_length_le (by omega),List.take_of_length_le (by omega),List.take_of_length_le (by omega),List.take_of_length_le (by omega)] at hd
 exact H _ h4 d (((s1.trans s2).trans s3).trans s4) H4.tail.tail hd
end
end Go.Proofs.YtiepamfpilhcjaaDoor.Hx
namespace Go.Proofs.YtiepamfpilhcjaaDoor.Hx
open Go.Proofs.YtiepamfpilhcjaaDoor.Un Go.Proofs.YtiepamfpilhcjaaDoor.Dm
section
variable {F F' : Nat→Prop} {h h' : Hp} {cs:List Pc} {Q:QP1} {u:U} {vv vb vs:V}
theorem all_rep {n:Nat}{ins:List (List Bool)}{R:List Bool}(hl:ins.length=n)(h:∀j,j<n→ins[j]? = some R):ins=List.replicate n R:=
 List.eq_replicate_iff.2 ⟨hl,fun r hr=>by
  obtain ⟨j,hj⟩:=List.mem_iff_getElem?.1 hr
  have:=h j (by have:=(List.getElem?_eq_some_iff.1 hj).1;omega)
  rw [this] at hj
  exact (Option.some.inj hj).symm⟩
theorem inOf_none (n m:Nat):inOf (List.replicate n (List.replicate m false))=fun _ _=>False:=by
 funext b w
 refine propext ⟨fun ⟨r,h1,h2⟩=>?_,fun h=>h.elim⟩
 rw [List.eq_of_mem_replicate (List.mem_of_getElem? h1)] at h2
 have:=List.eq_of_mem_replicate (List.mem_of_getElem? h2)
 cases this
theorem set_keep {ins:List (List Bool)}{i:Nat}{R:List Bool}(hi:i<ins.length)(h:∀j,j<i→ins[j]? = some R):∀j,j<i+1→(ins.set i R)[j]? = some R:=by
 intro j hj
 by_cases e:j=i
 ·subst e;exact List.getElem?_set_self hi
 ·rw [List.getElem?_set_ne fun h=>e h.symm];exact h j (by omega)
theorem ct_refLive (g:Good u)(H0:Hold F h cs)(hu:URd F h u vv vb vs)
  (H:∀F' h' vin vout ins outs,Sn F h F' h'→Hold F' h' cs→SlR (eL eB) F' h' ins vin→SlR (eL eB) F' h' outs vout→Shp u ins→Shp u outs→Alive u (headIn u) (inOf ins) (inOf outs)→Q (.tuple [vin,vout]) h') :
  cP CS n_turnstoneref14_Live [.agg (uC u vv vb vs)] h Q:=by
 refine c_turnstoneref14_Live rfl rfl ?_
 unfold B_turnstoneref14_Live
 have nv:=g.nv
 have nb:=g.nb
 have nb0:=g.nb0
 refine st_box H0 hu.one fun h1 H1 s1=>?_
 have u1:=hu.since s1
 generalize h.next=lb at *
 refine oP_mk (pFA_ptr _ _ _) (oP_mk (H1.ld 0 rfl rfl) (oP_mk u1.b.len ?_))
 rw [hmake_of (z:=V.nilSlice) rfl (by decide) (by omega),alP_some]
 obtain ⟨H2,s2⟩:=H1.make (E:=eL eB) (ty:=tyBools) (y:=[]) (u:=V.nilSlice) u.blocks.length ⟨.nilSlice,rfl, .inl ⟨rfl,rfl⟩⟩ rfl
 generalize V.slice h1.next 0 u.blocks.length=vin at *
 generalize h1.new (.cells tyBools 1 true false (List.replicate u.blocks.length V.nilSlice))=h2 at *
 rw [alP_some]
 obtain ⟨H3,s3⟩:=H2.make (E:=eL eB) (ty:=tyBools) (y:=[]) (u:=V.nilSlice) u.blocks.length ⟨.nilSlice,rfl, .inl ⟨rfl,rfl⟩⟩ rfl
 generalize V.slice h2.next 0 u.blocks.length=vout at *
 generalize h2.new (.cells tyBools 1 true false (List.replicate u.blocks.length V.nilSlice))=h3 at *
 have H3:=H3.sw
 have s03:=(s1.trans s2).trans s3
 refine l_turnstoneref14_Live_L0 (fun k x1 x2 x3 x4 x5 h'=>∃(F' : Nat→Prop) (i:Nat) (ins outs:List (List Bool)),x1 = .ptr lb 0∧x2=vin∧x3=vout∧x4 = .int .i64 (u.blocks.length:Nat)∧x5 = .int .i64 (i:Nat)∧i+k=u.blocks.length∧Sn F h F' h'∧ins.length=u.blocks.length∧outs.length=u.blocks.length∧
  (∀j,j<i→ins[j]? = some (List.replicate u.vals.length false))∧(∀j,j<i→outs[j]? = some (List.replicate u.vals.length false))∧
  Hold F' h' (rowP (eL eB) tyBools ins vin::rowP (eL eB) tyBools outs vout::cellP lb 29 (uC u vv vb vs)::cs)) ?_ (k:=u.blocks.length)
  ⟨F,0,_,_,rfl,rfl,rfl,rfl,rfl,by omega,s03,by simp,by simp,fun j hj=>by omega,fun j hj=>by omega,H3⟩
 rintro k x1 x2 x3 x4 x5 h4 ⟨F4,i,ins,outs,rfl,e2,e3,rfl,rfl,hk,s4,hil,hol,hI,hO,H4⟩
 subst x2 x3
 unfold B_turnstoneref14_Live_L0
 have u4:=hu.since s4
 by_cases hi:i<u.blocks.length
 ·refine st_lt (if_t (by omega) ?_)
  refine oP_mk (pFA_ptr _ _ _) (oP_mk (H4.ld 2 rfl rfl) (oP_mk u4.v.len ?_))
  rw [hmake_of (z:=V.bool false) rfl (by decide) (by omega),alP_some]
  obtain ⟨H5,s5,r5⟩:=H4.newF1 (E:=eB) (xs:=List.replicate u.vals.length false) (n:=u.vals.length) tyBool rfl (by simp) (Win.rep (y:=false) rfl u.vals.length)
  generalize h4.new (.cells tyBool 1 true false (List.replicate u.vals.length (V.bool false)))=h5 at *
  generalize (fun l=>F4 l∨l=h4.next)=F5 at *
  generalize V.slice h4.next 0 u.vals.length=w5 at *
  obtain ⟨l6,o6,h6,e1,e2,_,H6,s6⟩:=H5.stR 0 rfl (k:=i) (y:=List.replicate u.vals.length false) (u:=w5) (by omega) rfl r5.one ⟨w5,rfl,r5⟩
  refine oP_mk e1 ?_
  rw [e2,valP_some]
  simp only [List.set_cons_zero] at H6
  have u6:=(u4.since s5).since s6
  refine oP_mk (pFA_ptr _ _ _) (oP_mk (H6.ld 2 rfl rfl) (oP_mk u6.v.len ?_))
  rw [hmake_of (z:=V.bool false) rfl (by decide) (by omega),alP_some]
  obtain ⟨H7,s7,r7⟩:=H6.newF1 (E:=eB) (xs:=List.replicate u.vals.length false) (n:=u.vals.length) tyBool rfl (by simp) (Win.rep (y:=false) rfl u.vals.length)
  generalize h6.new (.cells tyBool 1 true false (List.replicate u.vals.length (V.bool false)))=h7 at *
  generalize (fun l=>F5 l∨l=h6.next)=F7 at *
  generalize V.slice h6.next 0 u.vals.length=w7 at *
  obtain ⟨l8,o8,h8,e3,e4,_,H8,s8⟩:=H7.stR 1 rfl (k:=i) (y:=List.replicate u.vals.length false) (u:=w7) (by omega) rfl r7.one ⟨w7,rfl,r7⟩
  refine oP_mk e3 ?_
  rw [e4,valP_some]
  simp only [List.set_cons_succ,List.set_cons_zero] at H8
  exact st_add (m:=1) (by omega) (by omega) ⟨k - 1,by omega,F7,i+1,_,_,rfl,rfl,rfl,rfl,rfl,by omega,(((s4.trans s5).trans s6).trans s7).trans s8,by simp [hil],by simp [hol],set_keep (by omega) hI,set_keep (by omega) hO,H8⟩
 refine st_lt (if_f (by omega) ?_)
 obtain rfl:i=u.blocks.length:=by omega
 have ei:=all_rep hil hI
 have eo:=all_rep hol hO
 subst ei eo
 clear hI hO hil hol
 have hS0:Shp u (List.replicate u.blocks.length (List.replicate u.vals.length false)):=⟨by simp,fun r hr=>by rw [List.eq_of_mem_replicate hr];simp⟩
 have hin0:=inOf_none u.blocks.length u.vals.length
 refine l_turnstoneref14_Live_L1 (fun k x1 x2 x3 x4 x6 h'=>∃(F' : Nat→Prop) (c:Bool) (ins outs:List (List Bool)),x1 = .ptr lb 0∧x2=vin∧x3=vout∧x4 = .int .i64 (u.blocks.length:Nat)∧x6 = .bool c∧k=falsesAll ins+falsesAll outs+(if c=true then 1 else 0)∧Seek u (headIn u) (inOf ins)∧Shp u ins∧Shp u outs∧
  (∀b w,inOf outs b w→EndP u (headIn u) (inOf ins) b w)∧(c=false→∀b,b<u.blocks.length→(∀w,inOf outs b w↔EndP u (headIn u) (inOf ins) b w)∧∀w,inOf ins b w↔BackP u b (inOf outs b) w)∧Sn F h F' h'∧
  Hold F' h' (rowP (eL eB) tyBools ins vin::rowP (eL eB) tyBools outs vout::cellP lb 29 (uC u vv vb vs)::cs)) ?_
  (k:=falsesAll (List.replicate u.blocks.length (List.replicate u.vals.length false))+falsesAll (List.replicate u.blocks.length (List.replicate u.vals.length false))+1)
  ⟨F4,true,_,_,rfl,rfl,rfl,rfl,rfl,rfl,by rw [hin0];exact .start _ _,hS0,hS0,fun b w h=>by rw [hin0] at h;exact h.elim,fun h=>(by cases h),s4,H4⟩
 clear hk k
 rintro k x1 x2 x3 x4 x6 h5 ⟨F5,c,ins,outs,rfl,e2,e3,rfl,rfl,hk,hseek,hsi,hso,hout,hc,s5,H5⟩
 subst x2 x3
 unfold B_turnstoneref14_Live_L1
 cases c with
 | false =>
   refine st_b (if_f (by simp) ?_)
   have hcf := hc rfl
   obtain ⟨H6, s6, r6⟩ := H5.freezeR 0 rfl
   simp only [List.set_cons_zero] at H6
   obtain ⟨H7, s7, r7⟩ := H6.freezeR 1 rfl
   simp only [List.set_cons_succ, List.set_cons_zero] at H7
   exact H _ h5 vin vout ins outs ((s5.trans s6).trans s7) H7.tail.tail.tail (r6.since s7) r7 hsi hso ⟨fun b w hb => (hcf b hb).1 w, fun b w hb => (hcf b hb).2 w, hseek.least⟩
 | true =>
   refine st_b (if_t rfl (st_sub1 (by omega) (by omega) ?_))
   rw [show ((u.blocks.length - 1 : Nat) : Int) = (u.blocks.length : Int) - 1 by omega]
   refine l_turnstoneref14_Live_L2 (fun k x1 x2 x3 x4 x6 x7 h' => ∃ (F' : Nat → Prop) (j : Nat) (c : Bool) (ins' outs' : List (List Bool)), x1 = .ptr lb 0 ∧ x2 = vin ∧ x3 = vout ∧ x4 = .int .i64 (u.blocks.length : Nat) ∧ x6 = .bool c ∧ x7 = .int .i64 ((j : Int) - 1) ∧ k = j ∧ j ≤ u.blocks.length ∧ Seek u (headIn u) (inOf ins') ∧ Shp u ins' ∧ Shp u outs' ∧
     (∀ b w, inOf outs' b w → EndP u (headIn u) (inOf ins') b w) ∧ falsesAll ins' + falsesAll outs' ≤ falsesAll ins + falsesAll outs ∧ (c = true → falsesAll ins' + falsesAll outs' < falsesAll ins + falsesAll outs) ∧
     (c = false → ∀ b, j ≤ b → b < u.blocks.length → (∀ w, inOf outs' b w ↔ EndP u (headIn u) (inOf ins') b w) ∧ ∀ w, inOf ins' b w ↔ BackP u b (inOf outs' b) w) ∧ Sn F h F' h' ∧
     Hold F' h' (rowP (eL eB) tyBools ins' vin :: rowP (eL eB) tyBools outs' vout :: cellP lb 29 (uC u vv vb vs) :: cs)) ?_ (k := u.blocks.length)
     ⟨F5, u.blocks.length, false, ins, outs, rfl, rfl, rfl, rfl, rfl, rfl, rfl, Nat.le_refl _, hseek, hsi, hso, hout, Nat.le_refl _, fun h => (by cases h), fun _ b h1 h2 => by omega, s5, H5⟩
   rintro k2 x1 x2 x3 x4 x6 x7 h6 ⟨F6, j, c, ins', outs', rfl, e2, e3, rfl, rfl, rfl, hkj, hj, hseek', hsi', hso', hout', hfl, hfl2, hcc, s6, H6⟩
   subst x2 x3
   unfold B_turnstoneref14_Live_L2
   cases j with
   | zero =>
     refine st_ge (if_f (by omega) ?_)
     refine ⟨falsesAll ins' + falsesAll outs' + (if c = true then 1 else 0), ?_, F6, c, ins', outs', rfl, rfl, rfl, rfl, rfl, rfl, hseek', hsi', hso', hout', fun hc0 b hb => hcc hc0 b (Nat.zero_le _) hb, s6, H6⟩
     rw [hk, if_pos rfl]
     cases c with
     | true => have := hfl2 rfl; rw [if_pos rfl]; omega
     | false => rw [if_neg (by simp)]; omega
   | succ b =>
     rw [show (((b + 1 : Nat) : Int) - 1) = (b : Nat) by omega]
     refine st_ge (if_t (by omega) ?_)
     have hbl : b < u.blocks.length := by omega
     obtain ⟨B, hB⟩ : ∃ B, u.blocks[b]? = some B := ⟨_, List.getElem?_eq_getElem hbl⟩
     have u6 := hu.since s6
     refine oP_mk (pFA_ptr _ _ _) (oP_mk (H6.ld 2 rfl rfl) (oP_mk u6.v.len ?_))
     rw [hmake_of (z := V.bool false) rfl (by decide) (by omega), alP_some]
     obtain ⟨H7, s7⟩ := H6.make (E := eB) (ty := tyBool) (y := false) (u := V.bool false) u.vals.length rfl rfl
     generalize V.slice h6.next 0 u.vals.length = lw at *
     generalize h6.new (.cells tyBool 1 true false (List.replicate u.vals.length (V.bool false))) = h7 at *
     have u7 := u6.since s7
     obtain ⟨l8, o8, bv, bn, bp, _, i1, i2, iv, iN, ip, _⟩ := u7.blk hB
     refine oP_mk (pFA_ptr _ _ _) (oP_mk (H7.ld 3 rfl rfl) (oP_mk i1 (oP_mk i2 ?_)))
     refine st_copy H7 rfl rfl (by simp only [bkC, allOne_cons, iv.one, iN.one, ip.one]; rfl) fun h8 H8 s8 => ?_
     generalize h7.next = bx at *
     have u8 := u7.since s8
     refine rf_ln g (cs := cs) H8 u8 hB (iN.since s8) hsi'.len hsi'.row (by simp) (fun w hw => by
       have := List.eq_of_mem_replicate (List.mem_of_getElem? hw)
       cases this) fun h9 l9 s9 H9 hl9 ho9 => ?_
     have u9 := u8.since s9
     refine rf_phis g (cs := cs) H9 u9 hB ((iN.since s8).since s9) hl9 fun h10 l10 s10 H10 hl10 ho10 => ?_
     have u10 := u9.since s10
     refine rf_end g (cs := cs) H10 u10 hB hl10 fun F11 h11 l11 s11 H11 hl11 ho11 => ?_
     have u11 := u10.since s11
     refine rf_back g (cs := cs) H11 u11 hB ((((iv.since s8).since s9).since s10).since s11) hl11 fun F12 h12 cur vl s12 H12 hcl hcur => ?_
     have u12 := u11.since s12
     obtain ⟨r0, hr0⟩ : ∃ r, ins'[b]? = some r := ⟨_, List.getElem?_eq_getElem (show b < ins'.length by rw [hsi'.len]; exact hbl)⟩
     obtain ⟨q0, hq0⟩ : ∃ r, outs'[b]? = some r := ⟨_, List.getElem?_eq_getElem (show b < outs'.length by rw [hso'.len]; exact hbl)⟩
     have hr0l := hsi'.row r0 (List.mem_of_getElem? hr0)
     have hq0l := hso'.row q0 (List.mem_of_getElem? hq0)
     have hbi : b < ins'.length := by rw [hsi'.len]; exact hbl
     have hbo : b < outs'.length := by rw [hso'.len]; exact hbl
     refine rf_cmp g (cs := cs) H12 u12 (by omega) hr0 hq0 hcl hl11 hr0l hq0l fun F13 h13 d s13 H13 hd => ?_
     have hoe : ∀ w, On l11 w ↔ EndP u (headIn u) (inOf ins') b w := fun w => by
       rw [ho11 w, ho10 w, ho9 w]
       unfold EndP endTake
       constructor
       · rintro ((h1 | h1 | h1) | h1)
         · exact .inl h1
         · exact .inr (.inl h1)
         · exact .inr (.inr ⟨B, hB, .inl h1⟩)
         · exact .inr (.inr ⟨B, hB, .inr h1⟩)
       · rintro (h1 | h1 | ⟨B', hB', h1⟩)
         · exact .inl (.inl h1)
         · exact .inl (.inr (.inl h1))
         · rw [hB] at hB'; cases hB'
           exact h1.elim (fun h => .inl (.inr (.inr h))) .inr
     have hTr : ∀ w, On cur w ↔ Un.Tr u (headIn u) (inOf ins') b w := fun w => by rw [hcur w]; exact bk_congr hoe w
     have hset : inOf (ins'.set b cur) = setP (inOf ins') b (Un.Tr u (headIn u) (inOf ins') b) := by
       funext c w
       refine propext ?_
       rw [inOf_set hbi]
       unfold setP
       rw [hTr w]
     have hup : ∀ c w, inOf ins' c w → inOf (ins'.set b cur) c w := fun c w hw => by
       rw [hset]
       by_cases e : c = b
       · subst e; exact .inl ⟨rfl, hseek'.up _ _ hw⟩
       · exact .inr ⟨e, hw⟩
     obtain ⟨f1, f2⟩ := falses_le (l := cur) (r := r0) (by omega) fun w hw => (hTr w).2 (hseek'.up b w ((inOf_row hr0 w).2 hw))
     obtain ⟨f3, f4⟩ := falses_le (l := l11) (r := q0) (by omega) fun w hw => (hoe w).2 (hout' b w ((inOf_row hq0 w).2 hw))
     have f5 := falsesAll_set (row := cur) hr0
     have f6 := falsesAll_set (row := l11) hq0
     refine ⟨b, by omega, F13, b, c || d, ins'.set b cur, outs'.set b l11, rfl, rfl, rfl, rfl, rfl, rfl, rfl, by omega, by rw [hset]; exact hseek'.step hbl, hsi'.set hcl, hso'.set hl11, fun b' w hw => ?_, by omega, fun hcd => ?_, fun hcd b' h1 h2 => ?_, ((((((s6.trans s7).trans s8).trans s9).trans s10).trans s11).trans s12).trans s13, H13⟩
     · rw [inOf_set hbo] at hw
       rcases hw with ⟨rfl, hw⟩ | ⟨_, hw⟩
       · exact EndP_mono hup ((hoe w).1 hw)
       · exact EndP_mono hup (hout' b' w hw)
     · cases hq : d with
       | true =>
         have h1 : ¬ (cur = r0 ∧ l11 = q0) := fun h => by
           have := hd.2 h
           rw [hq] at this; cases this
         by_cases e : cur = r0
         · have := f4 fun e' => h1 ⟨e, e'⟩
           omega
         · have := f2 e
           omega
       | false =>
         rw [hq] at hcd
         have := hfl2 (by simpa using hcd)
         omega
     · rw [Bool.or_eq_false_iff] at hcd
       obtain ⟨e1, e2⟩ := hd.1 hcd.2
       have hs1 : ins'.set b cur = ins' := by
         refine List.ext_getElem? fun m => ?_
         by_cases e : m = b
         · subst e; rw [List.getElem?_set_self hbi, hr0, e1]
         · rw [List.getElem?_set_ne fun h => e h.symm]
       have hs2 : outs'.set b l11 = outs' := by
         refine List.ext_getElem? fun m => ?_
         by_cases e : m = b
         · subst e; rw [List.getElem?_set_self hbo, hq0, e2]
         · rw [List.getElem?_set_ne fun h => e h.symm]
       rw [hs1, hs2]
       by_cases e : b' = b
       · subst e
         have hb1 : ∀ w, inOf outs' b' w ↔ On l11 w := fun w => by rw [inOf_row hq0 w, e2]
         refine ⟨fun w => by rw [hb1 w, hoe w], fun w => ?_⟩
         rw [inOf_row hr0 w, ← e1, hcur w]
         exact (bk_congr hb1 w).symm
       · exact hcc hcd.1 b' (by omega) h2
end
end Go.Proofs.YtiepamfpilhcjaaDoor.Hx
namespace Go.Proofs.YtiepamfpilhcjaaDoor.Hx
open Go.Proofs.YtiepamfpilhcjaaDoor.Un Go.Proofs.YtiepamfpilhcjaaDoor.Dm
theorem brow_ext:∀{l r:List Bool},l.length=r.length→(∀w,On l w↔On r w)→l=r
 | [],[],_,_=>rfl
 | [],_::_,h,_=>by simp at h
 | _::_,[],h,_=>by simp at h
 | a :: l, b :: r, h, hw => by
   have h0 := hw 0
   unfold On at h0
   simp only [List.getElem?_cons_zero, Option.some.injEq] at h0
   rw [brow_ext (l := l) (r := r) (by simpa using h) fun w => hw (w + 1)]
   have e : a = b := by cases a <;> cases b <;> simp_all
   rw [e]
theorem brows_ext {u:U} {ins ins' : List (List Bool)}(h:Shp u ins) (h' : Shp u ins')(hw:∀b w,b<u.blocks.length→(inOf ins b w↔inOf ins' b w)):ins=ins':=by
 refine List.ext_getElem (by rw [h.len,h'.len]) fun b h1 h2=>?_
 have e1:=List.getElem?_eq_getElem h1
 have e2:=List.getElem?_eq_getElem h2
 refine brow_ext (by rw [h.row _ (List.getElem_mem h1),h'.row _ (List.getElem_mem h2)]) fun w=>?_
 rw [←inOf_row e1 w,←inOf_row e2 w]
 exact hw b w (by rw [←h.len];exact h1)
section
variable {F F' : Nat→Prop} {h h' : Hp} {cs:List Pc} {Q:QP1}
theorem ct_knownL (H:Q (.bool true) h):cP CS n_turnstonelaw24_known [] h Q:=by
 obtain ⟨fn,c,hf,hb⟩:=bodyKnown
 exact cP.known hf hb (show CS.K n_turnstonelaw24_known [] h=some (.bool true) from rfl) rfl rfl H
theorem ct_AllocLive {ops shape:List Int}{np:Int}{vo vsh:V}(H0:Hold F h cs)(hvo:SlR (eI .i64) F h ops vo)(hvs:SlR (eI .i64) F h shape vsh)(ho:ops.length<9223372036854775808)(H:∀h',Q (.bool true) h') :
  cP CS n_turnstonelaw24_AllocLive [.agg [vo,vsh, .int .i64 np]] h Q:=by
 refine c_turnstonelaw24_AllocLive rfl rfl ?_
 unfold B_turnstonelaw24_AllocLive
 refine st_box H0 (by simp only [allOne_cons,hvo.one,hvs.one];rfl) fun h1 H1 s1=>?_
 refine oP_mk (H1.ldA 0 rfl rfl) ?_
 refine ct_Unit H1 (hvo.since s1) (hvs.since s1) ho fun F2 h2 w s2 H2 hw=>?_
 have g:Good (unitM ops shape np):=unit_good ops shape np
 generalize unitM ops shape np=u at *
 obtain ⟨vv,vb,vs,rfl,w1,w2,w3⟩:=hw
 have u2:URd F2 h2 u vv vb vs:=⟨w1,w2,w3⟩
 have nv:=g.nv
 have nb:=g.nb
 refine st_copy H2 rfl rfl u2.one fun h3 H3 s3=>?_
 have u3:=u2.since s3
 generalize h2.next=lu at *
 refine oP_mk (H3.ldA 0 rfl rfl) ?_
 refine ct_Live g H3 u3 fun F4 h4 vin vout ins outs s4 H4 ri ro hsi hso hA=>?_
 refine oP_mk rfl (oP_mk rfl (oP_mk (H4.ldA 0 rfl rfl) ?_))
 refine ct_refLive g H4 (u3.since s4) fun F5 h5 vin' vout' ins' outs' s5 H5 ri' ro' hsi' hso' hA'=>?_
 have eq:∀b w,b<u.blocks.length→(inOf ins b w↔inOf ins' b w)∧(inOf outs b w↔inOf outs' b w):=fun b w hb=>Alive.uniq hA hA' (fun _ _ _ _=>Iff.rfl) hb
 obtain rfl:ins=ins':=brows_ext hsi hsi' fun b w hb=>(eq b w hb).1
 obtain rfl:outs=outs':=brows_ext hso hso' fun b w hb=>(eq b w hb).2
 refine oP_mk rfl (oP_mk rfl (ct_knownL ?_))
 refine gd_tt (oP_mk rfl (gd_tt (oP_mk rfl (gc_tt ?_))))
 refine ct_rows (ri.since s5) ri' (by rw [hsi.len];omega) (fun r hr=>by rw [hsi.row r hr];omega) ?_
 refine oP_mk rfl (gd_tt (oP_mk rfl (gd_tt (oP_mk rfl (gc_tt ?_)))))
 refine ct_rows (ro.since s5) ro' (by rw [hso.len];omega) (fun r hr=>by rw [hso.row r hr];omega) ?_
 exact oP_mk rfl (H h5)
end
end Go.Proofs.YtiepamfpilhcjaaDoor.Hx
