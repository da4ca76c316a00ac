/- Parts of the proof. -/
import Derived.Test.YtiepamfpilhcjaaDoorM29
import Derived.Test.YtiepamfpilhcjaaDoorM17
import Derived.Test.YtiepamfpilhcjaaDoorM13
namespace Go.Proofs.YtiepamfpilhcjaaDoor.Hx
open Go.Proofs.YtiepamfpilhcjaaDoor.Un Go.Proofs.YtiepamfpilhcjaaDoor.Dm
theorem und_int:P0.underlying tyInt=some (.int .i64):=by kernel_rfl
theorem flatEq_int (a b:Int):flatEq tyInt (.int .i64 a) (.int .i64 b)=some (a == b):=by
 unfold flatEq
 rw [und_int]
 rfl
def setP (l:Nat)(S:Int→Prop):Pc where
 foot:=fun m=>m=l
 ok F h:=(∃es c,h.get l=some (.map es c)∧(∀e∈es,∃k:Int,e.1 = .int .i64 k∧e.2.1 = .bool true∧S k)∧∀k,S k→∃e∈es,e.1 = .int .i64 k)∧l<h.next∧¬F l
 inn:=fun h _ e=>by subst e;exact h.2
 keep:=fun ⟨⟨es,c,h1,h2⟩,h3⟩ _ hl hn=>⟨⟨es,c,(hl l rfl).trans h1,h2⟩,Nat.lt_of_lt_of_le h3.1 hn,h3.2⟩
 mono:=fun h _ hl=>⟨h.1,h.2.1,hl l rfl⟩
theorem findV_int (k:Int):∀(es:List (V×V×Nat))(i:Nat),(∀e∈es,∃k:Int,e.1 = .int .i64 k∧e.2.1 = .bool true)→
  (findV tyInt none (.int .i64 k) es i=some none∧∀e∈es,e.1≠ .int .i64 k)∨∃j e,findV tyInt none (.int .i64 k) es i=some (some (i+j, .bool true))∧es[j]? = some e∧e.1 = .int .i64 k
 | [],i,_=> .inl ⟨rfl,fun _ h=>by cases h⟩
 | e :: es, i, h => by
   obtain ⟨k', h1, h2⟩ := h e (List.mem_cons_self ..)
   have hf : findV tyInt none (.int .i64 k) (e :: es) i = if k = k' then some (some (i, e.2.1)) else findV tyInt none (.int .i64 k) es (i + 1) := by
     show oB (keyEq tyInt none (.int .i64 k) e.1) _ = _
     rw [h1, show keyEq tyInt none (V.int .i64 k) (V.int .i64 k') = some (k == k') from flatEq_int _ _]
     by_cases hk : k = k'
     · rw [if_pos hk, beq_iff_eq.2 hk]; rfl
     · rw [if_neg hk, beq_eq_false_iff_ne.2 hk]; rfl
   by_cases hk : k = k'
   · subst hk
     rw [if_pos rfl, h2] at hf
     exact .inr ⟨0, e, hf, rfl, h1⟩
   · rw [if_neg hk] at hf
     rcases findV_int k es (i + 1) fun e he => h e (List.mem_cons_of_mem _ he) with ⟨h3, h4⟩ | ⟨j, e', h3, h4, h5⟩
     · refine .inl ⟨hf.trans h3, fun e' he => ?_⟩
       rcases List.mem_cons.1 he with rfl | he
       · rw [h1]; intro hh; cases hh; exact hk rfl
       · exact h4 e' he
     · exact .inr ⟨j + 1, e', by rw [hf, h3]; congr 3; omega, h4, h5⟩
section
variable {F F' : Nat→Prop} {h h' : Hp} {cs:List Pc} {Q:QP1} {l:Nat} {S:Int→Prop}
theorem Hold.look (H:Hold F h cs)(i:Nat)(hi:cs[i]? = some (setP l S))(k:Int):∃b,pLook tyInt none (.bool false) false (.map l) (.int .i64 k) h=some (.bool b)∧(b=true↔S k):=by
 obtain ⟨⟨es,c,h1,h2,h3⟩,_⟩:=H.ok i _ hi
 have e1:∀r,findV tyInt none (.int .i64 k) es 0=some r→pLook tyInt none (.bool false) false (.map l) (.int .i64 k) h=some (found (.bool false) false r):=fun r hr=>by
  unfold pLook mapAt
  simp only [h1,oB_some']
  rw [hr]
  rfl
 rcases findV_int k es 0 fun e he=>let ⟨k,a,b,_⟩:=h2 e he;⟨k,a,b⟩ with ⟨h4,h5⟩ | ⟨j,e,h4,h5,h6⟩
 ·refine ⟨false,e1 _ h4,by simp,fun hs=>?_⟩
  obtain ⟨e,he,hk⟩:=h3 k hs
  exact absurd hk (h5 e he)
 ·refine ⟨true,e1 _ h4,fun _=>?_,fun _=>rfl⟩
  obtain ⟨k',a,_,b⟩:=h2 e (List.mem_of_getElem? h5)
  rw [h6] at a
  cases a
  exact b
theorem Hold.putK (H:Hold F h cs)(i:Nat)(hi:cs[i]? = some (setP l S))(k:Int):∃h',hput tyInt none (.map l) (.int .i64 k) (.bool true) h=some (.val .undef h')∧h.next≤h'.next∧Hold F h' (cs.set i (setP l fun x=>S x∨x=k))∧Sn F h F h':=by
 obtain ⟨⟨es,c,h1,h2,h3⟩,h4,h5⟩:=H.ok i _ hi
 have fin:∀es' c',mapPut tyInt none es c (.int .i64 k) (.bool true)=some (.map es' c')→(∀e∈es',∃k' : Int,e.1 = .int .i64 k'∧e.2.1 = .bool true∧(S k'∨k' = k))→(∀k',S k'∨k' = k→∃e∈es',e.1 = .int .i64 k')→
   ∃h',hput tyInt none (.map l) (.int .i64 k) (.bool true) h=some (.val .undef h')∧h.next≤h'.next∧Hold F h' (cs.set i (setP l fun x=>S x∨x=k))∧Sn F h F h':=by
  intro es' c' g1 g2 g3
  refine ⟨h.put l (.map es' c'),?_,Nat.le_refl _,H.turn' (p:=setP l fun x=>S x∨x=k) hi (Chg.put _ rfl h4) ⟨⟨es',c',get_put_self _ h4,g2,g3⟩,h4,h5⟩ fun _ h=> .inl h⟩
  unfold hput mapAt
  simp only [h1,oB_some',g1]
  rfl
 rcases findV_int k es 0 fun e he=>let ⟨k,a,b,_⟩:=h2 e he;⟨k,a,b⟩ with ⟨g4,g5⟩ | ⟨j,e,g4,g5,g6⟩
 ·refine fin (es++[(.int .i64 k, .bool true,c)]) (c+1) (by unfold mapPut;rw [g4];rfl) (fun e he=>?_) fun k' hk=>?_
  ·rcases List.mem_append.1 he with h | h
   ·obtain ⟨k',a,b,d⟩:=h2 e h
    exact ⟨k',a,b, .inl d⟩
   ·obtain rfl:=List.mem_singleton.1 h
    exact ⟨k,rfl,rfl, .inr rfl⟩
  ·rcases hk with hk | rfl
   ·obtain ⟨e,he,hk⟩:=h3 k' hk
    exact ⟨e,List.mem_append_left _ he,hk⟩
   ·exact ⟨_,List.mem_append_right _ (List.mem_singleton.2 rfl),rfl⟩
 ·obtain ⟨hj,rfl⟩:=List.getElem?_eq_some_iff.1 g5
  refine fin (es.set j (.int .i64 k, .bool true,es[j].2.2)) c ?_ (fun e he=>?_) fun k' hk=>?_
  ·unfold mapPut
   rw [g4]
   simp only [oB_some',Nat.zero_add,g5,g6,V.beq_self]
   rfl
  ·rcases List.mem_or_eq_of_mem_set he with h | rfl
   ·obtain ⟨k',a,b,d⟩:=h2 e h
    exact ⟨k',a,b, .inl d⟩
   ·exact ⟨k,rfl,rfl, .inr rfl⟩
  ·have hS:S k:=by
    obtain ⟨k',a,_,d⟩:=h2 _ (List.getElem_mem hj)
    rw [g6] at a
    cases a
    exact d
   have hk' : S k':=hk.elim id fun e=>e▸hS
   obtain ⟨e,he,hke⟩:=h3 k' hk'
   obtain ⟨n,hn,rfl⟩:=List.mem_iff_getElem.1 he
   by_cases hnj:n=j
   ·subst hnj
    rw [g6] at hke
    exact ⟨_,List.mem_of_getElem? (List.getElem?_set_self hn),hke⟩
   ·exact ⟨es[n],List.mem_of_getElem? (by rw [List.getElem?_set_ne fun e=>hnj e.symm];exact List.getElem?_eq_getElem hn),hke⟩
theorem Hold.newM (H:Hold F h cs):Hold F (h.new (.map [] 0)) (setP h.next (fun _=>False)::cs)∧Sn F h F (h.new (.map [] 0)):=
 H.new (p:=setP h.next fun _=>False) _ ⟨⟨[],0,get_new_self _ _,And.intro (fun e he=>nomatch he) (fun k hk=>False.elim hk)⟩,Nat.lt_succ_self _,H.fresh⟩ fun _ e=>e
end
end Go.Proofs.YtiepamfpilhcjaaDoor.Hx
namespace Go.Proofs.YtiepamfpilhcjaaDoor.Hx
open Go.Proofs.YtiepamfpilhcjaaDoor.Un Go.Proofs.YtiepamfpilhcjaaDoor.Dm
def bh (u:U):List Nat→(Nat→Prop)→Nat→Prop
 | [],P=>P
 | v::r,P=>fun w=>if headB u v=true then bh u r P w else (bh u r P w∧w≠v)∨w∈takes u v
section
variable {F F' : Nat→Prop} {h h' : Hp} {cs:List Pc} {Q:QP1} {u:U} {vv vb vs:V} {lv:Nat} {vin vout:V} {outs:List (List Bool)}
theorem lv_behind (g:Good u)(C:Lk F h cs lv u vv vb vs vin vout)(ro:SlR (eL eB) F h outs vout)(hso:Shp u outs){b:Nat}{B:Bk}(hB:u.blocks[b]? = some B)
  (H:∀F' h' vo rs,Sn F h F' h'→Hold F' h' cs→SlR (eL eB) F' h' rs vo→rs.length=B.vals.length→(∀(i:Nat) row,rs[i]? = some row→row.length=u.vals.length∧∀w,On row w↔bh u (B.vals.drop (i+1)) (inOf outs b) w)→Q vo h') :
  cP CS n_alloc_liver_behind [.ptr lv 0, .int .i64 (b:Nat)] h Q:=by
 refine c_alloc_liver_behind rfl rfl ?_
 unfold B_alloc_liver_behind
 have nv:=g.nv
 have hbl:=(List.getElem?_eq_some_iff.1 hB).1
 have hbv:=good_vals g hB
 obtain ⟨l1,o1,bv,bn,bp,_,i1,i2,iv,_,_,ba⟩:=C.u.blk hB
 refine oP_mk (pNil_ptr _ _) (oP_mk (pFA_ptr _ _ _) (oP_mk (pFA_ptr _ _ _) (oP_mk (C.ld 3 rfl) (oP_mk i1 (oP_mk (pFA_ptr _ _ _) (oP_mk ba.vals (oP_mk iv.len ?_)))))))
 rw [hmake_of rfl (by decide) (by omega),alP_some]
 obtain ⟨H1,s1⟩:=C.H.make (E:=eL eB) (ty:=tyBools) (y:=[]) (u:=V.nilSlice) B.vals.length ⟨.nilSlice,rfl, .nil⟩ rfl
 have H1:Hold F (h.new (.cells 37 1 true false (List.replicate B.vals.length V.nilSlice))) (rowP (eL eB) tyBools (List.replicate B.vals.length []) (.slice h.next 0 B.vals.length)::cs):=H1
 have s1:Sn F h F (h.new (.cells 37 1 true false (List.replicate B.vals.length V.nilSlice))):=s1
 generalize h.new (.cells 37 1 true false (List.replicate B.vals.length V.nilSlice))=h1 at *
 generalize V.slice h.next 0 B.vals.length=vo at *
 rw [pBS_zero,alP_some]
 obtain ⟨H2,s2⟩:=H1.newR (E:=eB) (xs:=[]) (ws:=[]) (n:=0) tyBool rfl trivial rfl
 have H2:Hold F (h1.new (.cells 4 1 true false [])) (rowP eB tyBool [] (.slice h1.next 0 0)::rowP (eL eB) tyBools (List.replicate B.vals.length []) vo::cs):=H2
 have s2:Sn F h1 F (h1.new (.cells 4 1 true false [])):=s2
 generalize h1.new (.cells 4 1 true false [])=h2 at *
 obtain ⟨orow,hor⟩:∃r,outs[b]? = some r:=⟨_,List.getElem?_eq_getElem (show b<outs.length by rw [hso.len];exact hbl)⟩
 have horl:=hso.row orow (List.mem_of_getElem? hor)
 obtain ⟨lo,oo,wo,_,q1,q2,q3⟩:=(ro.since (s1.trans s2)).list hor .i64
 obtain ⟨ic,hc⟩:=C.c
 refine oP_mk (pNil_ptr _ _) (oP_mk (pFA_ptr _ _ _) (oP_mk (H2.ld (ic+2) hc rfl) (oP_mk q1 (oP_mk q2 ?_))))
 obtain ⟨v3,h3,e3,n3,H3,s3⟩:=H2.appR 0 rfl (by_:=1) q3 (by decide) (by decide) (by simp;omega)
 have e3' : happend 4 1 1 (.slice h1.next 0 0) wo h2=some (.val v3 h3):=e3
 rw [e3',valP_some]
 simp only [List.set_cons_zero,List.nil_append] at H3
 have wsub:∀n:Nat,n≤3000→wrapF .i64 (((n:Nat):Int) - 1)=(n:Int) - 1:=fun n hn=>by rw [wrapF_in (by simp only [inK];omega)]
 refine oP_mk iv.len (oP_mk (hbin_sub _ _ _ _) ?_)
 rw [wsub _ hbv]
 have s03:=(s1.trans s2).trans s3
 refine l_alloc_liver_behind_L0 (fun k x0 x5 x6 x7 x8 h'=>∃(F' : Nat→Prop) (l d:List Nat) (cur:List Bool) (rs:List (List Bool)),x0 = .ptr lv 0∧x5=bv∧x6=vo∧x7=v3∧x8 = .int .i64 ((l.length:Int) - 1)∧k=l.length∧B.vals=l++d∧Sn F h F' h'∧cur.length=u.vals.length∧
  Hold F' h' (rowP eB tyBool cur v3::rowP (eL eB) tyBools rs vo::cs)∧(∀w,On cur w↔bh u d (inOf outs b) w)∧rs.length=B.vals.length∧
  ∀(i:Nat) row,l.length≤i→rs[i]? = some row→row.length=u.vals.length∧∀w,On row w↔bh u (B.vals.drop (i+1)) (inOf outs b) w) ?_ (k:=B.vals.length)
  ⟨F,B.vals,[],orow,List.replicate B.vals.length [],rfl,rfl,rfl,rfl,rfl,rfl,by simp,s03,horl,H3,fun w=>(inOf_row hor w).symm,by simp,fun i row h1 h2=>by
   have:=(List.getElem?_eq_some_iff.1 h2).1
   rw [List.length_replicate] at this
   omega⟩
 rintro k x0 x5 x6 x7 x8 h6 ⟨F6,l,d,cur,rs,rfl,e5,e6,e7,rfl,hk,hld,s6,hcl,H6,hcb,hrl,hrs⟩
 subst x5 x6 x7
 unfold B_alloc_liver_behind_L0
 have hll:l.length≤B.vals.length:=by rw [hld,List.length_append];omega
 refine st_ge ?_
 rcases eq_nil_or_snoc l with rfl | ⟨s,v,rfl⟩
 ·refine if_f (by simp) ?_
  obtain ⟨H7,s7,r7⟩:=H6.tail.freezeR 0 rfl
  simp only [List.set_cons_zero] at H7
  exact H _ h6 vo rs (s6.trans s7) H7.tail r7 hrl fun i row hi=>hrs i row (Nat.zero_le _) hi
 have hsl:((s++[v]).length:Int) - 1=(s.length:Nat):=by simp
 rw [hsl]
 refine if_t (by omega) ?_
 have hget:B.vals[s.length]? = some v:=by rw [hld];simp
 have hsb:s.length<B.vals.length:=(List.getElem?_eq_some_iff.1 hget).1
 have hat:At u v b s.length:=⟨B,hB,hget⟩
 have hvl:=g.atlt v b _ hat
 have hdrop:B.vals.drop (s.length+1)=d:=by
  rw [hld,List.drop_left' (by simp)]
 rw [pBS_zero,alP_some]
 obtain ⟨H7,s7⟩:=H6.newR (E:=eB) (xs:=[]) (ws:=[]) (n:=0) tyBool rfl trivial rfl
 have H7:Hold F6 (h6.new (.cells 4 1 true false [])) (rowP eB tyBool [] (.slice h6.next 0 0)::rowP eB tyBool cur v3::rowP (eL eB) tyBools rs vo::cs):=H7
 have s7:Sn F6 h6 F6 (h6.new (.cells 4 1 true false [])):=s7
 generalize h6.new (.cells 4 1 true false [])=h7 at *
 obtain ⟨v8,h8,e8,n8,H8,s8⟩:=H7.appO 0 1 rfl rfl (by_:=1) (by decide) (by decide) (by simp;omega)
 have e8' : happend 4 1 1 (.slice h6.next 0 0) v3 h7=some (.val v8 h8):=e8
 rw [e8',valP_some]
 simp only [List.set_cons_zero,List.nil_append] at H8
 obtain ⟨H9,s9,r9⟩:=H8.freezeR 0 rfl
 simp only [List.set_cons_zero] at H9
 obtain ⟨l10,o10,h10,e10,e11,n10,H10,s10⟩:=H9.stR 2 rfl (k:=s.length) (y:=cur) (u:=v8) (show s.length<rs.length by omega) rfl r9.one ⟨v8,rfl,r9⟩
 refine oP_mk e10 ?_
 rw [e11,valP_some]
 simp only [List.set_cons_succ,List.set_cons_zero] at H10
 have H10:=H10.tail
 have s610:=((s7.trans s8).trans s9).trans s10
 generalize (fun l=>F6 l∨Loc v8 l)=FA at *
 have s0A:=s6.trans s610
 obtain ⟨lq,oq,_,p1,p2⟩:=(iv.since s0A).nat hget .i64
 have CA:Lk FA h10 (rowP eB tyBool cur v3::rowP (eL eB) tyBools (rs.set s.length cur) vo::cs) lv u vv vb vs vin vout:=⟨H10,⟨ic+2,hc⟩,C.u.since s0A⟩
 refine oP_mk p1 (oP_mk p2 (lv_head CA hvl (st_not ?_)))
 have hrs' : ∀(i:Nat) row,s.length≤i→(rs.set s.length cur)[i]? = some row→row.length=u.vals.length∧∀w,On row w↔bh u (B.vals.drop (i+1)) (inOf outs b) w:=by
  intro i row h1 h2
  by_cases hi:i=s.length
  ·subst hi
   rw [List.getElem?_set_self (by omega)] at h2
   cases h2
   exact ⟨hcl,fun w=>by rw [hdrop];exact hcb w⟩
  ·rw [List.getElem?_set_ne fun e=>hi e.symm] at h2
   exact hrs i row (by simp;omega) h2
 cases hq:headB u v with
 | true =>
   refine if_t rfl ?_
   refine j_alloc_liver_behind_R10 ?_
   unfold B_alloc_liver_behind_R10
   refine oP_mk (hbin_sub _ _ _ _) ?_
   rw [wsub s.length (by omega)]
   refine ⟨s.length, by rw [hk]; simp, FA, s, v :: d, cur, rs.set s.length cur, rfl, rfl, rfl, rfl, rfl, rfl, by rw [hld]; simp, s0A, hcl, H10, fun w => ?_, by simp [hrl], hrs'⟩
   rw [hcb w]
   unfold bh
   rw [if_pos hq]
   cases d <;> rfl
 | false =>
   refine if_f (by simp) ?_
   refine oP_mk p1 (oP_mk p2 ?_)
   refine lv_ahead g CA hcl hvl fun F7 h7 cur' s7 H7 hcl' hon => ?_
   refine j_alloc_liver_behind_R10 ?_
   unfold B_alloc_liver_behind_R10
   refine oP_mk (hbin_sub _ _ _ _) ?_
   rw [wsub s.length (by omega)]
   refine ⟨s.length, by rw [hk]; simp, F7, s, v :: d, cur', rs.set s.length cur, rfl, rfl, rfl, rfl, rfl, rfl, by rw [hld]; simp, s0A.trans s7, by omega, H7, fun w => ?_, by simp [hrl], hrs'⟩
   rw [hon w, hcb w]
   conv => rhs; unfold bh
   rw [if_neg (by rw [hq]; simp)]
end
end Go.Proofs.YtiepamfpilhcjaaDoor.Hx
namespace Go.Proofs.YtiepamfpilhcjaaDoor.Hx
open Go.Proofs.YtiepamfpilhcjaaDoor.Un Go.Proofs.YtiepamfpilhcjaaDoor.Dm
theorem bh_mono {u:U} : ∀{r:List Nat} {P P' : Nat→Prop},(∀w,P w→P' w)→∀w,bh u r P w→bh u r P' w
 | [],_,_,h,w,hw=>h w hw
 | v :: r, P, P', h, w, hw => by
   unfold bh at hw ⊢
   split at hw
   · rename_i e; rw [if_pos e]; exact bh_mono h w hw
   · rename_i e; rw [if_neg e]; exact hw.imp (fun h1 => ⟨bh_mono h w h1.1, h1.2⟩) id
structure PA (u:U) (Out:Nat→Nat→Prop) (of:List Int) (c i:Nat):Prop where
 hd:∀v,At u v c i→headB u v=true→∀j w,j<i→At u w c j→headB u w=true→of[w]?≠of[v]?
 ap:∀v,At u v c i→∀w,w<u.vals.length→bh u ((valsOf u c).drop (i+1)) (Out c) w→w≠v→of[w]?≠of[v]?
def inPl (slots k:Int):Prop:=(0≤k∧k<12)∨(16≤k∧k<16+slots)
structure RightP (u:U) (Out:Nat→Nat→Prop) (of:List Int) (slots:Int):Prop where
 len:of.length=u.vals.length
 s0:0≤slots
 s1:slots≤399
 pl:∀k∈of,inPl slots k
 pa:∀c i,PA u Out of c i
theorem PA.congr {u:U} {Out Out' : Nat→Nat→Prop}{of:List Int}{c i:Nat}(h:∀w,Out' c w→Out c w)(p:PA u Out of c i):PA u Out' of c i:=
 ⟨p.hd,fun v hv w hw hb=>p.ap v hv w hw (bh_mono h w hb)⟩
theorem RightP.congr {u:U} {In Out In' Out' : Nat→Nat→Prop}{of:List Int}{slots:Int}(h:Alive u (headIn u) In Out) (h' : Alive u (headIn u) In' Out')(r:RightP u Out of slots):RightP u Out' of slots:=
 ⟨r.len,r.s0,r.s1,r.pl,fun c i=>by
  by_cases hc:c<u.blocks.length
  ·exact (r.pa c i).congr fun w hw=>(Alive.uniq h h' (fun _ _ _ _=>Iff.rfl) hc).2.2 hw
  ·exact ⟨(r.pa c i).hd,fun v ⟨B,hB,_⟩=>absurd (List.getElem?_eq_some_iff.1 hB).1 hc⟩⟩
section
variable {F F' : Nat→Prop} {h h' : Hp} {cs:List Pc} {Q:QP1} {u:U} {vv vb vs:V} {of:List Int} {wof:V} {slots:Int}
theorem int_in {xs:List Int}(hl:∀k∈xs,inPl slots k){i:Nat}{k:Int}(h:xs[i]? = some k):inPl slots k:=hl k (List.mem_of_getElem? h)
theorem ct_Right (g:Good u)(H0:Hold F h cs)(hu:URd F h u vv vb vs){ii:Nat}(hci:cs[ii]? = some (rowP eZ tyInt of wof))(hl:of.length<1000000)
  (H:∀F' h' c,Sn F h F' h'→Hold F' h' cs→(c=true→∃In Out,Alive u (headIn u) In Out∧RightP u Out of slots)→(c=false→(∀Out,¬RightP u Out of slots)∨∃In Out,Alive u (headIn u) In Out∧¬RightP u Out of slots)→Q (.bool c) h') :
  cP CS n_alloc_Right [.agg (uC u vv vb vs), .agg [wof, .int .i64 slots]] h Q:=by
 refine c_alloc_Right rfl rfl ?_
 unfold B_alloc_Right
 have nv:=g.nv
 have nb:=g.nb
 refine st_box H0 hu.one fun h1 H1 s1=>?_
 refine st_box H1 (by simp only [allOne_cons,H1.one (ii+1) hci];rfl) fun h2 H2 s2=>?_
 have u2:=(hu.since s1).since s2
 generalize h.next=lu at *
 generalize h1.next=lp at *
 refine oP_mk (H2.ldA 1 rfl rfl) ?_
 refine ct_Check g H2 u2 fun F3 h3 s3 H3=>?_
 have s03:=(s1.trans s2).trans s3
 have u3:=u2.since s3
 have lp0:pLd (.ptr lp (0+0)) h3=some wof:=H3.ld 0 rfl rfl
 have lp1:pLd (.ptr lp (0+1)) h3=some (.int .i64 slots):=H3.ld 0 rfl rfl
 have lu2:pLd (.ptr lu (0+2)) h3=some vv:=H3.ld 1 rfl rfl
 refine st_notv ?_
 have E1:pOr (.bool (!true)) (oB (pFA 0 (.ptr lp 0)) fun v20=>oB (pLd v20 h3) fun v21=>oB (pLen v21) fun v22=>oB (pFA 2 (.ptr lu 0)) fun v23=>oB (pLd v23 h3) fun v24=>oB (pLen v24) fun v25=>hbin .neq 3 v22 v25)=some (.bool ((of.length:Int) != (u.vals.length:Int))):=by
  simp only [oB_some',pFA_ptr,lp0,lu2,H3.len (ii+2) hci,u3.v.len,hbin_neq,pOr_bool,Bool.not_true,Bool.false_or]
 have E2:∀b,pOr (.bool b) (oB (pFA 1 (.ptr lp 0)) fun v29=>oB (pLd v29 h3) fun v30=>hbin .lss 3 v30 (V.int .i64 0))=some (.bool (b || decide (slots<0))):=fun b=>by
  simp only [oB_some',pFA_ptr,lp1,hbin_lss,pOr_bool]
 have E3:∀b,pOr (.bool b) (oB (pFA 1 (.ptr lp 0)) fun v34=>oB (pLd v34 h3) fun v35=>hbin .gtr 3 v35 (V.int .i64 399))=some (.bool (b || decide (399<slots))):=fun b=>by
  simp only [oB_some',pFA_ptr,lp1,hbin_gtr,pOr_bool]
 refine oP_mk E1 (oP_mk (E2 _) (oP_mk (E3 _) (st_b ?_)))
 by_cases hc:of.length=u.vals.length∧0≤slots∧slots≤399
 rotate_left
 ·refine if_t ?_ (H F3 h3 false s03 H3.tail.tail (by simp) fun _=> .inl fun Out r=>hc ⟨r.len,r.s0,r.s1⟩)
  simp only [Bool.or_eq_true,bne_iff_ne,decide_eq_true_eq]
  omega
 obtain ⟨c1,c2,c3⟩:=hc
 refine if_f (by simp only [Bool.or_eq_true,bne_iff_ne,decide_eq_true_eq];omega) ?_
 refine oP_mk (pFA_ptr _ _ _) (oP_mk lp0 (oP_mk (H3.len (ii+2) hci) ?_))
 refine l_alloc_Right_L0 (fun k x2 x3 x39 x40 x41 h'=>∃i:Nat,x2 = .ptr lu 0∧x3 = .ptr lp 0∧x39=wof∧x40 = .int .i64 (of.length:Nat)∧x41 = .int .i64 (i:Nat)∧i+k=of.length∧h' = h3∧∀k∈of.take i,inPl slots k) ?_ (k:=of.length)
  ⟨0,rfl,rfl,rfl,rfl,rfl,by omega,rfl,by simp⟩
 rintro k x2 x3 x39 x40 x41 h' ⟨i,rfl,rfl,e39,rfl,rfl,hk,rfl,hall⟩
 subst x39
 unfold B_alloc_Right_L0
 by_cases hi:i<of.length
 ·refine st_lt (if_t (by omega) ?_)
  obtain ⟨y,hy⟩:∃y,of[i]? = some y:=⟨_,List.getElem?_eq_getElem hi⟩
  obtain ⟨l4,o4,p1,p2⟩:=H3.intR (ii+2) hci hy .i64
  have w16:wrapF .i64 (16+slots)=16+slots:=wrapF_in (by simp only [inK];omega)
  have E4:pOr (.bool (decide (y<0))) (oB (some (V.int .i64 y)) fun v48=>hbin .geq 3 v48 (V.int .i64 12))=some (.bool (decide (y<0) || decide (12≤y))):=by
   simp only [oB_some',hbin_geq,pOr_bool]
  have E5:pAnd (.bool (decide (y<0) || decide (12≤y))) (oB (some (V.int .i64 y)) fun v52=>oB (hbin .lss 3 v52 (V.int .i64 16)) fun v53=>oB (some v53) fun v54=>pOr v54 (oB (some (V.int .i64 y)) fun v55=>oB (pFA 1 (.ptr lp 0)) fun v56=>oB (pLd v56 h') fun v57=>oB (hbin .add 3 (V.int .i64 16) v57) fun v58=>hbin .geq 3 v55 v58)) =
    some (.bool ((decide (y<0) || decide (12≤y))&&(decide (y<16) || decide (16+slots≤y)))):=by
   simp only [oB_some',hbin_lss,pFA_ptr,lp1,hbin_add,w16,hbin_geq,pOr_bool,pAnd_bool]
  refine oP_mk p1 (oP_mk p2 (oP_mk (hbin_lss _ _ _ _) (oP_mk E4 (oP_mk E5 (st_b ?_)))))
  by_cases hp:inPl slots y
  ·unfold inPl at hp
   refine if_f (by simp only [Bool.or_eq_true,Bool.and_eq_true,decide_eq_true_eq];omega) ?_
   refine st_add (m:=1) (by omega) (by omega) ⟨k - 1,by omega,i+1,rfl,rfl,rfl,rfl,rfl,by omega,rfl,fun k' hk'=>?_⟩
   obtain ⟨_,rfl⟩:=List.getElem?_eq_some_iff.1 hy
   rw [List.take_succ_eq_append_getElem hi,List.mem_append,List.mem_singleton] at hk'
   rcases hk' with h1 | rfl
   ·exact hall k' h1
   ·exact hp
  ·refine if_t ?_ (H F3 h' false s03 H3.tail.tail (by simp) fun _=> .inl fun Out r=>hp (int_in r.pl hy))
   unfold inPl at hp
   simp only [Bool.or_eq_true,Bool.and_eq_true,decide_eq_true_eq]
   omega
 refine st_lt (if_f (by omega) ?_)
 obtain rfl:i=of.length:=by omega
 rw [List.take_length] at hall
 refine oP_mk (H3.ldA 1 rfl rfl) ?_
 refine ct_live g H3 u3 fun F4 h4 lv vin vout ins outs s4 H4 hsi hso hA=>?_
 obtain ⟨H5,s5,ri⟩:=H4.freezeR 0 rfl
 simp only [List.set_cons_zero] at H5
 obtain ⟨H6,s6,ro⟩:=H5.freezeR 1 rfl
 simp only [List.set_cons_succ,List.set_cons_zero] at H6
 have H6:=H6.tail.tail
 have s36:=(s4.trans s5).trans s6
 generalize (fun l=>(F4 l∨Loc vin l)∨Loc vout l)=F6 at *
 have u6:=u3.since s36
 have no:∀c i,¬PA u (inOf outs) of c i→(∀Out,¬RightP u Out of slots)∨∃In Out,Alive u (headIn u) In Out∧¬RightP u Out of slots:=fun c i hn=> .inr ⟨_,_,hA,fun r=>hn (r.pa c i)⟩
 refine oP_mk (pFA_ptr _ _ _) (oP_mk (H6.ld 2 rfl rfl) (oP_mk u6.b.len ?_))
 refine l_alloc_Right_L1 (fun k x3 x7 x66 x67 x68 h'=>∃(F' : Nat→Prop) (b:Nat),x3 = .ptr lp 0∧x7 = .ptr lv 0∧x66=vb∧x67 = .int .i64 (u.blocks.length:Nat)∧x68 = .int .i64 (b:Nat)∧b+k=u.blocks.length∧Sn F6 h4 F' h'∧
  Hold F' h' (cellP lv tyLiver [.int .i64 u.func, .int .i64 u.pc,vv,vb,vs,vin,vout]::cellP lp 44 [wof, .int .i64 slots]::cellP lu 29 (uC u vv vb vs)::cs)∧∀c i,c<b→PA u (inOf outs) of c i) ?_ (k:=u.blocks.length)
  ⟨F6,0,rfl,rfl,rfl,rfl,rfl,by omega,Sn.refl _ _,H6,fun _ _ h=>by omega⟩
 clear hk k
 rintro k x3 x7 x66 x67 x68 h7 ⟨F7,b,rfl,rfl,e66,rfl,rfl,hk,s7,H7,hpa⟩
 subst x66
 unfold B_alloc_Right_L1
 have u7:=u6.since s7
 by_cases hb:b<u.blocks.length
 rotate_left
 ·refine st_lt (if_f (by omega) (H F7 h7 true ((s03.trans s36).trans s7) H7.tail.tail.tail (fun _=>⟨_,_,hA,c1,c2,c3,hall,fun c i=>?_⟩) (by simp)))
  by_cases hc:c<b
  ·exact hpa c i hc
  ·exact ⟨fun v ⟨B,hB,_⟩=>absurd (List.getElem?_eq_some_iff.1 hB).1 (by omega),fun v ⟨B,hB,_⟩=>absurd (List.getElem?_eq_some_iff.1 hB).1 (by omega)⟩
 refine st_lt (if_t (by omega) ?_)
 obtain ⟨B,hB⟩:∃B,u.blocks[b]? = some B:=⟨_,List.getElem?_eq_getElem hb⟩
 have hbv:=good_vals g hB
 have hvo:valsOf u b=B.vals:=by unfold valsOf;rw [hB]
 obtain ⟨l8,o8,bv,bn,bp,_,i1,i2,iv,iN,ip,ba⟩:=u7.blk hB
 refine oP_mk i1 (oP_mk i2 ?_)
 refine st_copy H7 rfl rfl (by simp only [bkC,allOne_cons,iv.one,iN.one,ip.one];rfl) fun h8 H8 s8=>?_
 generalize h7.next=bx at *
 rw [alP_some]
 obtain ⟨H9,s9⟩:=H8.newM
 generalize h8.new (.map [] 0)=h9 at *
 generalize h8.next=mx at *
 have s79:=s8.trans s9
 have C9:Lk F7 h9 _ lv u vv vb vs vin vout:=⟨H9,⟨2,rfl⟩,u7.since s79⟩
 refine lv_behind g C9 (ro.since (s7.trans s79)) hso hB fun F10 h10 vo rs s10 H10 rrs hrl hrs=>?_
 refine oP_mk rrs.len ?_
 have s7A:=s79.trans s10
 refine l_alloc_Right_L2 (fun k x3 x7 x9 x10 x66 x67 x68 x76 x77 x78 h'=>∃(S:Int→Prop) (i:Nat),x3 = .ptr lp 0∧x7 = .ptr lv 0∧x9 = .ptr bx 0∧x10 = .map mx∧x66=vb∧x67 = .int .i64 (u.blocks.length:Nat)∧x68 = .int .i64 (b:Nat)∧x76=vo∧x77 = .int .i64 (rs.length:Nat)∧x78 = .int .i64 (i:Nat)∧i+k=B.vals.length∧Sn F10 h10 F10 h'∧
  Hold F10 h' (setP mx S::cellP bx 36 (bkC B bv bn bp)::cellP lv tyLiver [.int .i64 u.func, .int .i64 u.pc,vv,vb,vs,vin,vout]::cellP lp 44 [wof, .int .i64 slots]::cellP lu 29 (uC u vv vb vs)::cs)∧
  (∀k,S k↔∃j w,j<i∧At u w b j∧headB u w=true∧of[w]? = some k)∧∀j,j<i→PA u (inOf outs) of b j) ?_ (k:=B.vals.length)
  ⟨fun _=>False,0,rfl,rfl,rfl,rfl,rfl,rfl,rfl,rfl,rfl,rfl,by omega,Sn.refl _ _,H10,fun k=>⟨fun h=>h.elim,fun ⟨j,_,h,_⟩=>by omega⟩,fun _ h=>by omega⟩
 rintro k2 x3 x7 x9 x10 x66 x67 x68 x76 x77 x78 h11 ⟨S,i,rfl,rfl,rfl,rfl,e66,rfl,rfl,e76,rfl,rfl,hk2,s11,H11,hS,hpj⟩
 subst x66 x76
 unfold B_alloc_Right_L2
 have s7B:=s7A.trans s11
 by_cases hi:i<B.vals.length
 rotate_left
 ·refine st_lt (if_f (by omega) ?_)
  refine st_add (m:=1) (by omega) (by omega) ⟨k - 1,by omega,F10,b+1,rfl,rfl,rfl,rfl,rfl,by omega,s7.trans s7B,H11.tail.tail,fun c j hc=>?_⟩
  by_cases hcb:c<b
  ·exact hpa c j hcb
  obtain rfl:c=b:=by omega
  by_cases hj:j<i
  ·exact hpj j hj
  ·have:∀v,¬At u v c j:=fun v ⟨B',hB',hv⟩=>by
    rw [hB] at hB';cases hB'
    have:=(List.getElem?_eq_some_iff.1 hv).1
    omega
   exact ⟨fun v hv=>absurd hv (this v),fun v hv=>absurd hv (this v)⟩
 refine st_lt (if_t (by omega) ?_)
 obtain ⟨row,hrow⟩:∃r,rs[i]? = some r:=⟨_,List.getElem?_eq_getElem (by omega)⟩
 obtain ⟨hrowl,hrowb⟩:=hrs i row hrow
 obtain ⟨v,hv⟩:∃v,B.vals[i]? = some v:=⟨_,List.getElem?_eq_getElem hi⟩
 have hat:At u v b i:=⟨B,hB,hv⟩
 have hvl:=g.atlt _ _ _ hat
 obtain ⟨y,hy⟩:∃y,of[v]? = some y:=⟨_,List.getElem?_eq_getElem (by omega)⟩
 obtain ⟨lr,or_,wr,_,r1,r2,r3⟩:=(rrs.since s11).list hrow .i64
 obtain ⟨lq,oq,_,q1,q2⟩:=(iv.since s7B).nat hv .i64
 obtain ⟨lo,oo,y1,y2⟩:=H11.intR (ii+5) hci hy .i64
 have C11:Lk F10 h11 _ lv u vv vb vs vin vout:=⟨H11,⟨2,rfl⟩,u7.since s7B⟩
 have lp0' : pLd (.ptr lp (0+0)) h11=some wof:=H11.ld 3 rfl rfl
 refine oP_mk r1 (oP_mk r2 (oP_mk (pFA_ptr _ _ _) (oP_mk (H11.ld 1 rfl rfl) (oP_mk q1 (oP_mk q2 ?_)))))
 refine lv_head C11 hvl ?_
 obtain ⟨bk_,hlk,hbk⟩:=H11.look 0 rfl y
 have E6:pAnd (.bool (headB u v)) (oB (some (V.map mx)) fun v92=>oB (pFA 0 (.ptr lp 0)) fun v93=>oB (pLd v93 h11) fun v94=>oB (some (V.int .i64 (v:Nat))) fun v95=>oB (pIx 1 v94 v95) fun v96=>oB (pLd v96 h11) fun v97=>pLook 3 none (V.bool false) false v92 v97 h11)=some (.bool (headB u v&&bk_)):=by
  have hlk' : pLook 3 none (.bool false) false (.map mx) (.int .i64 y) h11=some (.bool bk_):=hlk
  simp only [oB_some',pFA_ptr,lp0',y1,y2,hlk',pAnd_bool]
 refine oP_mk E6 (st_b ?_)
 by_cases hbad:(headB u v&&bk_)=true
 ·rw [Bool.and_eq_true] at hbad
  refine if_t (by simp [hbad]) (H F10 h11 false ((s03.trans s36).trans (s7.trans s7B)) H11.tail.tail.tail.tail.tail (by simp) fun _=>no b i fun p=>?_)
  obtain ⟨j,w,h1,h2,h3,h4⟩:=(hS y).1 (hbk.1 hbad.2)
  exact p.hd v hat hbad.1 j w h1 h2 h3 (h4.trans hy.symm)
 refine if_f hbad ?_
 have hok:headB u v=true→∀j w,j<i→At u w b j→headB u w=true→of[w]?≠of[v]?:=fun hq j w h1 h2 h3 h4=>hbad (by
  rw [Bool.and_eq_true]
  exact ⟨hq,hbk.2 ((hS y).2 ⟨j,w,h1,h2,h3,h4.trans hy⟩)⟩)
 have fin:∀(h12:Hp) (S' : Int→Prop),Sn F10 h10 F10 h12→Hold F10 h12 (setP mx S'::cellP bx 36 (bkC B bv bn bp)::cellP lv tyLiver [.int .i64 u.func, .int .i64 u.pc,vv,vb,vs,vin,vout]::cellP lp 44 [wof, .int .i64 slots]::cellP lu 29 (uC u vv vb vs)::cs)→
   (∀k,S' k↔∃j w,j<i+1∧At u w b j∧headB u w=true∧of[w]? = some k)→
   J_alloc_Right_R31 CS Q (fun x3 x7 x66 x67 x68 h'=>∃k',k' < k∧∃(F' : Nat→Prop) (b:Nat),x3 = .ptr lp 0∧x7 = .ptr lv 0∧x66=vb∧x67 = .int .i64 (u.blocks.length:Nat)∧x68 = .int .i64 (b:Nat)∧b+k' = u.blocks.length∧Sn F6 h4 F' h'∧
    Hold F' h' (cellP lv tyLiver [.int .i64 u.func, .int .i64 u.pc,vv,vb,vs,vin,vout]::cellP lp 44 [wof, .int .i64 slots]::cellP lu 29 (uC u vv vb vs)::cs)∧∀c i,c<b→PA u (inOf outs) of c i)
    (fun x3 x7 x9 x10 x66 x67 x68 x76 x77 x78 h'=>∃k',k' < k2∧∃(S:Int→Prop) (i:Nat),x3 = .ptr lp 0∧x7 = .ptr lv 0∧x9 = .ptr bx 0∧x10 = .map mx∧x66=vb∧x67 = .int .i64 (u.blocks.length:Nat)∧x68 = .int .i64 (b:Nat)∧x76=vo∧x77 = .int .i64 (rs.length:Nat)∧x78 = .int .i64 (i:Nat)∧i+k' = B.vals.length∧Sn F10 h10 F10 h'∧
     Hold F10 h' (setP mx S::cellP bx 36 (bkC B bv bn bp)::cellP lv tyLiver [.int .i64 u.func, .int .i64 u.pc,vv,vb,vs,vin,vout]::cellP lp 44 [wof, .int .i64 slots]::cellP lu 29 (uC u vv vb vs)::cs)∧
     (∀k,S k↔∃j w,j<i∧At u w b j∧headB u w=true∧of[w]? = some k)∧∀j,j<i→PA u (inOf outs) of b j)
    (.ptr lp 0) (.ptr lv 0) (.ptr bx 0) (.map mx) wr (.int .i64 (v:Nat)) vb (.int .i64 (u.blocks.length:Nat)) (.int .i64 (b:Nat)) vo (.int .i64 (rs.length:Nat)) (.int .i64 (i:Nat)) h12:=by
  intro h12 S' s12 H12 hS'
  refine j_alloc_Right_R31 ?_
  unfold B_alloc_Right_R31
  have r12:=(rrs.since s12).list hrow .i64
  obtain ⟨lr',or',wr',_,r1',r2',r3'⟩:=r12
  have rw_:SlR eB F10 h12 row wr:=by
   have e1:=(rrs.since s12).list hrow .i64
   obtain ⟨a,b',c,d1,d2,d3,d4⟩:=e1
   have hp:pIx 1 vo (.int .i64 (i:Nat))=some (.ptr lr or_):=r1
   rw [hp] at d2
   cases d2
   have:pLd (.ptr lr or_) h12=pLd (.ptr lr or_) h11:=by
    rw [show pLd (.ptr lr or_) h12=pLd (.ptr lr or_) h10 from ?_,show pLd (.ptr lr or_) h11=pLd (.ptr lr or_) h10 from ?_]
    ·unfold pLd ld1 cellsAt
     simp only [asPtr_ptr,s11.keep _ d1]
    ·unfold pLd ld1 cellsAt
     simp only [asPtr_ptr,s12.keep _ d1]
   rw [d3,r2] at this
   cases this
   exact d4
  refine oP_mk rw_.len ?_
  rw [hrowl]
  have lp0'' : pLd (.ptr lp (0+0)) h12=some wof:=H12.ld 3 rfl rfl
  obtain ⟨lo',oo',y1',y2'⟩:=H12.intR (ii+5) hci hy .i64
  refine l_alloc_Right_L3 (fun k x3 x7 x9 x10 x13 x66 x67 x68 x76 x77 x78 x109 x110 x111 h'=>∃w:Nat,x3 = .ptr lp 0∧x7 = .ptr lv 0∧x9 = .ptr bx 0∧x10 = .map mx∧x13 = .int .i64 (v:Nat)∧x66=vb∧x67 = .int .i64 (u.blocks.length:Nat)∧x68 = .int .i64 (b:Nat)∧x76=vo∧x77 = .int .i64 (rs.length:Nat)∧x78 = .int .i64 (i:Nat)∧x109=wr∧x110 = .int .i64 (u.vals.length:Nat)∧x111 = .int .i64 (w:Nat)∧w+k=u.vals.length∧h' = h12∧
   ∀w',w' < w→On row w'→w'≠v→of[w']?≠of[v]?) ?_ (k:=u.vals.length)
   ⟨0,rfl,rfl,rfl,rfl,rfl,rfl,rfl,rfl,rfl,rfl,rfl,rfl,rfl,rfl,by omega,rfl,fun _ h=>by omega⟩
  rintro k3 x3 x7 x9 x10 x13 x66 x67 x68 x76 x77 x78 x109 x110 x111 h' ⟨w,rfl,rfl,rfl,rfl,rfl,e66,rfl,rfl,e76,rfl,rfl,e109,rfl,rfl,hk3,rfl,hw⟩
  subst x66 x76 x109
  unfold B_alloc_Right_L3
  by_cases hwl:w<u.vals.length
  rotate_left
  ·refine st_lt (if_f (by omega) ?_)
   refine st_add (m:=1) (by omega) (by omega) ⟨k2 - 1,by omega,S',i+1,rfl,rfl,rfl,rfl,rfl,rfl,rfl,rfl,rfl,rfl,by omega,s12,H12,hS',fun j hj=>?_⟩
   by_cases hji:j<i
   ·exact hpj j hji
   obtain rfl:j=i:=by omega
   refine ⟨fun v' hv'=>?_,fun v' hv' w' hw' hb'=>?_⟩
   ·obtain ⟨B',hB',hv'⟩:=hv'
    rw [hB] at hB';cases hB'
    rw [hv] at hv';cases hv'
    exact hok
   ·obtain ⟨B',hB',hv'⟩:=hv'
    rw [hB] at hB';cases hB'
    rw [hv] at hv';cases hv'
    rw [hvo] at hb'
    exact hw w' (by omega) ((hrowb w').2 hb')
  refine st_lt (if_t (by omega) ?_)
  obtain ⟨z,hz⟩:∃z,row[w]? = some z:=⟨_,List.getElem?_eq_getElem (by omega)⟩
  obtain ⟨yw,hyw⟩:∃y,of[w]? = some y:=⟨_,List.getElem?_eq_getElem (by omega)⟩
  obtain ⟨lz,oz,_,z1,z2⟩:=rw_.bool hz .i64
  obtain ⟨lw,ow,w1,w2⟩:=H12.intR (ii+5) hci hyw .i64
  have E7:pAnd (.bool z) (oB (some (V.int .i64 (w:Nat))) fun v118=>oB (some (V.int .i64 (v:Nat))) fun v119=>hbin .neq 3 v118 v119)=some (.bool (z&&((w:Int) != (v:Int)))):=by
   simp only [oB_some',hbin_neq,pAnd_bool]
  have E8:pAnd (.bool (z&&((w:Int) != (v:Int)))) (oB (pFA 0 (.ptr lp 0)) fun v123=>oB (pLd v123 h') fun v124=>oB (some (V.int .i64 (w:Nat))) fun v125=>oB (pIx 1 v124 v125) fun v126=>oB (pLd v126 h') fun v127=>oB (pFA 0 (.ptr lp 0)) fun v128=>oB (pLd v128 h') fun v129=>oB (some (V.int .i64 (v:Nat))) fun v130=>oB (pIx 1 v129 v130) fun v131=>oB (pLd v131 h') fun v132=>hbin .eql 3 v127 v132)=some (.bool ((z&&((w:Int) != (v:Int)))&&(yw == y))):=by
   simp only [oB_some',pFA_ptr,lp0'',w1,w2,y1',y2',hbin_eql,pAnd_bool]
  refine oP_mk z1 (oP_mk z2 (oP_mk E7 (oP_mk E8 (st_b ?_))))
  by_cases hx:(z&&((w:Int) != (v:Int))&&(yw == y))=true
  ·refine if_t hx (H F10 h' false ((s03.trans s36).trans ((s7.trans s7A).trans s12)) H12.tail.tail.tail.tail.tail (by simp) fun _=>no b i fun p=>?_)
   simp only [Bool.and_eq_true,bne_iff_ne,beq_iff_eq] at hx
   obtain ⟨⟨x1,x2⟩,x3⟩:=hx
   refine p.ap v hat w hwl (by rw [hvo];exact (hrowb w).1 (by unfold On;rw [hz,x1])) (by omega) ?_
   rw [hyw,hy,x3]
  ·refine if_f hx ?_
   refine st_add (m:=1) (by omega) (by omega) ⟨k3 - 1,by omega,w+1,rfl,rfl,rfl,rfl,rfl,rfl,rfl,rfl,rfl,rfl,rfl,rfl,rfl,rfl,by omega,rfl,fun w' h1 h2 h3 h4=>?_⟩
   by_cases hww:w' < w
   ·exact hw w' hww h2 h3 h4
   obtain rfl:w' = w:=by omega
   apply hx
   have e1:z=true:=by
    unfold On at h2
    rw [hz] at h2
    exact Option.some.inj h2
   have e2:yw=y:=by rw [hyw,hy] at h4;exact Option.some.inj h4
   have e3:((w' : Int) != (v:Int))=true:=by rw [bne_iff_ne];omega
   rw [e1,e2,e3,beq_self_eq_true]
   rfl
 refine lv_head C11 hvl ?_
 cases hq:headB u v with
 | true =>
   refine st_b (if_t rfl ?_)
   obtain ⟨h12, e12, n12, H12, s12⟩ := H11.putK 0 rfl y
   have e12' : hput 3 none (.map mx) (.int .i64 y) (.bool true) h11 = some (.val .undef h12) := e12
   refine oP_mk (pFA_ptr _ _ _) (oP_mk lp0' (oP_mk y1 (oP_mk y2 ?_)))
   rw [e12', valP_some]
   simp only [List.set_cons_zero] at H12
   refine fin h12 _ (s11.trans s12) H12 fun k' => ?_
   rw [hS k']
   constructor
   · rintro (⟨j, w, h1, h2⟩ | rfl)
     · exact ⟨j, w, by omega, h2⟩
     · exact ⟨i, v, by omega, hat, hq, hy⟩
   · rintro ⟨j, w, h1, h2, h3, h4⟩
     by_cases hj : j < i
     · exact .inl ⟨j, w, hj, h2, h3, h4⟩
     · obtain rfl : j = i := by omega
       obtain ⟨B', hB', hv'⟩ := h2
       rw [hB] at hB'; cases hB'
       rw [hv] at hv'; cases hv'
       rw [hy] at h4
       exact .inr (Option.some.inj h4).symm
 | false =>
   refine st_b (if_f (by simp) ?_)
   refine fin h11 _ s11 H11 fun k' => ?_
   rw [hS k']
   constructor
   · rintro ⟨j, w, h1, h2⟩
     exact ⟨j, w, by omega, h2⟩
   · rintro ⟨j, w, h1, h2, h3, h4⟩
     by_cases hj : j < i
     · exact ⟨j, w, hj, h2, h3, h4⟩
     · obtain rfl : j = i := by omega
       obtain ⟨B', hB', hv'⟩ := h2
       rw [hB] at hB'; cases hB'
       rw [hv] at hv'; cases hv'
       rw [hq] at h3
       cases h3
end
end Go.Proofs.YtiepamfpilhcjaaDoor.Hx
namespace Go.Proofs.YtiepamfpilhcjaaDoor.Hx
open Go.Proofs.YtiepamfpilhcjaaDoor.Un Go.Proofs.YtiepamfpilhcjaaDoor.Dm
section
variable {u:U} {P:Nat→Prop} {w:Nat}
theorem bh_cons_keep {v:Nat}{r:List Nat}(h:bh u r P w)(hn:w≠v):bh u (v::r) P w:=by
 unfold bh
 split
 ·exact h
 ·exact .inl ⟨h,hn⟩
theorem bh_heads:∀{l d:List Nat},(∀x∈l,headB u x=true)→(bh u (l++d) P w↔bh u d P w)
 | [],_,_=>Iff.rfl
 | v :: l, d, h => by
   show (if headB u v = true then _ else _) ↔ _
   rw [if_pos (h v (by simp))]
   exact bh_heads fun x hx => h x (by simp [hx])
theorem bh_drop {l:List Nat}{j:Nat} : ∀{m:Nat},j<m→bh u (l.drop m) P w→(∀n,j<n→n<m→l[n]?≠some w)→bh u (l.drop (j+1)) P w
 | 0,h,_,_=>by omega
 | m + 1, h, hb, hn => by
   by_cases e : j = m
   · subst e; exact hb
   · refine bh_drop (m := m) (by omega) ?_ fun n h1 h2 => hn n h1 (by omega)
     by_cases hm : m < l.length
     · rw [List.drop_eq_getElem_cons hm]
       exact bh_cons_keep hb fun e => hn m (by omega) (by omega) (by rw [List.getElem?_eq_getElem hm, e])
     · rw [List.drop_eq_nil_of_le (by omega)] at hb ⊢
       exact hb
theorem bk_bh:∀{n:Nat}{l d:List Nat},l.length=n→l.reverse.Pairwise (fun a b=>headB u a=true→headB u b=true)→(bk u l.reverse (bh u d P) w↔bh u (l++d) P w)
 | 0, l, d, hl, _ => by
   obtain rfl := List.eq_nil_of_length_eq_zero hl
   exact Iff.rfl
 | n + 1, l, d, hl, hp => by
   rcases eq_nil_or_snoc l with rfl | ⟨s, v, rfl⟩
   · simp at hl
   · rw [List.reverse_append] at hp ⊢
     simp only [List.reverse_cons, List.reverse_nil, List.nil_append, List.singleton_append] at hp ⊢
     rw [List.pairwise_cons] at hp
     cases hq : headB u v with
     | true =>
       have e1 : bk u (v :: s.reverse) (bh u d P) w = bh u d P w := by
         unfold bk
         rw [if_pos hq]
       rw [e1]
       refine (bh_heads fun x hx => ?_).symm
       rcases List.mem_append.1 hx with h | h
       · exact hp.1 x (List.mem_reverse.2 h) hq
       · rw [List.mem_singleton.1 h]; exact hq
     | false =>
       have e1 : bk u (v :: s.reverse) (bh u d P) w = bk u s.reverse (bh u (v :: d) P) w := by
         conv => lhs; unfold bk
         rw [if_neg (by rw [hq]; simp)]
         congr 1
         funext x
         conv => rhs; unfold bh
         rw [if_neg (by rw [hq]; simp)]
       rw [e1, bk_bh (n := n) (l := s) (by simpa using hl) hp.2, List.append_assoc]
       rfl
end
section
variable {u:U} (g:Good u) {In Out:Nat→Nat→Prop} (h:Alive u (headIn u) In Out) {of:List Int} (pa:∀c i,PA u Out of c i) {w1 w2:Nat} (hne:w1≠w2) (heq:of[w1]? = of[w2]?)
include pa hne heq
theorem apart1 {b m j1:Nat}(h1:At u w1 b j1)(hj:j1<m)(p2:bh u ((valsOf u b).drop m) (Out b) w2)(hw2:w2<u.vals.length)(h2:∀j,At u w2 b j→j<j1):False:=by
 refine (pa b j1).ap w1 h1 w2 hw2 (bh_drop hj p2 fun n h3 _ h5=>?_) hne.symm heq.symm
 have:=h2 n (valsOf_get.1 h5)
 omega
include g in
theorem apart2 {b m:Nat}(hw1:w1<u.vals.length)(hw2:w2<u.vals.length)(p1:bh u ((valsOf u b).drop m) (Out b) w1)(p2:bh u ((valsOf u b).drop m) (Out b) w2)(l1:∀j,At u w1 b j→j<m)(l2:∀j,At u w2 b j→j<m)
  (hin:(∃j,At u w1 b j)∨∃j,At u w2 b j):False:=by
 by_cases c1:∃j,At u w1 b j
 ·obtain ⟨j1,h1⟩:=c1
  by_cases c2:∃j,At u w2 b j
  ·obtain ⟨j2,h2⟩:=c2
   have:j1≠j2:=fun e=>by
    subst e
    obtain ⟨B,hB,hv⟩:=h1
    obtain ⟨B',hB',hv'⟩:=h2
    rw [hB] at hB';cases hB'
    rw [hv] at hv'
    exact hne (Option.some.inj hv')
   by_cases hlt:j2<j1
   ·exact apart1 pa hne heq h1 (l1 _ h1) p2 hw2 fun j hj=>by rw [(g.at2 _ _ _ _ _ hj h2).2];exact hlt
   ·exact apart1 pa hne.symm heq.symm h2 (l2 _ h2) p1 hw1 fun j hj=>by rw [(g.at2 _ _ _ _ _ hj h1).2];omega
  ·exact apart1 pa hne heq h1 (l1 _ h1) p2 hw2 fun j hj=>absurd ⟨j,hj⟩ c2
 ·obtain ⟨j2,h2⟩:=hin.resolve_left c1
  exact apart1 pa hne.symm heq.symm h2 (l2 _ h2) p1 hw1 fun j hj=>absurd ⟨j,hj⟩ c1
include g h
omit hne heq pa in
theorem in_bh {b w:Nat}(hb:b<u.blocks.length):In b w↔bh u (valsOf u b) (Out b) w:=by
 rw [h.inn b w hb]
 have:=bk_bh (u:=u) (P:=Out b) (w:=w) (l:=valsOf u b) (d:=[]) rfl (g.pw b)
 rw [List.append_nil] at this
 exact this
theorem apartIn (hw1:w1<u.vals.length)(hw2:w2<u.vals.length):∀{b l},Pt (next u) b l→b<u.blocks.length→In b w1→In b w2→False:=by
 have both:∀{b:Nat},b<u.blocks.length→In b w1→In b w2→((∃j,At u w1 b j)∨∃j,At u w2 b j)→False:=by
  intro b hb i1 i2 hin
  have e:∀{w w' j:Nat},w≠w'→of[w]? = of[w']?→w' < u.vals.length→In b w→In b w'→At u w b j→(∀j',At u w' b j'→j' < j)→False:=by
   intro w w' j hn he hl a1 a2 hat hlt
   obtain ⟨c,j',h1,h2,h3⟩:=g.above h a1
   obtain ⟨rfl,rfl⟩:=g.at2 _ _ _ _ _ hat h1
   have hh:=h3 rfl
   refine (pa b j).ap w hat w' hl ?_ hn.symm he.symm
   have h4:=(in_bh g h hb).1 a2
   rw [←List.take_append_drop (j+1) (valsOf u b)] at h4
   refine (bh_heads fun x hx=>?_).1 h4
   obtain ⟨n,hn,rfl⟩:=List.mem_iff_getElem.1 hx
   rw [List.length_take] at hn
   rw [List.getElem_take]
   exact g.headsUp hat hh (valsOf_get.1 (List.getElem?_eq_getElem (show n<(valsOf u b).length by omega))) (by omega)
  by_cases c1:∃j,At u w1 b j
  ·obtain ⟨j1,h1⟩:=c1
   by_cases c2:∃j,At u w2 b j
   ·obtain ⟨j2,h2⟩:=c2
    have:j1≠j2:=fun e=>by
     subst e
     obtain ⟨B,hB,hv⟩:=h1
     obtain ⟨B',hB',hv'⟩:=h2
     rw [hB] at hB';cases hB'
     rw [hv] at hv'
     exact hne (Option.some.inj hv')
    by_cases hlt:j2<j1
    ·exact e hne heq hw2 i1 i2 h1 fun j hj=>by rw [(g.at2 _ _ _ _ _ hj h2).2];exact hlt
    ·exact e hne.symm heq.symm hw1 i2 i1 h2 fun j hj=>by rw [(g.at2 _ _ _ _ _ hj h1).2];omega
   ·exact e hne heq hw2 i1 i2 h1 fun j hj=>absurd ⟨j,hj⟩ c2
  ·obtain ⟨j2,h2⟩:=hin.resolve_left c1
   exact e hne.symm heq.symm hw1 i2 i1 h2 fun j hj=>absurd ⟨j,hj⟩ c1
 intro b l hp
 induction hp with
 | nil =>
   intro hb i1 i2
   obtain ⟨c, j, h1, h2, _⟩ := g.above h i1
   have := h2 _ .nil
   obtain rfl : c = 0 := by simpa using this
   exact both hb i1 i2 (.inl ⟨j, h1⟩)
 | @step p b l hp e ih =>
   intro hb i1 i2
   by_cases hin : (∃ j, At u w1 b j) ∨ ∃ j, At u w2 b j
   · exact both hb i1 i2 hin
   obtain ⟨c1, j1, a1, _, _⟩ := g.above h i1
   obtain ⟨c2, j2, a2, _, _⟩ := g.above h i2
   have n1 : c1 ≠ b := fun e => hin (.inl ⟨j1, e ▸ a1⟩)
   have n2 : c2 ≠ b := fun e => hin (.inr ⟨j2, e ▸ a2⟩)
   have o1 := g.inOut h e i1 a1 (.inl n1)
   have o2 := g.inOut h e i2 a2 (.inl n2)
   have hpl := (g.nextLt e).1
   have dl : ∀ w, Out p w → bh u ((valsOf u p).drop (valsOf u p).length) (Out p) w := fun w hw => by rw [List.drop_length]; exact hw
   have lt : ∀ w j, At u w p j → j < (valsOf u p).length := fun w j hj => (List.getElem?_eq_some_iff.1 (valsOf_get.2 hj)).1
   by_cases hip : (∃ j, At u w1 p j) ∨ ∃ j, At u w2 p j
   · exact apart2 g pa hne heq hw1 hw2 (dl _ o1) (dl _ o2) (lt w1) (lt w2) hip
   · exact ih hpl (g.outIn h hpl o1 a1 fun e => hip (.inl ⟨j1, e ▸ a1⟩)) (g.outIn h hpl o2 a2 fun e => hip (.inr ⟨j2, e ▸ a2⟩))
theorem apartUse {k b i:Nat}{x:Vl}(hat:At u k b i)(hx:u.vals[k]? = some x)(hop:x.op≠21)(u1:w1∈uses x)(u2:w2∈uses x):False:=by
 have hb:b<u.blocks.length:=by obtain ⟨B,h1,_⟩:=hat;exact (List.getElem?_eq_some_iff.1 h1).1
 have hw1:=gives_lt (g.use k x hx w1 u1)
 have hw2:=gives_lt (g.use k x hx w2 u2)
 have hnh:headB u k≠true:=by
  unfold headB
  rw [hx]
  show ¬isHead x.op=true
  unfold isHead
  rw [Bool.or_eq_true,beq_iff_eq,beq_iff_eq]
  rintro (e | e)
  ·unfold uses at u1
   rw [e] at u1
   simp [two,oneP] at u1
  ·exact hop e
 have hp:∀w,w∈uses x→bh u ((valsOf u b).drop i) (Out b) w:=fun w hw=>by
  have hi:=List.getElem?_eq_some_iff.1 (valsOf_get.2 hat)
  obtain ⟨hi,he⟩:=hi
  rw [List.drop_eq_getElem_cons hi,he]
  unfold bh
  rw [if_neg hnh]
  refine .inr ?_
  unfold takes
  rw [hx]
  simp [hw]
 have hlt:∀w,w∈uses x→∀j,At u w b j→j<i:=fun w hw j hj=>by
  obtain ⟨c,j',h1,h2⟩:=g.seesV k b i x hat hx hop w hw
  obtain ⟨rfl,rfl⟩:=g.at2 _ _ _ _ _ hj h1
  rcases h2 with h2 | h2
  ·exact h2.2
  ·exact absurd rfl h2.1
 by_cases hin:(∃j,At u w1 b j)∨∃j,At u w2 b j
 ·exact apart2 g pa hne heq hw1 hw2 (hp _ u1) (hp _ u2) (hlt _ u1) (hlt _ u2) hin
 ·obtain ⟨c1,j1,a1⟩:=g.at1 w1 hw1
  obtain ⟨c2,j2,a2⟩:=g.at1 w2 hw2
  obtain ⟨l,hl⟩:=g.reach b hb
  exact apartIn g h pa hne heq hw1 hw2 hl hb (g.useIn h hat hx hop u1 a1 fun e=>hin (.inl ⟨j1,e▸a1⟩)) (g.useIn h hat hx hop u2 a2 fun e=>hin (.inr ⟨j2,e▸a2⟩))
end
theorem own_right {u:U}(g:Good u){Out:Nat→Nat→Prop}(hn:u.vals.length≤399):RightP u Out ((List.range u.vals.length).map fun i=>(16:Int)+(i:Nat)) (u.vals.length:Nat):=by
 have get:∀w,w<u.vals.length→((List.range u.vals.length).map fun i=>(16:Int)+(i:Nat))[w]? = some (16+(w:Nat)):=fun w hw=>by
  rw [List.getElem?_map,List.getElem?_range hw];rfl
 have inj:∀v w,v<u.vals.length→w<u.vals.length→w≠v→((List.range u.vals.length).map fun i=>(16:Int)+(i:Nat))[w]?≠((List.range u.vals.length).map fun i=>(16:Int)+(i:Nat))[v]?:=fun v w hv hw hne e=>by
  rw [get v hv,get w hw] at e
  have:=Option.some.inj e
  omega
 refine ⟨by simp,by omega,by omega,fun k hk=>?_,fun c i=>⟨fun v hv _ j w hj hw _=>?_,fun v hv w hw _ hne=>?_⟩⟩
 ·obtain ⟨i,hi,rfl⟩:=List.mem_map.1 hk
  rw [List.mem_range] at hi
  unfold inPl
  omega
 ·refine inj v w (g.atlt _ _ _ hv) (g.atlt _ _ _ hw) fun e=>?_
  subst e
  have:=(g.at2 _ _ _ _ _ hv hw).2
  omega
 ·exact inj v w (g.atlt _ _ _ hv) hw hne
end Go.Proofs.YtiepamfpilhcjaaDoor.Hx
namespace Go.Proofs.YtiepamfpilhcjaaDoor.Hx
open Go.Proofs.YtiepamfpilhcjaaDoor.Un Go.Proofs.YtiepamfpilhcjaaDoor.Dm
section
variable {F F' : Nat→Prop} {h h' : Hp} {cs:List Pc} {Q:QP1}
theorem ct_knownN (H:Q (.bool true) h):cP CS n_turnstonelaw24_known [] h Q:=by
 obtain ⟨fn,c,hf,hb⟩:=bodyKnown
 exact cP.known hf hb (show CS.K n_turnstonelaw24_known [] h=some (.bool true) from rfl) rfl rfl H
def fromFirst (n:Nat):List Int:=(List.range n).map fun i=>(16:Int)+(i:Nat)
theorem fromFirst_succ (n:Nat):fromFirst (n+1)=fromFirst n++[(16:Int)+(n:Nat)]:=by
 unfold fromFirst
 rw [List.range_succ,List.map_append]
 rfl
theorem fromFirst_len (n:Nat):(fromFirst n).length=n:=by unfold fromFirst;simp
theorem ct_AllocApart {ops shape:List Int}{np a:Int}{vo vsh:V}(H0:Hold F h cs)(hvo:SlR (eI .i64) F h ops vo)(hvs:SlR (eI .i64) F h shape vsh)(ho:ops.length<9223372036854775808)(H:∀h',Q (.bool true) h') :
  cP CS n_turnstonelaw24_AllocApart [.agg [vo,vsh, .int .i64 np], .int .i64 a] h Q:=by
 refine c_turnstonelaw24_AllocApart rfl rfl ?_
 unfold B_turnstonelaw24_AllocApart
 refine st_box H0 (by simp only [allOne_cons,hvo.one,hvs.one];rfl) fun h1 H1 s1=>?_
 refine oP_mk (H1.ldA 0 rfl rfl) ?_
 refine ct_Unit H1 (hvo.since s1) (hvs.since s1) ho fun F2 h2 w s2 H2 hw=>?_
 have g:Good (unitM ops shape np):=unit_good ops shape np
 have sz:=unit_sz ops shape np
 generalize unitM ops shape np=u at *
 obtain ⟨vv,vb,vs,rfl,w1,w2,w3⟩:=hw
 have u2:URd F2 h2 u vv vb vs:=⟨w1,w2,w3⟩
 have nv:=g.nv
 refine st_copy H2 rfl rfl u2.one fun h3 H3 s3=>?_
 have u3:=u2.since s3
 generalize h2.next=lu at *
 refine oP_mk (pFA_ptr _ _ _) (oP_mk (H3.ld 0 rfl rfl) (oP_mk u3.v.len ?_))
 refine oP_mk (show _=some (V.agg [.nilSlice, .int .i64 (u.vals.length:Nat)]) from rfl) ?_
 refine st_copy H3 rfl rfl rfl fun h4 H4 s4=>?_
 have u4:=u3.since s4
 generalize h3.next=lp at *
 have H4:Hold F2 h4 (rowP eZ tyInt [] .nilSlice::cellP lp 44 [.nilSlice, .int .i64 (u.vals.length:Nat)]::cellP lu 29 (uC u vv vb vs)::_):=H4.add (p:=rowP eZ tyInt [] .nilSlice) .nil fun _ h=>h
 refine l_turnstonelaw24_AllocApart_L0 (fun k x1 x5 x6 x7 h'=>∃(i:Nat) (wof:V),x1 = .int .i64 a∧x5 = .ptr lu 0∧x6 = .ptr lp 0∧x7 = .int .i64 (i:Nat)∧i+k=u.vals.length∧Sn F2 h4 F2 h'∧
  Hold F2 h' (rowP eZ tyInt (fromFirst i) wof::cellP lp 44 [wof, .int .i64 (u.vals.length:Nat)]::cellP lu 29 (uC u vv vb vs)::cellP h.next 24 [vo,vsh, .int .i64 np]::cs)) ?_ (k:=u.vals.length)
  ⟨0, .nilSlice,rfl,rfl,rfl,rfl,by omega,Sn.refl _ _,H4⟩
 rintro k x1 x5 x6 x7 h5 ⟨i,wof,rfl,rfl,rfl,rfl,hk,s5,H5⟩
 unfold B_turnstonelaw24_AllocApart_L0
 have u5:=u4.since s5
 have lu2:pLd (.ptr lu (0+2)) h5=some vv:=H5.ld 2 rfl rfl
 refine oP_mk (pFA_ptr _ _ _) (oP_mk lu2 (oP_mk u5.v.len ?_))
 by_cases hi:i<u.vals.length
 ·refine st_lt (if_t (by omega) ?_)
  refine oP_mk (pFA_ptr _ _ _) (oP_mk (H5.ld 1 rfl rfl) ?_)
  refine st_add (n:=16) (m:=i) (by omega) (by omega) ?_
  rw [show ((16+i:Nat):Int)=(16:Int)+(i:Nat) by omega]
  rw [pBS_one rfl rfl,alP_some]
  obtain ⟨v6,h6,e6,n6,H6,s6⟩:=H5.app1 0 rfl (by_:=8) (ety:=3) (y:=(16:Int)+(i:Nat)) (w:=[.int .i64 ((16:Int)+(i:Nat))]) (ro:=false) rfl (by decide) (by decide) (by rw [fromFirst_len];omega)
  have e6' : happend 3 1 8 wof (.slice h5.next 0 1) (h5.new (.cells 3 1 true false [V.int .i64 ((16:Int)+(i:Nat))]))=some (.val v6 h6):=e6
  rw [e6',valP_some]
  simp only [List.set_cons_zero] at H6
  obtain ⟨h7,e7,n7,H7,s7⟩:=H6.st 1 (o:=0) (u:=v6) rfl (Nat.zero_lt_succ _) (H6.one 0 rfl)
  refine oP_mk (pFA_ptr _ _ _) ?_
  have e7' : pSt 1 (.ptr lp (0+0)) v6 h6=some (.val .undef h7):=e7
  rw [e7',valP_some]
  simp only [List.set_cons_zero,List.set_cons_succ] at H7
  refine st_add (m:=1) (by omega) (by omega) ⟨k - 1,by omega,i+1,v6,rfl,rfl,rfl,rfl,by omega,(s5.trans s6).trans s7,?_⟩
  rw [fromFirst_succ]
  exact H7
 refine st_lt (if_f (by omega) ?_)
 obtain rfl:i=u.vals.length:=by omega
 refine ct_knownN ?_
 refine st_notv ?_
 refine gd_ff (oP_mk (H5.ldA 2 rfl rfl) (gd_ff (oP_mk (H5.ldA 1 rfl rfl) (gc_ff ?_))))
 refine ct_Right g H5 u5 (ii:=0) rfl (by rw [fromFirst_len];omega) fun F6 h6 c s6 H6 hc1 hc2=>?_
 obtain rfl:c=true:=by
  cases c with
  | true=>rfl
  | false =>
    rcases hc2 rfl with h | ⟨In, Out, _, h⟩
    · exact absurd (own_right g (Out := fun _ _ => True) (by omega)) (h _)
    · exact absurd (own_right g (Out := Out) (by omega)) h
 have u6:=u5.since s6
 refine oP_mk (show _=some (V.bool false) from rfl) (st_b (if_f (by simp) ?_))
 have l2:pLd (.ptr lu (0+2)) h6=some vv:=H6.ld 2 rfl rfl
 have q0:pLd (.ptr lp (0+0)) h6=some wof:=H6.ld 1 rfl rfl
 refine oP_mk (pFA_ptr _ _ _) (oP_mk l2 (oP_mk u6.v.len ?_))
 refine ct_Pick (by omega) (by omega) ?_
 have hkl:pickN a u.vals.length<u.vals.length:=pickN_lt _ (by omega)
 generalize pickN a u.vals.length=kk at *
 obtain ⟨x,hx⟩:∃x,u.vals[kk]? = some x:=⟨_,List.getElem?_eq_getElem hkl⟩
 obtain ⟨b,i,hat⟩:=g.at1 kk hkl
 obtain ⟨lx,ox,wx,_,x1,x2,xw,_⟩:=u6.val hx
 refine oP_mk (pFA_ptr _ _ _) (oP_mk l2 (oP_mk x1 (oP_mk x2 ?_)))
 refine ct_refUses H6 xw fun F7 h7 vl s7 H7 r7=>?_
 have u7:=u6.since s7
 have l2:pLd (.ptr lu (0+2)) h7=some vv:=H7.ld 2 rfl rfl
 have q0:pLd (.ptr lp (0+0)) h7=some wof:=H7.ld 1 rfl rfl
 obtain ⟨lx,ox,wx,_,x1,x2,xw,xa⟩:=u7.val hx
 refine oP_mk (pFA_ptr _ _ _) (oP_mk l2 (oP_mk x1 (oP_mk (pFA_ptr _ _ _) (oP_mk xa.op (oP_mk (hbin_eql _ _ _ _) ?_)))))
 have E1:pOr (.bool ((x.op:Int) == 21)) (oB (some vl) fun v57=>oB (pLen v57) fun v58=>hbin .lss 3 v58 (V.int .i64 2))=some (.bool (((x.op:Int) == 21) || decide (((uses x).length:Int)<2))):=by
  simp only [oB_some',r7.len,hbin_lss,pOr_bool]
 refine oP_mk E1 ?_
 by_cases hc:x.op=21∨(uses x).length<2
 ·have e:(((x.op:Int) == 21) || decide (((uses x).length:Int)<2))=true:=by
   rw [Bool.or_eq_true,beq_iff_eq,decide_eq_true_eq];omega
  rw [e]
  exact oP_mk rfl (st_b (if_t rfl (H h7)))
 have e:(((x.op:Int) == 21) || decide (((uses x).length:Int)<2))=false:=by
  rw [Bool.or_eq_false_iff,beq_eq_false_iff_ne,decide_eq_false_iff_not];omega
 rw [e]
 obtain ⟨w0,h0⟩:∃w,(uses x)[0]? = some w:=⟨_,List.getElem?_eq_getElem (by omega)⟩
 obtain ⟨w1,h1⟩:∃w,(uses x)[1]? = some w:=⟨_,List.getElem?_eq_getElem (by omega)⟩
 have m0:=List.mem_of_getElem? h0
 have m1:=List.mem_of_getElem? h1
 obtain ⟨la,oa,_,a1,a2⟩:=r7.nat h0 .i64
 obtain ⟨lb,ob,_,b1,b2⟩:=r7.nat h1 .i64
 have E2:pOr (.bool false) (oB (some vl) fun v62=>oB (pIx 1 v62 (V.int .i64 0)) fun v63=>oB (pLd v63 h7) fun v64=>oB (some vl) fun v65=>oB (pIx 1 v65 (V.int .i64 1)) fun v66=>oB (pLd v66 h7) fun v67=>hbin .eql 3 v64 v67)=some (.bool ((w0:Int) == (w1:Int))):=by
  have a1' : pIx 1 vl (V.int .i64 0)=some (.ptr la oa):=a1
  have b1' : pIx 1 vl (V.int .i64 1)=some (.ptr lb ob):=b1
  simp only [oB_some',a1',a2,b1',b2,hbin_eql,pOr_bool,Bool.false_or]
 refine oP_mk E2 (st_b ?_)
 by_cases hw:w0=w1
 ·exact if_t (by rw [hw];exact beq_self_eq_true _) (H h7)
 refine if_f (by rw [beq_iff_eq];omega) ?_
 have g0:=gives_lt (g.use kk x hx w0 m0)
 have g1:=gives_lt (g.use kk x hx w1 m1)
 obtain ⟨y,hy⟩:∃y,(fromFirst u.vals.length)[w1]? = some y:=⟨_,List.getElem?_eq_getElem (by rw [fromFirst_len];exact g1)⟩
 obtain ⟨lc,oc,c1,c2⟩:=H7.intR 0 rfl hy .i64
 obtain ⟨ld,od,h8,d1,d2,n8,H8,s8⟩:=H7.stR 0 rfl (k:=w0) (y:=y) (u:=V.int .i64 y) (by rw [fromFirst_len];exact g0) rfl rfl rfl
 refine oP_mk (pFA_ptr _ _ _) (oP_mk q0 (oP_mk a1 (oP_mk a2 (oP_mk (pFA_ptr _ _ _) (oP_mk q0 (oP_mk b1 (oP_mk b2 (oP_mk c1 (oP_mk c2 (oP_mk d1 ?_))))))))))
 rw [d2,valP_some]
 simp only [List.set_cons_zero] at H8
 refine ⟨n8,oP_mk (H8.ldA 2 rfl rfl) (oP_mk (H8.ldA 1 rfl rfl) ?_)⟩
 have u8:=u7.since s8
 refine ct_Right g H8 u8 (ii:=0) rfl (by rw [List.length_set,fromFirst_len];omega) fun F9 h9 c s9 H9 hc1 hc2=>?_
 obtain rfl:c=false:=by
  cases c with
  | false=>rfl
  | true =>
    exfalso
    obtain ⟨In, Out, hA, hr⟩ := hc1 rfl
    refine apartUse g hA hr.pa hw ?_ hat hx (fun e => hc (.inl e)) m0 m1
    rw [List.getElem?_set_self (by rw [fromFirst_len]; exact g0), List.getElem?_set_ne hw, hy]
 exact oP_mk (show _=some (V.bool true) from rfl) (H h9)
end
end Go.Proofs.YtiepamfpilhcjaaDoor.Hx
