/- Parts of the proof. -/
import Derived.Test.YtiepamfpilhcjaaDoorM22
namespace Go.Proofs.YtiepamfpilhcjaaDoor.Hx
open Go.Proofs.YtiepamfpilhcjaaDoor.Un
section
variable {F F' G G' : Nat→Prop} {h h' : Hp} {lu lkn lbl:Nat} {ops:List Int} {t t' : Dt} {R R' : Rw} {Q:QP1}
theorem ct_putKD {x:Vl}{w:List V}(D:Dw F G h lu lkn lbl t R)(hq:R.cc=R.vc)(hw:eV.rel F h x w)(hv:t.s.vals.length<1000)(hc:t.s.cur.length<1000)(hk:t.s.known.length<1000){K:Hp→Prop}
  (H:∀h' R',Kp F G h h'→Dw F G h' lu lkn lbl { t with s:=putK t.s x } R'→R'.cc=R'.vc→K h') :
  cP CS n_turnstonehand_Unit_1 [.agg w, .ptr lu 0, .ptr lbl 0] h fun v58 h4=>(h.next≤h4.next∧alO (pBS 3 1 1 (V.int .i64 0) [(0,v58)]) h4 fun o v59 h5=>((h5.get h4.next=some o∧O.beq o o=true)∧(pLd (.ptr lkn 0) h5=some R.vk∧valP (happend 3 1 8 R.vk v59 h5) fun v60 h6=>(h5.next≤h6.next∧valP (pSt 1 (.ptr lkn 0) v60 h6) fun _ h7=>(h6.next≤h7.next∧K h7))))):=by
 refine ct_put D hq hw hv hc fun h1 R1 k1 D1 hq1 hk1=>⟨k1.next,?_⟩
 rw [←hk1]
 have e3:pBS 3 1 1 (V.int .i64 0) [(0,V.int .i64 (t.s.vals.length:Nat))]=some (.cells 3 1 true false [V.int .i64 (t.s.vals.length:Nat)],fun l=> .slice l 0 1):=rfl
 rw [e3,alO_some]
 have D2:=D1.grow (Chg.new h1 (.cells 3 1 true false [V.int .i64 (t.s.vals.length:Nat)]))
 have hx:xcells (h1.new (.cells 3 1 true false [V.int .i64 (t.s.vals.length:Nat)])) 1 (.slice h1.next 0 1)=some (1,[V.int .i64 (t.s.vals.length:Nat)]):=xcells_new (k:=0) rfl
 obtain ⟨v',h3,h4,a1,a2,a3,a4,k3,D4⟩:=D2.appK (ys:=[t.s.vals.length]) hx ⟨[V.int .i64 (t.s.vals.length:Nat)],[],rfl,rfl,trivial⟩ rfl rfl (by simp) (by show t.s.known.length+1<_;omega)
 have a1' : happend 3 1 8 R1.vk (.slice h1.next 0 1) (h1.new (.cells 3 1 true false [V.int .i64 (t.s.vals.length:Nat)]))=some (.val v' h3):=a1
 refine ⟨⟨get_new_self _ _,O.beq_cells _ _ _ _ _⟩,D2.ldK,?_⟩
 simp only [a1',valP_some,a3]
 have k4:=(D1.kpNew (.cells 3 1 true false [V.int .i64 (t.s.vals.length:Nat)])).trans k3 fun _ h=>h
 exact ⟨a2,a4,H _ _ (k1.trans k4 fun _ h=>h) D4 hq1⟩
theorem ct_Unit {cs:List Pc}{shape:List Int}{np:Int}{vo vs:V}(H0:Hold F h cs)(hvo:SlR (eI .i64) F h ops vo)(hvs:SlR (eI .i64) F h shape vs)(ho:ops.length<9223372036854775808)
  (H:∀F' h' w,Sn F h F' h'→Hold F' h' cs→eUn.rel F' h' (unitM ops shape np) w→Q (.agg w) h'):cP CS n_turnstonehand_Unit [.agg [vo,vs, .int .i64 np]] h Q:=by
 refine c_turnstonehand_Unit rfl rfl ?_
 unfold B_turnstonehand_Unit
 have o1:allOne [vo,vs, .int .i64 np]=true:=by simp only [allOne_cons,hvo.one,hvs.one];rfl
 rw [hbox_of o1,alP_some,alP_some]
 have n1:(h.new (.cells 24 1 true false [vo,vs, .int .i64 np])).next=h.next+1:=rfl
 have g1:(h.new (.cells 24 1 true false [vo,vs, .int .i64 np])).get h.next=_:=get_new_self _ _
 have c1:Grows h (h.new (.cells 24 1 true false [vo,vs, .int .i64 np])):=Chg.new _ _
 generalize h.new (.cells 24 1 true false [vo,vs, .int .i64 np])=h1 at *
 have n2:(h1.new (.cells 29 1 true false [(V.int .i64 0),(V.int .i64 0),V.nilSlice,V.nilSlice,V.nilSlice])).next=h1.next+1:=rfl
 have g2:(h1.new (.cells 29 1 true false [(V.int .i64 0),(V.int .i64 0),V.nilSlice,V.nilSlice,V.nilSlice])).get h1.next=_:=get_new_self _ _
 have c2:=c1.trans (Chg.new h1 (.cells 29 1 true false [(V.int .i64 0),(V.int .i64 0),V.nilSlice,V.nilSlice,V.nilSlice]))
 have g1':=(get_new_lt (h:=h1) (.cells 29 1 true false [(V.int .i64 0),(V.int .i64 0),V.nilSlice,V.nilSlice,V.nilSlice]) (l:=h.next) (by omega)).trans g1
 generalize h1.new (.cells 29 1 true false [(V.int .i64 0),(V.int .i64 0),V.nilSlice,V.nilSlice,V.nilSlice])=h2 at *
 have eB:pBuild [(V.int .i64 0),(V.int .i64 0),V.nilSlice,V.nilSlice,V.nilSlice] [(0,1),(1,1),(2,1),(3,1),(4,1)] [(0,(V.int .i64 1)),(1,(V.int .i64 2)),(4,V.nilSlice)]=some (.agg [.int .i64 1, .int .i64 2, .nilSlice, .nilSlice, .nilSlice]):=rfl
 refine oP_mk eB ?_
 rw [alP_some]
 have n3:(h2.new (.cells 29 1 true false [(V.int .i64 0),(V.int .i64 0),V.nilSlice,V.nilSlice,V.nilSlice])).next=h2.next+1:=rfl
 have g3:(h2.new (.cells 29 1 true false [(V.int .i64 0),(V.int .i64 0),V.nilSlice,V.nilSlice,V.nilSlice])).get h2.next=_:=get_new_self _ _
 have c3:=c2.trans (Chg.new h2 (.cells 29 1 true false [(V.int .i64 0),(V.int .i64 0),V.nilSlice,V.nilSlice,V.nilSlice]))
 have g13:=(get_new_lt (h:=h2) (.cells 29 1 true false [(V.int .i64 0),(V.int .i64 0),V.nilSlice,V.nilSlice,V.nilSlice]) (l:=h.next) (by omega)).trans g1'
 have g23:=(get_new_lt (h:=h2) (.cells 29 1 true false [(V.int .i64 0),(V.int .i64 0),V.nilSlice,V.nilSlice,V.nilSlice]) (l:=h1.next) (by omega)).trans g2
 generalize h2.new (.cells 29 1 true false [(V.int .i64 0),(V.int .i64 0),V.nilSlice,V.nilSlice,V.nilSlice])=h3 at *
 have l2:h2.next<h3.next:=by omega
 have e4:=pSt_all (n:=5) (ws:=[.int .i64 1, .int .i64 2, .nilSlice, .nilSlice, .nilSlice]) g3 rfl rfl rfl
 rw [e4,valP_some]
 have n4:(h3.put h2.next (.cells 29 1 true false [.int .i64 1, .int .i64 2, .nilSlice, .nilSlice, .nilSlice])).next=h3.next:=rfl
 have g4:=get_put_self (.cells 29 1 true false [.int .i64 1, .int .i64 2, .nilSlice, .nilSlice, .nilSlice]) l2
 have g14:=(get_put_ne (.cells 29 1 true false [.int .i64 1, .int .i64 2, .nilSlice, .nilSlice, .nilSlice]) l2 (m:=h.next) (by omega)).trans g13
 have g24:=(get_put_ne (.cells 29 1 true false [.int .i64 1, .int .i64 2, .nilSlice, .nilSlice, .nilSlice]) l2 (m:=h1.next) (by omega)).trans g23
 have c4:Grows h (h3.put h2.next (.cells 29 1 true false [.int .i64 1, .int .i64 2, .nilSlice, .nilSlice, .nilSlice])):=
  c3.trans' (Chg.put (S:=fun l=>l=h2.next) (.cells 29 1 true false [.int .i64 1, .int .i64 2, .nilSlice, .nilSlice, .nilSlice]) rfl l2) fun l hl e=>by omega
 generalize h3.put h2.next (.cells 29 1 true false [.int .i64 1, .int .i64 2, .nilSlice, .nilSlice, .nilSlice])=h4 at *
 refine oP_mk (pFA_ptr _ _ _) (oP_mk (pLd_get g14 rfl) ?_)
 show cP CS n_turnstonehand_Pick [.int .i64 np, .int .i64 ((5:Nat):Int)] h4 _
 refine ct_Pick (by decide) (by decide) ?_
 rw [alP_some]
 have g5:(h4.new (.cells 22 1 true false [V.nilSlice])).get h4.next=_:=get_new_self _ _
 have n5:(h4.new (.cells 22 1 true false [V.nilSlice])).next=h4.next+1:=rfl
 have c5:=c4.trans (Chg.new h4 (.cells 22 1 true false [V.nilSlice]))
 have k5:∀l,l<h4.next→(h4.new (.cells 22 1 true false [V.nilSlice])).get l=h4.get l:=fun l hl=>get_new_lt _ hl
 generalize h4.new (.cells 22 1 true false [V.nilSlice])=h5 at *
 have eB2:pBuild [V.nilSlice,(V.int .i64 0),(V.int .i64 0),V.nilSlice,V.nilSlice,(V.int .i64 0)] [(0,1),(1,1),(2,1),(3,1),(4,1),(5,1)] []=some (.agg [V.nilSlice,(V.int .i64 0),(V.int .i64 0),V.nilSlice,V.nilSlice,(V.int .i64 0)]):=rfl
 refine oP_mk eB2 ?_
 rw [alP_some]
 have g6:(h5.new (.cells 36 1 true false [V.nilSlice,(V.int .i64 0),(V.int .i64 0),V.nilSlice,V.nilSlice,(V.int .i64 0)])).get h5.next=_:=get_new_self _ _
 have n6:(h5.new (.cells 36 1 true false [V.nilSlice,(V.int .i64 0),(V.int .i64 0),V.nilSlice,V.nilSlice,(V.int .i64 0)])).next=h5.next+1:=rfl
 have c6:=c5.trans (Chg.new h5 (.cells 36 1 true false [V.nilSlice,(V.int .i64 0),(V.int .i64 0),V.nilSlice,V.nilSlice,(V.int .i64 0)]))
 have k6:∀l,l<h5.next→(h5.new (.cells 36 1 true false [V.nilSlice,(V.int .i64 0),(V.int .i64 0),V.nilSlice,V.nilSlice,(V.int .i64 0)])).get l=h5.get l:=fun l hl=>get_new_lt _ hl
 generalize h5.new (.cells 36 1 true false [V.nilSlice,(V.int .i64 0),(V.int .i64 0),V.nilSlice,V.nilSlice,(V.int .i64 0)])=h6 at *
 have l5:h5.next<h6.next:=by omega
 have e7:=pSt_all (n:=6) (ws:=[V.nilSlice,(V.int .i64 0),(V.int .i64 0),V.nilSlice,V.nilSlice,(V.int .i64 0)]) g6 rfl rfl rfl
 rw [e7,valP_some,alP_some]
 have g7:=get_put_self (.cells 36 1 true false [V.nilSlice,(V.int .i64 0),(V.int .i64 0),V.nilSlice,V.nilSlice,(V.int .i64 0)]) l5
 have n7:(h6.put h5.next (.cells 36 1 true false [V.nilSlice,(V.int .i64 0),(V.int .i64 0),V.nilSlice,V.nilSlice,(V.int .i64 0)])).next=h6.next:=rfl
 have k7:∀l,l≠h5.next→(h6.put h5.next (.cells 36 1 true false [V.nilSlice,(V.int .i64 0),(V.int .i64 0),V.nilSlice,V.nilSlice,(V.int .i64 0)])).get l=h6.get l:=fun l hl=>get_put_ne _ l5 fun e=>hl e.symm
 have c7:Grows h (h6.put h5.next (.cells 36 1 true false [V.nilSlice,(V.int .i64 0),(V.int .i64 0),V.nilSlice,V.nilSlice,(V.int .i64 0)])):=
  c6.trans' (Chg.put (S:=fun l=>l=h5.next) (.cells 36 1 true false [V.nilSlice,(V.int .i64 0),(V.int .i64 0),V.nilSlice,V.nilSlice,(V.int .i64 0)]) rfl l5) fun l hl e=>by have:=c4.next;omega
 generalize h6.put h5.next (.cells 36 1 true false [V.nilSlice,(V.int .i64 0),(V.int .i64 0),V.nilSlice,V.nilSlice,(V.int .i64 0)])=h7 at *
 have g8:(h7.new (.cells 54 1 true false [V.nilFunc])).get h7.next=_:=get_new_self _ _
 have n8:(h7.new (.cells 54 1 true false [V.nilFunc])).next=h7.next+1:=rfl
 have c8:=c7.trans (Chg.new h7 (.cells 54 1 true false [V.nilFunc]))
 have k8:∀l,l<h7.next→(h7.new (.cells 54 1 true false [V.nilFunc])).get l=h7.get l:=fun l hl=>get_new_lt _ hl
 generalize h7.new (.cells 54 1 true false [V.nilFunc])=h8 at *
 have l7:h7.next<h8.next:=by omega
 have e9:=pSt_put (o:=0) (v:= .func n_turnstonehand_Unit_1 [] [.ptr h2.next 0, .ptr h5.next 0]) (cs':=[.func n_turnstonehand_Unit_1 [] [.ptr h2.next 0, .ptr h5.next 0]]) g8 (by simp) rfl rfl
 rw [e9,valP_some]
 have g9:=get_put_self (.cells 54 1 true false [.func n_turnstonehand_Unit_1 [] [.ptr h2.next 0, .ptr h5.next 0]]) l7
 have n9:(h8.put h7.next (.cells 54 1 true false [.func n_turnstonehand_Unit_1 [] [.ptr h2.next 0, .ptr h5.next 0]])).next=h8.next:=rfl
 have k9:∀l,l≠h7.next→(h8.put h7.next (.cells 54 1 true false [.func n_turnstonehand_Unit_1 [] [.ptr h2.next 0, .ptr h5.next 0]])).get l=h8.get l:=fun l hl=>get_put_ne _ l7 fun e=>hl e.symm
 have c9:Grows h (h8.put h7.next (.cells 54 1 true false [.func n_turnstonehand_Unit_1 [] [.ptr h2.next 0, .ptr h5.next 0]])):=
  c8.trans' (Chg.put (S:=fun l=>l=h7.next) (.cells 54 1 true false [.func n_turnstonehand_Unit_1 [] [.ptr h2.next 0, .ptr h5.next 0]]) rfl l7) fun l hl e=>by have:=c7.next;omega
 generalize h8.put h7.next (.cells 54 1 true false [.func n_turnstonehand_Unit_1 [] [.ptr h2.next 0, .ptr h5.next 0]])=h9 at *
 have keep9:∀l,l≠h5.next→l≠h7.next→l<h4.next→h9.get l=h4.get l:=fun l a b c=>by rw [k9 l b,k8 l (by omega),k7 l a,k6 l (by omega),k5 l c]
 have nn:h1.next=h.next+1∧h2.next=h.next+2∧h4.next=h.next+3∧h5.next=h.next+4∧h7.next=h.next+5∧h9.next=h.next+6:=by omega
 obtain ⟨m1,m2,m4,m5,m7,m9⟩:=nn
 have r1:h9.get h.next=some (.cells 24 1 true false [vo,vs, .int .i64 np]):=by rw [keep9 _ (by omega) (by omega) (by omega)];exact g14
 have r2:h9.get h1.next=some (.cells 29 1 true false [(V.int .i64 0),(V.int .i64 0),V.nilSlice,V.nilSlice,V.nilSlice]):=by rw [keep9 _ (by omega) (by omega) (by omega)];exact g24
 have r3:h9.get h2.next=some (.cells 29 1 true false [.int .i64 1, .int .i64 2, .nilSlice, .nilSlice, .nilSlice]):=by rw [keep9 _ (by omega) (by omega) (by omega)];exact g4
 have r4:h9.get h4.next=some (.cells 22 1 true false [V.nilSlice]):=by rw [k9 _ (by omega),k8 _ (by omega),k7 _ (by omega),k6 _ (by omega)];exact g5
 have r5:h9.get h5.next=some (.cells 36 1 true false [V.nilSlice,(V.int .i64 0),(V.int .i64 0),V.nilSlice,V.nilSlice,(V.int .i64 0)]):=by rw [k9 _ (by omega),k8 _ (by omega)];exact g7
 have hft:∀c∈cs,∀l,c.foot l→l<h.next∧¬F l:=fun c hc l hl=>by
  obtain ⟨i,hi⟩:=List.mem_iff_getElem?.1 hc
  exact c.inn (H0.ok i c hi) l hl
 have hGx:∀i l,comp h2.next h4.next h5.next ⟨.nilSlice, .nilSlice, .nilSlice, .nilSlice, .nilSlice, .nilSlice, .nilSlice⟩ i l→h.next+2≤l∧l≤h.next+4:=by
  intro i l hl
  match i,hl with
  | 0,hl=>have:l=h2.next:=hl;omega
  | 1,hl=>have:l=h4.next:=hl;omega
  | 2,hl=>have:l=h5.next:=hl;omega
  | 3,hl=>exact hl.elim
  | 4,hl=>exact hl.elim
  | 5,hl=>exact hl.elim
  | 6,hl=>exact hl.elim
  | 7,hl=>exact hl.elim
 have D9:Dw (fun l=>F l∨l=h.next∨l=h7.next) (fun l=>(∃c∈cs,c.foot l)∨l=h1.next) h9 h2.next h4.next h5.next ⟨⟨[],[],[],[],0⟩,[],[]⟩ ⟨.nilSlice, .nilSlice, .nilSlice, .nilSlice, .nilSlice, .nilSlice, .nilSlice⟩:=
  { fl := fun l hl => by rcases hl with hl | rfl | rfl; have := H0.fl l hl; omega; omega; omega
    gu := r3
    gk := r4
    gb := r5
    nu := ⟨by omega, by rintro (hl | hl | hl); have := H0.fl _ hl; omega; omega; omega⟩
    nk := ⟨by omega, by rintro (hl | hl | hl); have := H0.fl _ hl; omega; omega; omega⟩
    nb := ⟨by omega, by rintro (hl | hl | hl); have := H0.fl _ hl; omega; omega; omega⟩
    ov := .nil
    ob := .nil
    os := .nil
    ok := .nil
    oc := .nil
    sp := .nil
    kc := fun _ h => h.elim
    gx := fun l hl => by
      have hb : (l < h.next ∧ ¬ F l) ∨ l = h1.next := by
        rcases hl with ⟨c, hc, hl⟩ | hl
        · exact .inl (hft c hc l hl)
        · exact .inr hl
      refine ⟨by omega, ?_, fun i hi => ?_⟩
      · rintro (h3 | h3 | h3)
        · rcases hb with h4 | h4
          · exact h4.2 h3
          · have := H0.fl _ h3; omega
        · omega
        · omega
      · have := hGx i l hi; omega }
 have kp9:Kp F (fun l=>∃c∈cs,c.foot l) h h9:=⟨c9.next,fun l hl=>c9.keep l (by
  rcases hl with hl | ⟨c,hc,hl⟩
  ·exact H0.fl l hl
  ·exact (hft c hc l hl).1) fun h=>h⟩
 have hput9:h9.get h7.next=some (.cells 54 1 true false [.func n_turnstonehand_Unit_1 [] [.ptr h2.next 0, .ptr h5.next 0]]):=g9
 clear e4 e7 e9 eB eB2 g1 g1' g13 g14 g2 g23 g24 g3 g4 g5 g6 g7 g8 g9 k5 k6 k7 k8 k9 keep9 c1 c2 c3 c4 c5 c6 c7 c8 r3 r4 r5
 have hvo9:SlR (eI .i64) (fun l=>F l∨l=h.next∨l=h7.next) h9 ops vo:=(hvo.keep fun l hl=>kp9.keep l (.inl hl)).mono fun _ h=> .inl h
 have hvs9:SlR (eI .i64) (fun l=>F l∨l=h.next∨l=h7.next) h9 shape vs:=(hvs.keep fun l hl=>kp9.keep l (.inl hl)).mono fun _ h=> .inl h
 have hpn:=pickN_lt np (m:=5) (by decide)
 refine l_turnstonehand_Unit_L0 (fun k x1 x2 x3 x4 x5 x6 x7 x8 hh=>∃(R' : Rw) (i:Nat) (s:Ds),x1 = .ptr h.next 0∧x2 = .ptr h1.next 0∧x3 = .ptr h2.next 0∧x4 = .int .i64 (pickN np 5:Nat)∧x5 = .ptr h4.next 0∧x6 = .ptr h5.next 0∧x7 = .ptr h7.next 0∧x8 = .int .i64 (i:Nat)∧
  i+k=pickN np 5∧Kp (fun l=>F l∨l=h.next∨l=h7.next) (fun l=>(∃c∈cs,c.foot l)∨l=h1.next) h9 hh∧Dw (fun l=>F l∨l=h.next∨l=h7.next) (fun l=>(∃c∈cs,c.foot l)∨l=h1.next) hh h2.next h4.next h5.next ⟨s,[],[]⟩ R'∧R'.cc=R'.vc∧
  s.vals.length=i∧s.cur.length=i∧s.known.length=i∧s.states=[]∧params k i s=params (pickN np 5) 0 ⟨[],[],[],[],0⟩∧s.pos=0) ?_ (k:=pickN np 5)
  ⟨_,0,⟨[],[],[],[],0⟩,rfl,rfl,rfl,rfl,rfl,rfl,rfl,rfl,by omega,Kp.refl _ _ _,D9,rfl,rfl,rfl,rfl,rfl,rfl,rfl⟩
 rintro k x1 x2 x3 x4 x5 x6 x7 x8 hh ⟨R1,i,s,rfl,rfl,rfl,rfl,rfl,rfl,rfl,rfl,hik,kk,D,hq,s1,s2,s3,s4,hp,hpos⟩
 unfold B_turnstonehand_Unit_L0
 have lput:pLd (.ptr h7.next 0) hh=some (.func n_turnstonehand_Unit_1 [] [.ptr h2.next 0, .ptr h5.next 0]):=pLd_get (by rw [kk.keep _ (.inl (.inr (.inr rfl)))];exact hput9) rfl
 by_cases hlt:i<pickN np 5
 ·refine st_lt (if_t (by omega) ?_)
  refine oP_mk D.ldK (oP_mk lput ?_)
  have eP:∀i:Nat,pBuild [(V.int .i64 0),(V.int .i64 0),(V.int .i64 0),(V.int .i64 0),V.nilSlice,(V.int .i64 0)] [(0,1),(1,1),(2,1),(3,1),(4,1),(5,1)] [(0,(V.int .i64 1)),(3, .int .i64 (i:Nat))]=some (.agg (vlC (vl 1 0 0 (i:Nat) [] 0) .nilSlice)):=fun _=>rfl
  refine oP_mk (eP _) ?_
  show cP CS n_turnstonehand_Unit_1 [.agg (vlC (vl 1 0 0 (i:Nat) [] 0) .nilSlice), .ptr h2.next 0, .ptr h5.next 0] hh _
  refine ct_putKD D hq ⟨_,rfl, .nil⟩ (by show s.vals.length<_;omega) (by show s.cur.length<_;omega) (by show s.known.length<_;omega) fun h10 R2 k2 D2 hq2=>?_
  refine st_add (m:=1) (by omega) (by omega) ?_
  obtain ⟨k',rfl⟩:∃k',k=k' + 1:=⟨k - 1,by omega⟩
  exact ⟨k',by omega,R2,i+1,putK s (vl 1 0 0 (i:Nat) [] 0),rfl,rfl,rfl,rfl,rfl,rfl,rfl,rfl,by omega,kk.trans k2 fun _ h=>h,D2,hq2,by simp [putK,s1],by simp [putK,s2],by simp [putK,s3],s4,by rw [←hp];rfl,hpos⟩
 refine st_lt (if_f (by omega) ?_)
 obtain rfl:k=0:=by omega
 have hs:s=params (pickN np 5) 0 ⟨[],[],[],[],0⟩:=hp
 refine oP_mk D.ldK (oP_mk lput ?_)
 have eP:pBuild [(V.int .i64 0),(V.int .i64 0),(V.int .i64 0),(V.int .i64 0),V.nilSlice,(V.int .i64 0)] [(0,1),(1,1),(2,1),(3,1),(4,1),(5,1)] [(0,(V.int .i64 2)),(3,(V.int .i64 5))]=some (.agg (vlC (vl 2 0 0 5 [] 0) .nilSlice)):=rfl
 refine oP_mk eP ?_
 show cP CS n_turnstonehand_Unit_1 [.agg (vlC (vl 2 0 0 5 [] 0) .nilSlice), .ptr h2.next 0, .ptr h5.next 0] hh _
 refine ct_putKD D hq ⟨_,rfl, .nil⟩ (by show s.vals.length<_;omega) (by show s.cur.length<_;omega) (by show s.known.length<_;omega) fun h10 R2 k2 D2 hq2=>?_
 have kq:=kk.trans k2 fun _ h=>h
 have D2:Dw _ _ h10 h2.next h4.next h5.next ⟨putK s (vl 2 0 0 5 [] 0),[],[]⟩ R2:=D2
 have nh:h9.next≤h10.next:=kq.next
 rw [alP_some]
 have D3:=D2.grow (Chg.new h10 (.cells 3 1 true false [V.int .i64 0]))
 have g3:(h10.new (.cells 3 1 true false [V.int .i64 0])).get h10.next=_:=get_new_self _ _
 have kn3:=kq.trans (D2.kpNew (.cells 3 1 true false [V.int .i64 0])) fun _ h=>h
 have cfr:∀l,h10.next≤l→¬(F l∨l=h.next∨l=h7.next)∧¬((∃c∈cs,c.foot l)∨l=h1.next)∧∀i,¬comp h2.next h4.next h5.next R2 i l:=fun l hl=>
  ⟨fun hf=>by have:=D2.fl l hf;omega,fun hg=>by have:=(D2.gx l hg).1;omega,fun i hi=>by have:=(D2.sig hi).2.1;omega⟩
 have n11:(h10.new (.cells 3 1 true false [V.int .i64 0])).next=h10.next+1:=rfl
 generalize h10.new (.cells 3 1 true false [V.int .i64 0])=h11 at *
 have e12:=pSt_put (o:=0) (v:=V.int .i64 0) (cs':=[V.int .i64 0]) g3 (by simp) rfl rfl
 rw [e12,valP_some]
 obtain ⟨D4,k4⟩:=D3.other (Chg.put (S:=fun l=>l=h10.next) (.cells 3 1 true false [V.int .i64 0]) rfl (by omega)) fun l e=>by subst e;exact cfr _ (Nat.le_refl _)
 have g4:=get_put_self (.cells 3 1 true false [V.int .i64 0]) (show h10.next<h11.next by omega)
 have n12:(h11.put h10.next (.cells 3 1 true false [V.int .i64 0])).next=h11.next:=rfl
 have kn4:=kn3.trans k4 fun _ h=>h
 generalize h11.put h10.next (.cells 3 1 true false [V.int .i64 0])=h12 at *
 rw [alP_some]
 have D5:=D4.grow (Chg.new h12 (.cells 55 1 true false [V.nilFunc]))
 have kn5:=kn4.trans (D4.kpNew (.cells 55 1 true false [V.nilFunc])) fun _ h=>h
 have g5:(h12.new (.cells 55 1 true false [V.nilFunc])).get h12.next=_:=get_new_self _ _
 have g45:=(get_new_lt (h:=h12) (.cells 55 1 true false [V.nilFunc]) (l:=h10.next) (by omega)).trans g4
 have n13:(h12.new (.cells 55 1 true false [V.nilFunc])).next=h12.next+1:=rfl
 generalize h12.new (.cells 55 1 true false [V.nilFunc])=h13 at *
 have e14:=pSt_put (o:=0) (v:= .func n_turnstonehand_Unit_2 [] [.ptr h10.next 0, .ptr h.next 0]) (cs':=[.func n_turnstonehand_Unit_2 [] [.ptr h10.next 0, .ptr h.next 0]]) g5 (by simp) rfl rfl
 rw [e14,valP_some]
 obtain ⟨D6,k6⟩:=D5.other (Chg.put (S:=fun l=>l=h12.next) (.cells 55 1 true false [.func n_turnstonehand_Unit_2 [] [.ptr h10.next 0, .ptr h.next 0]]) rfl (by omega)) fun l e=>by subst e;exact cfr _ (by omega)
 have g6:=get_put_self (.cells 55 1 true false [.func n_turnstonehand_Unit_2 [] [.ptr h10.next 0, .ptr h.next 0]]) (show h12.next<h13.next by omega)
 have g46:=(get_put_ne (.cells 55 1 true false [.func n_turnstonehand_Unit_2 [] [.ptr h10.next 0, .ptr h.next 0]]) (show h12.next<h13.next by omega) (m:=h10.next) (by omega)).trans g45
 have n14:(h13.put h12.next (.cells 55 1 true false [.func n_turnstonehand_Unit_2 [] [.ptr h10.next 0, .ptr h.next 0]])).next=h13.next:=rfl
 have kn6:=kn5.trans k6 fun _ h=>h
 generalize h13.put h12.next (.cells 55 1 true false [.func n_turnstonehand_Unit_2 [] [.ptr h10.next 0, .ptr h.next 0]])=h14 at *
 rw [alP_some]
 have D7:=D6.grow (Chg.new h14 (.cells 61 1 true false [V.nilFunc]))
 have kn7:=kn6.trans (D6.kpNew (.cells 61 1 true false [V.nilFunc])) fun _ h=>h
 have g7:(h14.new (.cells 61 1 true false [V.nilFunc])).get h14.next=_:=get_new_self _ _
 have g47:=(get_new_lt (h:=h14) (.cells 61 1 true false [V.nilFunc]) (l:=h10.next) (by omega)).trans g46
 have g67:=(get_new_lt (h:=h14) (.cells 61 1 true false [V.nilFunc]) (l:=h12.next) (by omega)).trans g6
 have n15:(h14.new (.cells 61 1 true false [V.nilFunc])).next=h14.next+1:=rfl
 generalize h14.new (.cells 61 1 true false [V.nilFunc])=h15 at *
 have e16:=pSt_put (o:=0) (v:= .func n_turnstonehand_Unit_3 [] [.ptr h2.next 0, .ptr h12.next 0, .ptr h4.next 0]) (cs':=[.func n_turnstonehand_Unit_3 [] [.ptr h2.next 0, .ptr h12.next 0, .ptr h4.next 0]]) g7 (by simp) rfl rfl
 rw [e16,valP_some]
 obtain ⟨D8,k8⟩:=D7.other (Chg.put (S:=fun l=>l=h14.next) (.cells 61 1 true false [.func n_turnstonehand_Unit_3 [] [.ptr h2.next 0, .ptr h12.next 0, .ptr h4.next 0]]) rfl (by omega)) fun l e=>by subst e;exact cfr _ (by omega)
 have g8:=get_put_self (.cells 61 1 true false [.func n_turnstonehand_Unit_3 [] [.ptr h2.next 0, .ptr h12.next 0, .ptr h4.next 0]]) (show h14.next<h15.next by omega)
 have g48:=(get_put_ne (.cells 61 1 true false [.func n_turnstonehand_Unit_3 [] [.ptr h2.next 0, .ptr h12.next 0, .ptr h4.next 0]]) (show h14.next<h15.next by omega) (m:=h10.next) (by omega)).trans g47
 have g68:=(get_put_ne (.cells 61 1 true false [.func n_turnstonehand_Unit_3 [] [.ptr h2.next 0, .ptr h12.next 0, .ptr h4.next 0]]) (show h14.next<h15.next by omega) (m:=h12.next) (by omega)).trans g67
 have n16:(h15.put h14.next (.cells 61 1 true false [.func n_turnstonehand_Unit_3 [] [.ptr h2.next 0, .ptr h12.next 0, .ptr h4.next 0]])).next=h15.next:=rfl
 have kn8:=kn7.trans k8 fun _ h=>h
 generalize h15.put h14.next (.cells 61 1 true false [.func n_turnstonehand_Unit_3 [] [.ptr h2.next 0, .ptr h12.next 0, .ptr h4.next 0]])=h16 at *
 have raw8:h16.get h.next=some (.cells 24 1 true false [vo,vs, .int .i64 np]):=by rw [kn8.keep _ (.inl (.inr (.inl rfl)))];exact r1
 have res8:h16.get h1.next=some (.cells 29 1 true false [(V.int .i64 0),(V.int .i64 0),V.nilSlice,V.nilSlice,V.nilSlice]):=by rw [kn8.keep _ (.inr (.inr rfl))];exact r2
 have put8:h16.get h7.next=some (.cells 54 1 true false [.func n_turnstonehand_Unit_1 [] [.ptr h2.next 0, .ptr h5.next 0]]):=by rw [kn8.keep _ (.inl (.inr (.inr rfl)))];exact hput9
 have q8:Dq (fun l=>(F l∨l=h.next∨l=h7.next)∨l=h12.next∨l=h14.next) (fun l=>((∃c∈cs,c.foot l)∨l=h1.next)∨l=h10.next) h16 ⟨h.next,h2.next,h4.next,h5.next,h7.next,h10.next,h12.next,h14.next⟩ ops ⟨putK s (vl 2 0 0 5 [] 0),[],[]⟩ R2:=
  { D := (D8.more (F' := fun l => (F l ∨ l = h.next ∨ l = h7.next) ∨ l = h12.next ∨ l = h14.next) (fun _ h => .inl h) fun l hl => hl.imp id fun hl => ⟨by omega, (cfr l (by omega)).2.2, (cfr l (by omega)).2.1⟩).gmore fun l hl => hl.imp id fun e => by
      subst e
      refine ⟨by omega, ?_, (cfr _ (Nat.le_refl _)).2.2⟩
      rintro (h3 | h3)
      · exact (cfr _ (Nat.le_refl _)).1 h3
      · omega
    hq := hq2
    gl := .inr rfl
    ga := by
      have : (putK s (vl 2 0 0 5 [] 0)).pos = 0 := hpos
      rw [show ((⟨putK s (vl 2 0 0 5 [] 0), [], []⟩ : Dt).s.pos : Nat) = 0 from this]
      exact g48
    fr := .inl (.inr (.inl rfl))
    gr := ⟨vo, vs, .int .i64 np, raw8, (hvo9.keep fun l hl => kn8.keep l (.inl hl)).mono fun _ h => .inl h⟩
    fp := .inl (.inr (.inr rfl))
    gp := ⟨_, put8⟩
    fn := .inr (.inl rfl)
    gn := ⟨_, g68⟩
    fs := .inr (.inr rfl)
    gs := ⟨_, g8⟩ }
 have sm8:Sm (putK s (vl 2 0 0 5 [] 0)) 10:=⟨by simp [putK];omega,by simp [putK];omega,by simp [putK];omega,by simp [putK,s4],by simp [putK]⟩
 have hvs8:SlR (eI .i64) (fun l=>(F l∨l=h.next∨l=h7.next)∨l=h12.next∨l=h14.next) h16 shape vs:=(hvs9.keep fun l hl=>kn8.keep l (.inl hl)).mono fun _ h=> .inl h
 have hall:Kp F (fun l=>∃c∈cs,c.foot l) h h16:=kp9.trans ⟨kn8.next,fun l hl=>kn8.keep l (hl.imp .inl .inl)⟩ fun _ h=>h
 show calP CS (hcall (fRow ⟨h.next,h2.next,h4.next,h5.next,h7.next,h10.next,h12.next,h14.next⟩) []) h16 _
 refine go_row q8 ho sm8 (by omega) fun F9 h17 R9 f9 k9 q9 n9=>?_
 refine un_L1 (vo:=vo) (vs:=vs) (nv:= .int .i64 np) ho q9 (n9.le (by omega)) rfl (by rw [k9.keep _ (.inl (.inl (.inr (.inl rfl))))];exact raw8) ((hvs8.keep fun l hl=>k9.keep l (.inl hl)).mono f9) (.inl (.inr rfl)) (by show h1.next≠h10.next;omega)
  ⟨_,(k9.keep _ (.inr ⟨.inl (.inr rfl),by show h1.next≠h10.next;omega⟩)).trans res8,rfl⟩ fun F10 h18 R10 t1 f10 k10 q10 ht1=>?_
 have hlr:(fun l=>((∃c∈cs,c.foot l)∨l=h1.next)∨l=h10.next) h1.next:= .inl (.inr rfl)
 have kk10:=k9.trans k10 f9
 have hres:h18.get h1.next=some (.cells 29 1 true false [(V.int .i64 0),(V.int .i64 0),V.nilSlice,V.nilSlice,V.nilSlice]):=by rw [kk10.keep _ (.inr ⟨hlr,by show h1.next≠h10.next;omega⟩)];exact res8
 have hll:h1.next<h18.next:=by have:=kk10.next;omega
 have ow:allOne [.int .i64 1, .int .i64 2,R10.vv,R10.vb,R10.vs]=true:=by simp only [allOne_cons,q10.D.ov.one,q10.D.ob.one,q10.D.os.one];rfl
 have e19:=pSt_all (n:=5) (ws:=[.int .i64 1, .int .i64 2,R10.vv,R10.vb,R10.vs]) hres rfl rfl ow
 rw [e19,valP_some]
 have g19:=get_put_self (.cells 29 1 true false [.int .i64 1, .int .i64 2,R10.vv,R10.vb,R10.vs]) hll
 refine oP_mk (pLdA_all g19 rfl) ?_
 have gxr:=q10.D.gx h1.next hlr
 have ne:∀l,F10 l∨Loc R10.vv l∨Loc R10.vb l∨Loc R10.vs l→l≠h1.next:=by
  rintro l (hl | hl | hl | hl) rfl
  ·exact gxr.2.1 hl
  ·exact gxr.2.2 3 hl
  ·exact gxr.2.2 4 hl
  ·exact gxr.2.2 5 hl
 have kpe:∀l,l≠h1.next→(h18.put h1.next (.cells 29 1 true false [.int .i64 1, .int .i64 2,R10.vv,R10.vb,R10.vs])).get l=h18.get l:=fun l hl=>get_put_ne _ hll fun e=>hl e.symm
 have fall:∀l,F l→F10 l:=fun l hl=>f10 l (f9 l (.inl (.inl hl)))
 have kfin:∀l,F l→h18.get l=h.get l:=fun l hl=>(kk10.keep l (.inl (.inl (.inl hl)))).trans (hall.keep l (.inl hl))
 refine H (fun l=>F10 l∨Loc R10.vv l∨Loc R10.vb l∨Loc R10.vs l) _ _ ⟨by have:=kk10.next;have:=hall.next;show h.next≤h18.next;omega,fun l hl=>(kpe l (ne l (.inl (fall l hl)))).trans (kfin l hl),fun l hl=> .inl (fall l hl)⟩ ?_ ?_
 ·refine ⟨fun l hl=>?_,fun i c hc=>?_,H0.dis⟩
  ·show l<h18.next
   rcases hl with hl | hl | hl | hl
   ·exact q10.D.fl l hl
   ·exact (q10.D.ov.tyOf hl).2.1
   ·exact (q10.D.ob.tyOf hl).2.1
   ·exact (q10.D.os.tyOf hl).2.1
  ·have hok:=H0.ok i c hc
   have hm:=List.mem_iff_getElem?.2 ⟨i,hc⟩
   have hft2:∀l,c.foot l→l<h.next:=fun l hl=>(hft c hm l hl).1
   have kc:∀l,c.foot l→(h18.put h1.next (.cells 29 1 true false [.int .i64 1, .int .i64 2,R10.vv,R10.vb,R10.vs])).get l=h.get l:=fun l hl=>by
    have:=hft2 l hl
    rw [kpe l (by omega),kk10.keep l (.inr ⟨.inl (.inl ⟨c,hm,hl⟩),by show l≠h10.next;omega⟩)]
    exact hall.keep l (.inr ⟨c,hm,hl⟩)
   refine c.mono (c.keep hok (fun l hl=>(kpe l (ne l (.inl (fall l hl)))).trans (kfin l hl)) kc (by have:=kk10.next;have:=hall.next;show h.next≤h18.next;omega)) (fun l hl=> .inl (fall l hl)) fun l hl hl'=>?_
   have gx:=q10.D.gx l (.inl (.inl ⟨c,hm,hl⟩))
   rcases hl' with h3 | h3 | h3 | h3
   ·exact gx.2.1 h3
   ·exact gx.2.2 3 h3
   ·exact gx.2.2 4 h3
   ·exact gx.2.2 5 h3
 ·have eu:unitM ops shape np=⟨1,2,t1.s.vals,t1.blocks,t1.s.states⟩:=by
   rw [ht1]
   unfold unitM
   rw [hs]
  rw [eu]
  have k2:∀l,F10 l∨Loc R10.vv l∨Loc R10.vb l∨Loc R10.vs l→(h18.put h1.next (.cells 29 1 true false [.int .i64 1, .int .i64 2,R10.vv,R10.vb,R10.vs])).get l=h18.get l:=fun l hl=>kpe l (ne l hl)
  exact ⟨R10.vv,R10.vb,R10.vs,rfl,(q10.D.ov.slR (fun _ h=> .inl h) fun _ h=> .inr (.inl h)).keep k2,(q10.D.ob.slR (fun _ h=> .inl h) fun _ h=> .inr (.inr (.inl h))).keep k2,(q10.D.os.slR (fun _ h=> .inl h) fun _ h=> .inr (.inr (.inr h))).keep k2⟩
end
end Go.Proofs.YtiepamfpilhcjaaDoor.Hx
