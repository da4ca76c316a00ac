/- Parts of the proof. -/
import Derived.Test.YtiepamfpilhcjaaDoorM18
import Derived.Test.YtiepamfpilhcjaaDoorM19
import Derived.Test.YtiepamfpilhcjaaDoorM15
namespace Go.Proofs.YtiepamfpilhcjaaDoor.Hx
open Go.Proofs.YtiepamfpilhcjaaDoor.Un
theorem hbox_of {e:Nat}{w:List V}(h1:allOne w=true):hbox e (.agg w)=some (.cells e 1 true false w,fun l=> .ptr l 0):=by
 unfold hbox
 rw [bB_of _ (show allOne (V.agg w).cells=true from h1)]
 rfl
theorem pBS_rec {e sz:Nat}{z w:List V}(hz:z.length=sz)(hw:w.length=sz)(h1:allOne w=true):pBS e sz 1 (.agg z) [(0, .agg w)]=some (.cells e sz true false w,fun l=> .slice l 0 1):=by
 unfold pBS
 have hs:splice (Nat.mul 0 sz) (repl 1 (V.agg z).cells) (V.agg w).cells=some w:=by
  show splice (0 * sz) (z++[]) w=some w
  rw [Nat.zero_mul,List.append_nil,splice_of (by omega),List.take_zero,List.nil_append,Nat.zero_add,List.drop_of_length_le (by omega),List.append_nil]
 simp only [fillV,oB_some',hs]
 rw [bB_of _ (show Nat.beq (V.agg w).cells.length sz=true by rw [show (V.agg w).cells=w from rfl,hw];exact Nat.beq_refl _)]
 simp only [oB_some']
 rw [bB_of _ h1]
theorem wsub1 {n:Nat}(h:n<1000000000):wrapF .i64 (((n+1:Nat):Int) - 1)=(n:Nat):=by
 rw [wrapF_in (by simp only [inK];omega)];omega
theorem wadd {n k:Nat}(h:n<1000000000)(hk:k<1000000000):wrapF .i64 (((n:Nat):Int)+(k:Nat))=((n+k:Nat):Int):=by
 rw [wrapF_in (by simp only [inK];omega)];omega
theorem hbin_rem (t:Nat)(k:IntKind)(a b:Int)(hb:b≠0):hbin .rem t (.int k a) (.int k b)=some (.int k (a.tmod b)):=by
 have h2:hint .rem k a b=some (.int k (a.tmod b)):=by
  cases b with
  | ofNat n => cases n with
    | zero => exact absurd rfl hb
    | succ n => rfl
  | negSucc n=>rfl
 cases k <;> exact h2
theorem ct_Pick {n:Int}{m:Nat}{h:Hp}{Q:QP1}(hm:0<m)(hm2:m≤1000000000)(H:Q (.int .i64 (pickN n m:Nat)) h):cP CS n_turnstonehand_Pick [.int .i64 n, .int .i64 (m:Nat)] h Q:=by
 refine c_turnstonehand_Pick rfl rfl ?_
 unfold B_turnstonehand_Pick
 have h1:=Int.tmod_lt_of_pos n (b:=(m:Int)) (by omega)
 have h2 : -(m:Int)<n.tmod m:=by
  have:=Int.tmod_lt_of_pos (-n) (b:=(m:Int)) (by omega)
  rw [Int.neg_tmod] at this
  omega
 simp only [hbin_rem _ _ _ (m:Int) (by omega),oP_some',hbin_lss,bP_bool',decide_eq_true_eq]
 unfold pickN at H
 split
 ·rename_i hlt
  rw [if_pos hlt] at H
  have hw:wrapF .i64 (n.tmod m+m)=n.tmod m+m:=wrapF_in (by simp only [inK];omega)
  simp only [hbin_add,hw,oP_some']
  refine j_turnstonehand_Pick_R3 ?_
  unfold B_turnstonehand_Pick_R3
  rw [Int.toNat_of_nonneg (by omega)] at H
  exact H
 ·rename_i hge
  rw [if_neg hge] at H
  refine j_turnstonehand_Pick_R3 ?_
  unfold B_turnstonehand_Pick_R3
  rw [Int.toNat_of_nonneg (by omega)] at H
  exact H
section
variable {F G:Nat→Prop} {h:Hp} {lu lkn lbl:Nat} {t:Dt} {R:Rw} {Q:QP1}
theorem Dw.ldV (D:Dw F G h lu lkn lbl t R):pLd (.ptr lu 2) h=some R.vv:=pLd_get D.gu rfl
theorem Dw.ldB (D:Dw F G h lu lkn lbl t R):pLd (.ptr lu 3) h=some R.vb:=pLd_get D.gu rfl
theorem Dw.ldS (D:Dw F G h lu lkn lbl t R):pLd (.ptr lu 4) h=some R.vs:=pLd_get D.gu rfl
theorem Dw.ldK (D:Dw F G h lu lkn lbl t R):pLd (.ptr lkn 0) h=some R.vk:=pLd_get D.gk rfl
theorem Dw.ldC (D:Dw F G h lu lkn lbl t R):pLd (.ptr lbl 0) h=some R.cc:=pLd_get D.gb rfl
theorem Dw.ldP (D:Dw F G h lu lkn lbl t R):pLd (.ptr lbl 4) h=some R.vp:=pLd_get D.gb rfl
theorem ct_put {x:Vl}{w:List V}(D:Dw F G h lu lkn lbl t R)(hq:R.cc=R.vc)(hw:eV.rel F h x w)(hv:t.s.vals.length<1000)(hc:t.s.cur.length<1000)
  (H:∀h' R',Kp F G h h'→Dw F G h' lu lkn lbl { t with s:=put t.s x } R'→R'.cc=R'.vc→R'.vk=R.vk→Q (.int .i64 (t.s.vals.length:Nat)) h') :
  cP CS n_turnstonehand_Unit_1 [.agg w, .ptr lu 0, .ptr lbl 0] h Q:=by
 refine c_turnstonehand_Unit_1 rfl rfl ?_
 unfold B_turnstonehand_Unit_1
 have h1w:=eV.one hw
 have hlw:w.length=6:=eV.len hw
 have D1:=D.grow (Chg.new h (.cells 39 1 true false w))
 have k1:=D.kpNew (.cells 39 1 true false w)
 have e1:pLdA 6 (.ptr h.next 0) (h.new (.cells 39 1 true false w))=some (.agg w):=pLdA_all (get_new_self _ _) hlw
 have e2:pBS 39 6 1 (V.agg [(V.int .i64 0),(V.int .i64 0),(V.int .i64 0),(V.int .i64 0),V.nilSlice,(V.int .i64 0)]) [(0, .agg w)]=some (.cells 39 6 true false w,fun l=> .slice l 0 1):=pBS_rec rfl hlw h1w
 simp only [hbox_of h1w,alP_some,pFA_ptr,oP_some',Nat.zero_add,D1.ldV,e1,e2]
 generalize hh1:h.new (.cells 39 1 true false w)=h1 at *
 have D2:=D1.grow (Chg.new h1 (.cells 39 6 true false w))
 have k2:=D1.kpNew (.cells 39 6 true false w)
 have hw2:eV.rel F (h1.new (.cells 39 6 true false w)) x w:=eV.keep (fun l hl=>(k1.trans k2 fun _ h=>h).keep l (.inl hl)) hw
 have hx2:xcells (h1.new (.cells 39 6 true false w)) 6 (.slice h1.next 0 1)=some (1,w):=xcells_new (k:=0) (by rw [hlw])
 obtain ⟨v',h3,h4,a1,a2,a3,a4,k3,D4⟩:=D2.appV (ys:=[x]) hx2 ⟨w,[],by simp,hw2,trivial⟩ (by rw [hlw];rfl) h1w (by simp) (by simp;omega)
 have lc:((t.s.vals++[x]).length:Nat)=t.s.vals.length+1:=by simp
 have lv:=D4.ov.len
 simp only [lc] at lv
 simp only [a1,valP_some,a3,D4.ldC,D4.ldV,oP_some',lv,hbin_sub]
 have ew:wrapF .i64 (((t.s.vals.length+1:Nat):Int) - 1)=(t.s.vals.length:Nat):=wsub1 (by omega)
 have e3:pBS 3 1 1 (V.int .i64 0) [(0,V.int .i64 (t.s.vals.length:Nat))]=some (.cells 3 1 true false [V.int .i64 (t.s.vals.length:Nat)],fun l=> .slice l 0 1):=rfl
 simp only [ew,e3,alP_some,hq]
 have D5:=D4.grow (Chg.new h4 (.cells 3 1 true false [V.int .i64 (t.s.vals.length:Nat)]))
 have k4:=D4.kpNew (.cells 3 1 true false [V.int .i64 (t.s.vals.length:Nat)])
 have hx5:xcells (h4.new (.cells 3 1 true false [V.int .i64 (t.s.vals.length:Nat)])) 1 (.slice h4.next 0 1)=some (1,[V.int .i64 (t.s.vals.length:Nat)]):=xcells_new (k:=0) rfl
 obtain ⟨v2,h6,h7,b1,b2,b3,b4,k5,D7⟩:=D5.appC (ys:=[t.s.vals.length]) hx5 ⟨[V.int .i64 (t.s.vals.length:Nat)],[],rfl,rfl,trivial⟩ rfl rfl (by simp) (by simp;omega)
 have lv7:=D7.ov.len
 simp only [lc] at lv7
 have b1' : happend 3 1 8 R.vc (.slice h4.next 0 1) (h4.new (.cells 3 1 true false [V.int .i64 (t.s.vals.length:Nat)]))=some (.val v2 h6):=b1
 simp only [b1',valP_some,b3,D7.ldV,oP_some',lv7,hbin_sub,ew]
 exact H _ _ ((((k1.trans k2 fun _ h=>h).trans k3 fun _ h=>h).trans k4 fun _ h=>h).trans k5 fun _ h=>h) D7 rfl rfl
end
end Go.Proofs.YtiepamfpilhcjaaDoor.Hx
namespace Go.Proofs.YtiepamfpilhcjaaDoor.Hx
open Go.Proofs.YtiepamfpilhcjaaDoor.Un
structure Lc where
 lr:Nat
 lu:Nat
 lkn:Nat
 lbl:Nat
 lput:Nat
 lat:Nat
 lnext:Nat
 lst:Nat
def fPut (L:Lc):V:= .func n_turnstonehand_Unit_1 [] [.ptr L.lu 0, .ptr L.lbl 0]
def fNext (L:Lc):V:= .func n_turnstonehand_Unit_2 [] [.ptr L.lat 0, .ptr L.lr 0]
def fState (L:Lc):V:= .func n_turnstonehand_Unit_3 [] [.ptr L.lu 0, .ptr L.lnext 0, .ptr L.lkn 0]
structure Dq (F G:Nat→Prop) (h:Hp) (L:Lc) (ops:List Int) (t:Dt) (R:Rw):Prop where
 D:Dw F G h L.lu L.lkn L.lbl t R
 hq:R.cc=R.vc
 gl:G L.lat
 ga:h.get L.lat=some (.cells tyInt 1 true false [.int .i64 (t.s.pos:Nat)])
 fr:F L.lr
 gr:∃vo vs n,h.get L.lr=some (.cells tyRaw 1 true false [vo,vs,n])∧SlR (eI .i64) F h ops vo
 fp:F L.lput
 gp:∃e,h.get L.lput=some (.cells e 1 true false [fPut L])
 fn:F L.lnext
 gn:∃e,h.get L.lnext=some (.cells e 1 true false [fNext L])
 fs:F L.lst
 gs:∃e,h.get L.lst=some (.cells e 1 true false [fState L])
section
variable {F F' G G' : Nat→Prop} {h h' : Hp} {L:Lc} {ops:List Int} {t t' : Dt} {R R' : Rw} {Q:QP1}
theorem Dq.step' (q:Dq F G h L ops t R)(k:∀l,F l→h'.get l=h.get l) (D' : Dw F' G' h' L.lu L.lkn L.lbl t' R')(hF:∀l,F l→F' l) (hq' : R'.cc=R'.vc)(hg:G' L.lat)(ha:h'.get L.lat=some (.cells tyInt 1 true false [.int .i64 (t'.s.pos:Nat)])):Dq F' G' h' L ops t' R' where
 D:=D'
 hq:=hq'
 gl:=hg
 ga:=ha
 fr:=hF _ q.fr
 gr:=by
  obtain ⟨vo,vs,n,h1,h2⟩:=q.gr
  exact ⟨vo,vs,n,by rw [k _ q.fr];exact h1,(h2.keep k).mono hF⟩
 fp:=hF _ q.fp
 gp:=by rw [k _ q.fp];exact q.gp
 fn:=hF _ q.fn
 gn:=by rw [k _ q.fn];exact q.gn
 fs:=hF _ q.fs
 gs:=by rw [k _ q.fs];exact q.gs
theorem Dq.step (q:Dq F G h L ops t R)(k:Kp F G h h') (D' : Dw F' G' h' L.lu L.lkn L.lbl t' R')(hF:∀l,F l→F' l)(hg:G' L.lat) (hq' : R'.cc=R'.vc)(hp:t'.s.pos=t.s.pos):Dq F' G' h' L ops t' R':=
 q.step' (fun l hl=>k.keep l (.inl hl)) D' hF hq' hg (by rw [k.keep _ (.inr q.gl),hp];exact q.ga)
theorem Dq.ldPut (q:Dq F G h L ops t R):pLd (.ptr L.lput 0) h=some (fPut L):=by obtain ⟨e,hg⟩:=q.gp;exact pLd_get hg rfl
theorem Dq.ldNext (q:Dq F G h L ops t R):pLd (.ptr L.lnext 0) h=some (fNext L):=by obtain ⟨e,hg⟩:=q.gn;exact pLd_get hg rfl
theorem Dq.ldState (q:Dq F G h L ops t R):pLd (.ptr L.lst 0) h=some (fState L):=by obtain ⟨e,hg⟩:=q.gs;exact pLd_get hg rfl
theorem Dq.knownAt (q:Dq F G h L ops t R){i:Nat}(hi:i<t.s.known.length):∃l o,l<h.next∧(F l∨Loc R.vk l)∧pIx 1 R.vk (.int .i64 (i:Nat))=some (.ptr l o)∧pLd (.ptr l o) h=some (.int .i64 (t.s.known.getD i 0:Nat)):=by
 obtain ⟨l,o,u,hl,h1,h2,h3⟩:=q.D.ok.read.ix1 hi .i64 rfl
 refine ⟨l,o,hl.elim (q.D.fl l) fun h=>(q.D.ok.tyOf h).2.1,hl,h1,?_⟩
 rw [h2]
 have:[u]=[V.int .i64 (t.s.known[i]:Nat)]:=h3
 rw [List.getD_eq_getElem?_getD,List.getElem?_eq_getElem hi]
 simpa using this
theorem Dw.gmore {lu lkn lbl:Nat}(D:Dw F G h lu lkn lbl t R)(hG:∀l,G' l→G l∨(l<h.next∧¬F l∧∀i,¬comp lu lkn lbl R i l)):Dw F G' h lu lkn lbl t R:=
 { D with gx:=fun l hl=>(hG l hl).elim (D.gx l) id }
def gm (G:Nat→Prop)(a:Nat):Nat→Prop:=fun l=>G l∧l≠a
theorem Kp.gm (k:Kp F G h h')(a:Nat):Kp F (Hx.gm G a) h h':=⟨k.next,fun l hl=>k.keep l (hl.imp id fun h=>h.1)⟩
def setPos (t:Dt)(p:Nat):Dt:={ t with s:={ t.s with pos:=p } }
theorem ct_next {m:Nat}(q:Dq F G h L ops t R)(hm:0<m)(hm2:m≤100000000)(ho:ops.length<9223372036854775808)
  (H:∀h',Kp F (gm G L.lat) h h'→Dq F G h' L ops (setPos t (draw ops t.s.pos m).2) R→Q (.int .i64 ((draw ops t.s.pos m).1:Nat)) h') :
  cP CS n_turnstonehand_Unit_2 [.int .i64 (m:Nat), .ptr L.lat 0, .ptr L.lr 0] h Q:=by
 refine c_turnstonehand_Unit_2 rfl rfl ?_
 unfold B_turnstonehand_Unit_2
 obtain ⟨vo,vs,n,gr,so⟩:=q.gr
 have l0:pLd (.ptr L.lat 0) h=some (.int .i64 (t.s.pos:Nat)):=pLd_get q.ga rfl
 have l1:pLd (.ptr L.lr 0) h=some vo:=pLd_get gr rfl
 simp only [l0,oP_some',pFA_ptr,Nat.zero_add,l1,so.len,hbin_geq,bP_bool',decide_eq_true_eq]
 have gat:=q.D.gx _ q.gl
 split
 ·rename_i hge
  have e:draw ops t.s.pos m=(0,t.s.pos):=by
   unfold draw
   rw [List.getElem?_eq_none (by omega)]
  rw [e] at H
  exact H h (Kp.refl _ _ _) q
 ·rename_i hlt
  have hlt:t.s.pos<ops.length:=by omega
  have e:draw ops t.s.pos m=(pickN ops[t.s.pos] m,t.s.pos+1):=by
   unfold draw
   rw [List.getElem?_eq_getElem hlt]
  rw [e] at H
  have w1:wrapF .i64 ((t.s.pos:Int)+1)=((t.s.pos+1:Nat):Int):=by rw [wrapF_in (by simp only [inK];omega)];omega
  have e1:=pSt_put (o:=0) (v:= .int .i64 ((t.s.pos+1:Nat):Int)) (cs':=[.int .i64 ((t.s.pos+1:Nat):Int)]) q.ga (by simp) rfl rfl
  have hc:Chg (fun l=>l=L.lat) h (h.put L.lat (.cells tyInt 1 true false [.int .i64 ((t.s.pos+1:Nat):Int)])):=Chg.put _ rfl gat.1
  have kF:∀l,F l→(h.put L.lat (.cells tyInt 1 true false [.int .i64 ((t.s.pos+1:Nat):Int)])).get l=h.get l:=fun l hl=>get_put_ne _ gat.1 fun e=>gat.2.1 (e▸hl)
  have l2:pLd (.ptr L.lr 0) (h.put L.lat (.cells tyInt 1 true false [.int .i64 ((t.s.pos+1:Nat):Int)]))=some vo:=pLd_get (by rw [kF _ q.fr];exact gr) rfl
  have l3:pLd (.ptr L.lat 0) (h.put L.lat (.cells tyInt 1 true false [.int .i64 ((t.s.pos+1:Nat):Int)]))=some (.int .i64 ((t.s.pos+1:Nat):Int)):=pLd_get (get_put_self _ gat.1) rfl
  have w2:wrapF .i64 (((t.s.pos+1:Nat):Int) - 1)=(t.s.pos:Nat):=by rw [wrapF_in (by simp only [inK];omega)];omega
  obtain ⟨l,o,u,_,i1,i2,i3⟩:=(so.keep kF).ix1 hlt .i64 rfl
  obtain ⟨rfl⟩:u = .int .i64 ops[t.s.pos]:=by simpa using i3.1
  simp only [hbin_add,w1,oP_some',e1,valP_some,l2,l3,hbin_sub,w2,i1,i2]
  refine ct_Pick hm (by omega) (H _ ⟨hc.next,fun l hl=>hl.elim (kF l) fun hl=>get_put_ne _ gat.1 fun e=>hl.2 e.symm⟩ ?_)
  have hr:Dw F (gm G L.lat) h L.lu L.lkn L.lbl t R:={ q.D with gx:=fun l hl=>q.D.gx l hl.1 }
  have D':=(hr.other hc fun l hl=>by subst hl;exact ⟨gat.2.1,fun hg=>hg.2 rfl,gat.2.2⟩).1
  refine q.step' kF ?_ (fun _ h=>h) q.hq q.gl (get_put_self _ gat.1)
  have gx' : ∀l,G l→_:=fun l hl=>if e:l=L.lat then e▸(⟨gat.1,gat.2.1,gat.2.2⟩:_∧_∧∀i,¬comp L.lu L.lkn L.lbl R i L.lat) else D'.gx l ⟨hl,e⟩
  exact { D' with gx:=gx' }
def gp (G:Nat→Prop)(v:V)(p:Nat):Nat→Prop:=fun l=>G l∨l=p∨Loc v l
theorem getLastD_getD (l:List Nat)(h:0<l.length):l.getD (l.length - 1) 0=l.getLastD 0:=by
 rw [List.getLastD_eq_getLast?,List.getLast?_eq_getElem?,List.getD_eq_getElem?_getD]
theorem ct_state (q:Dq F G h L ops t R)(hk:0<t.s.known.length)(hk2:t.s.known.length<1000)(hs:t.s.states.length<1000)(ho:ops.length<9223372036854775808)
  (H:∀F' h' R',(∀l,F l→F' l)→Kp F (gm G L.lat) h h'→Dq F' G h' L ops { t with s:=(stateM ops t.s).2 } R'→R'.vk=R.vk→Q (.int .i64 ((stateM ops t.s).1:Nat)) h') :
  cP CS n_turnstonehand_Unit_3 [.ptr L.lu 0, .ptr L.lnext 0, .ptr L.lkn 0] h Q:=by
 refine c_turnstonehand_Unit_3 rfl rfl ?_
 unfold B_turnstonehand_Unit_3
 have hlat:=(q.D.gx _ q.gl).1
 have hG0:∀l,G l→l<h.next:=fun l hl=>(q.D.gx l hl).1
 have hC0:∀i l,comp L.lu L.lkn L.lbl R i l→l<h.next:=fun i l hl=>(q.D.sig hl).2.1
 have eb:pBuild [(V.int .i64 0),(V.int .i64 0),V.nilSlice,V.nilSlice] [(0,1),(1,1),(2,1),(3,1)] [(0,(V.int .i64 1)),(1, .int .i64 (t.s.states.length:Nat))]=some (.agg [.int .i64 1, .int .i64 (t.s.states.length:Nat), .nilSlice, .nilSlice]):=rfl
 have h1p:(h.new (.cells 57 1 true false [(V.int .i64 0),(V.int .i64 0),V.nilSlice,V.nilSlice])).get h.next=some (.cells 57 1 true false [(V.int .i64 0),(V.int .i64 0),V.nilSlice,V.nilSlice]):=get_new_self _ _
 have e1:=pSt_all (n:=4) (ws:=[.int .i64 1, .int .i64 (t.s.states.length:Nat), .nilSlice, .nilSlice]) h1p rfl rfl rfl
 simp only [pFA_ptr,oP_some',Nat.zero_add,q.D.ldS,q.D.os.len,eb,alP_some,e1,valP_some]
 have hn2:h.next<(h.new (.cells 57 1 true false [(V.int .i64 0),(V.int .i64 0),V.nilSlice,V.nilSlice])).next:=Nat.lt_succ_self _
 have c2:Chg (fun l=>l=h.next) h ((h.new (.cells 57 1 true false [(V.int .i64 0),(V.int .i64 0),V.nilSlice,V.nilSlice])).put h.next (.cells 57 1 true false [.int .i64 1, .int .i64 (t.s.states.length:Nat), .nilSlice, .nilSlice])):=
  (Chg.new _ _).trans (Chg.put _ rfl hn2)
 have g2:=get_put_self (h:=h.new (.cells 57 1 true false [(V.int .i64 0),(V.int .i64 0),V.nilSlice,V.nilSlice])) (.cells 57 1 true false [.int .i64 1, .int .i64 (t.s.states.length:Nat), .nilSlice, .nilSlice]) hn2
 have n2:((h.new (.cells 57 1 true false [(V.int .i64 0),(V.int .i64 0),V.nilSlice,V.nilSlice])).put h.next (.cells 57 1 true false [.int .i64 1, .int .i64 (t.s.states.length:Nat), .nilSlice, .nilSlice])).next=h.next+1:=rfl
 generalize ((h.new (.cells 57 1 true false [(V.int .i64 0),(V.int .i64 0),V.nilSlice,V.nilSlice])).put h.next (.cells 57 1 true false [.int .i64 1, .int .i64 (t.s.states.length:Nat), .nilSlice, .nilSlice]))=h2 at *
 clear h1p e1 hn2
 have fresh:∀l,h.next≤l→¬F l∧¬G l∧∀i,¬comp L.lu L.lkn L.lbl R i l:=fun l hl=>⟨fun hf=>by have:=q.D.fl l hf;omega,fun hg=>by have:=hG0 l hg;omega,fun i hi=>by have:=hC0 i l hi;omega⟩
 obtain ⟨D2,k2⟩:=q.D.other c2 (fun l hl=>by subst hl;exact fresh _ (Nat.le_refl _))
 have D2' : Dw F (gp G .nilSlice h.next) h2 L.lu L.lkn L.lbl t R:=D2.gmore fun l hl=>hl.elim .inl fun hl=> .inr (by
  rcases hl with rfl | hl
  ·exact ⟨by omega,(fresh _ (Nat.le_refl _)).1,(fresh _ (Nat.le_refl _)).2.2⟩
  ·exact hl.elim)
 have q2:Dq F (gp G .nilSlice h.next) h2 L ops t R:=q.step k2 D2' (fun _ h=>h) (.inl q.gl) q.hq rfl
 rw [q2.ldNext]
 simp only [oP_some',fNext,hcall_func,calP_some,List.nil_append,List.append_nil]
 refine ct_next (m:=4) q2 (by decide) (by decide) ho fun h3 k3 q3=>?_
 have g3:h3.get h.next=some (.cells 57 1 true false [.int .i64 1, .int .i64 (t.s.states.length:Nat), .nilSlice, .nilSlice]):=by
  rw [k3.keep _ (.inr ⟨.inr (.inl rfl),by omega⟩)];exact g2
 have hr:(draw ops t.s.pos 4).1<4:=draw_lt _ _ (by decide)
 refine l_turnstonehand_Unit_3_L0 (fun k x0 x1 x2 x4 x5 h'=>∃(s:Ds) (l:List Nat) (vl:V),x0 = .ptr L.lu 0∧x1 = .ptr L.lnext 0∧x2 = .ptr L.lkn 0∧x4 = .ptr h.next 0∧x5 = .int .i64 (k:Nat)∧Dq F (gp G vl h.next) h' L ops { t with s:=s } R∧Kp F (gm G L.lat) h h'∧
  h'.get h.next=some (.cells 57 1 true false [.int .i64 1, .int .i64 (t.s.states.length:Nat),vl, .nilSlice])∧OwnR eN tyInt F h' l vl∧(∀z,Loc vl z→h.next<z)∧some_ ops k s l=some_ ops (draw ops t.s.pos 4).1 (num ops t.s 4).2 []∧s.known=t.s.known∧s.states=t.s.states∧l.length+k≤4) ?_
  ⟨(num ops t.s 4).2,[], .nilSlice,rfl,rfl,rfl,rfl,rfl,q3,(k2.gm L.lat).trans ⟨k3.next,fun l hl=>k3.keep l (hl.imp id fun hl=>⟨.inl hl.1,hl.2⟩)⟩ (fun _ h=>h),g3, .nil,fun _ h=>h.elim,rfl,rfl,rfl,by simp;omega⟩
 clear q3 k3 g3 q2 D2' D2 k2 g2 c2 eb
 rintro k x0 x1 x2 x4 x5 h' ⟨s,l,vl,rfl,rfl,rfl,rfl,rfl,q',k',gF,ol,lz,hsome,hkn,hst,hlen⟩
 unfold B_turnstonehand_Unit_3_L0
 have ldF:pLd (.ptr h.next 2) h' = some vl:=pLd_get gF rfl
 have kl:({ t with s:=s } : Dt).s.known.length=t.s.known.length:=by show s.known.length=_;rw [hkn]
 have hnx' : h.next<h'.next:=(q'.D.gx h.next (.inr (.inl rfl))).1
 have Dg:∀{h1:Hp} {s1:Ds},Dq F (gp G vl h.next) h1 L ops { t with s:=s1 } R→Dw F G h1 L.lu L.lkn L.lbl { t with s:=s1 } R:=fun q=>{ q.D with gx:=fun l hl=>q.D.gx l (.inl hl) }
 simp only [hbin_gtr,oP_some',bP_bool',decide_eq_true_eq]
 cases k with
 | succ k =>
   rw [if_pos (by omega)]
   have lk := q'.D.ok.len
   rw [kl] at lk
   rw [q'.ldNext]
   simp only [pFA_ptr, oP_some', Nat.zero_add, ldF, q'.D.ldK, lk, fNext, hcall_func, calP_some, List.nil_append, List.append_nil]
   refine ct_next (m := t.s.known.length) q' hk (by omega) ho fun h1 k1 q1 => ?_
   have gF1 : h1.get h.next = some (.cells 57 1 true false [.int .i64 1, .int .i64 (t.s.states.length : Nat), vl, .nilSlice]) := by
     rw [k1.keep _ (.inr ⟨.inr (.inl rfl), by omega⟩)]; exact gF
   have ol1 : OwnR eN tyInt F h1 l vl := ol.keep (fun z hz => k1.keep z (.inl hz)) (fun z hz => k1.keep z (.inr ⟨.inr (.inr hz), by have := lz z hz; omega⟩)) k1.next
   have hdr : (draw ops s.pos t.s.known.length).1 < t.s.known.length := draw_lt _ _ hk
   obtain ⟨l1, o1, hl1, hl1b, i1, i2⟩ := q1.knownAt (i := (draw ops s.pos t.s.known.length).1) (by show _ < s.known.length; rw [hkn]; exact hdr)
   have i2' : pLd (.ptr l1 o1) h1 = some (.int .i64 (s.known.getD (draw ops s.pos t.s.known.length).1 0 : Nat)) := i2
   refine ⟨k1.next, ?_⟩
   have e3 : ∀ a : Nat, pBS 3 1 1 (V.int .i64 0) [(0, V.int .i64 (a : Nat))] = some (.cells 3 1 true false [V.int .i64 (a : Nat)], fun l => .slice l 0 1) := fun _ => rfl
   have i1' : pIx 1 R.vk (.int .i64 ((draw ops ({ t with s := s } : Dt).s.pos t.s.known.length).1 : Nat)) = some (.ptr l1 o1) := i1
   simp only [i1', i2', oP_some', e3, alO_some]
   generalize hv : s.known.getD (draw ops s.pos t.s.known.length).1 0 = a at *
   have D2 := (Dg q1).grow (Chg.new h1 (.cells 3 1 true false [V.int .i64 (a : Nat)]))
   have gF2 : (h1.new (.cells 3 1 true false [V.int .i64 (a : Nat)])).get h.next = _ := (get_new_lt _ (by have := k1.next; omega)).trans gF1
   refine ⟨⟨get_new_self _ _, O.beq_cells _ _ _ _ _⟩, pLd_keep i2' (get_new_lt _ hl1), D2.ldK, pLd_get gF2 rfl, ?_⟩
   have ol2 : OwnR eN tyInt F (h1.new (.cells 3 1 true false [V.int .i64 (a : Nat)])) l vl := ol1.keep (fun z hz => get_new_lt _ (q1.D.fl z hz)) (fun z hz => get_new_lt _ (ol1.tyOf hz).2.1) (Nat.le_succ _)
   have hx : xcells (h1.new (.cells 3 1 true false [V.int .i64 (a : Nat)])) 1 (.slice h1.next 0 1) = some (1, [V.int .i64 (a : Nat)]) := xcells_new (k := 0) rfl
   obtain ⟨vl', h3, a1, ol3, c3, lz3⟩ := ol2.append (by_ := 8) (ys := [a]) hx ⟨[V.int .i64 (a : Nat)], [], rfl, rfl, trivial⟩ rfl rfl (by simp) (by decide) (fun z hz => Nat.lt_succ_of_lt (q1.D.fl z hz)) (by simp; omega) (by simp; omega)
   have n2 : (h1.new (.cells 3 1 true false [V.int .i64 (a : Nat)])).next = h1.next + 1 := rfl
   have hp3 : h.next < h3.next := by have := c3.next; have := k1.next; omega
   have gF3 : h3.get h.next = some (.cells 57 1 true false [.int .i64 1, .int .i64 (t.s.states.length : Nat), vl, .nilSlice]) := by
     rw [c3.keep _ (by have := k1.next; omega) fun hz => Nat.lt_irrefl _ (lz _ hz)]; exact gF2
   have a2 := pSt_put (o := 2) (v := vl') (cs' := [.int .i64 1, .int .i64 (t.s.states.length : Nat), vl', .nilSlice]) gF3 (by simp) ol3.one rfl
   have a1' : happend 3 1 8 vl (.slice h1.next 0 1) (h1.new (.cells 3 1 true false [V.int .i64 (a : Nat)])) = some (.val vl' h3) := a1
   have w1 : wrapF .i64 (((k + 1 : Nat) : Int) - 1) = (k : Nat) := wsub1 (by omega)
   simp only [a1', valP_some, a2, hbin_sub, w1, oP_some']
   refine ⟨c3.next, Nat.le_refl _, k, by omega, ?_⟩
   have cc : Chg (fun z => Loc vl z ∨ z = h.next) (h1.new (.cells 3 1 true false [V.int .i64 (a : Nat)])) (h3.put h.next (.cells 57 1 true false [.int .i64 1, .int .i64 (t.s.states.length : Nat), vl', .nilSlice])) :=
     (c3.weak fun _ _ h => .inl h).trans (Chg.put _ (.inr rfl) hp3)
   obtain ⟨D4, k4⟩ := D2.other cc fun z hz => fresh z (by rcases hz with hz | rfl; exact Nat.le_of_lt (lz z hz); exact Nat.le_refl _)
   have lz' : ∀ z, Loc vl' z → h.next < z := fun z hz => (lz3 z hz).elim (lz z) fun e => by have := k1.next; omega
   have ol4 : OwnR eN tyInt F (h3.put h.next (.cells 57 1 true false [.int .i64 1, .int .i64 (t.s.states.length : Nat), vl', .nilSlice])) (l ++ [a]) vl' :=
     ol3.keep (fun z hz => get_put_ne _ hp3 fun e => (fresh h.next (Nat.le_refl _)).1 (e ▸ hz)) (fun z hz => get_put_ne _ hp3 (by have := lz' z hz; omega)) (Nat.le_refl _)
   have D4' : Dw F (gp G vl' h.next) (h3.put h.next (.cells 57 1 true false [.int .i64 1, .int .i64 (t.s.states.length : Nat), vl', .nilSlice])) L.lu L.lkn L.lbl _ R := D4.gmore fun z hz => hz.elim .inl fun hz => .inr (by
     rcases hz with rfl | hz
     · exact ⟨hp3, (fresh _ (Nat.le_refl _)).1, (fresh _ (Nat.le_refl _)).2.2⟩
     · have h5 := fresh z (Nat.le_of_lt (lz' z hz)); exact ⟨(ol4.tyOf hz).2.1, h5.1, h5.2.2⟩)
   have kk : Kp F G h1 (h3.put h.next (.cells 57 1 true false [.int .i64 1, .int .i64 (t.s.states.length : Nat), vl', .nilSlice])) :=
     (Kp.new F G h1 _ q1.D.fl fun z hz => (q1.D.gx z (.inl hz)).1).trans k4 fun _ h => h
   have qG : Dq F G h1 L ops _ R := { q1 with D := Dg q1, gl := q.gl }
   refine ⟨{ s with pos := (draw ops s.pos t.s.known.length).2 }, l ++ [a], vl', by trivial, by trivial, by trivial, by trivial, by trivial, qG.step kk D4' (fun _ h => h) (.inl q.gl) q'.hq rfl, ?_, get_put_self _ hp3, ol4, lz', ?_, hkn, hst, by simp; omega⟩
   · exact (k'.trans ⟨k1.next, fun z hz => k1.keep z (hz.imp id fun hz => ⟨.inl hz.1, hz.2⟩)⟩ fun _ h => h).trans (kk.gm _) fun _ h => h
   · rw [← hsome, ← hv]
     show _ = some_ ops k (one_ ops s).2 (l ++ [(one_ ops s).1])
     unfold one_
     rw [hkn]
 | zero =>
   rw [if_neg (by omega)]
   obtain ⟨e1, e2⟩ : l = (some_ ops (draw ops t.s.pos 4).1 (num ops t.s 4).2 []).1 ∧ s = (some_ ops (draw ops t.s.pos 4).1 (num ops t.s 4).2 []).2 := by rw [← hsome]; exact ⟨rfl, rfl⟩
   have lk := q'.D.ok.len
   rw [kl] at lk
   have w1 : wrapF .i64 (((t.s.known.length : Nat) : Int) - 1) = ((t.s.known.length - 1 : Nat) : Int) := by
     rw [show ((t.s.known.length : Nat) : Int) = ((t.s.known.length - 1 + 1 : Nat) : Int) by omega]; exact wsub1 (by omega)
   obtain ⟨l1, o1, hl1, hl1b, i1, i2⟩ := q'.knownAt (i := t.s.known.length - 1) (by rw [kl]; omega)
   have i2' : pLd (.ptr l1 o1) h' = some (.int .i64 (t.s.known.getLastD 0 : Nat)) := by
     rw [i2, show ({ t with s := s } : Dt).s.known = t.s.known from hkn, getLastD_getD _ hk]
   have e3 : ∀ a : Nat, pBS 3 1 1 (V.int .i64 0) [(0, V.int .i64 (a : Nat))] = some (.cells 3 1 true false [V.int .i64 (a : Nat)], fun l => .slice l 0 1) := fun _ => rfl
   simp only [q'.D.ldK, oP_some', lk, hbin_sub, w1, i1, i2', e3, alP_some, pFA_ptr, Nat.zero_add]
   have D5 := (Dg q').grow (Chg.new h' (.cells 3 1 true false [V.int .i64 (t.s.known.getLastD 0 : Nat)]))
   have k5 : Kp F G h' (h'.new (.cells 3 1 true false [V.int .i64 (t.s.known.getLastD 0 : Nat)])) := (Dg q').kpNew _
   have g5 : (h'.new (.cells 3 1 true false [V.int .i64 (t.s.known.getLastD 0 : Nat)])).get h'.next = _ := get_new_self _ _
   have gF5 : (h'.new (.cells 3 1 true false [V.int .i64 (t.s.known.getLastD 0 : Nat)])).get h.next = _ := (get_new_lt _ hnx').trans gF
   have ol5 : OwnR eN tyInt F (h'.new (.cells 3 1 true false [V.int .i64 (t.s.known.getLastD 0 : Nat)])) l vl := ol.keep (fun z hz => get_new_lt _ (q'.D.fl z hz)) (fun z hz => get_new_lt _ (ol.tyOf hz).2.1) (Nat.le_succ _)
   have n5 : (h'.new (.cells 3 1 true false [V.int .i64 (t.s.known.getLastD 0 : Nat)])).next = h'.next + 1 := rfl
   generalize h'.new (.cells 3 1 true false [V.int .i64 (t.s.known.getLastD 0 : Nat)]) = h5 at *
   have a1 := pSt_put (o := 3) (v := .slice h'.next 0 1) (cs' := [.int .i64 1, .int .i64 (t.s.states.length : Nat), vl, .slice h'.next 0 1]) gF5 (by simp) rfl rfl
   have hp5 : h.next < h5.next := by omega
   obtain ⟨D6, k6⟩ := D5.other (Chg.put (S := fun z => z = h.next) (.cells 57 1 true false [.int .i64 1, .int .i64 (t.s.states.length : Nat), vl, .slice h'.next 0 1]) rfl hp5) fun z hz => by subst hz; exact fresh _ (Nat.le_refl _)
   have gF6 := get_put_self (.cells 57 1 true false [.int .i64 1, .int .i64 (t.s.states.length : Nat), vl, .slice h'.next 0 1]) hp5
   have g6 : (h5.put h.next (.cells 57 1 true false [.int .i64 1, .int .i64 (t.s.states.length : Nat), vl, .slice h'.next 0 1])).get h'.next = _ := (get_put_ne _ hp5 (by omega)).trans g5
   have ol6 : OwnR eN tyInt F (h5.put h.next (.cells 57 1 true false [.int .i64 1, .int .i64 (t.s.states.length : Nat), vl, .slice h'.next 0 1])) l vl := ol5.keep (fun z hz => k6.keep z (.inl hz)) (fun z hz => get_put_ne _ hp5 (by have := lz z hz; omega)) (Nat.le_refl _)
   have n6 : (h5.put h.next (.cells 57 1 true false [.int .i64 1, .int .i64 (t.s.states.length : Nat), vl, .slice h'.next 0 1])).next = h5.next := rfl
   simp only [a1, valP_some]
   generalize h5.put h.next (.cells 57 1 true false [.int .i64 1, .int .i64 (t.s.states.length : Nat), vl, .slice h'.next 0 1]) = h6 at *
   have lA : pLdA 4 (.ptr h.next 0) h6 = some (.agg [.int .i64 1, .int .i64 (t.s.states.length : Nat), vl, .slice h'.next 0 1]) := pLdA_all gF6 rfl
   have ow : allOne [.int .i64 1, .int .i64 (t.s.states.length : Nat), vl, .slice h'.next 0 1] = true := by simp only [allOne_cons, ol.one]; rfl
   have e7 : pBS 57 4 1 (V.agg [(V.int .i64 0), (V.int .i64 0), V.nilSlice, V.nilSlice]) [(0, .agg [.int .i64 1, .int .i64 (t.s.states.length : Nat), vl, .slice h'.next 0 1])] = some (.cells 57 4 true false [.int .i64 1, .int .i64 (t.s.states.length : Nat), vl, .slice h'.next 0 1], fun l => .slice l 0 1) := pBS_rec rfl rfl ow
   have e8 : ∀ m : Nat, pBuild [V.nilSlice] [(0, 1)] [(0, .slice m 0 1)] = some (.agg [.slice m 0 1]) := fun _ => rfl
   have e9 : ∀ m : Nat, pBS 60 1 1 (V.agg [V.nilSlice]) [(0, .agg [.slice m 0 1])] = some (.cells 60 1 true false [.slice m 0 1], fun l => .slice l 0 1) := fun m => pBS_rec rfl rfl rfl
   simp only [D6.ldS, oP_some', lA, e7, alP_some, e8, e9]
   have D7 := D6.grow (Chg.new h6 (.cells 57 4 true false [.int .i64 1, .int .i64 (t.s.states.length : Nat), vl, .slice h'.next 0 1]))
   have k7 := D6.kpNew (.cells 57 4 true false [.int .i64 1, .int .i64 (t.s.states.length : Nat), vl, .slice h'.next 0 1])
   have g7 : (h6.new (.cells 57 4 true false [.int .i64 1, .int .i64 (t.s.states.length : Nat), vl, .slice h'.next 0 1])).get h6.next = _ := get_new_self _ _
   have g7a : (h6.new (.cells 57 4 true false [.int .i64 1, .int .i64 (t.s.states.length : Nat), vl, .slice h'.next 0 1])).get h'.next = _ := (get_new_lt _ (by omega)).trans g6
   have ol7 : OwnR eN tyInt F (h6.new (.cells 57 4 true false [.int .i64 1, .int .i64 (t.s.states.length : Nat), vl, .slice h'.next 0 1])) l vl := ol6.keep (fun z hz => get_new_lt _ (D6.fl z hz)) (fun z hz => get_new_lt _ (ol6.tyOf hz).2.1) (Nat.le_succ _)
   have n7 : (h6.new (.cells 57 4 true false [.int .i64 1, .int .i64 (t.s.states.length : Nat), vl, .slice h'.next 0 1])).next = h6.next + 1 := rfl
   generalize h6.new (.cells 57 4 true false [.int .i64 1, .int .i64 (t.s.states.length : Nat), vl, .slice h'.next 0 1]) = h7 at *
   have D8 := D7.grow (Chg.new h7 (.cells 60 1 true false [.slice h6.next 0 1]))
   have k8 := D7.kpNew (.cells 60 1 true false [.slice h6.next 0 1])
   have g8 : (h7.new (.cells 60 1 true false [.slice h6.next 0 1])).get h6.next = _ := (get_new_lt _ (by omega)).trans g7
   have g8a : (h7.new (.cells 60 1 true false [.slice h6.next 0 1])).get h'.next = _ := (get_new_lt _ (by omega)).trans g7a
   have ol8 : OwnR eN tyInt F (h7.new (.cells 60 1 true false [.slice h6.next 0 1])) l vl := ol7.keep (fun z hz => get_new_lt _ (D7.fl z hz)) (fun z hz => get_new_lt _ (ol7.tyOf hz).2.1) (Nat.le_succ _)
   have hx8 : xcells (h7.new (.cells 60 1 true false [.slice h6.next 0 1])) 1 (.slice h7.next 0 1) = some (1, [.slice h6.next 0 1]) := xcells_new (k := 0) rfl
   have n8 : (h7.new (.cells 60 1 true false [.slice h6.next 0 1])).next = h7.next + 1 := rfl
   generalize h7.new (.cells 60 1 true false [.slice h6.next 0 1]) = h8 at *
   have D9 : Dw (fun z => F z ∨ Loc vl z ∨ z = h'.next ∨ z = h6.next) G h8 L.lu L.lkn L.lbl { t with s := s } R := D8.more (fun _ h => .inl h) fun z hz => hz.elim .inl fun hz => .inr (by
     have hz' : h.next < z ∧ z < h8.next := by
       rcases hz with hz | rfl | rfl
       · exact ⟨lz z hz, (ol8.tyOf hz).2.1⟩
       · omega
       · omega
     have h9 := fresh z (by omega)
     exact ⟨hz'.2, h9.2.2, h9.2.1⟩)
   have sl : SlR eN (fun z => F z ∨ Loc vl z ∨ z = h'.next ∨ z = h6.next) h8 l vl := ol8.slR (fun _ h => .inl h) fun _ h => .inr (.inl h)
   have ss : SlR eN (fun z => F z ∨ Loc vl z ∨ z = h'.next ∨ z = h6.next) h8 [t.s.known.getLastD 0] (.slice h'.next 0 1) :=
     .inr ⟨h'.next, 0, 3, true, false, [V.int .i64 (t.s.known.getLastD 0 : Nat)], rfl, .inr (.inr (.inl rfl)), g8a, .inr rfl, Nat.zero_le _, ⟨_, [], rfl, rfl, trivial⟩⟩
   have sf : SlR eF (fun z => F z ∨ Loc vl z ∨ z = h'.next ∨ z = h6.next) h8 [⟨1, (t.s.states.length : Nat), l, [t.s.known.getLastD 0]⟩] (.slice h6.next 0 1) :=
     .inr ⟨h6.next, 0, 57, true, false, [.int .i64 1, .int .i64 (t.s.states.length : Nat), vl, .slice h'.next 0 1], rfl, .inr (.inr (.inr rfl)), g8, .inr rfl, Nat.zero_le _, ⟨_, [], rfl, ⟨vl, _, rfl, sl, ss⟩, trivial⟩⟩
   obtain ⟨v', h9, h10, b1, b2, b3, b4, k9, D10⟩ := D9.appS (ys := [[⟨1, (t.s.states.length : Nat), l, [t.s.known.getLastD 0]⟩]]) hx8 ⟨[.slice h6.next 0 1], [], rfl, ⟨_, rfl, sf⟩, trivial⟩ rfl rfl (by simp) (by show s.states.length + _ < _; rw [hst]; simp; omega)
   have b1' : happend 60 1 24 R.vs (.slice h7.next 0 1) h8 = some (.val v' h9) := b1
   have lS := D10.os.len
   have lS' : ((s.states ++ [[(⟨1, (t.s.states.length : Nat), l, [t.s.known.getLastD 0]⟩ : Fm)]]).length : Nat) = t.s.states.length + 1 := by rw [hst]; simp
   have lS2 : pLen v' = some (.int .i64 ((t.s.states.length + 1 : Nat) : Int)) := by rw [← lS']; exact lS
   have w2 : wrapF .i64 (((t.s.states.length + 1 : Nat) : Int) - 1) = (t.s.states.length : Nat) := wsub1 (by omega)
   simp only [b1', valP_some, b3, D10.ldS, oP_some', lS2, hbin_sub, w2]
   have kAll : Kp F G h' h10 := (((k5.trans k6 fun _ h => h).trans k7 fun _ h => h).trans k8 fun _ h => h).trans ⟨k9.next, fun z hz => k9.keep z (hz.imp (fun h => .inl h) id)⟩ fun _ h => h
   have qG : Dq F G h' L ops _ R := { q' with D := Dg q', gl := q.gl }
   have hE : ({ t with s := (stateM ops t.s).2 } : Dt) = { t with s := { s with states := s.states ++ [[⟨1, (t.s.states.length : Nat), l, [t.s.known.getLastD 0]⟩]] } } := by
     unfold stateM
     rw [e1, hst, e2]
     rfl
   have q10 := qG.step kAll D10 (fun _ h => .inl h) q.gl q'.hq rfl
   refine H (fun z => F z ∨ Loc vl z ∨ z = h'.next ∨ z = h6.next) h10 { R with vs := v' } (fun _ h => .inl h) (k'.trans (kAll.gm _) fun _ h => h) ?_ rfl
   rw [hE]
   exact q10
end
end Go.Proofs.YtiepamfpilhcjaaDoor.Hx
namespace Go.Proofs.YtiepamfpilhcjaaDoor.Hx
open Go.Proofs.YtiepamfpilhcjaaDoor.Un
theorem st_lt {t:Nat}{k:IntKind}{a b:Int}{A B:Prop}(h:if a<b then A else B):oP (hbin .lss t (.int k a) (.int k b)) fun v=>bP v A B:=by
 simp only [hbin_lss,oP_some',bP_bool',decide_eq_true_eq];exact h
theorem st_eq {t:Nat}{k:IntKind}{a b:Int}{A B:Prop}(h:if a=b then A else B):oP (hbin .eql t (.int k a) (.int k b)) fun v=>bP v A B:=by
 simp only [hbin_eql,oP_some',bP_bool',beq_iff_eq];exact h
theorem st_gt {t:Nat}{k:IntKind}{a b:Int}{A B:Prop}(h:if b<a then A else B):oP (hbin .gtr t (.int k a) (.int k b)) fun v=>bP v A B:=by
 simp only [hbin_gtr,oP_some',bP_bool',decide_eq_true_eq];exact h
theorem st_add {t n m:Nat}{K:V→Prop}(hn:n<1000000000)(hm:m<1000000000)(H:K (.int .i64 ((n+m:Nat):Int))):oP (hbin .add t (.int .i64 (n:Nat)) (.int .i64 (m:Nat))) K:=by
 simp only [hbin_add,wadd hn hm,oP_some'];exact H
theorem st_sub1 {t n:Nat}{K:V→Prop}(hn:n<1000000000)(h0:0<n)(H:K (.int .i64 ((n - 1:Nat):Int))):oP (hbin .sub t (.int .i64 (n:Nat)) (.int .i64 1)) K:=by
 obtain ⟨m,rfl⟩:∃m,n=m+1:=⟨n - 1,by omega⟩
 simp only [hbin_sub,wsub1 (n:=m) (by omega),oP_some'];exact H
theorem if_t {c A B:Prop} [Decidable c] (hc:c)(h:A):if c then A else B:=by rw [if_pos hc];exact h
theorem if_f {c A B:Prop} [Decidable c] (hc:¬c)(h:B):if c then A else B:=by rw [if_neg hc];exact h
section
variable {F F' G G' : Nat→Prop} {h h' : Hp} {L:Lc} {ops:List Int} {t t' : Dt} {R R' : Rw} {Q:QP1}
theorem app1 {α:Type}{l:List α}{x:α}{n:Nat}(h:l.length≤n):(l++[x]).length≤n+1:=by rw [List.length_append];exact Nat.add_le_add_right h 1
structure Sm (s:Ds) (n:Nat):Prop where
 v:s.vals.length≤n
 c:s.cur.length≤n
 k:s.known.length≤n
 st:s.states.length≤n
 k0:0<s.known.length
theorem Sm.le {s:Ds}{n m:Nat}(a:Sm s n)(h:n≤m):Sm s m:=⟨Nat.le_trans a.v h,Nat.le_trans a.c h,Nat.le_trans a.k h,Nat.le_trans a.st h,a.k0⟩
theorem Sm.put {s:Ds}{n:Nat}(a:Sm s n)(x:Vl):Sm (put s x) (n+1):=
 ⟨app1 a.v,app1 a.c,Nat.le_succ_of_le a.k,Nat.le_succ_of_le a.st,a.k0⟩
theorem Sm.putK {s:Ds}{n:Nat}(a:Sm s n)(x:Vl):Sm (putK s x) (n+1):=
 ⟨app1 a.v, app1 a.c,
  app1 a.k, Nat.le_succ_of_le a.st, by show 0 < (s.known ++ [s.vals.length]).length; rw [List.length_append]; exact Nat.lt_of_lt_of_le a.k0 (Nat.le_add_right _ _)⟩
theorem Sm.pos {s:Ds}{n:Nat}(a:Sm s n)(p:Nat):Sm { s with pos:=p } n:=⟨a.v,a.c,a.k,a.st,a.k0⟩
theorem Sm.state {s:Ds}{n:Nat}(a:Sm s n)(ops:List Int):Sm (stateM ops s).2 (n+1):=by
 have hp:∃p,(some_ ops (num ops s 4).1 (num ops s 4).2 []).2 = { s with pos:=p }:=by
  obtain ⟨p,h⟩:=some_pos ops (num ops s 4).1 (num ops s 4).2 []
  exact ⟨p,h⟩
 obtain ⟨p,hp⟩:=hp
 unfold stateM
 simp only [hp]
 exact ⟨Nat.le_succ_of_le a.v,Nat.le_succ_of_le a.c,Nat.le_succ_of_le a.k,app1 a.st,a.k0⟩
theorem ct_appK (q:Dq F G h L ops t R){n a:Nat}(hn:Sm t.s n)(hn2:n<1000){K:Hp→Prop}
  (H:∀h' R',Kp F G h h'→Dq F G h' L ops { t with s:={ t.s with known:=t.s.known++[a] } } R'→K h') :
  alO (pBS 3 1 1 (V.int .i64 0) [(0, .int .i64 (a:Nat))]) h fun o v59 h5=>((h5.get h.next=some o∧O.beq o o=true)∧(pLd (.ptr L.lkn 0) h5=some R.vk∧valP (happend 3 1 8 R.vk v59 h5) fun v60 h6=>(h5.next≤h6.next∧valP (pSt 1 (.ptr L.lkn 0) v60 h6) fun _ h7=>(h6.next≤h7.next∧K h7)))):=by
 have e3:pBS 3 1 1 (V.int .i64 0) [(0,V.int .i64 (a:Nat))]=some (.cells 3 1 true false [V.int .i64 (a:Nat)],fun l=> .slice l 0 1):=rfl
 rw [e3,alO_some]
 have D2:=q.D.grow (Chg.new h (.cells 3 1 true false [V.int .i64 (a:Nat)]))
 have hx:xcells (h.new (.cells 3 1 true false [V.int .i64 (a:Nat)])) 1 (.slice h.next 0 1)=some (1,[V.int .i64 (a:Nat)]):=xcells_new (k:=0) rfl
 obtain ⟨v',h3,h4,a1,a2,a3,a4,k3,D4⟩:=D2.appK (ys:=[a]) hx ⟨[V.int .i64 (a:Nat)],[],rfl,rfl,trivial⟩ rfl rfl (by simp) (by have:=hn.k;simp;omega)
 have a1' : happend 3 1 8 R.vk (.slice h.next 0 1) (h.new (.cells 3 1 true false [V.int .i64 (a:Nat)]))=some (.val v' h3):=a1
 refine ⟨⟨get_new_self _ _,O.beq_cells _ _ _ _ _⟩,D2.ldK,?_⟩
 simp only [a1',valP_some,a3]
 have k4:=(q.D.kpNew (.cells 3 1 true false [V.int .i64 (a:Nat)])).trans k3 fun _ h=>h
 exact ⟨a2,a4,H _ _ k4 (q.step k4 D4 (fun _ h=>h) q.gl q.hq rfl)⟩
theorem ct_putK {x:Vl}{w:List V}(q:Dq F G h L ops t R){n:Nat}(hn:Sm t.s n)(hn2:n<999)(hw:eV.rel F h x w){K:Hp→Prop}
  (H:∀h' R',Kp F G h h'→Dq F G h' L ops { t with s:=putK t.s x } R'→K h') :
  cP CS n_turnstonehand_Unit_1 [.agg w, .ptr L.lu 0, .ptr L.lbl 0] h fun v58 h4=>(h.next≤h4.next∧alO (pBS 3 1 1 (V.int .i64 0) [(0,v58)]) h4 fun o v59 h5=>((h5.get h4.next=some o∧O.beq o o=true)∧(pLd (.ptr L.lkn 0) h5=some R.vk∧valP (happend 3 1 8 R.vk v59 h5) fun v60 h6=>(h5.next≤h6.next∧valP (pSt 1 (.ptr L.lkn 0) v60 h6) fun _ h7=>(h6.next≤h7.next∧K h7))))):=by
 have hv:=hn.v
 have hc:=hn.c
 refine ct_put q.D q.hq hw (by omega) (by omega) fun h1 R1 k1 D1 hq1 hk1=>⟨k1.next,?_⟩
 have q1:Dq F G h1 L ops { t with s:=put t.s x } R1:=q.step k1 D1 (fun _ h=>h) q.gl hq1 rfl
 rw [←hk1]
 exact ct_appK q1 (hn.put x) (by omega) fun h2 R2 k2 q2=>H h2 R2 (k1.trans k2 fun _ h=>h) q2
theorem ct_put1 {x:Vl}{w:List V}(q:Dq F G h L ops t R){n:Nat}(hn:Sm t.s n)(hn2:n<999)(hw:eV.rel F h x w){K:QP1}
  (H:∀h' R',Kp F G h h'→R'.vk=R.vk→Dq F G h' L ops { t with s:=put t.s x } R'→K (.int .i64 (t.s.vals.length:Nat)) h'):cP CS n_turnstonehand_Unit_1 [.agg w, .ptr L.lu 0, .ptr L.lbl 0] h K:=by
 have hv:=hn.v
 have hc:=hn.c
 exact ct_put q.D q.hq hw (by omega) (by omega) fun h1 R1 k1 D1 hq1 hk1=>H h1 R1 k1 hk1 (q.step k1 D1 (fun _ h=>h) q.gl hq1 rfl)
theorem ct_one (q:Dq F G h L ops t R)(ho:ops.length<9223372036854775808){n:Nat}(hn:Sm t.s n)(hn2:n<1000){K:QP1}
  (H:∀h' l o,Kp F (gm G L.lat) h h'→Dq F G h' L ops { t with s:=(one_ ops t.s).2 } R→l<h'.next→pIx 1 R.vk (.int .i64 ((draw ops t.s.pos t.s.known.length).1:Nat))=some (.ptr l o)→pLd (.ptr l o) h' = some (.int .i64 ((one_ ops t.s).1:Nat))→K (.int .i64 ((draw ops t.s.pos t.s.known.length).1:Nat)) h') :
  cP CS n_turnstonehand_Unit_2 [.int .i64 (t.s.known.length:Nat), .ptr L.lat 0, .ptr L.lr 0] h K:=by
 refine ct_next q hn.k0 (by have:=hn.k;omega) ho fun h1 k1 q1=>?_
 obtain ⟨l,o,hl,_,h2,h3⟩:=q1.knownAt (i:=(draw ops t.s.pos t.s.known.length).1) (draw_lt _ _ hn.k0)
 exact H h1 l o k1 q1 hl h2 h3
theorem ct_end {b:Bk}{nv:V}(q:Dq F G h L ops t R){n:Nat}(hn:t.blocks.length<1000)(hv0:b.vals=[])(hp0:b.preds=[])(hnx:SlR eN F h b.next nv)
  (H:∀F' h' R',(∀l,F l→F' l)→Kp F G h h'→Dq F' G h' L ops { s:={ t.s with cur:=[] },blocks:=t.blocks++[⟨t.s.cur,b.fin,b.cond,b.next,t.preds,b.state⟩],preds:=[] } R'→Q (.int .i64 (t.blocks.length:Nat)) h') :
  cP CS n_turnstonehand_Unit_5 [.agg (bkC b .nilSlice nv .nilSlice), .ptr L.lbl 0, .ptr L.lu 0] h Q:=by
 refine c_turnstonehand_Unit_5 rfl rfl ?_
 unfold B_turnstonehand_Unit_5
 have o1:allOne (bkC b .nilSlice nv .nilSlice)=true:=by simp only [bkC,allOne_cons,hnx.one];rfl
 have hG0:∀l,G l→l<h.next:=fun l hl=>(q.D.gx l hl).1
 have hC0:∀i l,comp L.lu L.lkn L.lbl R i l→l<h.next:=fun i l hl=>(q.D.sig hl).2.1
 have fresh:∀l,h.next≤l→¬F l∧¬G l∧∀i,¬comp L.lu L.lkn L.lbl R i l:=fun l hl=>⟨fun hf=>by have:=q.D.fl l hf;omega,fun hg=>by have:=hG0 l hg;omega,fun i hi=>by have:=hC0 i l hi;omega⟩
 have D1:=q.D.grow (Chg.new h (.cells 36 1 true false (bkC b .nilSlice nv .nilSlice)))
 have k1:=q.D.kpNew (.cells 36 1 true false (bkC b .nilSlice nv .nilSlice))
 have g1:(h.new (.cells 36 1 true false (bkC b .nilSlice nv .nilSlice))).get h.next=_:=get_new_self _ _
 have n1:h.next<(h.new (.cells 36 1 true false (bkC b .nilSlice nv .nilSlice))).next:=Nat.lt_succ_self _
 simp only [hbox_of o1,alP_some,pFA_ptr,oP_some',Nat.zero_add,Nat.add_zero,D1.ldC]
 generalize h.new (.cells 36 1 true false (bkC b .nilSlice nv .nilSlice))=h1 at *
 have e2:=pSt_put (o:=0) (v:=R.cc) (cs':=bkC b R.cc nv .nilSlice) g1 (by simp [bkC]) (by rw [q.hq];exact q.D.oc.one) rfl
 obtain ⟨D2,k2⟩:=D1.other (Chg.put (S:=fun z=>z=h.next) (.cells 36 1 true false (bkC b R.cc nv .nilSlice)) rfl n1) fun z hz=>by subst hz;exact fresh _ (Nat.le_refl _)
 have g2:=get_put_self (.cells 36 1 true false (bkC b R.cc nv .nilSlice)) n1
 have n2:h.next<(h1.put h.next (.cells 36 1 true false (bkC b R.cc nv .nilSlice))).next:=n1
 simp only [e2,valP_some,D2.ldP,oP_some']
 generalize h1.put h.next (.cells 36 1 true false (bkC b R.cc nv .nilSlice))=h2 at *
 have e3:=pSt_put (o:=4) (v:=R.vp) (cs':=bkC b R.cc nv R.vp) g2 (by simp [bkC]) q.D.sp.one rfl
 obtain ⟨D3,k3⟩:=D2.other (Chg.put (S:=fun z=>z=h.next) (.cells 36 1 true false (bkC b R.cc nv R.vp)) rfl n2) fun z hz=>by subst hz;exact fresh _ (Nat.le_refl _)
 have g3:=get_put_self (.cells 36 1 true false (bkC b R.cc nv R.vp)) n2
 simp only [e3,valP_some,D3.ldB,oP_some']
 generalize h2.put h.next (.cells 36 1 true false (bkC b R.cc nv R.vp))=h3 at *
 have o3:allOne (bkC b R.cc nv R.vp)=true:=by simp only [bkC,allOne_cons,hnx.one,q.hq,q.D.oc.one,q.D.sp.one];rfl
 have lA:pLdA 6 (.ptr h.next 0) h3=some (.agg (bkC b R.cc nv R.vp)):=pLdA_all g3 rfl
 have e4:pBS 36 6 1 (V.agg [V.nilSlice,(V.int .i64 0),(V.int .i64 0),V.nilSlice,V.nilSlice,(V.int .i64 0)]) [(0, .agg (bkC b R.cc nv R.vp))]=some (.cells 36 6 true false (bkC b R.cc nv R.vp),fun l=> .slice l 0 1):=pBS_rec rfl rfl o3
 simp only [lA,oP_some',e4,alP_some]
 have D4:=D3.grow (Chg.new h3 (.cells 36 6 true false (bkC b R.cc nv R.vp)))
 have k4:=D3.kpNew (.cells 36 6 true false (bkC b R.cc nv R.vp))
 have hx4:xcells (h3.new (.cells 36 6 true false (bkC b R.cc nv R.vp))) 6 (.slice h3.next 0 1)=some (1,bkC b R.cc nv R.vp):=xcells_new (k:=0) rfl
 have ka:Kp F G h (h3.new (.cells 36 6 true false (bkC b R.cc nv R.vp))):=((k1.trans k2 fun _ h=>h).trans k3 fun _ h=>h).trans k4 fun _ h=>h
 generalize h3.new (.cells 36 6 true false (bkC b R.cc nv R.vp))=h4 at *
 obtain ⟨sc,D5⟩:=D4.flush
 have hw:eK.rel (fzc F R.vc) h4 ⟨t.s.cur,b.fin,b.cond,b.next,t.preds,b.state⟩ (bkC b R.cc nv R.vp):=
  ⟨R.cc,nv,R.vp,rfl,by rw [q.hq];exact sc,(hnx.keep fun l hl=>ka.keep l (.inl hl)).mono fun _ h=> .inl h,D4.sp.mono fun _ h=> .inl h⟩
 obtain ⟨v',h5,h6,a1,a2,a3,a4,k6,D6⟩:=D5.appB (ys:=[⟨t.s.cur,b.fin,b.cond,b.next,t.preds,b.state⟩]) hx4 ⟨bkC b R.cc nv R.vp,[],by simp,hw,trivial⟩ rfl o3 (by simp) (by simp;omega)
 have a1' : happend 36 6 96 R.vb (.slice h3.next 0 1) h4=some (.val v' h5):=a1
 have e7:pBuild [V.nilSlice,(V.int .i64 0),(V.int .i64 0),V.nilSlice,V.nilSlice,(V.int .i64 0)] [(0,1),(1,1),(2,1),(3,1),(4,1),(5,1)] []=some (.agg [.nilSlice, .int .i64 0, .int .i64 0, .nilSlice, .nilSlice, .int .i64 0]):=rfl
 have e8:=pSt_all (n:=6) (ws:=[.nilSlice, .int .i64 0, .int .i64 0, .nilSlice, .nilSlice, .int .i64 0]) D6.gb rfl rfl rfl
 obtain ⟨k7,D7⟩:=D6.setBl (c:= .nilSlice) (p:= .nilSlice) (ps:=[]) .nil
 have lb:pLen v' = some (.int .i64 ((t.blocks.length+1:Nat):Int)):=by
  have:=D7.ob.len
  simpa using this
 simp only [a1',valP_some,a3,e7,oP_some',e8,D7.ldB,lb,hbin_sub,wsub1 (n:=t.blocks.length) (by omega)]
 have kb:=(ka.trans (F':=fzc F R.vc) k6 fun _ h=> .inl h).trans (F':=fzc F R.vc) k7 fun _ h=> .inl h
 exact H (fzc F R.vc) _ _ (fun _ h=> .inl h) kb (q.step kb D7 (fun _ h=> .inl h) q.gl rfl rfl)
end
end Go.Proofs.YtiepamfpilhcjaaDoor.Hx
