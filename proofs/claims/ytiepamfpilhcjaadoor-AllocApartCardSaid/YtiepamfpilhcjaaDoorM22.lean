/- Parts of the proof. -/
import Derived.Test.YtiepamfpilhcjaaDoorM21
namespace Go.Proofs.YtiepamfpilhcjaaDoor.Hx
open Go.Proofs.YtiepamfpilhcjaaDoor.Un
section
variable {F F' G G' : Nat→Prop} {h h' : Hp} {L:Lc} {ops:List Int} {t t' : Dt} {R R' : Rw} {Q:QP1}
theorem Sm.app {s:Ds}{n:Nat}(a:Sm s n)(ys:List Nat):Sm { s with known:=s.known++ys } (n+ys.length):=
 ⟨by have:=a.v;show s.vals.length≤_;omega,by have:=a.c;show s.cur.length≤_;omega,by have:=a.k;show (s.known++ys).length≤_;rw [List.length_append];omega,by have:=a.st;show s.states.length≤_;omega,by have:=a.k0;show 0<(s.known++ys).length;rw [List.length_append];omega⟩
theorem nats_one:∀ys:List Nat,allOne (nats ys)=true
 | []=>rfl
 | y::ys=>by show allOne (V.int .i64 (y:Nat)::nats ys)=true;rw [allOne_cons,nats_one ys];rfl
theorem go_app (q:Dq F G h L ops t R){n:Nat}(hn:Sm t.s n)(hn2:n<1000)(ys:List Nat)(hy:0<ys.length)(hy2:ys.length≤5){ps:Option (O×(Nat→V))}(hx:ps=some (O.cells 3 1 true false (nats ys),fun l=> .slice l 0 ys.length)){K:Hp→Prop}
  (H:∀h' R',Kp F G h h'→Dq F G h' L ops { t with s:={ t.s with known:=t.s.known++ys } } R'→K h') :
  oP (pLd (.ptr L.lkn 0) h) fun a=>alP ps h fun v h1=>valP (happend 3 1 8 a v h1) fun w h2=>valP (pSt 1 (.ptr L.lkn 0) w h2) fun _ h3=>K h3:=by
 subst hx
 refine oP_mk q.D.ldK ?_
 rw [alP_some]
 have D2:=q.D.grow (Chg.new h (.cells 3 1 true false (nats ys)))
 have hl:(nats ys).length=ys.length:=by simp [nats]
 obtain ⟨new,e1,e2⟩:=xcells_slice (n:=ys.length) (off:=0) (sz:=1) (get_new_self h (.cells 3 1 true false (nats ys))) (by rw [hl];omega)
 have e3:new=nats ys:=by rw [e2,List.drop_zero,List.take_of_length_le (by omega)]
 subst e3
 have hk:=hn.k
 have ho:allOne (nats ys)=true:=nats_one ys
 obtain ⟨v',h3,h4,a1,a2,a3,a4,k3,D4⟩:=D2.appK (ys:=ys) e1 (win_nats _ _ ys) (by rw [hl];omega) ho hy (by omega)
 have a1' : happend 3 1 8 R.vk (.slice h.next 0 ys.length) (h.new (.cells 3 1 true false (nats ys)))=some (.val v' h3):=a1
 rw [a1',valP_some,a3,valP_some]
 have k4:=(q.D.kpNew (.cells 3 1 true false (nats ys))).trans k3 fun _ h=>h
 exact H _ _ k4 (q.step k4 D4 (fun _ h=>h) q.gl q.hq rfl)
theorem go_put (q:Dq F G h L ops t R){n:Nat}(hn:Sm t.s n)(hn2:n<999)(x:Vl){w:V}{a:V}(ha:SlR eN F h x.args a)(hw:w = .agg (vlC x a)){K:QP1}
  (H:∀h' R',Kp F G h h'→R'.vk=R.vk→Dq F G h' L ops { t with s:=put t.s x } R'→K (.int .i64 (t.s.vals.length:Nat)) h'):calP CS (hcall (fPut L) [w]) h K:=by
 subst hw
 show cP CS n_turnstonehand_Unit_1 [.agg (vlC x a), .ptr L.lu 0, .ptr L.lbl 0] h K
 exact ct_put1 q hn hn2 ⟨a,rfl,ha⟩ H
def loop1 (ops:List Int)(t:Dt):Dt:=end_ { t with s:=(one_ ops t.s).2 } 1 0 [t.blocks.length+1] 0 [t.blocks.length,t.blocks.length+2]
def loopS1 (ops:List Int)(t:Dt):Ds:=put (loop1 ops t).s (vl 21 0 0 0 [(one_ ops t.s).1,0] 0)
def loopG (ops:List Int)(t:Dt):Nat:=(one_ ops (loopS1 ops t)).1
def loopS2 (ops:List Int)(t:Dt):Ds:=put (one_ ops (loopS1 ops t)).2 (vl 21 0 0 0 [loopG ops t,t.s.vals.length] 0)
def loopS3 (ops:List Int)(t:Dt):Ds:={ loopS2 ops t with known:=(loopS2 ops t).known++[t.s.vals.length,t.s.vals.length+1] }
def loopS4 (ops:List Int)(t:Dt):Ds:=put (stateM ops (loopS3 ops t)).2 (vl 23 0 0 0 [] (stateM ops (loopS3 ops t)).1)
def loopS6 (ops:List Int)(t:Dt):Ds:=putK (put (loopS4 ops t) (vl 2 0 0 1 [] 0)) (vl 4 t.s.vals.length (t.s.vals.length+3) 0 [] 0)
def loop2 (ops:List Int)(t:Dt):Dt:=end_ { loop1 ops t with s:=loopS6 ops t } 2 t.s.vals.length [t.blocks.length+2,t.blocks.length+3] 0 [t.blocks.length+1]
def loopS8 (ops:List Int)(t:Dt):Ds:=setArgs (row ops (loop2 ops t).s) t.s.vals.length [(one_ ops t.s).1,t.s.vals.length+4]
def loopS9 (ops:List Int)(t:Dt):Ds:=if (num ops (loopS8 ops t) 3).1=0 then setArgs (num ops (loopS8 ops t) 3).2 t.s.vals.length [(one_ ops t.s).1,(row ops (loop2 ops t).s).known.getLastD 0] else (num ops (loopS8 ops t) 3).2
def loopS10 (ops:List Int)(t:Dt):Ds:=setArgs (loopS9 ops t) (t.s.vals.length+1) [loopG ops t,(row ops (loop2 ops t).s).known.getLastD 0]
def loop3 (ops:List Int)(t:Dt):Dt:=end_ { loop2 ops t with s:=cut (loopS6 ops t).known.length (loopS10 ops t) } 1 0 [t.blocks.length+1] 0 [t.blocks.length+1]
theorem loopS4_vals (ops:List Int)(t:Dt):∃x,(loopS4 ops t).vals=t.s.vals++[vl 21 0 0 0 [(one_ ops t.s).1,0] 0,vl 21 0 0 0 [loopG ops t,t.s.vals.length] 0,x]:=by
 refine ⟨vl 23 0 0 0 [] (stateM ops (loopS3 ops t)).1,?_⟩
 unfold loopS4
 rw [put,(state_sz ops (loopS3 ops t)).1]
 show (loopS2 ops t).vals++[_]=_
 unfold loopS2
 show ((loopS1 ops t).vals++[_])++[_]=_
 unfold loopS1
 show (((loop1 ops t).s.vals++[_])++[_])++[_]=_
 simp only [List.append_assoc,List.singleton_append,List.cons_append,List.nil_append]
 rfl
theorem loop_eq (ops:List Int)(t:Dt):loop ops t = { loop3 ops t with s:=row ops (loop3 ops t).s }:=by
 obtain ⟨x,hx⟩:=loopS4_vals ops t
 have e:(loopS4 ops t).vals.length=t.s.vals.length+3:=by rw [hx];simp
 unfold loop3 loopS10 loopS9 loopS8 loop2 loopS6
 rw [show t.s.vals.length+4=(t.s.vals.length+3)+1 from rfl,←e]
 rfl
theorem sh_loop (q:Dq F G h L ops t R)(ho:ops.length<9223372036854775808){n:Nat}(hn:Sm t.s n)(hn2:n<800)(hb:t.blocks.length<900){K:QP6}
  (H:∀F' h' R' s6,(∀l,F l→F' l)→Kp F (gm G L.lat) h h'→Dq F' G h' L ops (end_ { loop1 ops t with s:=s6 } 2 t.s.vals.length [t.blocks.length+2,t.blocks.length+3] 0 []) R'→Sm s6 (n+10)→
   s6=loopS6 ops t→
   s6.vals.length=t.s.vals.length+5→
   K (.int .i64 ((one_ ops t.s).1:Nat)) (.int .i64 (t.blocks.length+1:Nat)) (.int .i64 (t.s.vals.length:Nat)) (.int .i64 ((t.s.vals.length+1:Nat):Int)) (.int .i64 ((t.s.vals.length+4:Nat):Int)) (.int .i64 ((t.blocks.length+1:Nat):Int)) h') :
  oP (pLd (.ptr L.lkn 0) h) fun v211=>
  oP (pLd (.ptr L.lnext 0) h) fun v212=>
  oP (pLd (.ptr L.lkn 0) h) fun v213=>
  oP (pLen v213) fun v214=>
  calP CS (hcall v212 [v214]) h fun v215 h25=>
  (h.next≤h25.next∧
  oP (pIx 1 v211 v215) fun v216=>
  oP (pLd v216 h25) fun v217=>
  ((pLd (.ptr L.lkn 0) h25=some v211)∧
  oP (pFA 3 (.ptr L.lu 0)) fun v219=>
  oP (pLd v219 h25) fun v220=>
  oP (pLen v220) fun v221=>
  oP (hbin .add 3 v221 (V.int .i64 1)) fun v222=>
  alP (pBS 3 1 1 (V.int .i64 0) [(0,v222)]) h25 fun v223 h26=>
  oP (pBuild [V.nilSlice,(V.int .i64 0),(V.int .i64 0),V.nilSlice,V.nilSlice,(V.int .i64 0)] [(0,1),(1,1),(2,1),(3,1),(4,1),(5,1)] [(1,(V.int .i64 1)),(3,v223)]) fun v224=>
  calP CS (hcall (fEnd L) [v224]) h26 fun v225 h27=>
  oP (hbin .add 3 v225 (V.int .i64 1)) fun v227=>
  oP (hbin .add 3 v227 (V.int .i64 1)) fun v230=>
  alP (pBS 3 1 2 (V.int .i64 0) [(0,v225),(1,v230)]) h27 fun v231 h28=>
  oP (pFA 4 (.ptr L.lbl 0)) fun v232=>
  valP (pSt 1 v232 v231 h28) fun vu_6 h29=>
  oP (pLd (.ptr L.lput 0) h29) fun v233=>
  alP (pBS 3 1 2 (V.int .i64 0) [(0,v217),(1,(V.int .i64 0))]) h29 fun v235 h30=>
  oP (pBuild [(V.int .i64 0),(V.int .i64 0),(V.int .i64 0),(V.int .i64 0),V.nilSlice,(V.int .i64 0)] [(0,1),(1,1),(2,1),(3,1),(4,1),(5,1)] [(0,(V.int .i64 21)),(4,v235)]) fun v236=>
  calP CS (hcall v233 [v236]) h30 fun v237 h31=>
  oP (pLd (.ptr L.lput 0) h31) fun v238=>
  oP (pLd (.ptr L.lkn 0) h31) fun v239=>
  oP (pLd (.ptr L.lnext 0) h31) fun v240=>
  oP (pLd (.ptr L.lkn 0) h31) fun v241=>
  oP (pLen v241) fun v242=>
  calP CS (hcall v240 [v242]) h31 fun v243 h32=>
  (h31.next≤h32.next∧
  oP (pIx 1 v239 v243) fun v244=>
  oP (pLd v244 h32) fun v245=>
  alO (pBS 3 1 2 (V.int .i64 0) [(0,v245),(1,v237)]) h32 fun o9 v247 h33=>
  oP (pBuild [(V.int .i64 0),(V.int .i64 0),(V.int .i64 0),(V.int .i64 0),V.nilSlice,(V.int .i64 0)] [(0,1),(1,1),(2,1),(3,1),(4,1),(5,1)] [(0,(V.int .i64 21)),(4,v247)]) fun v248=>
  ((h33.get (h32.next)=some o9∧O.beq o9 o9=true)∧
  ((pLd v244 h33=some v245)∧
  ((pLd (.ptr L.lkn 0) h33=some v239)∧
  ((pLd (.ptr L.lput 0) h33=some v238)∧
  calP CS (hcall v238 [v248]) h33 fun v249 h34=>
  (h33.next≤h34.next∧
  oP (pLd (.ptr L.lkn 0) h34) fun v250=>
  alP (pBS 3 1 2 (V.int .i64 0) [(0,v237),(1,v249)]) h34 fun v253 h35=>
  valP (happend 3 1 8 v250 v253 h35) fun v254 h36=>
  valP (pSt 1 (.ptr L.lkn 0) v254 h36) fun vu_7 h37=>
  oP (pLd (.ptr L.lput 0) h37) fun v255=>
  oP (pLd (.ptr L.lst 0) h37) fun v256=>
  calP CS (hcall v256 []) h37 fun v257 h38=>
  (h37.next≤h38.next∧
  oP (pBuild [(V.int .i64 0),(V.int .i64 0),(V.int .i64 0),(V.int .i64 0),V.nilSlice,(V.int .i64 0)] [(0,1),(1,1),(2,1),(3,1),(4,1),(5,1)] [(0,(V.int .i64 23)),(5,v257)]) fun v258=>
  ((pLd (.ptr L.lput 0) h38=some v255)∧
  calP CS (hcall v255 [v258]) h38 fun v259 h39=>
  (h38.next≤h39.next∧
  oP (pLd (.ptr L.lput 0) h39) fun v260=>
  oP (pBuild [(V.int .i64 0),(V.int .i64 0),(V.int .i64 0),(V.int .i64 0),V.nilSlice,(V.int .i64 0)] [(0,1),(1,1),(2,1),(3,1),(4,1),(5,1)] [(0,(V.int .i64 2)),(3,(V.int .i64 1))]) fun v261=>
  calP CS (hcall v260 [v261]) h39 fun v262 h40=>
  oP (pLd (.ptr L.lput 0) h40) fun v263=>
  oP (pBuild [(V.int .i64 0),(V.int .i64 0),(V.int .i64 0),(V.int .i64 0),V.nilSlice,(V.int .i64 0)] [(0,1),(1,1),(2,1),(3,1),(4,1),(5,1)] [(0,(V.int .i64 4)),(1,v237),(2,v262)]) fun v266=>
  calP CS (hcall v263 [v266]) h40 fun v267 h41=>
  oP (pLd (.ptr L.lkn 0) h41) fun v268=>
  alP (pBS 3 1 1 (V.int .i64 0) [(0,v267)]) h41 fun v270 h42=>
  valP (happend 3 1 8 v268 v270 h42) fun v271 h43=>
  valP (pSt 1 (.ptr L.lkn 0) v271 h43) fun vu_8 h44=>
  oP (hbin .add 3 v227 (V.int .i64 1)) fun v275=>
  oP (hbin .add 3 v227 (V.int .i64 2)) fun v277=>
  alP (pBS 3 1 2 (V.int .i64 0) [(0,v275),(1,v277)]) h44 fun v278 h45=>
  oP (pBuild [V.nilSlice,(V.int .i64 0),(V.int .i64 0),V.nilSlice,V.nilSlice,(V.int .i64 0)] [(0,1),(1,1),(2,1),(3,1),(4,1),(5,1)] [(1,(V.int .i64 2)),(2,v237),(3,v278)]) fun v279=>
  calP CS (hcall (fEnd L) [v279]) h45 fun v280 h46=>K v217 v227 v237 v249 v267 v280 h46)))))))))))
   :=by
 have hk0:=hn.k0
 have hk:=hn.k
 have hv:=hn.v
 refine go_one q ho hn (by omega) fun h2 k2 q2=>?_
 refine oP_mk (pFA_ptr _ _ _) (oP_mk q2.D.ldB (oP_mk q2.D.ob.len (st_add (m:=1) (show t.blocks.length<_ by omega) (by omega) ?_)))
 have n2:Sm (one_ ops t.s).2 n:=hn.one
 refine go_endN q2 (show t.blocks.length<_ by omega) 1 0 [t.blocks.length+1] 0 rfl (fun _=>rfl) fun F4 h4 R4 f4 k4 q4=>?_
 refine st_add (n:=t.blocks.length) (m:=1) (by omega) (by omega) ?_
 refine st_add (n:=t.blocks.length+1) (m:=1) (by omega) (by omega) ?_
 refine go_preds q4 [t.blocks.length,t.blocks.length+2] rfl fun F6 h6 R6 f6 k6 q6=>?_
 have q6:=pkg (t':=end_ { t with s:=(one_ ops t.s).2 } 1 0 [t.blocks.length+1] 0 [t.blocks.length,t.blocks.length+2]) q6 rfl
 have n6:Sm (end_ { t with s:=(one_ ops t.s).2 } 1 0 [t.blocks.length+1] 0 [t.blocks.length,t.blocks.length+2]).s n:=n2.end_ (t:={ t with s:=(one_ ops t.s).2 }) _ _ _ _ _
 have e6b:(end_ { t with s:=(one_ ops t.s).2 } 1 0 [t.blocks.length+1] 0 [t.blocks.length,t.blocks.length+2]).blocks.length=t.blocks.length+1:=by simp [end_]
 have e6v:(end_ { t with s:=(one_ ops t.s).2 } 1 0 [t.blocks.length+1] 0 [t.blocks.length,t.blocks.length+2]).s.vals.length=t.s.vals.length:=rfl
 have kA:=kgm k2 (k4.trans k6 f4) fun _ h=>h
 have fA:∀l,F l→F6 l:=fun l hl=>f6 l (f4 l hl)
 generalize hz1:end_ { t with s:=(one_ ops t.s).2 } 1 0 [t.blocks.length+1] 0 [t.blocks.length,t.blocks.length+2]=t1 at *
 clear q2 q4 k2 k4 k6
 generalize hz2:(one_ ops t.s).1=fr at *
 refine oP_mk q6.ldPut ?_
 have e3:∀x y:Nat,pBS 3 1 2 (V.int .i64 0) [(0,V.int .i64 (x:Nat)),(1,V.int .i64 (y:Nat))]=some (.cells 3 1 true false (nats [x,y]),fun l=> .slice l 0 2):=fun _ _=>rfl
 have e3a:pBS 3 1 2 (V.int .i64 0) [(0,V.int .i64 (fr:Nat)),(1,V.int .i64 0)]=some (.cells 3 1 true false (nats [fr,0]),fun l=> .slice l 0 2):=e3 fr 0
 rw [e3a,alP_some]
 obtain ⟨q7,s7,k7⟩:=nx_new q6 [fr,0]
 generalize h6.new (.cells 3 1 true false (nats [fr,0]))=h7 at *
 have eP:∀(x y n:Nat),pBuild [(V.int .i64 0),(V.int .i64 0),(V.int .i64 0),(V.int .i64 0),V.nilSlice,(V.int .i64 0)] [(0,1),(1,1),(2,1),(3,1),(4,1),(5,1)] [(0,(V.int .i64 21)),(4, .slice n 0 2)]=some (.agg (vlC (vl 21 0 0 0 [x,y] 0) (.slice n 0 2))):=fun _ _ _=>rfl
 refine oP_mk (eP fr 0 _) ?_
 refine go_put q7 n6 (by omega) (vl 21 0 0 0 [fr,0] 0) s7 rfl fun h8 R8 k8 _ q8=>?_
 have n8:=n6.put (vl 21 0 0 0 [fr,0] 0)
 have e8v:(put t1.s (vl 21 0 0 0 [fr,0] 0)).vals.length=t.s.vals.length+1:=by simp [put,e6v]
 rw [e6v]
 generalize hz3:put t1.s (vl 21 0 0 0 [fr,0] 0)=s1 at *
 have kB:Kp F (gm G L.lat) h h8:=kA.trans ((k7.gm L.lat).trans (k8.gm L.lat) (fz_le _ _)) fA
 have fB:∀l,F l→fz F6 h6.next l:=fun l hl=>fz_le _ _ l (fA l hl)
 clear kA k7 k8 q6 q7 s7
 refine oP_mk q8.ldPut (oP_mk q8.D.ldK (oP_mk q8.ldNext (oP_mk q8.D.ldK (oP_mk q8.D.ok.len ?_))))
 show cP CS n_turnstonehand_Unit_2 [.int .i64 (s1.known.length:Nat), .ptr L.lat 0, .ptr L.lr 0] h8 _
 refine ct_one q8 ho n8 (by omega) fun h9 l9 o9 k9 q9 hl9 i1 i2=>⟨k9.next,oP_mk i1 (oP_mk i2 ?_)⟩
 have i2:pLd (.ptr l9 o9) h9=some (.int .i64 ((one_ ops s1).1:Nat)):=i2
 have q9:Dq (fz F6 h6.next) G h9 L ops { t1 with s:=(one_ ops s1).2 } R8:=q9
 have n9:=n8.one (ops:=ops)
 have e9v:(one_ ops s1).2.vals.length=t.s.vals.length+1:=e8v
 show alO (pBS 3 1 2 (V.int .i64 0) [(0,V.int .i64 ((one_ ops s1).1:Nat)),(1,V.int .i64 (t.s.vals.length:Nat))]) h9 _
 have eW:∀s:Ds,one_ ops s=((one_ ops s).1,(one_ ops s).2):=fun _=>rfl
 generalize hz4:(one_ ops s1).2=sg at *
 generalize hz5:(one_ ops s1).1=g at *
 rw [e3,alO_some]
 obtain ⟨q10,s10,k10⟩:=nx_new q9 [g,t.s.vals.length]
 have g10:(h9.new (.cells 3 1 true false (nats [g,t.s.vals.length]))).get h9.next=_:=get_new_self _ _
 refine oP_mk (eP g t.s.vals.length _) ⟨⟨g10,O.beq_cells _ _ _ _ _⟩,pLd_keep i2 (get_new_lt _ hl9),q10.D.ldK,q10.ldPut,?_⟩
 generalize h9.new (.cells 3 1 true false (nats [g,t.s.vals.length]))=h10 at *
 refine go_put q10 n9 (by omega) (vl 21 0 0 0 [g,t.s.vals.length] 0) s10 rfl fun h11 R11 k11 _ q11=>⟨k11.next,?_⟩
 have n11:=n9.put (vl 21 0 0 0 [g,t.s.vals.length] 0)
 have e11v:(put sg (vl 21 0 0 0 [g,t.s.vals.length] 0)).vals.length=t.s.vals.length+2:=by simp [put,e9v]
 have e10:(({ t1 with s:=sg } : Dt).s.vals.length:Nat)=t.s.vals.length+1:=e9v
 rw [e10]
 generalize hz6:put sg (vl 21 0 0 0 [g,t.s.vals.length] 0)=s2 at *
 have q11:Dq (fz (fz F6 h6.next) h9.next) G h11 L ops { t1 with s:=s2 } R11:=q11
 have kC:Kp F (gm G L.lat) h h11:=kB.trans (k9.trans ((k10.gm L.lat).trans (k11.gm L.lat) (fz_le _ _)) fun _ h=>h) fB
 have fC:∀l,F l→fz (fz F6 h6.next) h9.next l:=fun l hl=>fz_le _ _ l (fB l hl)
 clear kB k9 k10 k11 q8 q9 q10 s10
 generalize fz (fz F6 h6.next) h9.next=FC at *
 refine go_app q11 n11 (by omega) [t.s.vals.length,t.s.vals.length+1] (by simp) (by simp) (e3 _ _) fun h12 R12 k12 q12=>?_
 have n12:=n11.app [t.s.vals.length,t.s.vals.length+1]
 have e12v:({ s2 with known:=s2.known++[t.s.vals.length,t.s.vals.length+1] } : Ds).vals.length=t.s.vals.length+2:=e11v
 have q12:Dq FC G h12 L ops { t1 with s:={ s2 with known:=s2.known++[t.s.vals.length,t.s.vals.length+1] } } R12:=q12
 generalize hz7:({ s2 with known:=s2.known++[t.s.vals.length,t.s.vals.length+1] } : Ds)=s3 at *
 have n12:Sm s3 (n+4):=n12
 refine oP_mk q12.ldPut (oP_mk q12.ldState ?_)
 refine go_state q12 ho n12 (by omega) fun F13 h13 R13 f13 k13 q13 n13=>⟨k13.next,?_⟩
 have x13:=state_sz ops s3
 have e13v:(stateM ops s3).2.vals.length=t.s.vals.length+2:=by rw [x13.1];exact e12v
 have q13:Dq F13 G h13 L ops { t1 with s:=(stateM ops s3).2 } R13:=q13
 have n13:Sm (stateM ops s3).2 (n+4+1):=n13
 show oP (pBuild _ _ [(0,V.int .i64 23),(5, .int .i64 ((stateM ops s3).1:Nat))]) _
 generalize hz8:(stateM ops s3).2=s4 at *
 generalize hz9:(stateM ops s3).1=sn at *
 have eS:pBuild [(V.int .i64 0),(V.int .i64 0),(V.int .i64 0),(V.int .i64 0),V.nilSlice,(V.int .i64 0)] [(0,1),(1,1),(2,1),(3,1),(4,1),(5,1)] [(0,(V.int .i64 23)),(5, .int .i64 (sn:Nat))]=some (.agg (vlC (vl 23 0 0 0 [] sn) .nilSlice)):=rfl
 refine oP_mk eS ⟨q13.ldPut,?_⟩
 refine go_put q13 n13 (by omega) (vl 23 0 0 0 [] sn) .nil rfl fun h14 R14 k14 _ q14=>⟨k14.next,?_⟩
 have n14:=n13.put (vl 23 0 0 0 [] sn)
 have e14v:(put s4 (vl 23 0 0 0 [] sn)).vals.length=t.s.vals.length+3:=by simp [put,e13v]
 have q14:Dq F13 G h14 L ops { t1 with s:=put s4 (vl 23 0 0 0 [] sn) } R14:=q14
 generalize hz10:put s4 (vl 23 0 0 0 [] sn)=s5 at *
 refine oP_mk q14.ldPut ?_
 have eO:pBuild [(V.int .i64 0),(V.int .i64 0),(V.int .i64 0),(V.int .i64 0),V.nilSlice,(V.int .i64 0)] [(0,1),(1,1),(2,1),(3,1),(4,1),(5,1)] [(0,(V.int .i64 2)),(3,(V.int .i64 1))]=some (.agg (vlC (vl 2 0 0 1 [] 0) .nilSlice)):=rfl
 refine oP_mk eO ?_
 refine go_put q14 n14 (by omega) (vl 2 0 0 1 [] 0) .nil rfl fun h15 R15 k15 _ q15=>?_
 have n15:=n14.put (vl 2 0 0 1 [] 0)
 have e15v:(put s5 (vl 2 0 0 1 [] 0)).vals.length=t.s.vals.length+4:=by simp [put,e14v]
 have e14:(({ t1 with s:=s5 } : Dt).s.vals.length:Nat)=t.s.vals.length+3:=e14v
 rw [e14]
 have q15:Dq F13 G h15 L ops { t1 with s:=put s5 (vl 2 0 0 1 [] 0) } R15:=q15
 generalize hz11:put s5 (vl 2 0 0 1 [] 0)=s6 at *
 refine oP_mk q15.ldPut ?_
 have eUn:∀p o:Nat,pBuild [(V.int .i64 0),(V.int .i64 0),(V.int .i64 0),(V.int .i64 0),V.nilSlice,(V.int .i64 0)] [(0,1),(1,1),(2,1),(3,1),(4,1),(5,1)] [(0,(V.int .i64 4)),(1, .int .i64 (p:Nat)),(2, .int .i64 (o:Nat))]=some (.agg (vlC (vl 4 p o 0 [] 0) .nilSlice)):=fun _ _=>rfl
 refine oP_mk (eUn _ _) ?_
 refine go_put q15 n15 (by omega) (vl 4 t.s.vals.length (t.s.vals.length+3) 0 [] 0) .nil rfl fun h16 R16 k16 _ q16=>?_
 have n16:=n15.put (vl 4 t.s.vals.length (t.s.vals.length+3) 0 [] 0)
 have e15:(({ t1 with s:=s6 } : Dt).s.vals.length:Nat)=t.s.vals.length+4:=e15v
 rw [e15]
 refine go_app q16 n16 (by omega) [t.s.vals.length+4] (by simp) (by simp) rfl fun h17 R17 k17 q17=>?_
 have n17:=n16.app [t.s.vals.length+4]
 have e17:({ ({ t1 with s:=put s6 (vl 4 t.s.vals.length (t.s.vals.length+3) 0 [] 0) } : Dt).s with known:=({ t1 with s:=put s6 (vl 4 t.s.vals.length (t.s.vals.length+3) 0 [] 0) } : Dt).s.known++[t.s.vals.length+4] } : Ds)=putK s6 (vl 4 t.s.vals.length (t.s.vals.length+3) 0 [] 0):=by
  unfold putK put
  simp only [e15v]
 have q17:Dq F13 G h17 L ops { t1 with s:=putK s6 (vl 4 t.s.vals.length (t.s.vals.length+3) 0 [] 0) } R17:=by rw [←e17];exact q17
 have n17:Sm (putK s6 (vl 4 t.s.vals.length (t.s.vals.length+3) 0 [] 0)) (n+10):=by rw [←e17];exact n17.le (by simp <;> omega)
 have e17v:(putK s6 (vl 4 t.s.vals.length (t.s.vals.length+3) 0 [] 0)).vals.length=t.s.vals.length+5:=by simp [putK,e15v]
 refine st_add (n:=t.blocks.length+1) (m:=1) (by omega) (by omega) ?_
 refine st_add (n:=t.blocks.length+1) (m:=2) (by omega) (by omega) ?_
 refine go_endN q17 (show t1.blocks.length<_ by omega) 2 t.s.vals.length [t.blocks.length+2,t.blocks.length+3] 0 rfl (fun _=>rfl) fun F18 h18 R18 f18 k18 q18=>?_
 have e18b:(({ t1 with s:=putK s6 (vl 4 t.s.vals.length (t.s.vals.length+3) 0 [] 0) } : Dt).blocks.length:Nat)=t.blocks.length+1:=e6b
 rw [e18b]
 have kD:Kp F (gm G L.lat) h h18:=((kC.trans ((k12.gm L.lat).trans k13 fun _ h=>h) fC).trans (F':=F13) ((((k14.gm L.lat).trans (k15.gm L.lat) fun _ h=>h).trans (k16.gm L.lat) fun _ h=>h).trans (k17.gm L.lat) fun _ h=>h) fun l hl=>f13 l (fC l hl)).trans (F':=F13) (k18.gm L.lat) fun l hl=>f13 l (fC l hl)
 subst hz1 hz2 hz3 hz4 hz5 hz6 hz7 hz8 hz9 hz10 hz11
 exact H F18 h18 R18 _ (fun l hl=>f18 l (f13 l (fC l hl))) kD q18 n17 rfl e17v
end
end Go.Proofs.YtiepamfpilhcjaaDoor.Hx
namespace Go.Proofs.YtiepamfpilhcjaaDoor.Hx
open Go.Proofs.YtiepamfpilhcjaaDoor.Un
theorem loopS6_vals (ops:List Int)(t:Dt):(loopS6 ops t).vals[t.s.vals.length+1]? = some (vl 21 0 0 0 [loopG ops t,t.s.vals.length] 0)∧(loopS6 ops t).vals.length=t.s.vals.length+5:=by
 obtain ⟨x,hx⟩:=loopS4_vals ops t
 unfold loopS6
 simp only [putK,put,hx]
 constructor
 ·rw [List.append_assoc,List.append_assoc,List.getElem?_append_right (by omega),Nat.add_sub_cancel_left]
  rfl
 ·simp
theorem loopS9_vals (ops:List Int)(t:Dt):(loopS9 ops t).vals[t.s.vals.length+1]? = some (vl 21 0 0 0 [loopG ops t,t.s.vals.length] 0)∧t.s.vals.length+5≤(loopS9 ops t).vals.length∧(loopS9 ops t).known=(row ops (loop2 ops t).s).known:=by
 obtain ⟨h1,h2⟩:=loopS6_vals ops t
 obtain ⟨_,l,hl⟩:=row_ext ops (loop2 ops t).s
 have e0:(loop2 ops t).s.vals=(loopS6 ops t).vals:=rfl
 have h3:(row ops (loop2 ops t).s).vals[t.s.vals.length+1]? = some (vl 21 0 0 0 [loopG ops t,t.s.vals.length] 0):=by
  rw [hl,e0,List.getElem?_append_left (by omega)];exact h1
 have h4:t.s.vals.length+5≤(row ops (loop2 ops t).s).vals.length:=by rw [hl,e0,List.length_append];omega
 have key:∀(s:Ds) (l:List Nat),s.vals[t.s.vals.length+1]? = some (vl 21 0 0 0 [loopG ops t,t.s.vals.length] 0)→(setArgs s t.s.vals.length l).vals[t.s.vals.length+1]? = some (vl 21 0 0 0 [loopG ops t,t.s.vals.length] 0):=by
  intro s l hs
  show (s.vals.modify t.s.vals.length _)[t.s.vals.length+1]? = _
  rw [List.getElem?_modify,hs]
  show some (if _ then _ else _)=_
  rw [if_neg (by omega)]
 have h5:=key _ [(one_ ops t.s).1,t.s.vals.length+4] h3
 have h6:t.s.vals.length+5≤(loopS8 ops t).vals.length:=by unfold loopS8;rw [(set_sz _ _ _).1];exact h4
 have hn:(num ops (loopS8 ops t) 3).2.vals=(loopS8 ops t).vals:=rfl
 unfold loopS9
 split
 ·exact ⟨key _ _ (by rw [hn];exact h5),by rw [(set_sz _ _ _).1,hn];exact h6,rfl⟩
 ·exact ⟨by rw [hn];exact h5,by rw [hn];exact h6,rfl⟩
section
variable {F F' G G' : Nat→Prop} {h h' : Hp} {L:Lc} {ops:List Int} {t t' : Dt} {R R' : Rw} {Q:QP1}
theorem nx2 (x y:Nat):pBS 3 1 2 (V.int .i64 0) [(0,V.int .i64 (x:Nat)),(1,V.int .i64 (y:Nat))]=some (.cells 3 1 true false (nats [x,y]),fun l=> .slice l 0 2):=rfl
theorem sh_back (ho:ops.length<9223372036854775808){n:Nat}(hn:Sm (loopS9 ops t) n)(hn2:n<880)(hb:t.blocks.length<900)(q:Dq F G h L ops { loop2 ops t with s:=loopS9 ops t } R){K:Hp→Prop}
  (H:∀F' h' R',(∀l,F l→F' l)→Kp F (gm G L.lat) h h'→Dq F' G h' L ops (loop ops t) R'→Sm (loop ops t).s (n+6)→K h') :
  oP (pFA 2 (.ptr L.lu 0)) fun v312=>
  oP (pLd v312 h) fun v313=>
  oP (pFA 2 (.ptr L.lu 0)) fun v315=>
  oP (pLd v315 h) fun v316=>
  oP (pIx 6 v316 (.int .i64 ((t.s.vals.length+1:Nat):Int))) fun v318=>
  oP (pFA 4 v318) fun v319=>
  oP (pLd v319 h) fun v320=>
  oP (pIx 1 v320 (V.int .i64 0)) fun v321=>
  oP (pLd v321 h) fun v322=>
  oP (pLd (.ptr L.lkn 0) h) fun v323=>
  oP (pLd (.ptr L.lkn 0) h) fun v324=>
  oP (pLen v324) fun v325=>
  oP (hbin .sub 3 v325 (V.int .i64 1)) fun v326=>
  oP (pIx 1 v323 v326) fun v327=>
  oP (pLd v327 h) fun v328=>
  alO (pBS 3 1 2 (V.int .i64 0) [(0,v322),(1,v328)]) h fun o17 v329 h1=>
  oP (pIx 6 v313 (.int .i64 ((t.s.vals.length+1:Nat):Int))) fun v330=>
  oP (pFA 4 v330) fun v331=>
  ((h1.get (h.next)=some o17∧O.beq o17 o17=true)∧
  ((pLd v327 h1=some v328)∧
  ((pLd (.ptr L.lkn 0) h1=some v324)∧
  ((pLd (.ptr L.lkn 0) h1=some v323)∧
  ((pLd v321 h1=some v322)∧
  ((pLd v319 h1=some v320)∧
  ((pLd v315 h1=some v316)∧
  ((pLd v312 h1=some v313)∧
  valP (pSt 1 v331 v329 h1) fun vu h2=>
  (h1.next≤h2.next∧
  oP (pLd (.ptr L.lkn 0) h2) fun v332=>
  oP (hsliceV 1 v332 none (some (.int .i64 ((loopS6 ops t).known.length:Nat))) h2) fun v334=>
  valP (pSt 1 (.ptr L.lkn 0) v334 h2) fun vu_1 h3=>
  alP (pBS 3 1 1 (V.int .i64 0) [(0,(.int .i64 ((t.blocks.length+1:Nat):Int)))]) h3 fun v337 h4=>
  oP (pBuild [V.nilSlice,(V.int .i64 0),(V.int .i64 0),V.nilSlice,V.nilSlice,(V.int .i64 0)] [(0,1),(1,1),(2,1),(3,1),(4,1),(5,1)] [(1,(V.int .i64 1)),(3,v337)]) fun v338=>
  calP CS (hcall (fEnd L) [v338]) h4 fun v339 h5=>
  alP (pBS 3 1 1 (V.int .i64 0) [(0,(.int .i64 ((t.blocks.length+1:Nat):Int)))]) h5 fun v341 h6=>
  oP (pFA 4 (.ptr L.lbl 0)) fun v342=>
  valP (pSt 1 v342 v341 h6) fun vu_2 h7=>
  calP CS (hcall (fRow L) []) h7 fun v344 h8=>K h8))))))))):=by
 obtain ⟨y1,y2,y3⟩:=loopS9_vals ops t
 have hl6:=(row_ext ops (loop2 ops t).s).kl
 have hl7:(loopS6 ops t).known.length≤(loopS9 ops t).known.length:=by rw [y3];exact hl6
 have hk:=hn.k
 have hk0:=hn.k0
 have hc0:0<(loopS6 ops t).known.length:=by
  show 0<(_++[_]).length
  simp
 have hlt:t.s.vals.length+1<({ loop2 ops t with s:=loopS9 ops t } : Dt).s.vals.length:=by show _<(loopS9 ops t).vals.length;omega
 have eg:(loopS9 ops t).vals[t.s.vals.length+1]'(by omega)=vl 21 0 0 0 [loopG ops t,t.s.vals.length] 0:=by
  rw [List.getElem?_eq_getElem (by omega)] at y1
  exact Option.some.inj y1
 have hbl:({ loop2 ops t with s:=loopS9 ops t } : Dt).blocks.length=t.blocks.length+2:=by simp [loop2,loop1,end_]
 refine oP_mk (pFA_ptr _ _ _) (oP_mk q.D.ldV (oP_mk (pFA_ptr _ _ _) (oP_mk q.D.ldV ?_)))
 obtain ⟨l1,o1,w1,hl1,i1,i2,i3,i4⟩:=q.D.ov.read.ix hlt .i64
 obtain ⟨wa,hwa,sa⟩:=i3
 rw [eg] at hwa sa
 have ia:=i4 4 wa (by rw [hwa];rfl)
 have i1:pIx 6 R.vv (.int .i64 ((t.s.vals.length+1:Nat):Int))=some (.ptr l1 o1):=i1
 refine oP_mk i1 (oP_mk (pFA_ptr _ _ _) (oP_mk ia ?_))
 have hl1' : l1<h.next:=hl1.elim (q.D.fl l1) fun h=>(q.D.ov.tyOf h).2.1
 obtain ⟨l2,o2,u2,hl2,j1,j2,j3⟩:=sa.ix1 (i:=0) (by simp [vl]) .i64 rfl
 have hl2' : l2<h.next:=hl2.elim (q.D.fl l2) fun h=>(q.D.ov.tyOf h).2.1
 obtain ⟨rfl⟩:u2 = .int .i64 (loopG ops t:Nat):=by
  have:[u2]=[V.int .i64 (loopG ops t:Nat)]:=j3
  simpa using this
 refine oP_mk j1 (oP_mk j2 ?_)
 obtain ⟨l3,o3,hl3,_,m1,m2⟩:=q.knownAt (i:=(loopS9 ops t).known.length - 1) (by show _<(loopS9 ops t).known.length;omega)
 have m3:pLd (.ptr l3 o3) h=some (.int .i64 ((loopS9 ops t).known.getLastD 0:Nat)):=by rw [m2];show some (V.int .i64 (((loopS9 ops t).known.getD _ 0:Nat):Int))=_;rw [getLastD_getD _ hk0]
 refine oP_mk q.D.ldK (oP_mk q.D.ldK (oP_mk q.D.ok.len (st_sub1 (by show (loopS9 ops t).known.length<_;omega) hk0 (oP_mk m1 (oP_mk m3 ?_)))))
 rw [nx2,alO_some]
 obtain ⟨q1,s1,k1⟩:=nx_new q [loopG ops t,(loopS9 ops t).known.getLastD 0]
 have g1:(h.new (.cells 3 1 true false (nats [loopG ops t,(loopS9 ops t).known.getLastD 0]))).get h.next=_:=get_new_self _ _
 refine oP_mk i1 (oP_mk (pFA_ptr _ _ _) ?_)
 refine ⟨⟨g1,O.beq_cells _ _ _ _ _⟩,pLd_keep m3 (get_new_lt _ hl3),q1.D.ldK,q1.D.ldK,pLd_keep j2 (get_new_lt _ hl2'),pLd_keep ia (get_new_lt _ hl1'),q1.D.ldV,q1.D.ldV,?_⟩
 obtain ⟨l4,h4,a1,a2,a3,a4,D4⟩:=q1.D.setA (p:=t.s.vals.length+1) hlt s1
 have e4:V.ptr l1 (o1+4)=V.ptr l4 ((t.s.vals.length+1) * 6+4):=by
  have:(V.ptr l1 o1)=V.ptr l4 ((t.s.vals.length+1) * 6):=Option.some.inj (i1.symm.trans a1)
  cases this
  rfl
 rw [e4]
 simp only [List.length_cons,List.length_nil,Nat.zero_add] at a2
 rw [a2,valP_some]
 refine ⟨a3,?_⟩
 have q4:=pkg (t':={ loop2 ops t with s:=loopS10 ops t }) (q1.step a4 D4 (fun _ h=>h) q.gl q1.hq rfl) (by
  unfold loopS10
  rw [y3])
 have n10:Sm (loopS10 ops t) n:=hn.setArgs _ _
 refine go_cut q4 (m:=(loopS6 ops t).known.length) hl7 fun h5 R5 k5 q5=>?_
 have n5:Sm (cut (loopS6 ops t).known.length (loopS10 ops t)) n:=n10.cut hc0 hl7
 refine go_endN q5 (show ({ loop2 ops t with s:=loopS9 ops t } : Dt).blocks.length<_ by omega) 1 0 [t.blocks.length+1] 0 rfl (fun _=>rfl) fun F6 h6 R6 f6 k6 q6=>?_
 refine go_preds q6 [t.blocks.length+1] rfl fun F7 h7 R7 f7 k7 q7=>?_
 have q7:=pkg (t':=loop3 ops t) q7 rfl
 have n7:Sm (loop3 ops t).s n:=n5.end_ (t:={ loop2 ops t with s:=cut (loopS6 ops t).known.length (loopS10 ops t) }) _ _ _ _ _
 refine go_row q7 ho n7 (by omega) fun F8 h8 R8 f8 k8 q8 n8=>?_
 have ff:∀l,F l→F7 l:=fun l hl=>f7 l (f6 l (fz_le _ _ l hl))
 refine H F8 h8 R8 (fun l hl=>f8 l (ff l hl)) ?_ (pkg q8 (loop_eq ops t).symm) (by rw [loop_eq];exact n8)
 have kk:=(((k1.gm L.lat).trans (a4.gm L.lat) (fz_le _ _)).trans (F':=fz F h.next) ((k5.gm L.lat).trans (k6.gm L.lat) fun _ h=>h) (fz_le _ _)).trans (F':=F6) (k7.gm L.lat) fun l hl=>f6 l (fz_le _ _ l hl)
 exact kk.trans k8 ff
theorem sh_body (ho:ops.length<9223372036854775808){n:Nat}(hn:Sm (loopS6 ops t) n)(hn2:n<860)(hb:t.blocks.length<900)
  (q:Dq F G h L ops (end_ { loop1 ops t with s:=loopS6 ops t } 2 t.s.vals.length [t.blocks.length+2,t.blocks.length+3] 0 []) R) {K:QP1}
  (H:∀F' h' R',(∀l,F l→F' l)→Kp F (gm G L.lat) h h'→Dq F' G h' L ops { loop2 ops t with s:=loopS9 ops t } R'→Sm (loopS9 ops t) (n+6)→K (.int .i64 ((loopS6 ops t).known.length:Nat)) h') :
  oP (pLd (.ptr L.lkn 0) h) fun v281=>
  oP (pLen v281) fun v282=>
  alP (pBS 3 1 1 (V.int .i64 0) [(0,(.int .i64 ((t.blocks.length+1:Nat):Int)))]) h fun v284 h47=>
  oP (pFA 4 (.ptr L.lbl 0)) fun v285=>
  valP (pSt 1 v285 v284 h47) fun vu_9 h48=>
  calP CS (hcall (fRow L) []) h48 fun v287 h49=>
  oP (pFA 2 (.ptr L.lu 0)) fun v288=>
  oP (pLd v288 h49) fun v289=>
  alP (pBS 3 1 2 (V.int .i64 0) [(0,(.int .i64 ((one_ ops t.s).1:Nat))),(1,(.int .i64 ((t.s.vals.length+4:Nat):Int)))]) h49 fun v293 h50=>
  oP (pIx 6 v289 (.int .i64 (t.s.vals.length:Nat))) fun v294=>
  oP (pFA 4 v294) fun v295=>
  valP (pSt 1 v295 v293 h50) fun vu_10 h51=>
  oP (pLd (.ptr L.lnext 0) h51) fun v296=>
  calP CS (hcall v296 [(V.int .i64 3)]) h51 fun v297 h52=>
  oP (hbin .eql 3 v297 (V.int .i64 0)) fun v298=>
  bP v298 (
  oP (pFA 2 (.ptr L.lu 0)) fun v299=>
  oP (pLd v299 h52) fun v300=>
  oP (pLd (.ptr L.lkn 0) h52) fun v303=>
  oP (pLd (.ptr L.lkn 0) h52) fun v304=>
  oP (pLen v304) fun v305=>
  oP (hbin .sub 3 v305 (V.int .i64 1)) fun v306=>
  oP (pIx 1 v303 v306) fun v307=>
  oP (pLd v307 h52) fun v308=>
  alO (pBS 3 1 2 (V.int .i64 0) [(0,(.int .i64 ((one_ ops t.s).1:Nat))),(1,v308)]) h52 fun o10 v309 h53=>
  oP (pIx 6 v300 (.int .i64 (t.s.vals.length:Nat))) fun v310=>
  oP (pFA 4 v310) fun v311=>
  ((h53.get (h52.next)=some o10∧O.beq o10 o10=true)∧
  ((pLd v307 h53=some v308)∧
  ((pLd (.ptr L.lkn 0) h53=some v304)∧
  ((pLd (.ptr L.lkn 0) h53=some v303)∧
  ((pLd v299 h53=some v300)∧
  valP (pSt 1 v311 v309 h53) fun vu_11 h54=>
  (h53.next≤h54.next∧K v282 h54)))))))
  (K v282 h52):=by
 obtain ⟨_,z2⟩:=loopS6_vals ops t
 have hk:=hn.k
 have hk0:=hn.k0
 refine oP_mk q.D.ldK (oP_mk q.D.ok.len ?_)
 refine go_preds q [t.blocks.length+1] rfl fun F1 h1 R1 f1 k1 q1=>?_
 have q1:=pkg (t':=loop2 ops t) q1 rfl
 have n1:Sm (loop2 ops t).s n:=hn.end_ (t:={ loop1 ops t with s:=loopS6 ops t }) _ _ _ _ _
 refine go_row q1 ho n1 (by omega) fun F2 h2 R2 f2 k2 q2 n2=>?_
 obtain ⟨_,l,hl⟩:=row_ext ops (loop2 ops t).s
 have e0:(loop2 ops t).s.vals=(loopS6 ops t).vals:=rfl
 have h4:t.s.vals.length+5≤(row ops (loop2 ops t).s).vals.length:=by rw [hl,e0,List.length_append];omega
 refine oP_mk (pFA_ptr _ _ _) (oP_mk q2.D.ldV ?_)
 rw [nx2,alP_some]
 obtain ⟨q3,s3,k3⟩:=nx_new q2 [(one_ ops t.s).1,t.s.vals.length+4]
 obtain ⟨l4,h4',a1,a2,a3,a4,D4⟩:=q3.D.setA (p:=t.s.vals.length) (by show _<(row ops (loop2 ops t).s).vals.length;omega) s3
 refine oP_mk a1 (oP_mk (pFA_ptr _ _ _) ?_)
 simp only [List.length_cons,List.length_nil,Nat.zero_add] at a2
 rw [a2,valP_some]
 have q4:Dq (fz F2 h2.next) G h4' L ops { loop2 ops t with s:=loopS8 ops t } R2:=q3.step a4 D4 (fun _ h=>h) q.gl q3.hq rfl
 have n4:Sm (loopS8 ops t) (n+6):=n2.setArgs _ _
 refine oP_mk q4.ldNext ?_
 show cP CS n_turnstonehand_Unit_2 [.int .i64 ((3:Nat):Int), .ptr L.lat 0, .ptr L.lr 0] h4' _
 refine ct_next q4 (by decide) (by decide) ho fun h5 k5 q5=>?_
 have q5:Dq (fz F2 h2.next) G h5 L ops { loop2 ops t with s:=(num ops (loopS8 ops t) 3).2 } R2:=q5
 have n5:Sm (num ops (loopS8 ops t) 3).2 (n+6):=n4.num 3
 have ff:∀l,F l→fz F2 h2.next l:=fun l hl=>fz_le _ _ l (f2 l (f1 l hl))
 have kk:Kp F (gm G L.lat) h h5:=(((k1.gm L.lat).trans k2 f1).trans ((k3.gm L.lat).trans (a4.gm L.lat) (fz_le _ _)) fun l hl=>f2 l (f1 l hl)).trans k5 ff
 show oP (hbin .eql 3 (.int .i64 ((num ops (loopS8 ops t) 3).1:Nat)) (V.int .i64 0)) _
 by_cases hd:(num ops (loopS8 ops t) 3).1=0
 ·refine st_eq (if_t (by omega) ?_)
  have e9:loopS9 ops t=setArgs (num ops (loopS8 ops t) 3).2 t.s.vals.length [(one_ ops t.s).1,(row ops (loop2 ops t).s).known.getLastD 0]:=by unfold loopS9;rw [if_pos hd]
  have hk5:=n5.k
  have hk50:=n5.k0
  have ekn:(num ops (loopS8 ops t) 3).2.known=(row ops (loop2 ops t).s).known:=rfl
  refine oP_mk (pFA_ptr _ _ _) (oP_mk q5.D.ldV ?_)
  obtain ⟨l3,o3,hl3,_,m1,m2⟩:=q5.knownAt (i:=(num ops (loopS8 ops t) 3).2.known.length - 1) (by show _<(num ops (loopS8 ops t) 3).2.known.length;omega)
  have m3:pLd (.ptr l3 o3) h5=some (.int .i64 ((row ops (loop2 ops t).s).known.getLastD 0:Nat)):=by
   rw [m2,←ekn]
   show some (V.int .i64 (((num ops (loopS8 ops t) 3).2.known.getD _ 0:Nat):Int))=_
   rw [getLastD_getD _ hk50]
  refine oP_mk q5.D.ldK (oP_mk q5.D.ldK (oP_mk q5.D.ok.len (st_sub1 (by show (num ops (loopS8 ops t) 3).2.known.length<_;omega) hk50 (oP_mk m1 (oP_mk m3 ?_)))))
  rw [nx2,alO_some]
  obtain ⟨q6,s6,k6⟩:=nx_new q5 [(one_ ops t.s).1,(row ops (loop2 ops t).s).known.getLastD 0]
  have g6:(h5.new (.cells 3 1 true false (nats [(one_ ops t.s).1,(row ops (loop2 ops t).s).known.getLastD 0]))).get h5.next=_:=get_new_self _ _
  obtain ⟨l7,h7,b1,b2,b3,b4,D7⟩:=q6.D.setA (p:=t.s.vals.length) (by
   show _<(loopS8 ops t).vals.length
   unfold loopS8
   rw [(set_sz _ _ _).1];omega) s6
  refine oP_mk b1 (oP_mk (pFA_ptr _ _ _) ?_)
  refine ⟨⟨g6,O.beq_cells _ _ _ _ _⟩,pLd_keep m3 (get_new_lt _ hl3),q6.D.ldK,q6.D.ldK,q6.D.ldV,?_⟩
  simp only [List.length_cons,List.length_nil,Nat.zero_add] at b2
  rw [b2,valP_some]
  have q7:=pkg (t':={ loop2 ops t with s:=loopS9 ops t }) (q6.step b4 D7 (fun _ h=>h) q.gl q6.hq rfl) (by rw [e9])
  refine ⟨b3,H _ _ _ (fun l hl=>fz_le _ _ l (ff l hl)) (kk.trans ((k6.gm L.lat).trans (b4.gm L.lat) (fz_le _ _)) ff) q7 ?_⟩
  rw [e9]
  exact n5.setArgs _ _
 ·refine st_eq (if_f (by omega) ?_)
  have e9:loopS9 ops t=(num ops (loopS8 ops t) 3).2:=by unfold loopS9;rw [if_neg hd]
  exact H _ _ _ ff kk (pkg q5 (by rw [e9])) (by rw [e9];exact n5)
end
end Go.Proofs.YtiepamfpilhcjaaDoor.Hx
namespace Go.Proofs.YtiepamfpilhcjaaDoor.Hx
open Go.Proofs.YtiepamfpilhcjaaDoor.Un
def uC (u:U)(v b s:V):List V:=[.int .i64 u.func, .int .i64 u.pc,v,b,s]
def eUn:Enc U where
 sz:=5
 rel F h u cs:=∃v b s,cs=uC u v b s∧SlR eV F h u.vals v∧SlR eK F h u.blocks b∧SlR eT F h u.states s
 len:=fun ⟨_,_,_,h,_⟩=>by subst h;rfl
 one:=fun ⟨_,_,_,h,h1,h2,h3⟩=>by subst h;simp only [uC,allOne_cons,h1.one,h2.one,h3.one];rfl
 keep:=fun hk ⟨v,n,p,h,h1,h2,h3⟩=>⟨v,n,p,h,h1.keep hk,h2.keep hk,h3.keep hk⟩
 mono:=fun hb ⟨v,n,p,h,h1,h2,h3⟩=>⟨v,n,p,h,h1.mono hb,h2.mono hb,h3.mono hb⟩
theorem fork_bl (ops:List Int)(t:Dt):(fork ops t).blocks.length=t.blocks.length+3:=by simp [fork,end_]
theorem exit_bl (ops:List Int)(t:Dt):(exit_ ops t).blocks.length=t.blocks.length+2:=by simp [exit_,end_]
theorem loop_bl (ops:List Int)(t:Dt):(loop ops t).blocks.length=t.blocks.length+3:=by simp [loop,end_]
section
variable {F F' G G' : Nat→Prop} {h h' : Hp} {L:Lc} {ops:List Int} {t t' : Dt} {R R' : Rw} {Q:QP1}
theorem un_L1 {shape:List Int}{vo vs nv:V}{lres:Nat}(ho:ops.length<9223372036854775808)(q:Dq F G h L ops t R)(hn:Sm t.s 30)(hb:t.blocks.length=0)(hraw:h.get L.lr=some (.cells tyRaw 1 true false [vo,vs,nv]))(hsh:SlR (eI .i64) F h shape vs)
  (hres:G lres) (hres2:lres≠L.lat) (hres3:∃c,h.get lres=some (.cells 29 1 true false c)∧c.length=5)
  (H:∀F' h' R' t1,(∀l,F l→F' l)→Kp F (gm G L.lat) h h'→Dq F' G h' L ops t1 R'→t1=end_ { shapes ops (shape.take 6) t with s:=(stateM ops (shapes ops (shape.take 6) t).s).2 } 3 0 [] (stateM ops (shapes ops (shape.take 6) t).s).1 []→
   valP (pSt 5 (.ptr lres 0) (.agg [.int .i64 1, .int .i64 2,R'.vv,R'.vb,R'.vs]) h') fun _ h2=>oP (pLdA 5 (.ptr lres 0) h2) fun r=>Q r h2) :
  J_turnstonehand_Unit_L1 CS Q (.ptr L.lr 0) (.ptr lres 0) (.ptr L.lu 0) (.ptr L.lkn 0) (.ptr L.lbl 0) (.ptr L.lput 0) (.ptr L.lnext 0) (.ptr L.lst 0) (fRow L) (fEnd L) (.int .i64 0) h:=by
 refine l_turnstonehand_Unit_L1 (fun k x1 x2 x3 x5 x6 x7 x10 x11 x12 x13 x14 h'=>∃(F' : Nat→Prop) (R' : Rw) (i:Nat) (t' : Dt),x1 = .ptr L.lr 0∧x2 = .ptr lres 0∧x3 = .ptr L.lu 0∧x5 = .ptr L.lkn 0∧x6 = .ptr L.lbl 0∧x7 = .ptr L.lput 0∧
  x10 = .ptr L.lnext 0∧x11 = .ptr L.lst 0∧x12=fRow L∧x13=fEnd L∧x14 = .int .i64 (i:Nat)∧i+k=6∧(∀l,F l→F' l)∧Kp F (gm G L.lat) h h'∧Dq F' G h' L ops t' R'∧Sm t'.s (30+30 * i)∧t'.blocks.length≤3 * i∧
  shapes ops ((shape.take 6).drop i) t' = shapes ops (shape.take 6) t) ?_ (k:=6)
  ⟨F,R,0,t,rfl,rfl,rfl,rfl,rfl,rfl,rfl,rfl,rfl,rfl,rfl,rfl,fun _ h=>h,Kp.refl _ _ _,q,hn,by omega,by rw [List.drop_zero]⟩
 rintro k x1 x2 x3 x5 x6 x7 x10 x11 x12 x13 x14 h' ⟨F1,R1,i,t1,rfl,rfl,rfl,rfl,rfl,rfl,rfl,rfl,rfl,rfl,rfl,hik,hF,k1,q1,n1,b1,hsp⟩
 unfold B_turnstonehand_Unit_L1
 have raw1:h'.get L.lr=some (.cells tyRaw 1 true false [vo,vs,nv]):=by rw [k1.keep _ (.inl q.fr)];exact hraw
 have lsh:pLd (.ptr L.lr 1) h' = some vs:=pLd_get raw1 rfl
 have lv:=q1.D.ov.len
 have sh1:SlR (eI .i64) F h' shape vs:=hsh.keep fun l hl=>k1.keep l (.inl hl)
 refine oP_mk (pFA_ptr _ _ _) (oP_mk lsh (oP_mk sh1.len (oP_mk (hbin_lss _ _ _ _) ?_)))
 have e1:pAnd (.bool (decide (((i:Nat):Int)<(shape.length:Nat)))) (oB (some (V.int .i64 (i:Nat))) fun v69=>hbin .lss 3 v69 (V.int .i64 6))=some (.bool (decide (((i:Nat):Int)<(shape.length:Nat))&&decide (((i:Nat):Int)<6))):=by
  simp only [oB_some',hbin_lss,pAnd_bool]
 refine oP_mk e1 ?_
 have e2:pAnd (.bool (decide (((i:Nat):Int)<(shape.length:Nat))&&decide (((i:Nat):Int)<6))) (oB (pFA 2 (.ptr L.lu 0)) fun v73=>oB (pLd v73 h') fun v74=>oB (pLen v74) fun v75=>hbin .lss 3 v75 (V.int .i64 160)) =
   some (.bool ((decide (((i:Nat):Int)<(shape.length:Nat))&&decide (((i:Nat):Int)<6))&&decide (((t1.s.vals.length:Nat):Int)<160))):=by
  simp only [pFA_ptr,oB_some',Nat.zero_add,q1.D.ldV,lv,hbin_lss,pAnd_bool]
 refine oP_mk e2 (st_b ?_)
 by_cases hgo:i<shape.length∧i<6∧t1.s.vals.length<160
 rotate_left
 ·
  refine if_f (by simp only [Bool.and_eq_true,decide_eq_true_eq];omega) ?_
  have hfin:t1=shapes ops (shape.take 6) t:=by
   rw [←hsp]
   by_cases hi:i<(shape.take 6).length
   ·rw [List.drop_eq_getElem_cons hi]
    unfold shapes
    rw [if_neg]
    rw [List.length_take] at hi
    omega
   ·rw [List.drop_of_length_le (by omega)]
    rfl
  subst hfin
  refine oP_mk q1.ldState ?_
  refine go_state q1 ho n1 (by omega) fun F2 h2 R2 f2 k2 q2 n2=>?_
  have eB:∀sn:Nat,pBuild [V.nilSlice,(V.int .i64 0),(V.int .i64 0),V.nilSlice,V.nilSlice,(V.int .i64 0)] [(0,1),(1,1),(2,1),(3,1),(4,1),(5,1)] [(1,(V.int .i64 3)),(5, .int .i64 (sn:Nat))]=some (.agg (bkC ⟨[],3,0,[],[],sn⟩ .nilSlice .nilSlice .nilSlice)):=fun _=>rfl
  refine oP_mk (eB _) ?_
  refine go_end q2 (show (shapes ops (shape.take 6) t).blocks.length<_ by omega) ⟨[],3,0,[],[],_⟩ rfl rfl rfl .nil fun F3 h3 R3 f3 k3 q3=>?_
  have lA:pLdA 5 (.ptr L.lu 0) h3=some (.agg [.int .i64 1, .int .i64 2,R3.vv,R3.vb,R3.vs]):=pLdA_all q3.D.gu rfl
  refine oP_mk lA ?_
  have kk:=(k1.trans k2 hF).trans (k3.gm L.lat) fun l hl=>f2 l (hF l hl)
  exact H F3 h3 R3 _ (fun l hl=>f3 l (f2 l (hF l hl))) kk q3 rfl
 obtain ⟨g1,g2,g3⟩:=hgo
 refine if_t (by simp only [Bool.and_eq_true,decide_eq_true_eq];omega) ?_
 obtain ⟨l4,o4,u4,_,i1,i2,i3⟩:=sh1.ix1 g1 .i64 rfl
 obtain ⟨rfl⟩:u4 = .int .i64 shape[i]:=by simpa using i3.1
 refine oP_mk (pFA_ptr _ _ _) (oP_mk lsh (oP_mk i1 (oP_mk i2 ?_)))
 show cP CS n_turnstonehand_Pick [.int .i64 shape[i], .int .i64 ((3:Nat):Int)] h' _
 refine ct_Pick (by decide) (by decide) ?_
 have hi6:i<(shape.take 6).length:=by rw [List.length_take];omega
 have hstep:shapes ops ((shape.take 6).drop (i+1)) (shapeM ops (pickN shape[i] 3) t1)=shapes ops (shape.take 6) t:=by
  rw [←hsp,List.drop_eq_getElem_cons hi6]
  conv=>rhs;unfold shapes
  rw [if_pos g3,List.getElem_take]
 have fin:∀(F2:Nat→Prop) (h2:Hp) (R2:Rw),(∀l,F1 l→F2 l)→Kp F1 (gm G L.lat) h' h2→Dq F2 G h2 L ops (shapeM ops (pickN shape[i] 3) t1) R2→Sm (shapeM ops (pickN shape[i] 3) t1).s (30+30 * i+30)→(shapeM ops (pickN shape[i] 3) t1).blocks.length≤3 * (i+1)→
   J_turnstonehand_Unit_R25 CS Q (fun x1 x2 x3 x5 x6 x7 x10 x11 x12 x13 x14 hh=>∃k',k' < k∧∃(F' : Nat→Prop) (R' : Rw) (i:Nat) (t' : Dt),x1 = .ptr L.lr 0∧x2 = .ptr lres 0∧x3 = .ptr L.lu 0∧x5 = .ptr L.lkn 0∧x6 = .ptr L.lbl 0∧x7 = .ptr L.lput 0∧
    x10 = .ptr L.lnext 0∧x11 = .ptr L.lst 0∧x12=fRow L∧x13=fEnd L∧x14 = .int .i64 (i:Nat)∧i+k' = 6∧(∀l,F l→F' l)∧Kp F (gm G L.lat) h hh∧Dq F' G hh L ops t' R'∧Sm t'.s (30+30 * i)∧t'.blocks.length≤3 * i∧
    shapes ops ((shape.take 6).drop i) t' = shapes ops (shape.take 6) t) (.ptr L.lr 0) (.ptr lres 0) (.ptr L.lu 0) (.ptr L.lkn 0) (.ptr L.lbl 0) (.ptr L.lput 0) (.ptr L.lnext 0) (.ptr L.lst 0) (fRow L) (fEnd L) (.int .i64 (i:Nat)) h2:=by
  intro F2 h2 R2 f2 k2 q2 n2 b2
  refine j_turnstonehand_Unit_R25 ?_
  unfold B_turnstonehand_Unit_R25
  refine st_add (m:=1) (by omega) (by omega) ?_
  exact ⟨k - 1,by omega,F2,R2,i+1,_,rfl,rfl,rfl,rfl,rfl,rfl,rfl,rfl,rfl,rfl,rfl,by omega,fun l hl=>f2 l (hF l hl),k1.trans k2 hF,q2,n2,b2,hstep⟩
 by_cases c0:pickN shape[i] 3=0
 ·refine st_eq (if_t (by omega) ?_)
  have e:shapeM ops (pickN shape[i] 3) t1=fork ops t1:=by unfold shapeM;rw [if_pos c0]
  rw [e] at fin
  refine sh_fork q1 ho n1 (by omega) (by omega) fun F2 h2 R2 f2 k2 q2 n2=>?_
  exact fin F2 h2 R2 f2 k2 q2 n2 (by rw [fork_bl];omega)
 refine st_eq (if_f (by omega) ?_)
 by_cases c1:pickN shape[i] 3=1
 ·refine st_eq (if_t (by omega) ?_)
  have e:shapeM ops (pickN shape[i] 3) t1=loop ops t1:=by unfold shapeM;rw [if_neg c0,if_pos c1]
  rw [e] at fin
  refine sh_loop q1 ho n1 (by omega) (by omega) fun F2 h2 R2 s6 f2 k2 q2 n2 e6 _=>?_
  subst e6
  refine sh_body ho n2 (by omega) (by omega) q2 fun F3 h3 R3 f3 k3 q3 n3=>?_
  refine j_turnstonehand_Unit_R68 ?_
  unfold B_turnstonehand_Unit_R68
  refine sh_back ho n3 (by omega) (by omega) q3 fun F4 h4 R4 f4 k4 q4 n4=>?_
  exact fin F4 h4 R4 (fun l hl=>f4 l (f3 l (f2 l hl))) ((k2.trans k3 f2).trans k4 fun l hl=>f3 l (f2 l hl)) q4 (n4.le (by omega)) (by rw [loop_bl];omega)
 ·refine st_eq (if_f (by omega) ?_)
  have e:shapeM ops (pickN shape[i] 3) t1=exit_ ops t1:=by unfold shapeM;rw [if_neg c0,if_neg c1]
  rw [e] at fin
  refine sh_exit q1 ho n1 (by omega) (by omega) fun F2 h2 R2 f2 k2 q2 n2=>?_
  exact fin F2 h2 R2 f2 k2 q2 n2 (by rw [exit_bl];omega)
end
end Go.Proofs.YtiepamfpilhcjaaDoor.Hx
