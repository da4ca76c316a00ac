/- Parts. -/
import Derived.Test.YtpnddokajmjpbaaDoorM20
namespace Go.Proofs.YtpnddokajmjpbaaDoor.Hx
open Go.Proofs.YtpnddokajmjpbaaDoor.Un
theorem st_b{b:Bool}{A B:Prop}(h:if b=true then A else B):bP (.bool b) A B:=by rw[fw];exact h
theorem Ga (ops:List Int)(s:Ds):rows ops 0 s=s:=rfl
theorem GA (ops:List Int)(k:Nat)(s:Ds)(h:¬s.vals.length<200):rows ops k s=s:=by
 cases k with
 |zero=>rfl
 |succ k=>unfold rows;rw[if_neg h]
theorem GW (ops:List Int)(k:Nat)(s:Ds)(h:s.vals.length<200):rows ops (k+1) s=rows ops k (rowStep ops s):=by
 conv=>lhs;unfold rows
 rw[if_pos h]
section
variable{F F' G G':Nat->Prop}{h h':Hp}{L:Lc}{ops:List Int}{t t':Dt}{R R':Rw}{Q:QP1}
theorem Sm.one{s:Ds}{n:Nat}(a:Sm s n):Sm (one_ ops s).2 n:=a.pos _
theorem Sm.num{s:Ds}{n:Nat}(a:Sm s n)(m:Nat):Sm (num ops s m).2 n:=a.pos _
theorem sm17 {s:Ds}{n:Nat}(a:Sm s n)(ops:List Int)(x:Vl):Sm (put (stateM ops s).2 x) (n+1):=by
 obtain ⟨p,b⟩:=wQ ops (num ops s 4).1 (num ops s 4).2 [];have e:(stateM ops s).2 = {s with pos:=p,states:=(stateM ops s).2.states}:=by
  unfold stateM;simp only[b];rfl
 have h:=a.state ops;rw[e]at h⊢;exact⟨app1 a.v,app1 a.c,h.k,h.st,h.k0⟩
theorem JZ (q:Dq F G h L ops t R)(w:ops.length<9223372036854775808){n:Nat}(hn:Sm t.s n)(ag:n<900)
  (H:∀F' h' R',(∀l,F l->F' l)->Kp F (gm G L.lat) h h'->Dq F' G h' L ops {t with s:=row ops t.s} R'->Sm (row ops t.s) (n+6)->Q (.tuple []) h') :
  cP CS fZ [.ptr L.lnext 0,.ptr L.lu 0,.ptr L.lkn 0,.ptr L.lput 0,.ptr L.lst 0] h Q:=by
 refine u0 rfl rfl ?_;unfold po;refine d9 q.ldNext ?_;show cP CS eh [.int .i64 ((6:Nat):Int),.ptr L.lat 0,.ptr L.lr 0] h _;refine qr q (by decide) (by decide) w λh0 k0 q0=>?_;have hr:(draw ops t.s.pos 6).1<6:=qq _ _ (by decide);refine gj (n:=1) (by decide) (by omega) ?_
 refine tj (λk W X Y Z x4 x5 h'=>∃(F':Nat->Prop) (R':Rw) (s:Ds),W = .ptr L.lnext 0/\X = .ptr L.lu 0/\Y = .ptr L.lkn 0/\Z = .ptr L.lput 0/\x4 = .ptr L.lst 0/\x5 = .int .i64 (k:Nat)/\(∀l,F l->F' l)/\
  Kp F (gm G L.lat) h h'/\Dq F' G h' L ops {t with s:=s} R'/\rows ops k s=row ops t.s/\∃m,Sm s m/\m+k<=n+6) ?_
  ⟨F,R,(num ops t.s 6).2,rfl,rfl,rfl,rfl,rfl,rfl,λ_ h=>h,k0,q0,rfl,n,hn.num 6,by omega⟩
 rintro k W X Y Z x4 x5 h' ⟨r,R1,s,rfl,rfl,rfl,rfl,rfl,rfl,J,k1,B,g,m,P,ah⟩;unfold mg;refine d9 (by rw[kK]) ?_;have lv:=B.D.ov.len;have eA:pAnd (.bool (decide ((0:Int)<(k:Nat)))) (oB (pFA 2 (.ptr L.lu 0)) λaa=>oB (pLd aa h') λab=>oB (pLen ab) λac=>hbin .lss 3 ac (V.int .i64 200))=some (.bool (decide ((0:Int)<(k:Nat))&&decide (((s.vals.length:Nat):Int)<200))):=by
  simp only[ed,en,wAY,B.D.ldV,lv,j4,gv]
 refine d9 eA (st_b ?_)
 cases k with
 | zero=>
   refine if_f (by simp) ?_;rw[Ga]at g
   refine H r h' R1 J k1 (by rw[<-g];exact B) (by rw[<-g];exact P.le (by omega))
 | succ k=>
   by_cases hlt:s.vals.length<200;rotate_left
   ·refine if_f (by simp;omega) ?_
    rw[GA _ _ _ hlt]at g;refine H r h' R1 J k1 (by rw[<-g];exact B) (by rw[<-g];exact P.le (by omega))
   refine if_t (by simp;omega) ?_;have x:rows ops k (rowStep ops s)=row ops t.s:=by rw[<-g,GW _ _ _ hlt]
   clear g eA;refine d9 B.D.ldK (d9 B.ldNext (d9 B.D.ldK (d9 B.D.ok.len ?_)));show cP CS eh [.int .i64 (s.known.length:Nat),.ptr L.lat 0,.ptr L.lr 0] h' _;refine A8 B w P (by omega) λh2 l o k2 K _ i1 M=>⟨k2.next,d9 i1 (d9 M ⟨K.D.ldK,?_⟩)⟩
   have M:True:=trivial;refine d9 K.D.ldK (d9 K.ldNext (d9 K.D.ldK (d9 K.D.ok.len ?_)));show cP CS eh [.int .i64 ((one_ ops s).2.known.length:Nat),.ptr L.lat 0,.ptr L.lr 0] h2 _;refine A8 K w P.one (by omega) λh3 l' o' k3 q3 _ j1 j2=>⟨k3.next,d9 j1 (d9 j2 ⟨q3.D.ldK,?_⟩)⟩
   refine d9 q3.ldNext ?_;show cP CS eh [.int .i64 ((20:Nat):Int),.ptr L.lat 0,.ptr L.lr 0] h3 _;refine qr q3 (by decide) (by decide) w λC k4 d=>?_;have d:Dq r G C L ops {t with s:=(num ops (one_ ops (one_ ops s).2).2 20).2} R1:=d;have p:Sm (num ops (one_ ops (one_ ops s).2).2 20).2 m:=P.one.one.num 20;have kk:Kp F (gm G L.lat) h C:=((k1.trans k2 J).trans k3 J).trans k4 J;have y:rowStep ops s=kindM ops (num ops (one_ ops (one_ ops s).2).2 20).2 (num ops (one_ ops (one_ ops s).2).2 20).1 (one_ ops s).1 (one_ ops (one_ ops s).2).1:=rfl;rw[y]at x;have ek:(draw ops ({t with s:=(one_ ops ({t with s:=(one_ ops ({t with s:=s}:Dt).s).2}:Dt).s).2}:Dt).s.pos 20).1=(num ops (one_ ops (one_ ops s).2).2 20).1:=rfl;rw[ek];clear ek;have ai:(num ops (one_ ops (one_ ops s).2).2 20).1<20:=qq _ _ (by decide);generalize (num ops (one_ ops (one_ ops s).2).2 20).2=e at*;generalize (num ops (one_ ops (one_ ops s).2).2 20).1=kd at*;have ea:(one_ ops ({t with s:=s}:Dt).s).1=(one_ ops s).1:=rfl;have eb:(one_ ops ({t with s:=(one_ ops ({t with s:=s}:Dt).s).2}:Dt).s).1=(one_ ops (one_ ops s).2).1:=rfl;rw[ea,eb];generalize (one_ ops s).1=a at*;generalize (one_ ops (one_ ops s).2).1=b at*;clear q3 K B k1 k2 k3 k4 j1 j2 lv y
   have fin:∀(F2:Nat->Prop) (f:Hp) (R2:Rw) (S:Ds),(∀l,r l->F2 l)->Kp r (gm G L.lat) C f->Dq F2 G f L ops {t with s:=S} R2->S=kindM ops e kd a b->Sm S (m+1)->
       fe CS Q (λW X Y Z x4 x5 hh=>∃k',k' < k+1/\∃(F':Nat->Prop) (R':Rw) (s:Ds),W = .ptr L.lnext 0/\X = .ptr L.lu 0/\Y = .ptr L.lkn 0/\Z = .ptr L.lput 0/\x4 = .ptr L.lst 0/\x5 = .int .i64 (k':Nat)/\(∀l,F l->F' l)/\
         Kp F (gm G L.lat) h hh/\Dq F' G hh L ops {t with s:=s} R'/\rows ops k' s=row ops t.s/\∃m,Sm s m/\m+k'<=n+6) (.ptr L.lnext 0) (.ptr L.lu 0) (.ptr L.lkn 0) (.ptr L.lput 0) (.ptr L.lst 0) (.int .i64 ((k+1:Nat):Int)) f:=by
     intro F2 f R2 S ae j c e5 m5;refine tp ?_;unfold lM;refine qt (by omega) (by omega) ?_;exact⟨k,by omega,F2,R2,S,rfl,rfl,rfl,rfl,rfl,rfl,λl hl=>ae l (J l hl),kk.trans j J,c,by rw[e5];exact x,m+1,m5,by omega⟩
   by_cases E:kd<12
   ·refine ltYes ?_
    refine d9 d.D.ldK (d9 d.ldPut (gj (n:=3) (by decide) (by omega) ?_));have eP:∀o:Nat,pBuild [(V.int .i64 0),(V.int .i64 0),(V.int .i64 0),(V.int .i64 0),V.nilSlice,(V.int .i64 0)] [(0,1),(1,1),(2,1),(3,1),(4,1),(5,1)] [(0,.int .i64 (o:Nat)),(1,.int .i64 (a:Nat)),(2,.int .i64 (b:Nat))]=some (.agg (vlC (vl o a b 0 [] 0) .nilSlice)):=λ_=>rfl;refine d9 (eP _) ?_;exact xA d p (by omega) ⟨_,rfl,.nil⟩ λf R5 j c=>fin r f R5 _ (λ_ h=>h) (j.gm _) c (by unfold kindM;rw[if_pos E]) (p.putK _)
   refine ltNo ?_;by_cases I:kd=12
   ·refine fk (if_t (by omega) ?_)
    refine d9 d.D.ldK (d9 d.ldPut (d9 d.ldNext ?_));show cP CS eh [.int .i64 ((1048576:Nat):Int),.ptr L.lat 0,.ptr L.lr 0] C _;refine qr d (by decide) (by decide) w λf j c=>⟨j.next,?_⟩
    have c:Dq r G f L ops {t with s:=(num ops e 1048576).2} R1:=c;have hd:(draw ops e.pos 1048576).1<1048576:=qq _ _ (by decide);have ew:wrapF .i64 (((draw ops e.pos 1048576).1:Int)-9)=((draw ops e.pos 1048576).1:Int)-9:=sj (by simp only[inK];omega);refine d9 (by rw[oV]) ?_;rw[show(wrapF .i64 (((draw ops ({t with s:=e}:Dt).s.pos 1048576).1:Int)-9))=((draw ops e.pos 1048576).1:Int)-9 from ew];have eP:∀i:Int,pBuild [(V.int .i64 0),(V.int .i64 0),(V.int .i64 0),(V.int .i64 0),V.nilSlice,(V.int .i64 0)] [(0,1),(1,1),(2,1),(3,1),(4,1),(5,1)] [(0,(V.int .i64 2)),(3,.int .i64 i)]=some (.agg (vlC (vl 2 0 0 i [] 0) .nilSlice)):=λ_=>rfl;refine d9 (eP _) ⟨c.ldPut,c.D.ldK,?_⟩;exact xA c (p.num _) (by omega) ⟨_,rfl,.nil⟩ λz R6 u v=>fin r z R6 _ (λ_ h=>h) (j.trans (u.gm _) λ_ h=>h) v (by unfold kindM;rw[if_neg E,if_pos I];rfl) ((p.num _).putK _)
   refine fk (if_f (by omega) ?_);by_cases c2:kd=13
   ·refine fk (if_t (by omega) ?_)
    refine d9 d.D.ldK (d9 d.ldPut (d9 d.ldNext ?_));show cP CS eh [.int .i64 ((5:Nat):Int),.ptr L.lat 0,.ptr L.lr 0] C _;refine qr d (by decide) (by decide) w λf j c=>⟨j.next,?_⟩
    have c:Dq r G f L ops {t with s:=(num ops e 5).2} R1:=c;have eP:∀n:Nat,pBuild [(V.int .i64 0),(V.int .i64 0),(V.int .i64 0),(V.int .i64 0),V.nilSlice,(V.int .i64 0)] [(0,1),(1,1),(2,1),(3,1),(4,1),(5,1)] [(0,(V.int .i64 17)),(1,.int .i64 (a:Nat)),(3,.int .i64 (n:Nat))]=some (.agg (vlC (vl 17 a 0 (n:Nat) [] 0) .nilSlice)):=λ_=>rfl;refine d9 (eP _) ⟨c.ldPut,c.D.ldK,?_⟩;exact xA c (p.num _) (by omega) ⟨_,rfl,.nil⟩ λz R6 u v=>fin r z R6 _ (λ_ h=>h) (j.trans (u.gm _) λ_ h=>h) v (by unfold kindM;rw[if_neg E,if_neg I,if_pos c2];rfl) ((p.num _).putK _)
   refine fk (if_f (by omega) ?_);by_cases N:kd=14
   ·refine fk (if_t (by omega) ?_)
    refine d9 d.D.ldK (d9 d.ldPut ?_);have eP:pBuild [(V.int .i64 0),(V.int .i64 0),(V.int .i64 0),(V.int .i64 0),V.nilSlice,(V.int .i64 0)] [(0,1),(1,1),(2,1),(3,1),(4,1),(5,1)] [(0,(V.int .i64 18)),(1,.int .i64 (a:Nat)),(2,.int .i64 (b:Nat))]=some (.agg (vlC (vl 18 a b 0 [] 0) .nilSlice)):=rfl;refine d9 eP ?_;exact xA d p (by omega) ⟨_,rfl,.nil⟩ λf R5 j c=>fin r f R5 _ (λ_ h=>h) (j.gm _) c (by unfold kindM;rw[if_neg E,if_neg I,if_neg c2,if_pos N]) (p.putK _)
   refine fk (if_f (by omega) ?_);by_cases T:kd=15
   ·refine fk (if_t (by omega) ?_)
    refine d9 d.ldPut (d9 d.ldNext ?_);show cP CS eh [.int .i64 ((5:Nat):Int),.ptr L.lat 0,.ptr L.lr 0] C _;refine qr d (by decide) (by decide) w λf j c=>⟨j.next,?_⟩
    have c:Dq r G f L ops {t with s:=(num ops e 5).2} R1:=c;have eP:∀n:Nat,pBuild [(V.int .i64 0),(V.int .i64 0),(V.int .i64 0),(V.int .i64 0),V.nilSlice,(V.int .i64 0)] [(0,1),(1,1),(2,1),(3,1),(4,1),(5,1)] [(0,(V.int .i64 19)),(1,.int .i64 (a:Nat)),(3,.int .i64 (n:Nat)),(2,.int .i64 (b:Nat))]=some (.agg (vlC (vl 19 a b (n:Nat) [] 0) .nilSlice)):=λ_=>rfl;refine d9 (eP _) ⟨c.ldPut,?_⟩;refine ze c (p.num _) (by omega) ⟨_,rfl,.nil⟩ λz R6 u _ v=>⟨u.next,?_⟩
    exact fin r z R6 _ (λ_ h=>h) (j.trans (u.gm _) λ_ h=>h) v (by unfold kindM;rw[if_neg E,if_neg I,if_neg c2,if_neg N,if_pos T];rfl) ((p.num _).put _)
   refine fk (if_f (by omega) ?_);by_cases c5:kd=16
   ·refine fk (if_t (by omega) ?_)
    refine d9 d.ldPut (d9 d.D.ldK (d9 d.ldNext (d9 d.D.ldK (d9 d.D.ok.len ?_))));show cP CS eh [.int .i64 (e.known.length:Nat),.ptr L.lat 0,.ptr L.lr 0] C _;refine A8 d w p (by omega) λf l o j c hl i1 M=>⟨j.next,d9 i1 (d9 M ?_)⟩
    have c:Dq r G f L ops {t with s:=(one_ ops e).2} R1:=c;have M:pLd (.ptr l o) f=some (.int .i64 ((one_ ops e).1:Nat)):=M;have e3:pBS 3 1 1 (V.int .i64 0) [(0,V.int .i64 ((one_ ops e).1:Nat))]=some (.cells 3 1 true false [V.int .i64 ((one_ ops e).1:Nat)],λl=> .slice l 0 1):=rfl;show alO (pBS 3 1 1 (V.int .i64 0) [(0,V.int .i64 ((one_ ops e).1:Nat))]) f _;rw[e3,fD];have eP:∀n:Nat,pBuild [(V.int .i64 0),(V.int .i64 0),(V.int .i64 0),(V.int .i64 0),V.nilSlice,(V.int .i64 0)] [(0,1),(1,1),(2,1),(3,1),(4,1),(5,1)] [(0,(V.int .i64 20)),(1,.int .i64 (a:Nat)),(2,.int .i64 (b:Nat)),(4,.slice n 0 1)]=some (.agg (vlC (vl 20 a b 0 [(one_ ops e).1] 0) (.slice n 0 1))):=λ_=>rfl;have D6:=c.D.new (.cells 3 1 true false [V.int .i64 ((one_ ops e).1:Nat)]);have u:=c.D.kpNew (.cells 3 1 true false [V.int .i64 ((one_ ops e).1:Nat)]);have v:=c.step u D6 (kr _ _) c.gl c.hq rfl;have g6:(f.new (.cells 3 1 true false [V.int .i64 ((one_ ops e).1:Nat)])).get f.next=_:=ef _ _;refine d9 (eP _) ⟨⟨g6,O.beq_cells _ _ _ _ _⟩,gQ M (er _ hl),D6.ldK,v.ldPut,?_⟩
    have hs:SlR eN (fz r f.next) (f.new (.cells 3 1 true false [V.int .i64 ((one_ ops e).1:Nat)])) [(one_ ops e).1] (.slice f.next 0 1):=
      .inr ⟨f.next,0,3,true,false,[V.int .i64 ((one_ ops e).1:Nat)],rfl,.inr rfl,g6,.inr rfl,wA5 _,⟨_,[],rfl,rfl,trivial⟩⟩
    refine ze v (p.one) (by omega) ⟨_,rfl,hs⟩ λh7 R7 k7 _ q7=>⟨k7.next,?_⟩
    exact fin (fz r f.next) h7 R7 _ (kr _ _) ((j.trans (u.gm _) λ_ h=>h).trans (k7.gm _) (kr _ _)) q7 (by unfold kindM;rw[if_neg E,if_neg I,if_neg c2,if_neg N,if_neg T,if_pos c5]) (p.one.put _)
   refine fk (if_f (by omega) ?_);by_cases c6:kd=17
   ·refine fk (if_t (by omega) ?_)
    refine d9 d.ldPut (d9 d.ldState ?_);show cP CS eJ [.ptr L.lu 0,.ptr L.lnext 0,.ptr L.lkn 0] C _;refine Bd d p.k0 (by have:=p.k;show e.known.length<_;omega) (by have:=p.st;show e.states.length<_;omega) w λU f R5 A j c _=>⟨j.next,?_⟩
    have c:Dq U G f L ops {t with s:=(stateM ops e).2} R5:=c;have eP:∀n:Nat,pBuild [(V.int .i64 0),(V.int .i64 0),(V.int .i64 0),(V.int .i64 0),V.nilSlice,(V.int .i64 0)] [(0,1),(1,1),(2,1),(3,1),(4,1),(5,1)] [(0,(V.int .i64 22)),(1,.int .i64 (a:Nat)),(5,.int .i64 (n:Nat))]=some (.agg (vlC (vl 22 a 0 0 [] n) .nilSlice)):=λ_=>rfl;refine d9 (eP _) ⟨c.ldPut,?_⟩;refine ze c (p.state ops) (by omega) ⟨_,rfl,.nil⟩ λz R6 u _ v=>⟨u.next,?_⟩
    exact fin U z R6 _ A (j.trans (u.gm _) A) v (by unfold kindM;rw[if_neg E,if_neg I,if_neg c2,if_neg N,if_neg T,if_neg c5,if_pos c6]) (sm17 p ops _)
   refine fk (if_f (by omega) ?_);by_cases c7:kd=18
   ·refine fk (if_t (by omega) ?_)
    refine d9 d.ldPut (d9 d.ldState ?_);show cP CS eJ [.ptr L.lu 0,.ptr L.lnext 0,.ptr L.lkn 0] C _;refine Bd d p.k0 (by have:=p.k;show e.known.length<_;omega) (by have:=p.st;show e.states.length<_;omega) w λU f R5 A j c _=>⟨j.next,?_⟩
    have c:Dq U G f L ops {t with s:=(stateM ops e).2} R5:=c;have eP:∀n:Nat,pBuild [(V.int .i64 0),(V.int .i64 0),(V.int .i64 0),(V.int .i64 0),V.nilSlice,(V.int .i64 0)] [(0,1),(1,1),(2,1),(3,1),(4,1),(5,1)] [(0,(V.int .i64 23)),(5,.int .i64 (n:Nat))]=some (.agg (vlC (vl 23 0 0 0 [] n) .nilSlice)):=λ_=>rfl;refine d9 (eP _) ⟨c.ldPut,?_⟩;refine ze c (p.state ops) (by omega) ⟨_,rfl,.nil⟩ λz R6 u _ v=>⟨u.next,?_⟩
    exact fin U z R6 _ A (j.trans (u.gm _) A) v (by unfold kindM;rw[if_neg E,if_neg I,if_neg c2,if_neg N,if_neg T,if_neg c5,if_neg c6,if_pos c7]) (sm17 p ops _)
   refine fk (if_f (by omega) ?_);refine d9 d.D.ldK (d9 d.ldPut (d9 d.ldNext ?_));show cP CS eh [.int .i64 ((2:Nat):Int),.ptr L.lat 0,.ptr L.lr 0] C _;refine qr d (by decide) (by decide) w λf j c=>⟨j.next,?_⟩
   have c:Dq r G f L ops {t with s:=(num ops e 2).2} R1:=c;have hd:(draw ops e.pos 2).1<2:=qq _ _ (by decide);refine gj (n:=15) (by decide) (by show(draw ops e.pos 2).1<_;omega) ?_;have eP:∀o:Nat,pBuild [(V.int .i64 0),(V.int .i64 0),(V.int .i64 0),(V.int .i64 0),V.nilSlice,(V.int .i64 0)] [(0,1),(1,1),(2,1),(3,1),(4,1),(5,1)] [(0,.int .i64 (o:Nat)),(1,.int .i64 (a:Nat))]=some (.agg (vlC (vl o a 0 0 [] 0) .nilSlice)):=λ_=>rfl;refine d9 (eP _) ⟨c.ldPut,c.D.ldK,?_⟩;exact xA c (p.num _) (by omega) ⟨_,rfl,.nil⟩ λz R6 u v=>fin r z R6 _ (λ_ h=>h) (j.trans (u.gm _) λ_ h=>h) v (by unfold kindM;rw[if_neg E,if_neg I,if_neg c2,if_neg N,if_neg T,if_neg c5,if_neg c6,if_neg c7];rfl) ((p.num _).putK _)
end
open Go.Proofs.YtpnddokajmjpbaaDoor.Un
structure Ext_ (s a:Ds):Prop where
 k:∃l,a.known=s.known++l
 v:∃l,a.vals=s.vals++l
theorem Ext_.refl (s:Ds):Ext_ s s:=⟨⟨[],by simp⟩,⟨[],by simp⟩⟩
theorem Ext_.trans {s d c:Ds}(a:Ext_ s d)(b:Ext_ d c):Ext_ s c:=by
 obtain⟨⟨e,f⟩,⟨g,h⟩⟩:=a;obtain⟨⟨i,j⟩,⟨k,l⟩⟩:=b;exact⟨⟨e++i,by rw[j,f,wAU]⟩,⟨g++k,by rw[l,h,wAU]⟩⟩
theorem Ext_.kl {s b:Ds}(a:Ext_ s b):s.known.length<=b.known.length:=by
 obtain⟨⟨d,c⟩,_⟩:=a;rw[c,wAM];omega
theorem Ext_.vl {s b:Ds}(a:Ext_ s b):s.vals.length<=b.vals.length:=by
 obtain⟨_,⟨d,c⟩⟩:=a;rw[c,wAM];omega
theorem zG (ops:List Int)(s:Ds):Ext_ s (stateM ops s).2:=by
 obtain⟨p,a⟩:=wQ ops (num ops s 4).1 (num ops s 4).2 [];unfold stateM;simp only[a];exact⟨⟨[],by simp[num]⟩,⟨[],by simp[num]⟩⟩
theorem xg (s:Ds)(x:Vl):Ext_ s (putK s x):=⟨⟨_,rfl⟩,⟨_,rfl⟩⟩
theorem AO (s:Ds)(x:Vl):Ext_ s (put s x):=⟨⟨[],by simp[put]⟩,⟨_,rfl⟩⟩
theorem xM (ops:List Int)(s:Ds)(m:Nat):Ext_ s (num ops s m).2:=⟨⟨[],by simp[num]⟩,⟨[],by simp[num]⟩⟩
theorem CV (ops:List Int)(s:Ds):Ext_ s (one_ ops s).2:=⟨⟨[],by simp[one_]⟩,⟨[],by simp[one_]⟩⟩
theorem Ii (ops:List Int)(s:Ds)(k a b:Nat):Ext_ s (kindM ops s k a b):=by
 unfold kindM;split
 ·exact xg _ _
 split
 ·exact(xM _ _ _).trans (xg _ _)
 split
 ·exact(xM _ _ _).trans (xg _ _)
 split
 ·exact xg _ _
 split
 ·exact(xM _ _ _).trans (AO _ _)
 split
 ·exact(CV _ _).trans (AO _ _)
 split
 ·exact(zG _ _).trans (AO _ _)
 split
 ·exact(zG _ _).trans (AO _ _)
 ·exact(xM _ _ _).trans (xg _ _)
theorem Er (ops:List Int):∀(i:Nat)(s:Ds),Ext_ s (rows ops i s)
 |0,s=> .refl s
 | i+1,s=>by
   unfold rows;split
   ·exact(((CV ops s).trans (CV ops _)).trans ((xM ops _ 20).trans (Ii _ _ _ _ _))).trans (Er ops i _)
   ·exact .refl s
theorem xC (ops:List Int)(s:Ds):Ext_ s (row ops s):=(xM ops s 6).trans (Er ops _ _)
def fRow (L:Lc):V:= .func fZ [] [.ptr L.lnext 0,.ptr L.lu 0,.ptr L.lkn 0,.ptr L.lput 0,.ptr L.lst 0]
def fEnd (L:Lc):V:= .func gI [] [.ptr L.lbl 0,.ptr L.lu 0]
def nats (xs:List Nat):List V:=xs.map λn=> .int .i64 (n:Nat)
section
variable{F F' G G':Nat->Prop}{h h':Hp}{L:Lc}{ops:List Int}{t t':Dt}{R R':Rw}{Q:QP1}
theorem wT (q:Dq F G h L ops t R)(xs:List Nat):Dq (fz F h.next) G (h.new (.cells 3 1 true false (nats xs))) L ops t R/\SlR eN (fz F h.next) (h.new (.cells 3 1 true false (nats xs))) xs (.slice h.next 0 xs.length)/\Kp F G h (h.new (.cells 3 1 true false (nats xs))):=by
 have k:=q.D.kpNew (.cells 3 1 true false (nats xs));exact⟨q.step k (q.D.new _) (kr _ _) q.gl q.hq rfl,.inr ⟨h.next,0,3,true,false,nats xs,rfl,.inr rfl,ef _ _,.inr rfl,wA5 _,qB _ _ xs⟩,k⟩
theorem qW (q:Dq F G h L ops t R)(xs:List Nat){ps:Option (O×(Nat->V))}(d:ps=some (O.cells 3 1 true false (nats xs),λl=> .slice l 0 xs.length)){K:Hp->Prop}
  (H:∀F' h' R',(∀l,F l->F' l)->Kp F G h h'->Dq F' G h' L ops {t with preds:=xs} R'->K h') :
  alP ps h λv e=>oP (pFA 4 (.ptr L.lbl 0)) λf=>valP (pSt 1 f v e) λ_ g=>K g:=by
 subst d;obtain⟨a,i,j⟩:=wT q xs;rw[ev,ed,fj];have k:=ju (o:=4) (v:= .slice h.next 0 xs.length) (cs':=[R.cc,.int .i64 0,.int .i64 0,.nilSlice,.slice h.next 0 xs.length,.int .i64 0]) a.D.gb (by simp) rfl rfl;obtain⟨b,m⟩:=a.D.setBl (c:=R.cc) i;rw[wAY,k,ec];exact H _ _ _ (kr _ _) (j.trans b (kr _ _)) (a.step b m (λ_ h=>h) q.gl a.hq rfl)
theorem EQ (q:Dq F G h L ops t R)(e:t.blocks.length<1000)(b:Bk){w nv:V}(f:w = .agg (bkC b .nilSlice nv .nilSlice))(a:b.vals=[])(c:b.preds=[])(d:SlR eN F h b.next nv){K:QP1}
  (H:∀F' h' R',(∀l,F l->F' l)->Kp F G h h'->Dq F' G h' L ops {s:={t.s with cur:=[]},blocks:=t.blocks++[⟨t.s.cur,b.fin,b.cond,b.next,t.preds,b.state⟩],preds:=[]} R'->K (.int .i64 t.blocks.length) h') :
  calP CS (hcall (fEnd L) [w]) h K:=by
 subst f;exact JI (n:=0) q e a c d H
theorem wD (q:Dq F G h L ops t R)(b:ops.length<9223372036854775808){n:Nat}(c:Sm t.s n)(a:n<900){K:QP1}
  (H:∀F' h' R',(∀l,F l->F' l)->Kp F (gm G L.lat) h h'->Dq F' G h' L ops {t with s:=row ops t.s} R'->Sm (row ops t.s) (n+6)->K (.tuple []) h') :
  calP CS (hcall (fRow L) []) h K:=JZ q b c a H
theorem Fz (q:Dq F G h L ops t R)(c:0<t.s.known.length)(d:t.s.known.length<1000){K:V->Prop}(H:K (.int .i64 (t.s.known.getLastD 0:Nat))) :
  oP (pLd (.ptr L.lkn 0) h) λa=>oP (pLd (.ptr L.lkn 0) h) λb=>oP (pLen b) λn=>oP (hbin .sub 3 n (.int .i64 1)) λi=>oP (pIx 1 a i) λp=>oP (pLd p h) K:=by
 obtain⟨l,o,_,_,e,f⟩:=q.knownAt (i:=t.s.known.length-1) (by omega);refine d9 q.D.ldK (d9 q.D.ldK (d9 q.D.ok.len (qt (by omega) c (d9 e (d9 f ?_)))));rw[qu _ c];exact H
theorem CN (q:Dq F G h L ops t R){m:Nat}(c:m<=t.s.known.length){K:Hp->Prop}(H:∀h' R',Kp F G h h'->Dq F G h' L ops {t with s:=cut m t.s} R'->K h') :
  oP (pLd (.ptr L.lkn 0) h) λa=>oP (hsliceV 1 a none (some (.int .i64 m)) h) λs=>valP (pSt 1 (.ptr L.lkn 0) s h) λ_ b=>K b:=by
 obtain⟨g,b,d,e,_,k,f⟩:=q.D.cutK c;refine d9 q.D.ldK (d9 d ?_);rw[e,ec];exact H _ _ k (q.step k f (λ_ h=>h) q.gl q.hq rfl)
theorem EB (q:Dq F G h L ops t R)(j:ops.length<9223372036854775808){n:Nat}(k:Sm t.s n)(d:n<1000){K:QP1}
  (H:∀h',Kp F (gm G L.lat) h h'->Dq F G h' L ops {t with s:=(one_ ops t.s).2} R->K (.int .i64 ((one_ ops t.s).1:Nat)) h') :
  oP (pLd (.ptr L.lkn 0) h) λa=>oP (pLd (.ptr L.lnext 0) h) λf=>oP (pLd (.ptr L.lkn 0) h) λb=>oP (pLen b) λn=>calP CS (hcall f [n]) h λi c=>(h.next<=c.next/\oP (pIx 1 a i) λp=>oP (pLd p c) λv=>((pLd (.ptr L.lkn 0) c=some a)/\K v c)):=by
 refine d9 q.D.ldK (d9 q.ldNext (d9 q.D.ldK (d9 q.D.ok.len ?_)));show cP CS eh [.int .i64 t.s.known.length,.ptr L.lat 0,.ptr L.lr 0] h _;exact A8 q j k d λc l o e g _ m r=>⟨e.next,d9 m (d9 r ⟨g.D.ldK,H _ e g⟩)⟩
theorem Bo (q:Dq F G h L ops t R)(e:ops.length<9223372036854775808){n:Nat}(d:Sm t.s n)(f:n<999){K:QP1}
  (H:∀F' h' R',(∀l,F l->F' l)->Kp F (gm G L.lat) h h'->Dq F' G h' L ops {t with s:=(stateM ops t.s).2} R'->Sm (stateM ops t.s).2 (n+1)->K (.int .i64 ((stateM ops t.s).1:Nat)) h') :
  calP CS (hcall (fState L) []) h K:=by
 show cP CS eJ [.ptr L.lu 0,.ptr L.lnext 0,.ptr L.lkn 0] h _;have g:=d.k;have i:=d.st;exact Bd q d.k0 (by omega) (by omega) e λF' h' R' a b c _=>H F' h' R' a b c (d.state ops)
theorem Sm.end_{t:Dt}{n:Nat}(a:Sm t.s n)(f c:Nat)(nx:List Nat)(s:Nat)(p:List Nat):Sm (Un.end_ t f c nx s p).s n:=⟨a.v,wA5 _,a.k,a.st,a.k0⟩
theorem Sm.cut {s:Ds}{n m:Nat}(a:Sm s n)(h0:0<m)(b:m<=s.known.length):Sm (Un.cut m s) n:=
 ⟨a.v,a.c,by show(s.known.take m).length<=n;rw[wAc];have:=a.k;omega,a.st,by show 0<(s.known.take m).length;rw[wAc];omega⟩
theorem Sm.setArgs{s:Ds}{n:Nat}(a:Sm s n)(v:Nat)(l:List Nat):Sm (Un.setArgs s v l) n:=⟨by rw[(vQ s v l).1];exact a.v,a.c,a.k,a.st,a.k0⟩
theorem uX (q:Dq F G h L ops t R)(d:t.blocks.length<1000)(fin cond:Nat)(nx:List Nat)(state:Nat){ps:Option (O×(Nat->V))}(e:ps=some (O.cells 3 1 true false (nats nx),λl=> .slice l 0 nx.length)){B:V->Option V}
  (f:∀m,B (.slice m 0 nx.length)=some (.agg (bkC ⟨[],fin,cond,nx,[],state⟩ .nilSlice (.slice m 0 nx.length) .nilSlice))) {K:QP1}
  (H:∀F' h' R',(∀l,F l->F' l)->Kp F G h h'->Dq F' G h' L ops {s:={t.s with cur:=[]},blocks:=t.blocks++[⟨t.s.cur,fin,cond,nx,t.preds,state⟩],preds:=[]} R'->K (.int .i64 t.blocks.length) h') :
  alP ps h λv g=>oP (B v) λw=>calP CS (hcall (fEnd L) [w]) g K:=by
 subst e;obtain⟨i,j,k⟩:=wT q nx;rw[ev];refine d9 (f _) ?_;exact EQ i d ⟨[],fin,cond,nx,[],state⟩ rfl rfl rfl j λF' h' R' a b c=>H F' h' R' (λl n=>a l (kr _ _ l n)) (k.trans b (kr _ _)) c
end
open Go.Proofs.YtpnddokajmjpbaaDoor.Un
section
variable{F F' G G':Nat->Prop}{h h':Hp}{L:Lc}{ops:List Int}{t t':Dt}{R R':Rw}{Q:QP1}
theorem pkg (q:Dq F G h L ops t R){t':Dt}(e:t=t'):Dq F G h L ops t' R:=e▸q
theorem kgm{F F' G:Nat->Prop}{h h' b:Hp}{a:Nat}(x:Kp F (gm G a) h h')(y:Kp F' G h' b)(c:∀l,F l->F' l):Kp F (gm G a) h b:=x.trans (y.gm a) c
theorem Je (q:Dq F G h L ops t R)(ho:ops.length<9223372036854775808){n:Nat}(hn:Sm t.s n)(co:n<800)(hb:t.blocks.length<900){K:Hp->Prop}
  (H:∀F' h' R',(∀l,F l->F' l)->Kp F (gm G L.lat) h h'->Dq F' G h' L ops (fork ops t) R'->Sm (fork ops t).s (n+30)->K h') :
  oP (pLd (.ptr L.lkn 0) h) λx=>
  oP (pLd (.ptr L.lnext 0) h) λaa=>
  oP (pLd (.ptr L.lkn 0) h) λab=>
  oP (pLen ab) λac=>
  calP CS (hcall aa [ac]) h λae y=>
  (h.next<=y.next/\
  oP (pIx 1 x ae) λag=>
  oP (pLd ag y) λah=>
  ((pLd (.ptr L.lkn 0) y=some x)/\
  oP (pLd (.ptr L.lkn 0) y) λai=>
  oP (pLen ai) λz=>
  oP (pFA 3 (.ptr L.lu 0)) λaj=>
  oP (pLd aj y) λal=>
  oP (pLen al) λam=>
  oP (hbin .add 3 am (V.int .i64 1)) λan=>
  oP (pFA 3 (.ptr L.lu 0)) λao=>
  oP (pLd ao y) λap=>
  oP (pLen ap) λaq=>
  oP (hbin .add 3 aq (V.int .i64 2)) λar=>
  alP (pBS 3 1 2 (V.int .i64 0) [(0,an),(1,ar)]) y λau h3=>
  oP (pBuild [V.nilSlice,(V.int .i64 0),(V.int .i64 0),V.nilSlice,V.nilSlice,(V.int .i64 0)] [(0,1),(1,1),(2,1),(3,1),(4,1),(5,1)] [(1,(V.int .i64 2)),(2,ah),(3,au)]) λaw=>
  calP CS (hcall (fEnd L) [aw]) h3 λA h4=>
  alP (pBS 3 1 1 (V.int .i64 0) [(0,A)]) h4 λax h5=>
  oP (pFA 4 (.ptr L.lbl 0)) λay=>
  valP (pSt 1 ay ax h5) λvu h6=>
  calP CS (hcall (fRow L) []) h6 λca I=>
  oP (pLd (.ptr L.lkn 0) I) λaA=>
  oP (pLd (.ptr L.lkn 0) I) λaB=>
  oP (pLen aB) λaC=>
  oP (hbin .sub 3 aC (V.int .i64 1)) λaD=>
  oP (pIx 1 aA aD) λaE=>
  oP (pLd aE I) λaF=>
  oP (pLd (.ptr L.lkn 0) I) λaG=>
  oP (hsliceV 1 aG none (some z) I) λaH=>
  valP (pSt 1 (.ptr L.lkn 0) aH I) λcb h8=>
  oP (pFA 3 (.ptr L.lu 0)) λaI=>
  oP (pLd aI h8) λaJ=>
  oP (pLen aJ) λaK=>
  oP (hbin .add 3 aK (V.int .i64 2)) λaL=>
  alP (pBS 3 1 1 (V.int .i64 0) [(0,aL)]) h8 λaM h9=>
  oP (pBuild [V.nilSlice,(V.int .i64 0),(V.int .i64 0),V.nilSlice,V.nilSlice,(V.int .i64 0)] [(0,1),(1,1),(2,1),(3,1),(4,1),(5,1)] [(1,(V.int .i64 1)),(3,aM)]) λaN=>
  calP CS (hcall (fEnd L) [aN]) h9 λaO aP=>
  alP (pBS 3 1 1 (V.int .i64 0) [(0,A)]) aP λaQ bG=>
  oP (pFA 4 (.ptr L.lbl 0)) λaR=>
  valP (pSt 1 aR aQ bG) λcd aS=>
  calP CS (hcall (fRow L) []) aS λce d=>
  oP (pLd (.ptr L.lkn 0) d) λaT=>
  oP (pLd (.ptr L.lkn 0) d) λaU=>
  oP (pLen aU) λaV=>
  oP (hbin .sub 3 aV (V.int .i64 1)) λaW=>
  oP (pIx 1 aT aW) λaX=>
  oP (pLd aX d) λaY=>
  oP (pLd (.ptr L.lkn 0) d) λaZ=>
  oP (hsliceV 1 aZ none (some z) d) λa5=>
  valP (pSt 1 (.ptr L.lkn 0) a5 d) λcf J=>
  oP (pFA 3 (.ptr L.lu 0)) λa6=>
  oP (pLd a6 J) λa7=>
  oP (pLen a7) λa8=>
  oP (hbin .add 3 a8 (V.int .i64 1)) λa9=>
  alP (pBS 3 1 1 (V.int .i64 0) [(0,a9)]) J λba bH=>
  oP (pBuild [V.nilSlice,(V.int .i64 0),(V.int .i64 0),V.nilSlice,V.nilSlice,(V.int .i64 0)] [(0,1),(1,1),(2,1),(3,1),(4,1),(5,1)] [(1,(V.int .i64 1)),(3,ba)]) λbb=>
  calP CS (hcall (fEnd L) [bb]) bH λbc bd=>
  alP (pBS 3 1 2 (V.int .i64 0) [(0,aO),(1,bc)]) bd λbe bI=>
  oP (pFA 4 (.ptr L.lbl 0)) λbf=>
  valP (pSt 1 bf be bI) λcg b=>
  oP (pLd (.ptr L.lkn 0) b) λj=>
  oP (pLd (.ptr L.lput 0) b) λB=>
  alO (pBS 3 1 2 (V.int .i64 0) [(0,aF),(1,aY)]) b λo4 bg f=>
  oP (pBuild [(V.int .i64 0),(V.int .i64 0),(V.int .i64 0),(V.int .i64 0),V.nilSlice,(V.int .i64 0)] [(0,1),(1,1),(2,1),(3,1),(4,1),(5,1)] [(0,(V.int .i64 21)),(4,bg)]) λbh=>
  ((f.get (b.next)=some o4/\O.beq o4 o4=true)/\
  ((pLd (.ptr L.lput 0) f=some B)/\
  ((pLd (.ptr L.lkn 0) f=some j)/\
  calP CS (hcall B [bh]) f λbi M=>
  (f.next<=M.next/\
  alO (pBS 3 1 1 (V.int .i64 0) [(0,bi)]) M λo7 bj r=>
  ((r.get (M.next)=some o7/\O.beq o7 o7=true)/\
  ((pLd (.ptr L.lkn 0) r=some j)/\
  valP (happend 3 1 8 j bj r) λbm N=>
  (r.next<=N.next/\
  valP (pSt 1 (.ptr L.lkn 0) bm N) λci P=>
  (N.next<=P.next/\
  calP CS (hcall (fRow L) []) P λcj Q=>K Q)))))))))):=by
 have bn:=hn.k0;have hk:=hn.k;refine EB q ho hn (by omega) λy k2 C=>?_;refine d9 C.D.ldK (d9 C.D.ok.len ?_);refine d9 (ed _ _ _) (d9 C.D.ldB (d9 C.D.ob.len (gj (m:=1) (show t.blocks.length<_ by omega) (by omega) ?_)));refine d9 (ed _ _ _) (d9 C.D.ldB (d9 C.D.ob.len (gj (m:=2) (show t.blocks.length<_ by omega) (by omega) ?_)));have n2:Sm (one_ ops t.s).2 n:=hn.one;refine uX C (show t.blocks.length<_ by omega) 2 (one_ ops t.s).1 [t.blocks.length+1,t.blocks.length+2] 0 rfl (λ_=>rfl) λF4 h4 R4 f4 k4 q4=>?_;refine qW q4 [t.blocks.length] rfl λF6 h6 R6 f6 k6 q6=>?_;have q6:=pkg (t':=end_ {t with s:=(one_ ops t.s).2} 2 (one_ ops t.s).1 [t.blocks.length+1,t.blocks.length+2] 0 [t.blocks.length]) q6 rfl;have n6:Sm (end_ {t with s:=(one_ ops t.s).2} 2 (one_ ops t.s).1 [t.blocks.length+1,t.blocks.length+2] 0 [t.blocks.length]).s n:=n2.end_ (t:={t with s:=(one_ ops t.s).2}) _ _ _ _ _;have S:(end_ {t with s:=(one_ ops t.s).2} 2 (one_ ops t.s).1 [t.blocks.length+1,t.blocks.length+2] 0 [t.blocks.length]).blocks.length=t.blocks.length+1:=by simp[end_]
 have cp:(end_ {t with s:=(one_ ops t.s).2} 2 (one_ ops t.s).1 [t.blocks.length+1,t.blocks.length+2] 0 [t.blocks.length]).s.known.length=t.s.known.length:=rfl;have a:fork ops t=fork ops t:=rfl
 conv at a=>rhs;unfold fork
 simp only at a;have el:({t with s:=(one_ ops t.s).2}:Dt).s.known.length=t.s.known.length:=rfl;rw[el];have kA:=kgm k2 (k4.trans k6 f4) λ_ h=>h;have fA:∀l,F l->F6 l:=λl c=>f6 l (f4 l c);generalize end_ {t with s:=(one_ ops t.s).2} 2 (one_ ops t.s).1 [t.blocks.length+1,t.blocks.length+2] 0 [t.blocks.length]=g at*;clear C q4 k2 k4 k6;refine wD q6 ho n6 (by omega) λF7 I R7 f7 k7 q7 n7=>?_;have x7:=xC ops g.s;have cq:=x7.kl;generalize row ops g.s=e at*;have cr:=n7.k;refine Fz q7 (by show 0<e.known.length;omega) (by show e.known.length<_;omega) ?_;refine CN q7 (m:=t.s.known.length) (by show _<=e.known.length;omega) λh8 R8 k8 q8=>?_;have n8:Sm (cut t.s.known.length e) (n+6):=n7.cut bn (by omega);refine d9 (ed _ _ _) (d9 q8.D.ldB (d9 q8.D.ob.len (gj (m:=2) (show g.blocks.length<_ by omega) (by omega) ?_)));refine uX q8 (show g.blocks.length<_ by omega) 1 0 [t.blocks.length+3] 0 (by show pBS 3 1 1 (V.int .i64 0) [(0,.int .i64 ((g.blocks.length+2:Nat):Int))]=_;rw[S];rfl) (λ_=>rfl) λct aP R10 bo bp bq=>?_;refine qW bq [t.blocks.length] rfl λbJ aS R12 bK br u=>?_;have u:=pkg (t':=end_ {g with s:=cut t.s.known.length e} 1 0 [t.blocks.length+3] 0 [t.blocks.length]) u rfl;have bL:Sm (end_ {g with s:=cut t.s.known.length e} 1 0 [t.blocks.length+3] 0 [t.blocks.length]).s (n+6):=n8.end_ (t:={g with s:=cut t.s.known.length e}) _ _ _ _ _;have E:(end_ {g with s:=cut t.s.known.length e} 1 0 [t.blocks.length+3] 0 [t.blocks.length]).blocks.length=t.blocks.length+2:=by simp[end_,S]
 have cl:(end_ {g with s:=cut t.s.known.length e} 1 0 [t.blocks.length+3] 0 [t.blocks.length]).s.known.length=t.s.known.length:=by
  show(e.known.take t.s.known.length).length=_;rw[wAc];omega
 have bt:({g with s:=cut t.s.known.length e}:Dt).blocks.length=t.blocks.length+1:=S;rw[bt];have T:({g with s:=e}:Dt).s.known.getLastD 0=e.known.getLastD 0:=rfl;rw[T];have kB:=(((kA.trans k7 fA).trans ((k8.gm L.lat).trans (bp.gm L.lat) λ_ h=>h) λl c=>f7 l (fA l c)).trans (br.gm L.lat) λl c=>bo l (f7 l (fA l c)))
 have fB:∀l,F l->bJ l:=λl c=>bK l (bo l (f7 l (fA l c)));generalize e.known.getLastD 0=Y at*;generalize end_ {g with s:=cut t.s.known.length e} 1 0 [t.blocks.length+3] 0 [t.blocks.length]=o at*;clear q6 q7 q8 bq k7 k8 bp br kA;refine wD u ho bL (by omega) λcu d R13 U bu W bv=>?_;have bQ:=xC ops o.s;have cm:=bQ.kl;generalize row ops o.s=i at*;have cn:=bv.k;refine Fz W (by show 0<i.known.length;omega) (by show i.known.length<_;omega) ?_;refine CN W (m:=t.s.known.length) (by show _<=i.known.length;omega) λJ R14 bw v=>?_;have bR:Sm (cut t.s.known.length i) (n+6+6):=bv.cut bn (by omega);refine d9 (ed _ _ _) (d9 v.D.ldB (d9 v.D.ob.len (gj (m:=1) (show o.blocks.length<_ by omega) (by omega) ?_)));refine uX v (show o.blocks.length<_ by omega) 1 0 [t.blocks.length+3] 0 (by show pBS 3 1 1 (V.int .i64 0) [(0,.int .i64 ((o.blocks.length+1:Nat):Int))]=_;rw[E];rfl) (λ_=>rfl) λcv bd cw bx bz bA=>?_;have bC:({o with s:=cut t.s.known.length i}:Dt).blocks.length=t.blocks.length+2:=E;rw[bC];refine qW bA [t.blocks.length+1,t.blocks.length+2] rfl λbS b R18 bU bD p=>?_;have p:=pkg (t':=end_ {o with s:=cut t.s.known.length i} 1 0 [t.blocks.length+3] 0 [t.blocks.length+1,t.blocks.length+2]) p rfl;have bE:Sm (end_ {o with s:=cut t.s.known.length i} 1 0 [t.blocks.length+3] 0 [t.blocks.length+1,t.blocks.length+2]).s (n+12):=(bR.le (by omega)).end_ (t:={o with s:=cut t.s.known.length i}) _ _ _ _ _;have w:({o with s:=i}:Dt).s.known.getLastD 0=i.known.getLastD 0:=rfl;rw[w];have kC:=(((kB.trans bu fB).trans ((bw.gm L.lat).trans (bz.gm L.lat) λ_ h=>h) λl c=>U l (fB l c)).trans (bD.gm L.lat) λl c=>bx l (U l (fB l c)))
 have fC:∀l,F l->bS l:=λl c=>bU l (bx l (U l (fB l c)));generalize i.known.getLastD 0=Z at*;generalize end_ {o with s:=cut t.s.known.length i} 1 0 [t.blocks.length+3] 0 [t.blocks.length+1,t.blocks.length+2]=t3 at*;clear u W v bA bu bw bz bD kB;refine d9 p.D.ldK (d9 p.ldPut ?_);have e3:pBS 3 1 2 (V.int .i64 0) [(0,V.int .i64 Y),(1,V.int .i64 Z)]=some (.cells 3 1 true false (nats [Y,Z]),λl=> .slice l 0 2):=rfl;rw[e3,fD];obtain⟨X,bV,bW⟩:=wT p [Y,Z];have bX:(b.new (.cells 3 1 true false (nats [Y,Z]))).get b.next=_:=ef _ _;have eP:∀n:Nat,pBuild [(V.int .i64 0),(V.int .i64 0),(V.int .i64 0),(V.int .i64 0),V.nilSlice,(V.int .i64 0)] [(0,1),(1,1),(2,1),(3,1),(4,1),(5,1)] [(0,(V.int .i64 21)),(4,.slice n 0 2)]=some (.agg (vlC (vl 21 0 0 0 [Y,Z] 0) (.slice n 0 2))):=λ_=>rfl;refine d9 (eP _) ⟨⟨bX,O.beq_cells _ _ _ _ _⟩,X.ldPut,X.D.ldK,?_⟩;generalize b.new (.cells 3 1 true false (nats [Y,Z]))=f at*;refine xA X bE (by omega) ⟨_,rfl,bV⟩ λP cx bY bZ=>?_;refine wD bZ ho (bE.putK _) (by omega) λb4 Q b5 b6 b7 b8 b9=>?_;refine H b4 Q b5 (λl c=>b6 l (kr _ _ l (fC l c))) ((kC.trans ((bW.gm L.lat).trans (bY.gm L.lat) (kr _ _)) fC).trans b7 λl c=>kr _ _ l (fC l c)) (pkg b8 a.symm) ?_;rw[a];exact b9.le (by omega)
end
open Go.Proofs.YtpnddokajmjpbaaDoor.Un
section
variable{F F' G G':Nat->Prop}{h h':Hp}{L:Lc}{ops:List Int}{t t':Dt}{R R':Rw}{Q:QP1}
theorem I9 (q:Dq F G h L ops t R)(T:ops.length<9223372036854775808){n:Nat}(U:Sm t.s n)(aR:n<800)(hb:t.blocks.length<900){K:Hp->Prop}
  (H:∀F' h' R',(∀l,F l->F' l)->Kp F (gm G L.lat) h h'->Dq F' G h' L ops (qJ ops t) R'->Sm (qJ ops t).s (n+30)->K h') :
  oP (pLd (.ptr L.lkn 0) h) λo=>
  oP (pLd (.ptr L.lnext 0) h) λaa=>
  oP (pLd (.ptr L.lkn 0) h) λab=>
  oP (pLen ab) λac=>
  calP CS (hcall aa [ac]) h λae a=>
  (h.next<=a.next/\
  oP (pIx 1 o ae) λag=>
  oP (pLd ag a) λah=>
  ((pLd (.ptr L.lkn 0) a=some o)/\
  oP (pFA 3 (.ptr L.lu 0)) λai=>
  oP (pLd ai a) λaj=>
  oP (pLen aj) λal=>
  oP (hbin .add 3 al (V.int .i64 1)) λam=>
  oP (pFA 3 (.ptr L.lu 0)) λan=>
  oP (pLd an a) λp=>
  oP (pLen p) λr=>
  oP (hbin .add 3 r (V.int .i64 2)) λu=>
  alP (pBS 3 1 2 (V.int .i64 0) [(0,am),(1,u)]) a λv ao=>
  oP (pBuild [V.nilSlice,(V.int .i64 0),(V.int .i64 0),V.nilSlice,V.nilSlice,(V.int .i64 0)] [(0,1),(1,1),(2,1),(3,1),(4,1),(5,1)] [(1,(V.int .i64 2)),(2,ah),(3,v)]) λw=>
  calP CS (hcall (fEnd L) [w]) ao λc x=>
  oP (pLd (.ptr L.lkn 0) x) λy=>
  oP (pLen y) λz=>
  alP (pBS 3 1 1 (V.int .i64 0) [(0,c)]) x λA ap=>
  oP (pFA 4 (.ptr L.lbl 0)) λB=>
  valP (pSt 1 B A ap) λaq ar=>
  calP CS (hcall (fRow L) []) ar λaO C=>
  oP (pLd (.ptr L.lst 0) C) λE=>
  calP CS (hcall E []) C λI au=>
  oP (pBuild [V.nilSlice,(V.int .i64 0),(V.int .i64 0),V.nilSlice,V.nilSlice,(V.int .i64 0)] [(0,1),(1,1),(2,1),(3,1),(4,1),(5,1)] [(1,(V.int .i64 3)),(5,I)]) λJ=>
  calP CS (hcall (fEnd L) [J]) au λaP e=>
  oP (pLd (.ptr L.lkn 0) e) λM=>
  oP (hsliceV 1 M none (some z) e) λN=>
  valP (pSt 1 (.ptr L.lkn 0) N e) λaw ax=>
  alP (pBS 3 1 1 (V.int .i64 0) [(0,c)]) ax λO ay=>
  oP (pFA 4 (.ptr L.lbl 0)) λP=>
  valP (pSt 1 P O ay) λaA aB=>
  calP CS (hcall (fRow L) []) aB λaQ aC=>K aC)):=by
 have aD:=U.k0;have hk:=U.k;refine EB q T U (by omega) λh2 W j=>?_;refine d9 (ed _ _ _) (d9 j.D.ldB (d9 j.D.ob.len (gj (m:=1) (show t.blocks.length<_ by omega) (by omega) ?_)));refine d9 (ed _ _ _) (d9 j.D.ldB (d9 j.D.ob.len (gj (m:=2) (show t.blocks.length<_ by omega) (by omega) ?_)));have n2:Sm (one_ ops t.s).2 n:=U.one;refine uX j (show t.blocks.length<_ by omega) 2 (one_ ops t.s).1 [t.blocks.length+1,t.blocks.length+2] 0 rfl (λ_=>rfl) λF4 h4 R4 f4 k4 X=>?_;refine d9 X.D.ldK (d9 X.D.ok.len ?_);refine qW X [t.blocks.length] rfl λF6 h6 R6 f6 k6 q6=>?_;have q6:=pkg (t':=end_ {t with s:=(one_ ops t.s).2} 2 (one_ ops t.s).1 [t.blocks.length+1,t.blocks.length+2] 0 [t.blocks.length]) q6 rfl;have n6:Sm (end_ {t with s:=(one_ ops t.s).2} 2 (one_ ops t.s).1 [t.blocks.length+1,t.blocks.length+2] 0 [t.blocks.length]).s n:=n2.end_ (t:={t with s:=(one_ ops t.s).2}) _ _ _ _ _;have aS:(end_ {t with s:=(one_ ops t.s).2} 2 (one_ ops t.s).1 [t.blocks.length+1,t.blocks.length+2] 0 [t.blocks.length]).blocks.length=t.blocks.length+1:=by simp[end_]
 have aT:(end_ {t with s:=(one_ ops t.s).2} 2 (one_ ops t.s).1 [t.blocks.length+1,t.blocks.length+2] 0 [t.blocks.length]).s.known.length=t.s.known.length:=rfl;have Y:qJ ops t=qJ ops t:=rfl
 conv at Y=>rhs;unfold qJ
 simp only at Y;have kA:=kgm W (k4.trans k6 f4) λ_ h=>h;have fA:∀l,F l->F6 l:=λl b=>f6 l (f4 l b);generalize end_ {t with s:=(one_ ops t.s).2} 2 (one_ ops t.s).1 [t.blocks.length+1,t.blocks.length+2] 0 [t.blocks.length]=d at*;clear j X W k4 k6;refine wD q6 T n6 (by omega) λF7 h7 R7 f7 k7 q7 n7=>?_;have x7:=xC ops d.s;have aU:=x7.kl;generalize row ops d.s=f at*;refine d9 q7.ldState ?_;refine Bo q7 T n7 (by omega) λF8 h8 R8 f8 k8 q8 Z=>?_;have x8:=zG ops f;have aV:=x8.kl;have e8:stateM ops ({d with s:=f}:Dt).s=stateM ops f:=rfl;rw[e8];have q8:Dq F8 G h8 L ops {d with s:=(stateM ops f).2} R8:=q8;have Z:Sm (stateM ops f).2 (n+6+1):=Z;generalize (stateM ops f).2=s2 at*;generalize (stateM ops f).1=Q at*;have eB:pBuild [V.nilSlice,(V.int .i64 0),(V.int .i64 0),V.nilSlice,V.nilSlice,(V.int .i64 0)] [(0,1),(1,1),(2,1),(3,1),(4,1),(5,1)] [(1,(V.int .i64 3)),(5,.int .i64 Q)]=some (.agg (bkC ⟨[],3,0,[],[],Q⟩ .nilSlice .nilSlice .nilSlice)):=rfl;refine d9 eB ?_;have aW:=Z.k;refine EQ q8 (show d.blocks.length<_ by omega) ⟨[],3,0,[],[],Q⟩ rfl rfl rfl .nil λF9 h9 R9 f9 k9 q9=>?_;refine CN q9 (m:=t.s.known.length) (by show _<=s2.known.length;omega) λaX R10 aE aF=>?_;refine qW aF [t.blocks.length] rfl λaY aZ R11 S aG g=>?_;have g:=pkg (t':=end_ {d with s:=cut t.s.known.length s2} 3 0 [] Q [t.blocks.length]) g rfl;have aH:Sm (end_ {d with s:=cut t.s.known.length s2} 3 0 [] Q [t.blocks.length]).s (n+7):=(Z.cut aD (by omega)).end_ (t:={d with s:=cut t.s.known.length s2}) _ _ _ _ _;refine wD g T aH (by omega) λaI aJ R12 aK aL aM aN=>?_;have i:∀l,F l->F8 l:=λl b=>f8 l (f7 l (fA l b));refine H aI aJ R12 (λl b=>aK l (S l (f9 l (i l b)))) ?_ (pkg aM Y.symm) ?_
 ·have k1:=(kA.trans k7 fA).trans k8 λl b=>f7 l (fA l b);have W:=((k9.gm L.lat).trans (aE.gm L.lat) f9).trans (aG.gm L.lat) f9;exact(k1.trans W i).trans aL λl b=>S l (f9 l (i l b))
 ·rw[Y];exact aN.le (by omega)
end
