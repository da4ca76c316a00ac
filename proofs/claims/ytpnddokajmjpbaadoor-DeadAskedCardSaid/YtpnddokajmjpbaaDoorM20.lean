/- Parts. -/
import Derived.Test.YtpnddokajmjpbaaDoorM18
import Derived.Test.YtpnddokajmjpbaaDoorM19
import Derived.Test.YtpnddokajmjpbaaDoorM15
namespace Go.Proofs.YtpnddokajmjpbaaDoor.Hx
open Go.Proofs.YtpnddokajmjpbaaDoor.Un
theorem vE {e:Nat}{w:List V}(a:allOne w=true):hbox e (.agg w)=some (.cells e 1 true false w,λl=> .ptr l 0):=by
 unfold hbox;rw[go _ (show allOne (V.agg w).cells=true from a)];rfl
theorem lD {e sz:Nat}{z w:List V}(c:z.length=sz)(a:w.length=sz)(b:allOne w=true):pBS e sz 1 (.agg z) [(0,.agg w)]=some (.cells e sz true false w,λl=> .slice l 0 1):=by
 unfold pBS;have hs:splice (Nat.mul 0 sz) (repl 1 (V.agg z).cells) (V.agg w).cells=some w:=by
  show splice (0*sz) (z++[]) w=some w;rw[Nat.zero_mul,wAa,uu (by omega),wBU,wAl,wAY,List.drop_of_length_le (by omega),wAa]
 simp only[fillV,en,hs];rw[go _ (show Nat.beq (V.agg w).cells.length sz=true by rw[show(V.agg w).cells=w from rfl,a];exact wBG _)];simp only[en];rw[go _ b]
theorem wsub1 {n:Nat}(h:n<1000000000):wrapF .i64 (((n+1:Nat):Int)-1)=(n:Nat):=by
 rw[sj (by simp only[inK];omega)];omega
theorem wadd {n k:Nat}(h:n<1000000000)(a:k<1000000000):wrapF .i64 (((n:Nat):Int)+(k:Nat))=((n+k:Nat):Int):=by
 rw[sj (by simp only[inK];omega)];omega
theorem HH (t:Nat)(k:IntKind)(a b:Int)(c:b≠0):hbin .rem t (.int k a) (.int k b)=some (.int k (a.tmod b)):=by
 have d:hint .rem k a b=some (.int k (a.tmod b)):=by
  cases b with
  | ofNat n=>cases n with
    |zero=>exact absurd rfl c
    |succ n=>rfl
  |negSucc n=>rfl
 cases k <;> exact d
theorem Dg {n:Int}{m:Nat}{h:Hp}{Q:QP1}(f:0<m)(d:m<=1000000000)(H:Q (.int .i64 (pickN n m:Nat)) h):cP CS fK [.int .i64 n,.int .i64 m] h Q:=by
 refine wR rfl rfl ?_;unfold qS;have g:=Int.tmod_lt_of_pos n (b:=(m:Int)) (by omega);have i : -(m:Int)<n.tmod m:=by
  have:=Int.tmod_lt_of_pos (-n) (b:=(m:Int)) (by omega);rw[Int.neg_tmod]at this;omega
 simp only[HH _ _ _ (m:Int) (by omega),fj,j4,qD,wAe];unfold pickN at H;split
 ·rename_i a;rw[if_pos a]at H;have e:wrapF .i64 (n.tmod m+m)=n.tmod m+m:=sj (by simp only[inK];omega);simp only[BP,e,fj];refine nP ?_;unfold jH;rw[Int.toNat_of_nonneg (by omega)]at H;exact H
 ·rename_i c;rw[if_neg c]at H;refine nP ?_;unfold jH;rw[Int.toNat_of_nonneg (by omega)]at H;exact H
section
variable{F G:Nat->Prop}{h:Hp}{lu lkn lbl:Nat}{t:Dt}{R:Rw}{Q:QP1}
theorem Dw.ldV (D:Dw F G h lu lkn lbl t R):pLd (.ptr lu 2) h=some R.vv:=gZ D.gu rfl
theorem Dw.ldB (D:Dw F G h lu lkn lbl t R):pLd (.ptr lu 3) h=some R.vb:=gZ D.gu rfl
theorem Dw.ldS (D:Dw F G h lu lkn lbl t R):pLd (.ptr lu 4) h=some R.vs:=gZ D.gu rfl
theorem Dw.ldK (D:Dw F G h lu lkn lbl t R):pLd (.ptr lkn 0) h=some R.vk:=gZ D.gk rfl
theorem Dw.ldC (D:Dw F G h lu lkn lbl t R):pLd (.ptr lbl 0) h=some R.cc:=gZ D.gb rfl
theorem Dw.ldP (D:Dw F G h lu lkn lbl t R):pLd (.ptr lbl 4) h=some R.vp:=gZ D.gb rfl
theorem Fb {x:Vl}{w:List V}(D:Dw F G h lu lkn lbl t R)(hq:R.cc=R.vc)(g:eV.rel F h x w)(N:t.s.vals.length<1000)(hc:t.s.cur.length<1000)
  (H:∀h' R',Kp F G h h'->Dw F G h' lu lkn lbl {t with s:=put t.s x} R'->R'.cc=R'.vc->R'.vk=R.vk->Q (.int .i64 t.s.vals.length) h') :
  cP CS eo [.agg w,.ptr lu 0,.ptr lbl 0] h Q:=by
 refine uY rfl rfl ?_;unfold pj;have b:=eV.one g;have a:w.length=6:=eV.len g;have i:=D.grow (Chg.new h (.cells 42 1 true false w));have q:=D.kpNew (.cells 42 1 true false w);have v:pLdA 6 (.ptr h.next 0) (h.new (.cells 42 1 true false w))=some (.agg w):=uL (ef _ _) a;have y:pBS 42 6 1 (V.agg [(V.int .i64 0),(V.int .i64 0),(V.int .i64 0),(V.int .i64 0),V.nilSlice,(V.int .i64 0)]) [(0,.agg w)]=some (.cells 42 6 true false w,λl=> .slice l 0 1):=lD rfl a b;simp only[vE b,ev,ed,fj,wAY,i.ldV,v,y];generalize z:h.new (.cells 42 1 true false w)=f at*;have A:=i.grow (Chg.new f (.cells 42 6 true false w));have r:=i.kpNew (.cells 42 6 true false w);have j:eV.rel F (f.new (.cells 42 6 true false w)) x w:=eV.keep (λl B=>(q.trans r λ_ h=>h).keep l (.inl B)) g;have m:xcells (f.new (.cells 42 6 true false w)) 6 (.slice f.next 0 1)=some (1,w):=jl (k:=0) (by rw[a]);obtain⟨O,P,c,a1,a2,a3,a4,C,d⟩:=A.appV (ys:=[x]) m ⟨w,[],by simp,j,trivial⟩ (by rw[a];rfl) b (by simp) (by simp;omega);have lc:((t.s.vals++[x]).length:Nat)=t.s.vals.length+1:=by simp
 have lv:=d.ov.len;simp only[lc]at lv;simp only[a1,ec,a3,d.ldC,d.ldV,fj,lv,oV];have u:wrapF .i64 (((t.s.vals.length+1:Nat):Int)-1)=(t.s.vals.length:Nat):=wsub1 (by omega);have E:pBS 3 1 1 (V.int .i64 0) [(0,V.int .i64 t.s.vals.length)]=some (.cells 3 1 true false [V.int .i64 t.s.vals.length],λl=> .slice l 0 1):=rfl;simp only[u,E,ev,hq];have I:=d.grow (Chg.new c (.cells 3 1 true false [V.int .i64 t.s.vals.length]));have J:=d.kpNew (.cells 3 1 true false [V.int .i64 t.s.vals.length]);have n:xcells (c.new (.cells 3 1 true false [V.int .i64 t.s.vals.length])) 1 (.slice c.next 0 1)=some (1,[V.int .i64 t.s.vals.length]):=jl (k:=0) rfl;obtain⟨K,L,S,b1,b2,b3,T,M,o⟩:=I.appC (ys:=[t.s.vals.length]) n ⟨[V.int .i64 t.s.vals.length],[],rfl,rfl,trivial⟩ rfl rfl (by simp) (by simp;omega);have e:=o.ov.len;simp only[lc]at e;have p:happend 3 1 8 R.vc (.slice c.next 0 1) (c.new (.cells 3 1 true false [V.int .i64 t.s.vals.length]))=some (.val K L):=b1;simp only[p,ec,b3,o.ldV,fj,e,oV,u];exact H _ _ ((((q.trans r λ_ h=>h).trans C λ_ h=>h).trans J λ_ h=>h).trans M λ_ h=>h) o rfl rfl
end
open Go.Proofs.YtpnddokajmjpbaaDoor.Un
structure Lc where
 lr:Nat
 lu:Nat
 lkn:Nat
 lbl:Nat
 lput:Nat
 lat:Nat
 lnext:Nat
 lst:Nat
def fPut (L:Lc):V:= .func eo [] [.ptr L.lu 0,.ptr L.lbl 0]
def fNext (L:Lc):V:= .func eh [] [.ptr L.lat 0,.ptr L.lr 0]
def fState (L:Lc):V:= .func eJ [] [.ptr L.lu 0,.ptr L.lnext 0,.ptr L.lkn 0]
structure Dq (F G:Nat->Prop) (h:Hp) (L:Lc) (ops:List Int) (t:Dt) (R:Rw):Prop where
 D:Dw F G h L.lu L.lkn L.lbl t R
 hq:R.cc=R.vc
 gl:G L.lat
 ga:h.get L.lat=some (.cells tyInt 1 true false [.int .i64 t.s.pos])
 fr:F L.lr
 gr:∃vo vs n,h.get L.lr=some (.cells tyRaw 1 true false [vo,vs,n])/\SlR (eI .i64) F h ops vo
 fp:F L.lput
 gp:∃e,h.get L.lput=some (.cells e 1 true false [fPut L])
 fn:F L.lnext
 gn:∃e,h.get L.lnext=some (.cells e 1 true false [fNext L])
 fs:F L.lst
 gs:∃e,h.get L.lst=some (.cells e 1 true false [fState L])
section
variable{F F' G G':Nat->Prop}{h h':Hp}{L:Lc}{ops:List Int}{t t':Dt}{R R':Rw}{Q:QP1}
theorem Dq.step' (q:Dq F G h L ops t R)(k:∀l,F l->h'.get l=h.get l) (D':Dw F' G' h' L.lu L.lkn L.lbl t' R')(a:∀l,F l->F' l) (b:R'.cc=R'.vc)(c:G' L.lat)(d:h'.get L.lat=some (.cells tyInt 1 true false [.int .i64 t'.s.pos])):Dq F' G' h' L ops t' R' where
 D:=D'
 hq:=b
 gl:=c
 ga:=d
 fr:=a _ q.fr
 gr:=by
  obtain⟨vo,vs,n,e,f⟩:=q.gr;exact⟨vo,vs,n,by rw[k _ q.fr];exact e,(f.keep k).mono a⟩
 fp:=a _ q.fp
 gp:=by rw[k _ q.fp];exact q.gp
 fn:=a _ q.fn
 gn:=by rw[k _ q.fn];exact q.gn
 fs:=a _ q.fs
 gs:=by rw[k _ q.fs];exact q.gs
theorem Dq.step (q:Dq F G h L ops t R)(k:Kp F G h h') (D':Dw F' G' h' L.lu L.lkn L.lbl t' R')(b:∀l,F l->F' l)(c:G' L.lat) (a:R'.cc=R'.vc)(d:t'.s.pos=t.s.pos):Dq F' G' h' L ops t' R':=
 q.step' (λl e=>k.keep l (.inl e)) D' b a c (by rw[k.keep _ (.inr q.gl),d];exact q.ga)
theorem Dq.ldPut (q:Dq F G h L ops t R):pLd (.ptr L.lput 0) h=some (fPut L):=by obtain⟨e,a⟩:=q.gp;exact gZ a rfl
theorem Dq.ldNext (q:Dq F G h L ops t R):pLd (.ptr L.lnext 0) h=some (fNext L):=by obtain⟨e,a⟩:=q.gn;exact gZ a rfl
theorem Dq.ldState (q:Dq F G h L ops t R):pLd (.ptr L.lst 0) h=some (fState L):=by obtain⟨e,a⟩:=q.gs;exact gZ a rfl
theorem Dq.knownAt (q:Dq F G h L ops t R){i:Nat}(hi:i<t.s.known.length):∃l o,l<h.next/\(F l\/Loc R.vk l)/\pIx 1 R.vk (.int .i64 i)=some (.ptr l o)/\pLd (.ptr l o) h=some (.int .i64 (t.s.known.getD i 0:Nat)):=by
 obtain⟨l,o,u,a,b,c,d⟩:=q.D.ok.read.ix1 hi .i64 rfl;refine⟨l,o,a.elim (q.D.fl l) λh=>(q.D.ok.tyOf h).2.1,a,b,?_⟩;rw[c];have:[u]=[V.int .i64 (t.s.known[i]:Nat)]:=d;rw[wAL,wAA hi];simpa using this
theorem Dw.gmore {lu lkn lbl:Nat}(D:Dw F G h lu lkn lbl t R)(a:∀l,G' l->G l\/(l<h.next/\¬F l/\∀i,¬comp lu lkn lbl R i l)):Dw F G' h lu lkn lbl t R:=
 {D with gx:=λl b=>(a l b).elim (D.gx l) id}
def gm (G:Nat->Prop)(a:Nat):Nat->Prop:=λl=>G l/\l≠a
theorem Kp.gm (k:Kp F G h h')(a:Nat):Kp F (Hx.gm G a) h h':=⟨k.next,λl b=>k.keep l (b.imp id λh=>h.1)⟩
def setPos (t:Dt)(p:Nat):Dt:={t with s:={t.s with pos:=p} }
theorem qr {m:Nat}(q:Dq F G h L ops t R)(j:0<m)(k:m<=100000000)(I:ops.length<9223372036854775808)
  (H:∀h',Kp F (gm G L.lat) h h'->Dq F G h' L ops (setPos t (draw ops t.s.pos m).2) R->Q (.int .i64 ((draw ops t.s.pos m).1:Nat)) h') :
  cP CS eh [.int .i64 m,.ptr L.lat 0,.ptr L.lr 0] h Q:=by
 refine vP rfl rfl ?_;unfold pE;obtain⟨vo,vs,n,gr,g⟩:=q.gr;have p:pLd (.ptr L.lat 0) h=some (.int .i64 t.s.pos):=gZ q.ga rfl;have l1:pLd (.ptr L.lr 0) h=some vo:=gZ gr rfl;simp only[p,fj,ed,wAY,l1,g.len,kX,qD,wAe];have a:=q.D.gx _ q.gl;split
 ·rename_i r;have e:draw ops t.s.pos m=(0,t.s.pos):=by
   unfold draw;rw[wAh (by omega)]
  rw[e]at H;exact H h (Kp.refl _ _ _) q
 ·rename_i c;have c:t.s.pos<ops.length:=by omega
  have e:draw ops t.s.pos m=(pickN ops[t.s.pos] m,t.s.pos+1):=by
   unfold draw;rw[wAA c]
  rw[e]at H;have w:wrapF .i64 ((t.s.pos:Int)+1)=((t.s.pos+1:Nat):Int):=by rw[sj (by simp only[inK];omega)];omega
  have x:=ju (o:=0) (v:= .int .i64 ((t.s.pos+1:Nat):Int)) (cs':=[.int .i64 ((t.s.pos+1:Nat):Int)]) q.ga (by simp) rfl rfl;have hc:Chg (λl=>l=L.lat) h (h.put L.lat (.cells tyInt 1 true false [.int .i64 ((t.s.pos+1:Nat):Int)])):=Chg.put _ rfl a.1;have d:∀l,F l->(h.put L.lat (.cells tyInt 1 true false [.int .i64 ((t.s.pos+1:Nat):Int)])).get l=h.get l:=λl b=>fg _ a.1 λe=>a.2.1 (e▸b);have l2:pLd (.ptr L.lr 0) (h.put L.lat (.cells tyInt 1 true false [.int .i64 ((t.s.pos+1:Nat):Int)]))=some vo:=gZ (by rw[d _ q.fr];exact gr) rfl;have l3:pLd (.ptr L.lat 0) (h.put L.lat (.cells tyInt 1 true false [.int .i64 ((t.s.pos+1:Nat):Int)]))=some (.int .i64 ((t.s.pos+1:Nat):Int)):=gZ (fd _ a.1) rfl;have y:wrapF .i64 (((t.s.pos+1:Nat):Int)-1)=(t.s.pos:Nat):=by rw[sj (by simp only[inK];omega)];omega
  obtain⟨l,o,u,_,z,A,B⟩:=(g.keep d).ix1 c .i64 rfl;obtain⟨rfl⟩:u = .int .i64 ops[t.s.pos]:=by simpa using B.1
  simp only[BP,w,fj,x,ec,l2,l3,oV,y,z,A];refine Dg j (by omega) (H _ ⟨hc.next,λl b=>b.elim (d l) λb=>fg _ a.1 λe=>b.2 e.symm⟩ ?_);have C:Dw F (gm G L.lat) h L.lu L.lkn L.lbl t R:={q.D with gx:=λl b=>q.D.gx l b.1}
  have D':=(C.other hc λl b=>by subst b;exact⟨a.2.1,λE=>E.2 rfl,a.2.2⟩).1;refine q.step' d ?_ (λ_ h=>h) q.hq q.gl (fd _ a.1);have f:∀l,G l->_:=λl b=>if e:l=L.lat then e▸(⟨a.1,a.2.1,a.2.2⟩:_/\_/\∀i,¬comp L.lu L.lkn L.lbl R i L.lat) else D'.gx l ⟨b,e⟩
  exact{D' with gx:=f}
def gp (G:Nat->Prop)(v:V)(p:Nat):Nat->Prop:=λl=>G l\/l=p\/Loc v l
theorem qu (l:List Nat)(h:0<l.length):l.getD (l.length-1) 0=l.getLastD 0:=by
 rw[List.getLastD_eq_getLast?,List.getLast?_eq_getElem?,wAL]
theorem Bd (q:Dq F G h L ops t R)(hk:0<t.s.known.length)(aO:t.s.known.length<1000)(hs:t.s.states.length<1000)(ho:ops.length<9223372036854775808)
  (H:∀F' h' R',(∀l,F l->F' l)->Kp F (gm G L.lat) h h'->Dq F' G h' L ops {t with s:=(stateM ops t.s).2} R'->R'.vk=R.vk->Q (.int .i64 ((stateM ops t.s).1:Nat)) h') :
  cP CS eJ [.ptr L.lu 0,.ptr L.lnext 0,.ptr L.lkn 0] h Q:=by
 refine vt rfl rfl ?_;unfold pG;have aN:=(q.D.gx _ q.gl).1;have an:∀l,G l->l<h.next:=λl f=>(q.D.gx l f).1;have ao:∀i l,comp L.lu L.lkn L.lbl R i l->l<h.next:=λi l f=>(q.D.sig f).2.1;have eb:pBuild [(V.int .i64 0),(V.int .i64 0),V.nilSlice,V.nilSlice] [(0,1),(1,1),(2,1),(3,1)] [(0,(V.int .i64 1)),(1,.int .i64 t.s.states.length)]=some (.agg [.int .i64 1,.int .i64 t.s.states.length,.nilSlice,.nilSlice]):=rfl;have U:(h.new (.cells 40 1 true false [(V.int .i64 0),(V.int .i64 0),V.nilSlice,V.nilSlice])).get h.next=some (.cells 40 1 true false [(V.int .i64 0),(V.int .i64 0),V.nilSlice,V.nilSlice]):=ef _ _;have e1:=xL (n:=4) (ws:=[.int .i64 1,.int .i64 t.s.states.length,.nilSlice,.nilSlice]) U rfl rfl rfl;simp only[ed,fj,wAY,q.D.ldS,q.D.os.len,eb,ev,e1,ec];have K:h.next<(h.new (.cells 40 1 true false [(V.int .i64 0),(V.int .i64 0),V.nilSlice,V.nilSlice])).next:=wAk _
 have c2:Chg (λl=>l=h.next) h ((h.new (.cells 40 1 true false [(V.int .i64 0),(V.int .i64 0),V.nilSlice,V.nilSlice])).put h.next (.cells 40 1 true false [.int .i64 1,.int .i64 t.s.states.length,.nilSlice,.nilSlice])):=
  (Chg.new _ _).trans (Chg.put _ rfl K)
 have g2:=fd (h:=h.new (.cells 40 1 true false [(V.int .i64 0),(V.int .i64 0),V.nilSlice,V.nilSlice])) (.cells 40 1 true false [.int .i64 1,.int .i64 t.s.states.length,.nilSlice,.nilSlice]) K;have n2:((h.new (.cells 40 1 true false [(V.int .i64 0),(V.int .i64 0),V.nilSlice,V.nilSlice])).put h.next (.cells 40 1 true false [.int .i64 1,.int .i64 t.s.states.length,.nilSlice,.nilSlice])).next=h.next+1:=rfl;generalize ((h.new (.cells 40 1 true false [(V.int .i64 0),(V.int .i64 0),V.nilSlice,V.nilSlice])).put h.next (.cells 40 1 true false [.int .i64 1,.int .i64 t.s.states.length,.nilSlice,.nilSlice]))=h2 at*;clear U e1 K;have fresh:∀l,h.next<=l->¬F l/\¬G l/\∀i,¬comp L.lu L.lkn L.lbl R i l:=λl f=>⟨λhf=>by have:=q.D.fl l hf;omega,λhg=>by have:=an l hg;omega,λi hi=>by have:=ao i l hi;omega⟩
 obtain ⟨W,k2⟩:=q.D.other c2 (λl f=>by subst f;exact fresh _ (wAF _));have X:Dw F (gp G .nilSlice h.next) h2 L.lu L.lkn L.lbl t R:=W.gmore λl f=>f.elim .inl λf=> .inr (by
  rcases f with rfl|f
  ·exact⟨by omega,(fresh _ (wAF _)).1,(fresh _ (wAF _)).2.2⟩
  ·exact f.elim)
 have q2:Dq F (gp G .nilSlice h.next) h2 L ops t R:=q.step k2 X (λ_ h=>h) (.inl q.gl) q.hq rfl;rw[q2.ldNext];simp only[fj,fNext,jS,lE,wAl,wAa];refine qr (m:=4) q2 (by decide) (by decide) ho λy k3 q3=>?_;have g3:y.get h.next=some (.cells 40 1 true false [.int .i64 1,.int .i64 t.s.states.length,.nilSlice,.nilSlice]):=by
  rw[k3.keep _ (.inr ⟨.inr (.inl rfl),by omega⟩)];exact g2
 have hr:(draw ops t.s.pos 4).1<4:=qq _ _ (by decide)
 refine tf (λk x0 x1 x2 x4 x5 h'=>∃(s:Ds) (l:List Nat) (vl:V),x0 = .ptr L.lu 0/\x1 = .ptr L.lnext 0/\x2 = .ptr L.lkn 0/\x4 = .ptr h.next 0/\x5 = .int .i64 (k:Nat)/\Dq F (gp G vl h.next) h' L ops {t with s:=s} R/\Kp F (gm G L.lat) h h'/\
  h'.get h.next=some (.cells 40 1 true false [.int .i64 1,.int .i64 t.s.states.length,vl,.nilSlice])/\OwnR eN tyInt F h' l vl/\(∀z,Loc vl z->h.next<z)/\m0 ops k s l=m0 ops (draw ops t.s.pos 4).1 (num ops t.s 4).2 []/\s.known=t.s.known/\s.states=t.s.states/\l.length+k<=4) ?_
  ⟨(num ops t.s 4).2,[],.nilSlice,rfl,rfl,rfl,rfl,rfl,q3,(k2.gm L.lat).trans ⟨k3.next,λl f=>k3.keep l (f.imp id λf=>⟨.inl f.1,f.2⟩)⟩ (λ_ h=>h),g3,.nil,λ_ h=>h.elim,rfl,rfl,rfl,by simp;omega⟩
 clear q3 k3 g3 q2 X W k2 g2 c2 eb;rintro k x0 x1 x2 x4 x5 h' ⟨s,l,vl,rfl,rfl,rfl,rfl,rfl,j,k',gF,ol,P,p,r,A,hlen⟩;unfold mE;have ap:pLd (.ptr h.next 2) h' = some vl:=gZ gF rfl;have kl:({t with s:=s}:Dt).s.known.length=t.s.known.length:=by show s.known.length=_;rw[r]
 have Y:h.next<h'.next:=(j.D.gx h.next (.inr (.inl rfl))).1;have Z:∀{g:Hp} {s1:Ds},Dq F (gp G vl h.next) g L ops {t with s:=s1} R->Dw F G g L.lu L.lkn L.lbl {t with s:=s1} R:=λq=>{q.D with gx:=λl f=>q.D.gx l (.inl f)}
 simp only[kK,fj,qD,wAe]
 cases k with
 | succ k=>
   rw[if_pos (by omega)];have lk:=j.D.ok.len;rw[kl]at lk;rw[j.ldNext];simp only[ed,fj,wAY,ap,j.D.ldK,lk,fNext,jS,lE,wAl,wAa];refine qr (m:=t.s.known.length) j hk (by omega) ho λg u I=>?_;have aq:g.get h.next=some (.cells 40 1 true false [.int .i64 1,.int .i64 (t.s.states.length:Nat),vl,.nilSlice]):=by
     rw[u.keep _ (.inr ⟨.inr (.inl rfl),by omega⟩)];exact gF
   have aa:OwnR eN tyInt F g l vl:=ol.keep (λz b=>u.keep z (.inl b)) (λz b=>u.keep z (.inr ⟨.inr (.inr b),by have:=P z b;omega⟩)) u.next;have ar:(draw ops s.pos t.s.known.length).1<t.s.known.length:=qq _ _ hk;obtain⟨l1,o1,ab,ac,i1,i2⟩:=I.knownAt (i:=(draw ops s.pos t.s.known.length).1) (by show _<s.known.length;rw[r];exact ar);have B:pLd (.ptr l1 o1) g=some (.int .i64 (s.known.getD (draw ops s.pos t.s.known.length).1 0:Nat)):=i2;refine⟨u.next,?_⟩;have e3:∀a:Nat,pBS 3 1 1 (V.int .i64 0) [(0,V.int .i64 (a:Nat))]=some (.cells 3 1 true false [V.int .i64 (a:Nat)],λl=> .slice l 0 1):=λ_=>rfl;have au:pIx 1 R.vk (.int .i64 ((draw ops ({t with s:=s}:Dt).s.pos t.s.known.length).1:Nat))=some (.ptr l1 o1):=i1;simp only[au,B,fj,e3,fD];generalize hv:s.known.getD (draw ops s.pos t.s.known.length).1 0=a at*;have W:=(Z I).grow (Chg.new g (.cells 3 1 true false [V.int .i64 (a:Nat)]));have ae:(g.new (.cells 3 1 true false [V.int .i64 (a:Nat)])).get h.next=_:=(er _ (by have:=u.next;omega)).trans aq;refine⟨⟨ef _ _,O.beq_cells _ _ _ _ _⟩,gQ B (er _ ab),W.ldK,gZ ae rfl,?_⟩;have aw:OwnR eN tyInt F (g.new (.cells 3 1 true false [V.int .i64 (a:Nat)])) l vl:=aa.keep (λz b=>er _ (I.D.fl z b)) (λz b=>er _ (aa.tyOf b).2.1) (wBZ _);have hx:xcells (g.new (.cells 3 1 true false [V.int .i64 (a:Nat)])) 1 (.slice g.next 0 1)=some (1,[V.int .i64 (a:Nat)]):=jl (k:=0) rfl;obtain⟨d,y,a1,ag,c3,ax⟩:=aw.append (by_:=8) (ys:=[a]) hx ⟨[V.int .i64 (a:Nat)],[],rfl,rfl,trivial⟩ rfl rfl (by simp) (by decide) (λz b=>wB6 (I.D.fl z b)) (by simp;omega) (by simp;omega);have n2:(g.new (.cells 3 1 true false [V.int .i64 (a:Nat)])).next=g.next+1:=rfl;have w:h.next<y.next:=by have:=c3.next;have:=u.next;omega
   have ay:y.get h.next=some (.cells 40 1 true false [.int .i64 1,.int .i64 (t.s.states.length:Nat),vl,.nilSlice]):=by
     rw[c3.keep _ (by have:=u.next;omega) λb=>wBW _ (P _ b)];exact ae
   have a2:=ju (o:=2) (v:=d) (cs':=[.int .i64 1,.int .i64 (t.s.states.length:Nat),d,.nilSlice]) ay (by simp) ag.one rfl;have aA:happend 3 1 8 vl (.slice g.next 0 1) (g.new (.cells 3 1 true false [V.int .i64 (a:Nat)]))=some (.val d y):=a1;have w1:wrapF .i64 (((k+1:Nat):Int)-1)=(k:Nat):=wsub1 (by omega);simp only[aA,ec,a2,oV,w1,fj];refine⟨c3.next,wAF _,k,by omega,?_⟩
   have cc:Chg (λz=>Loc vl z\/z=h.next) (g.new (.cells 3 1 true false [V.int .i64 (a:Nat)])) (y.put h.next (.cells 40 1 true false [.int .i64 1,.int .i64 (t.s.states.length:Nat),d,.nilSlice])):=
     (c3.weak λ_ _ h=> .inl h).trans (Chg.put _ (.inr rfl) w)
   obtain⟨D4,k4⟩:=W.other cc λz b=>fresh z (by rcases b with b|rfl;exact Nat.le_of_lt (P z b);exact wAF _);have M:∀z,Loc d z->h.next<z:=λz b=>(ax z b).elim (P z) λe=>by have:=u.next;omega
   have ah:OwnR eN tyInt F (y.put h.next (.cells 40 1 true false [.int .i64 1,.int .i64 (t.s.states.length:Nat),d,.nilSlice])) (l++[a]) d:=
     ag.keep (λz b=>fg _ w λe=>(fresh h.next (wAF _)).1 (e▸b)) (λz b=>fg _ w (by have:=M z b;omega)) (wAF _)
   have aB:Dw F (gp G d h.next) (y.put h.next (.cells 40 1 true false [.int .i64 1,.int .i64 (t.s.states.length:Nat),d,.nilSlice])) L.lu L.lkn L.lbl _ R:=D4.gmore λz b=>b.elim .inl λb=> .inr (by
     rcases b with rfl|b
     ·exact⟨w,(fresh _ (wAF _)).1,(fresh _ (wAF _)).2.2⟩
     ·have C:=fresh z (Nat.le_of_lt (M z b));exact⟨(ah.tyOf b).2.1,C.1,C.2.2⟩)
   have kk:Kp F G g (y.put h.next (.cells 40 1 true false [.int .i64 1,.int .i64 (t.s.states.length:Nat),d,.nilSlice])):=
     (Kp.new F G g _ I.D.fl λz b=>(I.D.gx z (.inl b)).1).trans k4 λ_ h=>h
   have qG:Dq F G g L ops _ R:={I with D:=Z I,gl:=q.gl}
   refine⟨{s with pos:=(draw ops s.pos t.s.known.length).2},l++[a],d,by trivial,by trivial,by trivial,by trivial,by trivial,qG.step kk aB (λ_ h=>h) (.inl q.gl) j.hq rfl,?_,fd _ w,ah,M,?_,r,A,by simp;omega⟩
   ·exact(k'.trans ⟨u.next,λz b=>u.keep z (b.imp id λb=>⟨.inl b.1,b.2⟩)⟩ λ_ h=>h).trans (kk.gm _) λ_ h=>h
   ·rw[<-p,<-hv]
    show _=m0 ops k (one_ ops s).2 (l++[(one_ ops s).1]);unfold one_
    rw[r]
 | zero=>
   rw[if_neg (by omega)];obtain⟨e1,e2⟩:l=(m0 ops (draw ops t.s.pos 4).1 (num ops t.s 4).2 []).1/\s=(m0 ops (draw ops t.s.pos 4).1 (num ops t.s 4).2 []).2:=by rw[<-p];exact⟨rfl,rfl⟩
   have lk:=j.D.ok.len;rw[kl]at lk;have w1:wrapF .i64 (((t.s.known.length:Nat):Int)-1)=((t.s.known.length-1:Nat):Int):=by
     rw[show((t.s.known.length:Nat):Int)=((t.s.known.length-1+1:Nat):Int) by omega];exact wsub1 (by omega)
   obtain ⟨l1,o1,ab,ac,i1,i2⟩:=j.knownAt (i:=t.s.known.length-1) (by rw[kl];omega);have B:pLd (.ptr l1 o1) h' = some (.int .i64 (t.s.known.getLastD 0:Nat)):=by
     rw[i2,show({t with s:=s}:Dt).s.known=t.s.known from r,qu _ hk]
   have e3:∀a:Nat,pBS 3 1 1 (V.int .i64 0) [(0,V.int .i64 (a:Nat))]=some (.cells 3 1 true false [V.int .i64 (a:Nat)],λl=> .slice l 0 1):=λ_=>rfl;simp only[j.D.ldK,fj,lk,oV,w1,i1,B,e3,ev,ed,wAY];have D5:=(Z j).grow (Chg.new h' (.cells 3 1 true false [V.int .i64 (t.s.known.getLastD 0:Nat)]));have k5:Kp F G h' (h'.new (.cells 3 1 true false [V.int .i64 (t.s.known.getLastD 0:Nat)])):=(Z j).kpNew _;have g5:(h'.new (.cells 3 1 true false [V.int .i64 (t.s.known.getLastD 0:Nat)])).get h'.next=_:=ef _ _;have aC:(h'.new (.cells 3 1 true false [V.int .i64 (t.s.known.getLastD 0:Nat)])).get h.next=_:=(er _ Y).trans gF;have aD:OwnR eN tyInt F (h'.new (.cells 3 1 true false [V.int .i64 (t.s.known.getLastD 0:Nat)])) l vl:=ol.keep (λz b=>er _ (j.D.fl z b)) (λz b=>er _ (ol.tyOf b).2.1) (wBZ _);have n5:(h'.new (.cells 3 1 true false [V.int .i64 (t.s.known.getLastD 0:Nat)])).next=h'.next+1:=rfl;generalize h'.new (.cells 3 1 true false [V.int .i64 (t.s.known.getLastD 0:Nat)])=C at*;have a1:=ju (o:=3) (v:= .slice h'.next 0 1) (cs':=[.int .i64 1,.int .i64 (t.s.states.length:Nat),vl,.slice h'.next 0 1]) aC (by simp) rfl rfl;have E:h.next<C.next:=by omega
   obtain⟨D6,k6⟩:=D5.other (Chg.put (S:=λz=>z=h.next) (.cells 40 1 true false [.int .i64 1,.int .i64 (t.s.states.length:Nat),vl,.slice h'.next 0 1]) rfl E) λz b=>by subst b;exact fresh _ (wAF _)
   have aE:=fd (.cells 40 1 true false [.int .i64 1,.int .i64 (t.s.states.length:Nat),vl,.slice h'.next 0 1]) E;have g6:(C.put h.next (.cells 40 1 true false [.int .i64 1,.int .i64 (t.s.states.length:Nat),vl,.slice h'.next 0 1])).get h'.next=_:=(fg _ E (by omega)).trans g5;have ai:OwnR eN tyInt F (C.put h.next (.cells 40 1 true false [.int .i64 1,.int .i64 (t.s.states.length:Nat),vl,.slice h'.next 0 1])) l vl:=aD.keep (λz b=>k6.keep z (.inl b)) (λz b=>fg _ E (by have:=P z b;omega)) (wAF _);have n6:(C.put h.next (.cells 40 1 true false [.int .i64 1,.int .i64 (t.s.states.length:Nat),vl,.slice h'.next 0 1])).next=C.next:=rfl;simp only[a1,ec];generalize C.put h.next (.cells 40 1 true false [.int .i64 1,.int .i64 (t.s.states.length:Nat),vl,.slice h'.next 0 1])=c at*;have lA:pLdA 4 (.ptr h.next 0) c=some (.agg [.int .i64 1,.int .i64 (t.s.states.length:Nat),vl,.slice h'.next 0 1]):=uL aE rfl;have ow:allOne [.int .i64 1,.int .i64 (t.s.states.length:Nat),vl,.slice h'.next 0 1]=true:=by simp only[ee,ol.one];rfl
   have e7:pBS 40 4 1 (V.agg [(V.int .i64 0),(V.int .i64 0),V.nilSlice,V.nilSlice]) [(0,.agg [.int .i64 1,.int .i64 (t.s.states.length:Nat),vl,.slice h'.next 0 1])]=some (.cells 40 4 true false [.int .i64 1,.int .i64 (t.s.states.length:Nat),vl,.slice h'.next 0 1],λl=> .slice l 0 1):=lD rfl rfl ow;have e8:∀m:Nat,pBuild [V.nilSlice] [(0,1)] [(0,.slice m 0 1)]=some (.agg [.slice m 0 1]):=λ_=>rfl;have e9:∀m:Nat,pBS 38 1 1 (V.agg [V.nilSlice]) [(0,.agg [.slice m 0 1])]=some (.cells 38 1 true false [.slice m 0 1],λl=> .slice l 0 1):=λm=>lD rfl rfl rfl;simp only[D6.ldS,fj,lA,e7,ev,e8,e9];have D7:=D6.grow (Chg.new c (.cells 40 4 true false [.int .i64 1,.int .i64 (t.s.states.length:Nat),vl,.slice h'.next 0 1]));have k7:=D6.kpNew (.cells 40 4 true false [.int .i64 1,.int .i64 (t.s.states.length:Nat),vl,.slice h'.next 0 1]);have g7:(c.new (.cells 40 4 true false [.int .i64 1,.int .i64 (t.s.states.length:Nat),vl,.slice h'.next 0 1])).get c.next=_:=ef _ _;have aF:(c.new (.cells 40 4 true false [.int .i64 1,.int .i64 (t.s.states.length:Nat),vl,.slice h'.next 0 1])).get h'.next=_:=(er _ (by omega)).trans g6;have aj:OwnR eN tyInt F (c.new (.cells 40 4 true false [.int .i64 1,.int .i64 (t.s.states.length:Nat),vl,.slice h'.next 0 1])) l vl:=ai.keep (λz b=>er _ (D6.fl z b)) (λz b=>er _ (ai.tyOf b).2.1) (wBZ _);have n7:(c.new (.cells 40 4 true false [.int .i64 1,.int .i64 (t.s.states.length:Nat),vl,.slice h'.next 0 1])).next=c.next+1:=rfl;generalize c.new (.cells 40 4 true false [.int .i64 1,.int .i64 (t.s.states.length:Nat),vl,.slice h'.next 0 1])=x at*;have D8:=D7.grow (Chg.new x (.cells 38 1 true false [.slice c.next 0 1]));have k8:=D7.kpNew (.cells 38 1 true false [.slice c.next 0 1]);have g8:(x.new (.cells 38 1 true false [.slice c.next 0 1])).get c.next=_:=(er _ (by omega)).trans g7;have aG:(x.new (.cells 38 1 true false [.slice c.next 0 1])).get h'.next=_:=(er _ (by omega)).trans aF;have al:OwnR eN tyInt F (x.new (.cells 38 1 true false [.slice c.next 0 1])) l vl:=aj.keep (λz b=>er _ (D7.fl z b)) (λz b=>er _ (aj.tyOf b).2.1) (wBZ _);have aH:xcells (x.new (.cells 38 1 true false [.slice c.next 0 1])) 1 (.slice x.next 0 1)=some (1,[.slice c.next 0 1]):=jl (k:=0) rfl;have n8:(x.new (.cells 38 1 true false [.slice c.next 0 1])).next=x.next+1:=rfl;generalize x.new (.cells 38 1 true false [.slice c.next 0 1])=T at*;have D9:Dw (λz=>F z\/Loc vl z\/z=h'.next\/z=c.next) G T L.lu L.lkn L.lbl {t with s:=s} R:=D8.more (λ_ h=> .inl h) λz b=>b.elim .inl λb=> .inr (by
     have aI:h.next<z/\z<T.next:=by
       rcases b with b|rfl|rfl
       ·exact⟨P z b,(al.tyOf b).2.1⟩
       ·omega
       ·omega
     have h9:=fresh z (by omega);exact⟨aI.2,h9.2.2,h9.2.1⟩)
   have sl:SlR eN (λz=>F z\/Loc vl z\/z=h'.next\/z=c.next) T l vl:=al.slR (λ_ h=> .inl h) λ_ h=> .inr (.inl h)
   have ss:SlR eN (λz=>F z\/Loc vl z\/z=h'.next\/z=c.next) T [t.s.known.getLastD 0] (.slice h'.next 0 1):=
     .inr ⟨h'.next,0,3,true,false,[V.int .i64 (t.s.known.getLastD 0:Nat)],rfl,.inr (.inr (.inl rfl)),aG,.inr rfl,wA5 _,⟨_,[],rfl,rfl,trivial⟩⟩
   have sf:SlR eF (λz=>F z\/Loc vl z\/z=h'.next\/z=c.next) T [⟨1,(t.s.states.length:Nat),l,[t.s.known.getLastD 0]⟩] (.slice c.next 0 1):=
     .inr ⟨c.next,0,40,true,false,[.int .i64 1,.int .i64 (t.s.states.length:Nat),vl,.slice h'.next 0 1],rfl,.inr (.inr (.inr rfl)),g8,.inr rfl,wA5 _,⟨_,[],rfl,⟨vl,_,rfl,sl,ss⟩,trivial⟩⟩
   obtain⟨v',h9,am,b1,b2,b3,b4,k9,N⟩:=D9.appS (ys:=[[⟨1,(t.s.states.length:Nat),l,[t.s.known.getLastD 0]⟩]]) aH ⟨[.slice c.next 0 1],[],rfl,⟨_,rfl,sf⟩,trivial⟩ rfl rfl (by simp) (by show s.states.length+_<_;rw[A];simp;omega);have aJ:happend 38 1 24 R.vs (.slice x.next 0 1) T=some (.val v' h9):=b1;have lS:=N.os.len;have aK:((s.states++[[(⟨1,(t.s.states.length:Nat),l,[t.s.known.getLastD 0]⟩:Fm)]]).length:Nat)=t.s.states.length+1:=by rw[A];simp
   have aL:pLen v' = some (.int .i64 ((t.s.states.length+1:Nat):Int)):=by rw[<-aK];exact lS
   have w2:wrapF .i64 (((t.s.states.length+1:Nat):Int)-1)=(t.s.states.length:Nat):=wsub1 (by omega);simp only[aJ,ec,b3,N.ldS,fj,aL,oV,w2];have J:Kp F G h' am:=(((k5.trans k6 λ_ h=>h).trans k7 λ_ h=>h).trans k8 λ_ h=>h).trans ⟨k9.next,λz b=>k9.keep z (b.imp (λh=> .inl h) id)⟩ λ_ h=>h;have qG:Dq F G h' L ops _ R:={j with D:=Z j,gl:=q.gl}
   have hE:({t with s:=(stateM ops t.s).2}:Dt) = {t with s:={s with states:=s.states++[[⟨1,(t.s.states.length:Nat),l,[t.s.known.getLastD 0]⟩]]} }:=by
     unfold stateM;rw[e1,A,e2];rfl
   have aM:=qG.step J N (λ_ h=> .inl h) q.gl j.hq rfl;refine H (λz=>F z\/Loc vl z\/z=h'.next\/z=c.next) am {R with vs:=v'} (λ_ h=> .inl h) (k'.trans (J.gm _) λ_ h=>h) ?_ rfl;rw[hE];exact aM
end
open Go.Proofs.YtpnddokajmjpbaaDoor.Un
theorem Jw {t:Nat}{k:IntKind}{a b:Int}{A B:Prop}(h:if a<b then A else B):oP (hbin .lss t (.int k a) (.int k b)) λv=>bP v A B:=by
 simp only[j4,fj,qD,wAe];exact h
theorem fk {t:Nat}{k:IntKind}{a b:Int}{A B:Prop}(h:if a=b then A else B):oP (hbin .eql t (.int k a) (.int k b)) λv=>bP v A B:=by
 simp only[fF,fj,qD,wAt];exact h
theorem tS {t:Nat}{k:IntKind}{a b:Int}{A B:Prop}(h:if b<a then A else B):oP (hbin .gtr t (.int k a) (.int k b)) λv=>bP v A B:=by
 simp only[kK,fj,qD,wAe];exact h
theorem gj {t n m:Nat}{K:V->Prop}(a:n<1000000000)(b:m<1000000000)(H:K (.int .i64 ((n+m:Nat):Int))):oP (hbin .add t (.int .i64 n) (.int .i64 m)) K:=by
 simp only[BP,wadd a b,fj];exact H
theorem qt {t n:Nat}{K:V->Prop}(a:n<1000000000)(h0:0<n)(H:K (.int .i64 ((n-1:Nat):Int))):oP (hbin .sub t (.int .i64 n) (.int .i64 1)) K:=by
 obtain⟨m,rfl⟩:∃m,n=m+1:=⟨n-1,by omega⟩
 simp only[oV,wsub1 (n:=m) (by omega),fj];exact H
theorem if_t{c A B:Prop}[Decidable c] (hc:c)(h:A):if c then A else B:=by rw[if_pos hc];exact h
theorem if_f{c A B:Prop}[Decidable c] (hc:¬c)(h:B):if c then A else B:=by rw[if_neg hc];exact h
theorem addOne{t n:Nat}{K:V->Prop}(H:K (.int .i64 ((n+1:Nat):Int)))(h:n<1000000000:=by omega):oP (hbin .add t (.int .i64 n) (.int .i64 1)) K:=gj (m:=1) h (by decide) H
theorem ltYes{t:Nat}{k:IntKind}{a b:Int}{A B:Prop}(H:A)(h:a<b:=by omega):oP (hbin .lss t (.int k a) (.int k b)) λv=>bP v A B:=Jw (if_t h H)
theorem ltNo{t:Nat}{k:IntKind}{a b:Int}{A B:Prop}(H:B)(h:¬a<b:=by omega):oP (hbin .lss t (.int k a) (.int k b)) λv=>bP v A B:=Jw (if_f h H)
section
variable{F F' G G':Nat->Prop}{h h':Hp}{L:Lc}{ops:List Int}{t t':Dt}{R R':Rw}{Q:QP1}
theorem app1{α:Type}{l:List α}{x:α}{n:Nat}(h:l.length<=n):(l++[x]).length<=n+1:=by rw[wAM];exact Nat.add_le_add_right h 1
structure Sm (s:Ds) (n:Nat):Prop where
 v:s.vals.length<=n
 c:s.cur.length<=n
 k:s.known.length<=n
 st:s.states.length<=n
 k0:0<s.known.length
theorem Sm.le{s:Ds}{n m:Nat}(a:Sm s n)(h:n<=m):Sm s m:=⟨wAq a.v h,wAq a.c h,wAq a.k h,wAq a.st h,a.k0⟩
theorem Sm.put {s:Ds}{n:Nat}(a:Sm s n)(x:Vl):Sm (put s x) (n+1):=
 ⟨app1 a.v,app1 a.c,wBX a.k,wBX a.st,a.k0⟩
theorem Sm.putK {s:Ds}{n:Nat}(a:Sm s n)(x:Vl):Sm (putK s x) (n+1):=
 ⟨app1 a.v,app1 a.c,
  app1 a.k,wBX a.st,by show 0<(s.known++[s.vals.length]).length;rw[wAM];exact wAO a.k0 (Nat.le_add_right _ _)⟩
theorem Sm.pos{s:Ds}{n:Nat}(a:Sm s n)(p:Nat):Sm {s with pos:=p} n:=⟨a.v,a.c,a.k,a.st,a.k0⟩
theorem Sm.state {s:Ds}{n:Nat}(a:Sm s n)(ops:List Int):Sm (stateM ops s).2 (n+1):=by
 have b:∃p,(m0 ops (num ops s 4).1 (num ops s 4).2 []).2 = {s with pos:=p}:=by
  obtain⟨p,h⟩:=wQ ops (num ops s 4).1 (num ops s 4).2 [];exact⟨p,h⟩
 obtain⟨p,b⟩:=b;unfold stateM;simp only[b];exact⟨wBX a.v,wBX a.c,wBX a.k,app1 a.st,a.k0⟩
theorem I3 (q:Dq F G h L ops t R){n a:Nat}(m:Sm t.s n)(p:n<1000){K:Hp->Prop}
  (H:∀h' R',Kp F G h h'->Dq F G h' L ops {t with s:={t.s with known:=t.s.known++[a]} } R'->K h') :
  alO (pBS 3 1 1 (V.int .i64 0) [(0,.int .i64 a)]) h λo c b=>((b.get h.next=some o/\O.beq o o=true)/\(pLd (.ptr L.lkn 0) b=some R.vk/\valP (happend 3 1 8 R.vk c b) λd e=>(b.next<=e.next/\valP (pSt 1 (.ptr L.lkn 0) d e) λ_ g=>(e.next<=g.next/\K g)))):=by
 have r:pBS 3 1 1 (V.int .i64 0) [(0,V.int .i64 a)]=some (.cells 3 1 true false [V.int .i64 a],λl=> .slice l 0 1):=rfl;rw[r,fD];have i:=q.D.grow (Chg.new h (.cells 3 1 true false [V.int .i64 a]));have u:xcells (h.new (.cells 3 1 true false [V.int .i64 a])) 1 (.slice h.next 0 1)=some (1,[V.int .i64 a]):=jl (k:=0) rfl;obtain⟨v,w,z,a1,a2,a3,a4,x,y⟩:=i.appK (ys:=[a]) u ⟨[V.int .i64 a],[],rfl,rfl,trivial⟩ rfl rfl (by simp) (by have:=m.k;simp;omega);have f:happend 3 1 8 R.vk (.slice h.next 0 1) (h.new (.cells 3 1 true false [V.int .i64 a]))=some (.val v w):=a1;refine⟨⟨ef _ _,O.beq_cells _ _ _ _ _⟩,i.ldK,?_⟩;simp only[f,ec,a3];have j:=(q.D.kpNew (.cells 3 1 true false [V.int .i64 a])).trans x λ_ h=>h;exact⟨a2,a4,H _ _ j (q.step j y (λ_ h=>h) q.gl q.hq rfl)⟩
theorem xA {x:Vl}{w:List V}(q:Dq F G h L ops t R){n:Nat}(b:Sm t.s n)(p:n<999)(r:eV.rel F h x w){K:Hp->Prop}
  (H:∀h' R',Kp F G h h'->Dq F G h' L ops {t with s:=putK t.s x} R'->K h') :
  cP CS eo [.agg w,.ptr L.lu 0,.ptr L.lbl 0] h λd e=>(h.next<=e.next/\alO (pBS 3 1 1 (V.int .i64 0) [(0,d)]) e λo f a=>((a.get e.next=some o/\O.beq o o=true)/\(pLd (.ptr L.lkn 0) a=some R.vk/\valP (happend 3 1 8 R.vk f a) λg i=>(a.next<=i.next/\valP (pSt 1 (.ptr L.lkn 0) g i) λ_ m=>(i.next<=m.next/\K m))))):=by
 have E:=b.v;have hc:=b.c;refine Fb q.D q.hq r (by omega) (by omega) λu R1 j y k l=>⟨j.next,?_⟩
 have z:Dq F G u L ops {t with s:=put t.s x} R1:=q.step j y (λ_ h=>h) q.gl k rfl;rw[<-l];exact I3 z (b.put x) (by omega) λA R2 B C=>H A R2 (j.trans B λ_ h=>h) C
theorem ze {x:Vl}{w:List V}(q:Dq F G h L ops t R){n:Nat}(d:Sm t.s n)(f:n<999)(g:eV.rel F h x w){K:QP1}
  (H:∀h' R',Kp F G h h'->R'.vk=R.vk->Dq F G h' L ops {t with s:=put t.s x} R'->K (.int .i64 t.s.vals.length) h'):cP CS eo [.agg w,.ptr L.lu 0,.ptr L.lbl 0] h K:=by
 have k:=d.v;have hc:=d.c;exact Fb q.D q.hq g (by omega) (by omega) λi R1 e j a b=>H i R1 e b (q.step e j (λ_ h=>h) q.gl a rfl)
theorem A8 (q:Dq F G h L ops t R)(c:ops.length<9223372036854775808){n:Nat}(a:Sm t.s n)(d:n<1000){K:QP1}
  (H:∀h' l o,Kp F (gm G L.lat) h h'->Dq F G h' L ops {t with s:=(one_ ops t.s).2} R->l<h'.next->pIx 1 R.vk (.int .i64 ((draw ops t.s.pos t.s.known.length).1:Nat))=some (.ptr l o)->pLd (.ptr l o) h' = some (.int .i64 ((one_ ops t.s).1:Nat))->K (.int .i64 ((draw ops t.s.pos t.s.known.length).1:Nat)) h') :
  cP CS eh [.int .i64 t.s.known.length,.ptr L.lat 0,.ptr L.lr 0] h K:=by
 refine qr q a.k0 (by have:=a.k;omega) c λe f b=>?_;obtain⟨l,o,g,_,j,m⟩:=b.knownAt (i:=(draw ops t.s.pos t.s.known.length).1) (qq _ _ a.k0);exact H e l o f b g j m
theorem JI {b:Bk}{nv:V}(q:Dq F G h L ops t R){n:Nat}(hn:t.blocks.length<1000)(O:b.vals=[])(P:b.preds=[])(a:SlR eN F h b.next nv)
  (H:∀F' h' R',(∀l,F l->F' l)->Kp F G h h'->Dq F' G h' L ops {s:={t.s with cur:=[]},blocks:=t.blocks++[⟨t.s.cur,b.fin,b.cond,b.next,t.preds,b.state⟩],preds:=[]} R'->Q (.int .i64 t.blocks.length) h') :
  cP CS gI [.agg (bkC b .nilSlice nv .nilSlice),.ptr L.lbl 0,.ptr L.lu 0] h Q:=by
 refine vj rfl rfl ?_;unfold pO;have T:allOne (bkC b .nilSlice nv .nilSlice)=true:=by simp only[bkC,ee,a.one];rfl
 have f:∀l,G l->l<h.next:=λl e=>(q.D.gx l e).1;have g:∀i l,comp L.lu L.lkn L.lbl R i l->l<h.next:=λi l e=>(q.D.sig e).2.1;have fresh:∀l,h.next<=l->¬F l/\¬G l/\∀i,¬comp L.lu L.lkn L.lbl R i l:=λl e=>⟨λU=>by have:=q.D.fl l U;omega,λW=>by have:=f l W;omega,λi hi=>by have:=g i l hi;omega⟩
 have y:=q.D.grow (Chg.new h (.cells 44 1 true false (bkC b .nilSlice nv .nilSlice)));have X:=q.D.kpNew (.cells 44 1 true false (bkC b .nilSlice nv .nilSlice));have Y:(h.new (.cells 44 1 true false (bkC b .nilSlice nv .nilSlice))).get h.next=_:=ef _ _;have j:h.next<(h.new (.cells 44 1 true false (bkC b .nilSlice nv .nilSlice))).next:=wAk _;simp only[vE T,ev,ed,fj,wAY,wB0,y.ldC];generalize h.new (.cells 44 1 true false (bkC b .nilSlice nv .nilSlice))=A at*;have Z:=ju (o:=0) (v:=R.cc) (cs':=bkC b R.cc nv .nilSlice) Y (by simp[bkC]) (by rw[q.hq];exact q.D.oc.one) rfl;obtain⟨B,k2⟩:=y.other (Chg.put (S:=λz=>z=h.next) (.cells 44 1 true false (bkC b R.cc nv .nilSlice)) rfl j) λz m=>by subst m;exact fresh _ (wAF _)
 have g2:=fd (.cells 44 1 true false (bkC b R.cc nv .nilSlice)) j;have C:h.next<(A.put h.next (.cells 44 1 true false (bkC b R.cc nv .nilSlice))).next:=j;simp only[Z,ec,B.ldP,fj];generalize A.put h.next (.cells 44 1 true false (bkC b R.cc nv .nilSlice))=h2 at*;have e3:=ju (o:=4) (v:=R.vp) (cs':=bkC b R.cc nv R.vp) g2 (by simp[bkC]) q.D.sp.one rfl;obtain⟨r,k3⟩:=B.other (Chg.put (S:=λz=>z=h.next) (.cells 44 1 true false (bkC b R.cc nv R.vp)) rfl C) λz m=>by subst m;exact fresh _ (wAF _)
 have g3:=fd (.cells 44 1 true false (bkC b R.cc nv R.vp)) C;simp only[e3,ec,r.ldB,fj];generalize h2.put h.next (.cells 44 1 true false (bkC b R.cc nv R.vp))=d at*;have E:allOne (bkC b R.cc nv R.vp)=true:=by simp only[bkC,ee,a.one,q.hq,q.D.oc.one,q.D.sp.one];rfl
 have lA:pLdA 6 (.ptr h.next 0) d=some (.agg (bkC b R.cc nv R.vp)):=uL g3 rfl;have e4:pBS 44 6 1 (V.agg [V.nilSlice,(V.int .i64 0),(V.int .i64 0),V.nilSlice,V.nilSlice,(V.int .i64 0)]) [(0,.agg (bkC b R.cc nv R.vp))]=some (.cells 44 6 true false (bkC b R.cc nv R.vp),λl=> .slice l 0 1):=lD rfl rfl E;simp only[lA,fj,e4,ev];have I:=r.grow (Chg.new d (.cells 44 6 true false (bkC b R.cc nv R.vp)));have k4:=r.kpNew (.cells 44 6 true false (bkC b R.cc nv R.vp));have u:xcells (d.new (.cells 44 6 true false (bkC b R.cc nv R.vp))) 6 (.slice d.next 0 1)=some (1,bkC b R.cc nv R.vp):=jl (k:=0) rfl;have J:Kp F G h (d.new (.cells 44 6 true false (bkC b R.cc nv R.vp))):=((X.trans k2 λ_ h=>h).trans k3 λ_ h=>h).trans k4 λ_ h=>h;generalize d.new (.cells 44 6 true false (bkC b R.cc nv R.vp))=K at*;obtain⟨sc,D5⟩:=I.flush
 have hw:eK.rel (fzc F R.vc) K ⟨t.s.cur,b.fin,b.cond,b.next,t.preds,b.state⟩ (bkC b R.cc nv R.vp):=
  ⟨R.cc,nv,R.vp,rfl,by rw[q.hq];exact sc,(a.keep λl e=>J.keep l (.inl e)).mono λ_ h=> .inl h,I.sp.mono λ_ h=> .inl h⟩
 obtain ⟨M,h5,h6,a1,a2,a3,a4,k6,N⟩:=D5.appB (ys:=[⟨t.s.cur,b.fin,b.cond,b.next,t.preds,b.state⟩]) u ⟨bkC b R.cc nv R.vp,[],by simp,hw,trivial⟩ rfl E (by simp) (by simp;omega);have w:happend 44 6 96 R.vb (.slice d.next 0 1) K=some (.val M h5):=a1;have e7:pBuild [V.nilSlice,(V.int .i64 0),(V.int .i64 0),V.nilSlice,V.nilSlice,(V.int .i64 0)] [(0,1),(1,1),(2,1),(3,1),(4,1),(5,1)] []=some (.agg [.nilSlice,.int .i64 0,.int .i64 0,.nilSlice,.nilSlice,.int .i64 0]):=rfl;have e8:=xL (n:=6) (ws:=[.nilSlice,.int .i64 0,.int .i64 0,.nilSlice,.nilSlice,.int .i64 0]) N.gb rfl rfl rfl;obtain⟨k7,x⟩:=N.setBl (c:= .nilSlice) (p:= .nilSlice) (ps:=[]) .nil;have lb:pLen M=some (.int .i64 ((t.blocks.length+1:Nat):Int)):=by
  have:=x.ob.len;simpa using this
 simp only[w,ec,a3,e7,fj,e8,x.ldB,lb,oV,wsub1 (n:=t.blocks.length) (by omega)];have kb:=(J.trans (F':=fzc F R.vc) k6 λ_ h=> .inl h).trans (F':=fzc F R.vc) k7 λ_ h=> .inl h;exact H (fzc F R.vc) _ _ (λ_ h=> .inl h) kb (q.step kb x (λ_ h=> .inl h) q.gl rfl rfl)
end
