/- Parts. -/
import Derived.Test.YtpnddokajmjpbaaDoorM18
import Derived.Test.YtpnddokajmjpbaaDoorM19
import Derived.Test.YtpnddokajmjpbaaDoorM15
namespace Go.Proofs.YtpnddokajmjpbaaDoor.Hx
open Go.Proofs.YtpnddokajmjpbaaDoor.Un
theorem Cc {e:Nat}{w:List V}(a:fV w=true):nP e (.agg w)=some (.cells e 1 true false w,λl=> .ptr l 0):=by
 unfold nP;rw[jm _ (show fV (V.agg w).cells=true from a)];rfl
theorem mq {e sz:Nat}{z w:List V}(c:z.length=sz)(a:w.length=sz)(b:fV w=true):iZ e sz 1 (.agg z) [(0,.agg w)]=some (.cells e sz true false w,λl=> .slice l 0 1):=by
 unfold iZ;have hs:pC (Nat.mul 0 sz) (yT 1 (V.agg z).cells) (V.agg w).cells=some w:=by
  show pC (0*sz) (z++[]) w=some w;rw[Nat.zero_mul,Co,yk (by omega),YI,LG,vI,List.drop_of_length_le (by omega),Co]
 simp only[Bn,fh,hs];rw[jm _ (show Nat.beq (V.agg w).cells.length sz=true by rw[show(V.agg w).cells=w from rfl,a];exact MV _)];simp only[fh];rw[jm _ b]
theorem L0 {n:Nat}(h:n<1000000000):mO .i64 (((n+1:Nat):Int)-1)=(n:Nat):=by
 rw[yo (by simp only[Ux];omega)];omega
theorem zbe {n k:Nat}(h:n<1000000000)(a:k<1000000000):mO .i64 (((n:Nat):Int)+(k:Nat))=((n+k:Nat):Int):=by
 rw[yo (by simp only[Ux];omega)];omega
theorem Up (t:Nat)(k:IntKind)(a b:Int)(hb:b≠0):er .rem t (.int k a) (.int k b)=some (.int k (a.tmod b)):=by
 have c:hint .rem k a b=some (.int k (a.tmod b)):=by
  cases b with
  | ofNat n=>cases n with
    |zero=>exact absurd rfl hb
    |succ n=>rfl
  |negSucc n=>rfl
 cases k <;> exact c
theorem MY {n:Int}{m:Nat}{h:Hp}{Q:fx}(f:0<m)(d:m<=1000000000)(H:Q (.int .i64 (lg n m:Nat)) h):cP CS iF [.int .i64 n,.int .i64 m] h Q:=by
 refine DC rfl rfl ?_;unfold wP;have g:=Int.tmod_lt_of_pos n (b:=(m:Int)) (by omega);have i : -(m:Int)<n.tmod m:=by
  have:=Int.tmod_lt_of_pos (-n) (b:=(m:Int)) (by omega);rw[Int.neg_tmod]at this;omega
 simp only[Up _ _ _ (m:Int) (by omega),gI,om,wE,DY];unfold lg at H;split
 ·rename_i a;rw[if_pos a]at H;have e:mO .i64 (n.tmod m+m)=n.tmod m+m:=yo (by simp only[Ux];omega);simp only[JN,e,gI];refine sY ?_;unfold nr;rw[Int.toNat_of_nonneg (by omega)]at H;exact H
 ·rename_i c;rw[if_neg c]at H;refine sY ?_;unfold nr;rw[Int.toNat_of_nonneg (by omega)]at H;exact H
section
variable{F G:Nat->Prop}{h:Hp}{lu hX iX:Nat}{t:Dt}{R:Rw}{Q:fx}
theorem Dw.Tl (D:Dw F G h lu hX iX t R):ev (.ptr lu 2) h=some R.vv:=jR D.gu rfl
theorem Dw.Ww (D:Dw F G h lu hX iX t R):ev (.ptr lu 3) h=some R.vb:=jR D.gu rfl
theorem Dw.ldS (D:Dw F G h lu hX iX t R):ev (.ptr lu 4) h=some R.vs:=jR D.gu rfl
theorem Dw.yr (D:Dw F G h lu hX iX t R):ev (.ptr hX 0) h=some R.vk:=jR D.gk rfl
theorem Dw.ldC (D:Dw F G h lu hX iX t R):ev (.ptr iX 0) h=some R.cc:=jR D.gb rfl
theorem Dw.ldP (D:Dw F G h lu hX iX t R):ev (.ptr iX 4) h=some R.vp:=jR D.gb rfl
theorem Qd {x:Vl}{w:List V}(D:Dw F G h lu hX iX t R)(hq:R.cc=R.vc)(g:eV.rel F h x w)(hv:t.s.ee.length<1000)(hc:t.s.cur.length<1000)
  (H:∀h' R',Kp F G h h'->Dw F G h' lu hX iX {t with s:=put t.s x} R'->R'.cc=R'.vc->R'.vk=R.vk->Q (.int .i64 t.s.ee.length) h') :
  cP CS fo [.agg w,.ptr lu 0,.ptr iX 0] h Q:=by
 refine BQ rfl rfl ?_;unfold uf;have b:=eV.one g;have a:w.length=6:=eV.len g;have i:=D.grow (jZ.new h (.cells 42 1 true false w));have q:=D.xG (.cells 42 1 true false w);have y:gg 6 (.ptr h.next 0) (h.new (.cells 42 1 true false w))=some (.agg w):=Bg (fg _ _) a;have z:iZ 42 6 1 (V.agg [(V.int .i64 0),(V.int .i64 0),(V.int .i64 0),(V.int .i64 0),V.ec,(V.int .i64 0)]) [(0,.agg w)]=some (.cells 42 6 true false w,λl=> .slice l 0 1):=mq rfl a b;simp only[Cc b,fq,ez,gI,vI,i.Tl,y,z];generalize A:h.new (.cells 42 1 true false w)=f at*;have B:=i.grow (jZ.new f (.cells 42 6 true false w));have r:=i.xG (.cells 42 6 true false w);have j:eV.rel F (f.new (.cells 42 6 true false w)) x w:=eV.fc (λl C=>(q.trans r λ_ h=>h).fc l (.inl C)) g;have m:jM (f.new (.cells 42 6 true false w)) 6 (.slice f.next 0 1)=some (1,w):=lP (k:=0) (by rw[a]);obtain⟨O,P,c,a1,a2,a3,S,E,d⟩:=B.zbz (ys:=[x]) m ⟨w,[],by simp,j,trivial⟩ (by rw[a];rfl) b (by simp) (by simp;omega);have lc:((t.s.ee++[x]).length:Nat)=t.s.ee.length+1:=by simp
 have u:=d.ov.len;simp only[lc]at u;simp only[a1,ef,a3,d.ldC,d.Tl,gI,u,uh];have v:mO .i64 (((t.s.ee.length+1:Nat):Int)-1)=(t.s.ee.length:Nat):=L0 (by omega);have I:iZ 3 1 1 (V.int .i64 0) [(0,V.int .i64 t.s.ee.length)]=some (.cells 3 1 true false [V.int .i64 t.s.ee.length],λl=> .slice l 0 1):=rfl;simp only[v,I,fq,hq];have J:=d.grow (jZ.new c (.cells 3 1 true false [V.int .i64 t.s.ee.length]));have K:=d.xG (.cells 3 1 true false [V.int .i64 t.s.ee.length]);have n:jM (c.new (.cells 3 1 true false [V.int .i64 t.s.ee.length])) 1 (.slice c.next 0 1)=some (1,[V.int .i64 t.s.ee.length]):=lP (k:=0) rfl;obtain⟨L,M,T,b1,b2,b3,U,N,o⟩:=J.zbh (ys:=[t.s.ee.length]) n ⟨[V.int .i64 t.s.ee.length],[],rfl,rfl,trivial⟩ rfl rfl (by simp) (by simp;omega);have e:=o.ov.len;simp only[lc]at e;have p:eR 3 1 8 R.vc (.slice c.next 0 1) (c.new (.cells 3 1 true false [V.int .i64 t.s.ee.length]))=some (.val L M):=b1;simp only[p,ef,b3,o.Tl,gI,e,uh,v];exact H _ _ ((((q.trans r λ_ h=>h).trans E λ_ h=>h).trans K λ_ h=>h).trans N λ_ h=>h) o rfl rfl
end
open Go.Proofs.YtpnddokajmjpbaaDoor.Un
structure Lc where
 lr:Nat
 lu:Nat
 hX:Nat
 iX:Nat
 xO:Nat
 mj:Nat
 oG:Nat
 RI:Nat
def YN (L:Lc):V:= .func fo [] [.ptr L.lu 0,.ptr L.iX 0]
def Q3 (L:Lc):V:= .func fi [] [.ptr L.mj 0,.ptr L.lr 0]
def PO (L:Lc):V:= .func fL [] [.ptr L.lu 0,.ptr L.oG 0,.ptr L.hX 0]
structure Dq (F G:Nat->Prop) (h:Hp) (L:Lc) (ops:List Int) (t:Dt) (R:Rw):Prop where
 D:Dw F G h L.lu L.hX L.iX t R
 hq:R.cc=R.vc
 gl:G L.mj
 ga:h.get L.mj=some (.cells en 1 true false [.int .i64 t.s.pos])
 fr:F L.lr
 gr:∃vo vs n,h.get L.lr=some (.cells N0 1 true false [vo,vs,n])/\ik (eI .i64) F h ops vo
 fp:F L.xO
 gp:∃e,h.get L.xO=some (.cells e 1 true false [YN L])
 fn:F L.oG
 gn:∃e,h.get L.oG=some (.cells e 1 true false [Q3 L])
 fs:F L.RI
 gs:∃e,h.get L.RI=some (.cells e 1 true false [PO L])
section
variable{F F' G G':Nat->Prop}{h h':Hp}{L:Lc}{ops:List Int}{t t':Dt}{R R':Rw}{Q:fx}
theorem Dq.X4 (q:Dq F G h L ops t R)(k:∀l,F l->h'.get l=h.get l) (D':Dw F' G' h' L.lu L.hX L.iX t' R')(a:∀l,F l->F' l) (b:R'.cc=R'.vc)(c:G' L.mj)(d:h'.get L.mj=some (.cells en 1 true false [.int .i64 t'.s.pos])):Dq F' G' h' L ops t' R' where
 D:=D'
 hq:=b
 gl:=c
 ga:=d
 fr:=a _ q.fr
 gr:=by
  obtain⟨vo,vs,n,e,f⟩:=q.gr;exact⟨vo,vs,n,by rw[k _ q.fr];exact e,(f.fc k).mono a⟩
 fp:=a _ q.fp
 gp:=by rw[k _ q.fp];exact q.gp
 fn:=a _ q.fn
 gn:=by rw[k _ q.fn];exact q.gn
 fs:=a _ q.fs
 gs:=by rw[k _ q.fs];exact q.gs
theorem Dq.step (q:Dq F G h L ops t R)(k:Kp F G h h') (D':Dw F' G' h' L.lu L.hX L.iX t' R')(b:∀l,F l->F' l)(c:G' L.mj) (a:R'.cc=R'.vc)(d:t'.s.pos=t.s.pos):Dq F' G' h' L ops t' R':=
 q.X4 (λl e=>k.fc l (.inl e)) D' b a c (by rw[k.fc _ (.inr q.gl),d];exact q.ga)
theorem Dq.ou (q:Dq F G h L ops t R):ev (.ptr L.xO 0) h=some (YN L):=by obtain⟨e,a⟩:=q.gp;exact jR a rfl
theorem Dq.uH (q:Dq F G h L ops t R):ev (.ptr L.oG 0) h=some (Q3 L):=by obtain⟨e,a⟩:=q.gn;exact jR a rfl
theorem Dq.GV (q:Dq F G h L ops t R):ev (.ptr L.RI 0) h=some (PO L):=by obtain⟨e,a⟩:=q.gs;exact jR a rfl
theorem Dq.DZ (q:Dq F G h L ops t R){i:Nat}(hi:i<t.s.known.length):∃l o,l<h.next/\(F l\/Loc R.vk l)/\gD 1 R.vk (.int .i64 i)=some (.ptr l o)/\ev (.ptr l o) h=some (.int .i64 (t.s.known.getD i 0:Nat)):=by
 obtain⟨l,o,u,a,b,c,d⟩:=q.D.ok.read.Ts hi .i64 rfl;refine⟨l,o,a.elim (q.D.fl l) λh=>(q.D.ok.sP h).2.1,a,b,?_⟩;rw[c];have:[u]=[V.int .i64 (t.s.known[i]:Nat)]:=d;rw[E3,gQ hi];simpa using this
theorem Dw.Vk {lu hX iX:Nat}(D:Dw F G h lu hX iX t R)(a:∀l,G' l->G l\/(l<h.next/\¬F l/\∀i,¬comp lu hX iX R i l)):Dw F G' h lu hX iX t R:=
 {D with gx:=λl b=>(a l b).elim (D.gx l) id}
def gm (G:Nat->Prop)(a:Nat):Nat->Prop:=λl=>G l/\l≠a
theorem Kp.gm (k:Kp F G h h')(a:Nat):Kp F (Hx.gm G a) h h':=⟨k.next,λl b=>k.fc l (b.imp id λh=>h.1)⟩
def setPos (t:Dt)(p:Nat):Dt:={t with s:={t.s with pos:=p} }
theorem vX {m:Nat}(q:Dq F G h L ops t R)(j:0<m)(k:m<=100000000)(I:ops.length<9223372036854775808)
  (H:∀h',Kp F (gm G L.mj) h h'->Dq F G h' L ops (setPos t (draw ops t.s.pos m).2) R->Q (.int .i64 ((draw ops t.s.pos m).1:Nat)) h') :
  cP CS fi [.int .i64 m,.ptr L.mj 0,.ptr L.lr 0] h Q:=by
 refine BW rfl rfl ?_;unfold tW;obtain⟨vo,vs,n,gr,g⟩:=q.gr;have p:ev (.ptr L.mj 0) h=some (.int .i64 t.s.pos):=jR q.ga rfl;have l1:ev (.ptr L.lr 0) h=some vo:=jR gr rfl;simp only[p,gI,ez,vI,l1,g.len,mY,wE,DY];have a:=q.D.gx _ q.gl;split
 ·rename_i r;have e:draw ops t.s.pos m=(0,t.s.pos):=by
   unfold draw;rw[Jp (by omega)]
  rw[e]at H;exact H h (Kp.refl _ _ _) q
 ·rename_i c;have c:t.s.pos<ops.length:=by omega
  have e:draw ops t.s.pos m=(lg ops[t.s.pos] m,t.s.pos+1):=by
   unfold draw;rw[gQ c]
  rw[e]at H;have w:mO .i64 ((t.s.pos:Int)+1)=((t.s.pos+1:Nat):Int):=by rw[yo (by simp only[Ux];omega)];omega
  have x:=mV (o:=0) (v:= .int .i64 ((t.s.pos+1:Nat):Int)) (mR:=[.int .i64 ((t.s.pos+1:Nat):Int)]) q.ga (by simp) rfl rfl;have hc:jZ (λl=>l=L.mj) h (h.put L.mj (.cells en 1 true false [.int .i64 ((t.s.pos+1:Nat):Int)])):=jZ.put _ rfl a.1;have d:∀l,F l->(h.put L.mj (.cells en 1 true false [.int .i64 ((t.s.pos+1:Nat):Int)])).get l=h.get l:=λl b=>gf _ a.1 λe=>a.2.1 (e▸b);have l2:ev (.ptr L.lr 0) (h.put L.mj (.cells en 1 true false [.int .i64 ((t.s.pos+1:Nat):Int)]))=some vo:=jR (by rw[d _ q.fr];exact gr) rfl;have l3:ev (.ptr L.mj 0) (h.put L.mj (.cells en 1 true false [.int .i64 ((t.s.pos+1:Nat):Int)]))=some (.int .i64 ((t.s.pos+1:Nat):Int)):=jR (fP _ a.1) rfl;have y:mO .i64 (((t.s.pos+1:Nat):Int)-1)=(t.s.pos:Nat):=by rw[yo (by simp only[Ux];omega)];omega
  obtain⟨l,o,u,_,z,A,B⟩:=(g.fc d).Ts c .i64 rfl;obtain⟨rfl⟩:u = .int .i64 ops[t.s.pos]:=by simpa using B.1
  simp only[JN,w,gI,x,ef,l2,l3,uh,y,z,A];refine MY j (by omega) (H _ ⟨hc.next,λl b=>b.elim (d l) λb=>gf _ a.1 λe=>b.2 e.symm⟩ ?_);have C:Dw F (gm G L.mj) h L.lu L.hX L.iX t R:={q.D with gx:=λl b=>q.D.gx l b.1}
  have D':=(C.other hc λl b=>by subst b;exact⟨a.2.1,λE=>E.2 rfl,a.2.2⟩).1;refine q.X4 d ?_ (λ_ h=>h) q.hq q.gl (fP _ a.1);have f:∀l,G l->_:=λl b=>if e:l=L.mj then e▸(⟨a.1,a.2.1,a.2.2⟩:_/\_/\∀i,¬comp L.lu L.hX L.iX R i L.mj) else D'.gx l ⟨b,e⟩
  exact{D' with gx:=f}
def gp (G:Nat->Prop)(v:V)(p:Nat):Nat->Prop:=λl=>G l\/l=p\/Loc v l
theorem vV (l:List Nat)(h:0<l.length):l.getD (l.length-1) 0=l.getLastD 0:=by
 rw[List.getLastD_eq_getLast?,List.getLast?_eq_getElem?,E3]
theorem KM (q:Dq F G h L ops t R)(hk:0<t.s.known.length)(aN:t.s.known.length<1000)(hs:t.s.eh.length<1000)(ho:ops.length<9223372036854775808)
  (H:∀F' h' R',(∀l,F l->F' l)->Kp F (gm G L.mj) h h'->Dq F' G h' L ops {t with s:=(fw ops t.s).2} R'->R'.vk=R.vk->Q (.int .i64 ((fw ops t.s).1:Nat)) h') :
  cP CS fL [.ptr L.lu 0,.ptr L.oG 0,.ptr L.hX 0] h Q:=by
 refine BI rfl rfl ?_;unfold tR;have aM:=(q.D.gx _ q.gl).1;have am:∀l,G l->l<h.next:=λl f=>(q.D.gx l f).1;have an:∀i l,comp L.lu L.hX L.iX R i l->l<h.next:=λi l f=>(q.D.sig f).2.1;have eb:fN [(V.int .i64 0),(V.int .i64 0),V.ec,V.ec] [(0,1),(1,1),(2,1),(3,1)] [(0,(V.int .i64 1)),(1,.int .i64 t.s.eh.length)]=some (.agg [.int .i64 1,.int .i64 t.s.eh.length,.ec,.ec]):=rfl;have U:(h.new (.cells 40 1 true false [(V.int .i64 0),(V.int .i64 0),V.ec,V.ec])).get h.next=some (.cells 40 1 true false [(V.int .i64 0),(V.int .i64 0),V.ec,V.ec]):=fg _ _;have e1:=D0 (n:=4) (ws:=[.int .i64 1,.int .i64 t.s.eh.length,.ec,.ec]) U rfl rfl rfl;simp only[ez,gI,vI,q.D.ldS,q.D.os.len,eb,fq,e1,ef];have K:h.next<(h.new (.cells 40 1 true false [(V.int .i64 0),(V.int .i64 0),V.ec,V.ec])).next:=IS _
 have c2:jZ (λl=>l=h.next) h ((h.new (.cells 40 1 true false [(V.int .i64 0),(V.int .i64 0),V.ec,V.ec])).put h.next (.cells 40 1 true false [.int .i64 1,.int .i64 t.s.eh.length,.ec,.ec])):=
  (jZ.new _ _).trans (jZ.put _ rfl K)
 have g2:=fP (h:=h.new (.cells 40 1 true false [(V.int .i64 0),(V.int .i64 0),V.ec,V.ec])) (.cells 40 1 true false [.int .i64 1,.int .i64 t.s.eh.length,.ec,.ec]) K;have n2:((h.new (.cells 40 1 true false [(V.int .i64 0),(V.int .i64 0),V.ec,V.ec])).put h.next (.cells 40 1 true false [.int .i64 1,.int .i64 t.s.eh.length,.ec,.ec])).next=h.next+1:=rfl;generalize ((h.new (.cells 40 1 true false [(V.int .i64 0),(V.int .i64 0),V.ec,V.ec])).put h.next (.cells 40 1 true false [.int .i64 1,.int .i64 t.s.eh.length,.ec,.ec]))=h2 at*;clear U e1 K;have fresh:∀l,h.next<=l->¬F l/\¬G l/\∀i,¬comp L.lu L.hX L.iX R i l:=λl f=>⟨λhf=>by have:=q.D.fl l hf;omega,λhg=>by have:=am l hg;omega,λi hi=>by have:=an i l hi;omega⟩
 obtain ⟨W,k2⟩:=q.D.other c2 (λl f=>by subst f;exact fresh _ (iW _));have X:Dw F (gp G .ec h.next) h2 L.lu L.hX L.iX t R:=W.Vk λl f=>f.elim .inl λf=> .inr (by
  rcases f with rfl|f
  ·exact⟨by omega,(fresh _ (iW _)).1,(fresh _ (iW _)).2.2⟩
  ·exact f.elim)
 have q2:Dq F (gp G .ec h.next) h2 L ops t R:=q.step k2 X (λ_ h=>h) (.inl q.gl) q.hq rfl;rw[q2.uH];simp only[gI,Q3,JI,L5,LG,Co];refine vX (m:=4) q2 (by decide) (by decide) ho λy k3 q3=>?_;have g3:y.get h.next=some (.cells 40 1 true false [.int .i64 1,.int .i64 t.s.eh.length,.ec,.ec]):=by
  rw[k3.fc _ (.inr ⟨.inr (.inl rfl),by omega⟩)];exact g2
 have hr:(draw ops t.s.pos 4).1<4:=vY _ _ (by decide)
 refine zt (λk x0 x1 x2 x4 x5 h'=>∃(s:Ds) (l:List Nat) (vl:V),x0 = .ptr L.lu 0/\x1 = .ptr L.oG 0/\x2 = .ptr L.hX 0/\x4 = .ptr h.next 0/\x5 = .int .i64 (k:Nat)/\Dq F (gp G vl h.next) h' L ops {t with s:=s} R/\Kp F (gm G L.mj) h h'/\
  h'.get h.next=some (.cells 40 1 true false [.int .i64 1,.int .i64 t.s.eh.length,vl,.ec])/\jI eN en F h' l vl/\(∀z,Loc vl z->h.next<z)/\some_ ops k s l=some_ ops (draw ops t.s.pos 4).1 (num ops t.s 4).2 []/\s.known=t.s.known/\s.eh=t.s.eh/\l.length+k<=4) ?_
  ⟨(num ops t.s 4).2,[],.ec,rfl,rfl,rfl,rfl,rfl,q3,(k2.gm L.mj).trans ⟨k3.next,λl f=>k3.fc l (f.imp id λf=>⟨.inl f.1,f.2⟩)⟩ (λ_ h=>h),g3,.nil,λ_ h=>h.elim,rfl,rfl,rfl,by simp;omega⟩
 clear q3 k3 g3 q2 X W k2 g2 c2 eb;rintro k x0 x1 x2 x4 x5 h' ⟨s,l,vl,rfl,rfl,rfl,rfl,rfl,j,k',gF,ol,P,p,r,A,hlen⟩;unfold qb;have ao:ev (.ptr h.next 2) h' = some vl:=jR gF rfl;have kl:({t with s:=s}:Dt).s.known.length=t.s.known.length:=by show s.known.length=_;rw[r]
 have Y:h.next<h'.next:=(j.D.gx h.next (.inr (.inl rfl))).1;have Z:∀{g:Hp} {s1:Ds},Dq F (gp G vl h.next) g L ops {t with s:=s1} R->Dw F G g L.lu L.hX L.iX {t with s:=s1} R:=λq=>{q.D with gx:=λl f=>q.D.gx l (.inl f)}
 simp only[pU,gI,wE,DY]
 cases k with
 | succ k=>
   rw[if_pos (by omega)];have lk:=j.D.ok.len;rw[kl]at lk;rw[j.uH];simp only[ez,gI,vI,ao,j.D.yr,lk,Q3,JI,L5,LG,Co];refine vX (m:=t.s.known.length) j hk (by omega) ho λg u I=>?_;have ap:g.get h.next=some (.cells 40 1 true false [.int .i64 1,.int .i64 (t.s.eh.length:Nat),vl,.ec]):=by
     rw[u.fc _ (.inr ⟨.inr (.inl rfl),by omega⟩)];exact gF
   have aa:jI eN en F g l vl:=ol.fc (λz b=>u.fc z (.inl b)) (λz b=>u.fc z (.inr ⟨.inr (.inr b),by have:=P z b;omega⟩)) u.next;have aq:(draw ops s.pos t.s.known.length).1<t.s.known.length:=vY _ _ hk;obtain⟨l1,o1,ab,ac,i1,i2⟩:=I.DZ (i:=(draw ops s.pos t.s.known.length).1) (by show _<s.known.length;rw[r];exact aq);have B:ev (.ptr l1 o1) g=some (.int .i64 (s.known.getD (draw ops s.pos t.s.known.length).1 0:Nat)):=i2;refine⟨u.next,?_⟩;have e3:∀a:Nat,iZ 3 1 1 (V.int .i64 0) [(0,V.int .i64 (a:Nat))]=some (.cells 3 1 true false [V.int .i64 (a:Nat)],λl=> .slice l 0 1):=λ_=>rfl;have ar:gD 1 R.vk (.int .i64 ((draw ops ({t with s:=s}:Dt).s.pos t.s.known.length).1:Nat))=some (.ptr l1 o1):=i1;simp only[ar,B,gI,e3,gY];generalize hv:s.known.getD (draw ops s.pos t.s.known.length).1 0=a at*;have W:=(Z I).grow (jZ.new g (.cells 3 1 true false [V.int .i64 (a:Nat)]));have ae:(g.new (.cells 3 1 true false [V.int .i64 (a:Nat)])).get h.next=_:=(fk _ (by have:=u.next;omega)).trans ap;refine⟨⟨fg _ _,O.gL _ _ _ _ _⟩,jj B (fk _ ab),W.yr,jR ae rfl,?_⟩;have au:jI eN en F (g.new (.cells 3 1 true false [V.int .i64 (a:Nat)])) l vl:=aa.fc (λz b=>fk _ (I.D.fl z b)) (λz b=>fk _ (aa.sP b).2.1) (Nv _);have hx:jM (g.new (.cells 3 1 true false [V.int .i64 (a:Nat)])) 1 (.slice g.next 0 1)=some (1,[V.int .i64 (a:Nat)]):=lP (k:=0) rfl;obtain⟨d,y,a1,ag,c3,aw⟩:=au.append (jr:=8) (ys:=[a]) hx ⟨[V.int .i64 (a:Nat)],[],rfl,rfl,trivial⟩ rfl rfl (by simp) (by decide) (λz b=>YZ (I.D.fl z b)) (by simp;omega) (by simp;omega);have n2:(g.new (.cells 3 1 true false [V.int .i64 (a:Nat)])).next=g.next+1:=rfl;have w:h.next<y.next:=by have:=c3.next;have:=u.next;omega
   have ax:y.get h.next=some (.cells 40 1 true false [.int .i64 1,.int .i64 (t.s.eh.length:Nat),vl,.ec]):=by
     rw[c3.fc _ (by have:=u.next;omega) λb=>Pj _ (P _ b)];exact ae
   have a2:=mV (o:=2) (v:=d) (mR:=[.int .i64 1,.int .i64 (t.s.eh.length:Nat),d,.ec]) ax (by simp) ag.one rfl;have ay:eR 3 1 8 vl (.slice g.next 0 1) (g.new (.cells 3 1 true false [V.int .i64 (a:Nat)]))=some (.val d y):=a1;have w1:mO .i64 (((k+1:Nat):Int)-1)=(k:Nat):=L0 (by omega);simp only[ay,ef,a2,uh,w1,gI];refine⟨c3.next,iW _,k,by omega,?_⟩
   have cc:jZ (λz=>Loc vl z\/z=h.next) (g.new (.cells 3 1 true false [V.int .i64 (a:Nat)])) (y.put h.next (.cells 40 1 true false [.int .i64 1,.int .i64 (t.s.eh.length:Nat),d,.ec])):=
     (c3.N2 λ_ _ h=> .inl h).trans (jZ.put _ (.inr rfl) w)
   obtain⟨D4,k4⟩:=W.other cc λz b=>fresh z (by rcases b with b|rfl;exact YB (P z b);exact iW _);have M:∀z,Loc d z->h.next<z:=λz b=>(aw z b).elim (P z) λe=>by have:=u.next;omega
   have ah:jI eN en F (y.put h.next (.cells 40 1 true false [.int .i64 1,.int .i64 (t.s.eh.length:Nat),d,.ec])) (l++[a]) d:=
     ag.fc (λz b=>gf _ w λe=>(fresh h.next (iW _)).1 (e▸b)) (λz b=>gf _ w (by have:=M z b;omega)) (iW _)
   have aA:Dw F (gp G d h.next) (y.put h.next (.cells 40 1 true false [.int .i64 1,.int .i64 (t.s.eh.length:Nat),d,.ec])) L.lu L.hX L.iX _ R:=D4.Vk λz b=>b.elim .inl λb=> .inr (by
     rcases b with rfl|b
     ·exact⟨w,(fresh _ (iW _)).1,(fresh _ (iW _)).2.2⟩
     ·have C:=fresh z (YB (M z b));exact⟨(ah.sP b).2.1,C.1,C.2.2⟩)
   have kk:Kp F G g (y.put h.next (.cells 40 1 true false [.int .i64 1,.int .i64 (t.s.eh.length:Nat),d,.ec])):=
     (Kp.new F G g _ I.D.fl λz b=>(I.D.gx z (.inl b)).1).trans k4 λ_ h=>h
   have qG:Dq F G g L ops _ R:={I with D:=Z I,gl:=q.gl}
   refine⟨{s with pos:=(draw ops s.pos t.s.known.length).2},l++[a],d,by trivial,by trivial,by trivial,by trivial,by trivial,qG.step kk aA (λ_ h=>h) (.inl q.gl) j.hq rfl,?_,fP _ w,ah,M,?_,r,A,by simp;omega⟩
   ·exact(k'.trans ⟨u.next,λz b=>u.fc z (b.imp id λb=>⟨.inl b.1,b.2⟩)⟩ λ_ h=>h).trans (kk.gm _) λ_ h=>h
   ·rw[<-p,<-hv]
    show _=some_ ops k (fy ops s).2 (l++[(fy ops s).1]);unfold fy
    rw[r]
 | zero=>
   rw[if_neg (by omega)];obtain⟨e1,e2⟩:l=(some_ ops (draw ops t.s.pos 4).1 (num ops t.s 4).2 []).1/\s=(some_ ops (draw ops t.s.pos 4).1 (num ops t.s 4).2 []).2:=by rw[<-p];exact⟨rfl,rfl⟩
   have lk:=j.D.ok.len;rw[kl]at lk;have w1:mO .i64 (((t.s.known.length:Nat):Int)-1)=((t.s.known.length-1:Nat):Int):=by
     rw[show((t.s.known.length:Nat):Int)=((t.s.known.length-1+1:Nat):Int) by omega];exact L0 (by omega)
   obtain ⟨l1,o1,ab,ac,i1,i2⟩:=j.DZ (i:=t.s.known.length-1) (by rw[kl];omega);have B:ev (.ptr l1 o1) h' = some (.int .i64 (t.s.known.getLastD 0:Nat)):=by
     rw[i2,show({t with s:=s}:Dt).s.known=t.s.known from r,vV _ hk]
   have e3:∀a:Nat,iZ 3 1 1 (V.int .i64 0) [(0,V.int .i64 (a:Nat))]=some (.cells 3 1 true false [V.int .i64 (a:Nat)],λl=> .slice l 0 1):=λ_=>rfl;simp only[j.D.yr,gI,lk,uh,w1,i1,B,e3,fq,ez,vI];have D5:=(Z j).grow (jZ.new h' (.cells 3 1 true false [V.int .i64 (t.s.known.getLastD 0:Nat)]));have k5:Kp F G h' (h'.new (.cells 3 1 true false [V.int .i64 (t.s.known.getLastD 0:Nat)])):=(Z j).xG _;have g5:(h'.new (.cells 3 1 true false [V.int .i64 (t.s.known.getLastD 0:Nat)])).get h'.next=_:=fg _ _;have aB:(h'.new (.cells 3 1 true false [V.int .i64 (t.s.known.getLastD 0:Nat)])).get h.next=_:=(fk _ Y).trans gF;have aC:jI eN en F (h'.new (.cells 3 1 true false [V.int .i64 (t.s.known.getLastD 0:Nat)])) l vl:=ol.fc (λz b=>fk _ (j.D.fl z b)) (λz b=>fk _ (ol.sP b).2.1) (Nv _);have n5:(h'.new (.cells 3 1 true false [V.int .i64 (t.s.known.getLastD 0:Nat)])).next=h'.next+1:=rfl;generalize h'.new (.cells 3 1 true false [V.int .i64 (t.s.known.getLastD 0:Nat)])=C at*;have a1:=mV (o:=3) (v:= .slice h'.next 0 1) (mR:=[.int .i64 1,.int .i64 (t.s.eh.length:Nat),vl,.slice h'.next 0 1]) aB (by simp) rfl rfl;have E:h.next<C.next:=by omega
   obtain⟨D6,k6⟩:=D5.other (jZ.put (S:=λz=>z=h.next) (.cells 40 1 true false [.int .i64 1,.int .i64 (t.s.eh.length:Nat),vl,.slice h'.next 0 1]) rfl E) λz b=>by subst b;exact fresh _ (iW _)
   have aD:=fP (.cells 40 1 true false [.int .i64 1,.int .i64 (t.s.eh.length:Nat),vl,.slice h'.next 0 1]) E;have g6:(C.put h.next (.cells 40 1 true false [.int .i64 1,.int .i64 (t.s.eh.length:Nat),vl,.slice h'.next 0 1])).get h'.next=_:=(gf _ E (by omega)).trans g5;have ai:jI eN en F (C.put h.next (.cells 40 1 true false [.int .i64 1,.int .i64 (t.s.eh.length:Nat),vl,.slice h'.next 0 1])) l vl:=aC.fc (λz b=>k6.fc z (.inl b)) (λz b=>gf _ E (by have:=P z b;omega)) (iW _);have n6:(C.put h.next (.cells 40 1 true false [.int .i64 1,.int .i64 (t.s.eh.length:Nat),vl,.slice h'.next 0 1])).next=C.next:=rfl;simp only[a1,ef];generalize C.put h.next (.cells 40 1 true false [.int .i64 1,.int .i64 (t.s.eh.length:Nat),vl,.slice h'.next 0 1])=c at*;have lA:gg 4 (.ptr h.next 0) c=some (.agg [.int .i64 1,.int .i64 (t.s.eh.length:Nat),vl,.slice h'.next 0 1]):=Bg aD rfl;have ow:fV [.int .i64 1,.int .i64 (t.s.eh.length:Nat),vl,.slice h'.next 0 1]=true:=by simp only[eJ,ol.one];rfl
   have e7:iZ 40 4 1 (V.agg [(V.int .i64 0),(V.int .i64 0),V.ec,V.ec]) [(0,.agg [.int .i64 1,.int .i64 (t.s.eh.length:Nat),vl,.slice h'.next 0 1])]=some (.cells 40 4 true false [.int .i64 1,.int .i64 (t.s.eh.length:Nat),vl,.slice h'.next 0 1],λl=> .slice l 0 1):=mq rfl rfl ow;have e8:∀m:Nat,fN [V.ec] [(0,1)] [(0,.slice m 0 1)]=some (.agg [.slice m 0 1]):=λ_=>rfl;have e9:∀m:Nat,iZ 38 1 1 (V.agg [V.ec]) [(0,.agg [.slice m 0 1])]=some (.cells 38 1 true false [.slice m 0 1],λl=> .slice l 0 1):=λm=>mq rfl rfl rfl;simp only[D6.ldS,gI,lA,e7,fq,e8,e9];have D7:=D6.grow (jZ.new c (.cells 40 4 true false [.int .i64 1,.int .i64 (t.s.eh.length:Nat),vl,.slice h'.next 0 1]));have k7:=D6.xG (.cells 40 4 true false [.int .i64 1,.int .i64 (t.s.eh.length:Nat),vl,.slice h'.next 0 1]);have g7:(c.new (.cells 40 4 true false [.int .i64 1,.int .i64 (t.s.eh.length:Nat),vl,.slice h'.next 0 1])).get c.next=_:=fg _ _;have aE:(c.new (.cells 40 4 true false [.int .i64 1,.int .i64 (t.s.eh.length:Nat),vl,.slice h'.next 0 1])).get h'.next=_:=(fk _ (by omega)).trans g6;have aj:jI eN en F (c.new (.cells 40 4 true false [.int .i64 1,.int .i64 (t.s.eh.length:Nat),vl,.slice h'.next 0 1])) l vl:=ai.fc (λz b=>fk _ (D6.fl z b)) (λz b=>fk _ (ai.sP b).2.1) (Nv _);have n7:(c.new (.cells 40 4 true false [.int .i64 1,.int .i64 (t.s.eh.length:Nat),vl,.slice h'.next 0 1])).next=c.next+1:=rfl;generalize c.new (.cells 40 4 true false [.int .i64 1,.int .i64 (t.s.eh.length:Nat),vl,.slice h'.next 0 1])=x at*;have D8:=D7.grow (jZ.new x (.cells 38 1 true false [.slice c.next 0 1]));have k8:=D7.xG (.cells 38 1 true false [.slice c.next 0 1]);have g8:(x.new (.cells 38 1 true false [.slice c.next 0 1])).get c.next=_:=(fk _ (by omega)).trans g7;have aF:(x.new (.cells 38 1 true false [.slice c.next 0 1])).get h'.next=_:=(fk _ (by omega)).trans aE;have ak:jI eN en F (x.new (.cells 38 1 true false [.slice c.next 0 1])) l vl:=aj.fc (λz b=>fk _ (D7.fl z b)) (λz b=>fk _ (aj.sP b).2.1) (Nv _);have aG:jM (x.new (.cells 38 1 true false [.slice c.next 0 1])) 1 (.slice x.next 0 1)=some (1,[.slice c.next 0 1]):=lP (k:=0) rfl;have n8:(x.new (.cells 38 1 true false [.slice c.next 0 1])).next=x.next+1:=rfl;generalize x.new (.cells 38 1 true false [.slice c.next 0 1])=T at*;have D9:Dw (λz=>F z\/Loc vl z\/z=h'.next\/z=c.next) G T L.lu L.hX L.iX {t with s:=s} R:=D8.more (λ_ h=> .inl h) λz b=>b.elim .inl λb=> .inr (by
     have aH:h.next<z/\z<T.next:=by
       rcases b with b|rfl|rfl
       ·exact⟨P z b,(ak.sP b).2.1⟩
       ·omega
       ·omega
     have h9:=fresh z (by omega);exact⟨aH.2,h9.2.2,h9.2.1⟩)
   have sl:ik eN (λz=>F z\/Loc vl z\/z=h'.next\/z=c.next) T l vl:=ak.VG (λ_ h=> .inl h) λ_ h=> .inr (.inl h)
   have ss:ik eN (λz=>F z\/Loc vl z\/z=h'.next\/z=c.next) T [t.s.known.getLastD 0] (.slice h'.next 0 1):=
     .inr ⟨h'.next,0,3,true,false,[V.int .i64 (t.s.known.getLastD 0:Nat)],rfl,.inr (.inr (.inl rfl)),aF,.inr rfl,Gl _,⟨_,[],rfl,rfl,trivial⟩⟩
   have sf:ik eF (λz=>F z\/Loc vl z\/z=h'.next\/z=c.next) T [⟨1,(t.s.eh.length:Nat),l,[t.s.known.getLastD 0]⟩] (.slice c.next 0 1):=
     .inr ⟨c.next,0,40,true,false,[.int .i64 1,.int .i64 (t.s.eh.length:Nat),vl,.slice h'.next 0 1],rfl,.inr (.inr (.inr rfl)),g8,.inr rfl,Gl _,⟨_,[],rfl,⟨vl,_,rfl,sl,ss⟩,trivial⟩⟩
   obtain⟨v',h9,al,b1,b2,b3,b4,k9,N⟩:=D9.zbA (ys:=[[⟨1,(t.s.eh.length:Nat),l,[t.s.known.getLastD 0]⟩]]) aG ⟨[.slice c.next 0 1],[],rfl,⟨_,rfl,sf⟩,trivial⟩ rfl rfl (by simp) (by show s.eh.length+_<_;rw[A];simp;omega);have aI:eR 38 1 24 R.vs (.slice x.next 0 1) T=some (.val v' h9):=b1;have lS:=N.os.len;have aJ:((s.eh++[[(⟨1,(t.s.eh.length:Nat),l,[t.s.known.getLastD 0]⟩:Fm)]]).length:Nat)=t.s.eh.length+1:=by rw[A];simp
   have aK:fD v' = some (.int .i64 ((t.s.eh.length+1:Nat):Int)):=by rw[<-aJ];exact lS
   have w2:mO .i64 (((t.s.eh.length+1:Nat):Int)-1)=(t.s.eh.length:Nat):=L0 (by omega);simp only[aI,ef,b3,N.ldS,gI,aK,uh,w2];have J:Kp F G h' al:=(((k5.trans k6 λ_ h=>h).trans k7 λ_ h=>h).trans k8 λ_ h=>h).trans ⟨k9.next,λz b=>k9.fc z (b.imp (λh=> .inl h) id)⟩ λ_ h=>h;have qG:Dq F G h' L ops _ R:={j with D:=Z j,gl:=q.gl}
   have hE:({t with s:=(fw ops t.s).2}:Dt) = {t with s:={s with eh:=s.eh++[[⟨1,(t.s.eh.length:Nat),l,[t.s.known.getLastD 0]⟩]]} }:=by
     unfold fw;rw[e1,A,e2];rfl
   have aL:=qG.step J N (λ_ h=> .inl h) q.gl j.hq rfl;refine H (λz=>F z\/Loc vl z\/z=h'.next\/z=c.next) al {R with vs:=v'} (λ_ h=> .inl h) (k'.trans (J.gm _) λ_ h=>h) ?_ rfl;rw[hE];exact aL
end
open Go.Proofs.YtpnddokajmjpbaaDoor.Un
theorem Yr {t:Nat}{k:IntKind}{a b:Int}{A B:Prop}(h:if a<b then A else B):oP (er .lss t (.int k a) (.int k b)) λv=>bP v A B:=by
 simp only[om,gI,wE,DY];exact h
theorem gO {t:Nat}{k:IntKind}{a b:Int}{A B:Prop}(h:if a=b then A else B):oP (er .eql t (.int k a) (.int k b)) λv=>bP v A B:=by
 simp only[iA,gI,wE,CN];exact h
theorem AM {t:Nat}{k:IntKind}{a b:Int}{A B:Prop}(h:if b<a then A else B):oP (er .gtr t (.int k a) (.int k b)) λv=>bP v A B:=by
 simp only[pU,gI,wE,DY];exact h
theorem j7 {t n m:Nat}{K:V->Prop}(a:n<1000000000)(b:m<1000000000)(H:K (.int .i64 ((n+m:Nat):Int))):oP (er .add t (.int .i64 n) (.int .i64 m)) K:=by
 simp only[JN,zbe a b,gI];exact H
theorem vU {t n:Nat}{K:V->Prop}(a:n<1000000000)(h0:0<n)(H:K (.int .i64 ((n-1:Nat):Int))):oP (er .sub t (.int .i64 n) (.int .i64 1)) K:=by
 obtain⟨m,rfl⟩:∃m,n=m+1:=⟨n-1,by omega⟩
 simp only[uh,L0 (n:=m) (by omega),gI];exact H
theorem ig{c A B:Prop}[Decidable c] (hc:c)(h:A):if c then A else B:=by rw[if_pos hc];exact h
theorem gG{c A B:Prop}[Decidable c] (hc:¬c)(h:B):if c then A else B:=by rw[if_neg hc];exact h
theorem fM{t n:Nat}{K:V->Prop}(H:K (.int .i64 ((n+1:Nat):Int)))(h:n<1000000000:=by omega):oP (er .add t (.int .i64 n) (.int .i64 1)) K:=j7 (m:=1) h (by decide) H
theorem gw{t:Nat}{k:IntKind}{a b:Int}{A B:Prop}(H:A)(h:a<b:=by omega):oP (er .lss t (.int k a) (.int k b)) λv=>bP v A B:=Yr (ig h H)
theorem iC{t:Nat}{k:IntKind}{a b:Int}{A B:Prop}(H:B)(h:¬a<b:=by omega):oP (er .lss t (.int k a) (.int k b)) λv=>bP v A B:=Yr (gG h H)
section
variable{F F' G G':Nat->Prop}{h h':Hp}{L:Lc}{ops:List Int}{t t':Dt}{R R':Rw}{Q:fx}
theorem vF{α:Type}{l:List α}{x:α}{n:Nat}(h:l.length<=n):(l++[x]).length<=n+1:=by rw[zL];exact Nat.add_le_add_right h 1
structure Sm (s:Ds) (n:Nat):Prop where
 v:s.ee.length<=n
 c:s.cur.length<=n
 k:s.known.length<=n
 st:s.eh.length<=n
 k0:0<s.known.length
theorem Sm.le{s:Ds}{n m:Nat}(a:Sm s n)(h:n<=m):Sm s m:=⟨Ez a.v h,Ez a.c h,Ez a.k h,Ez a.st h,a.k0⟩
theorem Sm.put {s:Ds}{n:Nat}(a:Sm s n)(x:Vl):Sm (put s x) (n+1):=
 ⟨vF a.v,vF a.c,VL a.k,VL a.st,a.k0⟩
theorem Sm.il {s:Ds}{n:Nat}(a:Sm s n)(x:Vl):Sm (il s x) (n+1):=
 ⟨vF a.v,vF a.c,
  vF a.k,VL a.st,by show 0<(s.known++[s.ee.length]).length;rw[zL];exact Ac a.k0 (Nat.le_add_right _ _)⟩
theorem Sm.pos{s:Ds}{n:Nat}(a:Sm s n)(p:Nat):Sm {s with pos:=p} n:=⟨a.v,a.c,a.k,a.st,a.k0⟩
theorem Sm.state {s:Ds}{n:Nat}(a:Sm s n)(ops:List Int):Sm (fw ops s).2 (n+1):=by
 have b:∃p,(some_ ops (num ops s 4).1 (num ops s 4).2 []).2 = {s with pos:=p}:=by
  obtain⟨p,h⟩:=DO ops (num ops s 4).1 (num ops s 4).2 [];exact⟨p,h⟩
 obtain⟨p,b⟩:=b;unfold fw;simp only[b];exact⟨VL a.v,VL a.c,VL a.k,vF a.st,a.k0⟩
theorem W5 (q:Dq F G h L ops t R){n a:Nat}(m:Sm t.s n)(p:n<1000){K:Hp->Prop}
  (H:∀h' R',Kp F G h h'->Dq F G h' L ops {t with s:={t.s with known:=t.s.known++[a]} } R'->K h') :
  wS (iZ 3 1 1 (V.int .i64 0) [(0,.int .i64 a)]) h λo c b=>((b.get h.next=some o/\O.beq o o=true)/\(ev (.ptr L.hX 0) b=some R.vk/\fm (eR 3 1 8 R.vk c b) λd e=>(b.next<=e.next/\fm (gB 1 (.ptr L.hX 0) d e) λ_ g=>(e.next<=g.next/\K g)))):=by
 have r:iZ 3 1 1 (V.int .i64 0) [(0,V.int .i64 a)]=some (.cells 3 1 true false [V.int .i64 a],λl=> .slice l 0 1):=rfl;rw[r,gY];have i:=q.D.grow (jZ.new h (.cells 3 1 true false [V.int .i64 a]));have hx:jM (h.new (.cells 3 1 true false [V.int .i64 a])) 1 (.slice h.next 0 1)=some (1,[V.int .i64 a]):=lP (k:=0) rfl;obtain⟨u,v,z,a1,a2,a3,w,x,y⟩:=i.Y6 (ys:=[a]) hx ⟨[V.int .i64 a],[],rfl,rfl,trivial⟩ rfl rfl (by simp) (by have:=m.k;simp;omega);have f:eR 3 1 8 R.vk (.slice h.next 0 1) (h.new (.cells 3 1 true false [V.int .i64 a]))=some (.val u v):=a1;refine⟨⟨fg _ _,O.gL _ _ _ _ _⟩,i.yr,?_⟩;simp only[f,ef,a3];have j:=(q.D.xG (.cells 3 1 true false [V.int .i64 a])).trans x λ_ h=>h;exact⟨a2,w,H _ _ j (q.step j y (λ_ h=>h) q.gl q.hq rfl)⟩
theorem El {x:Vl}{w:List V}(q:Dq F G h L ops t R){n:Nat}(b:Sm t.s n)(p:n<999)(r:eV.rel F h x w){K:Hp->Prop}
  (H:∀h' R',Kp F G h h'->Dq F G h' L ops {t with s:=il t.s x} R'->K h') :
  cP CS fo [.agg w,.ptr L.lu 0,.ptr L.iX 0] h λd e=>(h.next<=e.next/\wS (iZ 3 1 1 (V.int .i64 0) [(0,d)]) e λo f a=>((a.get e.next=some o/\O.beq o o=true)/\(ev (.ptr L.hX 0) a=some R.vk/\fm (eR 3 1 8 R.vk f a) λg i=>(a.next<=i.next/\fm (gB 1 (.ptr L.hX 0) g i) λ_ m=>(i.next<=m.next/\K m))))):=by
 have hv:=b.v;have hc:=b.c;refine Qd q.D q.hq r (by omega) (by omega) λu R1 j y k l=>⟨j.next,?_⟩
 have z:Dq F G u L ops {t with s:=put t.s x} R1:=q.step j y (λ_ h=>h) q.gl k rfl;rw[<-l];exact W5 z (b.put x) (by omega) λA R2 B C=>H A R2 (j.trans B λ_ h=>h) C
theorem GB {x:Vl}{w:List V}(q:Dq F G h L ops t R){n:Nat}(d:Sm t.s n)(f:n<999)(g:eV.rel F h x w){K:fx}
  (H:∀h' R',Kp F G h h'->R'.vk=R.vk->Dq F G h' L ops {t with s:=put t.s x} R'->K (.int .i64 t.s.ee.length) h'):cP CS fo [.agg w,.ptr L.lu 0,.ptr L.iX 0] h K:=by
 have hv:=d.v;have hc:=d.c;exact Qd q.D q.hq g (by omega) (by omega) λi R1 e j a b=>H i R1 e b (q.step e j (λ_ h=>h) q.gl a rfl)
theorem Kv (q:Dq F G h L ops t R)(c:ops.length<9223372036854775808){n:Nat}(a:Sm t.s n)(d:n<1000){K:fx}
  (H:∀h' l o,Kp F (gm G L.mj) h h'->Dq F G h' L ops {t with s:=(fy ops t.s).2} R->l<h'.next->gD 1 R.vk (.int .i64 ((draw ops t.s.pos t.s.known.length).1:Nat))=some (.ptr l o)->ev (.ptr l o) h' = some (.int .i64 ((fy ops t.s).1:Nat))->K (.int .i64 ((draw ops t.s.pos t.s.known.length).1:Nat)) h') :
  cP CS fi [.int .i64 t.s.known.length,.ptr L.mj 0,.ptr L.lr 0] h K:=by
 refine vX q a.k0 (by have:=a.k;omega) c λe f b=>?_;obtain⟨l,o,g,_,j,m⟩:=b.DZ (i:=(draw ops t.s.pos t.s.known.length).1) (vY _ _ a.k0);exact H e l o f b g j m
theorem Yz {b:Bk}{nv:V}(q:Dq F G h L ops t R){n:Nat}(hn:t.blocks.length<1000)(O:b.ee=[])(P:b.fe=[])(a:ik eN F h b.next nv)
  (H:∀F' h' R',(∀l,F l->F' l)->Kp F G h h'->Dq F' G h' L ops {s:={t.s with cur:=[]},blocks:=t.blocks++[⟨t.s.cur,b.fin,b.cond,b.next,t.fe,b.state⟩],fe:=[]} R'->Q (.int .i64 t.blocks.length) h') :
  cP CS jF [.agg (kM b .ec nv .ec),.ptr L.iX 0,.ptr L.lu 0] h Q:=by
 refine B1 rfl rfl ?_;unfold uq;have T:fV (kM b .ec nv .ec)=true:=by simp only[kM,eJ,a.one];rfl
 have f:∀l,G l->l<h.next:=λl e=>(q.D.gx l e).1;have g:∀i l,comp L.lu L.hX L.iX R i l->l<h.next:=λi l e=>(q.D.sig e).2.1;have fresh:∀l,h.next<=l->¬F l/\¬G l/\∀i,¬comp L.lu L.hX L.iX R i l:=λl e=>⟨λU=>by have:=q.D.fl l U;omega,λW=>by have:=f l W;omega,λi hi=>by have:=g i l hi;omega⟩
 have y:=q.D.grow (jZ.new h (.cells 44 1 true false (kM b .ec nv .ec)));have X:=q.D.xG (.cells 44 1 true false (kM b .ec nv .ec));have Y:(h.new (.cells 44 1 true false (kM b .ec nv .ec))).get h.next=_:=fg _ _;have j:h.next<(h.new (.cells 44 1 true false (kM b .ec nv .ec))).next:=IS _;simp only[Cc T,fq,ez,gI,vI,VP,y.ldC];generalize h.new (.cells 44 1 true false (kM b .ec nv .ec))=A at*;have Z:=mV (o:=0) (v:=R.cc) (mR:=kM b R.cc nv .ec) Y (by simp[kM]) (by rw[q.hq];exact q.D.oc.one) rfl;obtain⟨B,k2⟩:=y.other (jZ.put (S:=λz=>z=h.next) (.cells 44 1 true false (kM b R.cc nv .ec)) rfl j) λz m=>by subst m;exact fresh _ (iW _)
 have g2:=fP (.cells 44 1 true false (kM b R.cc nv .ec)) j;have C:h.next<(A.put h.next (.cells 44 1 true false (kM b R.cc nv .ec))).next:=j;simp only[Z,ef,B.ldP,gI];generalize A.put h.next (.cells 44 1 true false (kM b R.cc nv .ec))=h2 at*;have e3:=mV (o:=4) (v:=R.vp) (mR:=kM b R.cc nv R.vp) g2 (by simp[kM]) q.D.sp.one rfl;obtain⟨r,k3⟩:=B.other (jZ.put (S:=λz=>z=h.next) (.cells 44 1 true false (kM b R.cc nv R.vp)) rfl C) λz m=>by subst m;exact fresh _ (iW _)
 have g3:=fP (.cells 44 1 true false (kM b R.cc nv R.vp)) C;simp only[e3,ef,r.Ww,gI];generalize h2.put h.next (.cells 44 1 true false (kM b R.cc nv R.vp))=d at*;have E:fV (kM b R.cc nv R.vp)=true:=by simp only[kM,eJ,a.one,q.hq,q.D.oc.one,q.D.sp.one];rfl
 have lA:gg 6 (.ptr h.next 0) d=some (.agg (kM b R.cc nv R.vp)):=Bg g3 rfl;have e4:iZ 44 6 1 (V.agg [V.ec,(V.int .i64 0),(V.int .i64 0),V.ec,V.ec,(V.int .i64 0)]) [(0,.agg (kM b R.cc nv R.vp))]=some (.cells 44 6 true false (kM b R.cc nv R.vp),λl=> .slice l 0 1):=mq rfl rfl E;simp only[lA,gI,e4,fq];have I:=r.grow (jZ.new d (.cells 44 6 true false (kM b R.cc nv R.vp)));have k4:=r.xG (.cells 44 6 true false (kM b R.cc nv R.vp));have u:jM (d.new (.cells 44 6 true false (kM b R.cc nv R.vp))) 6 (.slice d.next 0 1)=some (1,kM b R.cc nv R.vp):=lP (k:=0) rfl;have J:Kp F G h (d.new (.cells 44 6 true false (kM b R.cc nv R.vp))):=((X.trans k2 λ_ h=>h).trans k3 λ_ h=>h).trans k4 λ_ h=>h;generalize d.new (.cells 44 6 true false (kM b R.cc nv R.vp))=K at*;obtain⟨sc,D5⟩:=I.flush
 have hw:eK.rel (ZI F R.vc) K ⟨t.s.cur,b.fin,b.cond,b.next,t.fe,b.state⟩ (kM b R.cc nv R.vp):=
  ⟨R.cc,nv,R.vp,rfl,by rw[q.hq];exact sc,(a.fc λl e=>J.fc l (.inl e)).mono λ_ h=> .inl h,I.sp.mono λ_ h=> .inl h⟩
 obtain ⟨M,h5,h6,a1,a2,a3,a4,k6,N⟩:=D5.zbw (ys:=[⟨t.s.cur,b.fin,b.cond,b.next,t.fe,b.state⟩]) u ⟨kM b R.cc nv R.vp,[],by simp,hw,trivial⟩ rfl E (by simp) (by simp;omega);have w:eR 44 6 96 R.vb (.slice d.next 0 1) K=some (.val M h5):=a1;have e7:fN [V.ec,(V.int .i64 0),(V.int .i64 0),V.ec,V.ec,(V.int .i64 0)] [(0,1),(1,1),(2,1),(3,1),(4,1),(5,1)] []=some (.agg [.ec,.int .i64 0,.int .i64 0,.ec,.ec,.int .i64 0]):=rfl;have e8:=D0 (n:=6) (ws:=[.ec,.int .i64 0,.int .i64 0,.ec,.ec,.int .i64 0]) N.gb rfl rfl rfl;obtain⟨k7,x⟩:=N.X8 (c:= .ec) (p:= .ec) (ps:=[]) .nil;have lb:fD M=some (.int .i64 ((t.blocks.length+1:Nat):Int)):=by
  have:=x.ob.len;simpa using this
 simp only[w,ef,a3,e7,gI,e8,x.Ww,lb,uh,L0 (n:=t.blocks.length) (by omega)];have kb:=(J.trans (F':=ZI F R.vc) k6 λ_ h=> .inl h).trans (F':=ZI F R.vc) k7 λ_ h=> .inl h;exact H (ZI F R.vc) _ _ (λ_ h=> .inl h) kb (q.step kb x (λ_ h=> .inl h) q.gl rfl rfl)
end
