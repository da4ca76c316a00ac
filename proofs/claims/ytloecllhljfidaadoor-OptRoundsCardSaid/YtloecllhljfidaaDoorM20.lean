/- Parts. -/
import Derived.Test.YtloecllhljfidaaDoorM18
import Derived.Test.YtloecllhljfidaaDoorM19
import Derived.Test.YtloecllhljfidaaDoorM15
set_option maxHeartbeats 4000000
namespace Go.Proofs.YtloecllhljfidaaDoor.Hx
open Un
theorem Ep{e:Nat}{w:List V}(a:fZ w=true):mm e (.agg w)=some (.cells e 1 true false w,λl=> .ptr l 0):=by
 unfold mm
 grind[yN,fZ,bB,V.cells]
theorem ng{e sz:Nat}{z w:List V}(b:z.length=sz)(a:w.length=sz)(c:fZ w=true):jd e sz 1 (.agg z) [(0,.agg w)]=some (.cells e sz true false w,λl=> .slice l 0 1):=by
 unfold jd;have hs:pE (Nat.mul 0 sz) (zS 1 (V.agg z).cells) (V.agg w).cells=some w:=by
  show pE (0*sz) (z++[]) w=some w;rw[Nat.zero_mul,HU,AS (by omega),wB4,MR,wO,List.drop_of_length_le (by omega),HU]
 simp only[AP,fy,hs];rw[yN _ (show Nat.beq (V.agg w).cells.length sz=true by rw[show(V.agg w).cells=w from rfl,a];simp_all)]
 simp_all
theorem MN{n:Nat}(h:n<1000000000):mb .i64 (((n+1:Nat):Int)-1)=(n:Nat):=by
 grind[tP,Fx]
theorem zc5{n k:Nat}(h:n<1000000000)(hk:k<1000000000):mb .i64 (((n:Nat):Int)+(k:Nat))=((n+k:Nat):Int):=by
 grind[tP,Fx]
theorem WW(t:Nat)(k:IntKind)(a b:Int)(hb:b≠0):eJ .rem t (.int k a) (.int k b)=some (.int k (a.tmod b)):=by
 have c:hint .rem k a b=some (.int k (a.tmod b)):=by
  cases b with
  | ofNat n=>cases n with
    |zero=>simp_all
    |succ n=>rfl
  |negSucc n=>rfl
 cases k <;> exact c
theorem J8{n:Int}{m:Nat}{h:Hp}{Q:fq}(f:0<m)(d:m<=1000000000)(H:Q (.I (lj n m:Nat)) h):cP CS ig [.I n,.I m] h Q:=by
 refine DV rfl rfl ?_;unfold vY;have g:=Int.tmod_lt_of_pos n (b:=(m:Int)) (by omega);have i : -(m:Int)<n.tmod m:=by
  have:=Int.tmod_lt_of_pos (-n) (b:=(m:Int)) (by omega);rw[Int.neg_tmod]at this;omega
 simp only[WW _ _ _ (m:Int) (by omega),iy,qO,Kj,D1];unfold lj at H;split
 ·rename_i a;rw[if_pos a]at H;have e:mb .i64 (n.tmod m+m)=n.tmod m+m:=by grind[tP,Fx]
  simp only[CQ,e,iy];refine sX ?_;unfold nH;rw[Int.toNat_of_nonneg (by omega)]at H;exact H
 ·rename_i c;rw[if_neg c]at H;refine sX ?_;unfold nH;rw[Int.toNat_of_nonneg (by omega)]at H;exact H
section
variable{F G:Nat->Prop}{h:Hp}{lu hH je:Nat}{t:Dt}{R:Rw}{Q:fq}
theorem Dw.V0(D:Dw F G h lu hH je t R):eQ (.ptr lu 2) h=some R.vv:=kK D.gu rfl
theorem Dw.ZV(D:Dw F G h lu hH je t R):eQ (.ptr lu 3) h=some R.vb:=kK D.gu rfl
theorem Dw.ldS(D:Dw F G h lu hH je t R):eQ (.ptr lu 4) h=some R.vs:=kK D.gu rfl
theorem Dw.yS(D:Dw F G h lu hH je t R):eQ (.ptr hH 0) h=some R.vk:=kK D.gk rfl
theorem Dw.ldC(D:Dw F G h lu hH je t R):eQ (.ptr je 0) h=some R.cc:=kK D.gb rfl
theorem Dw.ldP(D:Dw F G h lu hH je t R):eQ (.ptr je 4) h=some R.vp:=kK D.gb rfl
theorem Rx{x:Vl}{w:List V}(D:Dw F G h lu hH je t R)(hq:R.cc=R.vc)(g:eV.rel F h x w)(hv:t.s.ef.length<1000)(hc:t.s.cur.length<1000)
  (H:∀h' R',Kp F G h h'->Dw F G h' lu hH je {t with s:=put t.s x} R'->R'.cc=R'.vc->R'.vk=R.vk->Q (.I t.s.ef.length) h') :
  cP CS fk [.agg w,.ptr lu 0,.ptr je 0] h Q:=by
 refine Bd rfl rfl ?_;unfold tJ;have a:=eV.one g;have b:w.length=6:=eV.len g;have i:=D.grow (lO.new h (.cells 40 1 true false w));have q:=D.xg (.cells 40 1 true false w);have y:fM 6 (.ptr h.next 0) (h.new (.cells 40 1 true false w))=some (.agg w):=Ar (fi _ _) b;have z:jd 40 6 1 (V.agg [(V.I 0),(V.I 0),(V.I 0),(V.I 0),V.ee,(V.I 0)]) [(0,.agg w)]=some (.cells 40 6 true false w,λl=> .slice l 0 1):=ng rfl b a;simp only[Ep a,fF,fR,iy,wO,i.V0,y,z];generalize A:h.new (.cells 40 1 true false w)=f at*;have B:=i.grow (lO.new f (.cells 40 6 true false w));have r:=i.xg (.cells 40 6 true false w);have j:eV.rel F (f.new (.cells 40 6 true false w)) x w:=eV.fe (λl C=>(q.trans r λ_ h=>h).fe l (.inl C)) g;have m:kW (f.new (.cells 40 6 true false w)) 6 (.slice f.next 0 1)=some (1,w):=by grind[mS]
 obtain⟨O,P,c,a1,a2,a3,a4,E,d⟩:=B.zcU (ys:=[x]) m ⟨w,[],by simp,j,trivial⟩ (by omega) a (by simp) (by simp;omega);have lc:((t.s.ef++[x]).length:Nat)=t.s.ef.length+1:=by simp
 have u:=d.ov.len;simp only[lc]at u;simp only[a1,ei,a3,d.ldC,d.V0,iy,u,qZ];have v:mb .i64 (((t.s.ef.length+1:Nat):Int)-1)=(t.s.ef.length:Nat):=MN (by omega);have I:jd 3 1 1 (V.I 0) [(0,V.I t.s.ef.length)]=some (.cells 3 1 true false [V.I t.s.ef.length],λl=> .slice l 0 1):=rfl;simp only[v,I,fF,hq];have J:=d.grow (lO.new c (.cells 3 1 true false [V.I t.s.ef.length]));have K:=d.xg (.cells 3 1 true false [V.I t.s.ef.length]);have n:kW (c.new (.cells 3 1 true false [V.I t.s.ef.length])) 1 (.slice c.next 0 1)=some (1,[V.I t.s.ef.length]):=mS (k:=0) rfl;obtain⟨L,M,S,b1,b2,b3,T,N,o⟩:=J.zc6 (ys:=[t.s.ef.length]) n ⟨[V.I t.s.ef.length],[],rfl,rfl,trivial⟩ rfl rfl (by simp) (by simp;omega);have e:=o.ov.len;simp only[lc]at e;have p:eR 3 1 8 R.vc (.slice c.next 0 1) (c.new (.cells 3 1 true false [V.I t.s.ef.length]))=some (.val L M):=b1;simp only[p,ei,b3,o.V0,iy,e,qZ,v];exact H _ _ ((((q.trans r λ_ h=>h).trans E λ_ h=>h).trans K λ_ h=>h).trans N λ_ h=>h) o rfl rfl
end
open Un
structure Lc where
 lr:Nat
 lu:Nat
 hH:Nat
 je:Nat
 xN:Nat
 mF:Nat
 oT:Nat
 TA:Nat
def zbx(L:Lc):V:= .func fk [] [.ptr L.lu 0,.ptr L.je 0]
def TZ(L:Lc):V:= .func fg [] [.ptr L.mF 0,.ptr L.lr 0]
def Rj(L:Lc):V:= .func fL [] [.ptr L.lu 0,.ptr L.oT 0,.ptr L.hH 0]
structure Dq (F G:Nat->Prop) (h:Hp) (L:Lc) (ops:List Int) (t:Dt) (R:Rw):Prop where
 D:Dw F G h L.lu L.hH L.je t R
 hq:R.cc=R.vc
 gl:G L.mF
 ga:h.get L.mF=some (.cells en 1 true false [.I t.s.pos])
 fr:F L.lr
 gr:∃vo vs n,h.get L.lr=some (.cells Q6 1 true false [vo,vs,n])/\iG (eI .i64) F h ops vo
 fp:F L.xN
 gp:∃e,h.get L.xN=some (.cells e 1 true false [zbx L])
 fn:F L.oT
 gn:∃e,h.get L.oT=some (.cells e 1 true false [TZ L])
 fs:F L.TA
 gs:∃e,h.get L.TA=some (.cells e 1 true false [Rj L])
section
variable{F F' G G':Nat->Prop}{h h':Hp}{L:Lc}{ops:List Int}{t t':Dt}{R R':Rw}{Q:fq}
theorem Dq.zak(q:Dq F G h L ops t R)(k:∀l,F l->h'.get l=h.get l) (D':Dw F' G' h' L.lu L.hH L.je t' R')(a:∀l,F l->F' l) (b:R'.cc=R'.vc)(c:G' L.mF)(d:h'.get L.mF=some (.cells en 1 true false [.I t'.s.pos])):Dq F' G' h' L ops t' R' where
 D:=D'
 hq:=b
 gl:=c
 ga:=d
 fr:=a _ q.fr
 gr:=by
  obtain⟨vo,vs,n,e,f⟩:=q.gr;exact⟨vo,vs,n,by rw[k _ q.fr];exact e,(f.fe k).mono a⟩
 fp:=a _ q.fp
 gp:=by rw[k _ q.fp];exact q.gp
 fn:=a _ q.fn
 gn:=by rw[k _ q.fn];exact q.gn
 fs:=a _ q.fs
 gs:=by rw[k _ q.fs];exact q.gs
theorem Dq.step(q:Dq F G h L ops t R)(k:Kp F G h h') (D':Dw F' G' h' L.lu L.hH L.je t' R')(b:∀l,F l->F' l)(c:G' L.mF) (a:R'.cc=R'.vc)(d:t'.s.pos=t.s.pos):Dq F' G' h' L ops t' R':=
 q.zak (λl e=>k.fe l (.inl e)) D' b a c (by rw[k.fe _ (.inr q.gl),d];exact q.ga)
theorem Dq.og(q:Dq F G h L ops t R):eQ (.ptr L.xN 0) h=some (zbx L):=by obtain⟨e,a⟩:=q.gp;exact kK a rfl
theorem Dq.tS(q:Dq F G h L ops t R):eQ (.ptr L.oT 0) h=some (TZ L):=by obtain⟨e,a⟩:=q.gn;exact kK a rfl
theorem Dq.Hl(q:Dq F G h L ops t R):eQ (.ptr L.TA 0) h=some (Rj L):=by obtain⟨e,a⟩:=q.gs;exact kK a rfl
theorem Dq.EC(q:Dq F G h L ops t R){i:Nat}(hi:i<t.s.known.length):∃l o,l<h.next/\(F l\/Loc R.vk l)/\hV 1 R.vk (.I i)=some (.ptr l o)/\eQ (.ptr l o) h=some (.I (t.s.known.getD i 0:Nat)):=by
 obtain⟨l,o,u,a,b,c,d⟩:=q.D.ok.read.Wj hi .i64 rfl;refine⟨l,o,a.elim (q.D.fl l) λh=>(q.D.ok.rI h).2.1,a,b,?_⟩;rw[c];have:[u]=[V.I (t.s.known[i]:Nat)]:=d;rw[CM,g0 hi];simpa using this
theorem Dw.Ws{lu hH je:Nat}(D:Dw F G h lu hH je t R)(a:∀l,G' l->G l\/(l<h.next/\¬F l/\∀i,¬comp lu hH je R i l)):Dw F G' h lu hH je t R:=
 {D with gx:=λl b=>(a l b).elim (D.gx l) id}
def gm(G:Nat->Prop)(a:Nat):Nat->Prop:=λl=>G l/\l≠a
theorem Kp.gm(k:Kp F G h h')(a:Nat):Kp F (Hx.gm G a) h h':=⟨k.next,λl b=>k.fe l (b.imp id λh=>h.1)⟩
def setPos(t:Dt)(p:Nat):Dt:={t with s:={t.s with pos:=p} }
theorem vR{m:Nat}(q:Dq F G h L ops t R)(j:0<m)(k:m<=100000000)(I:ops.length<9223372036854775808)
  (H:∀h',Kp F (gm G L.mF) h h'->Dq F G h' L ops (setPos t (draw ops t.s.pos m).2) R->Q (.I ((draw ops t.s.pos m).1:Nat)) h') :
  cP CS fg [.I m,.ptr L.mF 0,.ptr L.lr 0] h Q:=by
 refine Bi rfl rfl ?_;unfold uf;obtain⟨vo,vs,n,gr,g⟩:=q.gr;have p:eQ (.ptr L.mF 0) h=some (.I t.s.pos):=kK q.ga rfl;have l1:eQ (.ptr L.lr 0) h=some vo:=kK gr rfl;simp only[p,iy,fR,wO,l1,g.len,pq,Kj,D1];have a:=q.D.gx _ q.gl;split
 ·rename_i r;have e:draw ops t.s.pos m=(0,t.s.pos):=by
   unfold draw;rw[JA (by omega)]
  rw[e]at H;exact H h (Kp.refl _ _ _) q
 ·rename_i c;have c:t.s.pos<ops.length:=by omega
  have e:draw ops t.s.pos m=(lj ops[t.s.pos] m,t.s.pos+1):=by
   unfold draw;rw[g0 c]
  rw[e]at H;have w:mb .i64 ((t.s.pos:Int)+1)=((t.s.pos+1:Nat):Int):=by rw[tP (by simp only[Fx];omega)];omega
  have x:=nf (o:=0) (v:= .I ((t.s.pos+1:Nat):Int)) (ot:=[.I ((t.s.pos+1:Nat):Int)]) q.ga (by simp) rfl rfl;have hc:lO (λl=>l=L.mF) h (h.put L.mF (.cells en 1 true false [.I ((t.s.pos+1:Nat):Int)])):=lO.put _ rfl a.1;have d:∀l,F l->(h.put L.mF (.cells en 1 true false [.I ((t.s.pos+1:Nat):Int)])).get l=h.get l:=λl b=>gf _ a.1 λe=>a.2.1 (e▸b);have l2:eQ (.ptr L.lr 0) (h.put L.mF (.cells en 1 true false [.I ((t.s.pos+1:Nat):Int)]))=some vo:=kK (by rw[d _ q.fr];exact gr) rfl;have l3:eQ (.ptr L.mF 0) (h.put L.mF (.cells en 1 true false [.I ((t.s.pos+1:Nat):Int)]))=some (.I ((t.s.pos+1:Nat):Int)):=kK (fP _ a.1) rfl;have y:mb .i64 (((t.s.pos+1:Nat):Int)-1)=(t.s.pos:Nat):=by rw[tP (by simp only[Fx];omega)];omega
  obtain⟨l,o,u,_,z,A,B⟩:=(g.fe d).Wj c .i64 rfl;obtain⟨rfl⟩:u = .I ops[t.s.pos]:=by simpa using B.1
  simp only[CQ,w,iy,x,ei,l2,l3,qZ,y,z,A];refine J8 j (by omega) (H _ ⟨hc.next,λl b=>b.elim (d l) λb=>gf _ a.1 λe=>b.2 e.symm⟩ ?_);have C:Dw F (gm G L.mF) h L.lu L.hH L.je t R:={q.D with gx:=λl b=>q.D.gx l b.1}
  have D':=(C.other hc λl b=>by subst b;exact⟨a.2.1,λE=>E.2 rfl,a.2.2⟩).1;refine q.zak d ?_ (λ_ h=>h) q.hq q.gl (fP _ a.1);have f:∀l,G l->_:=λl b=>if e:l=L.mF then e▸(⟨a.1,a.2.1,a.2.2⟩:_/\_/\∀i,¬comp L.lu L.hH L.je R i L.mF) else D'.gx l ⟨b,e⟩
  exact{D' with gx:=f}
def gp(G:Nat->Prop)(v:V)(p:Nat):Nat->Prop:=λl=>G l\/l=p\/Loc v l
theorem zW(l:List Nat)(h:0<l.length):l.getD (l.length-1) 0=l.getLastD 0:=by
 rw[List.getLastD_eq_getLast?,List.getLast?_eq_getElem?,CM]
theorem LX(q:Dq F G h L ops t R)(hk:0<t.s.known.length)(aN:t.s.known.length<1000)(hs:t.s.eh.length<1000)(ho:ops.length<9223372036854775808)
  (H:∀F' h' R',(∀l,F l->F' l)->Kp F (gm G L.mF) h h'->Dq F' G h' L ops {t with s:=(ft ops t.s).2} R'->R'.vk=R.vk->Q (.I ((ft ops t.s).1:Nat)) h') :
  cP CS fL [.ptr L.lu 0,.ptr L.oT 0,.ptr L.hH 0] h Q:=by
 refine BV rfl rfl ?_;unfold tX;have aM:=(q.D.gx _ q.gl).1;have am:∀l,G l->l<h.next:=λl f=>(q.D.gx l f).1;have an:∀i l,comp L.lu L.hH L.je R i l->l<h.next:=λi l f=>(q.D.sig f).2.1;have eb:fJ [(V.I 0),(V.I 0),V.ee,V.ee] [(0,1),(1,1),(2,1),(3,1)] [(0,(V.I 1)),(1,.I t.s.eh.length)]=some (.agg [.I 1,.I t.s.eh.length,.ee,.ee]):=rfl;have U:(h.new (.cells 44 1 true false [(V.I 0),(V.I 0),V.ee,V.ee])).get h.next=some (.cells 44 1 true false [(V.I 0),(V.I 0),V.ee,V.ee]):=fi _ _;have e1:=Eh (n:=4) (ws:=[.I 1,.I t.s.eh.length,.ee,.ee]) U rfl rfl rfl;simp only[fR,iy,wO,q.D.ldS,q.D.os.len,eb,fF,e1,ei];have K:h.next<(h.new (.cells 44 1 true false [(V.I 0),(V.I 0),V.ee,V.ee])).next:=Pd _
 have c2:lO (λl=>l=h.next) h ((h.new (.cells 44 1 true false [(V.I 0),(V.I 0),V.ee,V.ee])).put h.next (.cells 44 1 true false [.I 1,.I t.s.eh.length,.ee,.ee])):=
  (lO.new _ _).trans (lO.put _ rfl K)
 have g2:=fP (h:=h.new (.cells 44 1 true false [(V.I 0),(V.I 0),V.ee,V.ee])) (.cells 44 1 true false [.I 1,.I t.s.eh.length,.ee,.ee]) K;have n2:((h.new (.cells 44 1 true false [(V.I 0),(V.I 0),V.ee,V.ee])).put h.next (.cells 44 1 true false [.I 1,.I t.s.eh.length,.ee,.ee])).next=h.next+1:=rfl;generalize ((h.new (.cells 44 1 true false [(V.I 0),(V.I 0),V.ee,V.ee])).put h.next (.cells 44 1 true false [.I 1,.I t.s.eh.length,.ee,.ee]))=h2 at*;clear U e1 K;have fresh:∀l,h.next<=l->¬F l/\¬G l/\∀i,¬comp L.lu L.hH L.je R i l:=λl f=>⟨λhf=>by have:=q.D.fl l hf;omega,λhg=>by have:=am l hg;omega,λi hi=>by have:=an i l hi;omega⟩
 obtain ⟨W,k2⟩:=q.D.other c2 (λl f=>by subst f;exact fresh _ (jb _));have X:Dw F (gp G .ee h.next) h2 L.lu L.hH L.je t R:=W.Ws λl f=>f.elim .inl λf=> .inr (by
  rcases f with rfl|f
  ·exact⟨by omega,(fresh _ (jb _)).1,(fresh _ (jb _)).2.2⟩
  ·exact f.elim)
 have q2:Dq F (gp G .ee h.next) h2 L ops t R:=q.step k2 X (λ_ h=>h) (.inl q.gl) q.hq rfl;rw[q2.tS];simp only[iy,TZ,rL,vO,MR,HU];refine vR (m:=4) q2 (by decide) (by decide) ho λy k3 q3=>?_;have g3:y.get h.next=some (.cells 44 1 true false [.I 1,.I t.s.eh.length,.ee,.ee]):=by
  rw[k3.fe _ (.inr ⟨.inr (.inl rfl),by omega⟩)];exact g2
 have hr:(draw ops t.s.pos 4).1<4:=vQ _ _ (by decide)
 refine zj (λk x0 x1 x2 x4 x5 h'=>∃(s:Ds) (l:List Nat) (vl:V),x0 = .ptr L.lu 0/\x1 = .ptr L.oT 0/\x2 = .ptr L.hH 0/\x4 = .ptr h.next 0/\x5 = .I (k:Nat)/\Dq F (gp G vl h.next) h' L ops {t with s:=s} R/\Kp F (gm G L.mF) h h'/\
  h'.get h.next=some (.cells 44 1 true false [.I 1,.I t.s.eh.length,vl,.ee])/\jY eN en F h' l vl/\(∀z,Loc vl z->h.next<z)/\some_ ops k s l=some_ ops (draw ops t.s.pos 4).1 (num ops t.s 4).2 []/\s.known=t.s.known/\s.eh=t.s.eh/\l.length+k<=4) ?_
  ⟨(num ops t.s 4).2,[],.ee,rfl,rfl,rfl,rfl,rfl,q3,(k2.gm L.mF).trans ⟨k3.next,λl f=>k3.fe l (f.imp id λf=>⟨.inl f.1,f.2⟩)⟩ (λ_ h=>h),g3,.nil,λ_ h=>h.elim,rfl,rfl,rfl,by simp;omega⟩
 clear q3 k3 g3 q2 X W k2 g2 c2 eb;rintro k x0 x1 x2 x4 x5 h' ⟨s,l,vl,rfl,rfl,rfl,rfl,rfl,j,k',gF,ol,P,p,r,A,hlen⟩;unfold qA;have ao:eQ (.ptr h.next 2) h' = some vl:=kK gF rfl;have kl:({t with s:=s}:Dt).s.known.length=t.s.known.length:=by show s.known.length=_;rw[r]
 have Y:h.next<h'.next:=(j.D.gx h.next (.inr (.inl rfl))).1;have Z:∀{g:Hp} {s1:Ds},Dq F (gp G vl h.next) g L ops {t with s:=s1} R->Dw F G g L.lu L.hH L.je {t with s:=s1} R:=λq=>{q.D with gx:=λl f=>q.D.gx l (.inl f)}
 simp only[pS,iy,Kj,D1]
 cases k with
 | succ k=>
   rw[if_pos (by omega)];have lk:=j.D.ok.len;rw[kl]at lk;rw[j.tS];simp only[fR,iy,wO,ao,j.D.yS,lk,TZ,rL,vO,MR,HU];refine vR (m:=t.s.known.length) j hk (by omega) ho λg u I=>?_;have ap:g.get h.next=some (.cells 44 1 true false [.I 1,.I (t.s.eh.length:Nat),vl,.ee]):=by
     rw[u.fe _ (.inr ⟨.inr (.inl rfl),by omega⟩)];exact gF
   have aa:jY eN en F g l vl:=ol.fe (λz b=>u.fe z (.inl b)) (λz b=>u.fe z (.inr ⟨.inr (.inr b),by have:=P z b;omega⟩)) u.next;have aq:(draw ops s.pos t.s.known.length).1<t.s.known.length:=vQ _ _ hk;obtain⟨l1,o1,ab,ac,i1,i2⟩:=I.EC (i:=(draw ops s.pos t.s.known.length).1) (by show _<s.known.length;rw[r];exact aq);have B:eQ (.ptr l1 o1) g=some (.I (s.known.getD (draw ops s.pos t.s.known.length).1 0:Nat)):=i2;refine⟨u.next,?_⟩;have e3:∀a:Nat,jd 3 1 1 (V.I 0) [(0,V.I (a:Nat))]=some (.cells 3 1 true false [V.I (a:Nat)],λl=> .slice l 0 1):=λ_=>rfl;have ar:hV 1 R.vk (.I ((draw ops ({t with s:=s}:Dt).s.pos t.s.known.length).1:Nat))=some (.ptr l1 o1):=i1;simp only[ar,B,iy,e3,gZ];generalize hv:s.known.getD (draw ops s.pos t.s.known.length).1 0=a at*;have W:=(Z I).grow (lO.new g (.cells 3 1 true false [V.I (a:Nat)]));have ae:(g.new (.cells 3 1 true false [V.I (a:Nat)])).get h.next=_:=(fh _ (by have:=u.next;omega)).trans ap;refine⟨⟨fi _ _,O.lC _ _ _ _ _⟩,qN B (fh _ ab),W.yS,kK ae rfl,?_⟩;have au:jY eN en F (g.new (.cells 3 1 true false [V.I (a:Nat)])) l vl:=aa.fe (λz b=>fh _ (I.D.fl z b)) (λz b=>fh _ (aa.rI b).2.1) (Qd _);have hx:kW (g.new (.cells 3 1 true false [V.I (a:Nat)])) 1 (.slice g.next 0 1)=some (1,[V.I (a:Nat)]):=mS (k:=0) rfl;obtain⟨d,y,a1,ag,c3,aw⟩:=au.append (kj:=8) (ys:=[a]) hx ⟨[V.I (a:Nat)],[],rfl,rfl,trivial⟩ rfl rfl (by simp) (by decide) (λz b=>wBi (I.D.fl z b)) (by simp;omega) (by simp;omega);have n2:(g.new (.cells 3 1 true false [V.I (a:Nat)])).next=g.next+1:=rfl;have w:h.next<y.next:=by have:=c3.next;have:=u.next;omega
   have ax:y.get h.next=some (.cells 44 1 true false [.I 1,.I (t.s.eh.length:Nat),vl,.ee]):=by
     rw[c3.fe _ (by have:=u.next;omega) λb=>wB2 _ (P _ b)];exact ae
   have a2:=nf (o:=2) (v:=d) (ot:=[.I 1,.I (t.s.eh.length:Nat),d,.ee]) ax (by simp) ag.one rfl;have ay:eR 3 1 8 vl (.slice g.next 0 1) (g.new (.cells 3 1 true false [V.I (a:Nat)]))=some (.val d y):=a1;have w1:mb .i64 (((k+1:Nat):Int)-1)=(k:Nat):=MN (by omega);simp only[ay,ei,a2,qZ,w1,iy];refine⟨c3.next,jb _,k,by omega,?_⟩
   have cc:lO (λz=>Loc vl z\/z=h.next) (g.new (.cells 3 1 true false [V.I (a:Nat)])) (y.put h.next (.cells 44 1 true false [.I 1,.I (t.s.eh.length:Nat),d,.ee])):=
     (c3.Xm λ_ _ h=> .inl h).trans (lO.put _ (.inr rfl) w)
   obtain⟨D4,k4⟩:=W.other cc λz b=>fresh z (by rcases b with b|rfl;exact Nat.le_of_lt (P z b);exact jb _);have M:∀z,Loc d z->h.next<z:=λz b=>(aw z b).elim (P z) λe=>by have:=u.next;omega
   have ah:jY eN en F (y.put h.next (.cells 44 1 true false [.I 1,.I (t.s.eh.length:Nat),d,.ee])) (l++[a]) d:=
     ag.fe (λz b=>gf _ w λe=>(fresh h.next (jb _)).1 (e▸b)) (λz b=>gf _ w (by have:=M z b;omega)) (jb _)
   have aA:Dw F (gp G d h.next) (y.put h.next (.cells 44 1 true false [.I 1,.I (t.s.eh.length:Nat),d,.ee])) L.lu L.hH L.je _ R:=D4.Ws λz b=>b.elim .inl λb=> .inr (by
     rcases b with rfl|b
     ·exact⟨w,(fresh _ (jb _)).1,(fresh _ (jb _)).2.2⟩
     ·have C:=fresh z (Nat.le_of_lt (M z b));exact⟨(ah.rI b).2.1,C.1,C.2.2⟩)
   have kk:Kp F G g (y.put h.next (.cells 44 1 true false [.I 1,.I (t.s.eh.length:Nat),d,.ee])):=
     (Kp.new F G g _ I.D.fl λz b=>(I.D.gx z (.inl b)).1).trans k4 λ_ h=>h
   have qG:Dq F G g L ops _ R:={I with D:=Z I,gl:=q.gl}
   refine⟨{s with pos:=(draw ops s.pos t.s.known.length).2},l++[a],d,by trivial,by trivial,by trivial,by trivial,by trivial,qG.step kk aA (λ_ h=>h) (.inl q.gl) j.hq rfl,?_,fP _ w,ah,M,?_,r,A,by simp;omega⟩
   ·exact(k'.trans ⟨u.next,λz b=>u.fe z (b.imp id λb=>⟨.inl b.1,b.2⟩)⟩ λ_ h=>h).trans (kk.gm _) λ_ h=>h
   ·rw[<-p,<-hv]
    show _=some_ ops k (fw ops s).2 (l++[(fw ops s).1]);unfold fw
    rw[r]
 | zero=>
   rw[if_neg (by omega)];obtain⟨e1,e2⟩:l=(some_ ops (draw ops t.s.pos 4).1 (num ops t.s 4).2 []).1/\s=(some_ ops (draw ops t.s.pos 4).1 (num ops t.s 4).2 []).2:=by rw[<-p];exact⟨rfl,rfl⟩
   have lk:=j.D.ok.len;rw[kl]at lk;have w1:mb .i64 (((t.s.known.length:Nat):Int)-1)=((t.s.known.length-1:Nat):Int):=by
     rw[show((t.s.known.length:Nat):Int)=((t.s.known.length-1+1:Nat):Int) by omega];exact MN (by omega)
   obtain ⟨l1,o1,ab,ac,i1,i2⟩:=j.EC (i:=t.s.known.length-1) (by rw[kl];omega);have B:eQ (.ptr l1 o1) h' = some (.I (t.s.known.getLastD 0:Nat)):=by
     rw[i2,show({t with s:=s}:Dt).s.known=t.s.known from r,zW _ hk]
   have e3:∀a:Nat,jd 3 1 1 (V.I 0) [(0,V.I (a:Nat))]=some (.cells 3 1 true false [V.I (a:Nat)],λl=> .slice l 0 1):=λ_=>rfl;simp only[j.D.yS,iy,lk,qZ,w1,i1,B,e3,fF,fR,wO];have D5:=(Z j).grow (lO.new h' (.cells 3 1 true false [V.I (t.s.known.getLastD 0:Nat)]));have k5:Kp F G h' (h'.new (.cells 3 1 true false [V.I (t.s.known.getLastD 0:Nat)])):=(Z j).xg _;have g5:(h'.new (.cells 3 1 true false [V.I (t.s.known.getLastD 0:Nat)])).get h'.next=_:=fi _ _;have aB:(h'.new (.cells 3 1 true false [V.I (t.s.known.getLastD 0:Nat)])).get h.next=_:=(fh _ Y).trans gF;have aC:jY eN en F (h'.new (.cells 3 1 true false [V.I (t.s.known.getLastD 0:Nat)])) l vl:=ol.fe (λz b=>fh _ (j.D.fl z b)) (λz b=>fh _ (ol.rI b).2.1) (Qd _);have n5:(h'.new (.cells 3 1 true false [V.I (t.s.known.getLastD 0:Nat)])).next=h'.next+1:=rfl;generalize h'.new (.cells 3 1 true false [V.I (t.s.known.getLastD 0:Nat)])=C at*;have a1:=nf (o:=3) (v:= .slice h'.next 0 1) (ot:=[.I 1,.I (t.s.eh.length:Nat),vl,.slice h'.next 0 1]) aB (by simp) rfl rfl;have E:h.next<C.next:=by omega
   obtain⟨D6,k6⟩:=D5.other (lO.put (S:=λz=>z=h.next) (.cells 44 1 true false [.I 1,.I (t.s.eh.length:Nat),vl,.slice h'.next 0 1]) rfl E) λz b=>by subst b;exact fresh _ (jb _)
   have aD:=fP (.cells 44 1 true false [.I 1,.I (t.s.eh.length:Nat),vl,.slice h'.next 0 1]) E;have g6:(C.put h.next (.cells 44 1 true false [.I 1,.I (t.s.eh.length:Nat),vl,.slice h'.next 0 1])).get h'.next=_:=(gf _ E (by omega)).trans g5;have ai:jY eN en F (C.put h.next (.cells 44 1 true false [.I 1,.I (t.s.eh.length:Nat),vl,.slice h'.next 0 1])) l vl:=aC.fe (λz b=>k6.fe z (.inl b)) (λz b=>gf _ E (by have:=P z b;omega)) (jb _);have n6:(C.put h.next (.cells 44 1 true false [.I 1,.I (t.s.eh.length:Nat),vl,.slice h'.next 0 1])).next=C.next:=rfl;simp only[a1,ei];generalize C.put h.next (.cells 44 1 true false [.I 1,.I (t.s.eh.length:Nat),vl,.slice h'.next 0 1])=c at*;have lA:fM 4 (.ptr h.next 0) c=some (.agg [.I 1,.I (t.s.eh.length:Nat),vl,.slice h'.next 0 1]):=Ar aD rfl;have ow:fZ [.I 1,.I (t.s.eh.length:Nat),vl,.slice h'.next 0 1]=true:=by simp only[eo,ol.one];rfl
   have e7:jd 44 4 1 (V.agg [(V.I 0),(V.I 0),V.ee,V.ee]) [(0,.agg [.I 1,.I (t.s.eh.length:Nat),vl,.slice h'.next 0 1])]=some (.cells 44 4 true false [.I 1,.I (t.s.eh.length:Nat),vl,.slice h'.next 0 1],λl=> .slice l 0 1):=ng rfl rfl ow;have e8:∀m:Nat,fJ [V.ee] [(0,1)] [(0,.slice m 0 1)]=some (.agg [.slice m 0 1]):=λ_=>rfl;have e9:∀m:Nat,jd 47 1 1 (V.agg [V.ee]) [(0,.agg [.slice m 0 1])]=some (.cells 47 1 true false [.slice m 0 1],λl=> .slice l 0 1):=λm=>ng rfl rfl rfl;simp only[D6.ldS,iy,lA,e7,fF,e8,e9];have D7:=D6.grow (lO.new c (.cells 44 4 true false [.I 1,.I (t.s.eh.length:Nat),vl,.slice h'.next 0 1]));have k7:=D6.xg (.cells 44 4 true false [.I 1,.I (t.s.eh.length:Nat),vl,.slice h'.next 0 1]);have g7:(c.new (.cells 44 4 true false [.I 1,.I (t.s.eh.length:Nat),vl,.slice h'.next 0 1])).get c.next=_:=fi _ _;have aE:(c.new (.cells 44 4 true false [.I 1,.I (t.s.eh.length:Nat),vl,.slice h'.next 0 1])).get h'.next=_:=(fh _ (by omega)).trans g6;have aj:jY eN en F (c.new (.cells 44 4 true false [.I 1,.I (t.s.eh.length:Nat),vl,.slice h'.next 0 1])) l vl:=ai.fe (λz b=>fh _ (D6.fl z b)) (λz b=>fh _ (ai.rI b).2.1) (Qd _);have n7:(c.new (.cells 44 4 true false [.I 1,.I (t.s.eh.length:Nat),vl,.slice h'.next 0 1])).next=c.next+1:=rfl;generalize c.new (.cells 44 4 true false [.I 1,.I (t.s.eh.length:Nat),vl,.slice h'.next 0 1])=x at*;have D8:=D7.grow (lO.new x (.cells 47 1 true false [.slice c.next 0 1]));have k8:=D7.xg (.cells 47 1 true false [.slice c.next 0 1]);have g8:(x.new (.cells 47 1 true false [.slice c.next 0 1])).get c.next=_:=(fh _ (by omega)).trans g7;have aF:(x.new (.cells 47 1 true false [.slice c.next 0 1])).get h'.next=_:=(fh _ (by omega)).trans aE;have ak:jY eN en F (x.new (.cells 47 1 true false [.slice c.next 0 1])) l vl:=aj.fe (λz b=>fh _ (D7.fl z b)) (λz b=>fh _ (aj.rI b).2.1) (Qd _);have aG:kW (x.new (.cells 47 1 true false [.slice c.next 0 1])) 1 (.slice x.next 0 1)=some (1,[.slice c.next 0 1]):=mS (k:=0) rfl;have n8:(x.new (.cells 47 1 true false [.slice c.next 0 1])).next=x.next+1:=rfl;generalize x.new (.cells 47 1 true false [.slice c.next 0 1])=T at*;have D9:Dw (λz=>F z\/Loc vl z\/z=h'.next\/z=c.next) G T L.lu L.hH L.je {t with s:=s} R:=D8.more (λ_ h=> .inl h) λz b=>b.elim .inl λb=> .inr (by
     have aH:h.next<z/\z<T.next:=by
       rcases b with b|rfl|rfl
       ·exact⟨P z b,(ak.rI b).2.1⟩
       ·omega
       ·omega
     have h9:=fresh z (by omega);exact⟨aH.2,h9.2.2,h9.2.1⟩)
   have sl:iG eN (λz=>F z\/Loc vl z\/z=h'.next\/z=c.next) T l vl:=ak.Zm (λ_ h=> .inl h) λ_ h=> .inr (.inl h)
   have ss:iG eN (λz=>F z\/Loc vl z\/z=h'.next\/z=c.next) T [t.s.known.getLastD 0] (.slice h'.next 0 1):=
     .inr ⟨h'.next,0,3,true,false,[V.I (t.s.known.getLastD 0:Nat)],rfl,.inr (.inr (.inl rfl)),aF,.inr rfl,Jw _,⟨_,[],rfl,rfl,trivial⟩⟩
   have sf:iG eF (λz=>F z\/Loc vl z\/z=h'.next\/z=c.next) T [⟨1,(t.s.eh.length:Nat),l,[t.s.known.getLastD 0]⟩] (.slice c.next 0 1):=
     .inr ⟨c.next,0,44,true,false,[.I 1,.I (t.s.eh.length:Nat),vl,.slice h'.next 0 1],rfl,.inr (.inr (.inr rfl)),g8,.inr rfl,Jw _,⟨_,[],rfl,⟨vl,_,rfl,sl,ss⟩,trivial⟩⟩
   obtain⟨v',h9,al,b1,b2,b3,b4,k9,N⟩:=D9.zcT (ys:=[[⟨1,(t.s.eh.length:Nat),l,[t.s.known.getLastD 0]⟩]]) aG ⟨[.slice c.next 0 1],[],rfl,⟨_,rfl,sf⟩,trivial⟩ rfl rfl (by simp) (by show s.eh.length+_<_;rw[A];simp;omega);have aI:eR 47 1 24 R.vs (.slice x.next 0 1) T=some (.val v' h9):=b1;have lS:=N.os.len;have aJ:((s.eh++[[(⟨1,(t.s.eh.length:Nat),l,[t.s.known.getLastD 0]⟩:Fm)]]).length:Nat)=t.s.eh.length+1:=by rw[A];simp
   have aK:fD v' = some (.I ((t.s.eh.length+1:Nat):Int)):=by rw[<-aJ];exact lS
   have w2:mb .i64 (((t.s.eh.length+1:Nat):Int)-1)=(t.s.eh.length:Nat):=MN (by omega);simp only[aI,ei,b3,N.ldS,iy,aK,qZ,w2];have J:Kp F G h' al:=(((k5.trans k6 λ_ h=>h).trans k7 λ_ h=>h).trans k8 λ_ h=>h).trans ⟨k9.next,λz b=>k9.fe z (b.imp (λh=> .inl h) id)⟩ λ_ h=>h;have qG:Dq F G h' L ops _ R:={j with D:=Z j,gl:=q.gl}
   have hE:({t with s:=(ft ops t.s).2}:Dt) = {t with s:={s with eh:=s.eh++[[⟨1,(t.s.eh.length:Nat),l,[t.s.known.getLastD 0]⟩]]} }:=by
     unfold ft;rw[e1,A,e2];rfl
   have aL:=qG.step J N (λ_ h=> .inl h) q.gl j.hq rfl;refine H (λz=>F z\/Loc vl z\/z=h'.next\/z=c.next) al {R with vs:=v'} (λ_ h=> .inl h) (k'.trans (J.gm _) λ_ h=>h) ?_ rfl;rw[hE];exact aL
end
open Un
theorem Ta{t:Nat}{k:IntKind}{a b:Int}{A B:Prop}(h:if a<b then A else B):oP (eJ .lss t (.int k a) (.int k b)) λv=>bP v A B:=by
 simp_all
theorem gM{t:Nat}{k:IntKind}{a b:Int}{A B:Prop}(h:if a=b then A else B):oP (eJ .eql t (.int k a) (.int k b)) λv=>bP v A B:=by
 simp_all
theorem Co{t:Nat}{k:IntKind}{a b:Int}{A B:Prop}(h:if b<a then A else B):oP (eJ .gtr t (.int k a) (.int k b)) λv=>bP v A B:=by
 simp_all
theorem jZ{t n m:Nat}{K:V->Prop}(a:n<1000000000)(b:m<1000000000)(H:K (.I ((n+m:Nat):Int))):oP (eJ .add t (.I n) (.I m)) K:=by
 grind[CQ,zc5,iy]
theorem qa{t n:Nat}{K:V->Prop}(a:n<1000000000)(h0:0<n)(H:K (.I ((n-1:Nat):Int))):oP (eJ .sub t (.I n) (.I 1)) K:=by
 obtain⟨m,rfl⟩:∃m,n=m+1:=by simp_all
 grind[qZ,MN,iy]
theorem gI{c A B:Prop}[Decidable c] (hc:c)(h:A):if c then A else B:=by simp_all
theorem gv{c A B:Prop}[Decidable c] (hc:¬c)(h:B):if c then A else B:=by simp_all
theorem fS{t n:Nat}{K:V->Prop}(H:K (.I ((n+1:Nat):Int)))(h:n<1000000000:=by omega):oP (eJ .add t (.I n) (.I 1)) K:=jZ (m:=1) h (by decide) H
theorem gR{t:Nat}{k:IntKind}{a b:Int}{A B:Prop}(H:A)(h:a<b:=by omega):oP (eJ .lss t (.int k a) (.int k b)) λv=>bP v A B:=Ta (gI h H)
theorem jf{t:Nat}{k:IntKind}{a b:Int}{A B:Prop}(H:B)(h:¬a<b:=by omega):oP (eJ .lss t (.int k a) (.int k b)) λv=>bP v A B:=Ta (gv h H)
section
variable{F F' G G':Nat->Prop}{h h':Hp}{L:Lc}{ops:List Int}{t t':Dt}{R R':Rw}{Q:fq}
theorem uI{α:Type}{l:List α}{x:α}{n:Nat}(h:l.length<=n):(l++[x]).length<=n+1:=by simp_all
structure Sm (s:Ds) (n:Nat):Prop where
 v:s.ef.length<=n
 c:s.cur.length<=n
 k:s.known.length<=n
 st:s.eh.length<=n
 k0:0<s.known.length
theorem Sm.le{s:Ds}{n m:Nat}(a:Sm s n)(h:n<=m):Sm s m:=⟨BX a.v h,BX a.c h,BX a.k h,BX a.st h,a.k0⟩
theorem Sm.put{s:Ds}{n:Nat}(a:Sm s n)(x:Vl):Sm (put s x) (n+1):=
 ⟨uI a.v,uI a.c,X8 a.k,X8 a.st,a.k0⟩
theorem Sm.iE{s:Ds}{n:Nat}(a:Sm s n)(x:Vl):Sm (iE s x) (n+1):=
 ⟨uI a.v,uI a.c,
  uI a.k,X8 a.st,by show 0<(s.known++[s.ef.length]).length;simp_all⟩
theorem Sm.pos{s:Ds}{n:Nat}(a:Sm s n)(p:Nat):Sm {s with pos:=p} n:=⟨a.v,a.c,a.k,a.st,a.k0⟩
theorem Sm.state{s:Ds}{n:Nat}(a:Sm s n)(ops:List Int):Sm (ft ops s).2 (n+1):=by
 have b:∃p,(some_ ops (num ops s 4).1 (num ops s 4).2 []).2 = {s with pos:=p}:=by
  obtain⟨p,h⟩:=DU ops (num ops s 4).1 (num ops s 4).2 [];exact⟨p,h⟩
 obtain⟨p,b⟩:=b;unfold ft;simp only[b];exact⟨X8 a.v,X8 a.c,X8 a.k,uI a.st,a.k0⟩
theorem ZG(q:Dq F G h L ops t R){n a:Nat}(m:Sm t.s n)(p:n<1000){K:Hp->Prop}
  (H:∀h' R',Kp F G h h'->Dq F G h' L ops {t with s:={t.s with known:=t.s.known++[a]} } R'->K h') :
  wP (jd 3 1 1 (V.I 0) [(0,.I a)]) h λo c b=>((b.get h.next=some o/\O.beq o o=true)/\(eQ (.ptr L.hH 0) b=some R.vk/\fc (eR 3 1 8 R.vk c b) λd e=>(b.next<=e.next/\fc (gh 1 (.ptr L.hH 0) d e) λ_ g=>(e.next<=g.next/\K g)))):=by
 have r:jd 3 1 1 (V.I 0) [(0,V.I a)]=some (.cells 3 1 true false [V.I a],λl=> .slice l 0 1):=rfl;rw[r,gZ];have i:=q.D.grow (lO.new h (.cells 3 1 true false [V.I a]));have hx:kW (h.new (.cells 3 1 true false [V.I a])) 1 (.slice h.next 0 1)=some (1,[V.I a]):=mS (k:=0) rfl;obtain⟨u,v,y,a1,a2,a3,a4,w,x⟩:=i.za9 (ys:=[a]) hx ⟨[V.I a],[],rfl,rfl,trivial⟩ rfl rfl (by simp) (by have:=m.k;simp;omega);have f:eR 3 1 8 R.vk (.slice h.next 0 1) (h.new (.cells 3 1 true false [V.I a]))=some (.val u v):=a1;refine⟨by grind[fi,O.lC],i.yS,?_⟩;simp only[f,ei,a3];have j:=(q.D.xg (.cells 3 1 true false [V.I a])).trans w λ_ h=>h;exact⟨a2,a4,H _ _ j (q.step j x (by simp_all) q.gl q.hq rfl)⟩
theorem ED{x:Vl}{w:List V}(q:Dq F G h L ops t R){n:Nat}(b:Sm t.s n)(p:n<999)(r:eV.rel F h x w){K:Hp->Prop}
  (H:∀h' R',Kp F G h h'->Dq F G h' L ops {t with s:=iE t.s x} R'->K h') :
  cP CS fk [.agg w,.ptr L.lu 0,.ptr L.je 0] h λd e=>(h.next<=e.next/\wP (jd 3 1 1 (V.I 0) [(0,d)]) e λo f a=>((a.get e.next=some o/\O.beq o o=true)/\(eQ (.ptr L.hH 0) a=some R.vk/\fc (eR 3 1 8 R.vk f a) λg i=>(a.next<=i.next/\fc (gh 1 (.ptr L.hH 0) g i) λ_ m=>(i.next<=m.next/\K m))))):=by
 have hv:=b.v;have hc:=b.c;refine Rx q.D q.hq r (by omega) (by omega) λu R1 j y k l=>⟨j.next,?_⟩
 have z:Dq F G u L ops {t with s:=put t.s x} R1:=q.step j y (by simp_all) q.gl k rfl;rw[<-l];exact ZG z (b.put x) (by omega) λA R2 B C=>H A R2 (j.trans B λ_ h=>h) C
theorem GX{x:Vl}{w:List V}(q:Dq F G h L ops t R){n:Nat}(d:Sm t.s n)(f:n<999)(g:eV.rel F h x w){K:fq}
  (H:∀h' R',Kp F G h h'->R'.vk=R.vk->Dq F G h' L ops {t with s:=put t.s x} R'->K (.I t.s.ef.length) h'):cP CS fk [.agg w,.ptr L.lu 0,.ptr L.je 0] h K:=by
 have hv:=d.v;have hc:=d.c;exact Rx q.D q.hq g (by omega) (by omega) λi R1 e j a b=>H i R1 e b (q.step e j (by simp_all) q.gl a rfl)
theorem L2(q:Dq F G h L ops t R)(c:ops.length<9223372036854775808){n:Nat}(a:Sm t.s n)(d:n<1000){K:fq}
  (H:∀h' l o,Kp F (gm G L.mF) h h'->Dq F G h' L ops {t with s:=(fw ops t.s).2} R->l<h'.next->hV 1 R.vk (.I ((draw ops t.s.pos t.s.known.length).1:Nat))=some (.ptr l o)->eQ (.ptr l o) h' = some (.I ((fw ops t.s).1:Nat))->K (.I ((draw ops t.s.pos t.s.known.length).1:Nat)) h') :
  cP CS fg [.I t.s.known.length,.ptr L.mF 0,.ptr L.lr 0] h K:=by
 refine vR q a.k0 (by have:=a.k;omega) c λe f b=>?_;obtain⟨l,o,g,_,j,m⟩:=b.EC (i:=(draw ops t.s.pos t.s.known.length).1) (vQ _ _ a.k0);exact H e l o f b g j m
theorem zbq{b:Bk}{nv:V}(q:Dq F G h L ops t R){n:Nat}(hn:t.blocks.length<1000)(K:b.ef=[])(M:b.ez=[])(a:iG eN F h b.next nv)
  (H:∀F' h' R',(∀l,F l->F' l)->Kp F G h h'->Dq F' G h' L ops {s:={t.s with cur:=[]},blocks:=t.blocks++[⟨t.s.cur,b.fin,b.cond,b.next,t.ez,b.state⟩],ez:=[]} R'->Q (.I t.blocks.length) h') :
  cP CS jN [.agg (kS b .ee nv .ee),.ptr L.je 0,.ptr L.lu 0] h Q:=by
 refine Bg rfl rfl ?_;unfold tx;have N:fZ (kS b .ee nv .ee)=true:=by simp only[kS,eo,a.one];rfl
 have O:∀l,G l->l<h.next:=λl e=>(q.D.gx l e).1;have P:∀i l,comp L.lu L.hH L.je R i l->l<h.next:=λi l e=>(q.D.sig e).2.1;have fresh:∀l,h.next<=l->¬F l/\¬G l/\∀i,¬comp L.lu L.hH L.je R i l:=λl e=>⟨λT=>by have:=q.D.fl l T;omega,by grind,by grind⟩
 have u:=q.D.grow (lO.new h (.cells 38 1 true false (kS b .ee nv .ee)));have U:=q.D.xg (.cells 38 1 true false (kS b .ee nv .ee));have W:(h.new (.cells 38 1 true false (kS b .ee nv .ee))).get h.next=_:=fi _ _;have f:h.next<(h.new (.cells 38 1 true false (kS b .ee nv .ee))).next:=Pd _;simp only[Ep N,fF,fR,iy,wO,wB8,u.ldC];generalize h.new (.cells 38 1 true false (kS b .ee nv .ee))=w at*;have X:=nf (o:=0) (v:=R.cc) (ot:=kS b R.cc nv .ee) W (by simp[kS]) (by rw[q.hq];exact q.D.oc.one) rfl;obtain⟨x,Y⟩:=u.other (lO.put (S:=λz=>z=h.next) (.cells 38 1 true false (kS b R.cc nv .ee)) rfl f) (by simp_all);have Z:=fP (.cells 38 1 true false (kS b R.cc nv .ee)) f;have y:h.next<(w.put h.next (.cells 38 1 true false (kS b R.cc nv .ee))).next:=f;simp only[X,ei,x.ldP,iy];generalize w.put h.next (.cells 38 1 true false (kS b R.cc nv .ee))=h2 at*;have e3:=nf (o:=4) (v:=R.vp) (ot:=kS b R.cc nv R.vp) Z (by simp[kS]) q.D.sp.one rfl;obtain⟨g,k3⟩:=x.other (lO.put (S:=λz=>z=h.next) (.cells 38 1 true false (kS b R.cc nv R.vp)) rfl y) (by simp_all);have g3:=fP (.cells 38 1 true false (kS b R.cc nv R.vp)) y;simp only[e3,ei,g.ZV,iy];generalize h2.put h.next (.cells 38 1 true false (kS b R.cc nv R.vp))=d at*;have A:fZ (kS b R.cc nv R.vp)=true:=by simp only[kS,eo,a.one,q.hq,q.D.oc.one,q.D.sp.one];rfl
 have lA:fM 6 (.ptr h.next 0) d=some (.agg (kS b R.cc nv R.vp)):=Ar g3 rfl;have e4:jd 38 6 1 (V.agg [V.ee,(V.I 0),(V.I 0),V.ee,V.ee,(V.I 0)]) [(0,.agg (kS b R.cc nv R.vp))]=some (.cells 38 6 true false (kS b R.cc nv R.vp),λl=> .slice l 0 1):=ng rfl rfl A;simp only[lA,iy,e4,fF];have B:=g.grow (lO.new d (.cells 38 6 true false (kS b R.cc nv R.vp)));have k4:=g.xg (.cells 38 6 true false (kS b R.cc nv R.vp));have j:kW (d.new (.cells 38 6 true false (kS b R.cc nv R.vp))) 6 (.slice d.next 0 1)=some (1,kS b R.cc nv R.vp):=mS (k:=0) rfl;have C:Kp F G h (d.new (.cells 38 6 true false (kS b R.cc nv R.vp))):=((U.trans Y λ_ h=>h).trans k3 λ_ h=>h).trans k4 λ_ h=>h;generalize d.new (.cells 38 6 true false (kS b R.cc nv R.vp))=E at*;obtain⟨sc,D5⟩:=B.flush
 have hw:eK.rel (fzc F R.vc) E ⟨t.s.cur,b.fin,b.cond,b.next,t.ez,b.state⟩ (kS b R.cc nv R.vp):=
  ⟨R.cc,nv,R.vp,rfl,by rw[q.hq];exact sc,(a.fe λl e=>C.fe l (.inl e)).mono λ_ h=> .inl h,B.sp.mono λ_ h=> .inl h⟩
 obtain ⟨I,h5,h6,a1,a2,a3,a4,k6,J⟩:=D5.zcZ (ys:=[⟨t.s.cur,b.fin,b.cond,b.next,t.ez,b.state⟩]) j ⟨kS b R.cc nv R.vp,[],by simp,hw,trivial⟩ rfl A (by simp) (by simp;omega);have m:eR 38 6 96 R.vb (.slice d.next 0 1) E=some (.val I h5):=a1;have e7:fJ [V.ee,(V.I 0),(V.I 0),V.ee,V.ee,(V.I 0)] [(0,1),(1,1),(2,1),(3,1),(4,1),(5,1)] []=some (.agg [.ee,.I 0,.I 0,.ee,.ee,.I 0]):=rfl;have e8:=Eh (n:=6) (ws:=[.ee,.I 0,.I 0,.ee,.ee,.I 0]) J.gb rfl rfl rfl;obtain⟨k7,r⟩:=J.zam (c:= .ee) (p:= .ee) (ps:=[]) .nil;have lb:fD I=some (.I ((t.blocks.length+1:Nat):Int)):=by
  have:=r.ob.len;simpa using this
 simp only[m,ei,a3,e7,iy,e8,r.ZV,lb,qZ,MN (n:=t.blocks.length) (by omega)];have kb:=(C.trans (F':=fzc F R.vc) k6 λ_ h=> .inl h).trans (F':=fzc F R.vc) k7 λ_ h=> .inl h;exact H (fzc F R.vc) _ _ (λ_ h=> .inl h) kb (q.step kb r (λ_ h=> .inl h) q.gl rfl rfl)
end
