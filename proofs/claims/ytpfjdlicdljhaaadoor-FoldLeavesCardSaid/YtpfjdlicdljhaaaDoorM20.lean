/- Parts. -/
import Derived.Test.YtpfjdlicdljhaaaDoorM18
import Derived.Test.YtpfjdlicdljhaaaDoorM19
import Derived.Test.YtpfjdlicdljhaaaDoorM15
set_option maxHeartbeats 4000000
namespace Go.Proofs.YtpfjdlicdljhaaaDoor.Hx
open Un
theorem El{e:Nat}{w:List V}(a:fW w=true):pU e (.agg w)=some (.cells e 1 true false w,λl=> .ptr l 0):=by
 unfold pU
 grind[lL,fW,bB,V.cells]
theorem se{e sz:Nat}{z w:List V}(b:z.length=sz)(a:w.length=sz)(c:fW w=true):ji e sz 1 (.agg z) [(0,.agg w)]=some (.cells e sz true false w,λl=> .slice l 0 1):=by
 unfold ji;have hs:oC (Nat.mul 0 sz) (Ac 1 (V.agg z).cells) (V.agg w).cells=some w:=by
  show oC (0*sz) (z++[]) w=some w;rw[Nat.zero_mul,GD,ym (by omega),wB5,Qk,wX,List.drop_of_length_le (by omega),GD]
 simp only[Bg,fe,hs];rw[lL _ (show Nat.beq (V.agg w).cells.length sz=true by rw[show(V.agg w).cells=w from rfl,a];simp_all)]
 simp_all
theorem MM{n:Nat}(h:n<1000000000):ll .i64 (((n+1:Nat):Int)-1)=(n:Nat):=by
 grind[yF,CO]
theorem zcC{n k:Nat}(h:n<1000000000)(hk:k<1000000000):ll .i64 (((n:Nat):Int)+(k:Nat))=((n+k:Nat):Int):=by
 grind[yF,CO]
theorem Wq(t:Nat)(k:IntKind)(a b:Int)(d:b≠0):eo .rem t (.int k a) (.int k b)=some (.int k (a.tmod b)):=by
 have c:hint .rem k a b=some (.int k (a.tmod b)):=by
  cases b with
  | ofNat n=>cases n with
    |zero=>simp_all
    |succ n=>rfl
  |negSucc n=>rfl
 cases k <;> exact c
theorem Oa{n:Int}{m:Nat}{h:Hp}{Q:fo}(f:0<m)(d:m<=1000000000)(H:Q (.I (lj n m:Nat)) h):cP CS iB [.I n,.I m] h Q:=by
 refine DM rfl rfl ?_;unfold wA;have g:=Int.tmod_lt_of_pos n (b:=(m:Int)) (by omega);have i : -(m:Int)<n.tmod m:=by
  have:=Int.tmod_lt_of_pos (-n) (b:=(m:Int)) (by omega);rw[Int.neg_tmod]at this;omega
 simp only[Wq _ _ _ (m:Int) (by omega),gW,mj,KX,CH];unfold lj at H;split
 ·rename_i a;rw[if_pos a]at H;have e:ll .i64 (n.tmod m+m)=n.tmod m+m:=by grind[yF,CO]
  simp only[DL,e,gW];refine tg ?_;unfold nj;rw[Int.toNat_of_nonneg (by omega)]at H;exact H
 ·rename_i c;rw[if_neg c]at H;refine tg ?_;unfold nj;rw[Int.toNat_of_nonneg (by omega)]at H;exact H
section
variable{F G:Nat->Prop}{h:Hp}{lu hO iU:Nat}{t:Dt}{R:Rw}{Q:fo}
theorem Dw.UN(D:Dw F G h lu hO iU t R):ey (.ptr lu 2) h=some R.vv:=kr D.gu rfl
theorem Dw.X1(D:Dw F G h lu hO iU t R):ey (.ptr lu 3) h=some R.vb:=kr D.gu rfl
theorem Dw.ldS(D:Dw F G h lu hO iU t R):ey (.ptr lu 4) h=some R.vs:=kr D.gu rfl
theorem Dw.yL(D:Dw F G h lu hO iU t R):ey (.ptr hO 0) h=some R.vk:=kr D.gk rfl
theorem Dw.ldC(D:Dw F G h lu hO iU t R):ey (.ptr iU 0) h=some R.cc:=kr D.gb rfl
theorem Dw.ldP(D:Dw F G h lu hO iU t R):ey (.ptr iU 4) h=some R.vp:=kr D.gb rfl
theorem QI{x:Vl}{w:List V}(D:Dw F G h lu hO iU t R)(hq:R.cc=R.vc)(g:eV.rel F h x w)(O:t.s.ef.length<1000)(hc:t.s.cur.length<1000)
  (H:∀h' R',Kp F G h h'->Dw F G h' lu hO iU {t with s:=put t.s x} R'->R'.cc=R'.vc->R'.vk=R.vk->Q (.I t.s.ef.length) h') :
  cP CS fj [.agg w,.ptr lu 0,.ptr iU 0] h Q:=by
 refine BR rfl rfl ?_;unfold ur;have a:=eV.one g;have b:w.length=6:=eV.len g;have i:=D.grow (kM.new h (.cells 38 1 true false w));have q:=D.xE (.cells 38 1 true false w);have y:gy 6 (.ptr h.next 0) (h.new (.cells 38 1 true false w))=some (.agg w):=Bv (fg _ _) b;have z:ji 38 6 1 (V.agg [(V.I 0),(V.I 0),(V.I 0),(V.I 0),V.ee,(V.I 0)]) [(0,.agg w)]=some (.cells 38 6 true false w,λl=> .slice l 0 1):=se rfl b a;simp only[El a,fw,fJ,gW,wX,i.UN,y,z];generalize A:h.new (.cells 38 1 true false w)=f at*;have B:=i.grow (kM.new f (.cells 38 6 true false w));have r:=i.xE (.cells 38 6 true false w);have j:eV.rel F (f.new (.cells 38 6 true false w)) x w:=eV.eR (λl C=>(q.trans r λ_ h=>h).eR l (.inl C)) g;have m:kG (f.new (.cells 38 6 true false w)) 6 (.slice f.next 0 1)=some (1,w):=by grind[mJ]
 obtain⟨P,S,c,a1,a2,a3,T,E,d⟩:=B.zcl (ys:=[x]) m ⟨w,[],by simp,j,trivial⟩ (by omega) a (by simp) (by simp;omega);have lc:((t.s.ef++[x]).length:Nat)=t.s.ef.length+1:=by simp
 have u:=d.ov.len;simp only[lc]at u;simp only[a1,ej,a3,d.ldC,d.UN,gW,u,pj];have v:ll .i64 (((t.s.ef.length+1:Nat):Int)-1)=(t.s.ef.length:Nat):=MM (by omega);have I:ji 3 1 1 (V.I 0) [(0,V.I t.s.ef.length)]=some (.cells 3 1 true false [V.I t.s.ef.length],λl=> .slice l 0 1):=rfl;simp only[v,I,fw,hq];have J:=d.grow (kM.new c (.cells 3 1 true false [V.I t.s.ef.length]));have K:=d.xE (.cells 3 1 true false [V.I t.s.ef.length]);have n:kG (c.new (.cells 3 1 true false [V.I t.s.ef.length])) 1 (.slice c.next 0 1)=some (1,[V.I t.s.ef.length]):=mJ (k:=0) rfl;obtain⟨L,M,U,b1,b2,b3,W,N,o⟩:=J.zcB (ys:=[t.s.ef.length]) n ⟨[V.I t.s.ef.length],[],rfl,rfl,trivial⟩ rfl rfl (by simp) (by simp;omega);have e:=o.ov.len;simp only[lc]at e;have p:eQ 3 1 8 R.vc (.slice c.next 0 1) (c.new (.cells 3 1 true false [V.I t.s.ef.length]))=some (.val L M):=b1;simp only[p,ej,b3,o.UN,gW,e,pj,v];exact H _ _ ((((q.trans r λ_ h=>h).trans E λ_ h=>h).trans K λ_ h=>h).trans N λ_ h=>h) o rfl rfl
end
open Un
structure Lc where
 lr:Nat
 lu:Nat
 hO:Nat
 iU:Nat
 xQ:Nat
 mA:Nat
 oJ:Nat
 Sg:Nat
def Z4(L:Lc):V:= .func fj [] [.ptr L.lu 0,.ptr L.iU 0]
def SK(L:Lc):V:= .func fc [] [.ptr L.mA 0,.ptr L.lr 0]
def Rk(L:Lc):V:= .func fL [] [.ptr L.lu 0,.ptr L.oJ 0,.ptr L.hO 0]
structure Dq (F G:Nat->Prop) (h:Hp) (L:Lc) (ops:List Int) (t:Dt) (R:Rw):Prop where
 D:Dw F G h L.lu L.hO L.iU t R
 hq:R.cc=R.vc
 gl:G L.mA
 ga:h.get L.mA=some (.cells en 1 true false [.I t.s.pos])
 fr:F L.lr
 gr:∃vo vs n,h.get L.lr=some (.cells Ox 1 true false [vo,vs,n])/\iA (eI .i64) F h ops vo
 fp:F L.xQ
 gp:∃e,h.get L.xQ=some (.cells e 1 true false [Z4 L])
 fn:F L.oJ
 gn:∃e,h.get L.oJ=some (.cells e 1 true false [SK L])
 fs:F L.Sg
 gs:∃e,h.get L.Sg=some (.cells e 1 true false [Rk L])
section
variable{F F' G G':Nat->Prop}{h h':Hp}{L:Lc}{ops:List Int}{t t':Dt}{R R':Rw}{Q:fo}
theorem Dq.Zx(q:Dq F G h L ops t R)(k:∀l,F l->h'.get l=h.get l) (D':Dw F' G' h' L.lu L.hO L.iU t' R')(a:∀l,F l->F' l) (b:R'.cc=R'.vc)(c:G' L.mA)(d:h'.get L.mA=some (.cells en 1 true false [.I t'.s.pos])):Dq F' G' h' L ops t' R' where
 D:=D'
 hq:=b
 gl:=c
 ga:=d
 fr:=a _ q.fr
 gr:=by
  obtain⟨vo,vs,n,e,f⟩:=q.gr;exact⟨vo,vs,n,by rw[k _ q.fr];exact e,(f.eR k).mono a⟩
 fp:=a _ q.fp
 gp:=by rw[k _ q.fp];exact q.gp
 fn:=a _ q.fn
 gn:=by rw[k _ q.fn];exact q.gn
 fs:=a _ q.fs
 gs:=by rw[k _ q.fs];exact q.gs
theorem Dq.step(q:Dq F G h L ops t R)(k:Kp F G h h') (D':Dw F' G' h' L.lu L.hO L.iU t' R')(b:∀l,F l->F' l)(c:G' L.mA) (a:R'.cc=R'.vc)(d:t'.s.pos=t.s.pos):Dq F' G' h' L ops t' R':=
 q.Zx (λl e=>k.eR l (.inl e)) D' b a c (by rw[k.eR _ (.inr q.gl),d];exact q.ga)
theorem Dq.nW(q:Dq F G h L ops t R):ey (.ptr L.xQ 0) h=some (Z4 L):=by obtain⟨e,a⟩:=q.gp;exact kr a rfl
theorem Dq.ud(q:Dq F G h L ops t R):ey (.ptr L.oJ 0) h=some (SK L):=by obtain⟨e,a⟩:=q.gn;exact kr a rfl
theorem Dq.HH(q:Dq F G h L ops t R):ey (.ptr L.Sg 0) h=some (Rk L):=by obtain⟨e,a⟩:=q.gs;exact kr a rfl
theorem Dq.EH(q:Dq F G h L ops t R){i:Nat}(hi:i<t.s.known.length):∃l o,l<h.next/\(F l\/Loc R.vk l)/\gI 1 R.vk (.I i)=some (.ptr l o)/\ey (.ptr l o) h=some (.I (t.s.known.getD i 0:Nat)):=by
 obtain⟨l,o,u,a,b,c,d⟩:=q.D.ok.read.US hi .i64 rfl;refine⟨l,o,a.elim (q.D.fl l) λh=>(q.D.ok.tZ h).2.1,a,b,?_⟩;rw[c];have:[u]=[V.I (t.s.known[i]:Nat)]:=d;rw[EN,ig hi];simpa using this
theorem Dw.VU{lu hO iU:Nat}(D:Dw F G h lu hO iU t R)(a:∀l,G' l->G l\/(l<h.next/\¬F l/\∀i,¬comp lu hO iU R i l)):Dw F G' h lu hO iU t R:=
 {D with gx:=λl b=>(a l b).elim (D.gx l) id}
def gm(G:Nat->Prop)(a:Nat):Nat->Prop:=λl=>G l/\l≠a
theorem Kp.gm(k:Kp F G h h')(a:Nat):Kp F (Hx.gm G a) h h':=⟨k.next,λl b=>k.eR l (b.imp id λh=>h.1)⟩
def setPos(t:Dt)(p:Nat):Dt:={t with s:={t.s with pos:=p} }
theorem wq{m:Nat}(q:Dq F G h L ops t R)(j:0<m)(k:m<=100000000)(I:ops.length<9223372036854775808)
  (H:∀h',Kp F (gm G L.mA) h h'->Dq F G h' L ops (setPos t (draw ops t.s.pos m).2) R->Q (.I ((draw ops t.s.pos m).1:Nat)) h') :
  cP CS fc [.I m,.ptr L.mA 0,.ptr L.lr 0] h Q:=by
 refine Ci rfl rfl ?_;unfold tR;obtain⟨vo,vs,n,gr,g⟩:=q.gr;have p:ey (.ptr L.mA 0) h=some (.I t.s.pos):=kr q.ga rfl;have l1:ey (.ptr L.lr 0) h=some vo:=kr gr rfl;simp only[p,gW,fJ,wX,l1,g.len,po,KX,CH];have a:=q.D.gx _ q.gl;split
 ·rename_i r;have e:draw ops t.s.pos m=(0,t.s.pos):=by
   unfold draw;rw[Xa (by omega)]
  rw[e]at H;exact H h (Kp.refl _ _ _) q
 ·rename_i c;have c:t.s.pos<ops.length:=by omega
  have e:draw ops t.s.pos m=(lj ops[t.s.pos] m,t.s.pos+1):=by
   unfold draw;rw[ig c]
  rw[e]at H;have w:ll .i64 ((t.s.pos:Int)+1)=((t.s.pos+1:Nat):Int):=by rw[yF (by simp only[CO];omega)];omega
  have x:=mU (o:=0) (v:= .I ((t.s.pos+1:Nat):Int)) (og:=[.I ((t.s.pos+1:Nat):Int)]) q.ga (by simp) rfl rfl;have hc:kM (λl=>l=L.mA) h (h.put L.mA (.cells en 1 true false [.I ((t.s.pos+1:Nat):Int)])):=kM.put _ rfl a.1;have d:∀l,F l->(h.put L.mA (.cells en 1 true false [.I ((t.s.pos+1:Nat):Int)])).get l=h.get l:=λl b=>fZ _ a.1 λe=>a.2.1 (e▸b);have l2:ey (.ptr L.lr 0) (h.put L.mA (.cells en 1 true false [.I ((t.s.pos+1:Nat):Int)]))=some vo:=kr (by rw[d _ q.fr];exact gr) rfl;have l3:ey (.ptr L.mA 0) (h.put L.mA (.cells en 1 true false [.I ((t.s.pos+1:Nat):Int)]))=some (.I ((t.s.pos+1:Nat):Int)):=kr (fS _ a.1) rfl;have y:ll .i64 (((t.s.pos+1:Nat):Int)-1)=(t.s.pos:Nat):=by rw[yF (by simp only[CO];omega)];omega
  obtain⟨l,o,u,_,z,A,B⟩:=(g.eR d).US c .i64 rfl;obtain⟨rfl⟩:u = .I ops[t.s.pos]:=by simpa using B.1
  simp only[DL,w,gW,x,ej,l2,l3,pj,y,z,A];refine Oa j (by omega) (H _ ⟨hc.next,λl b=>b.elim (d l) λb=>fZ _ a.1 λe=>b.2 e.symm⟩ ?_);have C:Dw F (gm G L.mA) h L.lu L.hO L.iU t R:={q.D with gx:=λl b=>q.D.gx l b.1}
  have D':=(C.other hc λl b=>by subst b;exact⟨a.2.1,λE=>E.2 rfl,a.2.2⟩).1;refine q.Zx d ?_ (λ_ h=>h) q.hq q.gl (fS _ a.1);have f:∀l,G l->_:=λl b=>if e:l=L.mA then e▸(⟨a.1,a.2.1,a.2.2⟩:_/\_/\∀i,¬comp L.lu L.hO L.iU R i L.mA) else D'.gx l ⟨b,e⟩
  exact{D' with gx:=f}
def gp(G:Nat->Prop)(v:V)(p:Nat):Nat->Prop:=λl=>G l\/l=p\/Loc v l
theorem Az(l:List Nat)(h:0<l.length):l.getD (l.length-1) 0=l.getLastD 0:=by
 rw[List.getLastD_eq_getLast?,List.getLast?_eq_getElem?,EN]
theorem K1(q:Dq F G h L ops t R)(hk:0<t.s.known.length)(aN:t.s.known.length<1000)(hs:t.s.eh.length<1000)(ho:ops.length<9223372036854775808)
  (H:∀F' h' R',(∀l,F l->F' l)->Kp F (gm G L.mA) h h'->Dq F' G h' L ops {t with s:=(ft ops t.s).2} R'->R'.vk=R.vk->Q (.I ((ft ops t.s).1:Nat)) h') :
  cP CS fL [.ptr L.lu 0,.ptr L.oJ 0,.ptr L.hO 0] h Q:=by
 refine BN rfl rfl ?_;unfold tX;have aM:=(q.D.gx _ q.gl).1;have am:∀l,G l->l<h.next:=λl f=>(q.D.gx l f).1;have an:∀i l,comp L.lu L.hO L.iU R i l->l<h.next:=λi l f=>(q.D.sig f).2.1;have eb:fR [(V.I 0),(V.I 0),V.ee,V.ee] [(0,1),(1,1),(2,1),(3,1)] [(0,(V.I 1)),(1,.I t.s.eh.length)]=some (.agg [.I 1,.I t.s.eh.length,.ee,.ee]):=rfl;have U:(h.new (.cells 47 1 true false [(V.I 0),(V.I 0),V.ee,V.ee])).get h.next=some (.cells 47 1 true false [(V.I 0),(V.I 0),V.ee,V.ee]):=fg _ _;have e1:=Ep (n:=4) (ws:=[.I 1,.I t.s.eh.length,.ee,.ee]) U rfl rfl rfl;simp only[fJ,gW,wX,q.D.ldS,q.D.os.len,eb,fw,e1,ej];have K:h.next<(h.new (.cells 47 1 true false [(V.I 0),(V.I 0),V.ee,V.ee])).next:=MC _
 have c2:kM (λl=>l=h.next) h ((h.new (.cells 47 1 true false [(V.I 0),(V.I 0),V.ee,V.ee])).put h.next (.cells 47 1 true false [.I 1,.I t.s.eh.length,.ee,.ee])):=
  (kM.new _ _).trans (kM.put _ rfl K)
 have g2:=fS (h:=h.new (.cells 47 1 true false [(V.I 0),(V.I 0),V.ee,V.ee])) (.cells 47 1 true false [.I 1,.I t.s.eh.length,.ee,.ee]) K;have n2:((h.new (.cells 47 1 true false [(V.I 0),(V.I 0),V.ee,V.ee])).put h.next (.cells 47 1 true false [.I 1,.I t.s.eh.length,.ee,.ee])).next=h.next+1:=rfl;generalize ((h.new (.cells 47 1 true false [(V.I 0),(V.I 0),V.ee,V.ee])).put h.next (.cells 47 1 true false [.I 1,.I t.s.eh.length,.ee,.ee]))=h2 at*;clear U e1 K;have fresh:∀l,h.next<=l->¬F l/\¬G l/\∀i,¬comp L.lu L.hO L.iU R i l:=λl f=>⟨λhf=>by have:=q.D.fl l hf;omega,λhg=>by have:=am l hg;omega,λi hi=>by have:=an i l hi;omega⟩
 obtain ⟨W,k2⟩:=q.D.other c2 (λl f=>by subst f;exact fresh _ (iZ _));have X:Dw F (gp G .ee h.next) h2 L.lu L.hO L.iU t R:=W.VU λl f=>f.elim .inl λf=> .inr (by
  rcases f with rfl|f
  ·exact⟨by omega,(fresh _ (iZ _)).1,(fresh _ (iZ _)).2.2⟩
  ·exact f.elim)
 have q2:Dq F (gp G .ee h.next) h2 L ops t R:=q.step k2 X (λ_ h=>h) (.inl q.gl) q.hq rfl;rw[q2.ud];simp only[gW,SK,KY,Mu,Qk,GD];refine wq (m:=4) q2 (by decide) (by decide) ho λy k3 q3=>?_;have g3:y.get h.next=some (.cells 47 1 true false [.I 1,.I t.s.eh.length,.ee,.ee]):=by
  rw[k3.eR _ (.inr ⟨.inr (.inl rfl),by omega⟩)];exact g2
 have hr:(draw ops t.s.pos 4).1<4:=wo _ _ (by decide)
 refine zd (λk x0 x1 x2 x4 x5 h'=>∃(s:Ds) (l:List Nat) (vl:V),x0 = .ptr L.lu 0/\x1 = .ptr L.oJ 0/\x2 = .ptr L.hO 0/\x4 = .ptr h.next 0/\x5 = .I (k:Nat)/\Dq F (gp G vl h.next) h' L ops {t with s:=s} R/\Kp F (gm G L.mA) h h'/\
  h'.get h.next=some (.cells 47 1 true false [.I 1,.I t.s.eh.length,vl,.ee])/\jZ eN en F h' l vl/\(∀z,Loc vl z->h.next<z)/\some_ ops k s l=some_ ops (draw ops t.s.pos 4).1 (num ops t.s 4).2 []/\s.known=t.s.known/\s.eh=t.s.eh/\l.length+k<=4) ?_
  ⟨(num ops t.s 4).2,[],.ee,rfl,rfl,rfl,rfl,rfl,q3,(k2.gm L.mA).trans ⟨k3.next,λl f=>k3.eR l (f.imp id λf=>⟨.inl f.1,f.2⟩)⟩ (λ_ h=>h),g3,.nil,λ_ h=>h.elim,rfl,rfl,rfl,by simp;omega⟩
 clear q3 k3 g3 q2 X W k2 g2 c2 eb;rintro k x0 x1 x2 x4 x5 h' ⟨s,l,vl,rfl,rfl,rfl,rfl,rfl,j,k',gF,ol,P,p,r,A,hlen⟩;unfold qS;have ao:ey (.ptr h.next 2) h' = some vl:=kr gF rfl;have kl:({t with s:=s}:Dt).s.known.length=t.s.known.length:=by show s.known.length=_;rw[r]
 have Y:h.next<h'.next:=(j.D.gx h.next (.inr (.inl rfl))).1;have Z:∀{g:Hp} {s1:Ds},Dq F (gp G vl h.next) g L ops {t with s:=s1} R->Dw F G g L.lu L.hO L.iU {t with s:=s1} R:=λq=>{q.D with gx:=λl f=>q.D.gx l (.inl f)}
 simp only[pg,gW,KX,CH]
 cases k with
 | succ k=>
   rw[if_pos (by omega)];have lk:=j.D.ok.len;rw[kl]at lk;rw[j.ud];simp only[fJ,gW,wX,ao,j.D.yL,lk,SK,KY,Mu,Qk,GD];refine wq (m:=t.s.known.length) j hk (by omega) ho λg u I=>?_;have ap:g.get h.next=some (.cells 47 1 true false [.I 1,.I (t.s.eh.length:Nat),vl,.ee]):=by
     rw[u.eR _ (.inr ⟨.inr (.inl rfl),by omega⟩)];exact gF
   have aa:jZ eN en F g l vl:=ol.eR (λz b=>u.eR z (.inl b)) (λz b=>u.eR z (.inr ⟨.inr (.inr b),by have:=P z b;omega⟩)) u.next;have aq:(draw ops s.pos t.s.known.length).1<t.s.known.length:=wo _ _ hk;obtain⟨l1,o1,ab,ac,i1,i2⟩:=I.EH (i:=(draw ops s.pos t.s.known.length).1) (by show _<s.known.length;rw[r];exact aq);have B:ey (.ptr l1 o1) g=some (.I (s.known.getD (draw ops s.pos t.s.known.length).1 0:Nat)):=i2;refine⟨u.next,?_⟩;have e3:∀a:Nat,ji 3 1 1 (V.I 0) [(0,V.I (a:Nat))]=some (.cells 3 1 true false [V.I (a:Nat)],λl=> .slice l 0 1):=λ_=>rfl;have ar:gI 1 R.vk (.I ((draw ops ({t with s:=s}:Dt).s.pos t.s.known.length).1:Nat))=some (.ptr l1 o1):=i1;simp only[ar,B,gW,e3,ic];generalize hv:s.known.getD (draw ops s.pos t.s.known.length).1 0=a at*;have W:=(Z I).grow (kM.new g (.cells 3 1 true false [V.I (a:Nat)]));have ae:(g.new (.cells 3 1 true false [V.I (a:Nat)])).get h.next=_:=(fm _ (by have:=u.next;omega)).trans ap;refine⟨⟨fg _ _,O.jL _ _ _ _ _⟩,j5 B (fm _ ab),W.yL,kr ae rfl,?_⟩;have au:jZ eN en F (g.new (.cells 3 1 true false [V.I (a:Nat)])) l vl:=aa.eR (λz b=>fm _ (I.D.fl z b)) (λz b=>fm _ (aa.tZ b).2.1) (Qe _);have hx:kG (g.new (.cells 3 1 true false [V.I (a:Nat)])) 1 (.slice g.next 0 1)=some (1,[V.I (a:Nat)]):=mJ (k:=0) rfl;obtain⟨d,y,a1,ag,c3,aw⟩:=au.append (kE:=8) (ys:=[a]) hx ⟨[V.I (a:Nat)],[],rfl,rfl,trivial⟩ rfl rfl (by simp) (by decide) (λz b=>wBq (I.D.fl z b)) (by simp;omega) (by simp;omega);have n2:(g.new (.cells 3 1 true false [V.I (a:Nat)])).next=g.next+1:=rfl;have w:h.next<y.next:=by have:=c3.next;have:=u.next;omega
   have ax:y.get h.next=some (.cells 47 1 true false [.I 1,.I (t.s.eh.length:Nat),vl,.ee]):=by
     rw[c3.eR _ (by have:=u.next;omega) λb=>Ym _ (P _ b)];exact ae
   have a2:=mU (o:=2) (v:=d) (og:=[.I 1,.I (t.s.eh.length:Nat),d,.ee]) ax (by simp) ag.one rfl;have ay:eQ 3 1 8 vl (.slice g.next 0 1) (g.new (.cells 3 1 true false [V.I (a:Nat)]))=some (.val d y):=a1;have w1:ll .i64 (((k+1:Nat):Int)-1)=(k:Nat):=MM (by omega);simp only[ay,ej,a2,pj,w1,gW];refine⟨c3.next,iZ _,k,by omega,?_⟩
   have cc:kM (λz=>Loc vl z\/z=h.next) (g.new (.cells 3 1 true false [V.I (a:Nat)])) (y.put h.next (.cells 47 1 true false [.I 1,.I (t.s.eh.length:Nat),d,.ee])):=
     (c3.Wv λ_ _ h=> .inl h).trans (kM.put _ (.inr rfl) w)
   obtain⟨D4,k4⟩:=W.other cc λz b=>fresh z (by rcases b with b|rfl;exact Nat.le_of_lt (P z b);exact iZ _);have M:∀z,Loc d z->h.next<z:=λz b=>(aw z b).elim (P z) λe=>by have:=u.next;omega
   have ah:jZ eN en F (y.put h.next (.cells 47 1 true false [.I 1,.I (t.s.eh.length:Nat),d,.ee])) (l++[a]) d:=
     ag.eR (λz b=>fZ _ w λe=>(fresh h.next (iZ _)).1 (e▸b)) (λz b=>fZ _ w (by have:=M z b;omega)) (iZ _)
   have aA:Dw F (gp G d h.next) (y.put h.next (.cells 47 1 true false [.I 1,.I (t.s.eh.length:Nat),d,.ee])) L.lu L.hO L.iU _ R:=D4.VU λz b=>b.elim .inl λb=> .inr (by
     rcases b with rfl|b
     ·exact⟨w,(fresh _ (iZ _)).1,(fresh _ (iZ _)).2.2⟩
     ·have C:=fresh z (Nat.le_of_lt (M z b));exact⟨(ah.tZ b).2.1,C.1,C.2.2⟩)
   have kk:Kp F G g (y.put h.next (.cells 47 1 true false [.I 1,.I (t.s.eh.length:Nat),d,.ee])):=
     (Kp.new F G g _ I.D.fl λz b=>(I.D.gx z (.inl b)).1).trans k4 λ_ h=>h
   have qG:Dq F G g L ops _ R:={I with D:=Z I,gl:=q.gl}
   refine⟨{s with pos:=(draw ops s.pos t.s.known.length).2},l++[a],d,by trivial,by trivial,by trivial,by trivial,by trivial,qG.step kk aA (λ_ h=>h) (.inl q.gl) j.hq rfl,?_,fS _ w,ah,M,?_,r,A,by simp;omega⟩
   ·exact(k'.trans ⟨u.next,λz b=>u.eR z (b.imp id λb=>⟨.inl b.1,b.2⟩)⟩ λ_ h=>h).trans (kk.gm _) λ_ h=>h
   ·rw[<-p,<-hv]
    show _=some_ ops k (fx ops s).2 (l++[(fx ops s).1]);unfold fx
    rw[r]
 | zero=>
   rw[if_neg (by omega)];obtain⟨e1,e2⟩:l=(some_ ops (draw ops t.s.pos 4).1 (num ops t.s 4).2 []).1/\s=(some_ ops (draw ops t.s.pos 4).1 (num ops t.s 4).2 []).2:=by rw[<-p];exact⟨rfl,rfl⟩
   have lk:=j.D.ok.len;rw[kl]at lk;have w1:ll .i64 (((t.s.known.length:Nat):Int)-1)=((t.s.known.length-1:Nat):Int):=by
     rw[show((t.s.known.length:Nat):Int)=((t.s.known.length-1+1:Nat):Int) by omega];exact MM (by omega)
   obtain ⟨l1,o1,ab,ac,i1,i2⟩:=j.EH (i:=t.s.known.length-1) (by rw[kl];omega);have B:ey (.ptr l1 o1) h' = some (.I (t.s.known.getLastD 0:Nat)):=by
     rw[i2,show({t with s:=s}:Dt).s.known=t.s.known from r,Az _ hk]
   have e3:∀a:Nat,ji 3 1 1 (V.I 0) [(0,V.I (a:Nat))]=some (.cells 3 1 true false [V.I (a:Nat)],λl=> .slice l 0 1):=λ_=>rfl;simp only[j.D.yL,gW,lk,pj,w1,i1,B,e3,fw,fJ,wX];have D5:=(Z j).grow (kM.new h' (.cells 3 1 true false [V.I (t.s.known.getLastD 0:Nat)]));have k5:Kp F G h' (h'.new (.cells 3 1 true false [V.I (t.s.known.getLastD 0:Nat)])):=(Z j).xE _;have g5:(h'.new (.cells 3 1 true false [V.I (t.s.known.getLastD 0:Nat)])).get h'.next=_:=fg _ _;have aB:(h'.new (.cells 3 1 true false [V.I (t.s.known.getLastD 0:Nat)])).get h.next=_:=(fm _ Y).trans gF;have aC:jZ eN en F (h'.new (.cells 3 1 true false [V.I (t.s.known.getLastD 0:Nat)])) l vl:=ol.eR (λz b=>fm _ (j.D.fl z b)) (λz b=>fm _ (ol.tZ b).2.1) (Qe _);have n5:(h'.new (.cells 3 1 true false [V.I (t.s.known.getLastD 0:Nat)])).next=h'.next+1:=rfl;generalize h'.new (.cells 3 1 true false [V.I (t.s.known.getLastD 0:Nat)])=C at*;have a1:=mU (o:=3) (v:= .slice h'.next 0 1) (og:=[.I 1,.I (t.s.eh.length:Nat),vl,.slice h'.next 0 1]) aB (by simp) rfl rfl;have E:h.next<C.next:=by omega
   obtain⟨D6,k6⟩:=D5.other (kM.put (S:=λz=>z=h.next) (.cells 47 1 true false [.I 1,.I (t.s.eh.length:Nat),vl,.slice h'.next 0 1]) rfl E) λz b=>by subst b;exact fresh _ (iZ _)
   have aD:=fS (.cells 47 1 true false [.I 1,.I (t.s.eh.length:Nat),vl,.slice h'.next 0 1]) E;have g6:(C.put h.next (.cells 47 1 true false [.I 1,.I (t.s.eh.length:Nat),vl,.slice h'.next 0 1])).get h'.next=_:=(fZ _ E (by omega)).trans g5;have ai:jZ eN en F (C.put h.next (.cells 47 1 true false [.I 1,.I (t.s.eh.length:Nat),vl,.slice h'.next 0 1])) l vl:=aC.eR (λz b=>k6.eR z (.inl b)) (λz b=>fZ _ E (by have:=P z b;omega)) (iZ _);have n6:(C.put h.next (.cells 47 1 true false [.I 1,.I (t.s.eh.length:Nat),vl,.slice h'.next 0 1])).next=C.next:=rfl;simp only[a1,ej];generalize C.put h.next (.cells 47 1 true false [.I 1,.I (t.s.eh.length:Nat),vl,.slice h'.next 0 1])=c at*;have lA:gy 4 (.ptr h.next 0) c=some (.agg [.I 1,.I (t.s.eh.length:Nat),vl,.slice h'.next 0 1]):=Bv aD rfl;have ow:fW [.I 1,.I (t.s.eh.length:Nat),vl,.slice h'.next 0 1]=true:=by simp only[ev,ol.one];rfl
   have e7:ji 47 4 1 (V.agg [(V.I 0),(V.I 0),V.ee,V.ee]) [(0,.agg [.I 1,.I (t.s.eh.length:Nat),vl,.slice h'.next 0 1])]=some (.cells 47 4 true false [.I 1,.I (t.s.eh.length:Nat),vl,.slice h'.next 0 1],λl=> .slice l 0 1):=se rfl rfl ow;have e8:∀m:Nat,fR [V.ee] [(0,1)] [(0,.slice m 0 1)]=some (.agg [.slice m 0 1]):=λ_=>rfl;have e9:∀m:Nat,ji 50 1 1 (V.agg [V.ee]) [(0,.agg [.slice m 0 1])]=some (.cells 50 1 true false [.slice m 0 1],λl=> .slice l 0 1):=λm=>se rfl rfl rfl;simp only[D6.ldS,gW,lA,e7,fw,e8,e9];have D7:=D6.grow (kM.new c (.cells 47 4 true false [.I 1,.I (t.s.eh.length:Nat),vl,.slice h'.next 0 1]));have k7:=D6.xE (.cells 47 4 true false [.I 1,.I (t.s.eh.length:Nat),vl,.slice h'.next 0 1]);have g7:(c.new (.cells 47 4 true false [.I 1,.I (t.s.eh.length:Nat),vl,.slice h'.next 0 1])).get c.next=_:=fg _ _;have aE:(c.new (.cells 47 4 true false [.I 1,.I (t.s.eh.length:Nat),vl,.slice h'.next 0 1])).get h'.next=_:=(fm _ (by omega)).trans g6;have aj:jZ eN en F (c.new (.cells 47 4 true false [.I 1,.I (t.s.eh.length:Nat),vl,.slice h'.next 0 1])) l vl:=ai.eR (λz b=>fm _ (D6.fl z b)) (λz b=>fm _ (ai.tZ b).2.1) (Qe _);have n7:(c.new (.cells 47 4 true false [.I 1,.I (t.s.eh.length:Nat),vl,.slice h'.next 0 1])).next=c.next+1:=rfl;generalize c.new (.cells 47 4 true false [.I 1,.I (t.s.eh.length:Nat),vl,.slice h'.next 0 1])=x at*;have D8:=D7.grow (kM.new x (.cells 50 1 true false [.slice c.next 0 1]));have k8:=D7.xE (.cells 50 1 true false [.slice c.next 0 1]);have g8:(x.new (.cells 50 1 true false [.slice c.next 0 1])).get c.next=_:=(fm _ (by omega)).trans g7;have aF:(x.new (.cells 50 1 true false [.slice c.next 0 1])).get h'.next=_:=(fm _ (by omega)).trans aE;have ak:jZ eN en F (x.new (.cells 50 1 true false [.slice c.next 0 1])) l vl:=aj.eR (λz b=>fm _ (D7.fl z b)) (λz b=>fm _ (aj.tZ b).2.1) (Qe _);have aG:kG (x.new (.cells 50 1 true false [.slice c.next 0 1])) 1 (.slice x.next 0 1)=some (1,[.slice c.next 0 1]):=mJ (k:=0) rfl;have n8:(x.new (.cells 50 1 true false [.slice c.next 0 1])).next=x.next+1:=rfl;generalize x.new (.cells 50 1 true false [.slice c.next 0 1])=T at*;have D9:Dw (λz=>F z\/Loc vl z\/z=h'.next\/z=c.next) G T L.lu L.hO L.iU {t with s:=s} R:=D8.more (λ_ h=> .inl h) λz b=>b.elim .inl λb=> .inr (by
     have aH:h.next<z/\z<T.next:=by
       rcases b with b|rfl|rfl
       ·exact⟨P z b,(ak.tZ b).2.1⟩
       ·omega
       ·omega
     have h9:=fresh z (by omega);exact⟨aH.2,h9.2.2,h9.2.1⟩)
   have sl:iA eN (λz=>F z\/Loc vl z\/z=h'.next\/z=c.next) T l vl:=ak.Xp (λ_ h=> .inl h) λ_ h=> .inr (.inl h)
   have ss:iA eN (λz=>F z\/Loc vl z\/z=h'.next\/z=c.next) T [t.s.known.getLastD 0] (.slice h'.next 0 1):=
     .inr ⟨h'.next,0,3,true,false,[V.I (t.s.known.getLastD 0:Nat)],rfl,.inr (.inr (.inl rfl)),aF,.inr rfl,LK _,⟨_,[],rfl,rfl,trivial⟩⟩
   have sf:iA eF (λz=>F z\/Loc vl z\/z=h'.next\/z=c.next) T [⟨1,(t.s.eh.length:Nat),l,[t.s.known.getLastD 0]⟩] (.slice c.next 0 1):=
     .inr ⟨c.next,0,47,true,false,[.I 1,.I (t.s.eh.length:Nat),vl,.slice h'.next 0 1],rfl,.inr (.inr (.inr rfl)),g8,.inr rfl,LK _,⟨_,[],rfl,⟨vl,_,rfl,sl,ss⟩,trivial⟩⟩
   obtain⟨v',h9,al,b1,b2,b3,b4,k9,N⟩:=D9.zck (ys:=[[⟨1,(t.s.eh.length:Nat),l,[t.s.known.getLastD 0]⟩]]) aG ⟨[.slice c.next 0 1],[],rfl,⟨_,rfl,sf⟩,trivial⟩ rfl rfl (by simp) (by show s.eh.length+_<_;rw[A];simp;omega);have aI:eQ 50 1 24 R.vs (.slice x.next 0 1) T=some (.val v' h9):=b1;have lS:=N.os.len;have aJ:((s.eh++[[(⟨1,(t.s.eh.length:Nat),l,[t.s.known.getLastD 0]⟩:Fm)]]).length:Nat)=t.s.eh.length+1:=by rw[A];simp
   have aK:fy v' = some (.I ((t.s.eh.length+1:Nat):Int)):=by rw[<-aJ];exact lS
   have w2:ll .i64 (((t.s.eh.length+1:Nat):Int)-1)=(t.s.eh.length:Nat):=MM (by omega);simp only[aI,ej,b3,N.ldS,gW,aK,pj,w2];have J:Kp F G h' al:=(((k5.trans k6 λ_ h=>h).trans k7 λ_ h=>h).trans k8 λ_ h=>h).trans ⟨k9.next,λz b=>k9.eR z (b.imp (λh=> .inl h) id)⟩ λ_ h=>h;have qG:Dq F G h' L ops _ R:={j with D:=Z j,gl:=q.gl}
   have hE:({t with s:=(ft ops t.s).2}:Dt) = {t with s:={s with eh:=s.eh++[[⟨1,(t.s.eh.length:Nat),l,[t.s.known.getLastD 0]⟩]]} }:=by
     unfold ft;rw[e1,A,e2];rfl
   have aL:=qG.step J N (λ_ h=> .inl h) q.gl j.hq rfl;refine H (λz=>F z\/Loc vl z\/z=h'.next\/z=c.next) al {R with vs:=v'} (λ_ h=> .inl h) (k'.trans (J.gm _) λ_ h=>h) ?_ rfl;rw[hE];exact aL
end
open Un
theorem YZ{t:Nat}{k:IntKind}{a b:Int}{A B:Prop}(h:if a<b then A else B):oP (eo .lss t (.int k a) (.int k b)) λv=>bP v A B:=by
 simp_all
theorem fP{t:Nat}{k:IntKind}{a b:Int}{A B:Prop}(h:if a=b then A else B):oP (eo .eql t (.int k a) (.int k b)) λv=>bP v A B:=by
 simp_all
theorem E7{t:Nat}{k:IntKind}{a b:Int}{A B:Prop}(h:if b<a then A else B):oP (eo .gtr t (.int k a) (.int k b)) λv=>bP v A B:=by
 simp_all
theorem kh{t n m:Nat}{K:V->Prop}(a:n<1000000000)(b:m<1000000000)(H:K (.I ((n+m:Nat):Int))):oP (eo .add t (.I n) (.I m)) K:=by
 grind[DL,zcC,gW]
theorem xY{t n:Nat}{K:V->Prop}(a:n<1000000000)(h0:0<n)(H:K (.I ((n-1:Nat):Int))):oP (eo .sub t (.I n) (.I 1)) K:=by
 obtain⟨m,rfl⟩:∃m,n=m+1:=by simp_all
 grind[pj,MM,gW]
theorem gw{c A B:Prop}[Decidable c] (hc:c)(h:A):if c then A else B:=by simp_all
theorem fT{c A B:Prop}[Decidable c] (hc:¬c)(h:B):if c then A else B:=by simp_all
theorem fM{t n:Nat}{K:V->Prop}(H:K (.I ((n+1:Nat):Int)))(h:n<1000000000:=by omega):oP (eo .add t (.I n) (.I 1)) K:=kh (m:=1) h (by decide) H
theorem gv{t:Nat}{k:IntKind}{a b:Int}{A B:Prop}(H:A)(h:a<b:=by omega):oP (eo .lss t (.int k a) (.int k b)) λv=>bP v A B:=YZ (gw h H)
theorem ir{t:Nat}{k:IntKind}{a b:Int}{A B:Prop}(H:B)(h:¬a<b:=by omega):oP (eo .lss t (.int k a) (.int k b)) λv=>bP v A B:=YZ (fT h H)
section
variable{F F' G G':Nat->Prop}{h h':Hp}{L:Lc}{ops:List Int}{t t':Dt}{R R':Rw}{Q:fo}
theorem yI{α:Type}{l:List α}{x:α}{n:Nat}(h:l.length<=n):(l++[x]).length<=n+1:=by simp_all
structure Sm (s:Ds) (n:Nat):Prop where
 v:s.ef.length<=n
 c:s.cur.length<=n
 k:s.known.length<=n
 st:s.eh.length<=n
 k0:0<s.known.length
theorem Sm.le{s:Ds}{n m:Nat}(a:Sm s n)(h:n<=m):Sm s m:=⟨Fe a.v h,Fe a.c h,Fe a.k h,Fe a.st h,a.k0⟩
theorem Sm.put{s:Ds}{n:Nat}(a:Sm s n)(x:Vl):Sm (put s x) (n+1):=
 ⟨yI a.v,yI a.c,W8 a.k,W8 a.st,a.k0⟩
theorem Sm.iz{s:Ds}{n:Nat}(a:Sm s n)(x:Vl):Sm (iz s x) (n+1):=
 ⟨yI a.v,yI a.c,
  yI a.k,W8 a.st,by show 0<(s.known++[s.ef.length]).length;simp_all⟩
theorem Sm.pos{s:Ds}{n:Nat}(a:Sm s n)(p:Nat):Sm {s with pos:=p} n:=⟨a.v,a.c,a.k,a.st,a.k0⟩
theorem Sm.state{s:Ds}{n:Nat}(a:Sm s n)(ops:List Int):Sm (ft ops s).2 (n+1):=by
 have b:∃p,(some_ ops (num ops s 4).1 (num ops s 4).2 []).2 = {s with pos:=p}:=by
  obtain⟨p,h⟩:=DS ops (num ops s 4).1 (num ops s 4).2 [];exact⟨p,h⟩
 obtain⟨p,b⟩:=b;unfold ft;simp only[b];exact⟨W8 a.v,W8 a.c,W8 a.k,yI a.st,a.k0⟩
theorem XR(q:Dq F G h L ops t R){n a:Nat}(m:Sm t.s n)(p:n<1000){K:Hp->Prop}
  (H:∀h' R',Kp F G h h'->Dq F G h' L ops {t with s:={t.s with known:=t.s.known++[a]} } R'->K h') :
  xR (ji 3 1 1 (V.I 0) [(0,.I a)]) h λo c b=>((b.get h.next=some o/\O.beq o o=true)/\(ey (.ptr L.hO 0) b=some R.vk/\fi (eQ 3 1 8 R.vk c b) λd e=>(b.next<=e.next/\fi (gG 1 (.ptr L.hO 0) d e) λ_ g=>(e.next<=g.next/\K g)))):=by
 have r:ji 3 1 1 (V.I 0) [(0,V.I a)]=some (.cells 3 1 true false [V.I a],λl=> .slice l 0 1):=rfl;rw[r,ic];have i:=q.D.grow (kM.new h (.cells 3 1 true false [V.I a]));have u:kG (h.new (.cells 3 1 true false [V.I a])) 1 (.slice h.next 0 1)=some (1,[V.I a]):=mJ (k:=0) rfl;obtain⟨v,w,A,a1,a2,a3,x,y,z⟩:=i.zaG (ys:=[a]) u ⟨[V.I a],[],rfl,rfl,trivial⟩ rfl rfl (by simp) (by have:=m.k;simp;omega);have f:eQ 3 1 8 R.vk (.slice h.next 0 1) (h.new (.cells 3 1 true false [V.I a]))=some (.val v w):=a1;refine⟨by grind[fg,O.jL],i.yL,?_⟩;simp only[f,ej,a3];have j:=(q.D.xE (.cells 3 1 true false [V.I a])).trans y λ_ h=>h;exact⟨a2,x,H _ _ j (q.step j z (by simp_all) q.gl q.hq rfl)⟩
theorem EJ{x:Vl}{w:List V}(q:Dq F G h L ops t R){n:Nat}(b:Sm t.s n)(p:n<999)(r:eV.rel F h x w){K:Hp->Prop}
  (H:∀h' R',Kp F G h h'->Dq F G h' L ops {t with s:=iz t.s x} R'->K h') :
  cP CS fj [.agg w,.ptr L.lu 0,.ptr L.iU 0] h λd e=>(h.next<=e.next/\xR (ji 3 1 1 (V.I 0) [(0,d)]) e λo f a=>((a.get e.next=some o/\O.beq o o=true)/\(ey (.ptr L.hO 0) a=some R.vk/\fi (eQ 3 1 8 R.vk f a) λg i=>(a.next<=i.next/\fi (gG 1 (.ptr L.hO 0) g i) λ_ m=>(i.next<=m.next/\K m))))):=by
 have E:=b.v;have hc:=b.c;refine QI q.D q.hq r (by omega) (by omega) λu R1 j y k l=>⟨j.next,?_⟩
 have z:Dq F G u L ops {t with s:=put t.s x} R1:=q.step j y (by simp_all) q.gl k rfl;rw[<-l];exact XR z (b.put x) (by omega) λA R2 B C=>H A R2 (j.trans B λ_ h=>h) C
theorem Hm{x:Vl}{w:List V}(q:Dq F G h L ops t R){n:Nat}(d:Sm t.s n)(f:n<999)(g:eV.rel F h x w){K:fo}
  (H:∀h' R',Kp F G h h'->R'.vk=R.vk->Dq F G h' L ops {t with s:=put t.s x} R'->K (.I t.s.ef.length) h'):cP CS fj [.agg w,.ptr L.lu 0,.ptr L.iU 0] h K:=by
 have k:=d.v;have hc:=d.c;exact QI q.D q.hq g (by omega) (by omega) λi R1 e j a b=>H i R1 e b (q.step e j (by simp_all) q.gl a rfl)
theorem K2(q:Dq F G h L ops t R)(c:ops.length<9223372036854775808){n:Nat}(a:Sm t.s n)(d:n<1000){K:fo}
  (H:∀h' l o,Kp F (gm G L.mA) h h'->Dq F G h' L ops {t with s:=(fx ops t.s).2} R->l<h'.next->gI 1 R.vk (.I ((draw ops t.s.pos t.s.known.length).1:Nat))=some (.ptr l o)->ey (.ptr l o) h' = some (.I ((fx ops t.s).1:Nat))->K (.I ((draw ops t.s.pos t.s.known.length).1:Nat)) h') :
  cP CS fc [.I t.s.known.length,.ptr L.mA 0,.ptr L.lr 0] h K:=by
 refine wq q a.k0 (by have:=a.k;omega) c λe f b=>?_;obtain⟨l,o,g,_,j,m⟩:=b.EH (i:=(draw ops t.s.pos t.s.known.length).1) (wo _ _ a.k0);exact H e l o f b g j m
theorem zax{b:Bk}{nv:V}(q:Dq F G h L ops t R){n:Nat}(hn:t.blocks.length<1000)(K:b.ef=[])(M:b.ez=[])(a:iA eN F h b.next nv)
  (H:∀F' h' R',(∀l,F l->F' l)->Kp F G h h'->Dq F' G h' L ops {s:={t.s with cur:=[]},blocks:=t.blocks++[⟨t.s.cur,b.fin,b.cond,b.next,t.ez,b.state⟩],ez:=[]} R'->Q (.I t.blocks.length) h') :
  cP CS jJ [.agg (lB b .ee nv .ee),.ptr L.iU 0,.ptr L.lu 0] h Q:=by
 refine Cg rfl rfl ?_;unfold uB;have N:fW (lB b .ee nv .ee)=true:=by simp only[lB,ev,a.one];rfl
 have O:∀l,G l->l<h.next:=λl e=>(q.D.gx l e).1;have P:∀i l,comp L.lu L.hO L.iU R i l->l<h.next:=λi l e=>(q.D.sig e).2.1;have fresh:∀l,h.next<=l->¬F l/\¬G l/\∀i,¬comp L.lu L.hO L.iU R i l:=λl e=>⟨λT=>by have:=q.D.fl l T;omega,by grind,by grind⟩
 have u:=q.D.grow (kM.new h (.cells 41 1 true false (lB b .ee nv .ee)));have U:=q.D.xE (.cells 41 1 true false (lB b .ee nv .ee));have W:(h.new (.cells 41 1 true false (lB b .ee nv .ee))).get h.next=_:=fg _ _;have f:h.next<(h.new (.cells 41 1 true false (lB b .ee nv .ee))).next:=MC _;simp only[El N,fw,fJ,gW,wX,XC,u.ldC];generalize h.new (.cells 41 1 true false (lB b .ee nv .ee))=w at*;have X:=mU (o:=0) (v:=R.cc) (og:=lB b R.cc nv .ee) W (by simp[lB]) (by rw[q.hq];exact q.D.oc.one) rfl;obtain⟨x,Y⟩:=u.other (kM.put (S:=λz=>z=h.next) (.cells 41 1 true false (lB b R.cc nv .ee)) rfl f) (by simp_all);have Z:=fS (.cells 41 1 true false (lB b R.cc nv .ee)) f;have y:h.next<(w.put h.next (.cells 41 1 true false (lB b R.cc nv .ee))).next:=f;simp only[X,ej,x.ldP,gW];generalize w.put h.next (.cells 41 1 true false (lB b R.cc nv .ee))=h2 at*;have e3:=mU (o:=4) (v:=R.vp) (og:=lB b R.cc nv R.vp) Z (by simp[lB]) q.D.sp.one rfl;obtain⟨g,k3⟩:=x.other (kM.put (S:=λz=>z=h.next) (.cells 41 1 true false (lB b R.cc nv R.vp)) rfl y) (by simp_all);have g3:=fS (.cells 41 1 true false (lB b R.cc nv R.vp)) y;simp only[e3,ej,g.X1,gW];generalize h2.put h.next (.cells 41 1 true false (lB b R.cc nv R.vp))=d at*;have A:fW (lB b R.cc nv R.vp)=true:=by simp only[lB,ev,a.one,q.hq,q.D.oc.one,q.D.sp.one];rfl
 have lA:gy 6 (.ptr h.next 0) d=some (.agg (lB b R.cc nv R.vp)):=Bv g3 rfl;have e4:ji 41 6 1 (V.agg [V.ee,(V.I 0),(V.I 0),V.ee,V.ee,(V.I 0)]) [(0,.agg (lB b R.cc nv R.vp))]=some (.cells 41 6 true false (lB b R.cc nv R.vp),λl=> .slice l 0 1):=se rfl rfl A;simp only[lA,gW,e4,fw];have B:=g.grow (kM.new d (.cells 41 6 true false (lB b R.cc nv R.vp)));have k4:=g.xE (.cells 41 6 true false (lB b R.cc nv R.vp));have j:kG (d.new (.cells 41 6 true false (lB b R.cc nv R.vp))) 6 (.slice d.next 0 1)=some (1,lB b R.cc nv R.vp):=mJ (k:=0) rfl;have C:Kp F G h (d.new (.cells 41 6 true false (lB b R.cc nv R.vp))):=((U.trans Y λ_ h=>h).trans k3 λ_ h=>h).trans k4 λ_ h=>h;generalize d.new (.cells 41 6 true false (lB b R.cc nv R.vp))=E at*;obtain⟨sc,D5⟩:=B.flush
 have hw:eK.rel (fzc F R.vc) E ⟨t.s.cur,b.fin,b.cond,b.next,t.ez,b.state⟩ (lB b R.cc nv R.vp):=
  ⟨R.cc,nv,R.vp,rfl,by rw[q.hq];exact sc,(a.eR λl e=>C.eR l (.inl e)).mono λ_ h=> .inl h,B.sp.mono λ_ h=> .inl h⟩
 obtain ⟨I,h5,h6,a1,a2,a3,a4,k6,J⟩:=D5.zcc (ys:=[⟨t.s.cur,b.fin,b.cond,b.next,t.ez,b.state⟩]) j ⟨lB b R.cc nv R.vp,[],by simp,hw,trivial⟩ rfl A (by simp) (by simp;omega);have m:eQ 41 6 96 R.vb (.slice d.next 0 1) E=some (.val I h5):=a1;have e7:fR [V.ee,(V.I 0),(V.I 0),V.ee,V.ee,(V.I 0)] [(0,1),(1,1),(2,1),(3,1),(4,1),(5,1)] []=some (.agg [.ee,.I 0,.I 0,.ee,.ee,.I 0]):=rfl;have e8:=Ep (n:=6) (ws:=[.ee,.I 0,.I 0,.ee,.ee,.I 0]) J.gb rfl rfl rfl;obtain⟨k7,r⟩:=J.ZE (c:= .ee) (p:= .ee) (ps:=[]) .nil;have lb:fy I=some (.I ((t.blocks.length+1:Nat):Int)):=by
  have:=r.ob.len;simpa using this
 simp only[m,ej,a3,e7,gW,e8,r.X1,lb,pj,MM (n:=t.blocks.length) (by omega)];have kb:=(C.trans (F':=fzc F R.vc) k6 λ_ h=> .inl h).trans (F':=fzc F R.vc) k7 λ_ h=> .inl h;exact H (fzc F R.vc) _ _ (λ_ h=> .inl h) kb (q.step kb r (λ_ h=> .inl h) q.gl rfl rfl)
end
