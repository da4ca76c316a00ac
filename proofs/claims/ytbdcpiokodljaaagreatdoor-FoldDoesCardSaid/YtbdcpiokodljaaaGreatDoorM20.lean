/- Parts. -/
import Derived.Test.YtbdcpiokodljaaaGreatDoorM18
import Derived.Test.YtbdcpiokodljaaaGreatDoorM19
import Derived.Test.YtbdcpiokodljaaaGreatDoorM15
set_option maxHeartbeats 4000000
namespace Go.Proofs.YtbdcpiokodljaaaGreatDoor.Hx
open Un
theorem FH{e:Nat}{w:List V}(a:gv w=true):mn e (.agg w)=some (.cells e 1 true false w,λl=> .ptr l 0):=by
 unfold mn
 grind[nj,gv,bB,V.cells]
theorem rW{e sz:Nat}{z w:List V}(b:z.length=sz)(a:w.length=sz)(c:gv w=true):jK e sz 1 (.agg z) [(0,.agg w)]=some (.cells e sz true false w,λl=> .slice l 0 1):=by
 unfold jK;have hs:qw (Nat.mul 0 sz) (De 1 (V.agg z).cells) (V.agg w).cells=some w:=by
  show qw (0*sz) (z++[]) w=some w;rw[Nat.zero_mul,JY,AO (by omega),wB8,O7,zO,List.drop_of_length_le (by omega),JY]
 simp only[Ef,fe,hs];rw[nj _ (show Nat.beq (V.agg w).cells.length sz=true by rw[show(V.agg w).cells=w from rfl,a];simp_all)]
 simp_all
theorem PU{n:Nat}(h:n<1000000000):mq .i64 (((n+1:Nat):Int)-1)=(n:Nat):=by
 grind[qh,rO]
theorem zfW{n k:Nat}(h:n<1000000000)(hk:k<1000000000):mq .i64 (((n:Nat):Int)+(k:Nat))=((n+k:Nat):Int):=by
 grind[qh,rO]
theorem zfd{n:Nat}(h:n<1000000000):mq .i64 (((n:Nat):Int)+1)=((n+1:Nat):Int):=by
 grind[qh,rO]
theorem YS(t:Nat)(k:IntKind)(a b:Int)(d:b≠0):en .rem t (.int k a) (.int k b)=some (.int k (a.tmod b)):=by
 have c:hint .rem k a b=some (.int k (a.tmod b)):=by
  cases b with
  | ofNat n=>cases n with
    |zero=>simp_all
    |succ n=>rfl
  |negSucc n=>rfl
 cases k <;> exact c
theorem MZ{n:Int}{m:Nat}{h:Hp}{Q:fo}(f:0<m)(d:m<=1000000000)(H:Q (.I (mV n m:Nat)) h):cP CS iQ [.I n,.I m] h Q:=by
 refine Ha rfl rfl ?_;unfold zx;have g:=Int.tmod_lt_of_pos n (b:=(m:Int)) (by omega);have i : -(m:Int)<n.tmod m:=by
  have:=Int.tmod_lt_of_pos (-n) (b:=(m:Int)) (by omega);rw[Int.neg_tmod]at this;omega
 simp only[YS _ _ _ (m:Int) (by omega),iL,jT,On,A4];unfold mV at H;split
 ·rename_i a;rw[if_pos a]at H;have e:mq .i64 (n.tmod m+m)=n.tmod m+m:=by grind[qh,rO]
  simp only[mQ,e,iL];refine wQ ?_;unfold pQ;rw[Int.toNat_of_nonneg (by omega)]at H;exact H
 ·rename_i c;rw[if_neg c]at H;refine wQ ?_;unfold pQ;rw[Int.toNat_of_nonneg (by omega)]at H;exact H
section
variable{F G:Nat->Prop}{h:Hp}{lu iE jP:Nat}{t:Dt}{R:Rw}{Q:fo}
theorem Dw.Yl(D:Dw F G h lu iE jP t R):ez (.ptr lu 2) h=some R.vv:=ma D.gu rfl
theorem Dw.ldB(D:Dw F G h lu iE jP t R):ez (.ptr lu 3) h=some R.vb:=ma D.gu rfl
theorem Dw.ldS(D:Dw F G h lu iE jP t R):ez (.ptr lu 4) h=some R.vs:=ma D.gu rfl
theorem Dw.Bm(D:Dw F G h lu iE jP t R):ez (.ptr iE 0) h=some R.vk:=ma D.gk rfl
theorem Dw.ldC(D:Dw F G h lu iE jP t R):ez (.ptr jP 0) h=some R.cc:=ma D.gb rfl
theorem Dw.ldP(D:Dw F G h lu iE jP t R):ez (.ptr jP 4) h=some R.vp:=ma D.gb rfl
theorem Vw{x:Vl}{w:List V}(D:Dw F G h lu iE jP t R)(hq:R.cc=R.vc)(g:eV.rel F h x w)(hv:t.s.ef.length<1000)(hc:t.s.cur.length<1000)
  (H:∀h' R',Kp F G h h'->Dw F G h' lu iE jP {t with s:=put t.s x} R'->R'.cc=R'.vc->R'.vk=R.vk->Q (.I t.s.ef.length) h') :
  cP CS fy [.agg w,.ptr lu 0,.ptr jP 0] h Q:=by
 refine FN rfl rfl ?_;unfold wX;have a:=eV.one g;have b:w.length=6:=eV.len g;have i:=D.grow (mw.new h (.cells 45 1 true false w));have q:=D.Ai (.cells 45 1 true false w);have v:fX 6 (.ptr h.next 0) (h.new (.cells 45 1 true false w))=some (.agg w):=DB (fh _ _) b;have y:jK 45 6 1 (V.agg [(V.I 0),(V.I 0),(V.I 0),(V.I 0),V.ee,(V.I 0)]) [(0,.agg w)]=some (.cells 45 6 true false w,λl=> .slice l 0 1):=rW rfl b a;simp only[FH a,fE,fS,iL,zO,i.Yl,v,y];generalize z:h.new (.cells 45 1 true false w)=f at*;have A:=i.grow (mw.new f (.cells 45 6 true false w));have r:=i.Ai (.cells 45 6 true false w);have j:eV.rel F (f.new (.cells 45 6 true false w)) x w:=eV.fi (λl B=>(q.trans r λ_ h=>h).fi l (.inl B)) g;have m:ml (f.new (.cells 45 6 true false w)) 6 (.slice f.next 0 1)=some (1,w):=by grind[px]
 obtain⟨N,O,c,a1,a2,a3,P,C,d⟩:=A.zgc (ys:=[x]) m ⟨w,[],by simp,j,trivial⟩ (by omega) a (by simp) (by simp;omega);have lc:((t.s.ef++[x]).length:Nat)=t.s.ef.length+1:=by simp
 have lv:=d.ov.len;simp only[lc]at lv;simp only[a1,ei,a3,d.ldC,d.Yl,iL,lv,pI];have u:mq .i64 (((t.s.ef.length+1:Nat):Int)-1)=(t.s.ef.length:Nat):=PU (by omega);have E:jK 3 1 1 (V.I 0) [(0,V.I t.s.ef.length)]=some (.cells 3 1 true false [V.I t.s.ef.length],λl=> .slice l 0 1):=rfl;simp only[u,E,fE,hq];have I:=d.grow (mw.new c (.cells 3 1 true false [V.I t.s.ef.length]));have J:=d.Ai (.cells 3 1 true false [V.I t.s.ef.length]);have n:ml (c.new (.cells 3 1 true false [V.I t.s.ef.length])) 1 (.slice c.next 0 1)=some (1,[V.I t.s.ef.length]):=px (k:=0) rfl;obtain⟨K,L,S,b1,b2,b3,T,M,o⟩:=I.zge (ys:=[t.s.ef.length]) n ⟨[V.I t.s.ef.length],[],rfl,rfl,trivial⟩ rfl rfl (by simp) (by simp;omega);have e:=o.ov.len;simp only[lc]at e;have p:eR 3 1 8 R.vc (.slice c.next 0 1) (c.new (.cells 3 1 true false [V.I t.s.ef.length]))=some (.val K L):=b1;simp only[p,ei,b3,o.Yl,iL,e,pI,u];exact H _ _ ((((q.trans r λ_ h=>h).trans C λ_ h=>h).trans J λ_ h=>h).trans M λ_ h=>h) o rfl rfl
end
open Un
structure Lc where
 lr:Nat
 lu:Nat
 iE:Nat
 jP:Nat
 Aq:Nat
 oG:Nat
 qC:Nat
 WI:Nat
def zdl(L:Lc):V:= .func fy [] [.ptr L.lu 0,.ptr L.jP 0]
def V8(L:Lc):V:= .func fm [] [.ptr L.oG 0,.ptr L.lr 0]
def Vt(L:Lc):V:= .func fY [] [.ptr L.lu 0,.ptr L.qC 0,.ptr L.iE 0]
structure Dq (F G:Nat->Prop) (h:Hp) (L:Lc) (ops:List Int) (t:Dt) (R:Rw):Prop where
 D:Dw F G h L.lu L.iE L.jP t R
 hq:R.cc=R.vc
 gl:G L.oG
 ga:h.get L.oG=some (.cells ev 1 true false [.I t.s.pos])
 fr:F L.lr
 gr:∃vo vs n,h.get L.lr=some (.cells Sl 1 true false [vo,vs,n])/\ie (eI .i64) F h ops vo
 fp:F L.Aq
 gp:∃e,h.get L.Aq=some (.cells e 1 true false [zdl L])
 fn:F L.qC
 gn:∃e,h.get L.qC=some (.cells e 1 true false [V8 L])
 fs:F L.WI
 gs:∃e,h.get L.WI=some (.cells e 1 true false [Vt L])
section
variable{F F' G G':Nat->Prop}{h h':Hp}{L:Lc}{ops:List Int}{t t':Dt}{R R':Rw}{Q:fo}
theorem Dq.zcd(q:Dq F G h L ops t R)(k:∀l,F l->h'.get l=h.get l) (D':Dw F' G' h' L.lu L.iE L.jP t' R')(a:∀l,F l->F' l) (b:R'.cc=R'.vc)(c:G' L.oG)(d:h'.get L.oG=some (.cells ev 1 true false [.I t'.s.pos])):Dq F' G' h' L ops t' R' where
 D:=D'
 hq:=b
 gl:=c
 ga:=d
 fr:=a _ q.fr
 gr:=by
  obtain⟨vo,vs,n,e,f⟩:=q.gr;exact⟨vo,vs,n,by rw[k _ q.fr];exact e,(f.fi k).mono a⟩
 fp:=a _ q.fp
 gp:=by rw[k _ q.fp];exact q.gp
 fn:=a _ q.fn
 gn:=by rw[k _ q.fn];exact q.gn
 fs:=a _ q.fs
 gs:=by rw[k _ q.fs];exact q.gs
theorem Dq.step(q:Dq F G h L ops t R)(k:Kp F G h h') (D':Dw F' G' h' L.lu L.iE L.jP t' R')(b:∀l,F l->F' l)(c:G' L.oG) (a:R'.cc=R'.vc)(hp:t'.s.pos=t.s.pos):Dq F' G' h' L ops t' R':=
 q.zcd (λl d=>k.fi l (.inl d)) D' b a c (by rw[k.fi _ (.inr q.gl),hp];exact q.ga)
theorem Dq.qc(q:Dq F G h L ops t R):ez (.ptr L.Aq 0) h=some (zdl L):=by obtain⟨e,a⟩:=q.gp;exact ma a rfl
theorem Dq.xu(q:Dq F G h L ops t R):ez (.ptr L.qC 0) h=some (V8 L):=by obtain⟨e,a⟩:=q.gn;exact ma a rfl
theorem Dq.KY(q:Dq F G h L ops t R):ez (.ptr L.WI 0) h=some (Vt L):=by obtain⟨e,a⟩:=q.gs;exact ma a rfl
theorem Dq.HW(q:Dq F G h L ops t R){i:Nat}(hi:i<t.s.known.length):∃l o,l<h.next/\(F l\/Loc R.vk l)/\gG 1 R.vk (.I i)=some (.ptr l o)/\ez (.ptr l o) h=some (.I (t.s.known.getD i 0:Nat)):=by
 obtain⟨l,o,u,a,b,c,d⟩:=q.D.ok.read.Wd hi .i64 rfl;refine⟨l,o,a.elim (q.D.fl l) λh=>(q.D.ok.xi h).2.1,a,b,?_⟩;rw[c];have:[u]=[V.I (t.s.known[i]:Nat)]:=d;rw[ED,hO hi];simpa using this
theorem Dw.Z7{lu iE jP:Nat}(D:Dw F G h lu iE jP t R)(a:∀l,G' l->G l\/(l<h.next/\¬F l/\∀i,¬comp lu iE jP R i l)):Dw F G' h lu iE jP t R:=
 {D with gx:=λl b=>(a l b).elim (D.gx l) id}
def gm(G:Nat->Prop)(a:Nat):Nat->Prop:=λl=>G l/\l≠a
theorem Kp.gm(k:Kp F G h h')(a:Nat):Kp F (Hx.gm G a) h h':=⟨k.next,λl b=>k.fi l (b.imp id λh=>h.1)⟩
def setPos(t:Dt)(p:Nat):Dt:={t with s:={t.s with pos:=p} }
theorem ze{m:Nat}(q:Dq F G h L ops t R)(j:0<m)(k:m<=100000000)(I:ops.length<9223372036854775808)
  (H:∀h',Kp F (gm G L.oG) h h'->Dq F G h' L ops (setPos t (draw ops t.s.pos m).2) R->Q (.I ((draw ops t.s.pos m).1:Nat)) h') :
  cP CS fm [.I m,.ptr L.oG 0,.ptr L.lr 0] h Q:=by
 refine E5 rfl rfl ?_;unfold xG;obtain⟨vo,vs,n,gr,g⟩:=q.gr;have p:ez (.ptr L.oG 0) h=some (.I t.s.pos):=ma q.ga rfl;have l1:ez (.ptr L.lr 0) h=some vo:=ma gr rfl;simp only[p,iL,fS,zO,l1,g.len,oS,On,A4];have a:=q.D.gx _ q.gl;split
 ·rename_i r;have e:draw ops t.s.pos m=(0,t.s.pos):=by
   unfold draw;rw[X8 (by omega)]
  rw[e]at H;exact H h (Kp.refl _ _ _) q
 ·rename_i c;have c:t.s.pos<ops.length:=by omega
  have e:draw ops t.s.pos m=(mV ops[t.s.pos] m,t.s.pos+1):=by
   unfold draw;rw[hO c]
  rw[e]at H;have w:mq .i64 ((t.s.pos:Int)+1)=((t.s.pos+1:Nat):Int):=by rw[qh (by simp only[rO];omega)];omega
  have x:=pB (o:=0) (v:= .I ((t.s.pos+1:Nat):Int)) (qj:=[.I ((t.s.pos+1:Nat):Int)]) q.ga (by simp) rfl rfl;have hc:mw (λl=>l=L.oG) h (h.put L.oG (.cells ev 1 true false [.I ((t.s.pos+1:Nat):Int)])):=mw.put _ rfl a.1;have d:∀l,F l->(h.put L.oG (.cells ev 1 true false [.I ((t.s.pos+1:Nat):Int)])).get l=h.get l:=λl b=>gK _ a.1 λe=>a.2.1 (e▸b);have l2:ez (.ptr L.lr 0) (h.put L.oG (.cells ev 1 true false [.I ((t.s.pos+1:Nat):Int)]))=some vo:=ma (by rw[d _ q.fr];exact gr) rfl;have l3:ez (.ptr L.oG 0) (h.put L.oG (.cells ev 1 true false [.I ((t.s.pos+1:Nat):Int)]))=some (.I ((t.s.pos+1:Nat):Int)):=ma (gq _ a.1) rfl;have y:mq .i64 (((t.s.pos+1:Nat):Int)-1)=(t.s.pos:Nat):=by rw[qh (by simp only[rO];omega)];omega
  obtain⟨l,o,u,_,z,A,B⟩:=(g.fi d).Wd c .i64 rfl;obtain⟨rfl⟩:u = .I ops[t.s.pos]:=by simpa using B.1
  simp only[mQ,w,iL,x,ei,l2,l3,pI,y,z,A];refine MZ j (by omega) (H _ ⟨hc.next,λl b=>b.elim (d l) λb=>gK _ a.1 λe=>b.2 e.symm⟩ ?_);have C:Dw F (gm G L.oG) h L.lu L.iE L.jP t R:={q.D with gx:=λl b=>q.D.gx l b.1}
  have D':=(C.other hc λl b=>by subst b;exact⟨a.2.1,λE=>E.2 rfl,a.2.2⟩).1;refine q.zcd d ?_ (λ_ h=>h) q.hq q.gl (gq _ a.1);have f:∀l,G l->_:=λl b=>if e:l=L.oG then e▸(⟨a.1,a.2.1,a.2.2⟩:_/\_/\∀i,¬comp L.lu L.iE L.jP R i L.oG) else D'.gx l ⟨b,e⟩
  exact{D' with gx:=f}
def gp(G:Nat->Prop)(v:V)(p:Nat):Nat->Prop:=λl=>G l\/l=p\/Loc v l
theorem C7(l:List Nat)(h:0<l.length):l.getD (l.length-1) 0=l.getLastD 0:=by
 rw[List.getLastD_eq_getLast?,List.getLast?_eq_getElem?,ED]
theorem OK(q:Dq F G h L ops t R)(hk:0<t.s.known.length)(aN:t.s.known.length<1000)(hs:t.s.eh.length<1000)(ho:ops.length<9223372036854775808)
  (H:∀F' h' R',(∀l,F l->F' l)->Kp F (gm G L.oG) h h'->Dq F' G h' L ops {t with s:=(fH ops t.s).2} R'->R'.vk=R.vk->Q (.I ((fH ops t.s).1:Nat)) h') :
  cP CS fY [.ptr L.lu 0,.ptr L.qC 0,.ptr L.iE 0] h Q:=by
 refine Fj rfl rfl ?_;unfold xe;have aM:=(q.D.gx _ q.gl).1;have am:∀l,G l->l<h.next:=λl f=>(q.D.gx l f).1;have an:∀i l,comp L.lu L.iE L.jP R i l->l<h.next:=λi l f=>(q.D.sig f).2.1;have eb:fW [(V.I 0),(V.I 0),V.ee,V.ee] [(0,1),(1,1),(2,1),(3,1)] [(0,(V.I 1)),(1,.I t.s.eh.length)]=some (.agg [.I 1,.I t.s.eh.length,.ee,.ee]):=rfl;have U:(h.new (.cells 49 1 true false [(V.I 0),(V.I 0),V.ee,V.ee])).get h.next=some (.cells 49 1 true false [(V.I 0),(V.I 0),V.ee,V.ee]):=fh _ _;have e1:=Iu (n:=4) (ws:=[.I 1,.I t.s.eh.length,.ee,.ee]) U rfl rfl rfl;simp only[fS,iL,zO,q.D.ldS,q.D.os.len,eb,fE,e1,ei];have K:h.next<(h.new (.cells 49 1 true false [(V.I 0),(V.I 0),V.ee,V.ee])).next:=Pv _
 have c2:mw (λl=>l=h.next) h ((h.new (.cells 49 1 true false [(V.I 0),(V.I 0),V.ee,V.ee])).put h.next (.cells 49 1 true false [.I 1,.I t.s.eh.length,.ee,.ee])):=
  (mw.new _ _).trans (mw.put _ rfl K)
 have g2:=gq (h:=h.new (.cells 49 1 true false [(V.I 0),(V.I 0),V.ee,V.ee])) (.cells 49 1 true false [.I 1,.I t.s.eh.length,.ee,.ee]) K;have n2:((h.new (.cells 49 1 true false [(V.I 0),(V.I 0),V.ee,V.ee])).put h.next (.cells 49 1 true false [.I 1,.I t.s.eh.length,.ee,.ee])).next=h.next+1:=rfl;generalize ((h.new (.cells 49 1 true false [(V.I 0),(V.I 0),V.ee,V.ee])).put h.next (.cells 49 1 true false [.I 1,.I t.s.eh.length,.ee,.ee]))=h2 at*;clear U e1 K;have fresh:∀l,h.next<=l->¬F l/\¬G l/\∀i,¬comp L.lu L.iE L.jP R i l:=λl f=>⟨λhf=>by have:=q.D.fl l hf;omega,λhg=>by have:=am l hg;omega,λi hi=>by have:=an i l hi;omega⟩
 obtain ⟨W,k2⟩:=q.D.other c2 (λl f=>by subst f;exact fresh _ (ju _));have X:Dw F (gp G .ee h.next) h2 L.lu L.iE L.jP t R:=W.Z7 λl f=>f.elim .inl λf=> .inr (by
  rcases f with rfl|f
  ·exact⟨by omega,(fresh _ (ju _)).1,(fresh _ (ju _)).2.2⟩
  ·exact f.elim)
 have q2:Dq F (gp G .ee h.next) h2 L ops t R:=q.step k2 X (λ_ h=>h) (.inl q.gl) q.hq rfl;rw[q2.xu];simp only[iL,V8,yW,AP,O7,JY];refine ze (m:=4) q2 (by decide) (by decide) ho λy k3 q3=>?_;have g3:y.get h.next=some (.cells 49 1 true false [.I 1,.I t.s.eh.length,.ee,.ee]):=by
  rw[k3.fi _ (.inr ⟨.inr (.inl rfl),by omega⟩)];exact g2
 have hr:(draw ops t.s.pos 4).1<4:=zg _ _ (by decide)
 refine Cg (λk x0 x1 x2 x4 x5 h'=>∃(s:Ds) (l:List Nat) (vl:V),x0 = .ptr L.lu 0/\x1 = .ptr L.qC 0/\x2 = .ptr L.iE 0/\x4 = .ptr h.next 0/\x5 = .I (k:Nat)/\Dq F (gp G vl h.next) h' L ops {t with s:=s} R/\Kp F (gm G L.oG) h h'/\
  h'.get h.next=some (.cells 49 1 true false [.I 1,.I t.s.eh.length,vl,.ee])/\lM eN ev F h' l vl/\(∀z,Loc vl z->h.next<z)/\some_ ops k s l=some_ ops (draw ops t.s.pos 4).1 (num ops t.s 4).2 []/\s.known=t.s.known/\s.eh=t.s.eh/\l.length+k<=4) ?_
  ⟨(num ops t.s 4).2,[],.ee,rfl,rfl,rfl,rfl,rfl,q3,(k2.gm L.oG).trans ⟨k3.next,λl f=>k3.fi l (f.imp id λf=>⟨.inl f.1,f.2⟩)⟩ (λ_ h=>h),g3,.nil,λ_ h=>h.elim,rfl,rfl,rfl,by simp;omega⟩
 clear q3 k3 g3 q2 X W k2 g2 c2 eb;rintro k x0 x1 x2 x4 x5 h' ⟨s,l,vl,rfl,rfl,rfl,rfl,rfl,j,k',gF,ol,P,p,r,A,hlen⟩;unfold sr;have ao:ez (.ptr h.next 2) h' = some vl:=ma gF rfl;have kl:({t with s:=s}:Dt).s.known.length=t.s.known.length:=by show s.known.length=_;rw[r]
 have Y:h.next<h'.next:=(j.D.gx h.next (.inr (.inl rfl))).1;have Z:∀{g:Hp} {s1:Ds},Dq F (gp G vl h.next) g L ops {t with s:=s1} R->Dw F G g L.lu L.iE L.jP {t with s:=s1} R:=λq=>{q.D with gx:=λl f=>q.D.gx l (.inl f)}
 simp only[oT,iL,On,A4]
 cases k with
 | succ k=>
   rw[if_pos (by omega)];have lk:=j.D.ok.len;rw[kl]at lk;rw[j.xu];simp only[fS,iL,zO,ao,j.D.Bm,lk,V8,yW,AP,O7,JY];refine ze (m:=t.s.known.length) j hk (by omega) ho λg u I=>?_;have ap:g.get h.next=some (.cells 49 1 true false [.I 1,.I (t.s.eh.length:Nat),vl,.ee]):=by
     rw[u.fi _ (.inr ⟨.inr (.inl rfl),by omega⟩)];exact gF
   have aa:lM eN ev F g l vl:=ol.fi (λz b=>u.fi z (.inl b)) (λz b=>u.fi z (.inr ⟨.inr (.inr b),by have:=P z b;omega⟩)) u.next;have aq:(draw ops s.pos t.s.known.length).1<t.s.known.length:=zg _ _ hk;obtain⟨l1,o1,ab,ac,i1,i2⟩:=I.HW (i:=(draw ops s.pos t.s.known.length).1) (by show _<s.known.length;rw[r];exact aq);have B:ez (.ptr l1 o1) g=some (.I (s.known.getD (draw ops s.pos t.s.known.length).1 0:Nat)):=i2;refine⟨u.next,?_⟩;have e3:∀a:Nat,jK 3 1 1 (V.I 0) [(0,V.I (a:Nat))]=some (.cells 3 1 true false [V.I (a:Nat)],λl=> .slice l 0 1):=λ_=>rfl;have ar:gG 1 R.vk (.I ((draw ops ({t with s:=s}:Dt).s.pos t.s.known.length).1:Nat))=some (.ptr l1 o1):=i1;simp only[ar,B,iL,e3,g0];generalize hv:s.known.getD (draw ops s.pos t.s.known.length).1 0=a at*;have W:=(Z I).grow (mw.new g (.cells 3 1 true false [V.I (a:Nat)]));have ae:(g.new (.cells 3 1 true false [V.I (a:Nat)])).get h.next=_:=(fj _ (by have:=u.next;omega)).trans ap;refine⟨⟨fh _ _,O.kX _ _ _ _ _⟩,iR B (fj _ ab),W.Bm,ma ae rfl,?_⟩;have au:lM eN ev F (g.new (.cells 3 1 true false [V.I (a:Nat)])) l vl:=aa.fi (λz b=>fj _ (I.D.fl z b)) (λz b=>fj _ (aa.xi b).2.1) (PT _);have hx:ml (g.new (.cells 3 1 true false [V.I (a:Nat)])) 1 (.slice g.next 0 1)=some (1,[V.I (a:Nat)]):=px (k:=0) rfl;obtain⟨d,y,a1,ag,c3,aw⟩:=au.append (kL:=8) (ys:=[a]) hx ⟨[V.I (a:Nat)],[],rfl,rfl,trivial⟩ rfl rfl (by simp) (by decide) (λz b=>wBs (I.D.fl z b)) (by simp;omega) (by simp;omega);have n2:(g.new (.cells 3 1 true false [V.I (a:Nat)])).next=g.next+1:=rfl;have w:h.next<y.next:=by have:=c3.next;have:=u.next;omega
   have ax:y.get h.next=some (.cells 49 1 true false [.I 1,.I (t.s.eh.length:Nat),vl,.ee]):=by
     rw[c3.fi _ (by have:=u.next;omega) λb=>wBp _ (P _ b)];exact ae
   have a2:=pB (o:=2) (v:=d) (qj:=[.I 1,.I (t.s.eh.length:Nat),d,.ee]) ax (by simp) ag.one rfl;have ay:eR 3 1 8 vl (.slice g.next 0 1) (g.new (.cells 3 1 true false [V.I (a:Nat)]))=some (.val d y):=a1;have w1:mq .i64 (((k+1:Nat):Int)-1)=(k:Nat):=PU (by omega);simp only[ay,ei,a2,pI,w1,iL];refine⟨c3.next,ju _,k,by omega,?_⟩
   have cc:mw (λz=>Loc vl z\/z=h.next) (g.new (.cells 3 1 true false [V.I (a:Nat)])) (y.put h.next (.cells 49 1 true false [.I 1,.I (t.s.eh.length:Nat),d,.ee])):=
     (c3.ZH λ_ _ h=> .inl h).trans (mw.put _ (.inr rfl) w)
   obtain⟨D4,k4⟩:=W.other cc λz b=>fresh z (by rcases b with b|rfl;exact Nat.le_of_lt (P z b);exact ju _);have M:∀z,Loc d z->h.next<z:=λz b=>(aw z b).elim (P z) λe=>by have:=u.next;omega
   have ah:lM eN ev F (y.put h.next (.cells 49 1 true false [.I 1,.I (t.s.eh.length:Nat),d,.ee])) (l++[a]) d:=
     ag.fi (λz b=>gK _ w λe=>(fresh h.next (ju _)).1 (e▸b)) (λz b=>gK _ w (by have:=M z b;omega)) (ju _)
   have aA:Dw F (gp G d h.next) (y.put h.next (.cells 49 1 true false [.I 1,.I (t.s.eh.length:Nat),d,.ee])) L.lu L.iE L.jP _ R:=D4.Z7 λz b=>b.elim .inl λb=> .inr (by
     rcases b with rfl|b
     ·exact⟨w,(fresh _ (ju _)).1,(fresh _ (ju _)).2.2⟩
     ·have C:=fresh z (Nat.le_of_lt (M z b));exact⟨(ah.xi b).2.1,C.1,C.2.2⟩)
   have kk:Kp F G g (y.put h.next (.cells 49 1 true false [.I 1,.I (t.s.eh.length:Nat),d,.ee])):=
     (Kp.new F G g _ I.D.fl λz b=>(I.D.gx z (.inl b)).1).trans k4 λ_ h=>h
   have qG:Dq F G g L ops _ R:={I with D:=Z I,gl:=q.gl}
   refine⟨{s with pos:=(draw ops s.pos t.s.known.length).2},l++[a],d,by trivial,by trivial,by trivial,by trivial,by trivial,qG.step kk aA (λ_ h=>h) (.inl q.gl) j.hq rfl,?_,gq _ w,ah,M,?_,r,A,by simp;omega⟩
   ·exact(k'.trans ⟨u.next,λz b=>u.fi z (b.imp id λb=>⟨.inl b.1,b.2⟩)⟩ λ_ h=>h).trans (kk.gm _) λ_ h=>h
   ·rw[<-p,<-hv]
    show _=some_ ops k (fL ops s).2 (l++[(fL ops s).1]);unfold fL
    rw[r]
 | zero=>
   rw[if_neg (by omega)];obtain⟨e1,e2⟩:l=(some_ ops (draw ops t.s.pos 4).1 (num ops t.s 4).2 []).1/\s=(some_ ops (draw ops t.s.pos 4).1 (num ops t.s 4).2 []).2:=by rw[<-p];exact⟨rfl,rfl⟩
   have lk:=j.D.ok.len;rw[kl]at lk;have w1:mq .i64 (((t.s.known.length:Nat):Int)-1)=((t.s.known.length-1:Nat):Int):=by
     rw[show((t.s.known.length:Nat):Int)=((t.s.known.length-1+1:Nat):Int) by omega];exact PU (by omega)
   obtain ⟨l1,o1,ab,ac,i1,i2⟩:=j.HW (i:=t.s.known.length-1) (by rw[kl];omega);have B:ez (.ptr l1 o1) h' = some (.I (t.s.known.getLastD 0:Nat)):=by
     rw[i2,show({t with s:=s}:Dt).s.known=t.s.known from r,C7 _ hk]
   have e3:∀a:Nat,jK 3 1 1 (V.I 0) [(0,V.I (a:Nat))]=some (.cells 3 1 true false [V.I (a:Nat)],λl=> .slice l 0 1):=λ_=>rfl;simp only[j.D.Bm,iL,lk,pI,w1,i1,B,e3,fE,fS,zO];have D5:=(Z j).grow (mw.new h' (.cells 3 1 true false [V.I (t.s.known.getLastD 0:Nat)]));have k5:Kp F G h' (h'.new (.cells 3 1 true false [V.I (t.s.known.getLastD 0:Nat)])):=(Z j).Ai _;have g5:(h'.new (.cells 3 1 true false [V.I (t.s.known.getLastD 0:Nat)])).get h'.next=_:=fh _ _;have aB:(h'.new (.cells 3 1 true false [V.I (t.s.known.getLastD 0:Nat)])).get h.next=_:=(fj _ Y).trans gF;have aC:lM eN ev F (h'.new (.cells 3 1 true false [V.I (t.s.known.getLastD 0:Nat)])) l vl:=ol.fi (λz b=>fj _ (j.D.fl z b)) (λz b=>fj _ (ol.xi b).2.1) (PT _);have n5:(h'.new (.cells 3 1 true false [V.I (t.s.known.getLastD 0:Nat)])).next=h'.next+1:=rfl;generalize h'.new (.cells 3 1 true false [V.I (t.s.known.getLastD 0:Nat)])=C at*;have a1:=pB (o:=3) (v:= .slice h'.next 0 1) (qj:=[.I 1,.I (t.s.eh.length:Nat),vl,.slice h'.next 0 1]) aB (by simp) rfl rfl;have E:h.next<C.next:=by omega
   obtain⟨D6,k6⟩:=D5.other (mw.put (S:=λz=>z=h.next) (.cells 49 1 true false [.I 1,.I (t.s.eh.length:Nat),vl,.slice h'.next 0 1]) rfl E) λz b=>by subst b;exact fresh _ (ju _)
   have aD:=gq (.cells 49 1 true false [.I 1,.I (t.s.eh.length:Nat),vl,.slice h'.next 0 1]) E;have g6:(C.put h.next (.cells 49 1 true false [.I 1,.I (t.s.eh.length:Nat),vl,.slice h'.next 0 1])).get h'.next=_:=(gK _ E (by omega)).trans g5;have ai:lM eN ev F (C.put h.next (.cells 49 1 true false [.I 1,.I (t.s.eh.length:Nat),vl,.slice h'.next 0 1])) l vl:=aC.fi (λz b=>k6.fi z (.inl b)) (λz b=>gK _ E (by have:=P z b;omega)) (ju _);have n6:(C.put h.next (.cells 49 1 true false [.I 1,.I (t.s.eh.length:Nat),vl,.slice h'.next 0 1])).next=C.next:=rfl;simp only[a1,ei];generalize C.put h.next (.cells 49 1 true false [.I 1,.I (t.s.eh.length:Nat),vl,.slice h'.next 0 1])=c at*;have lA:fX 4 (.ptr h.next 0) c=some (.agg [.I 1,.I (t.s.eh.length:Nat),vl,.slice h'.next 0 1]):=DB aD rfl;have ow:gv [.I 1,.I (t.s.eh.length:Nat),vl,.slice h'.next 0 1]=true:=by simp only[eo,ol.one];rfl
   have e7:jK 49 4 1 (V.agg [(V.I 0),(V.I 0),V.ee,V.ee]) [(0,.agg [.I 1,.I (t.s.eh.length:Nat),vl,.slice h'.next 0 1])]=some (.cells 49 4 true false [.I 1,.I (t.s.eh.length:Nat),vl,.slice h'.next 0 1],λl=> .slice l 0 1):=rW rfl rfl ow;have e8:∀m:Nat,fW [V.ee] [(0,1)] [(0,.slice m 0 1)]=some (.agg [.slice m 0 1]):=λ_=>rfl;have e9:∀m:Nat,jK 52 1 1 (V.agg [V.ee]) [(0,.agg [.slice m 0 1])]=some (.cells 52 1 true false [.slice m 0 1],λl=> .slice l 0 1):=λm=>rW rfl rfl rfl;simp only[D6.ldS,iL,lA,e7,fE,e8,e9];have D7:=D6.grow (mw.new c (.cells 49 4 true false [.I 1,.I (t.s.eh.length:Nat),vl,.slice h'.next 0 1]));have k7:=D6.Ai (.cells 49 4 true false [.I 1,.I (t.s.eh.length:Nat),vl,.slice h'.next 0 1]);have g7:(c.new (.cells 49 4 true false [.I 1,.I (t.s.eh.length:Nat),vl,.slice h'.next 0 1])).get c.next=_:=fh _ _;have aE:(c.new (.cells 49 4 true false [.I 1,.I (t.s.eh.length:Nat),vl,.slice h'.next 0 1])).get h'.next=_:=(fj _ (by omega)).trans g6;have aj:lM eN ev F (c.new (.cells 49 4 true false [.I 1,.I (t.s.eh.length:Nat),vl,.slice h'.next 0 1])) l vl:=ai.fi (λz b=>fj _ (D6.fl z b)) (λz b=>fj _ (ai.xi b).2.1) (PT _);have n7:(c.new (.cells 49 4 true false [.I 1,.I (t.s.eh.length:Nat),vl,.slice h'.next 0 1])).next=c.next+1:=rfl;generalize c.new (.cells 49 4 true false [.I 1,.I (t.s.eh.length:Nat),vl,.slice h'.next 0 1])=x at*;have D8:=D7.grow (mw.new x (.cells 52 1 true false [.slice c.next 0 1]));have k8:=D7.Ai (.cells 52 1 true false [.slice c.next 0 1]);have g8:(x.new (.cells 52 1 true false [.slice c.next 0 1])).get c.next=_:=(fj _ (by omega)).trans g7;have aF:(x.new (.cells 52 1 true false [.slice c.next 0 1])).get h'.next=_:=(fj _ (by omega)).trans aE;have ak:lM eN ev F (x.new (.cells 52 1 true false [.slice c.next 0 1])) l vl:=aj.fi (λz b=>fj _ (D7.fl z b)) (λz b=>fj _ (aj.xi b).2.1) (PT _);have aG:ml (x.new (.cells 52 1 true false [.slice c.next 0 1])) 1 (.slice x.next 0 1)=some (1,[.slice c.next 0 1]):=px (k:=0) rfl;have n8:(x.new (.cells 52 1 true false [.slice c.next 0 1])).next=x.next+1:=rfl;generalize x.new (.cells 52 1 true false [.slice c.next 0 1])=T at*;have D9:Dw (λz=>F z\/Loc vl z\/z=h'.next\/z=c.next) G T L.lu L.iE L.jP {t with s:=s} R:=D8.more (λ_ h=> .inl h) λz b=>b.elim .inl λb=> .inr (by
     have aH:h.next<z/\z<T.next:=by
       rcases b with b|rfl|rfl
       ·exact⟨P z b,(ak.xi b).2.1⟩
       ·omega
       ·omega
     have h9:=fresh z (by omega);exact⟨aH.2,h9.2.2,h9.2.1⟩)
   have sl:ie eN (λz=>F z\/Loc vl z\/z=h'.next\/z=c.next) T l vl:=ak.slR (λ_ h=> .inl h) λ_ h=> .inr (.inl h)
   have ss:ie eN (λz=>F z\/Loc vl z\/z=h'.next\/z=c.next) T [t.s.known.getLastD 0] (.slice h'.next 0 1):=
     .inr ⟨h'.next,0,3,true,false,[V.I (t.s.known.getLastD 0:Nat)],rfl,.inr (.inr (.inl rfl)),aF,.inr rfl,Ol _,⟨_,[],rfl,rfl,trivial⟩⟩
   have sf:ie eF (λz=>F z\/Loc vl z\/z=h'.next\/z=c.next) T [⟨1,(t.s.eh.length:Nat),l,[t.s.known.getLastD 0]⟩] (.slice c.next 0 1):=
     .inr ⟨c.next,0,49,true,false,[.I 1,.I (t.s.eh.length:Nat),vl,.slice h'.next 0 1],rfl,.inr (.inr (.inr rfl)),g8,.inr rfl,Ol _,⟨_,[],rfl,⟨vl,_,rfl,sl,ss⟩,trivial⟩⟩
   obtain⟨v',h9,al,b1,b2,b3,b4,k9,N⟩:=D9.zfZ (ys:=[[⟨1,(t.s.eh.length:Nat),l,[t.s.known.getLastD 0]⟩]]) aG ⟨[.slice c.next 0 1],[],rfl,⟨_,rfl,sf⟩,trivial⟩ rfl rfl (by simp) (by show s.eh.length+_<_;rw[A];simp;omega);have aI:eR 52 1 24 R.vs (.slice x.next 0 1) T=some (.val v' h9):=b1;have lS:=N.os.len;have aJ:((s.eh++[[(⟨1,(t.s.eh.length:Nat),l,[t.s.known.getLastD 0]⟩:Fm)]]).length:Nat)=t.s.eh.length+1:=by rw[A];simp
   have aK:fD v' = some (.I ((t.s.eh.length+1:Nat):Int)):=by rw[<-aJ];exact lS
   have w2:mq .i64 (((t.s.eh.length+1:Nat):Int)-1)=(t.s.eh.length:Nat):=PU (by omega);simp only[aI,ei,b3,N.ldS,iL,aK,pI,w2];have J:Kp F G h' al:=(((k5.trans k6 λ_ h=>h).trans k7 λ_ h=>h).trans k8 λ_ h=>h).trans ⟨k9.next,λz b=>k9.fi z (b.imp (λh=> .inl h) id)⟩ λ_ h=>h;have qG:Dq F G h' L ops _ R:={j with D:=Z j,gl:=q.gl}
   have hE:({t with s:=(fH ops t.s).2}:Dt) = {t with s:={s with eh:=s.eh++[[⟨1,(t.s.eh.length:Nat),l,[t.s.known.getLastD 0]⟩]]} }:=by
     unfold fH;rw[e1,A,e2];rfl
   have aL:=qG.step J N (λ_ h=> .inl h) q.gl j.hq rfl;refine H (λz=>F z\/Loc vl z\/z=h'.next\/z=c.next) al {R with vs:=v'} (λ_ h=> .inl h) (k'.trans (J.gm _) λ_ h=>h) ?_ rfl;rw[hE];exact aL
end
open Un
theorem zad{t:Nat}{k:IntKind}{a b:Int}{A B:Prop}(h:if a<b then A else B):oP (en .lss t (.int k a) (.int k b)) λv=>bP v A B:=by
 simp_all
theorem fZ{t:Nat}{k:IntKind}{a b:Int}{A B:Prop}(h:if a=b then A else B):oP (en .eql t (.int k a) (.int k b)) λv=>bP v A B:=by
 simp_all
theorem IY{t:Nat}{k:IntKind}{a b:Int}{A B:Prop}(h:if b<a then A else B):oP (en .gtr t (.int k a) (.int k b)) λv=>bP v A B:=by
 simp_all
theorem lT{t n m:Nat}{K:V->Prop}(a:n<1000000000)(b:m<1000000000)(H:K (.I ((n+m:Nat):Int))):oP (en .add t (.I n) (.I m)) K:=by
 grind[mQ,zfW,iL]
theorem Av{t n:Nat}{K:V->Prop}(a:n<1000000000)(h0:0<n)(H:K (.I ((n-1:Nat):Int))):oP (en .sub t (.I n) (.I 1)) K:=by
 obtain⟨m,rfl⟩:∃m,n=m+1:=by simp_all
 grind[pI,PU,iL]
theorem gj{c A B:Prop}[Decidable c] (hc:c)(h:A):if c then A else B:=by simp_all
theorem fU{c A B:Prop}[Decidable c] (hc:¬c)(h:B):if c then A else B:=by simp_all
theorem fI{t n:Nat}{K:V->Prop}(H:K (.I ((n+1:Nat):Int)))(h:n<1000000000:=by omega):oP (en .add t (.I n) (.I 1)) K:=lT (m:=1) h (by decide) H
theorem gy{t:Nat}{k:IntKind}{a b:Int}{A B:Prop}(H:A)(h:a<b:=by omega):oP (en .lss t (.int k a) (.int k b)) λv=>bP v A B:=zad (gj h H)
theorem iI{t:Nat}{k:IntKind}{a b:Int}{A B:Prop}(H:B)(h:¬a<b:=by omega):oP (en .lss t (.int k a) (.int k b)) λv=>bP v A B:=zad (fU h H)
section
variable{F F' G G':Nat->Prop}{h h':Hp}{L:Lc}{ops:List Int}{t t':Dt}{R R':Rw}{Q:fo}
theorem wR{α:Type}{l:List α}{x:α}{n:Nat}(h:l.length<=n):(l++[x]).length<=n+1:=by simp_all
structure Sm (s:Ds) (n:Nat):Prop where
 v:s.ef.length<=n
 c:s.cur.length<=n
 k:s.known.length<=n
 st:s.eh.length<=n
 k0:0<s.known.length
theorem Sm.le{s:Ds}{n m:Nat}(a:Sm s n)(h:n<=m):Sm s m:=⟨Ix a.v h,Ix a.c h,Ix a.k h,Ix a.st h,a.k0⟩
theorem Sm.put{s:Ds}{n:Nat}(a:Sm s n)(x:Vl):Sm (put s x) (n+1):=
 ⟨wR a.v,wR a.c,wBL a.k,wBL a.st,a.k0⟩
theorem Sm.jh{s:Ds}{n:Nat}(a:Sm s n)(x:Vl):Sm (jh s x) (n+1):=
 ⟨wR a.v,wR a.c,
  wR a.k,wBL a.st,by show 0<(s.known++[s.ef.length]).length;simp_all⟩
theorem Sm.pos{s:Ds}{n:Nat}(a:Sm s n)(p:Nat):Sm {s with pos:=p} n:=⟨a.v,a.c,a.k,a.st,a.k0⟩
theorem Sm.state{s:Ds}{n:Nat}(a:Sm s n)(ops:List Int):Sm (fH ops s).2 (n+1):=by
 have hp:∃p,(some_ ops (num ops s 4).1 (num ops s 4).2 []).2 = {s with pos:=p}:=by
  obtain⟨p,h⟩:=GU ops (num ops s 4).1 (num ops s 4).2 [];exact⟨p,h⟩
 obtain⟨p,hp⟩:=hp;unfold fH;simp only[hp];exact⟨wBL a.v,wBL a.c,wBL a.k,wR a.st,a.k0⟩
theorem zaP(q:Dq F G h L ops t R){n a:Nat}(m:Sm t.s n)(p:n<1000){K:Hp->Prop}
  (H:∀h' R',Kp F G h h'->Dq F G h' L ops {t with s:={t.s with known:=t.s.known++[a]} } R'->K h') :
  yU (jK 3 1 1 (V.I 0) [(0,.I a)]) h λo c b=>((b.get h.next=some o/\O.beq o o=true)/\(ez (.ptr L.iE 0) b=some R.vk/\fg (eR 3 1 8 R.vk c b) λd e=>(b.next<=e.next/\fg (gJ 1 (.ptr L.iE 0) d e) λ_ g=>(e.next<=g.next/\K g)))):=by
 have r:jK 3 1 1 (V.I 0) [(0,V.I a)]=some (.cells 3 1 true false [V.I a],λl=> .slice l 0 1):=rfl;rw[r,g0];have i:=q.D.grow (mw.new h (.cells 3 1 true false [V.I a]));have u:ml (h.new (.cells 3 1 true false [V.I a])) 1 (.slice h.next 0 1)=some (1,[V.I a]):=px (k:=0) rfl;obtain⟨v,w,A,a1,a2,a3,x,y,z⟩:=i.zc0 (ys:=[a]) u ⟨[V.I a],[],rfl,rfl,trivial⟩ rfl rfl (by simp) (by have:=m.k;simp;omega);have f:eR 3 1 8 R.vk (.slice h.next 0 1) (h.new (.cells 3 1 true false [V.I a]))=some (.val v w):=a1;refine⟨by grind[fh,O.kX],i.Bm,?_⟩;simp only[f,ei,a3];have j:=(q.D.Ai (.cells 3 1 true false [V.I a])).trans y λ_ h=>h;exact⟨a2,x,H _ _ j (q.step j z (by simp_all) q.gl q.hq rfl)⟩
theorem Ij{x:Vl}{w:List V}(q:Dq F G h L ops t R){n:Nat}(b:Sm t.s n)(p:n<999)(r:eV.rel F h x w){K:Hp->Prop}
  (H:∀h' R',Kp F G h h'->Dq F G h' L ops {t with s:=jh t.s x} R'->K h') :
  cP CS fy [.agg w,.ptr L.lu 0,.ptr L.jP 0] h λd e=>(h.next<=e.next/\yU (jK 3 1 1 (V.I 0) [(0,d)]) e λo f a=>((a.get e.next=some o/\O.beq o o=true)/\(ez (.ptr L.iE 0) a=some R.vk/\fg (eR 3 1 8 R.vk f a) λg i=>(a.next<=i.next/\fg (gJ 1 (.ptr L.iE 0) g i) λ_ m=>(i.next<=m.next/\K m))))):=by
 have hv:=b.v;have hc:=b.c;refine Vw q.D q.hq r (by omega) (by omega) λu R1 j y k l=>⟨j.next,?_⟩
 have z:Dq F G u L ops {t with s:=put t.s x} R1:=q.step j y (by simp_all) q.gl k rfl;rw[<-l];exact zaP z (b.put x) (by omega) λA R2 B C=>H A R2 (j.trans B λ_ h=>h) C
theorem Ky{x:Vl}{w:List V}(q:Dq F G h L ops t R){n:Nat}(d:Sm t.s n)(f:n<999)(g:eV.rel F h x w){K:fo}
  (H:∀h' R',Kp F G h h'->R'.vk=R.vk->Dq F G h' L ops {t with s:=put t.s x} R'->K (.I t.s.ef.length) h'):cP CS fy [.agg w,.ptr L.lu 0,.ptr L.jP 0] h K:=by
 have hv:=d.v;have hc:=d.c;exact Vw q.D q.hq g (by omega) (by omega) λi R1 e j a b=>H i R1 e b (q.step e j (by simp_all) q.gl a rfl)
theorem OG(q:Dq F G h L ops t R)(c:ops.length<9223372036854775808){n:Nat}(a:Sm t.s n)(d:n<1000){K:fo}
  (H:∀h' l o,Kp F (gm G L.oG) h h'->Dq F G h' L ops {t with s:=(fL ops t.s).2} R->l<h'.next->gG 1 R.vk (.I ((draw ops t.s.pos t.s.known.length).1:Nat))=some (.ptr l o)->ez (.ptr l o) h' = some (.I ((fL ops t.s).1:Nat))->K (.I ((draw ops t.s.pos t.s.known.length).1:Nat)) h') :
  cP CS fm [.I t.s.known.length,.ptr L.oG 0,.ptr L.lr 0] h K:=by
 refine ze q a.k0 (by have:=a.k;omega) c λe f b=>?_;obtain⟨l,o,g,_,j,m⟩:=b.HW (i:=(draw ops t.s.pos t.s.known.length).1) (zg _ _ a.k0);exact H e l o f b g j m
theorem zcY{b:Bk}{nv:V}(q:Dq F G h L ops t R){n:Nat}(hn:t.blocks.length<1000)(K:b.ef=[])(M:b.eQ=[])(a:ie eN F h b.next nv)
  (H:∀F' h' R',(∀l,F l->F' l)->Kp F G h h'->Dq F' G h' L ops {s:={t.s with cur:=[]},blocks:=t.blocks++[⟨t.s.cur,b.fin,b.cond,b.next,t.eQ,b.state⟩],eQ:=[]} R'->Q (.I t.blocks.length) h') :
  cP CS kQ [.agg (lB b .ee nv .ee),.ptr L.jP 0,.ptr L.lu 0] h Q:=by
 refine Fe rfl rfl ?_;unfold xo;have N:gv (lB b .ee nv .ee)=true:=by simp only[lB,eo,a.one];rfl
 have O:∀l,G l->l<h.next:=λl e=>(q.D.gx l e).1;have P:∀i l,comp L.lu L.iE L.jP R i l->l<h.next:=λi l e=>(q.D.sig e).2.1;have fresh:∀l,h.next<=l->¬F l/\¬G l/\∀i,¬comp L.lu L.iE L.jP R i l:=λl e=>⟨λT=>by have:=q.D.fl l T;omega,by grind,by grind⟩
 have u:=q.D.grow (mw.new h (.cells 43 1 true false (lB b .ee nv .ee)));have U:=q.D.Ai (.cells 43 1 true false (lB b .ee nv .ee));have W:(h.new (.cells 43 1 true false (lB b .ee nv .ee))).get h.next=_:=fh _ _;have f:h.next<(h.new (.cells 43 1 true false (lB b .ee nv .ee))).next:=Pv _;simp only[FH N,fE,fS,iL,zO,wBw,u.ldC];generalize h.new (.cells 43 1 true false (lB b .ee nv .ee))=w at*;have X:=pB (o:=0) (v:=R.cc) (qj:=lB b R.cc nv .ee) W (by simp[lB]) (by rw[q.hq];exact q.D.oc.one) rfl;obtain⟨x,Y⟩:=u.other (mw.put (S:=λz=>z=h.next) (.cells 43 1 true false (lB b R.cc nv .ee)) rfl f) (by simp_all);have Z:=gq (.cells 43 1 true false (lB b R.cc nv .ee)) f;have y:h.next<(w.put h.next (.cells 43 1 true false (lB b R.cc nv .ee))).next:=f;simp only[X,ei,x.ldP,iL];generalize w.put h.next (.cells 43 1 true false (lB b R.cc nv .ee))=h2 at*;have e3:=pB (o:=4) (v:=R.vp) (qj:=lB b R.cc nv R.vp) Z (by simp[lB]) q.D.sp.one rfl;obtain⟨g,k3⟩:=x.other (mw.put (S:=λz=>z=h.next) (.cells 43 1 true false (lB b R.cc nv R.vp)) rfl y) (by simp_all);have g3:=gq (.cells 43 1 true false (lB b R.cc nv R.vp)) y;simp only[e3,ei,g.ldB,iL];generalize h2.put h.next (.cells 43 1 true false (lB b R.cc nv R.vp))=d at*;have A:gv (lB b R.cc nv R.vp)=true:=by simp only[lB,eo,a.one,q.hq,q.D.oc.one,q.D.sp.one];rfl
 have lA:fX 6 (.ptr h.next 0) d=some (.agg (lB b R.cc nv R.vp)):=DB g3 rfl;have e4:jK 43 6 1 (V.agg [V.ee,(V.I 0),(V.I 0),V.ee,V.ee,(V.I 0)]) [(0,.agg (lB b R.cc nv R.vp))]=some (.cells 43 6 true false (lB b R.cc nv R.vp),λl=> .slice l 0 1):=rW rfl rfl A;simp only[lA,iL,e4,fE];have B:=g.grow (mw.new d (.cells 43 6 true false (lB b R.cc nv R.vp)));have k4:=g.Ai (.cells 43 6 true false (lB b R.cc nv R.vp));have j:ml (d.new (.cells 43 6 true false (lB b R.cc nv R.vp))) 6 (.slice d.next 0 1)=some (1,lB b R.cc nv R.vp):=px (k:=0) rfl;have C:Kp F G h (d.new (.cells 43 6 true false (lB b R.cc nv R.vp))):=((U.trans Y λ_ h=>h).trans k3 λ_ h=>h).trans k4 λ_ h=>h;generalize d.new (.cells 43 6 true false (lB b R.cc nv R.vp))=E at*;obtain⟨sc,D5⟩:=B.flush
 have hw:eK.rel (fzc F R.vc) E ⟨t.s.cur,b.fin,b.cond,b.next,t.eQ,b.state⟩ (lB b R.cc nv R.vp):=
  ⟨R.cc,nv,R.vp,rfl,by rw[q.hq];exact sc,(a.fi λl e=>C.fi l (.inl e)).mono λ_ h=> .inl h,B.sp.mono λ_ h=> .inl h⟩
 obtain ⟨I,h5,h6,a1,a2,a3,a4,k6,J⟩:=D5.zf1 (ys:=[⟨t.s.cur,b.fin,b.cond,b.next,t.eQ,b.state⟩]) j ⟨lB b R.cc nv R.vp,[],by simp,hw,trivial⟩ rfl A (by simp) (by simp;omega);have m:eR 43 6 96 R.vb (.slice d.next 0 1) E=some (.val I h5):=a1;have e7:fW [V.ee,(V.I 0),(V.I 0),V.ee,V.ee,(V.I 0)] [(0,1),(1,1),(2,1),(3,1),(4,1),(5,1)] []=some (.agg [.ee,.I 0,.I 0,.ee,.ee,.I 0]):=rfl;have e8:=Iu (n:=6) (ws:=[.ee,.I 0,.I 0,.ee,.ee,.I 0]) J.gb rfl rfl rfl;obtain⟨k7,r⟩:=J.zcy (c:= .ee) (p:= .ee) (ps:=[]) .nil;have lb:fD I=some (.I ((t.blocks.length+1:Nat):Int)):=by
  have:=r.ob.len;simpa using this
 simp only[m,ei,a3,e7,iL,e8,r.ldB,lb,pI,PU (n:=t.blocks.length) (by omega)];have kb:=(C.trans (F':=fzc F R.vc) k6 λ_ h=> .inl h).trans (F':=fzc F R.vc) k7 λ_ h=> .inl h;exact H (fzc F R.vc) _ _ (λ_ h=> .inl h) kb (q.step kb r (λ_ h=> .inl h) q.gl rfl rfl)
end
