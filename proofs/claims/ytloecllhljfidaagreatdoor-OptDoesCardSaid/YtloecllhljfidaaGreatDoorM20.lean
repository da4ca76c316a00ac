/- Parts. -/
import Derived.Test.YtloecllhljfidaaGreatDoorM18
import Derived.Test.YtloecllhljfidaaGreatDoorM15
set_option maxHeartbeats 4000000
namespace Go.Proofs.YtloecllhljfidaaGreatDoor.Hx
open Un
variable{A B:Prop}{t:Nat}{w:List V}{K:V->Prop}{a:Int}{s:Ds}{x:Vl}
theorem EY{e:Nat}(a:gj w=true):mi e (.agg w)=some (.cells e 1 true false w,λl=> .ptr l 0):=by
 unfold mi
 grind[mI,gj,V.cells]
theorem nM{e sz:Nat}{z:List V}(b:z.length=sz)(a:w.length=sz)(c:gj w=true):iS e sz 1 (.agg z) [(0,.agg w)]=some (.cells e sz true false w,λl=> .slice l 0 1):=by
 unfold iS;have hs:qB (Nat.mul 0 sz) (CU 1 (V.agg z).cells) (V.agg w).cells=some w:=by
  show qB (0*sz) (z++[]) w=some w;rw[Nat.zero_mul,Lg,Ar (by omega),wBz,UA,List.drop_of_length_le (by omega),Lg]
 simp[FT,ft];rw[mI _ (by rw[show(V.agg w).cells=w from rfl,a];simp_all)]
 simp_all
theorem PM{n:Nat}(h:n<1000000000):lO .i64 (((n+1:Nat):Int)-1)=(n:Nat):=by
 grind[qi,sO]
theorem zgB{n k:Nat}(h:n<1000000000)(hk:k<1000000000):lO .i64 (((n:Nat):Int)+(k:Nat))=((n+k:Nat):Int):=by
 grind[qi,sO]
theorem zfo{n:Nat}(h:n<1000000000):lO .i64 (((n:Nat):Int)+1)=((n+1:Nat):Int):=by
 grind[qi,sO]
theorem zaA(t:Nat)(k:IntKind)(a b:Int)(hb:b≠0):ez .rem t (.int k a) (.int k b)=some (.int k (a.tmod b)):=by
 have c:hint .rem k a b=some (.int k (a.tmod b)):=by
  cases b with
  | ofNat n=>cases n with
    |zero=>simp_all
    |succ n=>rfl
  |negSucc n=>rfl
 cases k <;> exact c
theorem Kk{n:Int}{m:Nat}{h:Hp}{Q:fq}(f:0<m)(d:m<=1000000000)(H:Q (.I (mJ n m:Nat)) h):cP CS iD [.I n,.I m] h Q:=by
 refine GB ?_;have g : -(m:Int)<n.tmod m:=by
  have:=Int.tmod_lt_of_pos (-n) (b:=(m:Int)) (by omega);rw[Int.neg_tmod]at this;omega
 simp[zaA _ _ _ (m:Int) (by omega),iQ];unfold mJ at H;split
 ·rename_i a;rw[if_pos a]at H;have e:lO .i64 (n.tmod m+m)=n.tmod m+m:=by grind[qi,sO]
  simp[ e];refine xu ?_;unfold lZ;rw[Int.toNat_of_nonneg (by omega)]at H;exact H
 ·rename_i c;rw[if_neg c]at H;refine xu ?_;unfold lZ;rw[Int.toNat_of_nonneg (by omega)]at H;exact H
section
variable{F G:Nat->Prop}{h:Hp}{lu iA jx:Nat}{t:Dt}{R:Rw}{Q:fq}
theorem Dw.YG(D:Dw F G h lu iA jx t R):fe (.ptr lu 2) h=some R.vv:=kP D.gu rfl
theorem Dw.ldB(D:Dw F G h lu iA jx t R):fe (.ptr lu 3) h=some R.vb:=kP D.gu rfl
theorem Dw.ldS(D:Dw F G h lu iA jx t R):fe (.ptr lu 4) h=some R.vs:=kP D.gu rfl
theorem Dw.AW(D:Dw F G h lu iA jx t R):fe (.ptr iA 0) h=some R.vk:=kP D.gk rfl
theorem Dw.ldC(D:Dw F G h lu iA jx t R):fe (.ptr jx 0) h=some R.cc:=kP D.gb rfl
theorem Dw.ldP(D:Dw F G h lu iA jx t R):fe (.ptr jx 4) h=some R.vp:=kP D.gb rfl
theorem UZ(D:Dw F G h lu iA jx t R)(hq:R.cc=R.vc)(d:eV.rel F h x w)(hv:t.s.ej.length<1000)(hc:t.s.cur.length<1000)
  (H:∀h' R',Kp F G h h'->Dw F G h' lu iA jx {t with s:=put t.s x} R'->R'.cc=R'.vc->R'.vk=R.vk->Q (.I t.s.ej.length) h') :
  cP CS fK [.agg w,.ptr lu 0,.ptr jx 0] h Q:=by
 refine Ez ?_;have a:=eV.one d;have b:w.length=6:=eV.len d;have e:=D.grow (lP.new h (.cells 45 1 true false w));have n:=D.zN (.cells 45 1 true false w);have q:fO 6 (.ptr h.next 0) (h.new (.cells 45 1 true false w))=some (.agg w):=DD (fm _ _) b;have r:iS 45 6 1 (V.agg [(V.I 0),(V.I 0),(V.I 0),(V.I 0),V.ei,(V.I 0)]) [(0,.agg w)]=some (.cells 45 6 true false w,λl=> .slice l 0 1):=nM rfl b a;simp only[EY a,fu,gf,iQ,e.YG,q,r];generalize u:h.new (.cells 45 1 true false w)=f at*;have v:=e.grow (lP.new f (.cells 45 6 true false w));have o:=e.zN (.cells 45 6 true false w);have g:=eV.fk (λl y=>(n.trans o λ_ h=>h).fk l (.inl y)) d;have i:kX (f.new (.cells 45 6 true false w)) 6 (.slice f.next 0 1)=some (1,w):=by grind[mU]
 let⟨v',I,j,a1,a2,a3,a4,z,D4⟩:=v.zge (ys:=[x]) i ⟨w,[],by simp,g,trivial⟩ (by omega) a (by simp) (by simp;omega)
 have lc:((t.s.ej++[x]).length:Nat)=t.s.ej.length+1:=by simp
 have lv:=D4.ov.len;simp only[lc]at lv;simp only[a1,en,a3,D4.ldC,D4.YG,iQ,lv,pI];have p:lO .i64 (((t.s.ej.length+1:Nat):Int)-1)=(t.s.ej.length:Nat):=PM (by omega);have A:iS 3 1 1 (V.I 0) [(0,V.I t.s.ej.length)]=some (.cells 3 1 true false [V.I t.s.ej.length],λl=> .slice l 0 1):=rfl;simp only[p,A,fu,hq];have B:=D4.grow (lP.new j (.cells 3 1 true false [V.I t.s.ej.length]));have C:=D4.zN (.cells 3 1 true false [V.I t.s.ej.length]);have k:kX (j.new (.cells 3 1 true false [V.I t.s.ej.length])) 1 (.slice j.next 0 1)=some (1,[V.I t.s.ej.length]):=mU rfl
 let⟨J,K,L,b1,b2,b3,M,E,D7⟩:=B.zgl (ys:=[t.s.ej.length]) k ⟨[V.I t.s.ej.length],[],rfl,rfl,trivial⟩ rfl rfl (by simp) (by simp;omega)
 have c:=D7.ov.len;simp only[lc]at c;have m:=b1;simp only[m,en,b3,D7.YG,iQ,c,pI,p];exact H _ _ ((((n.trans o λ_ h=>h).trans z λ_ h=>h).trans C λ_ h=>h).trans E λ_ h=>h) D7 rfl rfl
end
open Un
structure Lc where
 lr:Nat
 lu:Nat
 iA:Nat
 jx:Nat
 Aa:Nat
 oY:Nat
 qQ:Nat
 WQ:Nat
def zdR(L:Lc):V:= .func fK [] [.ptr L.lu 0,.ptr L.jx 0]
def W4(L:Lc):V:= .func fD [] [.ptr L.oY 0,.ptr L.lr 0]
def Vn(L:Lc):V:= .func gz [] [.ptr L.lu 0,.ptr L.qQ 0,.ptr L.iA 0]
structure Dq (F G:Nat->Prop) (h:Hp) (L:Lc) (ops:List Int) (t:Dt) (R:Rw):Prop where
 D:Dw F G h L.lu L.iA L.jx t R
 hq:R.cc=R.vc
 gl:G L.oY
 ga:h.get L.oY=some (.cells eR 1 true false [.I t.s.pos])
 fr:F L.lr
 gr:∃a vs n,h.get L.lr=some (.cells T9 1 true false [a,vs,n])/\il (eI .i64) F h ops a
 fp:F L.Aa
 gp:∃e,h.get L.Aa=some (.cells e 1 true false [zdR L])
 fn:F L.qQ
 gn:∃e,h.get L.qQ=some (.cells e 1 true false [W4 L])
 fs:F L.WQ
 gs:∃e,h.get L.WQ=some (.cells e 1 true false [Vn L])
section
variable{F F' G G':Nat->Prop}{h h':Hp}{L:Lc}{ops:List Int}{t t':Dt}{R R':Rw}{Q:fq}
theorem Dq.zcu(q:Dq F G h L ops t R)(k:∀l,F l->h'.get l=h.get l) (D':Dw F' G' h' L.lu L.iA L.jx t' R')(a:∀l,F l->F' l) (b:R'.cc=R'.vc)(c:G' L.oY)(d:h'.get L.oY=some (.cells eR 1 true false [.I t'.s.pos])):Dq F' G' h' L ops t' R' where
 D:=D'
 hq:=b
 gl:=c
 ga:=d
 fr:=a _ q.fr
 gr:=by
  let⟨vo,vs,n,e,f⟩:=q.gr
  exact⟨vo,vs,n,by rw[k _ q.fr];exact e,(f.fk k).mono a⟩
 fp:=a _ q.fp
 gp:=by rw[k _ q.fp];exact q.gp
 fn:=a _ q.fn
 gn:=by rw[k _ q.fn];exact q.gn
 fs:=a _ q.fs
 gs:=by rw[k _ q.fs];exact q.gs
theorem Dq.step(q:Dq F G h L ops t R)(k:Kp F G h h') (D':Dw F' G' h' L.lu L.iA L.jx t' R')(b:∀l,F l->F' l)(c:G' L.oY) (a:R'.cc=R'.vc)(hp:t'.s.pos=t.s.pos):Dq F' G' h' L ops t' R':=
 q.zcu (λl d=>k.fk l (.inl d)) D' b a c (by rw[k.fk _ (.inr q.gl),hp];exact q.ga)
theorem Dq.qk(q:Dq F G h L ops t R):fe (.ptr L.Aa 0) h=some (zdR L):=by let⟨e,hg⟩:=q.gp;exact kP hg rfl
theorem Dq.xY(q:Dq F G h L ops t R):fe (.ptr L.qQ 0) h=some (W4 L):=by let⟨e,hg⟩:=q.gn;exact kP hg rfl
theorem Dq.KN(q:Dq F G h L ops t R):fe (.ptr L.WQ 0) h=some (Vn L):=by let⟨e,hg⟩:=q.gs;exact kP hg rfl
theorem Dq.Ib(q:Dq F G h L ops t R){i:Nat}(hi:i<t.s.known.length):∃l o,l<h.next/\(F l\/Loc R.vk l)/\gB 1 R.vk (.I i)=some (.ptr l o)/\fe (.ptr l o) h=some (.I (t.s.known.getD i 0:Nat)):=by
 let⟨l,o,u,hl,a,b,c⟩:=q.D.ok.read.Wd hi .i64 rfl
 refine⟨l,o,hl.elim (q.D.fl l) λh=>(q.D.ok.vV h).2.1,hl,a,?_⟩;rw[b];have:[u]=[V.I (t.s.known[i]:Nat)]:=c;rw[CH,gN hi];simpa using this
theorem Dw.Z7{lu iA jx:Nat}(D:Dw F G h lu iA jx t R)(a:∀l,G' l->G l\/(l<h.next/\¬F l/\∀i,¬comp lu iA jx R i l)):Dw F G' h lu iA jx t R:=
 {D with gx:=λl b=>(a l b).elim (D.gx l) id}
def gm(G:Nat->Prop)(a:Nat):Nat->Prop:=λl=>G l/\l≠a
theorem Kp.gm(k:Kp F G h h')(a:Nat):Kp F (Hx.gm G a) h h':=⟨k.next,λl b=>k.fk l (b.imp id λh=>h.1)⟩
def setPos(t:Dt)(p:Nat):Dt:={t with s:={t.s with pos:=p} }
theorem yR{m:Nat}(q:Dq F G h L ops t R)(g:0<m)(j:m<=100000000)(C:ops.length<9223372036854775808)
  (H:∀h',Kp F (gm G L.oY) h h'->Dq F G h' L ops (setPos t (draw ops t.s.pos m).2) R->Q (.I ((draw ops t.s.pos m).1:Nat)) h') :
  cP CS fD [.I m,.ptr L.oY 0,.ptr L.lr 0] h Q:=by
 refine EE ?_
 let⟨vo,vs,n,gr,so⟩:=q.gr
 have k:fe (.ptr L.oY 0) h=some (.I t.s.pos):=kP q.ga rfl;have l1:fe (.ptr L.lr 0) h=some vo:=kP gr rfl;simp[k,iQ,l1,so.len];have a:=q.D.gx _ q.gl;split
 ·rename_i p;have e:draw ops t.s.pos m=(0,t.s.pos):=by
   unfold draw;rw[Q9 (by omega)]
  rw[e]at H;exact H h (Kp.refl _ _ _) q
 ·rename_i c;have c:t.s.pos<ops.length:=by omega
  have e:draw ops t.s.pos m=(mJ ops[t.s.pos] m,t.s.pos+1):=by
   unfold draw;rw[gN c]
  rw[e]at H;have r:lO .i64 ((t.s.pos:Int)+1)=((t.s.pos+1:Nat):Int):=by rw[qi (by simp[sO];omega)];omega
  have v:=o0 (o:=0) (qY:=[.I ((t.s.pos+1:Nat):Int)]) q.ga (by simp) rfl rfl;have hc:lP (λl=>l=L.oY) h (h.put L.oY (.cells eR 1 true false [.I ((t.s.pos+1:Nat):Int)])):=lP.put _ rfl a.1;have d:∀l,F l->(h.put L.oY (.cells eR 1 true false [.I ((t.s.pos+1:Nat):Int)])).get l=h.get l:=λl b=>gI _ a.1 λe=>a.2.1 (e▸b);have l2:fe (.ptr L.lr 0) (h.put L.oY (.cells eR 1 true false [.I ((t.s.pos+1:Nat):Int)]))=some vo:=kP (by rw[d _ q.fr];exact gr) rfl;have l3:fe (.ptr L.oY 0) (h.put L.oY (.cells eR 1 true false [.I ((t.s.pos+1:Nat):Int)]))=some (.I ((t.s.pos+1:Nat):Int)):=kP (fY _ a.1) rfl;have w:lO .i64 (((t.s.pos+1:Nat):Int)-1)=(t.s.pos:Nat):=by rw[qi (by simp[sO];omega)];omega
  let⟨l,o,u,_,x,y,z⟩:=(so.fk d).Wd c .i64 rfl
  obtain⟨rfl⟩:u = .I ops[t.s.pos]:=by simpa using z.1
  simp only[ r,iQ,v,en,l2,l3,pI,w,x,y];refine Kk g (by omega) (H _ ⟨hc.next,λl b=>b.elim (d l) λb=>gI _ a.1 λe=>b.2 e.symm⟩ ?_);have A:Dw F (gm G L.oY) h L.lu L.iA L.jx t R:={q.D with gx:=λl b=>q.D.gx l b.1}
  have D':=(A.other hc λl b=>by subst b;exact⟨a.2.1,λB=>B.2 rfl,a.2.2⟩).1;refine q.zcu d ?_ (λ_ h=>h) q.hq q.gl (fY _ a.1);have f:∀l,G l->_:=λl b=>if e:l=L.oY then e▸(⟨a.1,a.2.1,a.2.2⟩:_/\_/\∀i,¬comp L.lu L.iA L.jx R i L.oY) else D'.gx l ⟨b,e⟩
  exact{D' with gx:=f}
def gp(G:Nat->Prop)(v:V)(p:Nat):Nat->Prop:=λl=>G l\/l=p\/Loc v l
theorem CV(l:List Nat)(h:0<l.length):l.getD (l.length-1) 0=l.getLastD 0:=by
 rw[List.getLastD_eq_getLast?,List.getLast?_eq_getElem?,CH]
theorem Oq(q:Dq F G h L ops t R)(hk:0<t.s.known.length)(aM:t.s.known.length<1000)(hs:t.s.eo.length<1000)(ho:ops.length<9223372036854775808)
  (H:∀F' h' R',(∀l,F l->F' l)->Kp F (gm G L.oY) h h'->Dq F' G h' L ops {t with s:=(fN ops t.s).2} R'->R'.vk=R.vk->Q (.I ((fN ops t.s).1:Nat)) h') :
  cP CS gz [.ptr L.lu 0,.ptr L.qQ 0,.ptr L.iA 0] h Q:=by
 refine FB ?_;have aL:=(q.D.gx _ q.gl).1;have al:∀l,G l->l<h.next:=λl f=>(q.D.gx l f).1;have am:∀i l,comp L.lu L.iA L.jx R i l->l<h.next:=λi l f=>(q.D.sig f).2.1;have eb:fT [(V.I 0),(V.I 0),V.ei,V.ei] [(0,1),(1,1),(2,1),(3,1)] [(0,(V.I 1)),(1,.I t.s.eo.length)]=some (.agg [.I 1,.I t.s.eo.length,.ei,.ei]):=rfl;have U:(h.new (.cells 49 1 true false [(V.I 0),(V.I 0),V.ei,V.ei])).get h.next=some (.cells 49 1 true false [(V.I 0),(V.I 0),V.ei,V.ei]):=fm _ _;have e1:=Ie (n:=4) (ws:=[.I 1,.I t.s.eo.length,.ei,.ei]) U rfl rfl rfl;simp only[gf,iQ,C7,q.D.ldS,q.D.os.len,eb,fu,e1,en];have K:h.next<(h.new (.cells 49 1 true false [(V.I 0),(V.I 0),V.ei,V.ei])).next:=Pf _
 have c2:lP (λl=>l=h.next) h ((h.new (.cells 49 1 true false [(V.I 0),(V.I 0),V.ei,V.ei])).put h.next (.cells 49 1 true false [.I 1,.I t.s.eo.length,.ei,.ei])):=
  (lP.new _ _).trans (lP.put _ rfl K)
 have g2:=fY (h:=h.new (.cells 49 1 true false [(V.I 0),(V.I 0),V.ei,V.ei])) (.cells 49 1 true false [.I 1,.I t.s.eo.length,.ei,.ei]) K;have n2:((h.new (.cells 49 1 true false [(V.I 0),(V.I 0),V.ei,V.ei])).put h.next (.cells 49 1 true false [.I 1,.I t.s.eo.length,.ei,.ei])).next=h.next+1:=rfl;generalize ((h.new (.cells 49 1 true false [(V.I 0),(V.I 0),V.ei,V.ei])).put h.next (.cells 49 1 true false [.I 1,.I t.s.eo.length,.ei,.ei]))=h2 at*;clear U e1 K;have fresh:∀l,h.next<=l->¬F l/\¬G l/\∀i,¬comp L.lu L.iA L.jx R i l:=λl f=>⟨λhf=>by have:=q.D.fl l hf;omega,λhg=>by have:=al l hg;omega,λi hi=>by have:=am i l hi;omega⟩
 obtain ⟨W,k2⟩:=q.D.other c2 (λl f=>by subst f;exact fresh _ (iZ _));have X:Dw F (gp G .ei h.next) h2 L.lu L.iA L.jx t R:=W.Z7 λl f=>f.elim .inl λf=> .inr (by
  rcases f with rfl|f
  ·exact⟨by omega,(fresh _ (iZ _)).1,(fresh _ (iZ _)).2.2⟩
  ·exact f.elim)
 have q2:Dq F (gp G .ei h.next) h2 L ops t R:=q.step k2 X (λ_ h=>h) (.inl q.gl) q.hq rfl;rw[q2.xY];simp only[iQ,W4,JA,Mh,UA,Lg];refine yR (m:=4) q2 (by decide) (by decide) ho λy k3 q3=>?_;have g3:y.get h.next=some (.cells 49 1 true false [.I 1,.I t.s.eo.length,.ei,.ei]):=by
  rw[k3.fk _ (.inr ⟨.inr (.inl rfl),by omega⟩)];exact g2
 have hr:(draw ops t.s.pos 4).1<4:=yS _ _ (by decide)
 refine BJ (λk x0 x1 x2 x4 x5 h'=>∃(s:Ds) (l:List Nat) (vl:V),x0 = .ptr L.lu 0/\x1 = .ptr L.qQ 0/\x2 = .ptr L.iA 0/\x4 = .ptr h.next 0/\x5 = .I (k:Nat)/\Dq F (gp G vl h.next) h' L ops {t with s:=s} R/\Kp F (gm G L.oY) h h'/\
  h'.get h.next=some (.cells 49 1 true false [.I 1,.I t.s.eo.length,vl,.ei])/\kV eN eR F h' l vl/\(∀z,Loc vl z->h.next<z)/\some_ ops k s l=some_ ops (draw ops t.s.pos 4).1 (num ops t.s 4).2 []/\s.known=t.s.known/\s.eo=t.s.eo/\l.length+k<=4) ?_
  ⟨(num ops t.s 4).2,[],.ei,rfl,rfl,rfl,rfl,rfl,q3,(k2.gm L.oY).trans ⟨k3.next,λl f=>k3.fk l (f.imp id λf=>⟨.inl f.1,f.2⟩)⟩ (λ_ h=>h),g3,.nil,λ_ h=>h.elim,rfl,rfl,rfl,by simp;omega⟩
 clear q3 k3 g3 q2 X W k2 g2 c2 eb;rintro k x0 x1 x2 x4 x5 h' ⟨s,l,vl,rfl,rfl,rfl,rfl,rfl,j,k',gF,ol,P,p,r,A,hlen⟩;unfold nt;have an:fe (.ptr h.next 2) h' = some vl:=kP gF rfl;have kl:({t with s:=s}:Dt).s.known.length=t.s.known.length:=by show s.known.length=_;rw[r]
 have Y:h.next<h'.next:=(j.D.gx h.next (.inr (.inl rfl))).1;have Z:∀{g:Hp} {s1:Ds},Dq F (gp G vl h.next) g L ops {t with s:=s1} R->Dw F G g L.lu L.iA L.jx {t with s:=s1} R:=λq=>{q.D with gx:=λl f=>q.D.gx l (.inl f)}
 simp only[nN,iQ,ZG,zX]
 cases k with
 | succ k=>
   rw[if_pos (by omega)];have lk:=j.D.ok.len;rw[kl]at lk;rw[j.xY];simp only[gf,iQ,C7,an,j.D.AW,lk,W4,JA,Mh,UA,Lg];refine yR (m:=t.s.known.length) j hk (by omega) ho λg u I=>?_;have ao:g.get h.next=some (.cells 49 1 true false [.I 1,.I (t.s.eo.length:Nat),vl,.ei]):=by
     rw[u.fk _ (.inr ⟨.inr (.inl rfl),by omega⟩)];exact gF
   have aa:kV eN eR F g l vl:=ol.fk (λz b=>u.fk z (.inl b)) (λz b=>u.fk z (.inr ⟨.inr (.inr b),by have:=P z b;omega⟩)) u.next;have ap:(draw ops s.pos t.s.known.length).1<t.s.known.length:=yS _ _ hk;obtain⟨l1,o1,ab,ac,i1,i2⟩:=I.Ib (i:=(draw ops s.pos t.s.known.length).1) (by show _<s.known.length;rw[r];exact ap);have B:fe (.ptr l1 o1) g=some (.I (s.known.getD (draw ops s.pos t.s.known.length).1 0:Nat)):=i2;refine⟨u.next,?_⟩;have e3:∀a:Nat,iS 3 1 1 (V.I 0) [(0,V.I (a:Nat))]=some (.cells 3 1 true false [V.I (a:Nat)],λl=> .slice l 0 1):=λ_=>rfl;have aq:gB 1 R.vk (.I ((draw ops ({t with s:=s}:Dt).s.pos t.s.known.length).1:Nat))=some (.ptr l1 o1):=i1;simp only[aq,B,iQ,e3,gO];generalize hv:s.known.getD (draw ops s.pos t.s.known.length).1 0=a at*;have W:=(Z I).grow (lP.new g (.cells 3 1 true false [V.I (a:Nat)]));have ad:(g.new (.cells 3 1 true false [V.I (a:Nat)])).get h.next=_:=(fo _ (by have:=u.next;omega)).trans ao;refine⟨⟨fm _ _,O.kE _ _ _ _ _⟩,ij B (fo _ ab),W.AW,kP ad rfl,?_⟩;have ar:kV eN eR F (g.new (.cells 3 1 true false [V.I (a:Nat)])) l vl:=aa.fk (λz b=>fo _ (I.D.fl z b)) (λz b=>fo _ (aa.vV b).2.1) (PH _);have hx:kX (g.new (.cells 3 1 true false [V.I (a:Nat)])) 1 (.slice g.next 0 1)=some (1,[V.I (a:Nat)]):=mU (k:=0) rfl;obtain⟨d,y,a1,ae,c3,au⟩:=ar.append (jL:=8) (ys:=[a]) hx ⟨[V.I (a:Nat)],[],rfl,rfl,trivial⟩ rfl rfl (by simp) (by decide) (λz b=>wBf (I.D.fl z b)) (by simp;omega) (by simp;omega);have n2:(g.new (.cells 3 1 true false [V.I (a:Nat)])).next=g.next+1:=rfl;have w:h.next<y.next:=by have:=c3.next;have:=u.next;omega
   have aw:y.get h.next=some (.cells 49 1 true false [.I 1,.I (t.s.eo.length:Nat),vl,.ei]):=by
     rw[c3.fk _ (by have:=u.next;omega) λb=>wBc _ (P _ b)];exact ad
   have a2:=o0 (o:=2) (v:=d) (qY:=[.I 1,.I (t.s.eo.length:Nat),d,.ei]) aw (by simp) ae.one rfl;have ax:fi 3 1 8 vl (.slice g.next 0 1) (g.new (.cells 3 1 true false [V.I (a:Nat)]))=some (.val d y):=a1;have w1:lO .i64 (((k+1:Nat):Int)-1)=(k:Nat):=PM (by omega);simp only[ax,en,a2,pI,w1,iQ];refine⟨c3.next,iZ _,k,by omega,?_⟩
   have cc:lP (λz=>Loc vl z\/z=h.next) (g.new (.cells 3 1 true false [V.I (a:Nat)])) (y.put h.next (.cells 49 1 true false [.I 1,.I (t.s.eo.length:Nat),d,.ei])):=
     (c3.ZC λ_ _ h=> .inl h).trans (lP.put _ (.inr rfl) w)
   obtain⟨D4,k4⟩:=W.other cc λz b=>fresh z (by rcases b with b|rfl;exact Nat.le_of_lt (P z b);exact iZ _);have M:∀z,Loc d z->h.next<z:=λz b=>(au z b).elim (P z) λe=>by have:=u.next;omega
   have ag:kV eN eR F (y.put h.next (.cells 49 1 true false [.I 1,.I (t.s.eo.length:Nat),d,.ei])) (l++[a]) d:=
     ae.fk (λz b=>gI _ w λe=>(fresh h.next (iZ _)).1 (e▸b)) (λz b=>gI _ w (by have:=M z b;omega)) (iZ _)
   have ay:Dw F (gp G d h.next) (y.put h.next (.cells 49 1 true false [.I 1,.I (t.s.eo.length:Nat),d,.ei])) L.lu L.iA L.jx _ R:=D4.Z7 λz b=>b.elim .inl λb=> .inr (by
     rcases b with rfl|b
     ·exact⟨w,(fresh _ (iZ _)).1,(fresh _ (iZ _)).2.2⟩
     ·have C:=fresh z (Nat.le_of_lt (M z b));exact⟨(ag.vV b).2.1,C.1,C.2.2⟩)
   have kk:Kp F G g (y.put h.next (.cells 49 1 true false [.I 1,.I (t.s.eo.length:Nat),d,.ei])):=
     (Kp.new F G g _ I.D.fl λz b=>(I.D.gx z (.inl b)).1).trans k4 λ_ h=>h
   have qG:Dq F G g L ops _ R:={I with D:=Z I,gl:=q.gl}
   refine⟨{s with pos:=(draw ops s.pos t.s.known.length).2},l++[a],d,by trivial,by trivial,by trivial,by trivial,by trivial,qG.step kk ay (λ_ h=>h) (.inl q.gl) j.hq rfl,?_,fY _ w,ag,M,?_,r,A,by simp;omega⟩
   ·exact(k'.trans ⟨u.next,λz b=>u.fk z (b.imp id λb=>⟨.inl b.1,b.2⟩)⟩ λ_ h=>h).trans (kk.gm _) λ_ h=>h
   ·rw[<-p,<-hv]
    show _=some_ ops k (fQ ops s).2 (l++[(fQ ops s).1]);unfold fQ
    rw[r]
 | zero=>
   rw[if_neg (by omega)];obtain⟨e1,e2⟩:l=(some_ ops (draw ops t.s.pos 4).1 (num ops t.s 4).2 []).1/\s=(some_ ops (draw ops t.s.pos 4).1 (num ops t.s 4).2 []).2:=by rw[<-p];exact⟨rfl,rfl⟩
   have lk:=j.D.ok.len;rw[kl]at lk;have w1:lO .i64 (((t.s.known.length:Nat):Int)-1)=((t.s.known.length-1:Nat):Int):=by
     rw[show((t.s.known.length:Nat):Int)=((t.s.known.length-1+1:Nat):Int) by omega];exact PM (by omega)
   obtain ⟨l1,o1,ab,ac,i1,i2⟩:=j.Ib (i:=t.s.known.length-1) (by rw[kl];omega);have B:fe (.ptr l1 o1) h' = some (.I (t.s.known.getLastD 0:Nat)):=by
     rw[i2,show({t with s:=s}:Dt).s.known=t.s.known from r,CV _ hk]
   have e3:∀a:Nat,iS 3 1 1 (V.I 0) [(0,V.I (a:Nat))]=some (.cells 3 1 true false [V.I (a:Nat)],λl=> .slice l 0 1):=λ_=>rfl;simp only[j.D.AW,iQ,lk,pI,w1,i1,B,e3,fu,gf,C7];have D5:=(Z j).grow (lP.new h' (.cells 3 1 true false [V.I (t.s.known.getLastD 0:Nat)]));have k5:Kp F G h' (h'.new (.cells 3 1 true false [V.I (t.s.known.getLastD 0:Nat)])):=(Z j).zN _;have g5:(h'.new (.cells 3 1 true false [V.I (t.s.known.getLastD 0:Nat)])).get h'.next=_:=fm _ _;have aA:(h'.new (.cells 3 1 true false [V.I (t.s.known.getLastD 0:Nat)])).get h.next=_:=(fo _ Y).trans gF;have aB:kV eN eR F (h'.new (.cells 3 1 true false [V.I (t.s.known.getLastD 0:Nat)])) l vl:=ol.fk (λz b=>fo _ (j.D.fl z b)) (λz b=>fo _ (ol.vV b).2.1) (PH _);have n5:(h'.new (.cells 3 1 true false [V.I (t.s.known.getLastD 0:Nat)])).next=h'.next+1:=rfl;generalize h'.new (.cells 3 1 true false [V.I (t.s.known.getLastD 0:Nat)])=C at*;have a1:=o0 (o:=3) (v:= .slice h'.next 0 1) (qY:=[.I 1,.I (t.s.eo.length:Nat),vl,.slice h'.next 0 1]) aA (by simp) rfl rfl;have E:h.next<C.next:=by omega
   obtain⟨D6,k6⟩:=D5.other (lP.put (S:=λz=>z=h.next) (.cells 49 1 true false [.I 1,.I (t.s.eo.length:Nat),vl,.slice h'.next 0 1]) rfl E) λz b=>by subst b;exact fresh _ (iZ _)
   have aC:=fY (.cells 49 1 true false [.I 1,.I (t.s.eo.length:Nat),vl,.slice h'.next 0 1]) E;have g6:(C.put h.next (.cells 49 1 true false [.I 1,.I (t.s.eo.length:Nat),vl,.slice h'.next 0 1])).get h'.next=_:=(gI _ E (by omega)).trans g5;have ah:kV eN eR F (C.put h.next (.cells 49 1 true false [.I 1,.I (t.s.eo.length:Nat),vl,.slice h'.next 0 1])) l vl:=aB.fk (λz b=>k6.fk z (.inl b)) (λz b=>gI _ E (by have:=P z b;omega)) (iZ _);have n6:(C.put h.next (.cells 49 1 true false [.I 1,.I (t.s.eo.length:Nat),vl,.slice h'.next 0 1])).next=C.next:=rfl;simp only[a1,en];generalize C.put h.next (.cells 49 1 true false [.I 1,.I (t.s.eo.length:Nat),vl,.slice h'.next 0 1])=c at*;have lA:fO 4 (.ptr h.next 0) c=some (.agg [.I 1,.I (t.s.eo.length:Nat),vl,.slice h'.next 0 1]):=DD aC rfl;have ow:gj [.I 1,.I (t.s.eo.length:Nat),vl,.slice h'.next 0 1]=true:=by simp only[eQ,ol.one];rfl
   have e7:iS 49 4 1 (V.agg [(V.I 0),(V.I 0),V.ei,V.ei]) [(0,.agg [.I 1,.I (t.s.eo.length:Nat),vl,.slice h'.next 0 1])]=some (.cells 49 4 true false [.I 1,.I (t.s.eo.length:Nat),vl,.slice h'.next 0 1],λl=> .slice l 0 1):=nM rfl rfl ow;have e8:∀m:Nat,fT [V.ei] [(0,1)] [(0,.slice m 0 1)]=some (.agg [.slice m 0 1]):=λ_=>rfl;have e9:∀m:Nat,iS 52 1 1 (V.agg [V.ei]) [(0,.agg [.slice m 0 1])]=some (.cells 52 1 true false [.slice m 0 1],λl=> .slice l 0 1):=λm=>nM rfl rfl rfl;simp only[D6.ldS,iQ,lA,e7,fu,e8,e9];have D7:=D6.grow (lP.new c (.cells 49 4 true false [.I 1,.I (t.s.eo.length:Nat),vl,.slice h'.next 0 1]));have k7:=D6.zN (.cells 49 4 true false [.I 1,.I (t.s.eo.length:Nat),vl,.slice h'.next 0 1]);have g7:(c.new (.cells 49 4 true false [.I 1,.I (t.s.eo.length:Nat),vl,.slice h'.next 0 1])).get c.next=_:=fm _ _;have aD:(c.new (.cells 49 4 true false [.I 1,.I (t.s.eo.length:Nat),vl,.slice h'.next 0 1])).get h'.next=_:=(fo _ (by omega)).trans g6;have ai:kV eN eR F (c.new (.cells 49 4 true false [.I 1,.I (t.s.eo.length:Nat),vl,.slice h'.next 0 1])) l vl:=ah.fk (λz b=>fo _ (D6.fl z b)) (λz b=>fo _ (ah.vV b).2.1) (PH _);have n7:(c.new (.cells 49 4 true false [.I 1,.I (t.s.eo.length:Nat),vl,.slice h'.next 0 1])).next=c.next+1:=rfl;generalize c.new (.cells 49 4 true false [.I 1,.I (t.s.eo.length:Nat),vl,.slice h'.next 0 1])=x at*;have D8:=D7.grow (lP.new x (.cells 52 1 true false [.slice c.next 0 1]));have k8:=D7.zN (.cells 52 1 true false [.slice c.next 0 1]);have g8:(x.new (.cells 52 1 true false [.slice c.next 0 1])).get c.next=_:=(fo _ (by omega)).trans g7;have aE:(x.new (.cells 52 1 true false [.slice c.next 0 1])).get h'.next=_:=(fo _ (by omega)).trans aD;have aj:kV eN eR F (x.new (.cells 52 1 true false [.slice c.next 0 1])) l vl:=ai.fk (λz b=>fo _ (D7.fl z b)) (λz b=>fo _ (ai.vV b).2.1) (PH _);have aF:kX (x.new (.cells 52 1 true false [.slice c.next 0 1])) 1 (.slice x.next 0 1)=some (1,[.slice c.next 0 1]):=mU (k:=0) rfl;have n8:(x.new (.cells 52 1 true false [.slice c.next 0 1])).next=x.next+1:=rfl;generalize x.new (.cells 52 1 true false [.slice c.next 0 1])=T at*;have D9:Dw (λz=>F z\/Loc vl z\/z=h'.next\/z=c.next) G T L.lu L.iA L.jx {t with s:=s} R:=D8.more (λ_ h=> .inl h) λz b=>b.elim .inl λb=> .inr (by
     have aG:h.next<z/\z<T.next:=by
       rcases b with b|rfl|rfl
       ·exact⟨P z b,(aj.vV b).2.1⟩
       ·omega
       ·omega
     have h9:=fresh z (by omega);exact⟨aG.2,h9.2.2,h9.2.1⟩)
   have sl:il eN (λz=>F z\/Loc vl z\/z=h'.next\/z=c.next) T l vl:=aj.slR (λ_ h=> .inl h) λ_ h=> .inr (.inl h)
   have ss:il eN (λz=>F z\/Loc vl z\/z=h'.next\/z=c.next) T [t.s.known.getLastD 0] (.slice h'.next 0 1):=
     .inr ⟨h'.next,0,3,true,false,[V.I (t.s.known.getLastD 0:Nat)],rfl,.inr (.inr (.inl rfl)),aE,.inr rfl,Mr _,⟨_,[],rfl,rfl,trivial⟩⟩
   have sf:il eF (λz=>F z\/Loc vl z\/z=h'.next\/z=c.next) T [⟨1,(t.s.eo.length:Nat),l,[t.s.known.getLastD 0]⟩] (.slice c.next 0 1):=
     .inr ⟨c.next,0,49,true,false,[.I 1,.I (t.s.eo.length:Nat),vl,.slice h'.next 0 1],rfl,.inr (.inr (.inr rfl)),g8,.inr rfl,Mr _,⟨_,[],rfl,⟨vl,_,rfl,sl,ss⟩,trivial⟩⟩
   obtain⟨v',h9,ak,b1,b2,b3,b4,k9,N⟩:=D9.zgA (ys:=[[⟨1,(t.s.eo.length:Nat),l,[t.s.known.getLastD 0]⟩]]) aF ⟨[.slice c.next 0 1],[],rfl,⟨_,rfl,sf⟩,trivial⟩ rfl rfl (by simp) (by show s.eo.length+_<_;rw[A];simp;omega);have aH:fi 52 1 24 R.vs (.slice x.next 0 1) T=some (.val v' h9):=b1;have lS:=N.os.len;have aI:((s.eo++[[(⟨1,(t.s.eo.length:Nat),l,[t.s.known.getLastD 0]⟩:Fm)]]).length:Nat)=t.s.eo.length+1:=by rw[A];simp
   have aJ:fE v' = some (.I ((t.s.eo.length+1:Nat):Int)):=by rw[<-aI];exact lS
   have w2:lO .i64 (((t.s.eo.length+1:Nat):Int)-1)=(t.s.eo.length:Nat):=PM (by omega);simp only[aH,en,b3,N.ldS,iQ,aJ,pI,w2];have J:Kp F G h' ak:=(((k5.trans k6 λ_ h=>h).trans k7 λ_ h=>h).trans k8 λ_ h=>h).trans ⟨k9.next,λz b=>k9.fk z (b.imp (λh=> .inl h) id)⟩ λ_ h=>h;have qG:Dq F G h' L ops _ R:={j with D:=Z j,gl:=q.gl}
   have hE:({t with s:=(fN ops t.s).2}:Dt) = {t with s:={s with eo:=s.eo++[[⟨1,(t.s.eo.length:Nat),l,[t.s.known.getLastD 0]⟩]]} }:=by
     unfold fN;rw[e1,A,e2];rfl
   have aK:=qG.step J N (λ_ h=> .inl h) q.gl j.hq rfl;refine H (λz=>F z\/Loc vl z\/z=h'.next\/z=c.next) ak {R with vs:=v'} (λ_ h=> .inl h) (k'.trans (J.gm _) λ_ h=>h) ?_ rfl;rw[hE];exact aK
end
open Un
theorem Uj{k:IntKind}{b:Int}(h:if a<b then A else B):oP (ez .lss t (.int k a) (.int k b)) λv=>bP v A B:=by
 simp_all
theorem fX{k:IntKind}{b:Int}(h:if a=b then A else B):oP (ez .eql t (.int k a) (.int k b)) λv=>bP v A B:=by
 simp_all
theorem AQ{k:IntKind}{b:Int}(h:if b<a then A else B):oP (ez .gtr t (.int k a) (.int k b)) λv=>bP v A B:=by
 simp_all
theorem ka{n m:Nat}(a:n<1000000000)(b:m<1000000000)(H:K (.I ((n+m:Nat):Int))):oP (ez .add t (.I n) (.I m)) K:=by
 grind[nT,zgB,iQ]
theorem sR{n:Nat}(a:n<1000000000)(h0:0<n)(H:K (.I ((n-1:Nat):Int))):oP (ez .sub t (.I n) (.I 1)) K:=by
 obtain⟨m,rfl⟩:∃m,n=m+1:=by simp_all
 grind[pI,PM,iQ]
theorem fW{c B:Prop}[Decidable c] (hc:c)(h:A):if c then A else B:=by simp_all
theorem fP{c:Prop}[Decidable c] (hc:¬c)(h:B):if c then A else B:=by simp_all
theorem fF{n:Nat}(H:K (.I ((n+1:Nat):Int)))(h:n<1000000000:=by omega):oP (ez .add t (.I n) (.I 1)) K:=ka h (by decide) H
theorem gy{k:IntKind}{b:Int}{B:Prop}(H:A)(h:a<b:=by omega):oP (ez .lss t (.int k a) (.int k b)) λv=>bP v A B:=Uj (fW h H)
theorem hY{k:IntKind}{b:Int}(H:B)(h:¬a<b:=by omega):oP (ez .lss t (.int k a) (.int k b)) λv=>bP v A B:=Uj (fP h H)
section
variable{F F' G G':Nat->Prop}{h h':Hp}{L:Lc}{ops:List Int}{t t':Dt}{R R':Rw}{Q:fq}
theorem rZ{α:Type}{l:List α}{x:α}{n:Nat}(h:l.length<=n):(l++[x]).length<=n+1:=by simp_all
structure Sm (s:Ds) (n:Nat):Prop where
 v:s.ej.length<=n
 c:s.cur.length<=n
 k:s.known.length<=n
 st:s.eo.length<=n
 k0:0<s.known.length
theorem Sm.le{n m:Nat}(a:Sm s n)(h:n<=m):Sm s m:=⟨Gq a.v h,Gq a.c h,Gq a.k h,Gq a.st h,a.k0⟩
theorem Sm.put{n:Nat}(a:Sm s n)(x:Vl):Sm (put s x) (n+1):=
 ⟨rZ a.v,rZ a.c,wBK a.k,wBK a.st,a.k0⟩
theorem Sm.iO{n:Nat}(a:Sm s n)(x:Vl):Sm (iO s x) (n+1):=
 ⟨rZ a.v,rZ a.c,
  rZ a.k,wBK a.st,by show 0<(s.known++[s.ej.length]).length;simp_all⟩
theorem Sm.pos{n:Nat}(a:Sm s n)(p:Nat):Sm {s with pos:=p} n:=⟨a.v,a.c,a.k,a.st,a.k0⟩
theorem Sm.state{n:Nat}(a:Sm s n)(ops:List Int):Sm (fN ops s).2 (n+1):=by
 have hp:∃p,(some_ ops (num ops s 4).1 (num ops s 4).2 []).2 = {s with pos:=p}:=by
  let⟨p,h⟩:=Hv ops (num ops s 4).1 (num ops s 4).2 []
  exact⟨p,h⟩
 let⟨p,hp⟩:=hp
 unfold fN;simp[hp];exact⟨wBK a.v,wBK a.c,wBK a.k,rZ a.st,a.k0⟩
theorem zby(q:Dq F G h L ops t R){n a:Nat}(m:Sm t.s n)(p:n<1000){K:Hp->Prop}
  (H:∀h' R',Kp F G h h'->Dq F G h' L ops {t with s:={t.s with known:=t.s.known++[a]} } R'->K h') :
  xB (iS 3 1 1 (V.I 0) [(0,.I a)]) h λo c b=>((b.get h.next=some o/\O.beq o o=true)/\(fe (.ptr L.iA 0) b=some R.vk/\fj (fi 3 1 8 R.vk c b) λd e=>(b.next<=e.next/\fj (gq 1 (.ptr L.iA 0) d e) λ_ g=>(e.next<=g.next/\K g)))):=by
 have r:iS 3 1 1 (V.I 0) [(0,V.I a)]=some (.cells 3 1 true false [V.I a],λl=> .slice l 0 1):=rfl;rw[r,gO];have i:=q.D.grow (lP.new h (.cells 3 1 true false [V.I a]));have hx:kX (h.new (.cells 3 1 true false [V.I a])) 1 (.slice h.next 0 1)=some (1,[V.I a]):=mU rfl
 let⟨v',v,w,a1,a2,a3,a4,u,D4⟩:=i.zdy (ys:=[a]) hx ⟨[V.I a],[],rfl,rfl,trivial⟩ rfl rfl (by simp) (by have:=m.k;simp;omega)
 have f:=a1;refine⟨by grind[fm,O.kE],i.AW,?_⟩;simp[f,en,a3];have j:=(q.D.zN (.cells 3 1 true false [V.I a])).trans u λ_ h=>h;exact⟨a2,a4,H _ _ j (q.step j D4 (by simp_all) q.gl q.hq rfl)⟩
theorem Ir(q:Dq F G h L ops t R){n:Nat}(b:Sm t.s n)(p:n<999)(r:eV.rel F h x w){K:Hp->Prop}
  (H:∀h' R',Kp F G h h'->Dq F G h' L ops {t with s:=iO t.s x} R'->K h') :
  cP CS fK [.agg w,.ptr L.lu 0,.ptr L.jx 0] h λd e=>(h.next<=e.next/\xB (iS 3 1 1 (V.I 0) [(0,d)]) e λo f a=>((a.get e.next=some o/\O.beq o o=true)/\(fe (.ptr L.iA 0) a=some R.vk/\fj (fi 3 1 8 R.vk f a) λg i=>(a.next<=i.next/\fj (gq 1 (.ptr L.iA 0) g i) λ_ m=>(i.next<=m.next/\K m))))):=by
 have hv:=b.v;have hc:=b.c;refine UZ q.D q.hq r (by omega) (by omega) λE I j u k l=>⟨j.next,?_⟩
 have y:=q.step j u (by simp_all) q.gl k rfl;rw[<-l];exact zby y (b.put x) (by omega) λz A B C=>H z A (j.trans B λ_ h=>h) C
theorem KY(q:Dq F G h L ops t R){n:Nat}(d:Sm t.s n)(f:n<999)(g:eV.rel F h x w){K:fq}
  (H:∀h' R',Kp F G h h'->R'.vk=R.vk->Dq F G h' L ops {t with s:=put t.s x} R'->K (.I t.s.ej.length) h'):cP CS fK [.agg w,.ptr L.lu 0,.ptr L.jx 0] h K:=by
 have hv:=d.v;have hc:=d.c;exact UZ q.D q.hq g (by omega) (by omega) λi j e k a b=>H i j e b (q.step e k (by simp_all) q.gl a rfl)
theorem Nw(q:Dq F G h L ops t R)(c:ops.length<9223372036854775808){n:Nat}(a:Sm t.s n)(d:n<1000){K:fq}
  (H:∀h' l o,Kp F (gm G L.oY) h h'->Dq F G h' L ops {t with s:=(fQ ops t.s).2} R->l<h'.next->gB 1 R.vk (.I ((draw ops t.s.pos t.s.known.length).1:Nat))=some (.ptr l o)->fe (.ptr l o) h' = some (.I ((fQ ops t.s).1:Nat))->K (.I ((draw ops t.s.pos t.s.known.length).1:Nat)) h') :
  cP CS fD [.I t.s.known.length,.ptr L.oY 0,.ptr L.lr 0] h K:=by
 refine yR q a.k0 (by have:=a.k;omega) c λe f b=>?_
 let⟨l,o,hl,_,g,j⟩:=b.Ib (i:=(draw ops t.s.pos t.s.known.length).1) (yS _ _ a.k0)
 exact H e l o f b hl g j
theorem zed{b:Bk}{nv:V}(q:Dq F G h L ops t R){n:Nat}(hn:t.blocks.length<1000)(x:b.ej=[])(y:b.fh=[])(a:il eN F h b.next nv)
  (H:∀F' h' R',(∀l,F l->F' l)->Kp F G h h'->Dq F' G h' L ops {s:={t.s with cur:=[]},blocks:=t.blocks++[⟨t.s.cur,b.fin,b.cond,b.next,t.fh,b.state⟩],fh:=[]} R'->Q (.I t.blocks.length) h') :
  cP CS mA [.agg (ku b .ei nv .ei),.ptr L.jx 0,.ptr L.lu 0] h Q:=by
 refine ED ?_;have z:gj (ku b .ei nv .ei)=true:=by simp only[ku,eQ,a.one];rfl
 have A:=λl e=>(q.D.gx l e).1;have B:∀i l,comp L.lu L.iA L.jx R i l->l<h.next:=λi l e=>(q.D.sig e).2.1;have fresh:∀l,h.next<=l->¬F l/\¬G l/\∀i,¬comp L.lu L.iA L.jx R i l:=λl e=>⟨λC=>by have:=q.D.fl l C;omega,by grind,by grind⟩
 have k:=q.D.grow (lP.new h (.cells 43 1 true false (ku b .ei nv .ei)));have E:=q.D.zN (.cells 43 1 true false (ku b .ei nv .ei));have I:(h.new (.cells 43 1 true false (ku b .ei nv .ei))).get h.next=_:=fm _ _;have f:h.next<(h.new (.cells 43 1 true false (ku b .ei nv .ei))).next:=Pf _;simp[EY z,fu,k.ldC];generalize h.new (.cells 43 1 true false (ku b .ei nv .ei))=m at*;have J:=o0 (o:=0) (qY:=ku b R.cc nv .ei) I (by simp[ku]) (by rw[q.hq];exact q.D.oc.one) rfl
 let⟨D2,K⟩:=k.other (lP.put (.cells 43 1 true false (ku b R.cc nv .ei)) rfl f) (by simp_all)
 have M:=fY (.cells 43 1 true false (ku b R.cc nv .ei)) f;have p:h.next<(m.put h.next (.cells 43 1 true false (ku b R.cc nv .ei))).next:=f;simp[J,en,D2.ldP];generalize m.put h.next (.cells 43 1 true false (ku b R.cc nv .ei))=N at*;have O:=o0 (o:=4) (qY:=ku b R.cc nv R.vp) M (by simp[ku]) q.D.sp.one rfl
 let⟨D3,P⟩:=D2.other (lP.put (.cells 43 1 true false (ku b R.cc nv R.vp)) rfl p) (by simp_all)
 have S:=fY (.cells 43 1 true false (ku b R.cc nv R.vp)) p;simp[O,en,D3.ldB];generalize N.put h.next (.cells 43 1 true false (ku b R.cc nv R.vp))=d at*;have r:gj (ku b R.cc nv R.vp)=true:=by simp only[ku,eQ,a.one,q.hq,q.D.oc.one,q.D.sp.one];rfl
 have T:fO 6 (.ptr h.next 0) d=some (.agg (ku b R.cc nv R.vp)):=DD S rfl;have U:iS 43 6 1 (V.agg [V.ei,(V.I 0),(V.I 0),V.ei,V.ei,(V.I 0)]) [(0,.agg (ku b R.cc nv R.vp))]=some (.cells 43 6 true false (ku b R.cc nv R.vp),λl=> .slice l 0 1):=nM rfl rfl r;simp[T,iQ,U];have u:=D3.grow (lP.new d (.cells 43 6 true false (ku b R.cc nv R.vp)));have W:=D3.zN (.cells 43 6 true false (ku b R.cc nv R.vp));have g:kX (d.new (.cells 43 6 true false (ku b R.cc nv R.vp))) 6 (.slice d.next 0 1)=some (1,ku b R.cc nv R.vp):=mU rfl;have v:Kp F G h (d.new (.cells 43 6 true false (ku b R.cc nv R.vp))):=((E.trans K λ_ h=>h).trans P λ_ h=>h).trans W λ_ h=>h;generalize d.new (.cells 43 6 true false (ku b R.cc nv R.vp))=w at*
 let⟨sc,D5⟩:=u.flush
 have X:eK.rel (fzc F R.vc) w ⟨t.s.cur,b.fin,b.cond,b.next,t.fh,b.state⟩ (ku b R.cc nv R.vp):=
  ⟨R.cc,nv,R.vp,rfl,by rw[q.hq];exact sc,(a.fk λl e=>v.fk l (.inl e)).mono λ_ h=> .inl h,u.sp.mono λ_ h=> .inl h⟩
 let⟨v',Y,h6,a1,a2,a3,a4,Z,D6⟩:=D5.zgg (ys:=[⟨t.s.cur,b.fin,b.cond,b.next,t.fh,b.state⟩]) g ⟨ku b R.cc nv R.vp,[],by simp,X,trivial⟩ rfl r (by simp) (by simp;omega)
 have j:fi 43 6 96 R.vb (.slice d.next 0 1) w=some (.val v' Y):=a1;have e7:fT [V.ei,(V.I 0),(V.I 0),V.ei,V.ei,(V.I 0)] [(0,1),(1,1),(2,1),(3,1),(4,1),(5,1)] []=some (.agg [.ei,.I 0,.I 0,.ei,.ei,.I 0]):=rfl;have e8:=Ie (n:=6) (ws:=[.ei,.I 0,.I 0,.ei,.ei,.I 0]) D6.gb rfl rfl rfl
 let⟨k7,D7⟩:=D6.zc6 (c:= .ei) .nil
 have lb:fE v' = some (.I ((t.blocks.length+1:Nat):Int)):=by
  have:=D7.ob.len;simpa using this
 simp only[j,en,a3,e7,iQ,e8,D7.ldB,lb,pI,PM (n:=t.blocks.length) (by omega)];have kb:=(v.trans Z λ_ h=> .inl h).trans k7 λ_ h=> .inl h;exact H (fzc F R.vc) _ _ (λ_ h=> .inl h) kb (q.step kb D7 (λ_ h=> .inl h) q.gl rfl rfl)
end
