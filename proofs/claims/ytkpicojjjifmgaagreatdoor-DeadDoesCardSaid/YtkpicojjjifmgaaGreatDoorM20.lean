/- Parts. -/
import Derived.Test.YtkpicojjjifmgaaGreatDoorM18
import Derived.Test.YtkpicojjjifmgaaGreatDoorM19
import Derived.Test.YtkpicojjjifmgaaGreatDoorM15
namespace Go.Proofs.YtkpicojjjifmgaaGreatDoor.Hx
open Un
theorem Dz{e:Nat}{w:List V}(a:gG w=true):lX e (.agg w)=some (.cells e 1 true false w,λl=> .ptr l 0):=by
 unfold lX;rw[mC _ (show gG (V.agg w).cells=true from a)];rfl
theorem qa{e sz:Nat}{z w:List V}(c:z.length=sz)(a:w.length=sz)(b:gG w=true):jG e sz 1 (.agg z) [(0,.agg w)]=some (.cells e sz true false w,λl=> .slice l 0 1):=by
 unfold jG;have hs:pV (Nat.mul 0 sz) (BO 1 (V.agg z).cells) (V.agg w).cells=some w:=by
  show pV (0*sz) (z++[]) w=some w;rw[Nat.zero_mul,GP,Cg (by omega),wBv,No,zA,List.drop_of_length_le (by omega),GP]
 simp only[Cl,fi,hs];rw[mC _ (show Nat.beq (V.agg w).cells.length sz=true by rw[show(V.agg w).cells=w from rfl,a];exact Tn _)];simp only[fi];rw[mC _ b]
theorem NM{n:Nat}(h:n<1000000000):mb .i64 (((n+1:Nat):Int)-1)=(n:Nat):=by
 rw[pK (by simp only[tI];omega)];omega
theorem zd2{n k:Nat}(h:n<1000000000)(a:k<1000000000):mb .i64 (((n:Nat):Int)+(k:Nat))=((n+k:Nat):Int):=by
 rw[pK (by simp only[tI];omega)];omega
theorem zdp{n:Nat}(h:n<1000000000):mb .i64 (((n:Nat):Int)+1)=((n+1:Nat):Int):=by
 rw[pK (by simp only[tI];omega)];omega
theorem W3(t:Nat)(k:IntKind)(a b:Int)(c:b≠0):ev .rem t (.int k a) (.int k b)=some (.int k (a.tmod b)):=by
 have d:hint .rem k a b=some (.int k (a.tmod b)):=by
  cases b with
  | ofNat n=>cases n with
    |zero=>exact absurd rfl c
    |succ n=>rfl
  |negSucc n=>rfl
 cases k <;> exact d
theorem Lw{n:Int}{m:Nat}{h:Hp}{Q:fy}(f:0<m)(d:m<=1000000000)(H:Q (.I (mK n m:Nat)) h):cP CS iM [.I n,.I m] h Q:=by
 refine Fk rfl rfl ?_;unfold yo;have g:=Int.tmod_lt_of_pos n (b:=(m:Int)) (by omega);have i : -(m:Int)<n.tmod m:=by
  have:=Int.tmod_lt_of_pos (-n) (b:=(m:Int)) (by omega);rw[Int.neg_tmod]at this;omega
 simp only[W3 _ _ _ (m:Int) (by omega),gX,jO,yz,BP];unfold mK at H;split
 ·rename_i a;rw[if_pos a]at H;have e:mb .i64 (n.tmod m+m)=n.tmod m+m:=pK (by simp only[tI];omega);simp only[mZ,e,gX];refine vJ ?_;unfold oX;rw[Int.toNat_of_nonneg (by omega)]at H;exact H
 ·rename_i c;rw[if_neg c]at H;refine vJ ?_;unfold oX;rw[Int.toNat_of_nonneg (by omega)]at H;exact H
section
variable{F G:Nat->Prop}{h:Hp}{lu iA jN:Nat}{t:Dt}{R:Rw}{Q:fy}
theorem Dw.V2(D:Dw F G h lu iA jN t R):eQ (.ptr lu 2) h=some R.vv:=lQ D.gu rfl
theorem Dw.YN(D:Dw F G h lu iA jN t R):eQ (.ptr lu 3) h=some R.vb:=lQ D.gu rfl
theorem Dw.ldS(D:Dw F G h lu iA jN t R):eQ (.ptr lu 4) h=some R.vs:=lQ D.gu rfl
theorem Dw.Au(D:Dw F G h lu iA jN t R):eQ (.ptr iA 0) h=some R.vk:=lQ D.gk rfl
theorem Dw.ldC(D:Dw F G h lu iA jN t R):eQ (.ptr jN 0) h=some R.cc:=lQ D.gb rfl
theorem Dw.ldP(D:Dw F G h lu iA jN t R):eQ (.ptr jN 4) h=some R.vp:=lQ D.gb rfl
theorem Ss{x:Vl}{w:List V}(D:Dw F G h lu iA jN t R)(hq:R.cc=R.vc)(g:eV.rel F h x w)(hv:t.s.eh.length<1000)(hc:t.s.cur.length<1000)
  (H:∀h' R',Kp F G h h'->Dw F G h' lu iA jN {t with s:=put t.s x} R'->R'.cc=R'.vc->R'.vk=R.vk->Q (.I t.s.eh.length) h') :
  cP CS fF [.agg w,.ptr lu 0,.ptr jN 0] h Q:=by
 refine DD rfl rfl ?_;unfold w7;have b:=eV.one g;have a:w.length=6:=eV.len g;have i:=D.grow (mA.new h (.cells 45 1 true false w));have q:=D.zh (.cells 45 1 true false w);have v:fY 6 (.ptr h.next 0) (h.new (.cells 45 1 true false w))=some (.agg w):=CJ (fj _ _) a;have y:jG 45 6 1 (V.agg [(V.I 0),(V.I 0),(V.I 0),(V.I 0),V.ef,(V.I 0)]) [(0,.agg w)]=some (.cells 45 6 true false w,λl=> .slice l 0 1):=qa rfl a b;simp only[Dz b,fG,fe,gX,zA,i.V2,v,y];generalize z:h.new (.cells 45 1 true false w)=f at*;have A:=i.grow (mA.new f (.cells 45 6 true false w));have r:=i.zh (.cells 45 6 true false w);have j:eV.rel F (f.new (.cells 45 6 true false w)) x w:=eV.fm (λl B=>(q.trans r λ_ h=>h).fm l (.inl B)) g;have m:lU (f.new (.cells 45 6 true false w)) 6 (.slice f.next 0 1)=some (1,w):=oG (k:=0) (by rw[a]);obtain⟨N,O,c,a1,a2,a3,a4,C,d⟩:=A.zd9 (ys:=[x]) m ⟨w,[],by simp,j,trivial⟩ (by rw[a];rfl) b (by simp) (by simp;omega);have lc:((t.s.eh++[x]).length:Nat)=t.s.eh.length+1:=by simp
 have lv:=d.ov.len;simp only[lc]at lv;simp only[a1,ei,a3,d.ldC,d.V2,gX,lv,pS];have u:mb .i64 (((t.s.eh.length+1:Nat):Int)-1)=(t.s.eh.length:Nat):=NM (by omega);have E:jG 3 1 1 (V.I 0) [(0,V.I t.s.eh.length)]=some (.cells 3 1 true false [V.I t.s.eh.length],λl=> .slice l 0 1):=rfl;simp only[u,E,fG,hq];have I:=d.grow (mA.new c (.cells 3 1 true false [V.I t.s.eh.length]));have J:=d.zh (.cells 3 1 true false [V.I t.s.eh.length]);have n:lU (c.new (.cells 3 1 true false [V.I t.s.eh.length])) 1 (.slice c.next 0 1)=some (1,[V.I t.s.eh.length]):=oG (k:=0) rfl;obtain⟨K,L,P,b1,b2,b3,S,M,o⟩:=I.zdV (ys:=[t.s.eh.length]) n ⟨[V.I t.s.eh.length],[],rfl,rfl,trivial⟩ rfl rfl (by simp) (by simp;omega);have e:=o.ov.len;simp only[lc]at e;have p:fg 3 1 8 R.vc (.slice c.next 0 1) (c.new (.cells 3 1 true false [V.I t.s.eh.length]))=some (.val K L):=b1;simp only[p,ei,b3,o.V2,gX,e,pS,u];exact H _ _ ((((q.trans r λ_ h=>h).trans C λ_ h=>h).trans J λ_ h=>h).trans M λ_ h=>h) o rfl rfl
end
open Un
structure Lc where
 lr:Nat
 lu:Nat
 iA:Nat
 jN:Nat
 zL:Nat
 nR:Nat
 qf:Nat
 Ua:Nat
def zbR(L:Lc):V:= .func fF [] [.ptr L.lu 0,.ptr L.jN 0]
def TW(L:Lc):V:= .func fq [] [.ptr L.nR 0,.ptr L.lr 0]
def Tx(L:Lc):V:= .func fW [] [.ptr L.lu 0,.ptr L.qf 0,.ptr L.iA 0]
structure Dq (F G:Nat->Prop) (h:Hp) (L:Lc) (ops:List Int) (t:Dt) (R:Rw):Prop where
 D:Dw F G h L.lu L.iA L.jN t R
 hq:R.cc=R.vc
 gl:G L.nR
 ga:h.get L.nR=some (.cells eJ 1 true false [.I t.s.pos])
 fr:F L.lr
 gr:∃vo vs n,h.get L.lr=some (.cells QN 1 true false [vo,vs,n])/\iq (eI .i64) F h ops vo
 fp:F L.zL
 gp:∃e,h.get L.zL=some (.cells e 1 true false [zbR L])
 fn:F L.qf
 gn:∃e,h.get L.qf=some (.cells e 1 true false [TW L])
 fs:F L.Ua
 gs:∃e,h.get L.Ua=some (.cells e 1 true false [Tx L])
section
variable{F F' G G':Nat->Prop}{h h':Hp}{L:Lc}{ops:List Int}{t t':Dt}{R R':Rw}{Q:fy}
theorem Dq.zay(q:Dq F G h L ops t R)(k:∀l,F l->h'.get l=h.get l) (D':Dw F' G' h' L.lu L.iA L.jN t' R')(a:∀l,F l->F' l) (b:R'.cc=R'.vc)(c:G' L.nR)(d:h'.get L.nR=some (.cells eJ 1 true false [.I t'.s.pos])):Dq F' G' h' L ops t' R' where
 D:=D'
 hq:=b
 gl:=c
 ga:=d
 fr:=a _ q.fr
 gr:=by
  obtain⟨vo,vs,n,e,f⟩:=q.gr;exact⟨vo,vs,n,by rw[k _ q.fr];exact e,(f.fm k).mono a⟩
 fp:=a _ q.fp
 gp:=by rw[k _ q.fp];exact q.gp
 fn:=a _ q.fn
 gn:=by rw[k _ q.fn];exact q.gn
 fs:=a _ q.fs
 gs:=by rw[k _ q.fs];exact q.gs
theorem Dq.step(q:Dq F G h L ops t R)(k:Kp F G h h') (D':Dw F' G' h' L.lu L.iA L.jN t' R')(b:∀l,F l->F' l)(c:G' L.nR) (a:R'.cc=R'.vc)(hp:t'.s.pos=t.s.pos):Dq F' G' h' L ops t' R':=
 q.zay (λl d=>k.fm l (.inl d)) D' b a c (by rw[k.fm _ (.inr q.gl),hp];exact q.ga)
theorem Dq.pN(q:Dq F G h L ops t R):eQ (.ptr L.zL 0) h=some (zbR L):=by obtain⟨e,a⟩:=q.gp;exact lQ a rfl
theorem Dq.wE(q:Dq F G h L ops t R):eQ (.ptr L.qf 0) h=some (TW L):=by obtain⟨e,a⟩:=q.gn;exact lQ a rfl
theorem Dq.Jb(q:Dq F G h L ops t R):eQ (.ptr L.Ua 0) h=some (Tx L):=by obtain⟨e,a⟩:=q.gs;exact lQ a rfl
theorem Dq.Gb(q:Dq F G h L ops t R){i:Nat}(hi:i<t.s.known.length):∃l o,l<h.next/\(F l\/Loc R.vk l)/\gJ 1 R.vk (.I i)=some (.ptr l o)/\eQ (.ptr l o) h=some (.I (t.s.known.getD i 0:Nat)):=by
 obtain⟨l,o,u,a,b,c,d⟩:=q.D.ok.read.TS hi .i64 rfl;refine⟨l,o,a.elim (q.D.fl l) λh=>(q.D.ok.wq h).2.1,a,b,?_⟩;rw[c];have:[u]=[V.I (t.s.known[i]:Nat)]:=d;rw[G2,hO hi];simpa using this
theorem Dw.Wn{lu iA jN:Nat}(D:Dw F G h lu iA jN t R)(a:∀l,G' l->G l\/(l<h.next/\¬F l/\∀i,¬comp lu iA jN R i l)):Dw F G' h lu iA jN t R:=
 {D with gx:=λl b=>(a l b).elim (D.gx l) id}
def gm(G:Nat->Prop)(a:Nat):Nat->Prop:=λl=>G l/\l≠a
theorem Kp.gm(k:Kp F G h h')(a:Nat):Kp F (Hx.gm G a) h h':=⟨k.next,λl b=>k.fm l (b.imp id λh=>h.1)⟩
def setPos(t:Dt)(p:Nat):Dt:={t with s:={t.s with pos:=p} }
theorem yi{m:Nat}(q:Dq F G h L ops t R)(j:0<m)(k:m<=100000000)(I:ops.length<9223372036854775808)
  (H:∀h',Kp F (gm G L.nR) h h'->Dq F G h' L ops (setPos t (draw ops t.s.pos m).2) R->Q (.I ((draw ops t.s.pos m).1:Nat)) h') :
  cP CS fq [.I m,.ptr L.nR 0,.ptr L.lr 0] h Q:=by
 refine Dx rfl rfl ?_;unfold vX;obtain⟨vo,vs,n,gr,g⟩:=q.gr;have p:eQ (.ptr L.nR 0) h=some (.I t.s.pos):=lQ q.ga rfl;have l1:eQ (.ptr L.lr 0) h=some vo:=lQ gr rfl;simp only[p,gX,fe,zA,l1,g.len,nW,yz,BP];have a:=q.D.gx _ q.gl;split
 ·rename_i r;have e:draw ops t.s.pos m=(0,t.s.pos):=by
   unfold draw;rw[NT (by omega)]
  rw[e]at H;exact H h (Kp.refl _ _ _) q
 ·rename_i c;have c:t.s.pos<ops.length:=by omega
  have e:draw ops t.s.pos m=(mK ops[t.s.pos] m,t.s.pos+1):=by
   unfold draw;rw[hO c]
  rw[e]at H;have w:mb .i64 ((t.s.pos:Int)+1)=((t.s.pos+1:Nat):Int):=by rw[pK (by simp only[tI];omega)];omega
  have x:=oT (o:=0) (v:= .I ((t.s.pos+1:Nat):Int)) (pD:=[.I ((t.s.pos+1:Nat):Int)]) q.ga (by simp) rfl rfl;have hc:mA (λl=>l=L.nR) h (h.put L.nR (.cells eJ 1 true false [.I ((t.s.pos+1:Nat):Int)])):=mA.put _ rfl a.1;have d:∀l,F l->(h.put L.nR (.cells eJ 1 true false [.I ((t.s.pos+1:Nat):Int)])).get l=h.get l:=λl b=>gL _ a.1 λe=>a.2.1 (e▸b);have l2:eQ (.ptr L.lr 0) (h.put L.nR (.cells eJ 1 true false [.I ((t.s.pos+1:Nat):Int)]))=some vo:=lQ (by rw[d _ q.fr];exact gr) rfl;have l3:eQ (.ptr L.nR 0) (h.put L.nR (.cells eJ 1 true false [.I ((t.s.pos+1:Nat):Int)]))=some (.I ((t.s.pos+1:Nat):Int)):=lQ (gq _ a.1) rfl;have y:mb .i64 (((t.s.pos+1:Nat):Int)-1)=(t.s.pos:Nat):=by rw[pK (by simp only[tI];omega)];omega
  obtain⟨l,o,u,_,z,A,B⟩:=(g.fm d).TS c .i64 rfl;obtain⟨rfl⟩:u = .I ops[t.s.pos]:=by simpa using B.1
  simp only[mZ,w,gX,x,ei,l2,l3,pS,y,z,A];refine Lw j (by omega) (H _ ⟨hc.next,λl b=>b.elim (d l) λb=>gL _ a.1 λe=>b.2 e.symm⟩ ?_);have C:Dw F (gm G L.nR) h L.lu L.iA L.jN t R:={q.D with gx:=λl b=>q.D.gx l b.1}
  have D':=(C.other hc λl b=>by subst b;exact⟨a.2.1,λE=>E.2 rfl,a.2.2⟩).1;refine q.zay d ?_ (λ_ h=>h) q.hq q.gl (gq _ a.1);have f:∀l,G l->_:=λl b=>if e:l=L.nR then e▸(⟨a.1,a.2.1,a.2.2⟩:_/\_/\∀i,¬comp L.lu L.iA L.jN R i L.nR) else D'.gx l ⟨b,e⟩
  exact{D' with gx:=f}
def gp(G:Nat->Prop)(v:V)(p:Nat):Nat->Prop:=λl=>G l\/l=p\/Loc v l
theorem yg(l:List Nat)(h:0<l.length):l.getD (l.length-1) 0=l.getLastD 0:=by
 rw[List.getLastD_eq_getLast?,List.getLast?_eq_getElem?,G2]
theorem My(q:Dq F G h L ops t R)(hk:0<t.s.known.length)(aN:t.s.known.length<1000)(hs:t.s.en.length<1000)(ho:ops.length<9223372036854775808)
  (H:∀F' h' R',(∀l,F l->F' l)->Kp F (gm G L.nR) h h'->Dq F' G h' L ops {t with s:=(fJ ops t.s).2} R'->R'.vk=R.vk->Q (.I ((fJ ops t.s).1:Nat)) h') :
  cP CS fW [.ptr L.lu 0,.ptr L.qf 0,.ptr L.iA 0] h Q:=by
 refine Ed rfl rfl ?_;unfold wF;have aM:=(q.D.gx _ q.gl).1;have am:∀l,G l->l<h.next:=λl f=>(q.D.gx l f).1;have an:∀i l,comp L.lu L.iA L.jN R i l->l<h.next:=λi l f=>(q.D.sig f).2.1;have eb:fV [(V.I 0),(V.I 0),V.ef,V.ef] [(0,1),(1,1),(2,1),(3,1)] [(0,(V.I 1)),(1,.I t.s.en.length)]=some (.agg [.I 1,.I t.s.en.length,.ef,.ef]):=rfl;have U:(h.new (.cells 49 1 true false [(V.I 0),(V.I 0),V.ef,V.ef])).get h.next=some (.cells 49 1 true false [(V.I 0),(V.I 0),V.ef,V.ef]):=fj _ _;have e1:=Gf (n:=4) (ws:=[.I 1,.I t.s.en.length,.ef,.ef]) U rfl rfl rfl;simp only[fe,gX,zA,q.D.ldS,q.D.os.len,eb,fG,e1,ei];have K:h.next<(h.new (.cells 49 1 true false [(V.I 0),(V.I 0),V.ef,V.ef])).next:=Mm _
 have c2:mA (λl=>l=h.next) h ((h.new (.cells 49 1 true false [(V.I 0),(V.I 0),V.ef,V.ef])).put h.next (.cells 49 1 true false [.I 1,.I t.s.en.length,.ef,.ef])):=
  (mA.new _ _).trans (mA.put _ rfl K)
 have g2:=gq (h:=h.new (.cells 49 1 true false [(V.I 0),(V.I 0),V.ef,V.ef])) (.cells 49 1 true false [.I 1,.I t.s.en.length,.ef,.ef]) K;have n2:((h.new (.cells 49 1 true false [(V.I 0),(V.I 0),V.ef,V.ef])).put h.next (.cells 49 1 true false [.I 1,.I t.s.en.length,.ef,.ef])).next=h.next+1:=rfl;generalize ((h.new (.cells 49 1 true false [(V.I 0),(V.I 0),V.ef,V.ef])).put h.next (.cells 49 1 true false [.I 1,.I t.s.en.length,.ef,.ef]))=h2 at*;clear U e1 K;have fresh:∀l,h.next<=l->¬F l/\¬G l/\∀i,¬comp L.lu L.iA L.jN R i l:=λl f=>⟨λhf=>by have:=q.D.fl l hf;omega,λhg=>by have:=am l hg;omega,λi hi=>by have:=an i l hi;omega⟩
 obtain ⟨W,k2⟩:=q.D.other c2 (λl f=>by subst f;exact fresh _ (jK _));have X:Dw F (gp G .ef h.next) h2 L.lu L.iA L.jN t R:=W.Wn λl f=>f.elim .inl λf=> .inr (by
  rcases f with rfl|f
  ·exact⟨by omega,(fresh _ (jK _)).1,(fresh _ (jK _)).2.2⟩
  ·exact f.elim)
 have q2:Dq F (gp G .ef h.next) h2 L ops t R:=q.step k2 X (λ_ h=>h) (.inl q.gl) q.hq rfl;rw[q2.wE];simp only[gX,TW,xY,zR,No,GP];refine yi (m:=4) q2 (by decide) (by decide) ho λy k3 q3=>?_;have g3:y.get h.next=some (.cells 49 1 true false [.I 1,.I t.s.en.length,.ef,.ef]):=by
  rw[k3.fm _ (.inr ⟨.inr (.inl rfl),by omega⟩)];exact g2
 have hr:(draw ops t.s.pos 4).1<4:=yf _ _ (by decide)
 refine AQ (λk x0 x1 x2 x4 x5 h'=>∃(s:Ds) (l:List Nat) (vl:V),x0 = .ptr L.lu 0/\x1 = .ptr L.qf 0/\x2 = .ptr L.iA 0/\x4 = .ptr h.next 0/\x5 = .I (k:Nat)/\Dq F (gp G vl h.next) h' L ops {t with s:=s} R/\Kp F (gm G L.nR) h h'/\
  h'.get h.next=some (.cells 49 1 true false [.I 1,.I t.s.en.length,vl,.ef])/\kS eN eJ F h' l vl/\(∀z,Loc vl z->h.next<z)/\some_ ops k s l=some_ ops (draw ops t.s.pos 4).1 (num ops t.s 4).2 []/\s.known=t.s.known/\s.en=t.s.en/\l.length+k<=4) ?_
  ⟨(num ops t.s 4).2,[],.ef,rfl,rfl,rfl,rfl,rfl,q3,(k2.gm L.nR).trans ⟨k3.next,λl f=>k3.fm l (f.imp id λf=>⟨.inl f.1,f.2⟩)⟩ (λ_ h=>h),g3,.nil,λ_ h=>h.elim,rfl,rfl,rfl,by simp;omega⟩
 clear q3 k3 g3 q2 X W k2 g2 c2 eb;rintro k x0 x1 x2 x4 x5 h' ⟨s,l,vl,rfl,rfl,rfl,rfl,rfl,j,k',gF,ol,P,p,r,A,hlen⟩;unfold rC;have ao:eQ (.ptr h.next 2) h' = some vl:=lQ gF rfl;have kl:({t with s:=s}:Dt).s.known.length=t.s.known.length:=by show s.known.length=_;rw[r]
 have Y:h.next<h'.next:=(j.D.gx h.next (.inr (.inl rfl))).1;have Z:∀{g:Hp} {s1:Ds},Dq F (gp G vl h.next) g L ops {t with s:=s1} R->Dw F G g L.lu L.iA L.jN {t with s:=s1} R:=λq=>{q.D with gx:=λl f=>q.D.gx l (.inl f)}
 simp only[nQ,gX,yz,BP]
 cases k with
 | succ k=>
   rw[if_pos (by omega)];have lk:=j.D.ok.len;rw[kl]at lk;rw[j.wE];simp only[fe,gX,zA,ao,j.D.Au,lk,TW,xY,zR,No,GP];refine yi (m:=t.s.known.length) j hk (by omega) ho λg u I=>?_;have ap:g.get h.next=some (.cells 49 1 true false [.I 1,.I (t.s.en.length:Nat),vl,.ef]):=by
     rw[u.fm _ (.inr ⟨.inr (.inl rfl),by omega⟩)];exact gF
   have aa:kS eN eJ F g l vl:=ol.fm (λz b=>u.fm z (.inl b)) (λz b=>u.fm z (.inr ⟨.inr (.inr b),by have:=P z b;omega⟩)) u.next;have aq:(draw ops s.pos t.s.known.length).1<t.s.known.length:=yf _ _ hk;obtain⟨l1,o1,ab,ac,i1,i2⟩:=I.Gb (i:=(draw ops s.pos t.s.known.length).1) (by show _<s.known.length;rw[r];exact aq);have B:eQ (.ptr l1 o1) g=some (.I (s.known.getD (draw ops s.pos t.s.known.length).1 0:Nat)):=i2;refine⟨u.next,?_⟩;have e3:∀a:Nat,jG 3 1 1 (V.I 0) [(0,V.I (a:Nat))]=some (.cells 3 1 true false [V.I (a:Nat)],λl=> .slice l 0 1):=λ_=>rfl;have ar:gJ 1 R.vk (.I ((draw ops ({t with s:=s}:Dt).s.pos t.s.known.length).1:Nat))=some (.ptr l1 o1):=i1;simp only[ar,B,gX,e3,hV];generalize hv:s.known.getD (draw ops s.pos t.s.known.length).1 0=a at*;have W:=(Z I).grow (mA.new g (.cells 3 1 true false [V.I (a:Nat)]));have ae:(g.new (.cells 3 1 true false [V.I (a:Nat)])).get h.next=_:=(fo _ (by have:=u.next;omega)).trans ap;refine⟨⟨fj _ _,O.iK _ _ _ _ _⟩,iL B (fo _ ab),W.Au,lQ ae rfl,?_⟩;have au:kS eN eJ F (g.new (.cells 3 1 true false [V.I (a:Nat)])) l vl:=aa.fm (λz b=>fo _ (I.D.fl z b)) (λz b=>fo _ (aa.wq b).2.1) (OH _);have hx:lU (g.new (.cells 3 1 true false [V.I (a:Nat)])) 1 (.slice g.next 0 1)=some (1,[V.I (a:Nat)]):=oG (k:=0) rfl;obtain⟨d,y,a1,ag,c3,aw⟩:=au.append (j7:=8) (ys:=[a]) hx ⟨[V.I (a:Nat)],[],rfl,rfl,trivial⟩ rfl rfl (by simp) (by decide) (λz b=>wBz (I.D.fl z b)) (by simp;omega) (by simp;omega);have n2:(g.new (.cells 3 1 true false [V.I (a:Nat)])).next=g.next+1:=rfl;have w:h.next<y.next:=by have:=c3.next;have:=u.next;omega
   have ax:y.get h.next=some (.cells 49 1 true false [.I 1,.I (t.s.en.length:Nat),vl,.ef]):=by
     rw[c3.fm _ (by have:=u.next;omega) λb=>Yt _ (P _ b)];exact ae
   have a2:=oT (o:=2) (v:=d) (pD:=[.I 1,.I (t.s.en.length:Nat),d,.ef]) ax (by simp) ag.one rfl;have ay:fg 3 1 8 vl (.slice g.next 0 1) (g.new (.cells 3 1 true false [V.I (a:Nat)]))=some (.val d y):=a1;have w1:mb .i64 (((k+1:Nat):Int)-1)=(k:Nat):=NM (by omega);simp only[ay,ei,a2,pS,w1,gX];refine⟨c3.next,jK _,k,by omega,?_⟩
   have cc:mA (λz=>Loc vl z\/z=h.next) (g.new (.cells 3 1 true false [V.I (a:Nat)])) (y.put h.next (.cells 49 1 true false [.I 1,.I (t.s.en.length:Nat),d,.ef])):=
     (c3.U6 λ_ _ h=> .inl h).trans (mA.put _ (.inr rfl) w)
   obtain⟨D4,k4⟩:=W.other cc λz b=>fresh z (by rcases b with b|rfl;exact Nat.le_of_lt (P z b);exact jK _);have M:∀z,Loc d z->h.next<z:=λz b=>(aw z b).elim (P z) λe=>by have:=u.next;omega
   have ah:kS eN eJ F (y.put h.next (.cells 49 1 true false [.I 1,.I (t.s.en.length:Nat),d,.ef])) (l++[a]) d:=
     ag.fm (λz b=>gL _ w λe=>(fresh h.next (jK _)).1 (e▸b)) (λz b=>gL _ w (by have:=M z b;omega)) (jK _)
   have aA:Dw F (gp G d h.next) (y.put h.next (.cells 49 1 true false [.I 1,.I (t.s.en.length:Nat),d,.ef])) L.lu L.iA L.jN _ R:=D4.Wn λz b=>b.elim .inl λb=> .inr (by
     rcases b with rfl|b
     ·exact⟨w,(fresh _ (jK _)).1,(fresh _ (jK _)).2.2⟩
     ·have C:=fresh z (Nat.le_of_lt (M z b));exact⟨(ah.wq b).2.1,C.1,C.2.2⟩)
   have kk:Kp F G g (y.put h.next (.cells 49 1 true false [.I 1,.I (t.s.en.length:Nat),d,.ef])):=
     (Kp.new F G g _ I.D.fl λz b=>(I.D.gx z (.inl b)).1).trans k4 λ_ h=>h
   have qG:Dq F G g L ops _ R:={I with D:=Z I,gl:=q.gl}
   refine⟨{s with pos:=(draw ops s.pos t.s.known.length).2},l++[a],d,by trivial,by trivial,by trivial,by trivial,by trivial,qG.step kk aA (λ_ h=>h) (.inl q.gl) j.hq rfl,?_,gq _ w,ah,M,?_,r,A,by simp;omega⟩
   ·exact(k'.trans ⟨u.next,λz b=>u.fm z (b.imp id λb=>⟨.inl b.1,b.2⟩)⟩ λ_ h=>h).trans (kk.gm _) λ_ h=>h
   ·rw[<-p,<-hv]
    show _=some_ ops k (fK ops s).2 (l++[(fK ops s).1]);unfold fK
    rw[r]
 | zero=>
   rw[if_neg (by omega)];obtain⟨e1,e2⟩:l=(some_ ops (draw ops t.s.pos 4).1 (num ops t.s 4).2 []).1/\s=(some_ ops (draw ops t.s.pos 4).1 (num ops t.s 4).2 []).2:=by rw[<-p];exact⟨rfl,rfl⟩
   have lk:=j.D.ok.len;rw[kl]at lk;have w1:mb .i64 (((t.s.known.length:Nat):Int)-1)=((t.s.known.length-1:Nat):Int):=by
     rw[show((t.s.known.length:Nat):Int)=((t.s.known.length-1+1:Nat):Int) by omega];exact NM (by omega)
   obtain ⟨l1,o1,ab,ac,i1,i2⟩:=j.Gb (i:=t.s.known.length-1) (by rw[kl];omega);have B:eQ (.ptr l1 o1) h' = some (.I (t.s.known.getLastD 0:Nat)):=by
     rw[i2,show({t with s:=s}:Dt).s.known=t.s.known from r,yg _ hk]
   have e3:∀a:Nat,jG 3 1 1 (V.I 0) [(0,V.I (a:Nat))]=some (.cells 3 1 true false [V.I (a:Nat)],λl=> .slice l 0 1):=λ_=>rfl;simp only[j.D.Au,gX,lk,pS,w1,i1,B,e3,fG,fe,zA];have D5:=(Z j).grow (mA.new h' (.cells 3 1 true false [V.I (t.s.known.getLastD 0:Nat)]));have k5:Kp F G h' (h'.new (.cells 3 1 true false [V.I (t.s.known.getLastD 0:Nat)])):=(Z j).zh _;have g5:(h'.new (.cells 3 1 true false [V.I (t.s.known.getLastD 0:Nat)])).get h'.next=_:=fj _ _;have aB:(h'.new (.cells 3 1 true false [V.I (t.s.known.getLastD 0:Nat)])).get h.next=_:=(fo _ Y).trans gF;have aC:kS eN eJ F (h'.new (.cells 3 1 true false [V.I (t.s.known.getLastD 0:Nat)])) l vl:=ol.fm (λz b=>fo _ (j.D.fl z b)) (λz b=>fo _ (ol.wq b).2.1) (OH _);have n5:(h'.new (.cells 3 1 true false [V.I (t.s.known.getLastD 0:Nat)])).next=h'.next+1:=rfl;generalize h'.new (.cells 3 1 true false [V.I (t.s.known.getLastD 0:Nat)])=C at*;have a1:=oT (o:=3) (v:= .slice h'.next 0 1) (pD:=[.I 1,.I (t.s.en.length:Nat),vl,.slice h'.next 0 1]) aB (by simp) rfl rfl;have E:h.next<C.next:=by omega
   obtain⟨D6,k6⟩:=D5.other (mA.put (S:=λz=>z=h.next) (.cells 49 1 true false [.I 1,.I (t.s.en.length:Nat),vl,.slice h'.next 0 1]) rfl E) λz b=>by subst b;exact fresh _ (jK _)
   have aD:=gq (.cells 49 1 true false [.I 1,.I (t.s.en.length:Nat),vl,.slice h'.next 0 1]) E;have g6:(C.put h.next (.cells 49 1 true false [.I 1,.I (t.s.en.length:Nat),vl,.slice h'.next 0 1])).get h'.next=_:=(gL _ E (by omega)).trans g5;have ai:kS eN eJ F (C.put h.next (.cells 49 1 true false [.I 1,.I (t.s.en.length:Nat),vl,.slice h'.next 0 1])) l vl:=aC.fm (λz b=>k6.fm z (.inl b)) (λz b=>gL _ E (by have:=P z b;omega)) (jK _);have n6:(C.put h.next (.cells 49 1 true false [.I 1,.I (t.s.en.length:Nat),vl,.slice h'.next 0 1])).next=C.next:=rfl;simp only[a1,ei];generalize C.put h.next (.cells 49 1 true false [.I 1,.I (t.s.en.length:Nat),vl,.slice h'.next 0 1])=c at*;have lA:fY 4 (.ptr h.next 0) c=some (.agg [.I 1,.I (t.s.en.length:Nat),vl,.slice h'.next 0 1]):=CJ aD rfl;have ow:gG [.I 1,.I (t.s.en.length:Nat),vl,.slice h'.next 0 1]=true:=by simp only[ey,ol.one];rfl
   have e7:jG 49 4 1 (V.agg [(V.I 0),(V.I 0),V.ef,V.ef]) [(0,.agg [.I 1,.I (t.s.en.length:Nat),vl,.slice h'.next 0 1])]=some (.cells 49 4 true false [.I 1,.I (t.s.en.length:Nat),vl,.slice h'.next 0 1],λl=> .slice l 0 1):=qa rfl rfl ow;have e8:∀m:Nat,fV [V.ef] [(0,1)] [(0,.slice m 0 1)]=some (.agg [.slice m 0 1]):=λ_=>rfl;have e9:∀m:Nat,jG 52 1 1 (V.agg [V.ef]) [(0,.agg [.slice m 0 1])]=some (.cells 52 1 true false [.slice m 0 1],λl=> .slice l 0 1):=λm=>qa rfl rfl rfl;simp only[D6.ldS,gX,lA,e7,fG,e8,e9];have D7:=D6.grow (mA.new c (.cells 49 4 true false [.I 1,.I (t.s.en.length:Nat),vl,.slice h'.next 0 1]));have k7:=D6.zh (.cells 49 4 true false [.I 1,.I (t.s.en.length:Nat),vl,.slice h'.next 0 1]);have g7:(c.new (.cells 49 4 true false [.I 1,.I (t.s.en.length:Nat),vl,.slice h'.next 0 1])).get c.next=_:=fj _ _;have aE:(c.new (.cells 49 4 true false [.I 1,.I (t.s.en.length:Nat),vl,.slice h'.next 0 1])).get h'.next=_:=(fo _ (by omega)).trans g6;have aj:kS eN eJ F (c.new (.cells 49 4 true false [.I 1,.I (t.s.en.length:Nat),vl,.slice h'.next 0 1])) l vl:=ai.fm (λz b=>fo _ (D6.fl z b)) (λz b=>fo _ (ai.wq b).2.1) (OH _);have n7:(c.new (.cells 49 4 true false [.I 1,.I (t.s.en.length:Nat),vl,.slice h'.next 0 1])).next=c.next+1:=rfl;generalize c.new (.cells 49 4 true false [.I 1,.I (t.s.en.length:Nat),vl,.slice h'.next 0 1])=x at*;have D8:=D7.grow (mA.new x (.cells 52 1 true false [.slice c.next 0 1]));have k8:=D7.zh (.cells 52 1 true false [.slice c.next 0 1]);have g8:(x.new (.cells 52 1 true false [.slice c.next 0 1])).get c.next=_:=(fo _ (by omega)).trans g7;have aF:(x.new (.cells 52 1 true false [.slice c.next 0 1])).get h'.next=_:=(fo _ (by omega)).trans aE;have ak:kS eN eJ F (x.new (.cells 52 1 true false [.slice c.next 0 1])) l vl:=aj.fm (λz b=>fo _ (D7.fl z b)) (λz b=>fo _ (aj.wq b).2.1) (OH _);have aG:lU (x.new (.cells 52 1 true false [.slice c.next 0 1])) 1 (.slice x.next 0 1)=some (1,[.slice c.next 0 1]):=oG (k:=0) rfl;have n8:(x.new (.cells 52 1 true false [.slice c.next 0 1])).next=x.next+1:=rfl;generalize x.new (.cells 52 1 true false [.slice c.next 0 1])=T at*;have D9:Dw (λz=>F z\/Loc vl z\/z=h'.next\/z=c.next) G T L.lu L.iA L.jN {t with s:=s} R:=D8.more (λ_ h=> .inl h) λz b=>b.elim .inl λb=> .inr (by
     have aH:h.next<z/\z<T.next:=by
       rcases b with b|rfl|rfl
       ·exact⟨P z b,(ak.wq b).2.1⟩
       ·omega
       ·omega
     have h9:=fresh z (by omega);exact⟨aH.2,h9.2.2,h9.2.1⟩)
   have sl:iq eN (λz=>F z\/Loc vl z\/z=h'.next\/z=c.next) T l vl:=ak.ZS (λ_ h=> .inl h) λ_ h=> .inr (.inl h)
   have ss:iq eN (λz=>F z\/Loc vl z\/z=h'.next\/z=c.next) T [t.s.known.getLastD 0] (.slice h'.next 0 1):=
     .inr ⟨h'.next,0,3,true,false,[V.I (t.s.known.getLastD 0:Nat)],rfl,.inr (.inr (.inl rfl)),aF,.inr rfl,Na _,⟨_,[],rfl,rfl,trivial⟩⟩
   have sf:iq eF (λz=>F z\/Loc vl z\/z=h'.next\/z=c.next) T [⟨1,(t.s.en.length:Nat),l,[t.s.known.getLastD 0]⟩] (.slice c.next 0 1):=
     .inr ⟨c.next,0,49,true,false,[.I 1,.I (t.s.en.length:Nat),vl,.slice h'.next 0 1],rfl,.inr (.inr (.inr rfl)),g8,.inr rfl,Na _,⟨_,[],rfl,⟨vl,_,rfl,sl,ss⟩,trivial⟩⟩
   obtain⟨v',h9,al,b1,b2,b3,b4,k9,N⟩:=D9.zed (ys:=[[⟨1,(t.s.en.length:Nat),l,[t.s.known.getLastD 0]⟩]]) aG ⟨[.slice c.next 0 1],[],rfl,⟨_,rfl,sf⟩,trivial⟩ rfl rfl (by simp) (by show s.en.length+_<_;rw[A];simp;omega);have aI:fg 52 1 24 R.vs (.slice x.next 0 1) T=some (.val v' h9):=b1;have lS:=N.os.len;have aJ:((s.en++[[(⟨1,(t.s.en.length:Nat),l,[t.s.known.getLastD 0]⟩:Fm)]]).length:Nat)=t.s.en.length+1:=by rw[A];simp
   have aK:fH v' = some (.I ((t.s.en.length+1:Nat):Int)):=by rw[<-aJ];exact lS
   have w2:mb .i64 (((t.s.en.length+1:Nat):Int)-1)=(t.s.en.length:Nat):=NM (by omega);simp only[aI,ei,b3,N.ldS,gX,aK,pS,w2];have J:Kp F G h' al:=(((k5.trans k6 λ_ h=>h).trans k7 λ_ h=>h).trans k8 λ_ h=>h).trans ⟨k9.next,λz b=>k9.fm z (b.imp (λh=> .inl h) id)⟩ λ_ h=>h;have qG:Dq F G h' L ops _ R:={j with D:=Z j,gl:=q.gl}
   have hE:({t with s:=(fJ ops t.s).2}:Dt) = {t with s:={s with en:=s.en++[[⟨1,(t.s.en.length:Nat),l,[t.s.known.getLastD 0]⟩]]} }:=by
     unfold fJ;rw[e1,A,e2];rfl
   have aL:=qG.step J N (λ_ h=> .inl h) q.gl j.hq rfl;refine H (λz=>F z\/Loc vl z\/z=h'.next\/z=c.next) al {R with vs:=v'} (λ_ h=> .inl h) (k'.trans (J.gm _) λ_ h=>h) ?_ rfl;rw[hE];exact aL
end
open Un
theorem Wt{t:Nat}{k:IntKind}{a b:Int}{A B:Prop}(h:if a<b then A else B):oP (ev .lss t (.int k a) (.int k b)) λv=>bP v A B:=by
 simp only[jO,gX,yz,BP];exact h
theorem gi{t:Nat}{k:IntKind}{a b:Int}{A B:Prop}(h:if a=b then A else B):oP (ev .eql t (.int k a) (.int k b)) λv=>bP v A B:=by
 simp only[gI,gX,yz,C9];exact h
theorem El{t:Nat}{k:IntKind}{a b:Int}{A B:Prop}(h:if b<a then A else B):oP (ev .gtr t (.int k a) (.int k b)) λv=>bP v A B:=by
 simp only[nQ,gX,yz,BP];exact h
theorem j8{t n m:Nat}{K:V->Prop}(a:n<1000000000)(b:m<1000000000)(H:K (.I ((n+m:Nat):Int))):oP (ev .add t (.I n) (.I m)) K:=by
 simp only[mZ,zd2 a b,gX];exact H
theorem yl{t n:Nat}{K:V->Prop}(a:n<1000000000)(h0:0<n)(H:K (.I ((n-1:Nat):Int))):oP (ev .sub t (.I n) (.I 1)) K:=by
 obtain⟨m,rfl⟩:∃m,n=m+1:=⟨n-1,by omega⟩
 simp only[pS,NM (n:=m) (by omega),gX];exact H
theorem gv{c A B:Prop}[Decidable c] (hc:c)(h:A):if c then A else B:=by rw[if_pos hc];exact h
theorem gg{c A B:Prop}[Decidable c] (hc:¬c)(h:B):if c then A else B:=by rw[if_neg hc];exact h
theorem fM{t n:Nat}{K:V->Prop}(H:K (.I ((n+1:Nat):Int)))(h:n<1000000000:=by omega):oP (ev .add t (.I n) (.I 1)) K:=j8 (m:=1) h (by decide) H
theorem gB{t:Nat}{k:IntKind}{a b:Int}{A B:Prop}(H:A)(h:a<b:=by omega):oP (ev .lss t (.int k a) (.int k b)) λv=>bP v A B:=Wt (gv h H)
theorem iJ{t:Nat}{k:IntKind}{a b:Int}{A B:Prop}(H:B)(h:¬a<b:=by omega):oP (ev .lss t (.int k a) (.int k b)) λv=>bP v A B:=Wt (gg h H)
section
variable{F F' G G':Nat->Prop}{h h':Hp}{L:Lc}{ops:List Int}{t t':Dt}{R R':Rw}{Q:fy}
theorem uD{α:Type}{l:List α}{x:α}{n:Nat}(h:l.length<=n):(l++[x]).length<=n+1:=by rw[Ec];exact Nat.add_le_add_right h 1
structure Sm (s:Ds) (n:Nat):Prop where
 v:s.eh.length<=n
 c:s.cur.length<=n
 k:s.known.length<=n
 st:s.en.length<=n
 k0:0<s.known.length
theorem Sm.le{s:Ds}{n m:Nat}(a:Sm s n)(h:n<=m):Sm s m:=⟨II a.v h,II a.c h,II a.k h,II a.st h,a.k0⟩
theorem Sm.put{s:Ds}{n:Nat}(a:Sm s n)(x:Vl):Sm (put s x) (n+1):=
 ⟨uD a.v,uD a.c,Yn a.k,Yn a.st,a.k0⟩
theorem Sm.jc{s:Ds}{n:Nat}(a:Sm s n)(x:Vl):Sm (jc s x) (n+1):=
 ⟨uD a.v,uD a.c,
  uD a.k,Yn a.st,by show 0<(s.known++[s.eh.length]).length;rw[Ec];exact Cb a.k0 (Nat.le_add_right _ _)⟩
theorem Sm.pos{s:Ds}{n:Nat}(a:Sm s n)(p:Nat):Sm {s with pos:=p} n:=⟨a.v,a.c,a.k,a.st,a.k0⟩
theorem Sm.state{s:Ds}{n:Nat}(a:Sm s n)(ops:List Int):Sm (fJ ops s).2 (n+1):=by
 have hp:∃p,(some_ ops (num ops s 4).1 (num ops s 4).2 []).2 = {s with pos:=p}:=by
  obtain⟨p,h⟩:=FD ops (num ops s 4).1 (num ops s 4).2 [];exact⟨p,h⟩
 obtain⟨p,hp⟩:=hp;unfold fJ;simp only[hp];exact⟨Yn a.v,Yn a.c,Yn a.k,uD a.st,a.k0⟩
theorem zac(q:Dq F G h L ops t R){n a:Nat}(m:Sm t.s n)(p:n<1000){K:Hp->Prop}
  (H:∀h' R',Kp F G h h'->Dq F G h' L ops {t with s:={t.s with known:=t.s.known++[a]} } R'->K h') :
  xE (jG 3 1 1 (V.I 0) [(0,.I a)]) h λo c b=>((b.get h.next=some o/\O.beq o o=true)/\(eQ (.ptr L.iA 0) b=some R.vk/\fk (fg 3 1 8 R.vk c b) λd e=>(b.next<=e.next/\fk (gM 1 (.ptr L.iA 0) d e) λ_ g=>(e.next<=g.next/\K g)))):=by
 have r:jG 3 1 1 (V.I 0) [(0,V.I a)]=some (.cells 3 1 true false [V.I a],λl=> .slice l 0 1):=rfl;rw[r,hV];have i:=q.D.grow (mA.new h (.cells 3 1 true false [V.I a]));have u:lU (h.new (.cells 3 1 true false [V.I a])) 1 (.slice h.next 0 1)=some (1,[V.I a]):=oG (k:=0) rfl;obtain⟨v,w,z,a1,a2,a3,a4,x,y⟩:=i.zbW (ys:=[a]) u ⟨[V.I a],[],rfl,rfl,trivial⟩ rfl rfl (by simp) (by have:=m.k;simp;omega);have f:fg 3 1 8 R.vk (.slice h.next 0 1) (h.new (.cells 3 1 true false [V.I a]))=some (.val v w):=a1;refine⟨⟨fj _ _,O.iK _ _ _ _ _⟩,i.Au,?_⟩;simp only[f,ei,a3];have j:=(q.D.zh (.cells 3 1 true false [V.I a])).trans x λ_ h=>h;exact⟨a2,a4,H _ _ j (q.step j y (λ_ h=>h) q.gl q.hq rfl)⟩
theorem Gt{x:Vl}{w:List V}(q:Dq F G h L ops t R){n:Nat}(b:Sm t.s n)(p:n<999)(r:eV.rel F h x w){K:Hp->Prop}
  (H:∀h' R',Kp F G h h'->Dq F G h' L ops {t with s:=jc t.s x} R'->K h') :
  cP CS fF [.agg w,.ptr L.lu 0,.ptr L.jN 0] h λd e=>(h.next<=e.next/\xE (jG 3 1 1 (V.I 0) [(0,d)]) e λo f a=>((a.get e.next=some o/\O.beq o o=true)/\(eQ (.ptr L.iA 0) a=some R.vk/\fk (fg 3 1 8 R.vk f a) λg i=>(a.next<=i.next/\fk (gM 1 (.ptr L.iA 0) g i) λ_ m=>(i.next<=m.next/\K m))))):=by
 have hv:=b.v;have hc:=b.c;refine Ss q.D q.hq r (by omega) (by omega) λu R1 j y k l=>⟨j.next,?_⟩
 have z:Dq F G u L ops {t with s:=put t.s x} R1:=q.step j y (λ_ h=>h) q.gl k rfl;rw[<-l];exact zac z (b.put x) (by omega) λA R2 B C=>H A R2 (j.trans B λ_ h=>h) C
theorem Jl{x:Vl}{w:List V}(q:Dq F G h L ops t R){n:Nat}(d:Sm t.s n)(f:n<999)(g:eV.rel F h x w){K:fy}
  (H:∀h' R',Kp F G h h'->R'.vk=R.vk->Dq F G h' L ops {t with s:=put t.s x} R'->K (.I t.s.eh.length) h'):cP CS fF [.agg w,.ptr L.lu 0,.ptr L.jN 0] h K:=by
 have hv:=d.v;have hc:=d.c;exact Ss q.D q.hq g (by omega) (by omega) λi R1 e j a b=>H i R1 e b (q.step e j (λ_ h=>h) q.gl a rfl)
theorem M4(q:Dq F G h L ops t R)(c:ops.length<9223372036854775808){n:Nat}(a:Sm t.s n)(d:n<1000){K:fy}
  (H:∀h' l o,Kp F (gm G L.nR) h h'->Dq F G h' L ops {t with s:=(fK ops t.s).2} R->l<h'.next->gJ 1 R.vk (.I ((draw ops t.s.pos t.s.known.length).1:Nat))=some (.ptr l o)->eQ (.ptr l o) h' = some (.I ((fK ops t.s).1:Nat))->K (.I ((draw ops t.s.pos t.s.known.length).1:Nat)) h') :
  cP CS fq [.I t.s.known.length,.ptr L.nR 0,.ptr L.lr 0] h K:=by
 refine yi q a.k0 (by have:=a.k;omega) c λe f b=>?_;obtain⟨l,o,g,_,j,m⟩:=b.Gb (i:=(draw ops t.s.pos t.s.known.length).1) (yf _ _ a.k0);exact H e l o f b g j m
theorem zbj{b:Bk}{nv:V}(q:Dq F G h L ops t R){n:Nat}(hn:t.blocks.length<1000)(O:b.eh=[])(P:b.fh=[])(a:iq eN F h b.next nv)
  (H:∀F' h' R',(∀l,F l->F' l)->Kp F G h h'->Dq F' G h' L ops {s:={t.s with cur:=[]},blocks:=t.blocks++[⟨t.s.cur,b.fin,b.cond,b.next,t.fh,b.state⟩],fh:=[]} R'->Q (.I t.blocks.length) h') :
  cP CS kH [.agg (kE b .ef nv .ef),.ptr L.jN 0,.ptr L.lu 0] h Q:=by
 refine Dl rfl rfl ?_;unfold wS;have T:gG (kE b .ef nv .ef)=true:=by simp only[kE,ey,a.one];rfl
 have f:∀l,G l->l<h.next:=λl e=>(q.D.gx l e).1;have g:∀i l,comp L.lu L.iA L.jN R i l->l<h.next:=λi l e=>(q.D.sig e).2.1;have fresh:∀l,h.next<=l->¬F l/\¬G l/\∀i,¬comp L.lu L.iA L.jN R i l:=λl e=>⟨λU=>by have:=q.D.fl l U;omega,λW=>by have:=f l W;omega,λi hi=>by have:=g i l hi;omega⟩
 have y:=q.D.grow (mA.new h (.cells 43 1 true false (kE b .ef nv .ef)));have X:=q.D.zh (.cells 43 1 true false (kE b .ef nv .ef));have Y:(h.new (.cells 43 1 true false (kE b .ef nv .ef))).get h.next=_:=fj _ _;have j:h.next<(h.new (.cells 43 1 true false (kE b .ef nv .ef))).next:=Mm _;simp only[Dz T,fG,fe,gX,zA,YZ,y.ldC];generalize h.new (.cells 43 1 true false (kE b .ef nv .ef))=A at*;have Z:=oT (o:=0) (v:=R.cc) (pD:=kE b R.cc nv .ef) Y (by simp[kE]) (by rw[q.hq];exact q.D.oc.one) rfl;obtain⟨B,k2⟩:=y.other (mA.put (S:=λz=>z=h.next) (.cells 43 1 true false (kE b R.cc nv .ef)) rfl j) λz m=>by subst m;exact fresh _ (jK _)
 have g2:=gq (.cells 43 1 true false (kE b R.cc nv .ef)) j;have C:h.next<(A.put h.next (.cells 43 1 true false (kE b R.cc nv .ef))).next:=j;simp only[Z,ei,B.ldP,gX];generalize A.put h.next (.cells 43 1 true false (kE b R.cc nv .ef))=h2 at*;have e3:=oT (o:=4) (v:=R.vp) (pD:=kE b R.cc nv R.vp) g2 (by simp[kE]) q.D.sp.one rfl;obtain⟨r,k3⟩:=B.other (mA.put (S:=λz=>z=h.next) (.cells 43 1 true false (kE b R.cc nv R.vp)) rfl C) λz m=>by subst m;exact fresh _ (jK _)
 have g3:=gq (.cells 43 1 true false (kE b R.cc nv R.vp)) C;simp only[e3,ei,r.YN,gX];generalize h2.put h.next (.cells 43 1 true false (kE b R.cc nv R.vp))=d at*;have E:gG (kE b R.cc nv R.vp)=true:=by simp only[kE,ey,a.one,q.hq,q.D.oc.one,q.D.sp.one];rfl
 have lA:fY 6 (.ptr h.next 0) d=some (.agg (kE b R.cc nv R.vp)):=CJ g3 rfl;have e4:jG 43 6 1 (V.agg [V.ef,(V.I 0),(V.I 0),V.ef,V.ef,(V.I 0)]) [(0,.agg (kE b R.cc nv R.vp))]=some (.cells 43 6 true false (kE b R.cc nv R.vp),λl=> .slice l 0 1):=qa rfl rfl E;simp only[lA,gX,e4,fG];have I:=r.grow (mA.new d (.cells 43 6 true false (kE b R.cc nv R.vp)));have k4:=r.zh (.cells 43 6 true false (kE b R.cc nv R.vp));have u:lU (d.new (.cells 43 6 true false (kE b R.cc nv R.vp))) 6 (.slice d.next 0 1)=some (1,kE b R.cc nv R.vp):=oG (k:=0) rfl;have J:Kp F G h (d.new (.cells 43 6 true false (kE b R.cc nv R.vp))):=((X.trans k2 λ_ h=>h).trans k3 λ_ h=>h).trans k4 λ_ h=>h;generalize d.new (.cells 43 6 true false (kE b R.cc nv R.vp))=K at*;obtain⟨sc,D5⟩:=I.flush
 have hw:eK.rel (fzc F R.vc) K ⟨t.s.cur,b.fin,b.cond,b.next,t.fh,b.state⟩ (kE b R.cc nv R.vp):=
  ⟨R.cc,nv,R.vp,rfl,by rw[q.hq];exact sc,(a.fm λl e=>J.fm l (.inl e)).mono λ_ h=> .inl h,I.sp.mono λ_ h=> .inl h⟩
 obtain ⟨M,h5,h6,a1,a2,a3,a4,k6,N⟩:=D5.zea (ys:=[⟨t.s.cur,b.fin,b.cond,b.next,t.fh,b.state⟩]) u ⟨kE b R.cc nv R.vp,[],by simp,hw,trivial⟩ rfl E (by simp) (by simp;omega);have w:fg 43 6 96 R.vb (.slice d.next 0 1) K=some (.val M h5):=a1;have e7:fV [V.ef,(V.I 0),(V.I 0),V.ef,V.ef,(V.I 0)] [(0,1),(1,1),(2,1),(3,1),(4,1),(5,1)] []=some (.agg [.ef,.I 0,.I 0,.ef,.ef,.I 0]):=rfl;have e8:=Gf (n:=6) (ws:=[.ef,.I 0,.I 0,.ef,.ef,.I 0]) N.gb rfl rfl rfl;obtain⟨k7,x⟩:=N.zaf (c:= .ef) (p:= .ef) (ps:=[]) .nil;have lb:fH M=some (.I ((t.blocks.length+1:Nat):Int)):=by
  have:=x.ob.len;simpa using this
 simp only[w,ei,a3,e7,gX,e8,x.YN,lb,pS,NM (n:=t.blocks.length) (by omega)];have kb:=(J.trans (F':=fzc F R.vc) k6 λ_ h=> .inl h).trans (F':=fzc F R.vc) k7 λ_ h=> .inl h;exact H (fzc F R.vc) _ _ (λ_ h=> .inl h) kb (q.step kb x (λ_ h=> .inl h) q.gl rfl rfl)
end
