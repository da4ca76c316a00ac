/- Parts. -/
import Derived.Test.YtjgjgngfjopaaaaDoorM18
import Derived.Test.YtjgjgngfjopaaaaDoorM19
import Derived.Test.YtjgjgngfjopaaaaDoorM15
namespace Go.Proofs.YtjgjgngfjopaaaaDoor.Hx
open Un
theorem Du{e:Nat}{w:List V}(a:gv w=true):m0 e (.agg w)=some (.cells e 1 true false w,λl=> .ptr l 0):=by
 unfold m0;rw[kN _ (show gv (V.agg w).cells=true from a)];rfl
theorem pP{e sz:Nat}{z w:List V}(c:z.length=sz)(a:w.length=sz)(b:gv w=true):jt e sz 1 (.agg z) [(0,.agg w)]=some (.cells e sz true false w,λl=> .slice l 0 1):=by
 unfold jt;have hs:p7 (Nat.mul 0 sz) (zZ 1 (V.agg z).cells) (V.agg w).cells=some w:=by
  show p7 (0*sz) (z++[]) w=some w;rw[Nat.zero_mul,Eo,Cc (by omega),YZ,OO,yC,List.drop_of_length_le (by omega),Eo]
 simp only[B6,fj,hs];rw[kN _ (show Nat.beq (V.agg w).cells.length sz=true by rw[show(V.agg w).cells=w from rfl,a];exact QN _)];simp only[fj];rw[kN _ b]
theorem NT{n:Nat}(h:n<1000000000):lM .i64 (((n+1:Nat):Int)-1)=(n:Nat):=by
 rw[oV (by simp only[tH];omega)];omega
theorem zdP{n k:Nat}(h:n<1000000000)(a:k<1000000000):lM .i64 (((n:Nat):Int)+(k:Nat))=((n+k:Nat):Int):=by
 rw[oV (by simp only[tH];omega)];omega
theorem zcO{n:Nat}(h:n<1000000000):lM .i64 (((n:Nat):Int)+1)=((n+1:Nat):Int):=by
 rw[oV (by simp only[tH];omega)];omega
theorem Wl(t:Nat)(k:IntKind)(a b:Int)(c:b≠0):eo .rem t (.int k a) (.int k b)=some (.int k (a.tmod b)):=by
 have d:hint .rem k a b=some (.int k (a.tmod b)):=by
  cases b with
  | ofNat n=>cases n with
    |zero=>exact absurd rfl c
    |succ n=>rfl
  |negSucc n=>rfl
 cases k <;> exact d
theorem K3{n:Int}{m:Nat}{h:Hp}{Q:fy}(f:0<m)(d:m<=1000000000)(H:Q (.I (l0 n m:Nat)) h):cP CS im [.I n,.I m] h Q:=by
 refine Ff rfl rfl ?_;unfold xP;have g:=Int.tmod_lt_of_pos n (b:=(m:Int)) (by omega);have i : -(m:Int)<n.tmod m:=by
  have:=Int.tmod_lt_of_pos (-n) (b:=(m:Int)) (by omega);rw[Int.neg_tmod]at this;omega
 simp only[Wl _ _ _ (m:Int) (by omega),gU,jD,xV,AW];unfold l0 at H;split
 ·rename_i a;rw[if_pos a]at H;have e:lM .i64 (n.tmod m+m)=n.tmod m+m:=oV (by simp only[tH];omega);simp only[mC,e,gU];refine uX ?_;unfold oh;rw[Int.toNat_of_nonneg (by omega)]at H;exact H
 ·rename_i c;rw[if_neg c]at H;refine uX ?_;unfold oh;rw[Int.toNat_of_nonneg (by omega)]at H;exact H
section
variable{F G:Nat->Prop}{h:Hp}{lu iu jA:Nat}{t:Dt}{R:Rw}{Q:fy}
theorem Dw.Vx(D:Dw F G h lu iu jA t R):ez (.ptr lu 2) h=some R.vv:=kX D.gu rfl
theorem Dw.ZP(D:Dw F G h lu iu jA t R):ez (.ptr lu 3) h=some R.vb:=kX D.gu rfl
theorem Dw.ldS(D:Dw F G h lu iu jA t R):ez (.ptr lu 4) h=some R.vs:=kX D.gu rfl
theorem Dw.zE(D:Dw F G h lu iu jA t R):ez (.ptr iu 0) h=some R.vk:=kX D.gk rfl
theorem Dw.ldC(D:Dw F G h lu iu jA t R):ez (.ptr jA 0) h=some R.cc:=kX D.gb rfl
theorem Dw.ldP(D:Dw F G h lu iu jA t R):ez (.ptr jA 4) h=some R.vp:=kX D.gb rfl
theorem RX{x:Vl}{w:List V}(D:Dw F G h lu iu jA t R)(hq:R.cc=R.vc)(g:eV.rel F h x w)(hv:t.s.ef.length<1000)(hc:t.s.cur.length<1000)
  (H:∀h' R',Kp F G h h'->Dw F G h' lu iu jA {t with s:=put t.s x} R'->R'.cc=R'.vc->R'.vk=R.vk->Q (.I t.s.ef.length) h') :
  cP CS fD [.agg w,.ptr lu 0,.ptr jA 0] h Q:=by
 refine CI rfl rfl ?_;unfold wF;have b:=eV.one g;have a:w.length=6:=eV.len g;have i:=D.grow (lV.new h (.cells 46 1 true false w));have q:=D.yI (.cells 46 1 true false w);have v:gg 6 (.ptr h.next 0) (h.new (.cells 46 1 true false w))=some (.agg w):=BY (fi _ _) a;have y:jt 46 6 1 (V.agg [(V.I 0),(V.I 0),(V.I 0),(V.I 0),V.ee,(V.I 0)]) [(0,.agg w)]=some (.cells 46 6 true false w,λl=> .slice l 0 1):=pP rfl a b;simp only[Du b,fE,eJ,gU,yC,i.Vx,v,y];generalize z:h.new (.cells 46 1 true false w)=f at*;have A:=i.grow (lV.new f (.cells 46 6 true false w));have r:=i.yI (.cells 46 6 true false w);have j:eV.rel F (f.new (.cells 46 6 true false w)) x w:=eV.fk (λl B=>(q.trans r λ_ h=>h).fk l (.inl B)) g;have m:lC (f.new (.cells 46 6 true false w)) 6 (.slice f.next 0 1)=some (1,w):=nB (k:=0) (by rw[a]);obtain⟨L,M,c,a1,a2,a3,a4,k3,d⟩:=A.zdX (ys:=[x]) m ⟨w,[],by simp,j,trivial⟩ (by rw[a];rfl) b (by simp) (by simp;omega);have lc:((t.s.ef++[x]).length:Nat)=t.s.ef.length+1:=by simp
 have lv:=d.ov.len;simp only[lc]at lv;simp only[a1,ei,a3,d.ldC,d.Vx,gU,lv,pj];have u:lM .i64 (((t.s.ef.length+1:Nat):Int)-1)=(t.s.ef.length:Nat):=NT (by omega);have e3:jt 3 1 1 (V.I 0) [(0,V.I t.s.ef.length)]=some (.cells 3 1 true false [V.I t.s.ef.length],λl=> .slice l 0 1):=rfl;simp only[u,e3,fE,hq];have C:=d.grow (lV.new c (.cells 3 1 true false [V.I t.s.ef.length]));have E:=d.yI (.cells 3 1 true false [V.I t.s.ef.length]);have n:lC (c.new (.cells 3 1 true false [V.I t.s.ef.length])) 1 (.slice c.next 0 1)=some (1,[V.I t.s.ef.length]):=nB (k:=0) rfl;obtain⟨I,J,N,b1,b2,b3,O,K,o⟩:=C.zdN (ys:=[t.s.ef.length]) n ⟨[V.I t.s.ef.length],[],rfl,rfl,trivial⟩ rfl rfl (by simp) (by simp;omega);have e:=o.ov.len;simp only[lc]at e;have p:fe 3 1 8 R.vc (.slice c.next 0 1) (c.new (.cells 3 1 true false [V.I t.s.ef.length]))=some (.val I J):=b1;simp only[p,ei,b3,o.Vx,gU,e,pj,u];exact H _ _ ((((q.trans r λ_ h=>h).trans k3 λ_ h=>h).trans E λ_ h=>h).trans K λ_ h=>h) o rfl rfl
end
open Un
structure Lc where
 lr:Nat
 lu:Nat
 iu:Nat
 jA:Nat
 zp:Nat
 mX:Nat
 pE:Nat
 TD:Nat
def zbl(L:Lc):V:= .func fD [] [.ptr L.lu 0,.ptr L.jA 0]
def SV(L:Lc):V:= .func fq [] [.ptr L.mX 0,.ptr L.lr 0]
def Ru(L:Lc):V:= .func fW [] [.ptr L.lu 0,.ptr L.pE 0,.ptr L.iu 0]
structure Dq (F G:Nat->Prop) (h:Hp) (L:Lc) (ops:List Int) (t:Dt) (R:Rw):Prop where
 D:Dw F G h L.lu L.iu L.jA t R
 hq:R.cc=R.vc
 gl:G L.mX
 ga:h.get L.mX=some (.cells ey 1 true false [.I t.s.pos])
 fr:F L.lr
 gr:∃vo vs n,h.get L.lr=some (.cells PZ 1 true false [vo,vs,n])/\iC (eI .i64) F h ops vo
 fp:F L.zp
 gp:∃e,h.get L.zp=some (.cells e 1 true false [zbl L])
 fn:F L.pE
 gn:∃e,h.get L.pE=some (.cells e 1 true false [SV L])
 fs:F L.TD
 gs:∃e,h.get L.TD=some (.cells e 1 true false [Ru L])
section
variable{F F' G G':Nat->Prop}{h h':Hp}{L:Lc}{ops:List Int}{t t':Dt}{R R':Rw}{Q:fy}
theorem Dq.zaC(q:Dq F G h L ops t R)(k:∀l,F l->h'.get l=h.get l) (D':Dw F' G' h' L.lu L.iu L.jA t' R')(a:∀l,F l->F' l) (b:R'.cc=R'.vc)(c:G' L.mX)(d:h'.get L.mX=some (.cells ey 1 true false [.I t'.s.pos])):Dq F' G' h' L ops t' R' where
 D:=D'
 hq:=b
 gl:=c
 ga:=d
 fr:=a _ q.fr
 gr:=by
  obtain⟨vo,vs,n,e,f⟩:=q.gr;exact⟨vo,vs,n,by rw[k _ q.fr];exact e,(f.fk k).mono a⟩
 fp:=a _ q.fp
 gp:=by rw[k _ q.fp];exact q.gp
 fn:=a _ q.fn
 gn:=by rw[k _ q.fn];exact q.gn
 fs:=a _ q.fs
 gs:=by rw[k _ q.fs];exact q.gs
theorem Dq.step(q:Dq F G h L ops t R)(k:Kp F G h h') (D':Dw F' G' h' L.lu L.iu L.jA t' R')(b:∀l,F l->F' l)(c:G' L.mX) (a:R'.cc=R'.vc)(hp:t'.s.pos=t.s.pos):Dq F' G' h' L ops t' R':=
 q.zaC (λl d=>k.fk l (.inl d)) D' b a c (by rw[k.fk _ (.inr q.gl),hp];exact q.ga)
theorem Dq.oS(q:Dq F G h L ops t R):ez (.ptr L.zp 0) h=some (zbl L):=by obtain⟨e,a⟩:=q.gp;exact kX a rfl
theorem Dq.vg(q:Dq F G h L ops t R):ez (.ptr L.pE 0) h=some (SV L):=by obtain⟨e,a⟩:=q.gn;exact kX a rfl
theorem Dq.IS(q:Dq F G h L ops t R):ez (.ptr L.TD 0) h=some (Ru L):=by obtain⟨e,a⟩:=q.gs;exact kX a rfl
theorem Dq.FO(q:Dq F G h L ops t R){i:Nat}(hi:i<t.s.known.length):∃l o,l<h.next/\(F l\/Loc R.vk l)/\gD 1 R.vk (.I i)=some (.ptr l o)/\ez (.ptr l o) h=some (.I (t.s.known.getD i 0:Nat)):=by
 obtain⟨l,o,u,a,b,c,d⟩:=q.D.ok.read.Tz hi .i64 rfl;refine⟨l,o,a.elim (q.D.fl l) λh=>(q.D.ok.wh h).2.1,a,b,?_⟩;rw[c];have:[u]=[V.I (t.s.known[i]:Nat)]:=d;rw[BO,gP hi];simpa using this
theorem Dw.VS{lu iu jA:Nat}(D:Dw F G h lu iu jA t R)(a:∀l,G' l->G l\/(l<h.next/\¬F l/\∀i,¬comp lu iu jA R i l)):Dw F G' h lu iu jA t R:=
 {D with gx:=λl b=>(a l b).elim (D.gx l) id}
def gm(G:Nat->Prop)(a:Nat):Nat->Prop:=λl=>G l/\l≠a
theorem Kp.gm(k:Kp F G h h')(a:Nat):Kp F (Hx.gm G a) h h':=⟨k.next,λl b=>k.fk l (b.imp id λh=>h.1)⟩
def setPos(t:Dt)(p:Nat):Dt:={t with s:={t.s with pos:=p} }
theorem xJ{m:Nat}(q:Dq F G h L ops t R)(j:0<m)(k:m<=100000000)(I:ops.length<9223372036854775808)
  (H:∀h',Kp F (gm G L.mX) h h'->Dq F G h' L ops (setPos t (draw ops t.s.pos m).2) R->Q (.I ((draw ops t.s.pos m).1:Nat)) h') :
  cP CS fq [.I m,.ptr L.mX 0,.ptr L.lr 0] h Q:=by
 refine DM rfl rfl ?_;unfold vw;obtain⟨vo,vs,n,gr,g⟩:=q.gr;have p:ez (.ptr L.mX 0) h=some (.I t.s.pos):=kX q.ga rfl;have l1:ez (.ptr L.lr 0) h=some vo:=kX gr rfl;simp only[p,gU,eJ,yC,l1,g.len,mW,xV,AW];have a:=q.D.gx _ q.gl;split
 ·rename_i r;have e:draw ops t.s.pos m=(0,t.s.pos):=by
   unfold draw;rw[KT (by omega)]
  rw[e]at H;exact H h (Kp.refl _ _ _) q
 ·rename_i c;have c:t.s.pos<ops.length:=by omega
  have e:draw ops t.s.pos m=(l0 ops[t.s.pos] m,t.s.pos+1):=by
   unfold draw;rw[gP c]
  rw[e]at H;have w:lM .i64 ((t.s.pos:Int)+1)=((t.s.pos+1:Nat):Int):=by rw[oV (by simp only[tH];omega)];omega
  have x:=nT (o:=0) (v:= .I ((t.s.pos+1:Nat):Int)) (nQ:=[.I ((t.s.pos+1:Nat):Int)]) q.ga (by simp) rfl rfl;have hc:lV (λl=>l=L.mX) h (h.put L.mX (.cells ey 1 true false [.I ((t.s.pos+1:Nat):Int)])):=lV.put _ rfl a.1;have d:∀l,F l->(h.put L.mX (.cells ey 1 true false [.I ((t.s.pos+1:Nat):Int)])).get l=h.get l:=λl b=>gI _ a.1 λe=>a.2.1 (e▸b);have l2:ez (.ptr L.lr 0) (h.put L.mX (.cells ey 1 true false [.I ((t.s.pos+1:Nat):Int)]))=some vo:=kX (by rw[d _ q.fr];exact gr) rfl;have l3:ez (.ptr L.mX 0) (h.put L.mX (.cells ey 1 true false [.I ((t.s.pos+1:Nat):Int)]))=some (.I ((t.s.pos+1:Nat):Int)):=kX (gq _ a.1) rfl;have y:lM .i64 (((t.s.pos+1:Nat):Int)-1)=(t.s.pos:Nat):=by rw[oV (by simp only[tH];omega)];omega
  obtain⟨l,o,u,_,z,A,B⟩:=(g.fk d).Tz c .i64 rfl;obtain⟨rfl⟩:u = .I ops[t.s.pos]:=by simpa using B.1
  simp only[mC,w,gU,x,ei,l2,l3,pj,y,z,A];refine K3 j (by omega) (H _ ⟨hc.next,λl b=>b.elim (d l) λb=>gI _ a.1 λe=>b.2 e.symm⟩ ?_);have C:Dw F (gm G L.mX) h L.lu L.iu L.jA t R:={q.D with gx:=λl b=>q.D.gx l b.1}
  have D':=(C.other hc λl b=>by subst b;exact⟨a.2.1,λE=>E.2 rfl,a.2.2⟩).1;refine q.zaC d ?_ (λ_ h=>h) q.hq q.gl (gq _ a.1);have f:∀l,G l->_:=λl b=>if e:l=L.mX then e▸(⟨a.1,a.2.1,a.2.2⟩:_/\_/\∀i,¬comp L.lu L.iu L.jA R i L.mX) else D'.gx l ⟨b,e⟩
  exact{D' with gx:=f}
def gp(G:Nat->Prop)(v:V)(p:Nat):Nat->Prop:=λl=>G l\/l=p\/Loc v l
theorem xG(l:List Nat)(h:0<l.length):l.getD (l.length-1) 0=l.getLastD 0:=by
 rw[List.getLastD_eq_getLast?,List.getLast?_eq_getElem?,BO]
theorem MF(q:Dq F G h L ops t R)(hk:0<t.s.known.length)(aN:t.s.known.length<1000)(hs:t.s.eh.length<1000)(ho:ops.length<9223372036854775808)
  (H:∀F' h' R',(∀l,F l->F' l)->Kp F (gm G L.mX) h h'->Dq F' G h' L ops {t with s:=(fJ ops t.s).2} R'->R'.vk=R.vk->Q (.I ((fJ ops t.s).1:Nat)) h') :
  cP CS fW [.ptr L.lu 0,.ptr L.pE 0,.ptr L.iu 0] h Q:=by
 refine DD rfl rfl ?_;unfold vm;have aM:=(q.D.gx _ q.gl).1;have am:∀l,G l->l<h.next:=λl f=>(q.D.gx l f).1;have an:∀i l,comp L.lu L.iu L.jA R i l->l<h.next:=λi l f=>(q.D.sig f).2.1;have eb:fV [(V.I 0),(V.I 0),V.ee,V.ee] [(0,1),(1,1),(2,1),(3,1)] [(0,(V.I 1)),(1,.I t.s.eh.length)]=some (.agg [.I 1,.I t.s.eh.length,.ee,.ee]):=rfl;have U:(h.new (.cells 57 1 true false [(V.I 0),(V.I 0),V.ee,V.ee])).get h.next=some (.cells 57 1 true false [(V.I 0),(V.I 0),V.ee,V.ee]):=fi _ _;have e1:=FQ (n:=4) (ws:=[.I 1,.I t.s.eh.length,.ee,.ee]) U rfl rfl rfl;simp only[eJ,gU,yC,q.D.ldS,q.D.os.len,eb,fE,e1,ei];have K:h.next<(h.new (.cells 57 1 true false [(V.I 0),(V.I 0),V.ee,V.ee])).next:=KX _
 have c2:lV (λl=>l=h.next) h ((h.new (.cells 57 1 true false [(V.I 0),(V.I 0),V.ee,V.ee])).put h.next (.cells 57 1 true false [.I 1,.I t.s.eh.length,.ee,.ee])):=
  (lV.new _ _).trans (lV.put _ rfl K)
 have g2:=gq (h:=h.new (.cells 57 1 true false [(V.I 0),(V.I 0),V.ee,V.ee])) (.cells 57 1 true false [.I 1,.I t.s.eh.length,.ee,.ee]) K;have n2:((h.new (.cells 57 1 true false [(V.I 0),(V.I 0),V.ee,V.ee])).put h.next (.cells 57 1 true false [.I 1,.I t.s.eh.length,.ee,.ee])).next=h.next+1:=rfl;generalize ((h.new (.cells 57 1 true false [(V.I 0),(V.I 0),V.ee,V.ee])).put h.next (.cells 57 1 true false [.I 1,.I t.s.eh.length,.ee,.ee]))=h2 at*;clear U e1 K;have fresh:∀l,h.next<=l->¬F l/\¬G l/\∀i,¬comp L.lu L.iu L.jA R i l:=λl f=>⟨λhf=>by have:=q.D.fl l hf;omega,λhg=>by have:=am l hg;omega,λi hi=>by have:=an i l hi;omega⟩
 obtain ⟨W,k2⟩:=q.D.other c2 (λl f=>by subst f;exact fresh _ (jj _));have X:Dw F (gp G .ee h.next) h2 L.lu L.iu L.jA t R:=W.VS λl f=>f.elim .inl λf=> .inr (by
  rcases f with rfl|f
  ·exact⟨by omega,(fresh _ (jj _)).1,(fresh _ (jj _)).2.2⟩
  ·exact f.elim)
 have q2:Dq F (gp G .ee h.next) h2 L ops t R:=q.step k2 X (λ_ h=>h) (.inl q.gl) q.hq rfl;rw[q2.vg];simp only[gU,SV,LY,N0,OO,Eo];refine xJ (m:=4) q2 (by decide) (by decide) ho λy k3 q3=>?_;have g3:y.get h.next=some (.cells 57 1 true false [.I 1,.I t.s.eh.length,.ee,.ee]):=by
  rw[k3.fk _ (.inr ⟨.inr (.inl rfl),by omega⟩)];exact g2
 have hr:(draw ops t.s.pos 4).1<4:=xF _ _ (by decide)
 refine AD (λk x0 x1 x2 x4 x5 h'=>∃(s:Ds) (l:List Nat) (vl:V),x0 = .ptr L.lu 0/\x1 = .ptr L.pE 0/\x2 = .ptr L.iu 0/\x4 = .ptr h.next 0/\x5 = .I (k:Nat)/\Dq F (gp G vl h.next) h' L ops {t with s:=s} R/\Kp F (gm G L.mX) h h'/\
  h'.get h.next=some (.cells 57 1 true false [.I 1,.I t.s.eh.length,vl,.ee])/\ko eN ey F h' l vl/\(∀z,Loc vl z->h.next<z)/\some_ ops k s l=some_ ops (draw ops t.s.pos 4).1 (num ops t.s 4).2 []/\s.known=t.s.known/\s.eh=t.s.eh/\l.length+k<=4) ?_
  ⟨(num ops t.s 4).2,[],.ee,rfl,rfl,rfl,rfl,rfl,q3,(k2.gm L.mX).trans ⟨k3.next,λl f=>k3.fk l (f.imp id λf=>⟨.inl f.1,f.2⟩)⟩ (λ_ h=>h),g3,.nil,λ_ h=>h.elim,rfl,rfl,rfl,by simp;omega⟩
 clear q3 k3 g3 q2 X W k2 g2 c2 eb;rintro k x0 x1 x2 x4 x5 h' ⟨s,l,vl,rfl,rfl,rfl,rfl,rfl,j,k',gF,ol,P,p,r,A,hlen⟩;unfold ri;have ao:ez (.ptr h.next 2) h' = some vl:=kX gF rfl;have kl:({t with s:=s}:Dt).s.known.length=t.s.known.length:=by show s.known.length=_;rw[r]
 have Y:h.next<h'.next:=(j.D.gx h.next (.inr (.inl rfl))).1;have Z:∀{g:Hp} {s1:Ds},Dq F (gp G vl h.next) g L ops {t with s:=s1} R->Dw F G g L.lu L.iu L.jA {t with s:=s1} R:=λq=>{q.D with gx:=λl f=>q.D.gx l (.inl f)}
 simp only[nf,gU,xV,AW]
 cases k with
 | succ k=>
   rw[if_pos (by omega)];have lk:=j.D.ok.len;rw[kl]at lk;rw[j.vg];simp only[eJ,gU,yC,ao,j.D.zE,lk,SV,LY,N0,OO,Eo];refine xJ (m:=t.s.known.length) j hk (by omega) ho λg u I=>?_;have ap:g.get h.next=some (.cells 57 1 true false [.I 1,.I (t.s.eh.length:Nat),vl,.ee]):=by
     rw[u.fk _ (.inr ⟨.inr (.inl rfl),by omega⟩)];exact gF
   have aa:ko eN ey F g l vl:=ol.fk (λz b=>u.fk z (.inl b)) (λz b=>u.fk z (.inr ⟨.inr (.inr b),by have:=P z b;omega⟩)) u.next;have aq:(draw ops s.pos t.s.known.length).1<t.s.known.length:=xF _ _ hk;obtain⟨l1,o1,ab,ac,i1,i2⟩:=I.FO (i:=(draw ops s.pos t.s.known.length).1) (by show _<s.known.length;rw[r];exact aq);have B:ez (.ptr l1 o1) g=some (.I (s.known.getD (draw ops s.pos t.s.known.length).1 0:Nat)):=i2;refine⟨u.next,?_⟩;have e3:∀a:Nat,jt 3 1 1 (V.I 0) [(0,V.I (a:Nat))]=some (.cells 3 1 true false [V.I (a:Nat)],λl=> .slice l 0 1):=λ_=>rfl;have ar:gD 1 R.vk (.I ((draw ops ({t with s:=s}:Dt).s.pos t.s.known.length).1:Nat))=some (.ptr l1 o1):=i1;simp only[ar,B,gU,e3,hK];generalize hv:s.known.getD (draw ops s.pos t.s.known.length).1 0=a at*;have W:=(Z I).grow (lV.new g (.cells 3 1 true false [V.I (a:Nat)]));have ae:(g.new (.cells 3 1 true false [V.I (a:Nat)])).get h.next=_:=(fo _ (by have:=u.next;omega)).trans ap;refine⟨⟨fi _ _,O.gO _ _ _ _ _⟩,iF B (fo _ ab),W.zE,kX ae rfl,?_⟩;have au:ko eN ey F (g.new (.cells 3 1 true false [V.I (a:Nat)])) l vl:=aa.fk (λz b=>fo _ (I.D.fl z b)) (λz b=>fo _ (aa.wh b).2.1) (Nk _);have hx:lC (g.new (.cells 3 1 true false [V.I (a:Nat)])) 1 (.slice g.next 0 1)=some (1,[V.I (a:Nat)]):=nB (k:=0) rfl;obtain⟨d,y,a1,ag,c3,aw⟩:=au.append (jM:=8) (ys:=[a]) hx ⟨[V.I (a:Nat)],[],rfl,rfl,trivial⟩ rfl rfl (by simp) (by decide) (λz b=>wCB (I.D.fl z b)) (by simp;omega) (by simp;omega);have n2:(g.new (.cells 3 1 true false [V.I (a:Nat)])).next=g.next+1:=rfl;have w:h.next<y.next:=by have:=c3.next;have:=u.next;omega
   have ax:y.get h.next=some (.cells 57 1 true false [.I 1,.I (t.s.eh.length:Nat),vl,.ee]):=by
     rw[c3.fk _ (by have:=u.next;omega) λb=>Tw _ (P _ b)];exact ae
   have a2:=nT (o:=2) (v:=d) (nQ:=[.I 1,.I (t.s.eh.length:Nat),d,.ee]) ax (by simp) ag.one rfl;have ay:fe 3 1 8 vl (.slice g.next 0 1) (g.new (.cells 3 1 true false [V.I (a:Nat)]))=some (.val d y):=a1;have w1:lM .i64 (((k+1:Nat):Int)-1)=(k:Nat):=NT (by omega);simp only[ay,ei,a2,pj,w1,gU];refine⟨c3.next,jj _,k,by omega,?_⟩
   have cc:lV (λz=>Loc vl z\/z=h.next) (g.new (.cells 3 1 true false [V.I (a:Nat)])) (y.put h.next (.cells 57 1 true false [.I 1,.I (t.s.eh.length:Nat),d,.ee])):=
     (c3.U2 λ_ _ h=> .inl h).trans (lV.put _ (.inr rfl) w)
   obtain⟨D4,k4⟩:=W.other cc λz b=>fresh z (by rcases b with b|rfl;exact wCO (P z b);exact jj _);have M:∀z,Loc d z->h.next<z:=λz b=>(aw z b).elim (P z) λe=>by have:=u.next;omega
   have ah:ko eN ey F (y.put h.next (.cells 57 1 true false [.I 1,.I (t.s.eh.length:Nat),d,.ee])) (l++[a]) d:=
     ag.fk (λz b=>gI _ w λe=>(fresh h.next (jj _)).1 (e▸b)) (λz b=>gI _ w (by have:=M z b;omega)) (jj _)
   have aA:Dw F (gp G d h.next) (y.put h.next (.cells 57 1 true false [.I 1,.I (t.s.eh.length:Nat),d,.ee])) L.lu L.iu L.jA _ R:=D4.VS λz b=>b.elim .inl λb=> .inr (by
     rcases b with rfl|b
     ·exact⟨w,(fresh _ (jj _)).1,(fresh _ (jj _)).2.2⟩
     ·have C:=fresh z (wCO (M z b));exact⟨(ah.wh b).2.1,C.1,C.2.2⟩)
   have kk:Kp F G g (y.put h.next (.cells 57 1 true false [.I 1,.I (t.s.eh.length:Nat),d,.ee])):=
     (Kp.new F G g _ I.D.fl λz b=>(I.D.gx z (.inl b)).1).trans k4 λ_ h=>h
   have qG:Dq F G g L ops _ R:={I with D:=Z I,gl:=q.gl}
   refine⟨{s with pos:=(draw ops s.pos t.s.known.length).2},l++[a],d,by trivial,by trivial,by trivial,by trivial,by trivial,qG.step kk aA (λ_ h=>h) (.inl q.gl) j.hq rfl,?_,gq _ w,ah,M,?_,r,A,by simp;omega⟩
   ·exact(k'.trans ⟨u.next,λz b=>u.fk z (b.imp id λb=>⟨.inl b.1,b.2⟩)⟩ λ_ h=>h).trans (kk.gm _) λ_ h=>h
   ·rw[<-p,<-hv]
    show _=some_ ops k (fK ops s).2 (l++[(fK ops s).1]);unfold fK
    rw[r]
 | zero=>
   rw[if_neg (by omega)];obtain⟨e1,e2⟩:l=(some_ ops (draw ops t.s.pos 4).1 (num ops t.s 4).2 []).1/\s=(some_ ops (draw ops t.s.pos 4).1 (num ops t.s 4).2 []).2:=by rw[<-p];exact⟨rfl,rfl⟩
   have lk:=j.D.ok.len;rw[kl]at lk;have w1:lM .i64 (((t.s.known.length:Nat):Int)-1)=((t.s.known.length-1:Nat):Int):=by
     rw[show((t.s.known.length:Nat):Int)=((t.s.known.length-1+1:Nat):Int) by omega];exact NT (by omega)
   obtain ⟨l1,o1,ab,ac,i1,i2⟩:=j.FO (i:=t.s.known.length-1) (by rw[kl];omega);have B:ez (.ptr l1 o1) h' = some (.I (t.s.known.getLastD 0:Nat)):=by
     rw[i2,show({t with s:=s}:Dt).s.known=t.s.known from r,xG _ hk]
   have e3:∀a:Nat,jt 3 1 1 (V.I 0) [(0,V.I (a:Nat))]=some (.cells 3 1 true false [V.I (a:Nat)],λl=> .slice l 0 1):=λ_=>rfl;simp only[j.D.zE,gU,lk,pj,w1,i1,B,e3,fE,eJ,yC];have D5:=(Z j).grow (lV.new h' (.cells 3 1 true false [V.I (t.s.known.getLastD 0:Nat)]));have k5:Kp F G h' (h'.new (.cells 3 1 true false [V.I (t.s.known.getLastD 0:Nat)])):=(Z j).yI _;have g5:(h'.new (.cells 3 1 true false [V.I (t.s.known.getLastD 0:Nat)])).get h'.next=_:=fi _ _;have aB:(h'.new (.cells 3 1 true false [V.I (t.s.known.getLastD 0:Nat)])).get h.next=_:=(fo _ Y).trans gF;have aC:ko eN ey F (h'.new (.cells 3 1 true false [V.I (t.s.known.getLastD 0:Nat)])) l vl:=ol.fk (λz b=>fo _ (j.D.fl z b)) (λz b=>fo _ (ol.wh b).2.1) (Nk _);have n5:(h'.new (.cells 3 1 true false [V.I (t.s.known.getLastD 0:Nat)])).next=h'.next+1:=rfl;generalize h'.new (.cells 3 1 true false [V.I (t.s.known.getLastD 0:Nat)])=C at*;have a1:=nT (o:=3) (v:= .slice h'.next 0 1) (nQ:=[.I 1,.I (t.s.eh.length:Nat),vl,.slice h'.next 0 1]) aB (by simp) rfl rfl;have E:h.next<C.next:=by omega
   obtain⟨D6,k6⟩:=D5.other (lV.put (S:=λz=>z=h.next) (.cells 57 1 true false [.I 1,.I (t.s.eh.length:Nat),vl,.slice h'.next 0 1]) rfl E) λz b=>by subst b;exact fresh _ (jj _)
   have aD:=gq (.cells 57 1 true false [.I 1,.I (t.s.eh.length:Nat),vl,.slice h'.next 0 1]) E;have g6:(C.put h.next (.cells 57 1 true false [.I 1,.I (t.s.eh.length:Nat),vl,.slice h'.next 0 1])).get h'.next=_:=(gI _ E (by omega)).trans g5;have ai:ko eN ey F (C.put h.next (.cells 57 1 true false [.I 1,.I (t.s.eh.length:Nat),vl,.slice h'.next 0 1])) l vl:=aC.fk (λz b=>k6.fk z (.inl b)) (λz b=>gI _ E (by have:=P z b;omega)) (jj _);have n6:(C.put h.next (.cells 57 1 true false [.I 1,.I (t.s.eh.length:Nat),vl,.slice h'.next 0 1])).next=C.next:=rfl;simp only[a1,ei];generalize C.put h.next (.cells 57 1 true false [.I 1,.I (t.s.eh.length:Nat),vl,.slice h'.next 0 1])=c at*;have lA:gg 4 (.ptr h.next 0) c=some (.agg [.I 1,.I (t.s.eh.length:Nat),vl,.slice h'.next 0 1]):=BY aD rfl;have ow:gv [.I 1,.I (t.s.eh.length:Nat),vl,.slice h'.next 0 1]=true:=by simp only[eQ,ol.one];rfl
   have e7:jt 57 4 1 (V.agg [(V.I 0),(V.I 0),V.ee,V.ee]) [(0,.agg [.I 1,.I (t.s.eh.length:Nat),vl,.slice h'.next 0 1])]=some (.cells 57 4 true false [.I 1,.I (t.s.eh.length:Nat),vl,.slice h'.next 0 1],λl=> .slice l 0 1):=pP rfl rfl ow;have e8:∀m:Nat,fV [V.ee] [(0,1)] [(0,.slice m 0 1)]=some (.agg [.slice m 0 1]):=λ_=>rfl;have e9:∀m:Nat,jt 60 1 1 (V.agg [V.ee]) [(0,.agg [.slice m 0 1])]=some (.cells 60 1 true false [.slice m 0 1],λl=> .slice l 0 1):=λm=>pP rfl rfl rfl;simp only[D6.ldS,gU,lA,e7,fE,e8,e9];have D7:=D6.grow (lV.new c (.cells 57 4 true false [.I 1,.I (t.s.eh.length:Nat),vl,.slice h'.next 0 1]));have k7:=D6.yI (.cells 57 4 true false [.I 1,.I (t.s.eh.length:Nat),vl,.slice h'.next 0 1]);have g7:(c.new (.cells 57 4 true false [.I 1,.I (t.s.eh.length:Nat),vl,.slice h'.next 0 1])).get c.next=_:=fi _ _;have aE:(c.new (.cells 57 4 true false [.I 1,.I (t.s.eh.length:Nat),vl,.slice h'.next 0 1])).get h'.next=_:=(fo _ (by omega)).trans g6;have aj:ko eN ey F (c.new (.cells 57 4 true false [.I 1,.I (t.s.eh.length:Nat),vl,.slice h'.next 0 1])) l vl:=ai.fk (λz b=>fo _ (D6.fl z b)) (λz b=>fo _ (ai.wh b).2.1) (Nk _);have n7:(c.new (.cells 57 4 true false [.I 1,.I (t.s.eh.length:Nat),vl,.slice h'.next 0 1])).next=c.next+1:=rfl;generalize c.new (.cells 57 4 true false [.I 1,.I (t.s.eh.length:Nat),vl,.slice h'.next 0 1])=x at*;have D8:=D7.grow (lV.new x (.cells 60 1 true false [.slice c.next 0 1]));have k8:=D7.yI (.cells 60 1 true false [.slice c.next 0 1]);have g8:(x.new (.cells 60 1 true false [.slice c.next 0 1])).get c.next=_:=(fo _ (by omega)).trans g7;have aF:(x.new (.cells 60 1 true false [.slice c.next 0 1])).get h'.next=_:=(fo _ (by omega)).trans aE;have ak:ko eN ey F (x.new (.cells 60 1 true false [.slice c.next 0 1])) l vl:=aj.fk (λz b=>fo _ (D7.fl z b)) (λz b=>fo _ (aj.wh b).2.1) (Nk _);have aG:lC (x.new (.cells 60 1 true false [.slice c.next 0 1])) 1 (.slice x.next 0 1)=some (1,[.slice c.next 0 1]):=nB (k:=0) rfl;have n8:(x.new (.cells 60 1 true false [.slice c.next 0 1])).next=x.next+1:=rfl;generalize x.new (.cells 60 1 true false [.slice c.next 0 1])=T at*;have D9:Dw (λz=>F z\/Loc vl z\/z=h'.next\/z=c.next) G T L.lu L.iu L.jA {t with s:=s} R:=D8.more (λ_ h=> .inl h) λz b=>b.elim .inl λb=> .inr (by
     have aH:h.next<z/\z<T.next:=by
       rcases b with b|rfl|rfl
       ·exact⟨P z b,(ak.wh b).2.1⟩
       ·omega
       ·omega
     have h9:=fresh z (by omega);exact⟨aH.2,h9.2.2,h9.2.1⟩)
   have sl:iC eN (λz=>F z\/Loc vl z\/z=h'.next\/z=c.next) T l vl:=ak.Yo (λ_ h=> .inl h) λ_ h=> .inr (.inl h)
   have ss:iC eN (λz=>F z\/Loc vl z\/z=h'.next\/z=c.next) T [t.s.known.getLastD 0] (.slice h'.next 0 1):=
     .inr ⟨h'.next,0,3,true,false,[V.I (t.s.known.getLastD 0:Nat)],rfl,.inr (.inr (.inl rfl)),aF,.inr rfl,Kl _,⟨_,[],rfl,rfl,trivial⟩⟩
   have sf:iC eF (λz=>F z\/Loc vl z\/z=h'.next\/z=c.next) T [⟨1,(t.s.eh.length:Nat),l,[t.s.known.getLastD 0]⟩] (.slice c.next 0 1):=
     .inr ⟨c.next,0,57,true,false,[.I 1,.I (t.s.eh.length:Nat),vl,.slice h'.next 0 1],rfl,.inr (.inr (.inr rfl)),g8,.inr rfl,Kl _,⟨_,[],rfl,⟨vl,_,rfl,sl,ss⟩,trivial⟩⟩
   obtain⟨v',h9,al,b1,b2,b3,b4,k9,N⟩:=D9.zdM (ys:=[[⟨1,(t.s.eh.length:Nat),l,[t.s.known.getLastD 0]⟩]]) aG ⟨[.slice c.next 0 1],[],rfl,⟨_,rfl,sf⟩,trivial⟩ rfl rfl (by simp) (by show s.eh.length+_<_;rw[A];simp;omega);have aI:fe 60 1 24 R.vs (.slice x.next 0 1) T=some (.val v' h9):=b1;have lS:=N.os.len;have aJ:((s.eh++[[(⟨1,(t.s.eh.length:Nat),l,[t.s.known.getLastD 0]⟩:Fm)]]).length:Nat)=t.s.eh.length+1:=by rw[A];simp
   have aK:fF v' = some (.I ((t.s.eh.length+1:Nat):Int)):=by rw[<-aJ];exact lS
   have w2:lM .i64 (((t.s.eh.length+1:Nat):Int)-1)=(t.s.eh.length:Nat):=NT (by omega);simp only[aI,ei,b3,N.ldS,gU,aK,pj,w2];have J:Kp F G h' al:=(((k5.trans k6 λ_ h=>h).trans k7 λ_ h=>h).trans k8 λ_ h=>h).trans ⟨k9.next,λz b=>k9.fk z (b.imp (λh=> .inl h) id)⟩ λ_ h=>h;have qG:Dq F G h' L ops _ R:={j with D:=Z j,gl:=q.gl}
   have hE:({t with s:=(fJ ops t.s).2}:Dt) = {t with s:={s with eh:=s.eh++[[⟨1,(t.s.eh.length:Nat),l,[t.s.known.getLastD 0]⟩]]} }:=by
     unfold fJ;rw[e1,A,e2];rfl
   have aL:=qG.step J N (λ_ h=> .inl h) q.gl j.hq rfl;refine H (λz=>F z\/Loc vl z\/z=h'.next\/z=c.next) al {R with vs:=v'} (λ_ h=> .inl h) (k'.trans (J.gm _) λ_ h=>h) ?_ rfl;rw[hE];exact aL
end
open Un
theorem W3{t:Nat}{k:IntKind}{a b:Int}{A B:Prop}(h:if a<b then A else B):oP (eo .lss t (.int k a) (.int k b)) λv=>bP v A B:=by
 simp only[jD,gU,xV,AW];exact h
theorem gj{t:Nat}{k:IntKind}{a b:Int}{A B:Prop}(h:if a=b then A else B):oP (eo .eql t (.int k a) (.int k b)) λv=>bP v A B:=by
 simp only[gQ,gU,xV,z8];exact h
theorem DY{t:Nat}{k:IntKind}{a b:Int}{A B:Prop}(h:if b<a then A else B):oP (eo .gtr t (.int k a) (.int k b)) λv=>bP v A B:=by
 simp only[nf,gU,xV,AW];exact h
theorem jO{t n m:Nat}{K:V->Prop}(a:n<1000000000)(b:m<1000000000)(H:K (.I ((n+m:Nat):Int))):oP (eo .add t (.I n) (.I m)) K:=by
 simp only[mC,zdP a b,gU];exact H
theorem xK{t n:Nat}{K:V->Prop}(a:n<1000000000)(h0:0<n)(H:K (.I ((n-1:Nat):Int))):oP (eo .sub t (.I n) (.I 1)) K:=by
 obtain⟨m,rfl⟩:∃m,n=m+1:=⟨n-1,by omega⟩
 simp only[pj,NT (n:=m) (by omega),gU];exact H
theorem gw{c A B:Prop}[Decidable c] (hc:c)(h:A):if c then A else B:=by rw[if_pos hc];exact h
theorem gi{c A B:Prop}[Decidable c] (hc:¬c)(h:B):if c then A else B:=by rw[if_neg hc];exact h
theorem fN{t n:Nat}{K:V->Prop}(H:K (.I ((n+1:Nat):Int)))(h:n<1000000000:=by omega):oP (eo .add t (.I n) (.I 1)) K:=jO (m:=1) h (by decide) H
theorem gG{t:Nat}{k:IntKind}{a b:Int}{A B:Prop}(H:A)(h:a<b:=by omega):oP (eo .lss t (.int k a) (.int k b)) λv=>bP v A B:=W3 (gw h H)
theorem iI{t:Nat}{k:IntKind}{a b:Int}{A B:Prop}(H:B)(h:¬a<b:=by omega):oP (eo .lss t (.int k a) (.int k b)) λv=>bP v A B:=W3 (gi h H)
section
variable{F F' G G':Nat->Prop}{h h':Hp}{L:Lc}{ops:List Int}{t t':Dt}{R R':Rw}{Q:fy}
theorem tU{α:Type}{l:List α}{x:α}{n:Nat}(h:l.length<=n):(l++[x]).length<=n+1:=by rw[y6];exact Nat.add_le_add_right h 1
structure Sm (s:Ds) (n:Nat):Prop where
 v:s.ef.length<=n
 c:s.cur.length<=n
 k:s.known.length<=n
 st:s.eh.length<=n
 k0:0<s.known.length
theorem Sm.le{s:Ds}{n m:Nat}(a:Sm s n)(h:n<=m):Sm s m:=⟨Gt a.v h,Gt a.c h,Gt a.k h,Gt a.st h,a.k0⟩
theorem Sm.put{s:Ds}{n:Nat}(a:Sm s n)(x:Vl):Sm (put s x) (n+1):=
 ⟨tU a.v,tU a.c,X6 a.k,X6 a.st,a.k0⟩
theorem Sm.iJ{s:Ds}{n:Nat}(a:Sm s n)(x:Vl):Sm (iJ s x) (n+1):=
 ⟨tU a.v,tU a.c,
  tU a.k,X6 a.st,by show 0<(s.known++[s.ef.length]).length;rw[y6];exact BL a.k0 (Nat.le_add_right _ _)⟩
theorem Sm.pos{s:Ds}{n:Nat}(a:Sm s n)(p:Nat):Sm {s with pos:=p} n:=⟨a.v,a.c,a.k,a.st,a.k0⟩
theorem Sm.state{s:Ds}{n:Nat}(a:Sm s n)(ops:List Int):Sm (fJ ops s).2 (n+1):=by
 have hp:∃p,(some_ ops (num ops s 4).1 (num ops s 4).2 []).2 = {s with pos:=p}:=by
  obtain⟨p,h⟩:=Fp ops (num ops s 4).1 (num ops s 4).2 [];exact⟨p,h⟩
 obtain⟨p,hp⟩:=hp;unfold fJ;simp only[hp];exact⟨X6 a.v,X6 a.c,X6 a.k,tU a.st,a.k0⟩
theorem Zn(q:Dq F G h L ops t R){n a:Nat}(m:Sm t.s n)(p:n<1000){K:Hp->Prop}
  (H:∀h' R',Kp F G h h'->Dq F G h' L ops {t with s:={t.s with known:=t.s.known++[a]} } R'->K h') :
  wU (jt 3 1 1 (V.I 0) [(0,.I a)]) h λo c b=>((b.get h.next=some o/\O.beq o o=true)/\(ez (.ptr L.iu 0) b=some R.vk/\fm (fe 3 1 8 R.vk c b) λd e=>(b.next<=e.next/\fm (gK 1 (.ptr L.iu 0) d e) λ_ g=>(e.next<=g.next/\K g)))):=by
 have e3:jt 3 1 1 (V.I 0) [(0,V.I a)]=some (.cells 3 1 true false [V.I a],λl=> .slice l 0 1):=rfl;rw[e3,hK];have i:=q.D.grow (lV.new h (.cells 3 1 true false [V.I a]));have r:lC (h.new (.cells 3 1 true false [V.I a])) 1 (.slice h.next 0 1)=some (1,[V.I a]):=nB (k:=0) rfl;obtain⟨u,v,x,a1,a2,a3,a4,k3,w⟩:=i.zbr (ys:=[a]) r ⟨[V.I a],[],rfl,rfl,trivial⟩ rfl rfl (by simp) (by have:=m.k;simp;omega);have f:fe 3 1 8 R.vk (.slice h.next 0 1) (h.new (.cells 3 1 true false [V.I a]))=some (.val u v):=a1;refine⟨⟨fi _ _,O.gO _ _ _ _ _⟩,i.zE,?_⟩;simp only[f,ei,a3];have j:=(q.D.yI (.cells 3 1 true false [V.I a])).trans k3 λ_ h=>h;exact⟨a2,a4,H _ _ j (q.step j w (λ_ h=>h) q.gl q.hq rfl)⟩
theorem Gj{x:Vl}{w:List V}(q:Dq F G h L ops t R){n:Nat}(b:Sm t.s n)(p:n<999)(r:eV.rel F h x w){K:Hp->Prop}
  (H:∀h' R',Kp F G h h'->Dq F G h' L ops {t with s:=iJ t.s x} R'->K h') :
  cP CS fD [.agg w,.ptr L.lu 0,.ptr L.jA 0] h λd e=>(h.next<=e.next/\wU (jt 3 1 1 (V.I 0) [(0,d)]) e λo f a=>((a.get e.next=some o/\O.beq o o=true)/\(ez (.ptr L.iu 0) a=some R.vk/\fm (fe 3 1 8 R.vk f a) λg i=>(a.next<=i.next/\fm (gK 1 (.ptr L.iu 0) g i) λ_ m=>(i.next<=m.next/\K m))))):=by
 have hv:=b.v;have hc:=b.c;refine RX q.D q.hq r (by omega) (by omega) λu R1 j y k l=>⟨j.next,?_⟩
 have z:Dq F G u L ops {t with s:=put t.s x} R1:=q.step j y (λ_ h=>h) q.gl k rfl;rw[<-l];exact Zn z (b.put x) (by omega) λA R2 B C=>H A R2 (j.trans B λ_ h=>h) C
theorem I5{x:Vl}{w:List V}(q:Dq F G h L ops t R){n:Nat}(d:Sm t.s n)(f:n<999)(g:eV.rel F h x w){K:fy}
  (H:∀h' R',Kp F G h h'->R'.vk=R.vk->Dq F G h' L ops {t with s:=put t.s x} R'->K (.I t.s.ef.length) h'):cP CS fD [.agg w,.ptr L.lu 0,.ptr L.jA 0] h K:=by
 have hv:=d.v;have hc:=d.c;exact RX q.D q.hq g (by omega) (by omega) λi R1 e j a b=>H i R1 e b (q.step e j (λ_ h=>h) q.gl a rfl)
theorem LI(q:Dq F G h L ops t R)(c:ops.length<9223372036854775808){n:Nat}(a:Sm t.s n)(d:n<1000){K:fy}
  (H:∀h' l o,Kp F (gm G L.mX) h h'->Dq F G h' L ops {t with s:=(fK ops t.s).2} R->l<h'.next->gD 1 R.vk (.I ((draw ops t.s.pos t.s.known.length).1:Nat))=some (.ptr l o)->ez (.ptr l o) h' = some (.I ((fK ops t.s).1:Nat))->K (.I ((draw ops t.s.pos t.s.known.length).1:Nat)) h') :
  cP CS fq [.I t.s.known.length,.ptr L.mX 0,.ptr L.lr 0] h K:=by
 refine xJ q a.k0 (by have:=a.k;omega) c λe f b=>?_;obtain⟨l,o,g,_,j,m⟩:=b.FO (i:=(draw ops t.s.pos t.s.known.length).1) (xF _ _ a.k0);exact H e l o f b g j m
theorem zbq{b:Bk}{nv:V}(q:Dq F G h L ops t R){n:Nat}(hn:t.blocks.length<1000)(O:b.ef=[])(P:b.fg=[])(a:iC eN F h b.next nv)
  (H:∀F' h' R',(∀l,F l->F' l)->Kp F G h h'->Dq F' G h' L ops {s:={t.s with cur:=[]},blocks:=t.blocks++[⟨t.s.cur,b.fin,b.cond,b.next,t.fg,b.state⟩],fg:=[]} R'->Q (.I t.blocks.length) h') :
  cP CS j7 [.agg (kr b .ee nv .ee),.ptr L.jA 0,.ptr L.lu 0] h Q:=by
 refine CP rfl rfl ?_;unfold vF;have T:gv (kr b .ee nv .ee)=true:=by simp only[kr,eQ,a.one];rfl
 have f:∀l,G l->l<h.next:=λl e=>(q.D.gx l e).1;have g:∀i l,comp L.lu L.iu L.jA R i l->l<h.next:=λi l e=>(q.D.sig e).2.1;have fresh:∀l,h.next<=l->¬F l/\¬G l/\∀i,¬comp L.lu L.iu L.jA R i l:=λl e=>⟨λU=>by have:=q.D.fl l U;omega,λW=>by have:=f l W;omega,λi hi=>by have:=g i l hi;omega⟩
 have y:=q.D.grow (lV.new h (.cells 50 1 true false (kr b .ee nv .ee)));have X:=q.D.yI (.cells 50 1 true false (kr b .ee nv .ee));have Y:(h.new (.cells 50 1 true false (kr b .ee nv .ee))).get h.next=_:=fi _ _;have j:h.next<(h.new (.cells 50 1 true false (kr b .ee nv .ee))).next:=KX _;simp only[Du T,fE,eJ,gU,yC,X8,y.ldC];generalize h.new (.cells 50 1 true false (kr b .ee nv .ee))=A at*;have Z:=nT (o:=0) (v:=R.cc) (nQ:=kr b R.cc nv .ee) Y (by simp[kr]) (by rw[q.hq];exact q.D.oc.one) rfl;obtain⟨B,k2⟩:=y.other (lV.put (S:=λz=>z=h.next) (.cells 50 1 true false (kr b R.cc nv .ee)) rfl j) λz m=>by subst m;exact fresh _ (jj _)
 have g2:=gq (.cells 50 1 true false (kr b R.cc nv .ee)) j;have C:h.next<(A.put h.next (.cells 50 1 true false (kr b R.cc nv .ee))).next:=j;simp only[Z,ei,B.ldP,gU];generalize A.put h.next (.cells 50 1 true false (kr b R.cc nv .ee))=h2 at*;have e3:=nT (o:=4) (v:=R.vp) (nQ:=kr b R.cc nv R.vp) g2 (by simp[kr]) q.D.sp.one rfl;obtain⟨r,k3⟩:=B.other (lV.put (S:=λz=>z=h.next) (.cells 50 1 true false (kr b R.cc nv R.vp)) rfl C) λz m=>by subst m;exact fresh _ (jj _)
 have g3:=gq (.cells 50 1 true false (kr b R.cc nv R.vp)) C;simp only[e3,ei,r.ZP,gU];generalize h2.put h.next (.cells 50 1 true false (kr b R.cc nv R.vp))=d at*;have E:gv (kr b R.cc nv R.vp)=true:=by simp only[kr,eQ,a.one,q.hq,q.D.oc.one,q.D.sp.one];rfl
 have lA:gg 6 (.ptr h.next 0) d=some (.agg (kr b R.cc nv R.vp)):=BY g3 rfl;have e4:jt 50 6 1 (V.agg [V.ee,(V.I 0),(V.I 0),V.ee,V.ee,(V.I 0)]) [(0,.agg (kr b R.cc nv R.vp))]=some (.cells 50 6 true false (kr b R.cc nv R.vp),λl=> .slice l 0 1):=pP rfl rfl E;simp only[lA,gU,e4,fE];have I:=r.grow (lV.new d (.cells 50 6 true false (kr b R.cc nv R.vp)));have k4:=r.yI (.cells 50 6 true false (kr b R.cc nv R.vp));have u:lC (d.new (.cells 50 6 true false (kr b R.cc nv R.vp))) 6 (.slice d.next 0 1)=some (1,kr b R.cc nv R.vp):=nB (k:=0) rfl;have J:Kp F G h (d.new (.cells 50 6 true false (kr b R.cc nv R.vp))):=((X.trans k2 λ_ h=>h).trans k3 λ_ h=>h).trans k4 λ_ h=>h;generalize d.new (.cells 50 6 true false (kr b R.cc nv R.vp))=K at*;obtain⟨sc,D5⟩:=I.flush
 have hw:eK.rel (fzc F R.vc) K ⟨t.s.cur,b.fin,b.cond,b.next,t.fg,b.state⟩ (kr b R.cc nv R.vp):=
  ⟨R.cc,nv,R.vp,rfl,by rw[q.hq];exact sc,(a.fk λl e=>J.fk l (.inl e)).mono λ_ h=> .inl h,I.sp.mono λ_ h=> .inl h⟩
 obtain ⟨M,h5,h6,a1,a2,a3,a4,k6,N⟩:=D5.zdz (ys:=[⟨t.s.cur,b.fin,b.cond,b.next,t.fg,b.state⟩]) u ⟨kr b R.cc nv R.vp,[],by simp,hw,trivial⟩ rfl E (by simp) (by simp;omega);have w:fe 50 6 96 R.vb (.slice d.next 0 1) K=some (.val M h5):=a1;have e7:fV [V.ee,(V.I 0),(V.I 0),V.ee,V.ee,(V.I 0)] [(0,1),(1,1),(2,1),(3,1),(4,1),(5,1)] []=some (.agg [.ee,.I 0,.I 0,.ee,.ee,.I 0]):=rfl;have e8:=FQ (n:=6) (ws:=[.ee,.I 0,.I 0,.ee,.ee,.I 0]) N.gb rfl rfl rfl;obtain⟨k7,x⟩:=N.ZZ (c:= .ee) (p:= .ee) (ps:=[]) .nil;have lb:fF M=some (.I ((t.blocks.length+1:Nat):Int)):=by
  have:=x.ob.len;simpa using this
 simp only[w,ei,a3,e7,gU,e8,x.ZP,lb,pj,NT (n:=t.blocks.length) (by omega)];have kb:=(J.trans (F':=fzc F R.vc) k6 λ_ h=> .inl h).trans (F':=fzc F R.vc) k7 λ_ h=> .inl h;exact H (fzc F R.vc) _ _ (λ_ h=> .inl h) kb (q.step kb x (λ_ h=> .inl h) q.gl rfl rfl)
end
