/- Parts. -/
import Derived.Test.YtkpicojjjifmgabGreatDoorM18
import Derived.Test.YtkpicojjjifmgabGreatDoorM19
import Derived.Test.YtkpicojjjifmgabGreatDoorM15
set_option maxHeartbeats 4000000
namespace Go.Proofs.YtkpicojjjifmgabGreatDoor.Hx
open Un
theorem Fg{e:Nat}{w:List V}(a:gw w=true):lR e (.agg w)=some (.cells e 1 true false w,λl=> .ptr l 0):=by
 unfold lR
 grind[nt,gw,bB,V.cells]
theorem nW{e sz:Nat}{z w:List V}(b:z.length=sz)(a:w.length=sz)(c:gw w=true):jz e sz 1 (.agg z) [(0,.agg w)]=some (.cells e sz true false w,λl=> .slice l 0 1):=by
 unfold jz;have hs:qv (Nat.mul 0 sz) (CT 1 (V.agg z).cells) (V.agg w).cells=some w:=by
  show qv (0*sz) (z++[]) w=some w;rw[Nat.zero_mul,JL,AM (by omega),wB4,OG,zO,List.drop_of_length_le (by omega),JL]
 simp only[DS,fo,hs];rw[nt _ (show Nat.beq (V.agg w).cells.length sz=true by rw[show(V.agg w).cells=w from rfl,a];simp_all)]
 simp_all
theorem PS{n:Nat}(h:n<1000000000):mI .i64 (((n+1:Nat):Int)-1)=(n:Nat):=by
 grind[qj,uO]
theorem zfg{n k:Nat}(h:n<1000000000)(a:k<1000000000):mI .i64 (((n:Nat):Int)+(k:Nat))=((n+k:Nat):Int):=by
 grind[qj,uO]
theorem zdY{n:Nat}(h:n<1000000000):mI .i64 (((n:Nat):Int)+1)=((n+1:Nat):Int):=by
 grind[qj,uO]
theorem ZA(t:Nat)(k:IntKind)(a b:Int)(hb:b≠0):ez .rem t (.int k a) (.int k b)=some (.int k (a.tmod b)):=by
 have c:hint .rem k a b=some (.int k (a.tmod b)):=by
  cases b with
  | ofNat n=>cases n with
    |zero=>simp_all
    |succ n=>rfl
  |negSucc n=>rfl
 cases k <;> exact c
theorem Mt{n:Int}{m:Nat}{h:Hp}{Q:fD}(f:0<m)(d:m<=1000000000)(H:Q (.I (mS n m:Nat)) h):cP CS iS [.I n,.I m] h Q:=by
 refine Hg rfl rfl ?_;unfold zx;have g:=Int.tmod_lt_of_pos n (b:=(m:Int)) (by omega);have i : -(m:Int)<n.tmod m:=by
  have:=Int.tmod_lt_of_pos (-n) (b:=(m:Int)) (by omega);rw[Int.neg_tmod]at this;omega
 simp only[ZA _ _ _ (m:Int) (by omega),iB,kX,N7,CU];unfold mS at H;split
 ·rename_i a;rw[if_pos a]at H;have e:mI .i64 (n.tmod m+m)=n.tmod m+m:=by grind[qj,uO]
  simp only[nJ,e,iB];refine vO ?_;unfold pQ;rw[Int.toNat_of_nonneg (by omega)]at H;exact H
 ·rename_i c;rw[if_neg c]at H;refine vO ?_;unfold pQ;rw[Int.toNat_of_nonneg (by omega)]at H;exact H
section
variable{F G:Nat->Prop}{h:Hp}{lu iH jT:Nat}{t:Dt}{R:Rw}{Q:fD}
theorem Dw.Xq(D:Dw F G h lu iH jT t R):fe (.ptr lu 2) h=some R.vv:=lJ D.gu rfl
theorem Dw.ldB(D:Dw F G h lu iH jT t R):fe (.ptr lu 3) h=some R.vb:=lJ D.gu rfl
theorem Dw.ldS(D:Dw F G h lu iH jT t R):fe (.ptr lu 4) h=some R.vs:=lJ D.gu rfl
theorem Dw.Bg(D:Dw F G h lu iH jT t R):fe (.ptr iH 0) h=some R.vk:=lJ D.gk rfl
theorem Dw.ldC(D:Dw F G h lu iH jT t R):fe (.ptr jT 0) h=some R.cc:=lJ D.gb rfl
theorem Dw.ldP(D:Dw F G h lu iH jT t R):fe (.ptr jT 4) h=some R.vp:=lJ D.gb rfl
theorem Uf{x:Vl}{w:List V}(D:Dw F G h lu iH jT t R)(hq:R.cc=R.vc)(g:eV.rel F h x w)(hv:t.s.ej.length<1000)(hc:t.s.cur.length<1000)
  (H:∀h' R',Kp F G h h'->Dw F G h' lu iH jT {t with s:=put t.s x} R'->R'.cc=R'.vc->R'.vk=R.vk->Q (.I t.s.ej.length) h') :
  cP CS fH [.agg w,.ptr lu 0,.ptr jT 0] h Q:=by
 refine EZ rfl rfl ?_;unfold yn;have a:=eV.one g;have b:w.length=6:=eV.len g;have i:=D.grow (mA.new h (.cells 34 1 true false w));have q:=D.Al (.cells 34 1 true false w);have v:fW 6 (.ptr h.next 0) (h.new (.cells 34 1 true false w))=some (.agg w):=DJ (fq _ _) b;have y:jz 34 6 1 (V.agg [(V.I 0),(V.I 0),(V.I 0),(V.I 0),V.ei,(V.I 0)]) [(0,.agg w)]=some (.cells 34 6 true false w,λl=> .slice l 0 1):=nW rfl b a;simp only[Fg a,fE,fM,iB,zO,i.Xq,v,y];generalize z:h.new (.cells 34 1 true false w)=f at*;have A:=i.grow (mA.new f (.cells 34 6 true false w));have r:=i.Al (.cells 34 6 true false w);have j:eV.rel F (f.new (.cells 34 6 true false w)) x w:=eV.fj (λl B=>(q.trans r λ_ h=>h).fj l (.inl B)) g;have m:lQ (f.new (.cells 34 6 true false w)) 6 (.slice f.next 0 1)=some (1,w):=by grind[nz]
 obtain⟨N,O,c,a1,a2,a3,P,C,d⟩:=A.zfB (ys:=[x]) m ⟨w,[],by simp,j,trivial⟩ (by omega) a (by simp) (by simp;omega);have lc:((t.s.ej++[x]).length:Nat)=t.s.ej.length+1:=by simp
 have lv:=d.ov.len;simp only[lc]at lv;simp only[a1,en,a3,d.ldC,d.Xq,iB,lv,qh];have u:mI .i64 (((t.s.ej.length+1:Nat):Int)-1)=(t.s.ej.length:Nat):=PS (by omega);have E:jz 3 1 1 (V.I 0) [(0,V.I t.s.ej.length)]=some (.cells 3 1 true false [V.I t.s.ej.length],λl=> .slice l 0 1):=rfl;simp only[u,E,fE,hq];have I:=d.grow (mA.new c (.cells 3 1 true false [V.I t.s.ej.length]));have J:=d.Al (.cells 3 1 true false [V.I t.s.ej.length]);have n:lQ (c.new (.cells 3 1 true false [V.I t.s.ej.length])) 1 (.slice c.next 0 1)=some (1,[V.I t.s.ej.length]):=nz (k:=0) rfl;obtain⟨K,L,S,b1,b2,b3,T,M,o⟩:=I.zfv (ys:=[t.s.ej.length]) n ⟨[V.I t.s.ej.length],[],rfl,rfl,trivial⟩ rfl rfl (by simp) (by simp;omega);have e:=o.ov.len;simp only[lc]at e;have p:fh 3 1 8 R.vc (.slice c.next 0 1) (c.new (.cells 3 1 true false [V.I t.s.ej.length]))=some (.val K L):=b1;simp only[p,en,b3,o.Xq,iB,e,qh,u];exact H _ _ ((((q.trans r λ_ h=>h).trans C λ_ h=>h).trans J λ_ h=>h).trans M λ_ h=>h) o rfl rfl
end
open Un
structure Lc where
 lr:Nat
 lu:Nat
 iH:Nat
 jT:Nat
 AD:Nat
 oT:Nat
 qH:Nat
 VS:Nat
def zcw(L:Lc):V:= .func fH [] [.ptr L.lu 0,.ptr L.jT 0]
def VU(L:Lc):V:= .func ft [] [.ptr L.oT 0,.ptr L.lr 0]
def T2(L:Lc):V:= .func gf [] [.ptr L.lu 0,.ptr L.qH 0,.ptr L.iH 0]
structure Dq (F G:Nat->Prop) (h:Hp) (L:Lc) (ops:List Int) (t:Dt) (R:Rw):Prop where
 D:Dw F G h L.lu L.iH L.jT t R
 hq:R.cc=R.vc
 gl:G L.oT
 ga:h.get L.oT=some (.cells eR 1 true false [.I t.s.pos])
 fr:F L.lr
 gr:∃vo vs n,h.get L.lr=some (.cells Sl 1 true false [vo,vs,n])/\im (eI .i64) F h ops vo
 fp:F L.AD
 gp:∃e,h.get L.AD=some (.cells e 1 true false [zcw L])
 fn:F L.qH
 gn:∃e,h.get L.qH=some (.cells e 1 true false [VU L])
 fs:F L.VS
 gs:∃e,h.get L.VS=some (.cells e 1 true false [T2 L])
section
variable{F F' G G':Nat->Prop}{h h':Hp}{L:Lc}{ops:List Int}{t t':Dt}{R R':Rw}{Q:fD}
theorem Dq.zbL(q:Dq F G h L ops t R)(k:∀l,F l->h'.get l=h.get l) (D':Dw F' G' h' L.lu L.iH L.jT t' R')(a:∀l,F l->F' l) (b:R'.cc=R'.vc)(c:G' L.oT)(d:h'.get L.oT=some (.cells eR 1 true false [.I t'.s.pos])):Dq F' G' h' L ops t' R' where
 D:=D'
 hq:=b
 gl:=c
 ga:=d
 fr:=a _ q.fr
 gr:=by
  obtain⟨vo,vs,n,e,f⟩:=q.gr;exact⟨vo,vs,n,by rw[k _ q.fr];exact e,(f.fj k).mono a⟩
 fp:=a _ q.fp
 gp:=by rw[k _ q.fp];exact q.gp
 fn:=a _ q.fn
 gn:=by rw[k _ q.fn];exact q.gn
 fs:=a _ q.fs
 gs:=by rw[k _ q.fs];exact q.gs
theorem Dq.step(q:Dq F G h L ops t R)(k:Kp F G h h') (D':Dw F' G' h' L.lu L.iH L.jT t' R')(b:∀l,F l->F' l)(c:G' L.oT) (a:R'.cc=R'.vc)(hp:t'.s.pos=t.s.pos):Dq F' G' h' L ops t' R':=
 q.zbL (λl d=>k.fj l (.inl d)) D' b a c (by rw[k.fj _ (.inr q.gl),hp];exact q.ga)
theorem Dq.qt(q:Dq F G h L ops t R):fe (.ptr L.AD 0) h=some (zcw L):=by obtain⟨e,a⟩:=q.gp;exact lJ a rfl
theorem Dq.xx(q:Dq F G h L ops t R):fe (.ptr L.qH 0) h=some (VU L):=by obtain⟨e,a⟩:=q.gn;exact lJ a rfl
theorem Dq.Kj(q:Dq F G h L ops t R):fe (.ptr L.VS 0) h=some (T2 L):=by obtain⟨e,a⟩:=q.gs;exact lJ a rfl
theorem Dq.HV(q:Dq F G h L ops t R){i:Nat}(hi:i<t.s.known.length):∃l o,l<h.next/\(F l\/Loc R.vk l)/\gB 1 R.vk (.I i)=some (.ptr l o)/\fe (.ptr l o) h=some (.I (t.s.known.getD i 0:Nat)):=by
 obtain⟨l,o,u,a,b,c,d⟩:=q.D.ok.read.U8 hi .i64 rfl;refine⟨l,o,a.elim (q.D.fl l) λh=>(q.D.ok.vC h).2.1,a,b,?_⟩;rw[c];have:[u]=[V.I (t.s.known[i]:Nat)]:=d;rw[Je,iy hi];simpa using this
theorem Dw.Yy{lu iH jT:Nat}(D:Dw F G h lu iH jT t R)(a:∀l,G' l->G l\/(l<h.next/\¬F l/\∀i,¬comp lu iH jT R i l)):Dw F G' h lu iH jT t R:=
 {D with gx:=λl b=>(a l b).elim (D.gx l) id}
def gm(G:Nat->Prop)(a:Nat):Nat->Prop:=λl=>G l/\l≠a
theorem Kp.gm(k:Kp F G h h')(a:Nat):Kp F (Hx.gm G a) h h':=⟨k.next,λl b=>k.fj l (b.imp id λh=>h.1)⟩
def setPos(t:Dt)(p:Nat):Dt:={t with s:={t.s with pos:=p} }
theorem zd{m:Nat}(q:Dq F G h L ops t R)(j:0<m)(k:m<=100000000)(I:ops.length<9223372036854775808)
  (H:∀h',Kp F (gm G L.oT) h h'->Dq F G h' L ops (setPos t (draw ops t.s.pos m).2) R->Q (.I ((draw ops t.s.pos m).1:Nat)) h') :
  cP CS ft [.I m,.ptr L.oT 0,.ptr L.lr 0] h Q:=by
 refine EY rfl rfl ?_;unfold yl;obtain⟨vo,vs,n,gr,g⟩:=q.gr;have p:fe (.ptr L.oT 0) h=some (.I t.s.pos):=lJ q.ga rfl;have l1:fe (.ptr L.lr 0) h=some vo:=lJ gr rfl;simp only[p,iB,fM,zO,l1,g.len,pP,N7,CU];have a:=q.D.gx _ q.gl;split
 ·rename_i r;have e:draw ops t.s.pos m=(0,t.s.pos):=by
   unfold draw;rw[OE (by omega)]
  rw[e]at H;exact H h (Kp.refl _ _ _) q
 ·rename_i c;have c:t.s.pos<ops.length:=by omega
  have e:draw ops t.s.pos m=(mS ops[t.s.pos] m,t.s.pos+1):=by
   unfold draw;rw[iy c]
  rw[e]at H;have w:mI .i64 ((t.s.pos:Int)+1)=((t.s.pos+1:Nat):Int):=by rw[qj (by simp only[uO];omega)];omega
  have x:=pD (o:=0) (v:= .I ((t.s.pos+1:Nat):Int)) (ql:=[.I ((t.s.pos+1:Nat):Int)]) q.ga (by simp) rfl rfl;have hc:mA (λl=>l=L.oT) h (h.put L.oT (.cells eR 1 true false [.I ((t.s.pos+1:Nat):Int)])):=mA.put _ rfl a.1;have d:∀l,F l->(h.put L.oT (.cells eR 1 true false [.I ((t.s.pos+1:Nat):Int)])).get l=h.get l:=λl b=>gN _ a.1 λe=>a.2.1 (e▸b);have l2:fe (.ptr L.lr 0) (h.put L.oT (.cells eR 1 true false [.I ((t.s.pos+1:Nat):Int)]))=some vo:=lJ (by rw[d _ q.fr];exact gr) rfl;have l3:fe (.ptr L.oT 0) (h.put L.oT (.cells eR 1 true false [.I ((t.s.pos+1:Nat):Int)]))=some (.I ((t.s.pos+1:Nat):Int)):=lJ (gj _ a.1) rfl;have y:mI .i64 (((t.s.pos+1:Nat):Int)-1)=(t.s.pos:Nat):=by rw[qj (by simp only[uO];omega)];omega
  obtain⟨l,o,u,_,z,A,B⟩:=(g.fj d).U8 c .i64 rfl;obtain⟨rfl⟩:u = .I ops[t.s.pos]:=by simpa using B.1
  simp only[nJ,w,iB,x,en,l2,l3,qh,y,z,A];refine Mt j (by omega) (H _ ⟨hc.next,λl b=>b.elim (d l) λb=>gN _ a.1 λe=>b.2 e.symm⟩ ?_);have C:Dw F (gm G L.oT) h L.lu L.iH L.jT t R:={q.D with gx:=λl b=>q.D.gx l b.1}
  have D':=(C.other hc λl b=>by subst b;exact⟨a.2.1,λE=>E.2 rfl,a.2.2⟩).1;refine q.zbL d ?_ (λ_ h=>h) q.hq q.gl (gj _ a.1);have f:∀l,G l->_:=λl b=>if e:l=L.oT then e▸(⟨a.1,a.2.1,a.2.2⟩:_/\_/\∀i,¬comp L.lu L.iH L.jT R i L.oT) else D'.gx l ⟨b,e⟩
  exact{D' with gx:=f}
def gp(G:Nat->Prop)(v:V)(p:Nat):Nat->Prop:=λl=>G l\/l=p\/Loc v l
theorem CJ(l:List Nat)(h:0<l.length):l.getD (l.length-1) 0=l.getLastD 0:=by
 rw[List.getLastD_eq_getLast?,List.getLast?_eq_getElem?,Je]
theorem Oi(q:Dq F G h L ops t R)(hk:0<t.s.known.length)(aN:t.s.known.length<1000)(hs:t.s.ev.length<1000)(ho:ops.length<9223372036854775808)
  (H:∀F' h' R',(∀l,F l->F' l)->Kp F (gm G L.oT) h h'->Dq F' G h' L ops {t with s:=(fK ops t.s).2} R'->R'.vk=R.vk->Q (.I ((fK ops t.s).1:Nat)) h') :
  cP CS gf [.ptr L.lu 0,.ptr L.qH 0,.ptr L.iH 0] h Q:=by
 refine ES rfl rfl ?_;unfold xE;have aM:=(q.D.gx _ q.gl).1;have am:∀l,G l->l<h.next:=λl f=>(q.D.gx l f).1;have an:∀i l,comp L.lu L.iH L.jT R i l->l<h.next:=λi l f=>(q.D.sig f).2.1;have eb:fV [(V.I 0),(V.I 0),V.ei,V.ei] [(0,1),(1,1),(2,1),(3,1)] [(0,(V.I 1)),(1,.I t.s.ev.length)]=some (.agg [.I 1,.I t.s.ev.length,.ei,.ei]):=rfl;have U:(h.new (.cells 49 1 true false [(V.I 0),(V.I 0),V.ei,V.ei])).get h.next=some (.cells 49 1 true false [(V.I 0),(V.I 0),V.ei,V.ei]):=fq _ _;have e1:=HB (n:=4) (ws:=[.I 1,.I t.s.ev.length,.ei,.ei]) U rfl rfl rfl;simp only[fM,iB,zO,q.D.ldS,q.D.os.len,eb,fE,e1,en];have K:h.next<(h.new (.cells 49 1 true false [(V.I 0),(V.I 0),V.ei,V.ei])).next:=OF _
 have c2:mA (λl=>l=h.next) h ((h.new (.cells 49 1 true false [(V.I 0),(V.I 0),V.ei,V.ei])).put h.next (.cells 49 1 true false [.I 1,.I t.s.ev.length,.ei,.ei])):=
  (mA.new _ _).trans (mA.put _ rfl K)
 have g2:=gj (h:=h.new (.cells 49 1 true false [(V.I 0),(V.I 0),V.ei,V.ei])) (.cells 49 1 true false [.I 1,.I t.s.ev.length,.ei,.ei]) K;have n2:((h.new (.cells 49 1 true false [(V.I 0),(V.I 0),V.ei,V.ei])).put h.next (.cells 49 1 true false [.I 1,.I t.s.ev.length,.ei,.ei])).next=h.next+1:=rfl;generalize ((h.new (.cells 49 1 true false [(V.I 0),(V.I 0),V.ei,V.ei])).put h.next (.cells 49 1 true false [.I 1,.I t.s.ev.length,.ei,.ei]))=h2 at*;clear U e1 K;have fresh:∀l,h.next<=l->¬F l/\¬G l/\∀i,¬comp L.lu L.iH L.jT R i l:=λl f=>⟨λhf=>by have:=q.D.fl l hf;omega,λhg=>by have:=am l hg;omega,λi hi=>by have:=an i l hi;omega⟩
 obtain ⟨W,k2⟩:=q.D.other c2 (λl f=>by subst f;exact fresh _ (jO _));have X:Dw F (gp G .ei h.next) h2 L.lu L.iH L.jT t R:=W.Yy λl f=>f.elim .inl λf=> .inr (by
  rcases f with rfl|f
  ·exact⟨by omega,(fresh _ (jO _)).1,(fresh _ (jO _)).2.2⟩
  ·exact f.elim)
 have q2:Dq F (gp G .ei h.next) h2 L ops t R:=q.step k2 X (λ_ h=>h) (.inl q.gl) q.hq rfl;rw[q2.xx];simp only[iB,VU,yN,AP,OG,JL];refine zd (m:=4) q2 (by decide) (by decide) ho λy k3 q3=>?_;have g3:y.get h.next=some (.cells 49 1 true false [.I 1,.I t.s.ev.length,.ei,.ei]):=by
  rw[k3.fj _ (.inr ⟨.inr (.inl rfl),by omega⟩)];exact g2
 have hr:(draw ops t.s.pos 4).1<4:=zf _ _ (by decide)
 refine B9 (λk x0 x1 x2 x4 x5 h'=>∃(s:Ds) (l:List Nat) (vl:V),x0 = .ptr L.lu 0/\x1 = .ptr L.qH 0/\x2 = .ptr L.iH 0/\x4 = .ptr h.next 0/\x5 = .I (k:Nat)/\Dq F (gp G vl h.next) h' L ops {t with s:=s} R/\Kp F (gm G L.oT) h h'/\
  h'.get h.next=some (.cells 49 1 true false [.I 1,.I t.s.ev.length,vl,.ei])/\lC eN eR F h' l vl/\(∀z,Loc vl z->h.next<z)/\some_ ops k s l=some_ ops (draw ops t.s.pos 4).1 (num ops t.s 4).2 []/\s.known=t.s.known/\s.ev=t.s.ev/\l.length+k<=4) ?_
  ⟨(num ops t.s 4).2,[],.ei,rfl,rfl,rfl,rfl,rfl,q3,(k2.gm L.oT).trans ⟨k3.next,λl f=>k3.fj l (f.imp id λf=>⟨.inl f.1,f.2⟩)⟩ (λ_ h=>h),g3,.nil,λ_ h=>h.elim,rfl,rfl,rfl,by simp;omega⟩
 clear q3 k3 g3 q2 X W k2 g2 c2 eb;rintro k x0 x1 x2 x4 x5 h' ⟨s,l,vl,rfl,rfl,rfl,rfl,rfl,j,k',gF,ol,P,p,r,A,hlen⟩;unfold tH;have ao:fe (.ptr h.next 2) h' = some vl:=lJ gF rfl;have kl:({t with s:=s}:Dt).s.known.length=t.s.known.length:=by show s.known.length=_;rw[r]
 have Y:h.next<h'.next:=(j.D.gx h.next (.inr (.inl rfl))).1;have Z:∀{g:Hp} {s1:Ds},Dq F (gp G vl h.next) g L ops {t with s:=s1} R->Dw F G g L.lu L.iH L.jT {t with s:=s1} R:=λq=>{q.D with gx:=λl f=>q.D.gx l (.inl f)}
 simp only[qn,iB,N7,CU]
 cases k with
 | succ k=>
   rw[if_pos (by omega)];have lk:=j.D.ok.len;rw[kl]at lk;rw[j.xx];simp only[fM,iB,zO,ao,j.D.Bg,lk,VU,yN,AP,OG,JL];refine zd (m:=t.s.known.length) j hk (by omega) ho λg u I=>?_;have ap:g.get h.next=some (.cells 49 1 true false [.I 1,.I (t.s.ev.length:Nat),vl,.ei]):=by
     rw[u.fj _ (.inr ⟨.inr (.inl rfl),by omega⟩)];exact gF
   have aa:lC eN eR F g l vl:=ol.fj (λz b=>u.fj z (.inl b)) (λz b=>u.fj z (.inr ⟨.inr (.inr b),by have:=P z b;omega⟩)) u.next;have aq:(draw ops s.pos t.s.known.length).1<t.s.known.length:=zf _ _ hk;obtain⟨l1,o1,ab,ac,i1,i2⟩:=I.HV (i:=(draw ops s.pos t.s.known.length).1) (by show _<s.known.length;rw[r];exact aq);have B:fe (.ptr l1 o1) g=some (.I (s.known.getD (draw ops s.pos t.s.known.length).1 0:Nat)):=i2;refine⟨u.next,?_⟩;have e3:∀a:Nat,jz 3 1 1 (V.I 0) [(0,V.I (a:Nat))]=some (.cells 3 1 true false [V.I (a:Nat)],λl=> .slice l 0 1):=λ_=>rfl;have ar:gB 1 R.vk (.I ((draw ops ({t with s:=s}:Dt).s.pos t.s.known.length).1:Nat))=some (.ptr l1 o1):=i1;simp only[ar,B,iB,e3,hX];generalize hv:s.known.getD (draw ops s.pos t.s.known.length).1 0=a at*;have W:=(Z I).grow (mA.new g (.cells 3 1 true false [V.I (a:Nat)]));have ae:(g.new (.cells 3 1 true false [V.I (a:Nat)])).get h.next=_:=(fk _ (by have:=u.next;omega)).trans ap;refine⟨⟨fq _ _,O.kF _ _ _ _ _⟩,iA B (fk _ ab),W.Bg,lJ ae rfl,?_⟩;have au:lC eN eR F (g.new (.cells 3 1 true false [V.I (a:Nat)])) l vl:=aa.fj (λz b=>fk _ (I.D.fl z b)) (λz b=>fk _ (aa.vC b).2.1) (OK _);have hx:lQ (g.new (.cells 3 1 true false [V.I (a:Nat)])) 1 (.slice g.next 0 1)=some (1,[V.I (a:Nat)]):=nz (k:=0) rfl;obtain⟨d,y,a1,ag,c3,aw⟩:=au.append (jP:=8) (ys:=[a]) hx ⟨[V.I (a:Nat)],[],rfl,rfl,trivial⟩ rfl rfl (by simp) (by decide) (λz b=>wBh (I.D.fl z b)) (by simp;omega) (by simp;omega);have n2:(g.new (.cells 3 1 true false [V.I (a:Nat)])).next=g.next+1:=rfl;have w:h.next<y.next:=by have:=c3.next;have:=u.next;omega
   have ax:y.get h.next=some (.cells 49 1 true false [.I 1,.I (t.s.ev.length:Nat),vl,.ei]):=by
     rw[c3.fj _ (by have:=u.next;omega) λb=>ZS _ (P _ b)];exact ae
   have a2:=pD (o:=2) (v:=d) (ql:=[.I 1,.I (t.s.ev.length:Nat),d,.ei]) ax (by simp) ag.one rfl;have ay:fh 3 1 8 vl (.slice g.next 0 1) (g.new (.cells 3 1 true false [V.I (a:Nat)]))=some (.val d y):=a1;have w1:mI .i64 (((k+1:Nat):Int)-1)=(k:Nat):=PS (by omega);simp only[ay,en,a2,qh,w1,iB];refine⟨c3.next,jO _,k,by omega,?_⟩
   have cc:mA (λz=>Loc vl z\/z=h.next) (g.new (.cells 3 1 true false [V.I (a:Nat)])) (y.put h.next (.cells 49 1 true false [.I 1,.I (t.s.ev.length:Nat),d,.ei])):=
     (c3.XM λ_ _ h=> .inl h).trans (mA.put _ (.inr rfl) w)
   obtain⟨D4,k4⟩:=W.other cc λz b=>fresh z (by rcases b with b|rfl;exact Nat.le_of_lt (P z b);exact jO _);have M:∀z,Loc d z->h.next<z:=λz b=>(aw z b).elim (P z) λe=>by have:=u.next;omega
   have ah:lC eN eR F (y.put h.next (.cells 49 1 true false [.I 1,.I (t.s.ev.length:Nat),d,.ei])) (l++[a]) d:=
     ag.fj (λz b=>gN _ w λe=>(fresh h.next (jO _)).1 (e▸b)) (λz b=>gN _ w (by have:=M z b;omega)) (jO _)
   have aA:Dw F (gp G d h.next) (y.put h.next (.cells 49 1 true false [.I 1,.I (t.s.ev.length:Nat),d,.ei])) L.lu L.iH L.jT _ R:=D4.Yy λz b=>b.elim .inl λb=> .inr (by
     rcases b with rfl|b
     ·exact⟨w,(fresh _ (jO _)).1,(fresh _ (jO _)).2.2⟩
     ·have C:=fresh z (Nat.le_of_lt (M z b));exact⟨(ah.vC b).2.1,C.1,C.2.2⟩)
   have kk:Kp F G g (y.put h.next (.cells 49 1 true false [.I 1,.I (t.s.ev.length:Nat),d,.ei])):=
     (Kp.new F G g _ I.D.fl λz b=>(I.D.gx z (.inl b)).1).trans k4 λ_ h=>h
   have qG:Dq F G g L ops _ R:={I with D:=Z I,gl:=q.gl}
   refine⟨{s with pos:=(draw ops s.pos t.s.known.length).2},l++[a],d,by trivial,by trivial,by trivial,by trivial,by trivial,qG.step kk aA (λ_ h=>h) (.inl q.gl) j.hq rfl,?_,gj _ w,ah,M,?_,r,A,by simp;omega⟩
   ·exact(k'.trans ⟨u.next,λz b=>u.fj z (b.imp id λb=>⟨.inl b.1,b.2⟩)⟩ λ_ h=>h).trans (kk.gm _) λ_ h=>h
   ·rw[<-p,<-hv]
    show _=some_ ops k (fO ops s).2 (l++[(fO ops s).1]);unfold fO
    rw[r]
 | zero=>
   rw[if_neg (by omega)];obtain⟨e1,e2⟩:l=(some_ ops (draw ops t.s.pos 4).1 (num ops t.s 4).2 []).1/\s=(some_ ops (draw ops t.s.pos 4).1 (num ops t.s 4).2 []).2:=by rw[<-p];exact⟨rfl,rfl⟩
   have lk:=j.D.ok.len;rw[kl]at lk;have w1:mI .i64 (((t.s.known.length:Nat):Int)-1)=((t.s.known.length-1:Nat):Int):=by
     rw[show((t.s.known.length:Nat):Int)=((t.s.known.length-1+1:Nat):Int) by omega];exact PS (by omega)
   obtain ⟨l1,o1,ab,ac,i1,i2⟩:=j.HV (i:=t.s.known.length-1) (by rw[kl];omega);have B:fe (.ptr l1 o1) h' = some (.I (t.s.known.getLastD 0:Nat)):=by
     rw[i2,show({t with s:=s}:Dt).s.known=t.s.known from r,CJ _ hk]
   have e3:∀a:Nat,jz 3 1 1 (V.I 0) [(0,V.I (a:Nat))]=some (.cells 3 1 true false [V.I (a:Nat)],λl=> .slice l 0 1):=λ_=>rfl;simp only[j.D.Bg,iB,lk,qh,w1,i1,B,e3,fE,fM,zO];have D5:=(Z j).grow (mA.new h' (.cells 3 1 true false [V.I (t.s.known.getLastD 0:Nat)]));have k5:Kp F G h' (h'.new (.cells 3 1 true false [V.I (t.s.known.getLastD 0:Nat)])):=(Z j).Al _;have g5:(h'.new (.cells 3 1 true false [V.I (t.s.known.getLastD 0:Nat)])).get h'.next=_:=fq _ _;have aB:(h'.new (.cells 3 1 true false [V.I (t.s.known.getLastD 0:Nat)])).get h.next=_:=(fk _ Y).trans gF;have aC:lC eN eR F (h'.new (.cells 3 1 true false [V.I (t.s.known.getLastD 0:Nat)])) l vl:=ol.fj (λz b=>fk _ (j.D.fl z b)) (λz b=>fk _ (ol.vC b).2.1) (OK _);have n5:(h'.new (.cells 3 1 true false [V.I (t.s.known.getLastD 0:Nat)])).next=h'.next+1:=rfl;generalize h'.new (.cells 3 1 true false [V.I (t.s.known.getLastD 0:Nat)])=C at*;have a1:=pD (o:=3) (v:= .slice h'.next 0 1) (ql:=[.I 1,.I (t.s.ev.length:Nat),vl,.slice h'.next 0 1]) aB (by simp) rfl rfl;have E:h.next<C.next:=by omega
   obtain⟨D6,k6⟩:=D5.other (mA.put (S:=λz=>z=h.next) (.cells 49 1 true false [.I 1,.I (t.s.ev.length:Nat),vl,.slice h'.next 0 1]) rfl E) λz b=>by subst b;exact fresh _ (jO _)
   have aD:=gj (.cells 49 1 true false [.I 1,.I (t.s.ev.length:Nat),vl,.slice h'.next 0 1]) E;have g6:(C.put h.next (.cells 49 1 true false [.I 1,.I (t.s.ev.length:Nat),vl,.slice h'.next 0 1])).get h'.next=_:=(gN _ E (by omega)).trans g5;have ai:lC eN eR F (C.put h.next (.cells 49 1 true false [.I 1,.I (t.s.ev.length:Nat),vl,.slice h'.next 0 1])) l vl:=aC.fj (λz b=>k6.fj z (.inl b)) (λz b=>gN _ E (by have:=P z b;omega)) (jO _);have n6:(C.put h.next (.cells 49 1 true false [.I 1,.I (t.s.ev.length:Nat),vl,.slice h'.next 0 1])).next=C.next:=rfl;simp only[a1,en];generalize C.put h.next (.cells 49 1 true false [.I 1,.I (t.s.ev.length:Nat),vl,.slice h'.next 0 1])=c at*;have lA:fW 4 (.ptr h.next 0) c=some (.agg [.I 1,.I (t.s.ev.length:Nat),vl,.slice h'.next 0 1]):=DJ aD rfl;have ow:gw [.I 1,.I (t.s.ev.length:Nat),vl,.slice h'.next 0 1]=true:=by simp only[eJ,ol.one];rfl
   have e7:jz 49 4 1 (V.agg [(V.I 0),(V.I 0),V.ei,V.ei]) [(0,.agg [.I 1,.I (t.s.ev.length:Nat),vl,.slice h'.next 0 1])]=some (.cells 49 4 true false [.I 1,.I (t.s.ev.length:Nat),vl,.slice h'.next 0 1],λl=> .slice l 0 1):=nW rfl rfl ow;have e8:∀m:Nat,fV [V.ei] [(0,1)] [(0,.slice m 0 1)]=some (.agg [.slice m 0 1]):=λ_=>rfl;have e9:∀m:Nat,jz 52 1 1 (V.agg [V.ei]) [(0,.agg [.slice m 0 1])]=some (.cells 52 1 true false [.slice m 0 1],λl=> .slice l 0 1):=λm=>nW rfl rfl rfl;simp only[D6.ldS,iB,lA,e7,fE,e8,e9];have D7:=D6.grow (mA.new c (.cells 49 4 true false [.I 1,.I (t.s.ev.length:Nat),vl,.slice h'.next 0 1]));have k7:=D6.Al (.cells 49 4 true false [.I 1,.I (t.s.ev.length:Nat),vl,.slice h'.next 0 1]);have g7:(c.new (.cells 49 4 true false [.I 1,.I (t.s.ev.length:Nat),vl,.slice h'.next 0 1])).get c.next=_:=fq _ _;have aE:(c.new (.cells 49 4 true false [.I 1,.I (t.s.ev.length:Nat),vl,.slice h'.next 0 1])).get h'.next=_:=(fk _ (by omega)).trans g6;have aj:lC eN eR F (c.new (.cells 49 4 true false [.I 1,.I (t.s.ev.length:Nat),vl,.slice h'.next 0 1])) l vl:=ai.fj (λz b=>fk _ (D6.fl z b)) (λz b=>fk _ (ai.vC b).2.1) (OK _);have n7:(c.new (.cells 49 4 true false [.I 1,.I (t.s.ev.length:Nat),vl,.slice h'.next 0 1])).next=c.next+1:=rfl;generalize c.new (.cells 49 4 true false [.I 1,.I (t.s.ev.length:Nat),vl,.slice h'.next 0 1])=x at*;have D8:=D7.grow (mA.new x (.cells 52 1 true false [.slice c.next 0 1]));have k8:=D7.Al (.cells 52 1 true false [.slice c.next 0 1]);have g8:(x.new (.cells 52 1 true false [.slice c.next 0 1])).get c.next=_:=(fk _ (by omega)).trans g7;have aF:(x.new (.cells 52 1 true false [.slice c.next 0 1])).get h'.next=_:=(fk _ (by omega)).trans aE;have ak:lC eN eR F (x.new (.cells 52 1 true false [.slice c.next 0 1])) l vl:=aj.fj (λz b=>fk _ (D7.fl z b)) (λz b=>fk _ (aj.vC b).2.1) (OK _);have aG:lQ (x.new (.cells 52 1 true false [.slice c.next 0 1])) 1 (.slice x.next 0 1)=some (1,[.slice c.next 0 1]):=nz (k:=0) rfl;have n8:(x.new (.cells 52 1 true false [.slice c.next 0 1])).next=x.next+1:=rfl;generalize x.new (.cells 52 1 true false [.slice c.next 0 1])=T at*;have D9:Dw (λz=>F z\/Loc vl z\/z=h'.next\/z=c.next) G T L.lu L.iH L.jT {t with s:=s} R:=D8.more (λ_ h=> .inl h) λz b=>b.elim .inl λb=> .inr (by
     have aH:h.next<z/\z<T.next:=by
       rcases b with b|rfl|rfl
       ·exact⟨P z b,(ak.vC b).2.1⟩
       ·omega
       ·omega
     have h9:=fresh z (by omega);exact⟨aH.2,h9.2.2,h9.2.1⟩)
   have sl:im eN (λz=>F z\/Loc vl z\/z=h'.next\/z=c.next) T l vl:=ak.Z8 (λ_ h=> .inl h) λ_ h=> .inr (.inl h)
   have ss:im eN (λz=>F z\/Loc vl z\/z=h'.next\/z=c.next) T [t.s.known.getLastD 0] (.slice h'.next 0 1):=
     .inr ⟨h'.next,0,3,true,false,[V.I (t.s.known.getLastD 0:Nat)],rfl,.inr (.inr (.inl rfl)),aF,.inr rfl,Mj _,⟨_,[],rfl,rfl,trivial⟩⟩
   have sf:im eF (λz=>F z\/Loc vl z\/z=h'.next\/z=c.next) T [⟨1,(t.s.ev.length:Nat),l,[t.s.known.getLastD 0]⟩] (.slice c.next 0 1):=
     .inr ⟨c.next,0,49,true,false,[.I 1,.I (t.s.ev.length:Nat),vl,.slice h'.next 0 1],rfl,.inr (.inr (.inr rfl)),g8,.inr rfl,Mj _,⟨_,[],rfl,⟨vl,_,rfl,sl,ss⟩,trivial⟩⟩
   obtain⟨v',h9,al,b1,b2,b3,b4,k9,N⟩:=D9.zfi (ys:=[[⟨1,(t.s.ev.length:Nat),l,[t.s.known.getLastD 0]⟩]]) aG ⟨[.slice c.next 0 1],[],rfl,⟨_,rfl,sf⟩,trivial⟩ rfl rfl (by simp) (by show s.ev.length+_<_;rw[A];simp;omega);have aI:fh 52 1 24 R.vs (.slice x.next 0 1) T=some (.val v' h9):=b1;have lS:=N.os.len;have aJ:((s.ev++[[(⟨1,(t.s.ev.length:Nat),l,[t.s.known.getLastD 0]⟩:Fm)]]).length:Nat)=t.s.ev.length+1:=by rw[A];simp
   have aK:fI v' = some (.I ((t.s.ev.length+1:Nat):Int)):=by rw[<-aJ];exact lS
   have w2:mI .i64 (((t.s.ev.length+1:Nat):Int)-1)=(t.s.ev.length:Nat):=PS (by omega);simp only[aI,en,b3,N.ldS,iB,aK,qh,w2];have J:Kp F G h' al:=(((k5.trans k6 λ_ h=>h).trans k7 λ_ h=>h).trans k8 λ_ h=>h).trans ⟨k9.next,λz b=>k9.fj z (b.imp (λh=> .inl h) id)⟩ λ_ h=>h;have qG:Dq F G h' L ops _ R:={j with D:=Z j,gl:=q.gl}
   have hE:({t with s:=(fK ops t.s).2}:Dt) = {t with s:={s with ev:=s.ev++[[⟨1,(t.s.ev.length:Nat),l,[t.s.known.getLastD 0]⟩]]} }:=by
     unfold fK;rw[e1,A,e2];rfl
   have aL:=qG.step J N (λ_ h=> .inl h) q.gl j.hq rfl;refine H (λz=>F z\/Loc vl z\/z=h'.next\/z=c.next) al {R with vs:=v'} (λ_ h=> .inl h) (k'.trans (J.gm _) λ_ h=>h) ?_ rfl;rw[hE];exact aL
end
open Un
theorem YQ{t:Nat}{k:IntKind}{a b:Int}{A B:Prop}(h:if a<b then A else B):oP (ez .lss t (.int k a) (.int k b)) λv=>bP v A B:=by
 simp_all
theorem gy{t:Nat}{k:IntKind}{a b:Int}{A B:Prop}(h:if a=b then A else B):oP (ez .eql t (.int k a) (.int k b)) λv=>bP v A B:=by
 simp_all
theorem DT{t:Nat}{k:IntKind}{a b:Int}{A B:Prop}(h:if b<a then A else B):oP (ez .gtr t (.int k a) (.int k b)) λv=>bP v A B:=by
 simp_all
theorem lZ{t n m:Nat}{K:V->Prop}(a:n<1000000000)(b:m<1000000000)(H:K (.I ((n+m:Nat):Int))):oP (ez .add t (.I n) (.I m)) K:=by
 grind[nJ,zfg,iB]
theorem ze{t n:Nat}{K:V->Prop}(a:n<1000000000)(h0:0<n)(H:K (.I ((n-1:Nat):Int))):oP (ez .sub t (.I n) (.I 1)) K:=by
 obtain⟨m,rfl⟩:∃m,n=m+1:=by simp_all
 grind[qh,PS,iB]
theorem gz{c A B:Prop}[Decidable c] (hc:c)(h:A):if c then A else B:=by simp_all
theorem gh{c A B:Prop}[Decidable c] (hc:¬c)(h:B):if c then A else B:=by simp_all
theorem fL{t n:Nat}{K:V->Prop}(H:K (.I ((n+1:Nat):Int)))(h:n<1000000000:=by omega):oP (ez .add t (.I n) (.I 1)) K:=lZ (m:=1) h (by decide) H
theorem gK{t:Nat}{k:IntKind}{a b:Int}{A B:Prop}(H:A)(h:a<b:=by omega):oP (ez .lss t (.int k a) (.int k b)) λv=>bP v A B:=YQ (gz h H)
theorem iQ{t:Nat}{k:IntKind}{a b:Int}{A B:Prop}(H:B)(h:¬a<b:=by omega):oP (ez .lss t (.int k a) (.int k b)) λv=>bP v A B:=YQ (gh h H)
section
variable{F F' G G':Nat->Prop}{h h':Hp}{L:Lc}{ops:List Int}{t t':Dt}{R R':Rw}{Q:fD}
theorem rU{α:Type}{l:List α}{x:α}{n:Nat}(h:l.length<=n):(l++[x]).length<=n+1:=by simp_all
structure Sm (s:Ds) (n:Nat):Prop where
 v:s.ej.length<=n
 c:s.cur.length<=n
 k:s.known.length<=n
 st:s.ev.length<=n
 k0:0<s.known.length
theorem Sm.le{s:Ds}{n m:Nat}(a:Sm s n)(h:n<=m):Sm s m:=⟨KG a.v h,KG a.c h,KG a.k h,KG a.st h,a.k0⟩
theorem Sm.put{s:Ds}{n:Nat}(a:Sm s n)(x:Vl):Sm (put s x) (n+1):=
 ⟨rU a.v,rU a.c,ZM a.k,ZM a.st,a.k0⟩
theorem Sm.jd{s:Ds}{n:Nat}(a:Sm s n)(x:Vl):Sm (jd s x) (n+1):=
 ⟨rU a.v,rU a.c,
  rU a.k,ZM a.st,by show 0<(s.known++[s.ej.length]).length;simp_all⟩
theorem Sm.pos{s:Ds}{n:Nat}(a:Sm s n)(p:Nat):Sm {s with pos:=p} n:=⟨a.v,a.c,a.k,a.st,a.k0⟩
theorem Sm.state{s:Ds}{n:Nat}(a:Sm s n)(ops:List Int):Sm (fK ops s).2 (n+1):=by
 have hp:∃p,(some_ ops (num ops s 4).1 (num ops s 4).2 []).2 = {s with pos:=p}:=by
  obtain⟨p,h⟩:=Gp ops (num ops s 4).1 (num ops s 4).2 [];exact⟨p,h⟩
 obtain⟨p,hp⟩:=hp;unfold fK;simp only[hp];exact⟨ZM a.v,ZM a.c,ZM a.k,rU a.st,a.k0⟩
theorem zat(q:Dq F G h L ops t R){n a:Nat}(m:Sm t.s n)(p:n<1000){K:Hp->Prop}
  (H:∀h' R',Kp F G h h'->Dq F G h' L ops {t with s:={t.s with known:=t.s.known++[a]} } R'->K h') :
  yp (jz 3 1 1 (V.I 0) [(0,.I a)]) h λo c b=>((b.get h.next=some o/\O.beq o o=true)/\(fe (.ptr L.iH 0) b=some R.vk/\fm (fh 3 1 8 R.vk c b) λd e=>(b.next<=e.next/\fm (gJ 1 (.ptr L.iH 0) d e) λ_ g=>(e.next<=g.next/\K g)))):=by
 have r:jz 3 1 1 (V.I 0) [(0,V.I a)]=some (.cells 3 1 true false [V.I a],λl=> .slice l 0 1):=rfl;rw[r,hX];have i:=q.D.grow (mA.new h (.cells 3 1 true false [V.I a]));have hx:lQ (h.new (.cells 3 1 true false [V.I a])) 1 (.slice h.next 0 1)=some (1,[V.I a]):=nz (k:=0) rfl;obtain⟨u,v,z,a1,a2,a3,w,x,y⟩:=i.zdc (ys:=[a]) hx ⟨[V.I a],[],rfl,rfl,trivial⟩ rfl rfl (by simp) (by have:=m.k;simp;omega);have f:fh 3 1 8 R.vk (.slice h.next 0 1) (h.new (.cells 3 1 true false [V.I a]))=some (.val u v):=a1;refine⟨by grind[fq,O.kF],i.Bg,?_⟩;simp only[f,en,a3];have j:=(q.D.Al (.cells 3 1 true false [V.I a])).trans x λ_ h=>h;exact⟨a2,w,H _ _ j (q.step j y (by simp_all) q.gl q.hq rfl)⟩
theorem HP{x:Vl}{w:List V}(q:Dq F G h L ops t R){n:Nat}(b:Sm t.s n)(p:n<999)(r:eV.rel F h x w){K:Hp->Prop}
  (H:∀h' R',Kp F G h h'->Dq F G h' L ops {t with s:=jd t.s x} R'->K h') :
  cP CS fH [.agg w,.ptr L.lu 0,.ptr L.jT 0] h λd e=>(h.next<=e.next/\yp (jz 3 1 1 (V.I 0) [(0,d)]) e λo f a=>((a.get e.next=some o/\O.beq o o=true)/\(fe (.ptr L.iH 0) a=some R.vk/\fm (fh 3 1 8 R.vk f a) λg i=>(a.next<=i.next/\fm (gJ 1 (.ptr L.iH 0) g i) λ_ m=>(i.next<=m.next/\K m))))):=by
 have hv:=b.v;have hc:=b.c;refine Uf q.D q.hq r (by omega) (by omega) λu R1 j y k l=>⟨j.next,?_⟩
 have z:Dq F G u L ops {t with s:=put t.s x} R1:=q.step j y (by simp_all) q.gl k rfl;rw[<-l];exact zat z (b.put x) (by omega) λA R2 B C=>H A R2 (j.trans B λ_ h=>h) C
theorem Ko{x:Vl}{w:List V}(q:Dq F G h L ops t R){n:Nat}(d:Sm t.s n)(f:n<999)(g:eV.rel F h x w){K:fD}
  (H:∀h' R',Kp F G h h'->R'.vk=R.vk->Dq F G h' L ops {t with s:=put t.s x} R'->K (.I t.s.ej.length) h'):cP CS fH [.agg w,.ptr L.lu 0,.ptr L.jT 0] h K:=by
 have hv:=d.v;have hc:=d.c;exact Uf q.D q.hq g (by omega) (by omega) λi R1 e j a b=>H i R1 e b (q.step e j (by simp_all) q.gl a rfl)
theorem Ov(q:Dq F G h L ops t R)(c:ops.length<9223372036854775808){n:Nat}(a:Sm t.s n)(d:n<1000){K:fD}
  (H:∀h' l o,Kp F (gm G L.oT) h h'->Dq F G h' L ops {t with s:=(fO ops t.s).2} R->l<h'.next->gB 1 R.vk (.I ((draw ops t.s.pos t.s.known.length).1:Nat))=some (.ptr l o)->fe (.ptr l o) h' = some (.I ((fO ops t.s).1:Nat))->K (.I ((draw ops t.s.pos t.s.known.length).1:Nat)) h') :
  cP CS ft [.I t.s.known.length,.ptr L.oT 0,.ptr L.lr 0] h K:=by
 refine zd q a.k0 (by have:=a.k;omega) c λe f b=>?_;obtain⟨l,o,g,_,j,m⟩:=b.HV (i:=(draw ops t.s.pos t.s.known.length).1) (zf _ _ a.k0);exact H e l o f b g j m
theorem zcM{b:Bk}{nv:V}(q:Dq F G h L ops t R){n:Nat}(hn:t.blocks.length<1000)(K:b.ej=[])(M:b.fi=[])(a:im eN F h b.next nv)
  (H:∀F' h' R',(∀l,F l->F' l)->Kp F G h h'->Dq F' G h' L ops {s:={t.s with cur:=[]},blocks:=t.blocks++[⟨t.s.cur,b.fin,b.cond,b.next,t.fi,b.state⟩],fi:=[]} R'->Q (.I t.blocks.length) h') :
  cP CS kS [.agg (km b .ei nv .ei),.ptr L.jT 0,.ptr L.lu 0] h Q:=by
 refine Fj rfl rfl ?_;unfold xQ;have N:gw (km b .ei nv .ei)=true:=by simp only[km,eJ,a.one];rfl
 have O:∀l,G l->l<h.next:=λl e=>(q.D.gx l e).1;have P:∀i l,comp L.lu L.iH L.jT R i l->l<h.next:=λi l e=>(q.D.sig e).2.1;have fresh:∀l,h.next<=l->¬F l/\¬G l/\∀i,¬comp L.lu L.iH L.jT R i l:=λl e=>⟨λT=>by have:=q.D.fl l T;omega,by grind,by grind⟩
 have u:=q.D.grow (mA.new h (.cells 45 1 true false (km b .ei nv .ei)));have U:=q.D.Al (.cells 45 1 true false (km b .ei nv .ei));have W:(h.new (.cells 45 1 true false (km b .ei nv .ei))).get h.next=_:=fq _ _;have f:h.next<(h.new (.cells 45 1 true false (km b .ei nv .ei))).next:=OF _;simp only[Fg N,fE,fM,iB,zO,wBu,u.ldC];generalize h.new (.cells 45 1 true false (km b .ei nv .ei))=w at*;have X:=pD (o:=0) (v:=R.cc) (ql:=km b R.cc nv .ei) W (by simp[km]) (by rw[q.hq];exact q.D.oc.one) rfl;obtain⟨x,Y⟩:=u.other (mA.put (S:=λz=>z=h.next) (.cells 45 1 true false (km b R.cc nv .ei)) rfl f) (by simp_all);have Z:=gj (.cells 45 1 true false (km b R.cc nv .ei)) f;have y:h.next<(w.put h.next (.cells 45 1 true false (km b R.cc nv .ei))).next:=f;simp only[X,en,x.ldP,iB];generalize w.put h.next (.cells 45 1 true false (km b R.cc nv .ei))=h2 at*;have e3:=pD (o:=4) (v:=R.vp) (ql:=km b R.cc nv R.vp) Z (by simp[km]) q.D.sp.one rfl;obtain⟨g,k3⟩:=x.other (mA.put (S:=λz=>z=h.next) (.cells 45 1 true false (km b R.cc nv R.vp)) rfl y) (by simp_all);have g3:=gj (.cells 45 1 true false (km b R.cc nv R.vp)) y;simp only[e3,en,g.ldB,iB];generalize h2.put h.next (.cells 45 1 true false (km b R.cc nv R.vp))=d at*;have A:gw (km b R.cc nv R.vp)=true:=by simp only[km,eJ,a.one,q.hq,q.D.oc.one,q.D.sp.one];rfl
 have lA:fW 6 (.ptr h.next 0) d=some (.agg (km b R.cc nv R.vp)):=DJ g3 rfl;have e4:jz 45 6 1 (V.agg [V.ei,(V.I 0),(V.I 0),V.ei,V.ei,(V.I 0)]) [(0,.agg (km b R.cc nv R.vp))]=some (.cells 45 6 true false (km b R.cc nv R.vp),λl=> .slice l 0 1):=nW rfl rfl A;simp only[lA,iB,e4,fE];have B:=g.grow (mA.new d (.cells 45 6 true false (km b R.cc nv R.vp)));have k4:=g.Al (.cells 45 6 true false (km b R.cc nv R.vp));have j:lQ (d.new (.cells 45 6 true false (km b R.cc nv R.vp))) 6 (.slice d.next 0 1)=some (1,km b R.cc nv R.vp):=nz (k:=0) rfl;have C:Kp F G h (d.new (.cells 45 6 true false (km b R.cc nv R.vp))):=((U.trans Y λ_ h=>h).trans k3 λ_ h=>h).trans k4 λ_ h=>h;generalize d.new (.cells 45 6 true false (km b R.cc nv R.vp))=E at*;obtain⟨sc,D5⟩:=B.flush
 have hw:eK.rel (fzc F R.vc) E ⟨t.s.cur,b.fin,b.cond,b.next,t.fi,b.state⟩ (km b R.cc nv R.vp):=
  ⟨R.cc,nv,R.vp,rfl,by rw[q.hq];exact sc,(a.fj λl e=>C.fj l (.inl e)).mono λ_ h=> .inl h,B.sp.mono λ_ h=> .inl h⟩
 obtain ⟨I,h5,h6,a1,a2,a3,a4,k6,J⟩:=D5.zfr (ys:=[⟨t.s.cur,b.fin,b.cond,b.next,t.fi,b.state⟩]) j ⟨km b R.cc nv R.vp,[],by simp,hw,trivial⟩ rfl A (by simp) (by simp;omega);have m:fh 45 6 96 R.vb (.slice d.next 0 1) E=some (.val I h5):=a1;have e7:fV [V.ei,(V.I 0),(V.I 0),V.ei,V.ei,(V.I 0)] [(0,1),(1,1),(2,1),(3,1),(4,1),(5,1)] []=some (.agg [.ei,.I 0,.I 0,.ei,.ei,.I 0]):=rfl;have e8:=HB (n:=6) (ws:=[.ei,.I 0,.I 0,.ei,.ei,.I 0]) J.gb rfl rfl rfl;obtain⟨k7,r⟩:=J.zbt (c:= .ei) (p:= .ei) (ps:=[]) .nil;have lb:fI I=some (.I ((t.blocks.length+1:Nat):Int)):=by
  have:=r.ob.len;simpa using this
 simp only[m,en,a3,e7,iB,e8,r.ldB,lb,qh,PS (n:=t.blocks.length) (by omega)];have kb:=(C.trans (F':=fzc F R.vc) k6 λ_ h=> .inl h).trans (F':=fzc F R.vc) k7 λ_ h=> .inl h;exact H (fzc F R.vc) _ _ (λ_ h=> .inl h) kb (q.step kb r (λ_ h=> .inl h) q.gl rfl rfl)
end
