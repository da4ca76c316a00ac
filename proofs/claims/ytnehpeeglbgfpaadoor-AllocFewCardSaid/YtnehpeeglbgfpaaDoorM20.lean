/- Parts. -/
import Derived.Test.YtnehpeeglbgfpaaDoorM18
import Derived.Test.YtnehpeeglbgfpaaDoorM19
import Derived.Test.YtnehpeeglbgfpaaDoorM15
set_option maxHeartbeats 4000000
namespace Go.Proofs.YtnehpeeglbgfpaaDoor.Hx
open Un
theorem A0{e:Nat}{w:List V}(a:fZ w=true):tQ e (.agg w)=some (.cells e 1 true false w,λl=> .ptr l 0):=by
 unfold tQ
 grind[um,fZ,bB,V.cells]
theorem Fi{e sz:Nat}{z w:List V}(c:z.length=sz)(a:w.length=sz)(d:fZ w=true):jm e sz 1 (.agg z) [(0,.agg w)]=some (.cells e sz true false w,λl=> .slice l 0 1):=by
 unfold jm;have b:nE (Nat.mul 0 sz) (xr 1 (V.agg z).cells) (V.agg w).cells=some w:=by
  show nE (0*sz) (z++[]) w=some w;rw[Nat.zero_mul,Hk,AY (by omega),UJ,Lg,Dr,List.drop_of_length_le (by omega),Hk]
 simp only[wH,fg,b];rw[um _ (show Nat.beq (V.agg w).cells.length sz=true by rw[show(V.agg w).cells=w from rfl,a];simp_all)]
 simp_all
theorem HR{n:Nat}(h:n<1000000000):jw .i64 (((n+1:Nat):Int)-1)=(n:Nat):=by
 grind[iR,Fe]
theorem Xa{n k:Nat}(h:n<1000000000)(a:k<1000000000):jw .i64 (((n:Nat):Int)+(k:Nat))=((n+k:Nat):Int):=by
 grind[iR,Fe]
theorem QH(t:Nat)(k:IntKind)(a b:Int)(d:b≠0):ej .rem t (.int k a) (.int k b)=some (.int k (a.tmod b)):=by
 have c:hint .rem k a b=some (.int k (a.tmod b)):=by
  cases b with
  | ofNat n=>cases n with
    |zero=>simp_all
    |succ n=>rfl
  |negSucc n=>rfl
 cases k <;> exact c
theorem Jz{n:Int}{m:Nat}{h:Hp}{Q:fu}(f:0<m)(d:m<=1000000000)(H:Q (.I (jl n m:Nat)) h):cP CS hX [.I n,.I m] h Q:=by
 refine Ak rfl rfl ?_;unfold tC;have g:=Int.tmod_lt_of_pos n (b:=(m:Int)) (by omega);have i : -(m:Int)<n.tmod m:=by
  have:=Int.tmod_lt_of_pos (-n) (b:=(m:Int)) (by omega);rw[Int.neg_tmod]at this;omega
 simp only[QH _ _ _ (m:Int) (by omega),gQ,mU,KA,MR];unfold jl at H;split
 ·rename_i a;rw[if_pos a]at H;have e:jw .i64 (n.tmod m+m)=n.tmod m+m:=by grind[iR,Fe]
  simp only[G7,e,gQ];refine qm ?_;unfold lO;rw[Int.toNat_of_nonneg (by omega)]at H;exact H
 ·rename_i c;rw[if_neg c]at H;refine qm ?_;unfold lO;rw[Int.toNat_of_nonneg (by omega)]at H;exact H
section
variable{F G:Nat->Prop}{h:Hp}{lu gK iK:Nat}{t:Dt}{R:Rw}{Q:fu}
theorem Dw.Ov(D:Dw F G h lu gK iK t R):er (.ptr lu 2) h=some R.vv:=jd D.gu rfl
theorem Dw.Q3(D:Dw F G h lu gK iK t R):er (.ptr lu 3) h=some R.vb:=jd D.gu rfl
theorem Dw.Xt(D:Dw F G h lu gK iK t R):er (.ptr lu 4) h=some R.vs:=jd D.gu rfl
theorem Dw.vC(D:Dw F G h lu gK iK t R):er (.ptr gK 0) h=some R.vk:=jd D.gk rfl
theorem Dw.XD(D:Dw F G h lu gK iK t R):er (.ptr iK 0) h=some R.cc:=jd D.gb rfl
theorem Dw.YE(D:Dw F G h lu gK iK t R):er (.ptr iK 4) h=some R.vp:=jd D.gb rfl
theorem LQ{x:Vl}{w:List V}(D:Dw F G h lu gK iK t R)(hq:R.cc=R.vc)(g:eV.rel F h x w)(P:t.s.ee.length<1000)(hc:t.s.cur.length<1000)
  (H:∀h' R',Kp F G h h'->Dw F G h' lu gK iK {t with s:=put t.s x} R'->R'.cc=R'.vc->R'.vk=R.vk->Q (.I t.s.ee.length) h') :
  cP CS eQ [.agg w,.ptr lu 0,.ptr iK 0] h Q:=by
 refine yO rfl rfl ?_;unfold qx;have a:=eV.one g;have b:w.length=6:=eV.len g;have i:=D.grow (ki.new h (.cells 46 1 true false w));have q:=D.uv (.cells 46 1 true false w);have e1:hH 6 (.ptr h.next 0) (h.new (.cells 46 1 true false w))=some (.agg w):=xK (ey _ _) b;have e2:jm 46 6 1 (V.agg [(V.I 0),(V.I 0),(V.I 0),(V.I 0),V.ed,(V.I 0)]) [(0,.agg w)]=some (.cells 46 6 true false w,λl=> .slice l 0 1):=Fi rfl b a;simp only[A0 a,fF,fM,gQ,Dr,i.Ov,e1,e2];generalize v:h.new (.cells 46 1 true false w)=f at*;have y:=i.grow (ki.new f (.cells 46 6 true false w));have r:=i.uv (.cells 46 6 true false w);have j:eV.rel F (f.new (.cells 46 6 true false w)) x w:=eV.eC (λl z=>(q.trans r λ_ h=>h).eC l (.inl z)) g;have m:jX (f.new (.cells 46 6 true false w)) 6 (.slice f.next 0 1)=some (1,w):=by grind[mc]
 obtain⟨S,T,c,A,U,B,W,C,d⟩:=y.WZ (ys:=[x]) m ⟨w,[],by simp,j,trivial⟩ (by omega) a (by simp) (by simp;omega);have lc:((t.s.ee++[x]).length:Nat)=t.s.ee.length+1:=by simp
 have lv:=d.ov.len;simp only[lc]at lv;simp only[A,eh,B,d.XD,d.Ov,gQ,lv,hZ];have u:jw .i64 (((t.s.ee.length+1:Nat):Int)-1)=(t.s.ee.length:Nat):=HR (by omega);have E:jm 3 1 1 (V.I 0) [(0,V.I t.s.ee.length)]=some (.cells 3 1 true false [V.I t.s.ee.length],λl=> .slice l 0 1):=rfl;simp only[u,E,fF,hq];have I:=d.grow (ki.new c (.cells 3 1 true false [V.I t.s.ee.length]));have J:=d.uv (.cells 3 1 true false [V.I t.s.ee.length]);have n:jX (c.new (.cells 3 1 true false [V.I t.s.ee.length])) 1 (.slice c.next 0 1)=some (1,[V.I t.s.ee.length]):=mc (k:=0) rfl;obtain⟨K,L,X,M,Y,N,Z,O,o⟩:=I.Xi (ys:=[t.s.ee.length]) n ⟨[V.I t.s.ee.length],[],rfl,rfl,trivial⟩ rfl rfl (by simp) (by simp;omega);have e:=o.ov.len;simp only[lc]at e;have p:fh 3 1 8 R.vc (.slice c.next 0 1) (c.new (.cells 3 1 true false [V.I t.s.ee.length]))=some (.val K L):=M;simp only[p,eh,N,o.Ov,gQ,e,hZ,u];exact H _ _ ((((q.trans r λ_ h=>h).trans C λ_ h=>h).trans J λ_ h=>h).trans O λ_ h=>h) o rfl rfl
end
open Un
structure Lc where
 lr:Nat
 lu:Nat
 gK:Nat
 iK:Nat
 uQ:Nat
 lE:Nat
 mI:Nat
 Nd:Nat
def Tw(L:Lc):V:= .func eQ [] [.ptr L.lu 0,.ptr L.iK 0]
def MZ(L:Lc):V:= .func eD [] [.ptr L.lE 0,.ptr L.lr 0]
def Lj(L:Lc):V:= .func fE [] [.ptr L.lu 0,.ptr L.mI 0,.ptr L.gK 0]
structure Dq (F G:Nat->Prop) (h:Hp) (L:Lc) (ops:List Int) (t:Dt) (R:Rw):Prop where
 D:Dw F G h L.lu L.gK L.iK t R
 hq:R.cc=R.vc
 gl:G L.lE
 ga:h.get L.lE=some (.cells fI 1 true false [.I t.s.pos])
 fr:F L.lr
 gr:∃a vs n,h.get L.lr=some (.cells La 1 true false [a,vs,n])/\iB (eI .i64) F h ops a
 fp:F L.uQ
 gp:∃e,h.get L.uQ=some (.cells e 1 true false [Tw L])
 fn:F L.mI
 gn:∃e,h.get L.mI=some (.cells e 1 true false [MZ L])
 fs:F L.Nd
 gs:∃e,h.get L.Nd=some (.cells e 1 true false [Lj L])
section
variable{F F' G G':Nat->Prop}{h h':Hp}{L:Lc}{ops:List Int}{t t':Dt}{R R':Rw}{Q:fu}
theorem Dq.Th(q:Dq F G h L ops t R)(k:∀l,F l->h'.get l=h.get l) (D':Dw F' G' h' L.lu L.gK L.iK t' R')(a:∀l,F l->F' l) (b:R'.cc=R'.vc)(c:G' L.lE)(d:h'.get L.lE=some (.cells fI 1 true false [.I t'.s.pos])):Dq F' G' h' L ops t' R' where
 D:=D'
 hq:=b
 gl:=c
 ga:=d
 fr:=a _ q.fr
 gr:=by
  let⟨vo,vs,n,e,f⟩:=q.gr
  exact⟨vo,vs,n,by rw[k _ q.fr];exact e,(f.eC k).mono a⟩
 fp:=a _ q.fp
 gp:=by rw[k _ q.fp];exact q.gp
 fn:=a _ q.fn
 gn:=by rw[k _ q.fn];exact q.gn
 fs:=a _ q.fs
 gs:=by rw[k _ q.fs];exact q.gs
theorem Dq.step(q:Dq F G h L ops t R)(k:Kp F G h h') (D':Dw F' G' h' L.lu L.gK L.iK t' R')(b:∀l,F l->F' l)(c:G' L.lE) (a:R'.cc=R'.vc)(d:t'.s.pos=t.s.pos):Dq F' G' h' L ops t' R':=
 q.Th (λl e=>k.eC l (.inl e)) D' b a c (by rw[k.eC _ (.inr q.gl),d];exact q.ga)
theorem Dq.mg(q:Dq F G h L ops t R):er (.ptr L.uQ 0) h=some (Tw L):=by let⟨e,hg⟩:=q.gp;exact jd hg rfl
theorem Dq.qH(q:Dq F G h L ops t R):er (.ptr L.mI 0) h=some (MZ L):=by let⟨e,hg⟩:=q.gn;exact jd hg rfl
theorem Dq.Dk(q:Dq F G h L ops t R):er (.ptr L.Nd 0) h=some (Lj L):=by let⟨e,hg⟩:=q.gs;exact jd hg rfl
theorem Dq.AU(q:Dq F G h L ops t R){i:Nat}(hi:i<t.s.known.length):∃l o,l<h.next/\(F l\/Loc R.vk l)/\gM 1 R.vk (.I i)=some (.ptr l o)/\er (.ptr l o) h=some (.I (t.s.known.getD i 0:Nat)):=by
 let⟨l,o,u,hl,a,b,c⟩:=q.D.ok.read.OZ hi .i64 rfl
 refine⟨l,o,hl.elim (q.D.fl l) λh=>(q.D.ok.sm h).2.1,hl,a,?_⟩;rw[b];have:[u]=[V.I (t.s.known[i]:Nat)]:=c;rw[List.getD_eq_getElem?_getD,iQ hi];simpa using this
theorem Dw.PO{lu gK iK:Nat}(D:Dw F G h lu gK iK t R)(a:∀l,G' l->G l\/(l<h.next/\¬F l/\∀i,¬comp lu gK iK R i l)):Dw F G' h lu gK iK t R:=
 {D with gx:=λl b=>(a l b).elim (D.gx l) id}
def gm(G:Nat->Prop)(a:Nat):Nat->Prop:=λl=>G l/\l≠a
theorem Kp.gm(k:Kp F G h h')(a:Nat):Kp F (Hx.gm G a) h h':=⟨k.next,λl b=>k.eC l (b.imp id λh=>h.1)⟩
def setPos(t:Dt)(p:Nat):Dt:={t with s:={t.s with pos:=p} }
theorem sJ{m:Nat}(q:Dq F G h L ops t R)(g:0<m)(j:m<=100000000)(A:ops.length<9223372036854775808)
  (H:∀h',Kp F (gm G L.lE) h h'->Dq F G h' L ops (setPos t (draw ops t.s.pos m).2) R->Q (.I ((draw ops t.s.pos m).1:Nat)) h') :
  cP CS eD [.I m,.ptr L.lE 0,.ptr L.lr 0] h Q:=by
 refine yX rfl rfl ?_;unfold rr
 let⟨vo,vs,n,gr,so⟩:=q.gr
 have k:er (.ptr L.lE 0) h=some (.I t.s.pos):=jd q.ga rfl;have p:er (.ptr L.lr 0) h=some vo:=jd gr rfl;simp[k,gQ,p,so.len];have a:=q.D.gx _ q.gl;split
 ·rename_i r;have e:draw ops t.s.pos m=(0,t.s.pos):=by
   unfold draw;rw[List.getElem?_eq_none (by omega)]
  rw[e]at H;exact H h (Kp.refl _ _ _) q
 ·rename_i c;have c:t.s.pos<ops.length:=by omega
  have e:draw ops t.s.pos m=(jl ops[t.s.pos] m,t.s.pos+1):=by
   unfold draw;rw[iQ c]
  rw[e]at H;have w1:jw .i64 ((t.s.pos:Int)+1)=((t.s.pos+1:Nat):Int):=by rw[iR (by simp[Fe];omega)];omega
  have e1:=lK (o:=0) (lU:=[.I ((t.s.pos+1:Nat):Int)]) q.ga (by simp) rfl rfl;have hc:ki (λl=>l=L.lE) h (h.put L.lE (.cells fI 1 true false [.I ((t.s.pos+1:Nat):Int)])):=ki.put _ rfl a.1;have d:∀l,F l->(h.put L.lE (.cells fI 1 true false [.I ((t.s.pos+1:Nat):Int)])).get l=h.get l:=λl b=>fN _ a.1 λe=>a.2.1 (e▸b);have l2:er (.ptr L.lr 0) (h.put L.lE (.cells fI 1 true false [.I ((t.s.pos+1:Nat):Int)]))=some vo:=jd (by rw[d _ q.fr];exact gr) rfl;have l3:er (.ptr L.lE 0) (h.put L.lE (.cells fI 1 true false [.I ((t.s.pos+1:Nat):Int)]))=some (.I ((t.s.pos+1:Nat):Int)):=jd (fG _ a.1) rfl;have w2:jw .i64 (((t.s.pos+1:Nat):Int)-1)=(t.s.pos:Nat):=by rw[iR (by simp[Fe];omega)];omega
  let⟨l,o,u,_,v,w,x⟩:=(so.eC d).OZ c .i64 rfl
  obtain⟨rfl⟩:u = .I ops[t.s.pos]:=by simpa using x.1
  simp only[ w1,gQ,e1,eh,l2,l3,hZ,w2,v,w];refine Jz g (by omega) (H _ ⟨hc.next,λl b=>b.elim (d l) λb=>fN _ a.1 λe=>b.2 e.symm⟩ ?_);have y:Dw F (gm G L.lE) h L.lu L.gK L.iK t R:={q.D with gx:=λl b=>q.D.gx l b.1}
  have D':=(y.other hc λl b=>by subst b;exact⟨a.2.1,λz=>z.2 rfl,a.2.2⟩).1;refine q.Th d ?_ (λ_ h=>h) q.hq q.gl (fG _ a.1);have f:∀l,G l->_:=λl b=>if e:l=L.lE then e▸(⟨a.1,a.2.1,a.2.2⟩:_/\_/\∀i,¬comp L.lu L.gK L.iK R i L.lE) else D'.gx l ⟨b,e⟩
  exact{D' with gx:=f}
def gp(G:Nat->Prop)(v:V)(p:Nat):Nat->Prop:=λl=>G l\/l=p\/Loc v l
theorem xD(l:List Nat)(h:0<l.length):l.getD (l.length-1) 0=l.getLastD 0:=by
 rw[List.getLastD_eq_getLast?,List.getLast?_eq_getElem?,List.getD_eq_getElem?_getD]
theorem Gz(q:Dq F G h L ops t R)(hk:0<t.s.known.length)(aN:t.s.known.length<1000)(hs:t.s.ef.length<1000)(ho:ops.length<9223372036854775808)
  (H:∀F' h' R',(∀l,F l->F' l)->Kp F (gm G L.lE) h h'->Dq F' G h' L ops {t with s:=(fi ops t.s).2} R'->R'.vk=R.vk->Q (.I ((fi ops t.s).1:Nat)) h') :
  cP CS fE [.ptr L.lu 0,.ptr L.mI 0,.ptr L.gK 0] h Q:=by
 refine yE rfl rfl ?_;unfold qY;have aM:=(q.D.gx _ q.gl).1;have am:∀l,G l->l<h.next:=λl f=>(q.D.gx l f).1;have an:∀i l,comp L.lu L.gK L.iK R i l->l<h.next:=λi l f=>(q.D.sig f).2.1;have eb:fH [(V.I 0),(V.I 0),V.ed,V.ed] [(0,1),(1,1),(2,1),(3,1)] [(0,(V.I 1)),(1,.I t.s.ef.length)]=some (.agg [.I 1,.I t.s.ef.length,.ed,.ed]):=rfl;have U:(h.new (.cells 50 1 true false [(V.I 0),(V.I 0),V.ed,V.ed])).get h.next=some (.cells 50 1 true false [(V.I 0),(V.I 0),V.ed,V.ed]):=ey _ _;have e1:=AP (n:=4) (ws:=[.I 1,.I t.s.ef.length,.ed,.ed]) U rfl rfl rfl;simp only[fM,gQ,Dr,q.D.Xt,q.D.os.len,eb,fF,e1,eh];have K:h.next<(h.new (.cells 50 1 true false [(V.I 0),(V.I 0),V.ed,V.ed])).next:=JI _
 have c2:ki (λl=>l=h.next) h ((h.new (.cells 50 1 true false [(V.I 0),(V.I 0),V.ed,V.ed])).put h.next (.cells 50 1 true false [.I 1,.I t.s.ef.length,.ed,.ed])):=
  (ki.new _ _).trans (ki.put _ rfl K)
 have g2:=fG (h:=h.new (.cells 50 1 true false [(V.I 0),(V.I 0),V.ed,V.ed])) (.cells 50 1 true false [.I 1,.I t.s.ef.length,.ed,.ed]) K;have n2:((h.new (.cells 50 1 true false [(V.I 0),(V.I 0),V.ed,V.ed])).put h.next (.cells 50 1 true false [.I 1,.I t.s.ef.length,.ed,.ed])).next=h.next+1:=rfl;generalize ((h.new (.cells 50 1 true false [(V.I 0),(V.I 0),V.ed,V.ed])).put h.next (.cells 50 1 true false [.I 1,.I t.s.ef.length,.ed,.ed]))=h2 at*;clear U e1 K;have fresh:∀l,h.next<=l->¬F l/\¬G l/\∀i,¬comp L.lu L.gK L.iK R i l:=λl f=>⟨λhf=>by have:=q.D.fl l hf;omega,λhg=>by have:=am l hg;omega,λi hi=>by have:=an i l hi;omega⟩
 obtain ⟨W,k2⟩:=q.D.other c2 (λl f=>by subst f;exact fresh _ (je _));have X:Dw F (gp G .ed h.next) h2 L.lu L.gK L.iK t R:=W.PO λl f=>f.elim .inl λf=> .inr (by
  rcases f with rfl|f
  ·exact⟨by omega,(fresh _ (je _)).1,(fresh _ (je _)).2.2⟩
  ·exact f.elim)
 have q2:Dq F (gp G .ed h.next) h2 L ops t R:=q.step k2 X (λ_ h=>h) (.inl q.gl) q.hq rfl;rw[q2.qH];simp only[gQ,MZ,FT,AQ,Lg,Hk];refine sJ (m:=4) q2 (by decide) (by decide) ho λy k3 q3=>?_;have g3:y.get h.next=some (.cells 50 1 true false [.I 1,.I t.s.ef.length,.ed,.ed]):=by
  rw[k3.eC _ (.inr ⟨.inr (.inl rfl),by omega⟩)];exact g2
 have hr:(draw ops t.s.pos 4).1<4:=sI _ _ (by decide)
 refine wb (λk x0 x1 x2 x4 x5 h'=>∃(s:Ds) (l:List Nat) (vl:V),x0 = .ptr L.lu 0/\x1 = .ptr L.mI 0/\x2 = .ptr L.gK 0/\x4 = .ptr h.next 0/\x5 = .I (k:Nat)/\Dq F (gp G vl h.next) h' L ops {t with s:=s} R/\Kp F (gm G L.lE) h h'/\
  h'.get h.next=some (.cells 50 1 true false [.I 1,.I t.s.ef.length,vl,.ed])/\jn eN fI F h' l vl/\(∀z,Loc vl z->h.next<z)/\some_ ops k s l=some_ ops (draw ops t.s.pos 4).1 (num ops t.s 4).2 []/\s.known=t.s.known/\s.ef=t.s.ef/\l.length+k<=4) ?_
  ⟨(num ops t.s 4).2,[],.ed,rfl,rfl,rfl,rfl,rfl,q3,(k2.gm L.lE).trans ⟨k3.next,λl f=>k3.eC l (f.imp id λf=>⟨.inl f.1,f.2⟩)⟩ (λ_ h=>h),g3,.nil,λ_ h=>h.elim,rfl,rfl,rfl,by simp;omega⟩
 clear q3 k3 g3 q2 X W k2 g2 c2 eb;rintro k x0 x1 x2 x4 x5 h' ⟨s,l,vl,rfl,rfl,rfl,rfl,rfl,j,k',gF,ol,P,p,r,A,hlen⟩;unfold nY;have ao:er (.ptr h.next 2) h' = some vl:=jd gF rfl;have kl:({t with s:=s}:Dt).s.known.length=t.s.known.length:=by show s.known.length=_;rw[r]
 have Y:h.next<h'.next:=(j.D.gx h.next (.inr (.inl rfl))).1;have Z:∀{g:Hp} {s1:Ds},Dq F (gp G vl h.next) g L ops {t with s:=s1} R->Dw F G g L.lu L.gK L.iK {t with s:=s1} R:=λq=>{q.D with gx:=λl f=>q.D.gx l (.inl f)}
 simp only[ml,gQ,KA,MR]
 cases k with
 | succ k=>
   rw[if_pos (by omega)];have lk:=j.D.ok.len;rw[kl]at lk;rw[j.qH];simp only[fM,gQ,Dr,ao,j.D.vC,lk,MZ,FT,AQ,Lg,Hk];refine sJ (m:=t.s.known.length) j hk (by omega) ho λg u I=>?_;have aq:g.get h.next=some (.cells 50 1 true false [.I 1,.I (t.s.ef.length:Nat),vl,.ed]):=by
     rw[u.eC _ (.inr ⟨.inr (.inl rfl),by omega⟩)];exact gF
   have aa:jn eN fI F g l vl:=ol.eC (λz b=>u.eC z (.inl b)) (λz b=>u.eC z (.inr ⟨.inr (.inr b),by have:=P z b;omega⟩)) u.next;have ar:(draw ops s.pos t.s.known.length).1<t.s.known.length:=sI _ _ hk;obtain⟨l1,o1,ab,ac,i1,i2⟩:=I.AU (i:=(draw ops s.pos t.s.known.length).1) (by show _<s.known.length;rw[r];exact ar);have B:er (.ptr l1 o1) g=some (.I (s.known.getD (draw ops s.pos t.s.known.length).1 0:Nat)):=i2;refine⟨u.next,?_⟩;have e3:∀a:Nat,jm 3 1 1 (V.I 0) [(0,V.I (a:Nat))]=some (.cells 3 1 true false [V.I (a:Nat)],λl=> .slice l 0 1):=λ_=>rfl;have au:gM 1 R.vk (.I ((draw ops ({t with s:=s}:Dt).s.pos t.s.known.length).1:Nat))=some (.ptr l1 o1):=i1;simp only[au,B,gQ,e3,hN];generalize hv:s.known.getD (draw ops s.pos t.s.known.length).1 0=a at*;have W:=(Z I).grow (ki.new g (.cells 3 1 true false [V.I (a:Nat)]));have ae:(g.new (.cells 3 1 true false [V.I (a:Nat)])).get h.next=_:=(eJ _ (by have:=u.next;omega)).trans aq;refine⟨⟨ey _ _,O.ie _ _ _ _ _⟩,mm B (eJ _ ab),W.vC,jd ae rfl,?_⟩;have aw:jn eN fI F (g.new (.cells 3 1 true false [V.I (a:Nat)])) l vl:=aa.eC (λz b=>eJ _ (I.D.fl z b)) (λz b=>eJ _ (aa.sm b).2.1) (JM _);have hx:jX (g.new (.cells 3 1 true false [V.I (a:Nat)])) 1 (.slice g.next 0 1)=some (1,[V.I (a:Nat)]):=mc (k:=0) rfl;obtain⟨d,y,a1,ag,c3,ax⟩:=aw.append (lD:=8) (ys:=[a]) hx ⟨[V.I (a:Nat)],[],rfl,rfl,trivial⟩ rfl rfl (by simp) (by decide) (λz b=>SI (I.D.fl z b)) (by simp;omega) (by simp;omega);have n2:(g.new (.cells 3 1 true false [V.I (a:Nat)])).next=g.next+1:=rfl;have w:h.next<y.next:=by have:=c3.next;have:=u.next;omega
   have ay:y.get h.next=some (.cells 50 1 true false [.I 1,.I (t.s.ef.length:Nat),vl,.ed]):=by
     rw[c3.eC _ (by have:=u.next;omega) λb=>TM _ (P _ b)];exact ae
   have a2:=lK (o:=2) (v:=d) (lU:=[.I 1,.I (t.s.ef.length:Nat),d,.ed]) ay (by simp) ag.one rfl;have az:fh 3 1 8 vl (.slice g.next 0 1) (g.new (.cells 3 1 true false [V.I (a:Nat)]))=some (.val d y):=a1;have w1:jw .i64 (((k+1:Nat):Int)-1)=(k:Nat):=HR (by omega);simp only[az,eh,a2,hZ,w1,gQ];refine⟨c3.next,je _,k,by omega,?_⟩
   have cc:ki (λz=>Loc vl z\/z=h.next) (g.new (.cells 3 1 true false [V.I (a:Nat)])) (y.put h.next (.cells 50 1 true false [.I 1,.I (t.s.ef.length:Nat),d,.ed])):=
     (c3.Q8 λ_ _ h=> .inl h).trans (ki.put _ (.inr rfl) w)
   obtain⟨D4,k4⟩:=W.other cc λz b=>fresh z (by rcases b with b|rfl;exact Nat.le_of_lt (P z b);exact je _);have M:∀z,Loc d z->h.next<z:=λz b=>(ax z b).elim (P z) λe=>by have:=u.next;omega
   have ah:jn eN fI F (y.put h.next (.cells 50 1 true false [.I 1,.I (t.s.ef.length:Nat),d,.ed])) (l++[a]) d:=
     ag.eC (λz b=>fN _ w λe=>(fresh h.next (je _)).1 (e▸b)) (λz b=>fN _ w (by have:=M z b;omega)) (je _)
   have aA:Dw F (gp G d h.next) (y.put h.next (.cells 50 1 true false [.I 1,.I (t.s.ef.length:Nat),d,.ed])) L.lu L.gK L.iK _ R:=D4.PO λz b=>b.elim .inl λb=> .inr (by
     rcases b with rfl|b
     ·exact⟨w,(fresh _ (je _)).1,(fresh _ (je _)).2.2⟩
     ·have C:=fresh z (Nat.le_of_lt (M z b));exact⟨(ah.sm b).2.1,C.1,C.2.2⟩)
   have kk:Kp F G g (y.put h.next (.cells 50 1 true false [.I 1,.I (t.s.ef.length:Nat),d,.ed])):=
     (Kp.new F G g _ I.D.fl λz b=>(I.D.gx z (.inl b)).1).trans k4 λ_ h=>h
   have qG:Dq F G g L ops _ R:={I with D:=Z I,gl:=q.gl}
   refine⟨{s with pos:=(draw ops s.pos t.s.known.length).2},l++[a],d,by trivial,by trivial,by trivial,by trivial,by trivial,qG.step kk aA (λ_ h=>h) (.inl q.gl) j.hq rfl,?_,fG _ w,ah,M,?_,r,A,by simp;omega⟩
   ·exact(k'.trans ⟨u.next,λz b=>u.eC z (b.imp id λb=>⟨.inl b.1,b.2⟩)⟩ λ_ h=>h).trans (kk.gm _) λ_ h=>h
   ·rw[<-p,<-hv]
    show _=some_ ops k (fm ops s).2 (l++[(fm ops s).1]);unfold fm
    rw[r]
 | zero=>
   rw[if_neg (by omega)];obtain⟨e1,e2⟩:l=(some_ ops (draw ops t.s.pos 4).1 (num ops t.s 4).2 []).1/\s=(some_ ops (draw ops t.s.pos 4).1 (num ops t.s 4).2 []).2:=by rw[<-p];exact⟨rfl,rfl⟩
   have lk:=j.D.ok.len;rw[kl]at lk;have w1:jw .i64 (((t.s.known.length:Nat):Int)-1)=((t.s.known.length-1:Nat):Int):=by
     rw[show((t.s.known.length:Nat):Int)=((t.s.known.length-1+1:Nat):Int) by omega];exact HR (by omega)
   obtain ⟨l1,o1,ab,ac,i1,i2⟩:=j.AU (i:=t.s.known.length-1) (by rw[kl];omega);have B:er (.ptr l1 o1) h' = some (.I (t.s.known.getLastD 0:Nat)):=by
     rw[i2,show({t with s:=s}:Dt).s.known=t.s.known from r,xD _ hk]
   have e3:∀a:Nat,jm 3 1 1 (V.I 0) [(0,V.I (a:Nat))]=some (.cells 3 1 true false [V.I (a:Nat)],λl=> .slice l 0 1):=λ_=>rfl;simp only[j.D.vC,gQ,lk,hZ,w1,i1,B,e3,fF,fM,Dr];have D5:=(Z j).grow (ki.new h' (.cells 3 1 true false [V.I (t.s.known.getLastD 0:Nat)]));have k5:Kp F G h' (h'.new (.cells 3 1 true false [V.I (t.s.known.getLastD 0:Nat)])):=(Z j).uv _;have g5:(h'.new (.cells 3 1 true false [V.I (t.s.known.getLastD 0:Nat)])).get h'.next=_:=ey _ _;have aB:(h'.new (.cells 3 1 true false [V.I (t.s.known.getLastD 0:Nat)])).get h.next=_:=(eJ _ Y).trans gF;have aC:jn eN fI F (h'.new (.cells 3 1 true false [V.I (t.s.known.getLastD 0:Nat)])) l vl:=ol.eC (λz b=>eJ _ (j.D.fl z b)) (λz b=>eJ _ (ol.sm b).2.1) (JM _);have n5:(h'.new (.cells 3 1 true false [V.I (t.s.known.getLastD 0:Nat)])).next=h'.next+1:=rfl;generalize h'.new (.cells 3 1 true false [V.I (t.s.known.getLastD 0:Nat)])=C at*;have a1:=lK (o:=3) (v:= .slice h'.next 0 1) (lU:=[.I 1,.I (t.s.ef.length:Nat),vl,.slice h'.next 0 1]) aB (by simp) rfl rfl;have E:h.next<C.next:=by omega
   obtain⟨D6,k6⟩:=D5.other (ki.put (S:=λz=>z=h.next) (.cells 50 1 true false [.I 1,.I (t.s.ef.length:Nat),vl,.slice h'.next 0 1]) rfl E) λz b=>by subst b;exact fresh _ (je _)
   have aD:=fG (.cells 50 1 true false [.I 1,.I (t.s.ef.length:Nat),vl,.slice h'.next 0 1]) E;have g6:(C.put h.next (.cells 50 1 true false [.I 1,.I (t.s.ef.length:Nat),vl,.slice h'.next 0 1])).get h'.next=_:=(fN _ E (by omega)).trans g5;have ai:jn eN fI F (C.put h.next (.cells 50 1 true false [.I 1,.I (t.s.ef.length:Nat),vl,.slice h'.next 0 1])) l vl:=aC.eC (λz b=>k6.eC z (.inl b)) (λz b=>fN _ E (by have:=P z b;omega)) (je _);have n6:(C.put h.next (.cells 50 1 true false [.I 1,.I (t.s.ef.length:Nat),vl,.slice h'.next 0 1])).next=C.next:=rfl;simp only[a1,eh];generalize C.put h.next (.cells 50 1 true false [.I 1,.I (t.s.ef.length:Nat),vl,.slice h'.next 0 1])=c at*;have lA:hH 4 (.ptr h.next 0) c=some (.agg [.I 1,.I (t.s.ef.length:Nat),vl,.slice h'.next 0 1]):=xK aD rfl;have ow:fZ [.I 1,.I (t.s.ef.length:Nat),vl,.slice h'.next 0 1]=true:=by simp only[eR,ol.one];rfl
   have e7:jm 50 4 1 (V.agg [(V.I 0),(V.I 0),V.ed,V.ed]) [(0,.agg [.I 1,.I (t.s.ef.length:Nat),vl,.slice h'.next 0 1])]=some (.cells 50 4 true false [.I 1,.I (t.s.ef.length:Nat),vl,.slice h'.next 0 1],λl=> .slice l 0 1):=Fi rfl rfl ow;have e8:∀m:Nat,fH [V.ed] [(0,1)] [(0,.slice m 0 1)]=some (.agg [.slice m 0 1]):=λ_=>rfl;have e9:∀m:Nat,jm 53 1 1 (V.agg [V.ed]) [(0,.agg [.slice m 0 1])]=some (.cells 53 1 true false [.slice m 0 1],λl=> .slice l 0 1):=λm=>Fi rfl rfl rfl;simp only[D6.Xt,gQ,lA,e7,fF,e8,e9];have D7:=D6.grow (ki.new c (.cells 50 4 true false [.I 1,.I (t.s.ef.length:Nat),vl,.slice h'.next 0 1]));have k7:=D6.uv (.cells 50 4 true false [.I 1,.I (t.s.ef.length:Nat),vl,.slice h'.next 0 1]);have g7:(c.new (.cells 50 4 true false [.I 1,.I (t.s.ef.length:Nat),vl,.slice h'.next 0 1])).get c.next=_:=ey _ _;have aE:(c.new (.cells 50 4 true false [.I 1,.I (t.s.ef.length:Nat),vl,.slice h'.next 0 1])).get h'.next=_:=(eJ _ (by omega)).trans g6;have aj:jn eN fI F (c.new (.cells 50 4 true false [.I 1,.I (t.s.ef.length:Nat),vl,.slice h'.next 0 1])) l vl:=ai.eC (λz b=>eJ _ (D6.fl z b)) (λz b=>eJ _ (ai.sm b).2.1) (JM _);have n7:(c.new (.cells 50 4 true false [.I 1,.I (t.s.ef.length:Nat),vl,.slice h'.next 0 1])).next=c.next+1:=rfl;generalize c.new (.cells 50 4 true false [.I 1,.I (t.s.ef.length:Nat),vl,.slice h'.next 0 1])=x at*;have D8:=D7.grow (ki.new x (.cells 53 1 true false [.slice c.next 0 1]));have k8:=D7.uv (.cells 53 1 true false [.slice c.next 0 1]);have g8:(x.new (.cells 53 1 true false [.slice c.next 0 1])).get c.next=_:=(eJ _ (by omega)).trans g7;have aF:(x.new (.cells 53 1 true false [.slice c.next 0 1])).get h'.next=_:=(eJ _ (by omega)).trans aE;have ak:jn eN fI F (x.new (.cells 53 1 true false [.slice c.next 0 1])) l vl:=aj.eC (λz b=>eJ _ (D7.fl z b)) (λz b=>eJ _ (aj.sm b).2.1) (JM _);have aG:jX (x.new (.cells 53 1 true false [.slice c.next 0 1])) 1 (.slice x.next 0 1)=some (1,[.slice c.next 0 1]):=mc (k:=0) rfl;have n8:(x.new (.cells 53 1 true false [.slice c.next 0 1])).next=x.next+1:=rfl;generalize x.new (.cells 53 1 true false [.slice c.next 0 1])=T at*;have D9:Dw (λz=>F z\/Loc vl z\/z=h'.next\/z=c.next) G T L.lu L.gK L.iK {t with s:=s} R:=D8.more (λ_ h=> .inl h) λz b=>b.elim .inl λb=> .inr (by
     have aH:h.next<z/\z<T.next:=by
       rcases b with b|rfl|rfl
       ·exact⟨P z b,(ak.sm b).2.1⟩
       ·omega
       ·omega
     have h9:=fresh z (by omega);exact⟨aH.2,h9.2.2,h9.2.1⟩)
   have sl:iB eN (λz=>F z\/Loc vl z\/z=h'.next\/z=c.next) T l vl:=ak.TK (λ_ h=> .inl h) λ_ h=> .inr (.inl h)
   have ss:iB eN (λz=>F z\/Loc vl z\/z=h'.next\/z=c.next) T [t.s.known.getLastD 0] (.slice h'.next 0 1):=
     .inr ⟨h'.next,0,3,true,false,[V.I (t.s.known.getLastD 0:Nat)],rfl,.inr (.inr (.inl rfl)),aF,.inr rfl,EL _,⟨_,[],rfl,rfl,trivial⟩⟩
   have sf:iB eF (λz=>F z\/Loc vl z\/z=h'.next\/z=c.next) T [⟨1,(t.s.ef.length:Nat),l,[t.s.known.getLastD 0]⟩] (.slice c.next 0 1):=
     .inr ⟨c.next,0,50,true,false,[.I 1,.I (t.s.ef.length:Nat),vl,.slice h'.next 0 1],rfl,.inr (.inr (.inr rfl)),g8,.inr rfl,EL _,⟨_,[],rfl,⟨vl,_,rfl,sl,ss⟩,trivial⟩⟩
   obtain⟨v',h9,al,b1,b2,b3,b4,k9,N⟩:=D9.WW (ys:=[[⟨1,(t.s.ef.length:Nat),l,[t.s.known.getLastD 0]⟩]]) aG ⟨[.slice c.next 0 1],[],rfl,⟨_,rfl,sf⟩,trivial⟩ rfl rfl (by simp) (by show s.ef.length+_<_;rw[A];simp;omega);have aI:fh 53 1 24 R.vs (.slice x.next 0 1) T=some (.val v' h9):=b1;have lS:=N.os.len;have aJ:((s.ef++[[(⟨1,(t.s.ef.length:Nat),l,[t.s.known.getLastD 0]⟩:Fm)]]).length:Nat)=t.s.ef.length+1:=by rw[A];simp
   have aK:fJ v' = some (.I ((t.s.ef.length+1:Nat):Int)):=by rw[<-aJ];exact lS
   have w2:jw .i64 (((t.s.ef.length+1:Nat):Int)-1)=(t.s.ef.length:Nat):=HR (by omega);simp only[aI,eh,b3,N.Xt,gQ,aK,hZ,w2];have J:Kp F G h' al:=(((k5.trans k6 λ_ h=>h).trans k7 λ_ h=>h).trans k8 λ_ h=>h).trans ⟨k9.next,λz b=>k9.eC z (b.imp (λh=> .inl h) id)⟩ λ_ h=>h;have qG:Dq F G h' L ops _ R:={j with D:=Z j,gl:=q.gl}
   have hE:({t with s:=(fi ops t.s).2}:Dt) = {t with s:={s with ef:=s.ef++[[⟨1,(t.s.ef.length:Nat),l,[t.s.known.getLastD 0]⟩]]} }:=by
     unfold fi;rw[e1,A,e2];rfl
   have aL:=qG.step J N (λ_ h=> .inl h) q.gl j.hq rfl;refine H (λz=>F z\/Loc vl z\/z=h'.next\/z=c.next) al {R with vs:=v'} (λ_ h=> .inl h) (k'.trans (J.gm _) λ_ h=>h) ?_ rfl;rw[hE];exact aL
end
open Un
theorem SS{t:Nat}{k:IntKind}{a b:Int}{A B:Prop}(h:if a<b then A else B):oP (ej .lss t (.int k a) (.int k b)) λv=>bP v A B:=by
 simp_all
theorem gP{t:Nat}{k:IntKind}{a b:Int}{A B:Prop}(h:if a=b then A else B):oP (ej .eql t (.int k a) (.int k b)) λv=>bP v A B:=by
 simp_all
theorem Ky{t:Nat}{k:IntKind}{a b:Int}{A B:Prop}(h:if b<a then A else B):oP (ej .gtr t (.int k a) (.int k b)) λv=>bP v A B:=by
 simp_all
theorem iE{t n m:Nat}{K:V->Prop}(a:n<1000000000)(b:m<1000000000)(H:K (.I ((n+m:Nat):Int))):oP (ej .add t (.I n) (.I m)) K:=by
 grind[G7,Xa,gQ]
theorem sL{t n:Nat}{K:V->Prop}(a:n<1000000000)(h0:0<n)(H:K (.I ((n-1:Nat):Int))):oP (ej .sub t (.I n) (.I 1)) K:=by
 obtain⟨m,rfl⟩:∃m,n=m+1:=by simp_all
 grind[hZ,HR,gQ]
theorem hV{c A B:Prop}[Decidable c] (hc:c)(h:A):if c then A else B:=by simp_all
theorem gJ{c A B:Prop}[Decidable c] (hc:¬c)(h:B):if c then A else B:=by simp_all
theorem gv{t n:Nat}{K:V->Prop}(H:K (.I ((n+1:Nat):Int)))(h:n<1000000000:=by omega):oP (ej .add t (.I n) (.I 1)) K:=iE (m:=1) h (by decide) H
theorem ij{t:Nat}{k:IntKind}{a b:Int}{A B:Prop}(H:A)(h:a<b:=by omega):oP (ej .lss t (.int k a) (.int k b)) λv=>bP v A B:=SS (hV h H)
theorem jZ{t:Nat}{k:IntKind}{a b:Int}{A B:Prop}(H:B)(h:¬a<b:=by omega):oP (ej .lss t (.int k a) (.int k b)) λv=>bP v A B:=SS (gJ h H)
section
variable{F F' G G':Nat->Prop}{h h':Hp}{L:Lc}{ops:List Int}{t t':Dt}{R R':Rw}{Q:fu}
theorem En{α:Type}{l:List α}{x:α}{n:Nat}(h:l.length<=n):(l++[x]).length<=n+1:=by simp_all
structure Sm (s:Ds) (n:Nat):Prop where
 v:s.ee.length<=n
 c:s.cur.length<=n
 k:s.known.length<=n
 st:s.ef.length<=n
 k0:0<s.known.length
theorem Sm.le{s:Ds}{n m:Nat}(a:Sm s n)(h:n<=m):Sm s m:=⟨DE a.v h,DE a.c h,DE a.k h,DE a.st h,a.k0⟩
theorem Sm.put{s:Ds}{n:Nat}(a:Sm s n)(x:Vl):Sm (put s x) (n+1):=
 ⟨En a.v,En a.c,QQ a.k,QQ a.st,a.k0⟩
theorem Sm.gR{s:Ds}{n:Nat}(a:Sm s n)(x:Vl):Sm (gR s x) (n+1):=
 ⟨En a.v,En a.c,
  En a.k,QQ a.st,by show 0<(s.known++[s.ee.length]).length;simp_all⟩
theorem Sm.pos{s:Ds}{n:Nat}(a:Sm s n)(p:Nat):Sm {s with pos:=p} n:=⟨a.v,a.c,a.k,a.st,a.k0⟩
theorem Sm.state{s:Ds}{n:Nat}(a:Sm s n)(ops:List Int):Sm (fi ops s).2 (n+1):=by
 have b:∃p,(some_ ops (num ops s 4).1 (num ops s 4).2 []).2 = {s with pos:=p}:=by
  obtain⟨p,h⟩:=Aa ops (num ops s 4).1 (num ops s 4).2 [];exact⟨p,h⟩
 obtain⟨p,b⟩:=b;unfold fi;simp only[b];exact⟨QQ a.v,QQ a.c,QQ a.k,En a.st,a.k0⟩
theorem RR(q:Dq F G h L ops t R){n a:Nat}(m:Sm t.s n)(p:n<1000){K:Hp->Prop}
  (H:∀h' R',Kp F G h h'->Dq F G h' L ops {t with s:={t.s with known:=t.s.known++[a]} } R'->K h') :
  uY (jm 3 1 1 (V.I 0) [(0,.I a)]) h λo c b=>((b.get h.next=some o/\O.beq o o=true)/\(er (.ptr L.gK 0) b=some R.vk/\fj (fh 3 1 8 R.vk c b) λd e=>(b.next<=e.next/\fj (gU 1 (.ptr L.gK 0) d e) λ_ g=>(e.next<=g.next/\K g)))):=by
 have r:jm 3 1 1 (V.I 0) [(0,V.I a)]=some (.cells 3 1 true false [V.I a],λl=> .slice l 0 1):=rfl;rw[r,hN];have i:=q.D.grow (ki.new h (.cells 3 1 true false [V.I a]));have u:jX (h.new (.cells 3 1 true false [V.I a])) 1 (.slice h.next 0 1)=some (1,[V.I a]):=mc (k:=0) rfl;obtain⟨v,w,E,x,y,z,A,B,C⟩:=i.Tt (ys:=[a]) u ⟨[V.I a],[],rfl,rfl,trivial⟩ rfl rfl (by simp) (by have:=m.k;simp;omega);have f:fh 3 1 8 R.vk (.slice h.next 0 1) (h.new (.cells 3 1 true false [V.I a]))=some (.val v w):=x;refine⟨by grind[ey,O.ie],i.vC,?_⟩;simp only[f,eh,z];have j:=(q.D.uv (.cells 3 1 true false [V.I a])).trans B λ_ h=>h;exact⟨y,A,H _ _ j (q.step j C (by simp_all) q.gl q.hq rfl)⟩
theorem AH{x:Vl}{w:List V}(q:Dq F G h L ops t R){n:Nat}(b:Sm t.s n)(p:n<999)(r:eV.rel F h x w){K:Hp->Prop}
  (H:∀h' R',Kp F G h h'->Dq F G h' L ops {t with s:=gR t.s x} R'->K h') :
  cP CS eQ [.agg w,.ptr L.lu 0,.ptr L.iK 0] h λd e=>(h.next<=e.next/\uY (jm 3 1 1 (V.I 0) [(0,d)]) e λo f a=>((a.get e.next=some o/\O.beq o o=true)/\(er (.ptr L.gK 0) a=some R.vk/\fj (fh 3 1 8 R.vk f a) λg i=>(a.next<=i.next/\fj (gU 1 (.ptr L.gK 0) g i) λ_ m=>(i.next<=m.next/\K m))))):=by
 have E:=b.v;have hc:=b.c;refine LQ q.D q.hq r (by omega) (by omega) λu R1 j y k l=>⟨j.next,?_⟩
 have z:Dq F G u L ops {t with s:=put t.s x} R1:=q.step j y (by simp_all) q.gl k rfl;rw[<-l];exact RR z (b.put x) (by omega) λA R2 B C=>H A R2 (j.trans B λ_ h=>h) C
theorem Ci{x:Vl}{w:List V}(q:Dq F G h L ops t R){n:Nat}(d:Sm t.s n)(f:n<999)(g:eV.rel F h x w){K:fu}
  (H:∀h' R',Kp F G h h'->R'.vk=R.vk->Dq F G h' L ops {t with s:=put t.s x} R'->K (.I t.s.ee.length) h'):cP CS eQ [.agg w,.ptr L.lu 0,.ptr L.iK 0] h K:=by
 have k:=d.v;have hc:=d.c;exact LQ q.D q.hq g (by omega) (by omega) λi R1 e j a b=>H i R1 e b (q.step e j (by simp_all) q.gl a rfl)
theorem Gc(q:Dq F G h L ops t R)(c:ops.length<9223372036854775808){n:Nat}(a:Sm t.s n)(d:n<1000){K:fu}
  (H:∀h' l o,Kp F (gm G L.lE) h h'->Dq F G h' L ops {t with s:=(fm ops t.s).2} R->l<h'.next->gM 1 R.vk (.I ((draw ops t.s.pos t.s.known.length).1:Nat))=some (.ptr l o)->er (.ptr l o) h' = some (.I ((fm ops t.s).1:Nat))->K (.I ((draw ops t.s.pos t.s.known.length).1:Nat)) h') :
  cP CS eD [.I t.s.known.length,.ptr L.lE 0,.ptr L.lr 0] h K:=by
 refine sJ q a.k0 (by have:=a.k;omega) c λe f b=>?_;obtain⟨l,o,g,_,j,m⟩:=b.AU (i:=(draw ops t.s.pos t.s.known.length).1) (sI _ _ a.k0);exact H e l o f b g j m
theorem TE{b:Bk}{nv:V}(q:Dq F G h L ops t R){n:Nat}(hn:t.blocks.length<1000)(K:b.ee=[])(M:b.fk=[])(a:iB eN F h b.next nv)
  (H:∀F' h' R',(∀l,F l->F' l)->Kp F G h h'->Dq F' G h' L ops {s:={t.s with cur:=[]},blocks:=t.blocks++[⟨t.s.cur,b.fin,b.cond,b.next,t.fk,b.state⟩],fk:=[]} R'->Q (.I t.blocks.length) h') :
  cP CS jh [.agg (kJ b .ed nv .ed),.ptr L.iK 0,.ptr L.lu 0] h Q:=by
 refine yz rfl rfl ?_;unfold qB;have o1:fZ (kJ b .ed nv .ed)=true:=by simp only[kJ,eR,a.one];rfl
 have N:∀l,G l->l<h.next:=λl e=>(q.D.gx l e).1;have O:∀i l,comp L.lu L.gK L.iK R i l->l<h.next:=λi l e=>(q.D.sig e).2.1;have fresh:∀l,h.next<=l->¬F l/\¬G l/\∀i,¬comp L.lu L.gK L.iK R i l:=λl e=>⟨λP=>by have:=q.D.fl l P;omega,by grind,by grind⟩
 have u:=q.D.grow (ki.new h (.cells 44 1 true false (kJ b .ed nv .ed)));have T:=q.D.uv (.cells 44 1 true false (kJ b .ed nv .ed));have U:(h.new (.cells 44 1 true false (kJ b .ed nv .ed))).get h.next=_:=ey _ _;have f:h.next<(h.new (.cells 44 1 true false (kJ b .ed nv .ed))).next:=JI _;simp only[A0 o1,fF,fM,gQ,Dr,QW,u.XD];generalize h.new (.cells 44 1 true false (kJ b .ed nv .ed))=w at*;have e2:=lK (o:=0) (v:=R.cc) (lU:=kJ b R.cc nv .ed) U (by simp[kJ]) (by rw[q.hq];exact q.D.oc.one) rfl;obtain⟨x,W⟩:=u.other (ki.put (S:=λz=>z=h.next) (.cells 44 1 true false (kJ b R.cc nv .ed)) rfl f) (by simp_all);have X:=fG (.cells 44 1 true false (kJ b R.cc nv .ed)) f;have y:h.next<(w.put h.next (.cells 44 1 true false (kJ b R.cc nv .ed))).next:=f;simp only[e2,eh,x.YE,gQ];generalize w.put h.next (.cells 44 1 true false (kJ b R.cc nv .ed))=Y at*;have Z:=lK (o:=4) (v:=R.vp) (lU:=kJ b R.cc nv R.vp) X (by simp[kJ]) q.D.sp.one rfl;obtain⟨g,k3⟩:=x.other (ki.put (S:=λz=>z=h.next) (.cells 44 1 true false (kJ b R.cc nv R.vp)) rfl y) (by simp_all);have g3:=fG (.cells 44 1 true false (kJ b R.cc nv R.vp)) y;simp only[Z,eh,g.Q3,gQ];generalize Y.put h.next (.cells 44 1 true false (kJ b R.cc nv R.vp))=d at*;have A:fZ (kJ b R.cc nv R.vp)=true:=by simp only[kJ,eR,a.one,q.hq,q.D.oc.one,q.D.sp.one];rfl
 have lA:hH 6 (.ptr h.next 0) d=some (.agg (kJ b R.cc nv R.vp)):=xK g3 rfl;have e4:jm 44 6 1 (V.agg [V.ed,(V.I 0),(V.I 0),V.ed,V.ed,(V.I 0)]) [(0,.agg (kJ b R.cc nv R.vp))]=some (.cells 44 6 true false (kJ b R.cc nv R.vp),λl=> .slice l 0 1):=Fi rfl rfl A;simp only[lA,gQ,e4,fF];have B:=g.grow (ki.new d (.cells 44 6 true false (kJ b R.cc nv R.vp)));have k4:=g.uv (.cells 44 6 true false (kJ b R.cc nv R.vp));have j:jX (d.new (.cells 44 6 true false (kJ b R.cc nv R.vp))) 6 (.slice d.next 0 1)=some (1,kJ b R.cc nv R.vp):=mc (k:=0) rfl;have C:Kp F G h (d.new (.cells 44 6 true false (kJ b R.cc nv R.vp))):=((T.trans W λ_ h=>h).trans k3 λ_ h=>h).trans k4 λ_ h=>h;generalize d.new (.cells 44 6 true false (kJ b R.cc nv R.vp))=E at*;obtain⟨sc,D5⟩:=B.flush
 have hw:eK.rel (UC F R.vc) E ⟨t.s.cur,b.fin,b.cond,b.next,t.fk,b.state⟩ (kJ b R.cc nv R.vp):=
  ⟨R.cc,nv,R.vp,rfl,by rw[q.hq];exact sc,(a.eC λl e=>C.eC l (.inl e)).mono λ_ h=> .inl h,B.sp.mono λ_ h=> .inl h⟩
 obtain ⟨I,h5,h6,a1,a2,a3,a4,k6,J⟩:=D5.W5 (ys:=[⟨t.s.cur,b.fin,b.cond,b.next,t.fk,b.state⟩]) j ⟨kJ b R.cc nv R.vp,[],by simp,hw,trivial⟩ rfl A (by simp) (by simp;omega);have m:fh 44 6 96 R.vb (.slice d.next 0 1) E=some (.val I h5):=a1;have e7:fH [V.ed,(V.I 0),(V.I 0),V.ed,V.ed,(V.I 0)] [(0,1),(1,1),(2,1),(3,1),(4,1),(5,1)] []=some (.agg [.ed,.I 0,.I 0,.ed,.ed,.I 0]):=rfl;have e8:=AP (n:=6) (ws:=[.ed,.I 0,.I 0,.ed,.ed,.I 0]) J.gb rfl rfl rfl;obtain⟨k7,r⟩:=J.Ta (c:= .ed) (p:= .ed) (ps:=[]) .nil;have lb:fJ I=some (.I ((t.blocks.length+1:Nat):Int)):=by
  have:=r.ob.len;simpa using this
 simp only[m,eh,a3,e7,gQ,e8,r.Q3,lb,hZ,HR (n:=t.blocks.length) (by omega)];have kb:=(C.trans (F':=UC F R.vc) k6 λ_ h=> .inl h).trans (F':=UC F R.vc) k7 λ_ h=> .inl h;exact H (UC F R.vc) _ _ (λ_ h=> .inl h) kb (q.step kb r (λ_ h=> .inl h) q.gl rfl rfl)
end
