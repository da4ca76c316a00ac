/- Parts. -/
import Derived.Test.YtcoaokdoecgcbaaGreatDoorM18
import Derived.Test.YtcoaokdoecgcbaaGreatDoorM15
set_option maxHeartbeats 4000000
namespace Go.Proofs.YtcoaokdoecgcbaaGreatDoor.Hx
open Un
variable{A B:Prop}{w:List V}{K:V->Prop}{a:Int}{s:Ds}{x:Vl}
theorem Lm{e:Nat}(a:gj w=true):mO e (.agg w)=some (.cells e 1 true false w,λl=> .ptr l 0):=by
 unfold mO
 grind[zK,gj,V.cells]
theorem Fk{e sz:Nat}{z:List V}(b:z.length=sz)(a:w.length=sz)(c:gj w=true):iW e sz 1 (.agg z) [(0,.agg w)]=some (.cells e sz true false w,λl=> .slice l 0 1):=by
 unfold iW;have hs:ta (Nat.mul 0 sz) (CM 1 (V.agg z).cells) (V.agg w).cells=some w:=by
  show ta (0*sz) (z++[]) w=some w;rw[Nat.zero_mul,GA,Db (by omega),List.take_zero,QX,wBa (by omega),GA]
 simp[xz,fe];rw[zK _ (by rw[show(V.agg w).cells=w from rfl,a];simp_all)]
 simp_all
theorem Rc{n:Nat}(h:n<1000000000):jo .i64 (((n+1:Nat):Int)-1)=(n:Nat):=by
 grind[gK,mR]
theorem zgx{n k:Nat}(h:n<1000000000)(a:k<1000000000):jo .i64 (((n:Nat):Int)+(k:Nat))=((n+k:Nat):Int):=by
 grind[gK,mR]
theorem zfy{n:Nat}(h:n<1000000000):jo .i64 (((n:Nat):Int)+1)=((n+1:Nat):Int):=by
 grind[gK,mR]
theorem zbA(t:Nat)(k:IntKind)(a b:Int)(d:b≠0):eh .rem t (.int k a) (.int k b)=some (.int k (a.tmod b)):=by
 have c:hint .rem k a b=some (.int k (a.tmod b)):=by
  cases b with
  | ofNat n=>cases n with
    |zero=>simp_all
    |succ n=>rfl
  |negSucc n=>rfl
 cases k <;> exact c
theorem Oc{n:Int}{m:Nat}{h:Hp}{Q:fo}(f:0<m)(d:m<=1000000000)(H:Q (.I (jD n m:Nat)) h):cP CS iR [.I n,.I m] h Q:=by
 refine GJ ?_;have g : -(m:Int)<n.tmod m:=by
  have:=Int.tmod_lt_of_pos (-n) (b:=(m:Int)) (by omega);rw[Int.neg_tmod]at this;omega
 simp[zbA _ _ _ (m:Int) (by omega),gz];unfold jD at H;split
 ·rename_i a;rw[if_pos a]at H;have e:jo .i64 (n.tmod m+m)=n.tmod m+m:=by grind[gK,mR]
  simp[ e];refine vR ?_;unfold mc;rw[Int.toNat_of_nonneg (by omega)]at H;exact H
 ·rename_i c;rw[if_neg c]at H;refine vR ?_;unfold mc;rw[Int.toNat_of_nonneg (by omega)]at H;exact H
section
variable{F G:Nat->Prop}{h:Hp}{lu im jL:Nat}{t:Dt}{R:Rw}{Q:fo}
theorem Dw.ZX(D:Dw F G h lu im jL t R):eD (.ptr lu 2) h=some R.vv:=kH D.gu rfl
theorem Dw.ldB(D:Dw F G h lu im jL t R):eD (.ptr lu 3) h=some R.vb:=kH D.gu rfl
theorem Dw.ldS(D:Dw F G h lu im jL t R):eD (.ptr lu 4) h=some R.vs:=kH D.gu rfl
theorem Dw.AW(D:Dw F G h lu im jL t R):eD (.ptr im 0) h=some R.vk:=kH D.gk rfl
theorem Dw.ldC(D:Dw F G h lu im jL t R):eD (.ptr jL 0) h=some R.cc:=kH D.gb rfl
theorem Dw.ldP(D:Dw F G h lu im jL t R):eD (.ptr jL 4) h=some R.vp:=kH D.gb rfl
theorem Wj(D:Dw F G h lu im jL t R)(hq:R.cc=R.vc)(d:eV.rel F h x w)(hv:t.s.ee.length<1000)(hc:t.s.cur.length<1000)
  (H:∀h' R',Kp F G h h'->Dw F G h' lu im jL {t with s:=put t.s x} R'->R'.cc=R'.vc->R'.vk=R.vk->Q (.I t.s.ee.length) h') :
  cP CS fF [.agg w,.ptr lu 0,.ptr jL 0] h Q:=by
 refine Fi ?_;have a:=eV.one d;have b:w.length=6:=eV.len d;have e:=D.grow (mr.new h (.cells 81 1 true false w));have n:=D.zR (.cells 81 1 true false w);have e1:gi 6 (.ptr h.next 0) (h.new (.cells 81 1 true false w))=some (.agg w):=A6 (eQ _ _) b;have e2:iW 81 6 1 (V.agg [(V.I 0),(V.I 0),(V.I 0),(V.I 0),V.ed,(V.I 0)]) [(0,.agg w)]=some (.cells 81 6 true false w,λl=> .slice l 0 1):=Fk rfl b a;simp only[Lm a,fH,fx,gz,e.ZX,e1,e2];generalize q:h.new (.cells 81 1 true false w)=f at*;have r:=e.grow (mr.new f (.cells 81 6 true false w));have o:=e.zR (.cells 81 6 true false w);have g:=eV.fm (λl hl=>(n.trans o λ_ h=>h).fm l (.inl hl)) d;have i:lT (f.new (.cells 81 6 true false w)) 6 (.slice f.next 0 1)=some (1,w):=by grind[oI]
 let⟨v',J,j,u,K,v,L,y,D4⟩:=r.zgO (ys:=[x]) i ⟨w,[],by simp,g,trivial⟩ (by omega) a (by simp) (by simp;omega)
 have lc:((t.s.ee++[x]).length:Nat)=t.s.ee.length+1:=by simp
 have lv:=D4.ov.len;simp only[lc]at lv;simp only[u,ef,v,D4.ldC,D4.ZX,gz,lv,iI];have p:jo .i64 (((t.s.ee.length+1:Nat):Int)-1)=(t.s.ee.length:Nat):=Rc (by omega);have z:iW 3 1 1 (V.I 0) [(0,V.I t.s.ee.length)]=some (.cells 3 1 true false [V.I t.s.ee.length],λl=> .slice l 0 1):=rfl;simp only[p,z,fH,hq];have A:=D4.grow (mr.new j (.cells 3 1 true false [V.I t.s.ee.length]));have B:=D4.zR (.cells 3 1 true false [V.I t.s.ee.length]);have k:lT (j.new (.cells 3 1 true false [V.I t.s.ee.length])) 1 (.slice j.next 0 1)=some (1,[V.I t.s.ee.length]):=oI rfl
 let⟨M,N,O,C,P,E,S,I,D7⟩:=A.zgP (ys:=[t.s.ee.length]) k ⟨[V.I t.s.ee.length],[],rfl,rfl,trivial⟩ rfl rfl (by simp) (by simp;omega)
 have c:=D7.ov.len;simp only[lc]at c;have m:=C;simp only[m,ef,E,D7.ZX,gz,c,iI,p];exact H _ _ ((((n.trans o λ_ h=>h).trans y λ_ h=>h).trans B λ_ h=>h).trans I λ_ h=>h) D7 rfl rfl
structure Lc where
 lr:Nat
 lu:Nat
 im:Nat
 jL:Nat
 Aj:Nat
 pb:Nat
 rz:Nat
 Qq:Nat
def zeg(L:Lc):V:= .func fF [] [.ptr L.lu 0,.ptr L.jL 0]
def X7(L:Lc):V:= .func ft [] [.ptr L.pb 0,.ptr L.lr 0]
def WW(L:Lc):V:= .func gh [] [.ptr L.lu 0,.ptr L.rz 0,.ptr L.im 0]
structure Dq (F G:Nat->Prop) (h:Hp) (L:Lc) (ops:List Int) (t:Dt) (R:Rw):Prop where
 D:Dw F G h L.lu L.im L.jL t R
 hq:R.cc=R.vc
 gl:G L.pb
 ga:h.get L.pb=some (.cells fJ 1 true false [.I t.s.pos])
 fr:F L.lr
 gr:∃a vs n,h.get L.lr=some (.cells Vb 1 true false [a,vs,n])/\iD (eI .i64) F h ops a
 fp:F L.Aj
 gp:∃e,h.get L.Aj=some (.cells e 1 true false [zeg L])
 fn:F L.rz
 gn:∃e,h.get L.rz=some (.cells e 1 true false [X7 L])
 fs:F L.Qq
 gs:∃e,h.get L.Qq=some (.cells e 1 true false [WW L])
variable{F' G':Nat->Prop}{h':Hp}{L:Lc}{ops:List Int}{t':Dt}{R':Rw}
theorem Dq.zdS(q:Dq F G h L ops t R)(k:∀l,F l->h'.get l=h.get l) (D':Dw F' G' h' L.lu L.im L.jL t' R')(a:∀l,F l->F' l) (b:R'.cc=R'.vc)(c:G' L.pb)(d:h'.get L.pb=some (.cells fJ 1 true false [.I t'.s.pos])):Dq F' G' h' L ops t' R' where
 D:=D'
 hq:=b
 gl:=c
 ga:=d
 fr:=a _ q.fr
 gr:=by
  let⟨vo,vs,n,e,f⟩:=q.gr
  exact⟨vo,vs,n,by rw[k _ q.fr];exact e,(f.fm k).mono a⟩
 fp:=a _ q.fp
 gp:=by rw[k _ q.fp];exact q.gp
 fn:=a _ q.fn
 gn:=by rw[k _ q.fn];exact q.gn
 fs:=a _ q.fs
 gs:=by rw[k _ q.fs];exact q.gs
theorem Dq.step(q:Dq F G h L ops t R)(k:Kp F G h h') (D':Dw F' G' h' L.lu L.im L.jL t' R')(b:∀l,F l->F' l)(c:G' L.pb) (a:R'.cc=R'.vc)(hp:t'.s.pos=t.s.pos):Dq F' G' h' L ops t' R':=
 q.zdS (λl hl=>k.fm l (.inl hl)) D' b a c (by rw[k.fm _ (.inr q.gl),hp];exact q.ga)
theorem Dq.qL(q:Dq F G h L ops t R):eD (.ptr L.Aj 0) h=some (zeg L):=by let⟨e,hg⟩:=q.gp;exact kH hg rfl
theorem Dq.wX(q:Dq F G h L ops t R):eD (.ptr L.rz 0) h=some (X7 L):=by let⟨e,hg⟩:=q.gn;exact kH hg rfl
theorem Dq.Lu(q:Dq F G h L ops t R):eD (.ptr L.Qq 0) h=some (WW L):=by let⟨e,hg⟩:=q.gs;exact kH hg rfl
theorem Dq.IL(q:Dq F G h L ops t R){i:Nat}(hi:i<t.s.known.length):∃l o,l<h.next/\(F l\/Loc R.vk l)/\gQ 1 R.vk (.I i)=some (.ptr l o)/\eD (.ptr l o) h=some (.I (t.s.known.getD i 0:Nat)):=by
 let⟨l,o,u,hl,a,b,c⟩:=q.D.ok.read.Yk hi .i64 rfl
 refine⟨l,o,hl.elim (q.D.fl l) λh=>(q.D.ok.y6 h).2.1,hl,a,?_⟩;rw[b];have:[u]=[V.I (t.s.known[i]:Nat)]:=c;rw[Dz,hN hi];simpa using this
theorem Dw.zaK{lu im jL:Nat}(D:Dw F G h lu im jL t R)(a:∀l,G' l->G l\/(l<h.next/\¬F l/\∀i,¬comp lu im jL R i l)):Dw F G' h lu im jL t R:=
 {D with gx:=λl hl=>(a l hl).elim (D.gx l) id}
def gm(G:Nat->Prop)(a:Nat):Nat->Prop:=λl=>G l/\l≠a
theorem Kp.gm(k:Kp F G h h')(a:Nat):Kp F (Hx.gm G a) h h':=⟨k.next,λl hl=>k.fm l (hl.imp id λh=>h.1)⟩
def setPos(t:Dt)(p:Nat):Dt:={t with s:={t.s with pos:=p} }
theorem yh{m:Nat}(q:Dq F G h L ops t R)(f:0<m)(g:m<=100000000)(B:ops.length<9223372036854775808)
  (H:∀h',Kp F (gm G L.pb) h h'->Dq F G h' L ops (setPos t (draw ops t.s.pos m).2) R->Q (.I ((draw ops t.s.pos m).1:Nat)) h') :
  cP CS ft [.I m,.ptr L.pb 0,.ptr L.lr 0] h Q:=by
 refine Fb ?_
 let⟨vo,vs,n,gr,so⟩:=q.gr
 have j:eD (.ptr L.pb 0) h=some (.I t.s.pos):=kH q.ga rfl;have k:eD (.ptr L.lr 0) h=some vo:=kH gr rfl;simp[j,gz,k,so.len];have a:=q.D.gx _ q.gl;split
 ·rename_i p;have e:draw ops t.s.pos m=(0,t.s.pos):=by
   unfold draw;rw[ZR (by omega)]
  rw[e]at H;exact H h (Kp.refl _ _ _) q
 ·rename_i b;have b:t.s.pos<ops.length:=by omega
  have e:draw ops t.s.pos m=(jD ops[t.s.pos] m,t.s.pos+1):=by
   unfold draw;rw[hN b]
  rw[e]at H;have w1:jo .i64 ((t.s.pos:Int)+1)=((t.s.pos+1:Nat):Int):=by rw[gK (by simp[mR];omega)];omega
  have e1:=po (o:=0) (qF:=[.I ((t.s.pos+1:Nat):Int)]) q.ga (by simp) rfl rfl;have hc:mr (λl=>l=L.pb) h (h.put L.pb (.cells fJ 1 true false [.I ((t.s.pos+1:Nat):Int)])):=mr.put _ rfl a.1;have c:∀l,F l->(h.put L.pb (.cells fJ 1 true false [.I ((t.s.pos+1:Nat):Int)])).get l=h.get l:=λl hl=>gq _ a.1 λe=>a.2.1 (e▸hl);have r:eD (.ptr L.lr 0) (h.put L.pb (.cells fJ 1 true false [.I ((t.s.pos+1:Nat):Int)]))=some vo:=kH (by rw[c _ q.fr];exact gr) rfl;have v:eD (.ptr L.pb 0) (h.put L.pb (.cells fJ 1 true false [.I ((t.s.pos+1:Nat):Int)]))=some (.I ((t.s.pos+1:Nat):Int)):=kH (fY _ a.1) rfl;have w2:jo .i64 (((t.s.pos+1:Nat):Int)-1)=(t.s.pos:Nat):=by rw[gK (by simp[mR];omega)];omega
  let⟨l,o,u,_,w,x,y⟩:=(so.fm c).Yk b .i64 rfl
  obtain⟨rfl⟩:u = .I ops[t.s.pos]:=by simpa using y.1
  simp only[ w1,gz,e1,ef,r,v,iI,w2,w,x];refine Oc f (by omega) (H _ ⟨hc.next,λl hl=>hl.elim (c l) λhl=>gq _ a.1 λe=>hl.2 e.symm⟩ ?_);have z:Dw F (gm G L.pb) h L.lu L.im L.jL t R:={q.D with gx:=λl hl=>q.D.gx l hl.1}
  have D':=(z.other hc λl hl=>by subst hl;exact⟨a.2.1,λA=>A.2 rfl,a.2.2⟩).1;refine q.zdS c ?_ (λ_ h=>h) q.hq q.gl (fY _ a.1);have d:∀l,G l->_:=λl hl=>if e:l=L.pb then e▸(⟨a.1,a.2.1,a.2.2⟩:_/\_/\∀i,¬comp L.lu L.im L.jL R i L.pb) else D'.gx l ⟨hl,e⟩
  exact{D' with gx:=d}
def gp(G:Nat->Prop)(v:V)(p:Nat):Nat->Prop:=λl=>G l\/l=p\/Loc v l
theorem Cv(l:List Nat)(h:0<l.length):l.getD (l.length-1) 0=l.getLastD 0:=by
 rw[List.getLastD_eq_getLast?,List.getLast?_eq_getElem?,Dz]
theorem OJ(q:Dq F G h L ops t R)(hk:0<t.s.known.length)(aM:t.s.known.length<1000)(hs:t.s.ez.length<1000)(ho:ops.length<9223372036854775808)
  (H:∀F' h' R',(∀l,F l->F' l)->Kp F (gm G L.pb) h h'->Dq F' G h' L ops {t with s:=(fI ops t.s).2} R'->R'.vk=R.vk->Q (.I ((fI ops t.s).1:Nat)) h') :
  cP CS gh [.ptr L.lu 0,.ptr L.rz 0,.ptr L.im 0] h Q:=by
 refine FJ ?_;have aL:=(q.D.gx _ q.gl).1;have al:∀l,G l->l<h.next:=λl hl=>(q.D.gx l hl).1;have am:∀i l,comp L.lu L.im L.jL R i l->l<h.next:=λi l hl=>(q.D.sig hl).2.1;have eb:fq [(V.I 0),(V.I 0),V.ed,V.ed] [(0,1),(1,1),(2,1),(3,1)] [(0,(V.I 1)),(1,.I t.s.ez.length)]=some (.agg [.I 1,.I t.s.ez.length,.ed,.ed]):=rfl;have T:(h.new (.cells 85 1 true false [(V.I 0),(V.I 0),V.ed,V.ed])).get h.next=some (.cells 85 1 true false [(V.I 0),(V.I 0),V.ed,V.ed]):=eQ _ _;have e1:=Iy (n:=4) (ws:=[.I 1,.I t.s.ez.length,.ed,.ed]) T rfl rfl rfl;simp only[fx,gz,Gg,q.D.ldS,q.D.os.len,eb,fH,e1,ef];have J:h.next<(h.new (.cells 85 1 true false [(V.I 0),(V.I 0),V.ed,V.ed])).next:=Rz _
 have c2:mr (λl=>l=h.next) h ((h.new (.cells 85 1 true false [(V.I 0),(V.I 0),V.ed,V.ed])).put h.next (.cells 85 1 true false [.I 1,.I t.s.ez.length,.ed,.ed])):=
  (mr.new _ _).trans (mr.put _ rfl J)
 have g2:=fY (h:=h.new (.cells 85 1 true false [(V.I 0),(V.I 0),V.ed,V.ed])) (.cells 85 1 true false [.I 1,.I t.s.ez.length,.ed,.ed]) J;have n2:((h.new (.cells 85 1 true false [(V.I 0),(V.I 0),V.ed,V.ed])).put h.next (.cells 85 1 true false [.I 1,.I t.s.ez.length,.ed,.ed])).next=h.next+1:=rfl;generalize ((h.new (.cells 85 1 true false [(V.I 0),(V.I 0),V.ed,V.ed])).put h.next (.cells 85 1 true false [.I 1,.I t.s.ez.length,.ed,.ed]))=h2 at*;clear T e1 J;have fresh:∀l,h.next<=l->¬F l/\¬G l/\∀i,¬comp L.lu L.im L.jL R i l:=λl hl=>⟨λhf=>by have:=q.D.fl l hf;omega,λhg=>by have:=al l hg;omega,λi hi=>by have:=am i l hi;omega⟩
 obtain ⟨U,k2⟩:=q.D.other c2 (λl hl=>by subst hl;exact fresh _ (jj _));have W:Dw F (gp G .ed h.next) h2 L.lu L.im L.jL t R:=U.zaK λl hl=>hl.elim .inl λhl=> .inr (by
  rcases hl with rfl|hl
  ·exact⟨by omega,(fresh _ (jj _)).1,(fresh _ (jj _)).2.2⟩
  ·exact hl.elim)
 have q2:Dq F (gp G .ed h.next) h2 L ops t R:=q.step k2 W (λ_ h=>h) (.inl q.gl) q.hq rfl;rw[q2.wX];simp only[gz,X7,Kg,DX,QX,GA];refine yh (m:=4) q2 (by decide) (by decide) ho λx k3 q3=>?_;have g3:x.get h.next=some (.cells 85 1 true false [.I 1,.I t.s.ez.length,.ed,.ed]):=by
  rw[k3.fm _ (.inr ⟨.inr (.inl rfl),by omega⟩)];exact g2
 have hr:(draw ops t.s.pos 4).1<4:=wV _ _ (by decide)
 refine Bq (λk x0 x1 x2 x4 x5 h'=>∃(s:Ds) (l:List Nat) (vl:V),x0 = .ptr L.lu 0/\x1 = .ptr L.rz 0/\x2 = .ptr L.im 0/\x4 = .ptr h.next 0/\x5 = .I (k:Nat)/\Dq F (gp G vl h.next) h' L ops {t with s:=s} R/\Kp F (gm G L.pb) h h'/\
  h'.get h.next=some (.cells 85 1 true false [.I 1,.I t.s.ez.length,vl,.ed])/\lN eN fJ F h' l vl/\(∀z,Loc vl z->h.next<z)/\some_ ops k s l=some_ ops (draw ops t.s.pos 4).1 (num ops t.s 4).2 []/\s.known=t.s.known/\s.ez=t.s.ez/\l.length+k<=4) ?_
  ⟨(num ops t.s 4).2,[],.ed,rfl,rfl,rfl,rfl,rfl,q3,(k2.gm L.pb).trans ⟨k3.next,λl hl=>k3.fm l (hl.imp id λhl=>⟨.inl hl.1,hl.2⟩)⟩ (λ_ h=>h),g3,.nil,λ_ h=>h.elim,rfl,rfl,rfl,by simp;omega⟩
 clear q3 k3 g3 q2 W U k2 g2 c2 eb;rintro k x0 x1 x2 x4 x5 h' ⟨s,l,vl,rfl,rfl,rfl,rfl,rfl,g,k',gF,ol,N,j,p,y,hlen⟩;unfold nN;have an:eD (.ptr h.next 2) h' = some vl:=kH gF rfl;have kl:({t with s:=s}:Dt).s.known.length=t.s.known.length:=by show s.known.length=_;rw[p]
 have X:h.next<h'.next:=(g.D.gx h.next (.inr (.inl rfl))).1;have Y:∀{f:Hp} {s1:Ds},Dq F (gp G vl h.next) f L ops {t with s:=s1} R->Dw F G f L.lu L.im L.jL {t with s:=s1} R:=λq=>{q.D with gx:=λl hl=>q.D.gx l (.inl hl)}
 simp only[iT,gz,Z9,xX]
 cases k with
 | succ k=>
   rw[if_pos (by omega)];have Z:=g.D.ok.len;rw[kl]at Z;rw[g.wX];simp only[fx,gz,Gg,an,g.D.AW,Z,X7,Kg,DX,QX,GA];refine yh (m:=t.s.known.length) g hk (by omega) ho λf r E=>?_;have ao:f.get h.next=some (.cells 85 1 true false [.I 1,.I (t.s.ez.length:Nat),vl,.ed]):=by
     rw[r.fm _ (.inr ⟨.inr (.inl rfl),by omega⟩)];exact gF
   have aa:lN eN fJ F f l vl:=ol.fm (λz b=>r.fm z (.inl b)) (λz b=>r.fm z (.inr ⟨.inr (.inr b),by have:=N z b;omega⟩)) r.next;have aq:(draw ops s.pos t.s.known.length).1<t.s.known.length:=wV _ _ hk;obtain⟨l1,o1,ab,ac,i1,i2⟩:=E.IL (i:=(draw ops s.pos t.s.known.length).1) (by show _<s.known.length;rw[p];exact aq);have A:eD (.ptr l1 o1) f=some (.I (s.known.getD (draw ops s.pos t.s.known.length).1 0:Nat)):=i2;refine⟨r.next,?_⟩;have e3:∀a:Nat,iW 3 1 1 (V.I 0) [(0,V.I (a:Nat))]=some (.cells 3 1 true false [V.I (a:Nat)],λl=> .slice l 0 1):=λ_=>rfl;have ar:gQ 1 R.vk (.I ((draw ops ({t with s:=s}:Dt).s.pos t.s.known.length).1:Nat))=some (.ptr l1 o1):=i1;simp only[ar,A,gz,e3,gU];generalize hv:s.known.getD (draw ops s.pos t.s.known.length).1 0=a at*;have U:=(Y E).grow (mr.new f (.cells 3 1 true false [V.I (a:Nat)]));have ad:(f.new (.cells 3 1 true false [V.I (a:Nat)])).get h.next=_:=(eE _ (by have:=r.next;omega)).trans ao;refine⟨⟨eQ _ _,O.jT _ _ _ _ _⟩,gS A (eE _ ab),U.AW,kH ad rfl,?_⟩;have au:lN eN fJ F (f.new (.cells 3 1 true false [V.I (a:Nat)])) l vl:=aa.fm (λz b=>eE _ (E.D.fl z b)) (λz b=>eE _ (aa.y6 b).2.1) (Ql _);have hx:lT (f.new (.cells 3 1 true false [V.I (a:Nat)])) 1 (.slice f.next 0 1)=some (1,[V.I (a:Nat)]):=oI (k:=0) rfl;obtain⟨d,x,a1,ae,c3,aw⟩:=au.append (jh:=8) (ys:=[a]) hx ⟨[V.I (a:Nat)],[],rfl,rfl,trivial⟩ rfl rfl (by simp) (by decide) (λz b=>wBd (E.D.fl z b)) (by simp;omega) (by simp;omega);have n2:(f.new (.cells 3 1 true false [V.I (a:Nat)])).next=f.next+1:=rfl;have u:h.next<x.next:=by have:=c3.next;have:=r.next;omega
   have ax:x.get h.next=some (.cells 85 1 true false [.I 1,.I (t.s.ez.length:Nat),vl,.ed]):=by
     rw[c3.fm _ (by have:=r.next;omega) λb=>wBy _ (N _ b)];exact ad
   have a2:=po (o:=2) (v:=d) (qF:=[.I 1,.I (t.s.ez.length:Nat),d,.ed]) ax (by simp) ae.one rfl;have ay:fg 3 1 8 vl (.slice f.next 0 1) (f.new (.cells 3 1 true false [V.I (a:Nat)]))=some (.val d x):=a1;have w1:jo .i64 (((k+1:Nat):Int)-1)=(k:Nat):=Rc (by omega);simp only[ay,ef,a2,iI,w1,gz];refine⟨c3.next,jj _,k,by omega,?_⟩
   have cc:mr (λz=>Loc vl z\/z=h.next) (f.new (.cells 3 1 true false [V.I (a:Nat)])) (x.put h.next (.cells 85 1 true false [.I 1,.I (t.s.ez.length:Nat),d,.ed])):=
     (c3.zc3 λ_ _ h=> .inl h).trans (mr.put _ (.inr rfl) u)
   obtain⟨D4,k4⟩:=U.other cc λz b=>fresh z (by rcases b with b|rfl;exact Nat.le_of_lt (N z b);exact jj _);have K:∀z,Loc d z->h.next<z:=λz b=>(aw z b).elim (N z) λe=>by have:=r.next;omega
   have ag:lN eN fJ F (x.put h.next (.cells 85 1 true false [.I 1,.I (t.s.ez.length:Nat),d,.ed])) (l++[a]) d:=
     ae.fm (λz b=>gq _ u λe=>(fresh h.next (jj _)).1 (e▸b)) (λz b=>gq _ u (by have:=K z b;omega)) (jj _)
   have az:Dw F (gp G d h.next) (x.put h.next (.cells 85 1 true false [.I 1,.I (t.s.ez.length:Nat),d,.ed])) L.lu L.im L.jL _ R:=D4.zaK λz b=>b.elim .inl λb=> .inr (by
     rcases b with rfl|b
     ·exact⟨u,(fresh _ (jj _)).1,(fresh _ (jj _)).2.2⟩
     ·have B:=fresh z (Nat.le_of_lt (K z b));exact⟨(ag.y6 b).2.1,B.1,B.2.2⟩)
   have kk:Kp F G f (x.put h.next (.cells 85 1 true false [.I 1,.I (t.s.ez.length:Nat),d,.ed])):=
     (Kp.new F G f _ E.D.fl λz b=>(E.D.gx z (.inl b)).1).trans k4 λ_ h=>h
   have qG:Dq F G f L ops _ R:={E with D:=Y E,gl:=q.gl}
   refine⟨{s with pos:=(draw ops s.pos t.s.known.length).2},l++[a],d,by trivial,by trivial,by trivial,by trivial,by trivial,qG.step kk az (λ_ h=>h) (.inl q.gl) g.hq rfl,?_,fY _ u,ag,K,?_,p,y,by simp;omega⟩
   ·exact(k'.trans ⟨r.next,λz b=>r.fm z (b.imp id λb=>⟨.inl b.1,b.2⟩)⟩ λ_ h=>h).trans (kk.gm _) λ_ h=>h
   ·rw[<-j,<-hv]
    show _=some_ ops k (fO ops s).2 (l++[(fO ops s).1]);unfold fO
    rw[p]
 | zero=>
   rw[if_neg (by omega)];obtain⟨e1,e2⟩:l=(some_ ops (draw ops t.s.pos 4).1 (num ops t.s 4).2 []).1/\s=(some_ ops (draw ops t.s.pos 4).1 (num ops t.s 4).2 []).2:=by rw[<-j];exact⟨rfl,rfl⟩
   have Z:=g.D.ok.len;rw[kl]at Z;have w1:jo .i64 (((t.s.known.length:Nat):Int)-1)=((t.s.known.length-1:Nat):Int):=by
     rw[show((t.s.known.length:Nat):Int)=((t.s.known.length-1+1:Nat):Int) by omega];exact Rc (by omega)
   obtain ⟨l1,o1,ab,ac,i1,i2⟩:=g.IL (i:=t.s.known.length-1) (by rw[kl];omega);have A:eD (.ptr l1 o1) h' = some (.I (t.s.known.getLastD 0:Nat)):=by
     rw[i2,show({t with s:=s}:Dt).s.known=t.s.known from p,Cv _ hk]
   have e3:∀a:Nat,iW 3 1 1 (V.I 0) [(0,V.I (a:Nat))]=some (.cells 3 1 true false [V.I (a:Nat)],λl=> .slice l 0 1):=λ_=>rfl;simp only[g.D.AW,gz,Z,iI,w1,i1,A,e3,fH,fx,Gg];have D5:=(Y g).grow (mr.new h' (.cells 3 1 true false [V.I (t.s.known.getLastD 0:Nat)]));have k5:Kp F G h' (h'.new (.cells 3 1 true false [V.I (t.s.known.getLastD 0:Nat)])):=(Y g).zR _;have g5:(h'.new (.cells 3 1 true false [V.I (t.s.known.getLastD 0:Nat)])).get h'.next=_:=eQ _ _;have aA:(h'.new (.cells 3 1 true false [V.I (t.s.known.getLastD 0:Nat)])).get h.next=_:=(eE _ X).trans gF;have aB:lN eN fJ F (h'.new (.cells 3 1 true false [V.I (t.s.known.getLastD 0:Nat)])) l vl:=ol.fm (λz b=>eE _ (g.D.fl z b)) (λz b=>eE _ (ol.y6 b).2.1) (Ql _);have n5:(h'.new (.cells 3 1 true false [V.I (t.s.known.getLastD 0:Nat)])).next=h'.next+1:=rfl;generalize h'.new (.cells 3 1 true false [V.I (t.s.known.getLastD 0:Nat)])=B at*;have a1:=po (o:=3) (v:= .slice h'.next 0 1) (qF:=[.I 1,.I (t.s.ez.length:Nat),vl,.slice h'.next 0 1]) aA (by simp) rfl rfl;have C:h.next<B.next:=by omega
   obtain⟨D6,k6⟩:=D5.other (mr.put (S:=λz=>z=h.next) (.cells 85 1 true false [.I 1,.I (t.s.ez.length:Nat),vl,.slice h'.next 0 1]) rfl C) λz b=>by subst b;exact fresh _ (jj _)
   have aC:=fY (.cells 85 1 true false [.I 1,.I (t.s.ez.length:Nat),vl,.slice h'.next 0 1]) C;have g6:(B.put h.next (.cells 85 1 true false [.I 1,.I (t.s.ez.length:Nat),vl,.slice h'.next 0 1])).get h'.next=_:=(gq _ C (by omega)).trans g5;have ah:lN eN fJ F (B.put h.next (.cells 85 1 true false [.I 1,.I (t.s.ez.length:Nat),vl,.slice h'.next 0 1])) l vl:=aB.fm (λz b=>k6.fm z (.inl b)) (λz b=>gq _ C (by have:=N z b;omega)) (jj _);have n6:(B.put h.next (.cells 85 1 true false [.I 1,.I (t.s.ez.length:Nat),vl,.slice h'.next 0 1])).next=B.next:=rfl;simp only[a1,ef];generalize B.put h.next (.cells 85 1 true false [.I 1,.I (t.s.ez.length:Nat),vl,.slice h'.next 0 1])=c at*;have lA:gi 4 (.ptr h.next 0) c=some (.agg [.I 1,.I (t.s.ez.length:Nat),vl,.slice h'.next 0 1]):=A6 aC rfl;have ow:gj [.I 1,.I (t.s.ez.length:Nat),vl,.slice h'.next 0 1]=true:=by simp only[fh,ol.one];rfl
   have e7:iW 85 4 1 (V.agg [(V.I 0),(V.I 0),V.ed,V.ed]) [(0,.agg [.I 1,.I (t.s.ez.length:Nat),vl,.slice h'.next 0 1])]=some (.cells 85 4 true false [.I 1,.I (t.s.ez.length:Nat),vl,.slice h'.next 0 1],λl=> .slice l 0 1):=Fk rfl rfl ow;have e8:∀m:Nat,fq [V.ed] [(0,1)] [(0,.slice m 0 1)]=some (.agg [.slice m 0 1]):=λ_=>rfl;have e9:∀m:Nat,iW 88 1 1 (V.agg [V.ed]) [(0,.agg [.slice m 0 1])]=some (.cells 88 1 true false [.slice m 0 1],λl=> .slice l 0 1):=λm=>Fk rfl rfl rfl;simp only[D6.ldS,gz,lA,e7,fH,e8,e9];have D7:=D6.grow (mr.new c (.cells 85 4 true false [.I 1,.I (t.s.ez.length:Nat),vl,.slice h'.next 0 1]));have k7:=D6.zR (.cells 85 4 true false [.I 1,.I (t.s.ez.length:Nat),vl,.slice h'.next 0 1]);have g7:(c.new (.cells 85 4 true false [.I 1,.I (t.s.ez.length:Nat),vl,.slice h'.next 0 1])).get c.next=_:=eQ _ _;have aD:(c.new (.cells 85 4 true false [.I 1,.I (t.s.ez.length:Nat),vl,.slice h'.next 0 1])).get h'.next=_:=(eE _ (by omega)).trans g6;have ai:lN eN fJ F (c.new (.cells 85 4 true false [.I 1,.I (t.s.ez.length:Nat),vl,.slice h'.next 0 1])) l vl:=ah.fm (λz b=>eE _ (D6.fl z b)) (λz b=>eE _ (ah.y6 b).2.1) (Ql _);have n7:(c.new (.cells 85 4 true false [.I 1,.I (t.s.ez.length:Nat),vl,.slice h'.next 0 1])).next=c.next+1:=rfl;generalize c.new (.cells 85 4 true false [.I 1,.I (t.s.ez.length:Nat),vl,.slice h'.next 0 1])=w at*;have D8:=D7.grow (mr.new w (.cells 88 1 true false [.slice c.next 0 1]));have k8:=D7.zR (.cells 88 1 true false [.slice c.next 0 1]);have g8:(w.new (.cells 88 1 true false [.slice c.next 0 1])).get c.next=_:=(eE _ (by omega)).trans g7;have aE:(w.new (.cells 88 1 true false [.slice c.next 0 1])).get h'.next=_:=(eE _ (by omega)).trans aD;have aj:lN eN fJ F (w.new (.cells 88 1 true false [.slice c.next 0 1])) l vl:=ai.fm (λz b=>eE _ (D7.fl z b)) (λz b=>eE _ (ai.y6 b).2.1) (Ql _);have aF:lT (w.new (.cells 88 1 true false [.slice c.next 0 1])) 1 (.slice w.next 0 1)=some (1,[.slice c.next 0 1]):=oI (k:=0) rfl;have n8:(w.new (.cells 88 1 true false [.slice c.next 0 1])).next=w.next+1:=rfl;generalize w.new (.cells 88 1 true false [.slice c.next 0 1])=P at*;have D9:Dw (λz=>F z\/Loc vl z\/z=h'.next\/z=c.next) G P L.lu L.im L.jL {t with s:=s} R:=D8.more (λ_ h=> .inl h) λz b=>b.elim .inl λb=> .inr (by
     have aG:h.next<z/\z<P.next:=by
       rcases b with b|rfl|rfl
       ·exact⟨N z b,(aj.y6 b).2.1⟩
       ·omega
       ·omega
     have h9:=fresh z (by omega);exact⟨aG.2,h9.2.2,h9.2.1⟩)
   have sl:iD eN (λz=>F z\/Loc vl z\/z=h'.next\/z=c.next) P l vl:=aj.slR (λ_ h=> .inl h) λ_ h=> .inr (.inl h)
   have ss:iD eN (λz=>F z\/Loc vl z\/z=h'.next\/z=c.next) P [t.s.known.getLastD 0] (.slice h'.next 0 1):=
     .inr ⟨h'.next,0,3,true,false,[V.I (t.s.known.getLastD 0:Nat)],rfl,.inr (.inr (.inl rfl)),aE,.inr rfl,L9 _,⟨_,[],rfl,rfl,trivial⟩⟩
   have sf:iD eF (λz=>F z\/Loc vl z\/z=h'.next\/z=c.next) P [⟨1,(t.s.ez.length:Nat),l,[t.s.known.getLastD 0]⟩] (.slice c.next 0 1):=
     .inr ⟨c.next,0,85,true,false,[.I 1,.I (t.s.ez.length:Nat),vl,.slice h'.next 0 1],rfl,.inr (.inr (.inr rfl)),g8,.inr rfl,L9 _,⟨_,[],rfl,⟨vl,_,rfl,sl,ss⟩,trivial⟩⟩
   obtain⟨v',h9,ak,b1,b2,b3,b4,k9,M⟩:=D9.zgD (ys:=[[⟨1,(t.s.ez.length:Nat),l,[t.s.known.getLastD 0]⟩]]) aF ⟨[.slice c.next 0 1],[],rfl,⟨_,rfl,sf⟩,trivial⟩ rfl rfl (by simp) (by show s.ez.length+_<_;rw[y];simp;omega);have aH:fg 88 1 24 R.vs (.slice w.next 0 1) P=some (.val v' h9):=b1;have lS:=M.os.len;have aI:((s.ez++[[(⟨1,(t.s.ez.length:Nat),l,[t.s.known.getLastD 0]⟩:Fm)]]).length:Nat)=t.s.ez.length+1:=by rw[y];simp
   have aJ:fM v' = some (.I ((t.s.ez.length+1:Nat):Int)):=by rw[<-aI];exact lS
   have w2:jo .i64 (((t.s.ez.length+1:Nat):Int)-1)=(t.s.ez.length:Nat):=Rc (by omega);simp only[aH,ef,b3,M.ldS,gz,aJ,iI,w2];have I:Kp F G h' ak:=(((k5.trans k6 λ_ h=>h).trans k7 λ_ h=>h).trans k8 λ_ h=>h).trans ⟨k9.next,λz b=>k9.fm z (b.imp (λh=> .inl h) id)⟩ λ_ h=>h;have qG:Dq F G h' L ops _ R:={g with D:=Y g,gl:=q.gl}
   have hE:({t with s:=(fI ops t.s).2}:Dt) = {t with s:={s with ez:=s.ez++[[⟨1,(t.s.ez.length:Nat),l,[t.s.known.getLastD 0]⟩]]} }:=by
     unfold fI;rw[e1,y,e2];rfl
   have aK:=qG.step I M (λ_ h=> .inl h) q.gl g.hq rfl;refine H (λz=>F z\/Loc vl z\/z=h'.next\/z=c.next) ak {R with vs:=v'} (λ_ h=> .inl h) (k'.trans (I.gm _) λ_ h=>h) ?_ rfl;rw[hE];exact aK
theorem XH{t:Nat}{k:IntKind}{b:Int}(h:if a<b then A else B):oP (eh .lss t (.int k a) (.int k b)) λv=>bP v A B:=by
 simp_all
theorem fD{t:Nat}{k:IntKind}{b:Int}(h:if a=b then A else B):oP (eh .eql t (.int k a) (.int k b)) λv=>bP v A B:=by
 simp_all
theorem Vn{t:Nat}{k:IntKind}{b:Int}(h:if b<a then A else B):oP (eh .gtr t (.int k a) (.int k b)) λv=>bP v A B:=by
 simp_all
theorem km{t n m:Nat}(a:n<1000000000)(b:m<1000000000)(H:K (.I ((n+m:Nat):Int))):oP (eh .add t (.I n) (.I m)) K:=by
 grind[iU,zgx,gz]
theorem Ak{t n:Nat}(a:n<1000000000)(h0:0<n)(H:K (.I ((n-1:Nat):Int))):oP (eh .sub t (.I n) (.I 1)) K:=by
 obtain⟨m,rfl⟩:∃m,n=m+1:=by simp_all
 grind[iI,Rc,gz]
theorem fX{c B:Prop}[Decidable c] (hc:c)(h:A):if c then A else B:=by simp_all
theorem fN{c:Prop}[Decidable c] (hc:¬c)(h:B):if c then A else B:=by simp_all
theorem fT{t n:Nat}(H:K (.I ((n+1:Nat):Int)))(h:n<1000000000:=by omega):oP (eh .add t (.I n) (.I 1)) K:=km h (by decide) H
theorem gJ{t:Nat}{k:IntKind}{b:Int}{B:Prop}(H:A)(h:a<b:=by omega):oP (eh .lss t (.int k a) (.int k b)) λv=>bP v A B:=XH (fX h H)
theorem iY{t:Nat}{k:IntKind}{b:Int}(H:B)(h:¬a<b:=by omega):oP (eh .lss t (.int k a) (.int k b)) λv=>bP v A B:=XH (fN h H)
theorem tz{α:Type}{l:List α}{x:α}{n:Nat}(h:l.length<=n):(l++[x]).length<=n+1:=by simp_all
structure Sm (s:Ds) (n:Nat):Prop where
 v:s.ee.length<=n
 c:s.cur.length<=n
 k:s.known.length<=n
 st:s.ez.length<=n
 k0:0<s.known.length
theorem Sm.le{n m:Nat}(a:Sm s n)(h:n<=m):Sm s m:=⟨MT a.v h,MT a.c h,MT a.k h,MT a.st h,a.k0⟩
theorem Sm.put{n:Nat}(a:Sm s n)(x:Vl):Sm (put s x) (n+1):=
 ⟨tz a.v,tz a.c,wBP a.k,wBP a.st,a.k0⟩
theorem Sm.ig{n:Nat}(a:Sm s n)(x:Vl):Sm (ig s x) (n+1):=
 ⟨tz a.v,tz a.c,
  tz a.k,wBP a.st,by show 0<(s.known++[s.ee.length]).length;simp_all⟩
theorem Sm.pos{n:Nat}(a:Sm s n)(p:Nat):Sm {s with pos:=p} n:=⟨a.v,a.c,a.k,a.st,a.k0⟩
theorem Sm.state{n:Nat}(a:Sm s n)(ops:List Int):Sm (fI ops s).2 (n+1):=by
 have hp:∃p,(some_ ops (num ops s 4).1 (num ops s 4).2 []).2 = {s with pos:=p}:=by
  let⟨p,h⟩:=GK ops (num ops s 4).1 (num ops s 4).2 []
  exact⟨p,h⟩
 let⟨p,hp⟩:=hp
 unfold fI;simp[hp];exact⟨wBP a.v,wBP a.c,wBP a.k,tz a.st,a.k0⟩
theorem zcp(q:Dq F G h L ops t R){n a:Nat}(m:Sm t.s n)(p:n<1000){K:Hp->Prop}
  (H:∀h' R',Kp F G h h'->Dq F G h' L ops {t with s:={t.s with known:=t.s.known++[a]} } R'->K h') :
  vV (iW 3 1 1 (V.I 0) [(0,.I a)]) h λo c b=>((b.get h.next=some o/\O.beq o o=true)/\(eD (.ptr L.im 0) b=some R.vk/\eJ (fg 3 1 8 R.vk c b) λd e=>(b.next<=e.next/\eJ (gw 1 (.ptr L.im 0) d e) λ_ g=>(e.next<=g.next/\K g)))):=by
 have r:iW 3 1 1 (V.I 0) [(0,V.I a)]=some (.cells 3 1 true false [V.I a],λl=> .slice l 0 1):=rfl;rw[r,gU];have i:=q.D.grow (mr.new h (.cells 3 1 true false [V.I a]));have u:lT (h.new (.cells 3 1 true false [V.I a])) 1 (.slice h.next 0 1)=some (1,[V.I a]):=oI rfl
 let⟨v',A,B,v,w,x,y,z,D4⟩:=i.zeR (ys:=[a]) u ⟨[V.I a],[],rfl,rfl,trivial⟩ rfl rfl (by simp) (by have:=m.k;simp;omega)
 have f:=v;refine⟨by grind[eQ,O.jT],i.AW,?_⟩;simp[f,ef,x];have j:=(q.D.zR (.cells 3 1 true false [V.I a])).trans z λ_ h=>h;exact⟨w,y,H _ _ j (q.step j D4 (by simp_all) q.gl q.hq rfl)⟩
theorem Is(q:Dq F G h L ops t R){n:Nat}(b:Sm t.s n)(p:n<999)(r:eV.rel F h x w){K:Hp->Prop}
  (H:∀h' R',Kp F G h h'->Dq F G h' L ops {t with s:=ig t.s x} R'->K h') :
  cP CS fF [.agg w,.ptr L.lu 0,.ptr L.jL 0] h λd e=>(h.next<=e.next/\vV (iW 3 1 1 (V.I 0) [(0,d)]) e λo f a=>((a.get e.next=some o/\O.beq o o=true)/\(eD (.ptr L.im 0) a=some R.vk/\eJ (fg 3 1 8 R.vk f a) λg i=>(a.next<=i.next/\eJ (gw 1 (.ptr L.im 0) g i) λ_ m=>(i.next<=m.next/\K m))))):=by
 have hv:=b.v;have hc:=b.c;refine Wj q.D q.hq r (by omega) (by omega) λE I j u k l=>⟨j.next,?_⟩
 have y:=q.step j u (by simp_all) q.gl k rfl;rw[<-l];exact zcp y (b.put x) (by omega) λz A B C=>H z A (j.trans B λ_ h=>h) C
theorem Lj(q:Dq F G h L ops t R){n:Nat}(d:Sm t.s n)(f:n<999)(g:eV.rel F h x w){K:fo}
  (H:∀h' R',Kp F G h h'->R'.vk=R.vk->Dq F G h' L ops {t with s:=put t.s x} R'->K (.I t.s.ee.length) h'):cP CS fF [.agg w,.ptr L.lu 0,.ptr L.jL 0] h K:=by
 have hv:=d.v;have hc:=d.c;exact Wj q.D q.hq g (by omega) (by omega) λi j e k a b=>H i j e b (q.step e k (by simp_all) q.gl a rfl)
theorem OM(q:Dq F G h L ops t R)(c:ops.length<9223372036854775808){n:Nat}(a:Sm t.s n)(d:n<1000){K:fo}
  (H:∀h' l o,Kp F (gm G L.pb) h h'->Dq F G h' L ops {t with s:=(fO ops t.s).2} R->l<h'.next->gQ 1 R.vk (.I ((draw ops t.s.pos t.s.known.length).1:Nat))=some (.ptr l o)->eD (.ptr l o) h' = some (.I ((fO ops t.s).1:Nat))->K (.I ((draw ops t.s.pos t.s.known.length).1:Nat)) h') :
  cP CS ft [.I t.s.known.length,.ptr L.pb 0,.ptr L.lr 0] h K:=by
 refine yh q a.k0 (by have:=a.k;omega) c λe f b=>?_
 let⟨l,o,hl,_,g,j⟩:=b.IL (i:=(draw ops t.s.pos t.s.known.length).1) (wV _ _ a.k0)
 exact H e l o f b hl g j
theorem zeD{b:Bk}{nv:V}(q:Dq F G h L ops t R){n:Nat}(hn:t.blocks.length<1000)(ZY:b.ee=[])(w:b.fj=[])(a:iD eN F h b.next nv)
  (H:∀F' h' R',(∀l,F l->F' l)->Kp F G h h'->Dq F' G h' L ops {s:={t.s with cur:=[]},blocks:=t.blocks++[⟨t.s.cur,b.fin,b.cond,b.next,t.fj,b.state⟩],fj:=[]} R'->Q (.I t.blocks.length) h') :
  cP CS mJ [.agg (pY b .ed nv .ed),.ptr L.jL 0,.ptr L.lu 0] h Q:=by
 refine EV ?_;have x:gj (pY b .ed nv .ed)=true:=by simp only[pY,fh,a.one];rfl
 have y:=λl hl=>(q.D.gx l hl).1;have z:∀i l,comp L.lu L.im L.jL R i l->l<h.next:=λi l hl=>(q.D.sig hl).2.1;have fresh:∀l,h.next<=l->¬F l/\¬G l/\∀i,¬comp L.lu L.im L.jL R i l:=λl hl=>⟨λA=>by have:=q.D.fl l A;omega,by grind,by grind⟩
 have j:=q.D.grow (mr.new h (.cells 79 1 true false (pY b .ed nv .ed)));have B:=q.D.zR (.cells 79 1 true false (pY b .ed nv .ed));have C:(h.new (.cells 79 1 true false (pY b .ed nv .ed))).get h.next=_:=eQ _ _;have e:h.next<(h.new (.cells 79 1 true false (pY b .ed nv .ed))).next:=Rz _;simp[Lm x,fH,j.ldC];generalize h.new (.cells 79 1 true false (pY b .ed nv .ed))=k at*;have e2:=po (o:=0) (qF:=pY b R.cc nv .ed) C (by simp[pY]) (by rw[q.hq];exact q.D.oc.one) rfl
 let⟨D2,E⟩:=j.other (mr.put (.cells 79 1 true false (pY b R.cc nv .ed)) rfl e) (by simp_all)
 have I:=fY (.cells 79 1 true false (pY b R.cc nv .ed)) e;have m:h.next<(k.put h.next (.cells 79 1 true false (pY b R.cc nv .ed))).next:=e;simp[e2,ef,D2.ldP];generalize k.put h.next (.cells 79 1 true false (pY b R.cc nv .ed))=J at*;have K:=po (o:=4) (qF:=pY b R.cc nv R.vp) I (by simp[pY]) q.D.sp.one rfl
 let⟨D3,M⟩:=D2.other (mr.put (.cells 79 1 true false (pY b R.cc nv R.vp)) rfl m) (by simp_all)
 have N:=fY (.cells 79 1 true false (pY b R.cc nv R.vp)) m;simp[K,ef,D3.ldB];generalize J.put h.next (.cells 79 1 true false (pY b R.cc nv R.vp))=d at*;have p:gj (pY b R.cc nv R.vp)=true:=by simp only[pY,fh,a.one,q.hq,q.D.oc.one,q.D.sp.one];rfl
 have O:gi 6 (.ptr h.next 0) d=some (.agg (pY b R.cc nv R.vp)):=A6 N rfl;have P:iW 79 6 1 (V.agg [V.ed,(V.I 0),(V.I 0),V.ed,V.ed,(V.I 0)]) [(0,.agg (pY b R.cc nv R.vp))]=some (.cells 79 6 true false (pY b R.cc nv R.vp),λl=> .slice l 0 1):=Fk rfl rfl p;simp[O,gz,P];have r:=D3.grow (mr.new d (.cells 79 6 true false (pY b R.cc nv R.vp)));have S:=D3.zR (.cells 79 6 true false (pY b R.cc nv R.vp));have f:lT (d.new (.cells 79 6 true false (pY b R.cc nv R.vp))) 6 (.slice d.next 0 1)=some (1,pY b R.cc nv R.vp):=oI rfl;have u:Kp F G h (d.new (.cells 79 6 true false (pY b R.cc nv R.vp))):=((B.trans E λ_ h=>h).trans M λ_ h=>h).trans S λ_ h=>h;generalize d.new (.cells 79 6 true false (pY b R.cc nv R.vp))=v at*
 let⟨sc,D5⟩:=r.flush
 have T:eK.rel (fzc F R.vc) v ⟨t.s.cur,b.fin,b.cond,b.next,t.fj,b.state⟩ (pY b R.cc nv R.vp):=
  ⟨R.cc,nv,R.vp,rfl,by rw[q.hq];exact sc,(a.fm λl hl=>u.fm l (.inl hl)).mono λ_ h=> .inl h,r.sp.mono λ_ h=> .inl h⟩
 let⟨v',U,h6,W,a2,X,a4,Y,D6⟩:=D5.zgN (ys:=[⟨t.s.cur,b.fin,b.cond,b.next,t.fj,b.state⟩]) f ⟨pY b R.cc nv R.vp,[],by simp,T,trivial⟩ rfl p (by simp) (by simp;omega)
 have g:fg 79 6 96 R.vb (.slice d.next 0 1) v=some (.val v' U):=W;have Z:fq [V.ed,(V.I 0),(V.I 0),V.ed,V.ed,(V.I 0)] [(0,1),(1,1),(2,1),(3,1),(4,1),(5,1)] []=some (.agg [.ed,.I 0,.I 0,.ed,.ed,.I 0]):=rfl;have e8:=Iy (n:=6) (ws:=[.ed,.I 0,.I 0,.ed,.ed,.I 0]) D6.gb rfl rfl rfl
 let⟨k7,D7⟩:=D6.zdQ (c:= .ed) .nil
 have lb:fM v' = some (.I ((t.blocks.length+1:Nat):Int)):=by
  have:=D7.ob.len;simpa using this
 simp only[g,ef,X,Z,gz,e8,D7.ldB,lb,iI,Rc (n:=t.blocks.length) (by omega)];have kb:=(u.trans Y λ_ h=> .inl h).trans k7 λ_ h=> .inl h;exact H (fzc F R.vc) _ _ (λ_ h=> .inl h) kb (q.step kb D7 (λ_ h=> .inl h) q.gl rfl rfl)
