/- Parts. -/
import Derived.Test.YtcoaokdoecgcbaaGreatDoorM18
import Derived.Test.YtcoaokdoecgcbaaGreatDoorM19
import Derived.Test.YtcoaokdoecgcbaaGreatDoorM15
set_option maxHeartbeats 4000000
namespace Go.Proofs.YtcoaokdoecgcbaaGreatDoor.Hx
open Un
theorem JF{e:Nat}{w:List V}(a:gz w=true):nj e (.agg w)=some (.cells e 1 true false w,λl=> .ptr l 0):=by
 unfold nj
 grind[zi,gz,V.cells]
theorem Db{e sz:Nat}{z w:List V}(b:z.length=sz)(a:w.length=sz)(c:gz w=true):iK e sz 1 (.agg z) [(0,.agg w)]=some (.cells e sz true false w,λl=> .slice l 0 1):=by
 unfold iK;have hs:qv (Nat.mul 0 sz) (Bt 1 (V.agg z).cells) (V.agg w).cells=some w:=by
  show qv (0*sz) (z++[]) w=some w;rw[Nat.zero_mul,Hf,BU (by omega),List.take_zero,OJ,wBS (by omega),Hf]
 simp[xE,eD];rw[zi _ (by rw[show(V.agg w).cells=w from rfl,a];simp_all)]
 simp_all
theorem Qj{n:Nat}(h:n<1000000000):iy .i64 (((n+1:Nat):Int)-1)=(n:Nat):=by
 grind[gS,Cf]
theorem zgC{n k:Nat}(h:n<1000000000)(a:k<1000000000):iy .i64 (((n:Nat):Int)+(k:Nat))=((n+k:Nat):Int):=by
 grind[gS,Cf]
theorem Yn(t:Nat)(k:IntKind)(a b:Int)(d:b≠0):ef .rem t (.int k a) (.int k b)=some (.int k (a.tmod b)):=by
 have c:hint .rem k a b=some (.int k (a.tmod b)):=by
  cases b with
  | ofNat n=>cases n with
    |zero=>simp_all
    |succ n=>rfl
  |negSucc n=>rfl
 cases k <;> exact c
theorem wL{n:Int}{m:Nat}{h:Hp}{Q:fo}(f:0<m)(d:m<=1000000000)(H:Q (.I (iF n m:Nat)) h):cP CS gj [.I n,.I m] h Q:=by
 refine GN rfl rfl ?_;unfold wS;have g : -(m:Int)<n.tmod m:=by
  have:=Int.tmod_lt_of_pos (-n) (b:=(m:Int)) (by omega);rw[Int.neg_tmod]at this;omega
 simp[Yn _ _ _ (m:Int) (by omega),fY];unfold iF at H;split
 ·rename_i a;rw[if_pos a]at H;have e:iy .i64 (n.tmod m+m)=n.tmod m+m:=by grind[gS,Cf]
  simp[ e];refine tC ?_;unfold oD;rw[wBs (by omega)]at H;exact H
 ·rename_i c;rw[if_neg c]at H;refine tC ?_;unfold oD;rw[wBs (by omega)]at H;exact H
section
variable{F G:Nat->Prop}{h:Hp}{lu ie jq:Nat}{t:Dt}{R:Rw}{Q:fo}
theorem Dw.XP(D:Dw F G h lu ie jq t R):eC (.ptr lu 2) h=some R.vv:=j5 D.gu rfl
theorem Dw.ldB(D:Dw F G h lu ie jq t R):eC (.ptr lu 3) h=some R.vb:=j5 D.gu rfl
theorem Dw.ldS(D:Dw F G h lu ie jq t R):eC (.ptr lu 4) h=some R.vs:=j5 D.gu rfl
theorem Dw.Ae(D:Dw F G h lu ie jq t R):eC (.ptr ie 0) h=some R.vk:=j5 D.gk rfl
theorem Dw.ldC(D:Dw F G h lu ie jq t R):eC (.ptr jq 0) h=some R.cc:=j5 D.gb rfl
theorem Dw.ldP(D:Dw F G h lu ie jq t R):eC (.ptr jq 4) h=some R.vp:=j5 D.gb rfl
theorem UB{x:Vl}{w:List V}(D:Dw F G h lu ie jq t R)(hq:R.cc=R.vc)(d:eV.rel F h x w)(hv:t.s.ee.length<1000)(hc:t.s.cur.length<1000)
  (H:∀h' R',Kp F G h h'->Dw F G h' lu ie jq {t with s:=put t.s x} R'->R'.cc=R'.vc->R'.vk=R.vk->Q (.I t.s.ee.length) h') :
  cP CS fx [.agg w,.ptr lu 0,.ptr jq 0] h Q:=by
 refine DC rfl rfl ?_;unfold ug;have a:=eV.one d;have b:w.length=6:=eV.len d;have e:=D.grow (lU.new h (.cells 81 1 true false w));have n:=D.yA (.cells 81 1 true false w);have e1:gy 6 (.ptr h.next 0) (h.new (.cells 81 1 true false w))=some (.agg w):=Av (eJ _ _) b;have e2:iK 81 6 1 (V.agg [(V.I 0),(V.I 0),(V.I 0),(V.I 0),V.ed,(V.I 0)]) [(0,.agg w)]=some (.cells 81 6 true false w,λl=> .slice l 0 1):=Db rfl b a;simp only[JF a,fI,fN,fY,e.XP,e1,e2];generalize q:h.new (.cells 81 1 true false w)=f at*;have r:=e.grow (lU.new f (.cells 81 6 true false w));have o:=e.yA (.cells 81 6 true false w);have g:=eV.fh (λl hl=>(n.trans o λ_ h=>h).fh l (.inl hl)) d;have i:kV (f.new (.cells 81 6 true false w)) 6 (.slice f.next 0 1)=some (1,w):=by grind[nC]
 let⟨v',J,j,u,K,v,L,y,D4⟩:=r.zgR (ys:=[x]) i ⟨w,[],by simp,g,trivial⟩ (by omega) a (by simp) (by simp;omega)
 have lc:((t.s.ee++[x]).length:Nat)=t.s.ee.length+1:=by simp
 have lv:=D4.ov.len;simp only[lc]at lv;simp only[u,eh,v,D4.ldC,D4.XP,fY,lv,iu];have p:iy .i64 (((t.s.ee.length+1:Nat):Int)-1)=(t.s.ee.length:Nat):=Qj (by omega);have z:iK 3 1 1 (V.I 0) [(0,V.I t.s.ee.length)]=some (.cells 3 1 true false [V.I t.s.ee.length],λl=> .slice l 0 1):=rfl;simp only[p,z,fI,hq];have A:=D4.grow (lU.new j (.cells 3 1 true false [V.I t.s.ee.length]));have B:=D4.yA (.cells 3 1 true false [V.I t.s.ee.length]);have k:kV (j.new (.cells 3 1 true false [V.I t.s.ee.length])) 1 (.slice j.next 0 1)=some (1,[V.I t.s.ee.length]):=nC rfl
 let⟨M,N,O,C,P,E,S,I,D7⟩:=A.zgF (ys:=[t.s.ee.length]) k ⟨[V.I t.s.ee.length],[],rfl,rfl,trivial⟩ rfl rfl (by simp) (by simp;omega)
 have c:=D7.ov.len;simp only[lc]at c;have m:=C;simp only[m,eh,E,D7.XP,fY,c,iu,p];exact H _ _ ((((n.trans o λ_ h=>h).trans y λ_ h=>h).trans B λ_ h=>h).trans I λ_ h=>h) D7 rfl rfl
end
open Un
structure Lc where
 lr:Nat
 lu:Nat
 ie:Nat
 jq:Nat
 zt:Nat
 nW:Nat
 pT:Nat
 VN:Nat
def zd3(L:Lc):V:= .func fx [] [.ptr L.lu 0,.ptr L.jq 0]
def VR(L:Lc):V:= .func fq [] [.ptr L.nW 0,.ptr L.lr 0]
def T7(L:Lc):V:= .func fU [] [.ptr L.lu 0,.ptr L.pT 0,.ptr L.ie 0]
structure Dq (F G:Nat->Prop) (h:Hp) (L:Lc) (ops:List Int) (t:Dt) (R:Rw):Prop where
 D:Dw F G h L.lu L.ie L.jq t R
 hq:R.cc=R.vc
 gl:G L.nW
 ga:h.get L.nW=some (.cells fw 1 true false [.I t.s.pos])
 fr:F L.lr
 gr:∃a vs n,h.get L.lr=some (.cells Ss 1 true false [a,vs,n])/\iH (eI .i64) F h ops a
 fp:F L.zt
 gp:∃e,h.get L.zt=some (.cells e 1 true false [zd3 L])
 fn:F L.pT
 gn:∃e,h.get L.pT=some (.cells e 1 true false [VR L])
 fs:F L.VN
 gs:∃e,h.get L.VN=some (.cells e 1 true false [T7 L])
section
variable{F F' G G':Nat->Prop}{h h':Hp}{L:Lc}{ops:List Int}{t t':Dt}{R R':Rw}{Q:fo}
theorem Dq.zcx(q:Dq F G h L ops t R)(k:∀l,F l->h'.get l=h.get l) (D':Dw F' G' h' L.lu L.ie L.jq t' R')(a:∀l,F l->F' l) (b:R'.cc=R'.vc)(c:G' L.nW)(d:h'.get L.nW=some (.cells fw 1 true false [.I t'.s.pos])):Dq F' G' h' L ops t' R' where
 D:=D'
 hq:=b
 gl:=c
 ga:=d
 fr:=a _ q.fr
 gr:=by
  let⟨vo,vs,n,e,f⟩:=q.gr
  exact⟨vo,vs,n,by rw[k _ q.fr];exact e,(f.fh k).mono a⟩
 fp:=a _ q.fp
 gp:=by rw[k _ q.fp];exact q.gp
 fn:=a _ q.fn
 gn:=by rw[k _ q.fn];exact q.gn
 fs:=a _ q.fs
 gs:=by rw[k _ q.fs];exact q.gs
theorem Dq.step(q:Dq F G h L ops t R)(k:Kp F G h h') (D':Dw F' G' h' L.lu L.ie L.jq t' R')(b:∀l,F l->F' l)(c:G' L.nW) (a:R'.cc=R'.vc)(d:t'.s.pos=t.s.pos):Dq F' G' h' L ops t' R':=
 q.zcx (λl hl=>k.fh l (.inl hl)) D' b a c (by rw[k.fh _ (.inr q.gl),d];exact q.ga)
theorem Dq.px(q:Dq F G h L ops t R):eC (.ptr L.zt 0) h=some (zd3 L):=by let⟨e,hg⟩:=q.gp;exact j5 hg rfl
theorem Dq.uj(q:Dq F G h L ops t R):eC (.ptr L.pT 0) h=some (VR L):=by let⟨e,hg⟩:=q.gn;exact j5 hg rfl
theorem Dq.Ke(q:Dq F G h L ops t R):eC (.ptr L.VN 0) h=some (T7 L):=by let⟨e,hg⟩:=q.gs;exact j5 hg rfl
theorem Dq.GQ(q:Dq F G h L ops t R){i:Nat}(hi:i<t.s.known.length):∃l o,l<h.next/\(F l\/Loc R.vk l)/\gP 1 R.vk (.I i)=some (.ptr l o)/\eC (.ptr l o) h=some (.I (t.s.known.getD i 0:Nat)):=by
 let⟨l,o,u,hl,a,b,c⟩:=q.D.ok.read.XZ hi .i64 rfl
 refine⟨l,o,hl.elim (q.D.fl l) λh=>(q.D.ok.xN h).2.1,hl,a,?_⟩;rw[b];have:[u]=[V.I (t.s.known[i]:Nat)]:=c;rw[OV,iz hi];simpa using this
theorem Dw.zar{lu ie jq:Nat}(D:Dw F G h lu ie jq t R)(a:∀l,G' l->G l\/(l<h.next/\¬F l/\∀i,¬comp lu ie jq R i l)):Dw F G' h lu ie jq t R:=
 {D with gx:=λl hl=>(a l hl).elim (D.gx l) id}
def gm(G:Nat->Prop)(a:Nat):Nat->Prop:=λl=>G l/\l≠a
theorem Kp.gm(k:Kp F G h h')(a:Nat):Kp F (Hx.gm G a) h h':=⟨k.next,λl hl=>k.fh l (hl.imp id λh=>h.1)⟩
def setPos(t:Dt)(p:Nat):Dt:={t with s:={t.s with pos:=p} }
theorem wN{m:Nat}(q:Dq F G h L ops t R)(f:0<m)(g:m<=100000000)(y:ops.length<9223372036854775808)
  (H:∀h',Kp F (gm G L.nW) h h'->Dq F G h' L ops (setPos t (draw ops t.s.pos m).2) R->Q (.I ((draw ops t.s.pos m).1:Nat)) h') :
  cP CS fq [.I m,.ptr L.nW 0,.ptr L.lr 0] h Q:=by
 refine Dp rfl rfl ?_;unfold uH
 let⟨vo,vs,n,gr,so⟩:=q.gr
 have j:eC (.ptr L.nW 0) h=some (.I t.s.pos):=j5 q.ga rfl;have l1:eC (.ptr L.lr 0) h=some vo:=j5 gr rfl;simp[j,fY,l1,so.len];have a:=q.D.gx _ q.gl;split
 ·rename_i k;have e:draw ops t.s.pos m=(0,t.s.pos):=by
   unfold draw;rw[wBK (by omega)]
  rw[e]at H;exact H h (Kp.refl _ _ _) q
 ·rename_i b;have b:t.s.pos<ops.length:=by omega
  have e:draw ops t.s.pos m=(iF ops[t.s.pos] m,t.s.pos+1):=by
   unfold draw;rw[iz b]
  rw[e]at H;have w1:iy .i64 ((t.s.pos:Int)+1)=((t.s.pos+1:Nat):Int):=by rw[gS (by simp[Cf];omega)];omega
  have e1:=nY (o:=0) (oY:=[.I ((t.s.pos+1:Nat):Int)]) q.ga (by simp) rfl rfl;have hc:lU (λl=>l=L.nW) h (h.put L.nW (.cells fw 1 true false [.I ((t.s.pos+1:Nat):Int)])):=lU.put _ rfl a.1;have c:∀l,F l->(h.put L.nW (.cells fw 1 true false [.I ((t.s.pos+1:Nat):Int)])).get l=h.get l:=λl hl=>gi _ a.1 λe=>a.2.1 (e▸hl);have l2:eC (.ptr L.lr 0) (h.put L.nW (.cells fw 1 true false [.I ((t.s.pos+1:Nat):Int)]))=some vo:=j5 (by rw[c _ q.fr];exact gr) rfl;have l3:eC (.ptr L.nW 0) (h.put L.nW (.cells fw 1 true false [.I ((t.s.pos+1:Nat):Int)]))=some (.I ((t.s.pos+1:Nat):Int)):=j5 (fT _ a.1) rfl;have w2:iy .i64 (((t.s.pos+1:Nat):Int)-1)=(t.s.pos:Nat):=by rw[gS (by simp[Cf];omega)];omega
  let⟨l,o,u,_,p,r,v⟩:=(so.fh c).XZ b .i64 rfl
  obtain⟨rfl⟩:u = .I ops[t.s.pos]:=by simpa using v.1
  simp only[ w1,fY,e1,eh,l2,l3,iu,w2,p,r];refine wL f (by omega) (H _ ⟨hc.next,λl hl=>hl.elim (c l) λhl=>gi _ a.1 λe=>hl.2 e.symm⟩ ?_);have w:Dw F (gm G L.nW) h L.lu L.ie L.jq t R:={q.D with gx:=λl hl=>q.D.gx l hl.1}
  have D':=(w.other hc λl hl=>by subst hl;exact⟨a.2.1,λx=>x.2 rfl,a.2.2⟩).1;refine q.zcx c ?_ (λ_ h=>h) q.hq q.gl (fT _ a.1);have d:∀l,G l->_:=λl hl=>if e:l=L.nW then e▸(⟨a.1,a.2.1,a.2.2⟩:_/\_/\∀i,¬comp L.lu L.ie L.jq R i L.nW) else D'.gx l ⟨hl,e⟩
  exact{D' with gx:=d}
def gp(G:Nat->Prop)(v:V)(p:Nat):Nat->Prop:=λl=>G l\/l=p\/Loc v l
theorem BE(l:List Nat)(h:0<l.length):l.getD (l.length-1) 0=l.getLastD 0:=by
 rw[List.getLastD_eq_getLast?,List.getLast?_eq_getElem?,OV]
theorem Nm(q:Dq F G h L ops t R)(hk:0<t.s.known.length)(aN:t.s.known.length<1000)(hs:t.s.ez.length<1000)(ho:ops.length<9223372036854775808)
  (H:∀F' h' R',(∀l,F l->F' l)->Kp F (gm G L.nW) h h'->Dq F' G h' L ops {t with s:=(fG ops t.s).2} R'->R'.vk=R.vk->Q (.I ((fG ops t.s).1:Nat)) h') :
  cP CS fU [.ptr L.lu 0,.ptr L.pT 0,.ptr L.ie 0] h Q:=by
 refine DL rfl rfl ?_;unfold tZ;have aM:=(q.D.gx _ q.gl).1;have am:∀l,G l->l<h.next:=λl hl=>(q.D.gx l hl).1;have an:∀i l,comp L.lu L.ie L.jq R i l->l<h.next:=λi l hl=>(q.D.sig hl).2.1;have eb:fm [(V.I 0),(V.I 0),V.ed,V.ed] [(0,1),(1,1),(2,1),(3,1)] [(0,(V.I 1)),(1,.I t.s.ez.length)]=some (.agg [.I 1,.I t.s.ez.length,.ed,.ed]):=rfl;have T:(h.new (.cells 85 1 true false [(V.I 0),(V.I 0),V.ed,V.ed])).get h.next=some (.cells 85 1 true false [(V.I 0),(V.I 0),V.ed,V.ed]):=eJ _ _;have e1:=GX (n:=4) (ws:=[.I 1,.I t.s.ez.length,.ed,.ed]) T rfl rfl rfl;simp only[fN,fY,HP,q.D.ldS,q.D.os.len,eb,fI,e1,eh];have J:h.next<(h.new (.cells 85 1 true false [(V.I 0),(V.I 0),V.ed,V.ed])).next:=RC _
 have c2:lU (λl=>l=h.next) h ((h.new (.cells 85 1 true false [(V.I 0),(V.I 0),V.ed,V.ed])).put h.next (.cells 85 1 true false [.I 1,.I t.s.ez.length,.ed,.ed])):=
  (lU.new _ _).trans (lU.put _ rfl J)
 have g2:=fT (h:=h.new (.cells 85 1 true false [(V.I 0),(V.I 0),V.ed,V.ed])) (.cells 85 1 true false [.I 1,.I t.s.ez.length,.ed,.ed]) J;have n2:((h.new (.cells 85 1 true false [(V.I 0),(V.I 0),V.ed,V.ed])).put h.next (.cells 85 1 true false [.I 1,.I t.s.ez.length,.ed,.ed])).next=h.next+1:=rfl;generalize ((h.new (.cells 85 1 true false [(V.I 0),(V.I 0),V.ed,V.ed])).put h.next (.cells 85 1 true false [.I 1,.I t.s.ez.length,.ed,.ed]))=h2 at*;clear T e1 J;have fresh:∀l,h.next<=l->¬F l/\¬G l/\∀i,¬comp L.lu L.ie L.jq R i l:=λl hl=>⟨λhf=>by have:=q.D.fl l hf;omega,λhg=>by have:=am l hg;omega,λi hi=>by have:=an i l hi;omega⟩
 obtain ⟨U,k2⟩:=q.D.other c2 (λl hl=>by subst hl;exact fresh _ (jv _));have W:Dw F (gp G .ed h.next) h2 L.lu L.ie L.jq t R:=U.zar λl hl=>hl.elim .inl λhl=> .inr (by
  rcases hl with rfl|hl
  ·exact⟨by omega,(fresh _ (jv _)).1,(fresh _ (jv _)).2.2⟩
  ·exact hl.elim)
 have q2:Dq F (gp G .ed h.next) h2 L ops t R:=q.step k2 W (λ_ h=>h) (.inl q.gl) q.hq rfl;rw[q2.uj];simp only[fY,VR,IB,BT,OJ,Hf];refine wN (m:=4) q2 (by decide) (by decide) ho λx k3 q3=>?_;have g3:x.get h.next=some (.cells 85 1 true false [.I 1,.I t.s.ez.length,.ed,.ed]):=by
  rw[k3.fh _ (.inr ⟨.inr (.inl rfl),by omega⟩)];exact g2
 have hr:(draw ops t.s.pos 4).1<4:=wG _ _ (by decide)
 refine AO (λk x0 x1 x2 x4 x5 h'=>∃(s:Ds) (l:List Nat) (vl:V),x0 = .ptr L.lu 0/\x1 = .ptr L.pT 0/\x2 = .ptr L.ie 0/\x4 = .ptr h.next 0/\x5 = .I (k:Nat)/\Dq F (gp G vl h.next) h' L ops {t with s:=s} R/\Kp F (gm G L.nW) h h'/\
  h'.get h.next=some (.cells 85 1 true false [.I 1,.I t.s.ez.length,vl,.ed])/\kT eN fw F h' l vl/\(∀z,Loc vl z->h.next<z)/\some_ ops k s l=some_ ops (draw ops t.s.pos 4).1 (num ops t.s 4).2 []/\s.known=t.s.known/\s.ez=t.s.ez/\l.length+k<=4) ?_
  ⟨(num ops t.s 4).2,[],.ed,rfl,rfl,rfl,rfl,rfl,q3,(k2.gm L.nW).trans ⟨k3.next,λl hl=>k3.fh l (hl.imp id λhl=>⟨.inl hl.1,hl.2⟩)⟩ (λ_ h=>h),g3,.nil,λ_ h=>h.elim,rfl,rfl,rfl,by simp;omega⟩
 clear q3 k3 g3 q2 W U k2 g2 c2 eb;rintro k x0 x1 x2 x4 x5 h' ⟨s,l,vl,rfl,rfl,rfl,rfl,rfl,g,k',gF,ol,N,j,p,y,hlen⟩;unfold qW;have ao:eC (.ptr h.next 2) h' = some vl:=j5 gF rfl;have kl:({t with s:=s}:Dt).s.known.length=t.s.known.length:=by show s.known.length=_;rw[p]
 have X:h.next<h'.next:=(g.D.gx h.next (.inr (.inl rfl))).1;have Y:∀{f:Hp} {s1:Ds},Dq F (gp G vl h.next) f L ops {t with s:=s1} R->Dw F G f L.lu L.ie L.jq {t with s:=s1} R:=λq=>{q.D with gx:=λl hl=>q.D.gx l (.inl hl)}
 simp only[iG,fY,zaj,AL]
 cases k with
 | succ k=>
   rw[if_pos (by omega)];have Z:=g.D.ok.len;rw[kl]at Z;rw[g.uj];simp only[fN,fY,HP,ao,g.D.Ae,Z,VR,IB,BT,OJ,Hf];refine wN (m:=t.s.known.length) g hk (by omega) ho λf r E=>?_;have aq:f.get h.next=some (.cells 85 1 true false [.I 1,.I (t.s.ez.length:Nat),vl,.ed]):=by
     rw[r.fh _ (.inr ⟨.inr (.inl rfl),by omega⟩)];exact gF
   have aa:kT eN fw F f l vl:=ol.fh (λz b=>r.fh z (.inl b)) (λz b=>r.fh z (.inr ⟨.inr (.inr b),by have:=N z b;omega⟩)) r.next;have ar:(draw ops s.pos t.s.known.length).1<t.s.known.length:=wG _ _ hk;obtain⟨l1,o1,ab,ac,i1,i2⟩:=E.GQ (i:=(draw ops s.pos t.s.known.length).1) (by show _<s.known.length;rw[p];exact ar);have A:eC (.ptr l1 o1) f=some (.I (s.known.getD (draw ops s.pos t.s.known.length).1 0:Nat)):=i2;refine⟨r.next,?_⟩;have e3:∀a:Nat,iK 3 1 1 (V.I 0) [(0,V.I (a:Nat))]=some (.cells 3 1 true false [V.I (a:Nat)],λl=> .slice l 0 1):=λ_=>rfl;have au:gP 1 R.vk (.I ((draw ops ({t with s:=s}:Dt).s.pos t.s.known.length).1:Nat))=some (.ptr l1 o1):=i1;simp only[au,A,fY,e3,hH];generalize hv:s.known.getD (draw ops s.pos t.s.known.length).1 0=a at*;have U:=(Y E).grow (lU.new f (.cells 3 1 true false [V.I (a:Nat)]));have ae:(f.new (.cells 3 1 true false [V.I (a:Nat)])).get h.next=_:=(eE _ (by have:=r.next;omega)).trans aq;refine⟨⟨eJ _ _,O.jA _ _ _ _ _⟩,iJ A (eE _ ab),U.Ae,j5 ae rfl,?_⟩;have aw:kT eN fw F (f.new (.cells 3 1 true false [V.I (a:Nat)])) l vl:=aa.fh (λz b=>eE _ (E.D.fl z b)) (λz b=>eE _ (aa.xN b).2.1) (RM _);have hx:kV (f.new (.cells 3 1 true false [V.I (a:Nat)])) 1 (.slice f.next 0 1)=some (1,[V.I (a:Nat)]):=nC (k:=0) rfl;obtain⟨d,x,a1,ag,c3,ax⟩:=aw.append (lE:=8) (ys:=[a]) hx ⟨[V.I (a:Nat)],[],rfl,rfl,trivial⟩ rfl rfl (by simp) (by decide) (λz b=>wBV (E.D.fl z b)) (by simp;omega) (by simp;omega);have n2:(f.new (.cells 3 1 true false [V.I (a:Nat)])).next=f.next+1:=rfl;have u:h.next<x.next:=by have:=c3.next;have:=r.next;omega
   have ay:x.get h.next=some (.cells 85 1 true false [.I 1,.I (t.s.ez.length:Nat),vl,.ed]):=by
     rw[c3.fh _ (by have:=r.next;omega) λb=>wBz _ (N _ b)];exact ae
   have a2:=nY (o:=2) (v:=d) (oY:=[.I 1,.I (t.s.ez.length:Nat),d,.ed]) ay (by simp) ag.one rfl;have az:eQ 3 1 8 vl (.slice f.next 0 1) (f.new (.cells 3 1 true false [V.I (a:Nat)]))=some (.val d x):=a1;have w1:iy .i64 (((k+1:Nat):Int)-1)=(k:Nat):=Qj (by omega);simp only[az,eh,a2,iu,w1,fY];refine⟨c3.next,jv _,k,by omega,?_⟩
   have cc:lU (λz=>Loc vl z\/z=h.next) (f.new (.cells 3 1 true false [V.I (a:Nat)])) (x.put h.next (.cells 85 1 true false [.I 1,.I (t.s.ez.length:Nat),d,.ed])):=
     (c3.zaR λ_ _ h=> .inl h).trans (lU.put _ (.inr rfl) u)
   obtain⟨D4,k4⟩:=U.other cc λz b=>fresh z (by rcases b with b|rfl;exact Nat.le_of_lt (N z b);exact jv _);have K:∀z,Loc d z->h.next<z:=λz b=>(ax z b).elim (N z) λe=>by have:=r.next;omega
   have ah:kT eN fw F (x.put h.next (.cells 85 1 true false [.I 1,.I (t.s.ez.length:Nat),d,.ed])) (l++[a]) d:=
     ag.fh (λz b=>gi _ u λe=>(fresh h.next (jv _)).1 (e▸b)) (λz b=>gi _ u (by have:=K z b;omega)) (jv _)
   have aA:Dw F (gp G d h.next) (x.put h.next (.cells 85 1 true false [.I 1,.I (t.s.ez.length:Nat),d,.ed])) L.lu L.ie L.jq _ R:=D4.zar λz b=>b.elim .inl λb=> .inr (by
     rcases b with rfl|b
     ·exact⟨u,(fresh _ (jv _)).1,(fresh _ (jv _)).2.2⟩
     ·have B:=fresh z (Nat.le_of_lt (K z b));exact⟨(ah.xN b).2.1,B.1,B.2.2⟩)
   have kk:Kp F G f (x.put h.next (.cells 85 1 true false [.I 1,.I (t.s.ez.length:Nat),d,.ed])):=
     (Kp.new F G f _ E.D.fl λz b=>(E.D.gx z (.inl b)).1).trans k4 λ_ h=>h
   have qG:Dq F G f L ops _ R:={E with D:=Y E,gl:=q.gl}
   refine⟨{s with pos:=(draw ops s.pos t.s.known.length).2},l++[a],d,by trivial,by trivial,by trivial,by trivial,by trivial,qG.step kk aA (λ_ h=>h) (.inl q.gl) g.hq rfl,?_,fT _ u,ah,K,?_,p,y,by simp;omega⟩
   ·exact(k'.trans ⟨r.next,λz b=>r.fh z (b.imp id λb=>⟨.inl b.1,b.2⟩)⟩ λ_ h=>h).trans (kk.gm _) λ_ h=>h
   ·rw[<-j,<-hv]
    show _=some_ ops k (fJ ops s).2 (l++[(fJ ops s).1]);unfold fJ
    rw[p]
 | zero=>
   rw[if_neg (by omega)];obtain⟨e1,e2⟩:l=(some_ ops (draw ops t.s.pos 4).1 (num ops t.s 4).2 []).1/\s=(some_ ops (draw ops t.s.pos 4).1 (num ops t.s 4).2 []).2:=by rw[<-j];exact⟨rfl,rfl⟩
   have Z:=g.D.ok.len;rw[kl]at Z;have w1:iy .i64 (((t.s.known.length:Nat):Int)-1)=((t.s.known.length-1:Nat):Int):=by
     rw[show((t.s.known.length:Nat):Int)=((t.s.known.length-1+1:Nat):Int) by omega];exact Qj (by omega)
   obtain ⟨l1,o1,ab,ac,i1,i2⟩:=g.GQ (i:=t.s.known.length-1) (by rw[kl];omega);have A:eC (.ptr l1 o1) h' = some (.I (t.s.known.getLastD 0:Nat)):=by
     rw[i2,show({t with s:=s}:Dt).s.known=t.s.known from p,BE _ hk]
   have e3:∀a:Nat,iK 3 1 1 (V.I 0) [(0,V.I (a:Nat))]=some (.cells 3 1 true false [V.I (a:Nat)],λl=> .slice l 0 1):=λ_=>rfl;simp only[g.D.Ae,fY,Z,iu,w1,i1,A,e3,fI,fN,HP];have D5:=(Y g).grow (lU.new h' (.cells 3 1 true false [V.I (t.s.known.getLastD 0:Nat)]));have k5:Kp F G h' (h'.new (.cells 3 1 true false [V.I (t.s.known.getLastD 0:Nat)])):=(Y g).yA _;have g5:(h'.new (.cells 3 1 true false [V.I (t.s.known.getLastD 0:Nat)])).get h'.next=_:=eJ _ _;have aB:(h'.new (.cells 3 1 true false [V.I (t.s.known.getLastD 0:Nat)])).get h.next=_:=(eE _ X).trans gF;have aC:kT eN fw F (h'.new (.cells 3 1 true false [V.I (t.s.known.getLastD 0:Nat)])) l vl:=ol.fh (λz b=>eE _ (g.D.fl z b)) (λz b=>eE _ (ol.xN b).2.1) (RM _);have n5:(h'.new (.cells 3 1 true false [V.I (t.s.known.getLastD 0:Nat)])).next=h'.next+1:=rfl;generalize h'.new (.cells 3 1 true false [V.I (t.s.known.getLastD 0:Nat)])=B at*;have a1:=nY (o:=3) (v:= .slice h'.next 0 1) (oY:=[.I 1,.I (t.s.ez.length:Nat),vl,.slice h'.next 0 1]) aB (by simp) rfl rfl;have C:h.next<B.next:=by omega
   obtain⟨D6,k6⟩:=D5.other (lU.put (S:=λz=>z=h.next) (.cells 85 1 true false [.I 1,.I (t.s.ez.length:Nat),vl,.slice h'.next 0 1]) rfl C) λz b=>by subst b;exact fresh _ (jv _)
   have aD:=fT (.cells 85 1 true false [.I 1,.I (t.s.ez.length:Nat),vl,.slice h'.next 0 1]) C;have g6:(B.put h.next (.cells 85 1 true false [.I 1,.I (t.s.ez.length:Nat),vl,.slice h'.next 0 1])).get h'.next=_:=(gi _ C (by omega)).trans g5;have ai:kT eN fw F (B.put h.next (.cells 85 1 true false [.I 1,.I (t.s.ez.length:Nat),vl,.slice h'.next 0 1])) l vl:=aC.fh (λz b=>k6.fh z (.inl b)) (λz b=>gi _ C (by have:=N z b;omega)) (jv _);have n6:(B.put h.next (.cells 85 1 true false [.I 1,.I (t.s.ez.length:Nat),vl,.slice h'.next 0 1])).next=B.next:=rfl;simp only[a1,eh];generalize B.put h.next (.cells 85 1 true false [.I 1,.I (t.s.ez.length:Nat),vl,.slice h'.next 0 1])=c at*;have lA:gy 4 (.ptr h.next 0) c=some (.agg [.I 1,.I (t.s.ez.length:Nat),vl,.slice h'.next 0 1]):=Av aD rfl;have ow:gz [.I 1,.I (t.s.ez.length:Nat),vl,.slice h'.next 0 1]=true:=by simp only[fe,ol.one];rfl
   have e7:iK 85 4 1 (V.agg [(V.I 0),(V.I 0),V.ed,V.ed]) [(0,.agg [.I 1,.I (t.s.ez.length:Nat),vl,.slice h'.next 0 1])]=some (.cells 85 4 true false [.I 1,.I (t.s.ez.length:Nat),vl,.slice h'.next 0 1],λl=> .slice l 0 1):=Db rfl rfl ow;have e8:∀m:Nat,fm [V.ed] [(0,1)] [(0,.slice m 0 1)]=some (.agg [.slice m 0 1]):=λ_=>rfl;have e9:∀m:Nat,iK 88 1 1 (V.agg [V.ed]) [(0,.agg [.slice m 0 1])]=some (.cells 88 1 true false [.slice m 0 1],λl=> .slice l 0 1):=λm=>Db rfl rfl rfl;simp only[D6.ldS,fY,lA,e7,fI,e8,e9];have D7:=D6.grow (lU.new c (.cells 85 4 true false [.I 1,.I (t.s.ez.length:Nat),vl,.slice h'.next 0 1]));have k7:=D6.yA (.cells 85 4 true false [.I 1,.I (t.s.ez.length:Nat),vl,.slice h'.next 0 1]);have g7:(c.new (.cells 85 4 true false [.I 1,.I (t.s.ez.length:Nat),vl,.slice h'.next 0 1])).get c.next=_:=eJ _ _;have aE:(c.new (.cells 85 4 true false [.I 1,.I (t.s.ez.length:Nat),vl,.slice h'.next 0 1])).get h'.next=_:=(eE _ (by omega)).trans g6;have aj:kT eN fw F (c.new (.cells 85 4 true false [.I 1,.I (t.s.ez.length:Nat),vl,.slice h'.next 0 1])) l vl:=ai.fh (λz b=>eE _ (D6.fl z b)) (λz b=>eE _ (ai.xN b).2.1) (RM _);have n7:(c.new (.cells 85 4 true false [.I 1,.I (t.s.ez.length:Nat),vl,.slice h'.next 0 1])).next=c.next+1:=rfl;generalize c.new (.cells 85 4 true false [.I 1,.I (t.s.ez.length:Nat),vl,.slice h'.next 0 1])=w at*;have D8:=D7.grow (lU.new w (.cells 88 1 true false [.slice c.next 0 1]));have k8:=D7.yA (.cells 88 1 true false [.slice c.next 0 1]);have g8:(w.new (.cells 88 1 true false [.slice c.next 0 1])).get c.next=_:=(eE _ (by omega)).trans g7;have aF:(w.new (.cells 88 1 true false [.slice c.next 0 1])).get h'.next=_:=(eE _ (by omega)).trans aE;have ak:kT eN fw F (w.new (.cells 88 1 true false [.slice c.next 0 1])) l vl:=aj.fh (λz b=>eE _ (D7.fl z b)) (λz b=>eE _ (aj.xN b).2.1) (RM _);have aG:kV (w.new (.cells 88 1 true false [.slice c.next 0 1])) 1 (.slice w.next 0 1)=some (1,[.slice c.next 0 1]):=nC (k:=0) rfl;have n8:(w.new (.cells 88 1 true false [.slice c.next 0 1])).next=w.next+1:=rfl;generalize w.new (.cells 88 1 true false [.slice c.next 0 1])=P at*;have D9:Dw (λz=>F z\/Loc vl z\/z=h'.next\/z=c.next) G P L.lu L.ie L.jq {t with s:=s} R:=D8.more (λ_ h=> .inl h) λz b=>b.elim .inl λb=> .inr (by
     have aH:h.next<z/\z<P.next:=by
       rcases b with b|rfl|rfl
       ·exact⟨N z b,(ak.xN b).2.1⟩
       ·omega
       ·omega
     have h9:=fresh z (by omega);exact⟨aH.2,h9.2.2,h9.2.1⟩)
   have sl:iH eN (λz=>F z\/Loc vl z\/z=h'.next\/z=c.next) P l vl:=ak.slR (λ_ h=> .inl h) λ_ h=> .inr (.inl h)
   have ss:iH eN (λz=>F z\/Loc vl z\/z=h'.next\/z=c.next) P [t.s.known.getLastD 0] (.slice h'.next 0 1):=
     .inr ⟨h'.next,0,3,true,false,[V.I (t.s.known.getLastD 0:Nat)],rfl,.inr (.inr (.inl rfl)),aF,.inr rfl,Ll _,⟨_,[],rfl,rfl,trivial⟩⟩
   have sf:iH eF (λz=>F z\/Loc vl z\/z=h'.next\/z=c.next) P [⟨1,(t.s.ez.length:Nat),l,[t.s.known.getLastD 0]⟩] (.slice c.next 0 1):=
     .inr ⟨c.next,0,85,true,false,[.I 1,.I (t.s.ez.length:Nat),vl,.slice h'.next 0 1],rfl,.inr (.inr (.inr rfl)),g8,.inr rfl,Ll _,⟨_,[],rfl,⟨vl,_,rfl,sl,ss⟩,trivial⟩⟩
   obtain⟨v',h9,al,b1,b2,b3,b4,k9,M⟩:=D9.zgX (ys:=[[⟨1,(t.s.ez.length:Nat),l,[t.s.known.getLastD 0]⟩]]) aG ⟨[.slice c.next 0 1],[],rfl,⟨_,rfl,sf⟩,trivial⟩ rfl rfl (by simp) (by show s.ez.length+_<_;rw[y];simp;omega);have aI:eQ 88 1 24 R.vs (.slice w.next 0 1) P=some (.val v' h9):=b1;have lS:=M.os.len;have aJ:((s.ez++[[(⟨1,(t.s.ez.length:Nat),l,[t.s.known.getLastD 0]⟩:Fm)]]).length:Nat)=t.s.ez.length+1:=by rw[y];simp
   have aK:fD v' = some (.I ((t.s.ez.length+1:Nat):Int)):=by rw[<-aJ];exact lS
   have w2:iy .i64 (((t.s.ez.length+1:Nat):Int)-1)=(t.s.ez.length:Nat):=Qj (by omega);simp only[aI,eh,b3,M.ldS,fY,aK,iu,w2];have I:Kp F G h' al:=(((k5.trans k6 λ_ h=>h).trans k7 λ_ h=>h).trans k8 λ_ h=>h).trans ⟨k9.next,λz b=>k9.fh z (b.imp (λh=> .inl h) id)⟩ λ_ h=>h;have qG:Dq F G h' L ops _ R:={g with D:=Y g,gl:=q.gl}
   have hE:({t with s:=(fG ops t.s).2}:Dt) = {t with s:={s with ez:=s.ez++[[⟨1,(t.s.ez.length:Nat),l,[t.s.known.getLastD 0]⟩]]} }:=by
     unfold fG;rw[e1,y,e2];rfl
   have aL:=qG.step I M (λ_ h=> .inl h) q.gl g.hq rfl;refine H (λz=>F z\/Loc vl z\/z=h'.next\/z=c.next) al {R with vs:=v'} (λ_ h=> .inl h) (k'.trans (I.gm _) λ_ h=>h) ?_ rfl;rw[hE];exact aL
end
open Un
theorem Yj{t:Nat}{k:IntKind}{a b:Int}{A B:Prop}(h:if a<b then A else B):oP (ef .lss t (.int k a) (.int k b)) λv=>bP v A B:=by
 simp_all
theorem gw{t:Nat}{k:IntKind}{a b:Int}{A B:Prop}(h:if a=b then A else B):oP (ef .eql t (.int k a) (.int k b)) λv=>bP v A B:=by
 simp_all
theorem SH{t:Nat}{k:IntKind}{a b:Int}{A B:Prop}(h:if b<a then A else B):oP (ef .gtr t (.int k a) (.int k b)) λv=>bP v A B:=by
 simp_all
theorem ju{t n m:Nat}{K:V->Prop}(a:n<1000000000)(b:m<1000000000)(H:K (.I ((n+m:Nat):Int))):oP (ef .add t (.I n) (.I m)) K:=by
 grind[Cv,zgC,fY]
theorem zr{t n:Nat}{K:V->Prop}(a:n<1000000000)(h0:0<n)(H:K (.I ((n-1:Nat):Int))):oP (ef .sub t (.I n) (.I 1)) K:=by
 obtain⟨m,rfl⟩:∃m,n=m+1:=by simp_all
 grind[iu,Qj,fY]
theorem gN{c A B:Prop}[Decidable c] (hc:c)(h:A):if c then A else B:=by simp_all
theorem gD{c A B:Prop}[Decidable c] (hc:¬c)(h:B):if c then A else B:=by simp_all
theorem gf{t n:Nat}{K:V->Prop}(H:K (.I ((n+1:Nat):Int)))(h:n<1000000000:=by omega):oP (ef .add t (.I n) (.I 1)) K:=ju h (by decide) H
theorem gU{t:Nat}{k:IntKind}{a b:Int}{A B:Prop}(H:A)(h:a<b:=by omega):oP (ef .lss t (.int k a) (.int k b)) λv=>bP v A B:=Yj (gN h H)
theorem iY{t:Nat}{k:IntKind}{a b:Int}{A B:Prop}(H:B)(h:¬a<b:=by omega):oP (ef .lss t (.int k a) (.int k b)) λv=>bP v A B:=Yj (gD h H)
section
variable{F F' G G':Nat->Prop}{h h':Hp}{L:Lc}{ops:List Int}{t t':Dt}{R R':Rw}{Q:fo}
theorem wi{α:Type}{l:List α}{x:α}{n:Nat}(h:l.length<=n):(l++[x]).length<=n+1:=by simp_all
structure Sm (s:Ds) (n:Nat):Prop where
 v:s.ee.length<=n
 c:s.cur.length<=n
 k:s.known.length<=n
 st:s.ez.length<=n
 k0:0<s.known.length
theorem Sm.le{s:Ds}{n m:Nat}(a:Sm s n)(h:n<=m):Sm s m:=⟨KK a.v h,KK a.c h,KK a.k h,KK a.st h,a.k0⟩
theorem Sm.put{s:Ds}{n:Nat}(a:Sm s n)(x:Vl):Sm (put s x) (n+1):=
 ⟨wi a.v,wi a.c,wBE a.k,wBE a.st,a.k0⟩
theorem Sm.hO{s:Ds}{n:Nat}(a:Sm s n)(x:Vl):Sm (hO s x) (n+1):=
 ⟨wi a.v,wi a.c,
  wi a.k,wBE a.st,by show 0<(s.known++[s.ee.length]).length;simp_all⟩
theorem Sm.pos{s:Ds}{n:Nat}(a:Sm s n)(p:Nat):Sm {s with pos:=p} n:=⟨a.v,a.c,a.k,a.st,a.k0⟩
theorem Sm.state{s:Ds}{n:Nat}(a:Sm s n)(ops:List Int):Sm (fG ops s).2 (n+1):=by
 have b:∃p,(some_ ops (num ops s 4).1 (num ops s 4).2 []).2 = {s with pos:=p}:=by
  let⟨p,h⟩:=GA ops (num ops s 4).1 (num ops s 4).2 []
  exact⟨p,h⟩
 let⟨p,b⟩:=b
 unfold fG;simp[b];exact⟨wBE a.v,wBE a.c,wBE a.k,wi a.st,a.k0⟩
theorem zbA(q:Dq F G h L ops t R){n a:Nat}(m:Sm t.s n)(p:n<1000){K:Hp->Prop}
  (H:∀h' R',Kp F G h h'->Dq F G h' L ops {t with s:={t.s with known:=t.s.known++[a]} } R'->K h') :
  vj (iK 3 1 1 (V.I 0) [(0,.I a)]) h λo c b=>((b.get h.next=some o/\O.beq o o=true)/\(eC (.ptr L.ie 0) b=some R.vk/\fg (eQ 3 1 8 R.vk c b) λd e=>(b.next<=e.next/\fg (gL 1 (.ptr L.ie 0) d e) λ_ g=>(e.next<=g.next/\K g)))):=by
 have r:iK 3 1 1 (V.I 0) [(0,V.I a)]=some (.cells 3 1 true false [V.I a],λl=> .slice l 0 1):=rfl;rw[r,hH];have i:=q.D.grow (lU.new h (.cells 3 1 true false [V.I a]));have u:kV (h.new (.cells 3 1 true false [V.I a])) 1 (.slice h.next 0 1)=some (1,[V.I a]):=nC rfl
 let⟨v',A,B,v,w,x,y,z,D4⟩:=i.zdd (ys:=[a]) u ⟨[V.I a],[],rfl,rfl,trivial⟩ rfl rfl (by simp) (by have:=m.k;simp;omega)
 have f:=v;refine⟨by grind[eJ,O.jA],i.Ae,?_⟩;simp[f,eh,x];have j:=(q.D.yA (.cells 3 1 true false [V.I a])).trans z λ_ h=>h;exact⟨w,y,H _ _ j (q.step j D4 (by simp_all) q.gl q.hq rfl)⟩
theorem Hc{x:Vl}{w:List V}(q:Dq F G h L ops t R){n:Nat}(b:Sm t.s n)(p:n<999)(r:eV.rel F h x w){K:Hp->Prop}
  (H:∀h' R',Kp F G h h'->Dq F G h' L ops {t with s:=hO t.s x} R'->K h') :
  cP CS fx [.agg w,.ptr L.lu 0,.ptr L.jq 0] h λd e=>(h.next<=e.next/\vj (iK 3 1 1 (V.I 0) [(0,d)]) e λo f a=>((a.get e.next=some o/\O.beq o o=true)/\(eC (.ptr L.ie 0) a=some R.vk/\fg (eQ 3 1 8 R.vk f a) λg i=>(a.next<=i.next/\fg (gL 1 (.ptr L.ie 0) g i) λ_ m=>(i.next<=m.next/\K m))))):=by
 have hv:=b.v;have hc:=b.c;refine UB q.D q.hq r (by omega) (by omega) λC R1 j u k l=>⟨j.next,?_⟩
 have y:=q.step j u (by simp_all) q.gl k rfl;rw[<-l];exact zbA y (b.put x) (by omega) λz R2 A B=>H z R2 (j.trans A λ_ h=>h) B
theorem Kt{x:Vl}{w:List V}(q:Dq F G h L ops t R){n:Nat}(d:Sm t.s n)(f:n<999)(g:eV.rel F h x w){K:fo}
  (H:∀h' R',Kp F G h h'->R'.vk=R.vk->Dq F G h' L ops {t with s:=put t.s x} R'->K (.I t.s.ee.length) h'):cP CS fx [.agg w,.ptr L.lu 0,.ptr L.jq 0] h K:=by
 have hv:=d.v;have hc:=d.c;exact UB q.D q.hq g (by omega) (by omega) λi R1 e j a b=>H i R1 e b (q.step e j (by simp_all) q.gl a rfl)
theorem Nz(q:Dq F G h L ops t R)(c:ops.length<9223372036854775808){n:Nat}(a:Sm t.s n)(d:n<1000){K:fo}
  (H:∀h' l o,Kp F (gm G L.nW) h h'->Dq F G h' L ops {t with s:=(fJ ops t.s).2} R->l<h'.next->gP 1 R.vk (.I ((draw ops t.s.pos t.s.known.length).1:Nat))=some (.ptr l o)->eC (.ptr l o) h' = some (.I ((fJ ops t.s).1:Nat))->K (.I ((draw ops t.s.pos t.s.known.length).1:Nat)) h') :
  cP CS fq [.I t.s.known.length,.ptr L.nW 0,.ptr L.lr 0] h K:=by
 refine wN q a.k0 (by have:=a.k;omega) c λe f b=>?_
 let⟨l,o,hl,_,g,j⟩:=b.GQ (i:=(draw ops t.s.pos t.s.known.length).1) (wG _ _ a.k0)
 exact H e l o f b hl g j
theorem zeh{b:Bk}{nv:V}(q:Dq F G h L ops t R){n:Nat}(hn:t.blocks.length<1000)(XK:b.ee=[])(w:b.fu=[])(a:iH eN F h b.next nv)
  (H:∀F' h' R',(∀l,F l->F' l)->Kp F G h h'->Dq F' G h' L ops {s:={t.s with cur:=[]},blocks:=t.blocks++[⟨t.s.cur,b.fin,b.cond,b.next,t.fu,b.state⟩],fu:=[]} R'->Q (.I t.blocks.length) h') :
  cP CS jS [.agg (rr b .ed nv .ed),.ptr L.jq 0,.ptr L.lu 0] h Q:=by
 refine Dx rfl rfl ?_;unfold uG;have x:gz (rr b .ed nv .ed)=true:=by simp only[rr,fe,a.one];rfl
 have y:=λl hl=>(q.D.gx l hl).1;have z:∀i l,comp L.lu L.ie L.jq R i l->l<h.next:=λi l hl=>(q.D.sig hl).2.1;have fresh:∀l,h.next<=l->¬F l/\¬G l/\∀i,¬comp L.lu L.ie L.jq R i l:=λl hl=>⟨λA=>by have:=q.D.fl l A;omega,by grind,by grind⟩
 have j:=q.D.grow (lU.new h (.cells 79 1 true false (rr b .ed nv .ed)));have B:=q.D.yA (.cells 79 1 true false (rr b .ed nv .ed));have C:(h.new (.cells 79 1 true false (rr b .ed nv .ed))).get h.next=_:=eJ _ _;have e:h.next<(h.new (.cells 79 1 true false (rr b .ed nv .ed))).next:=RC _;simp[JF x,fI,j.ldC];generalize h.new (.cells 79 1 true false (rr b .ed nv .ed))=k at*;have e2:=nY (o:=0) (oY:=rr b R.cc nv .ed) C (by simp[rr]) (by rw[q.hq];exact q.D.oc.one) rfl
 let⟨D2,E⟩:=j.other (lU.put (.cells 79 1 true false (rr b R.cc nv .ed)) rfl e) (by simp_all)
 have I:=fT (.cells 79 1 true false (rr b R.cc nv .ed)) e;have m:h.next<(k.put h.next (.cells 79 1 true false (rr b R.cc nv .ed))).next:=e;simp[e2,eh,D2.ldP];generalize k.put h.next (.cells 79 1 true false (rr b R.cc nv .ed))=J at*;have K:=nY (o:=4) (oY:=rr b R.cc nv R.vp) I (by simp[rr]) q.D.sp.one rfl
 let⟨D3,M⟩:=D2.other (lU.put (.cells 79 1 true false (rr b R.cc nv R.vp)) rfl m) (by simp_all)
 have N:=fT (.cells 79 1 true false (rr b R.cc nv R.vp)) m;simp[K,eh,D3.ldB];generalize J.put h.next (.cells 79 1 true false (rr b R.cc nv R.vp))=d at*;have p:gz (rr b R.cc nv R.vp)=true:=by simp only[rr,fe,a.one,q.hq,q.D.oc.one,q.D.sp.one];rfl
 have O:gy 6 (.ptr h.next 0) d=some (.agg (rr b R.cc nv R.vp)):=Av N rfl;have P:iK 79 6 1 (V.agg [V.ed,(V.I 0),(V.I 0),V.ed,V.ed,(V.I 0)]) [(0,.agg (rr b R.cc nv R.vp))]=some (.cells 79 6 true false (rr b R.cc nv R.vp),λl=> .slice l 0 1):=Db rfl rfl p;simp[O,fY,P];have r:=D3.grow (lU.new d (.cells 79 6 true false (rr b R.cc nv R.vp)));have S:=D3.yA (.cells 79 6 true false (rr b R.cc nv R.vp));have f:kV (d.new (.cells 79 6 true false (rr b R.cc nv R.vp))) 6 (.slice d.next 0 1)=some (1,rr b R.cc nv R.vp):=nC rfl;have u:Kp F G h (d.new (.cells 79 6 true false (rr b R.cc nv R.vp))):=((B.trans E λ_ h=>h).trans M λ_ h=>h).trans S λ_ h=>h;generalize d.new (.cells 79 6 true false (rr b R.cc nv R.vp))=v at*
 let⟨sc,D5⟩:=r.flush
 have T:eK.rel (fzc F R.vc) v ⟨t.s.cur,b.fin,b.cond,b.next,t.fu,b.state⟩ (rr b R.cc nv R.vp):=
  ⟨R.cc,nv,R.vp,rfl,by rw[q.hq];exact sc,(a.fh λl hl=>u.fh l (.inl hl)).mono λ_ h=> .inl h,r.sp.mono λ_ h=> .inl h⟩
 let⟨v',U,h6,W,a2,X,a4,Y,D6⟩:=D5.zgN (ys:=[⟨t.s.cur,b.fin,b.cond,b.next,t.fu,b.state⟩]) f ⟨rr b R.cc nv R.vp,[],by simp,T,trivial⟩ rfl p (by simp) (by simp;omega)
 have g:eQ 79 6 96 R.vb (.slice d.next 0 1) v=some (.val v' U):=W;have Z:fm [V.ed,(V.I 0),(V.I 0),V.ed,V.ed,(V.I 0)] [(0,1),(1,1),(2,1),(3,1),(4,1),(5,1)] []=some (.agg [.ed,.I 0,.I 0,.ed,.ed,.I 0]):=rfl;have e8:=GX (n:=6) (ws:=[.ed,.I 0,.I 0,.ed,.ed,.I 0]) D6.gb rfl rfl rfl
 let⟨k7,D7⟩:=D6.zcM (c:= .ed) .nil
 have lb:fD v' = some (.I ((t.blocks.length+1:Nat):Int)):=by
  have:=D7.ob.len;simpa using this
 simp only[g,eh,X,Z,fY,e8,D7.ldB,lb,iu,Qj (n:=t.blocks.length) (by omega)];have kb:=(u.trans Y λ_ h=> .inl h).trans k7 λ_ h=> .inl h;exact H (fzc F R.vc) _ _ (λ_ h=> .inl h) kb (q.step kb D7 (λ_ h=> .inl h) q.gl rfl rfl)
end
