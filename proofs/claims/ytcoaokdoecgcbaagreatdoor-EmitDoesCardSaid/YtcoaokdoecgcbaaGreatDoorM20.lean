/- Parts. -/
import Derived.Test.YtcoaokdoecgcbaaGreatDoorM18
import Derived.Test.YtcoaokdoecgcbaaGreatDoorM15
set_option maxHeartbeats 4000000
namespace Go.Proofs.YtcoaokdoecgcbaaGreatDoor.Hx
open Un
variable{A B:Prop}{k:IntKind}{w:List V}{K:V->Prop}{a:Int}{s:Ds}{h0:Hp}{x:Vl}
theorem Jy{e:Nat}(a:gi w=true):kZ e (.agg w)=some (.cells e 1 true false w,λl=> .ptr l 0):=by
 unfold kZ
 grind[Al,gi,V.cells]
theorem Ce{e sz:Nat}{z:List V}(b:z.length=sz)(a:w.length=sz)(c:gi w=true):iO e sz 1 (.agg z) [(0,.agg w)]=some (.cells e sz true false w,λl=> .slice l 0 1):=by
 unfold iO;have hs:sV (Nat.mul 0 sz) (DD 1 (V.agg z).cells) (V.agg w).cells=some w:=by
  show sV (0*sz) (z++[]) w=some w;rw[Nat.zero_mul,Ku,EP (by omega),List.take_zero,RL,wBX (by omega),Ku]
 simp[yd,eQ];rw[Al _ (by rw[show(V.agg w).cells=w from rfl,a];simp_all)]
 simp_all
theorem zbD{n:Nat}(h:n<1000000000):jo .i64 (((n+1:Nat):Int)-1)=(n:Nat):=by
 grind[gG,ml]
theorem zhK{n k:Nat}(h:n<1000000000)(a:k<1000000000):jo .i64 (((n:Nat):Int)+(k:Nat))=((n+k:Nat):Int):=by
 grind[gG,ml]
theorem zg6{n:Nat}(h:n<1000000000):jo .i64 (((n:Nat):Int)+1)=((n+1:Nat):Int):=by
 grind[gG,ml]
theorem zb8(t:Nat)(k:IntKind)(a b:Int)(d:b≠0):ef .rem t (.int k a) (.int k b)=some (.int k (a.tmod b)):=by
 have c:hint .rem k a b=some (.int k (a.tmod b)):=by
  cases b with
  | ofNat n=>cases n with
    |zero=>simp_all
    |succ n=>rfl
  |negSucc n=>rfl
 cases k <;> exact c
theorem Pu{n:Int}{m:Nat}{h:Hp}{Q:fj}(f:0<m)(d:m<=1000000000)(H:Q (.I (jC n m:Nat)) h):cP CS iR [.I n,.I m] h Q:=by
 refine Io ?_;have g : -(m:Int)<n.tmod m:=by
  have:=Int.tmod_lt_of_pos (-n) (b:=(m:Int)) (by omega);rw[Int.neg_tmod]at this;omega
 simp[zb8 _ _ _ (m:Int) (by omega),gQ];unfold jC at H;split
 ·rename_i a;rw[if_pos a]at H;have e:jo .i64 (n.tmod m+m)=n.tmod m+m:=by grind[gG,ml]
  simp[ e];refine wu ?_;unfold lX;rw[Int.toNat_of_nonneg (by omega)]at H;exact H
 ·rename_i c;rw[if_neg c]at H;refine wu ?_;unfold lX;rw[Int.toNat_of_nonneg (by omega)]at H;exact H
section
variable{F G:Nat->Prop}{h:Hp}{lu iI kj:Nat}{t:Dt}{R:Rw}{Q:fj}
theorem Dw.ldV(D:Dw F G h lu iI kj t R):ez (.ptr lu 2) h=some R.vv:=lK D.gu rfl
theorem Dw.ldB(D:Dw F G h lu iI kj t R):ez (.ptr lu 3) h=some R.vb:=lK D.gu rfl
theorem Dw.ldS(D:Dw F G h lu iI kj t R):ez (.ptr lu 4) h=some R.vs:=lK D.gu rfl
theorem Dw.AX(D:Dw F G h lu iI kj t R):ez (.ptr iI 0) h=some R.vk:=lK D.gk rfl
theorem Dw.ldC(D:Dw F G h lu iI kj t R):ez (.ptr kj 0) h=some R.cc:=lK D.gb rfl
theorem Dw.ldP(D:Dw F G h lu iI kj t R):ez (.ptr kj 4) h=some R.vp:=lK D.gb rfl
theorem X3(D:Dw F G h lu iI kj t R)(hq:R.cc=R.vc)(d:eV.rel F h x w)(hv:t.s.ee.length<1000)(hc:t.s.cur.length<1000)
  (H:∀h' R',Kp F G h h'->Dw F G h' lu iI kj {t with s:=put t.s x} R'->R'.cc=R'.vc->R'.vk=R.vk->Q (.I t.s.ee.length) h') :
  cP CS gF [.agg w,.ptr lu 0,.ptr kj 0] h Q:=by
 refine Fp ?_;have a:=eV.one d;have b:w.length=6:=eV.len d;have e:=D.grow (uE.new h (.cells 81 1 true false w));have n:=D.Kz (.cells 81 1 true false w);have e1:fZ 6 (.ptr h.next 0) (h.new (.cells 81 1 true false w))=some (.agg w):=IP (fh _ _) b;have e2:iO 81 6 1 (V.agg [(V.I 0),(V.I 0),(V.I 0),(V.I 0),V.ed,(V.I 0)]) [(0,.agg w)]=some (.cells 81 6 true false w,λl=> .slice l 0 1):=Ce rfl b a;simp only[Jy a,fK,fo,gQ,e.ldV,e1,e2];generalize q:h.new (.cells 81 1 true false w)=f at*;have r:=e.grow (uE.new f (.cells 81 6 true false w));have o:=e.Kz (.cells 81 6 true false w);have g:=eV.fy (λl hl=>(n.trans o λ_ h=>h).fy l (.inl hl)) d;have i:mV (f.new (.cells 81 6 true false w)) 6 (.slice f.next 0 1)=some (1,w):=by grind[rP]
 let⟨v',J,j,u,K,v,L,y,D4⟩:=r.zhJ (ys:=[x]) i ⟨w,[],by simp,g,trivial⟩ (by omega) a (by simp) (by simp;omega)
 have lc:((t.s.ee++[x]).length:Nat)=t.s.ee.length+1:=by simp
 have lv:=D4.ov.len;simp only[lc]at lv;simp only[u,eh,v,D4.ldC,D4.ldV,gQ,lv,jx];have p:jo .i64 (((t.s.ee.length+1:Nat):Int)-1)=(t.s.ee.length:Nat):=zbD (by omega);have z:iO 3 1 1 (V.I 0) [(0,V.I t.s.ee.length)]=some (.cells 3 1 true false [V.I t.s.ee.length],λl=> .slice l 0 1):=rfl;simp only[p,z,fK,hq];have A:=D4.grow (uE.new j (.cells 3 1 true false [V.I t.s.ee.length]));have B:=D4.Kz (.cells 3 1 true false [V.I t.s.ee.length]);have k:mV (j.new (.cells 3 1 true false [V.I t.s.ee.length])) 1 (.slice j.next 0 1)=some (1,[V.I t.s.ee.length]):=rP rfl
 let⟨M,N,O,C,P,E,S,I,D7⟩:=A.zhC (ys:=[t.s.ee.length]) k ⟨[V.I t.s.ee.length],[],rfl,rfl,trivial⟩ rfl rfl (by simp) (by simp;omega)
 have c:=D7.ov.len;simp only[lc]at c;have m:=C;simp only[m,eh,E,D7.ldV,gQ,c,jx,p];exact H _ _ ((((n.trans o λ_ h=>h).trans y λ_ h=>h).trans B λ_ h=>h).trans I λ_ h=>h) D7 rfl rfl
theorem Y7{t:Nat}{b:Int}(h:if a<b then A else B):oP (ef .lss t (.int k a) (.int k b)) λv=>bP v A B:=by
 simp_all
theorem fx{t:Nat}{b:Int}(h:if a=b then A else B):oP (ef .eql t (.int k a) (.int k b)) λv=>bP v A B:=by
 simp_all
theorem PT{t:Nat}{b:Int}(h:if b<a then A else B):oP (ef .gtr t (.int k a) (.int k b)) λv=>bP v A B:=by
 simp_all
theorem j9{t n m:Nat}(a:n<1000000000)(b:m<1000000000)(H:K (.I ((n+m:Nat):Int))):oP (ef .add t (.I n) (.I m)) K:=by
 grind[jf,zhK,gQ]
theorem vz{t n:Nat}(a:n<1000000000)(h0:0<n)(H:K (.I ((n-1:Nat):Int))):oP (ef .sub t (.I n) (.I 1)) K:=by
 obtain⟨m,rfl⟩:∃m,n=m+1:=by simp_all
 grind[jx,zbD,gQ]
theorem fO{c B:Prop}[Decidable c] (hc:c)(h:A):if c then A else B:=by simp_all
theorem io{c B:Prop}[Decidable c] (h:A)(a:c:=by omega):if c then A else B:=fO a h
theorem fH{c:Prop}[Decidable c] (hc:¬c)(h:B):if c then A else B:=by simp_all
theorem kw{c:Prop}[Decidable c] (h:B)(a:¬c:=by omega):if c then A else B:=fH a h
theorem MX{x}{v:V}{h:Hp}{K:fj}(e:x=some (.val v h))(H:K v h):eJ x K:=by rw[e];exact H
theorem zcm{x:Option (O×(Nat->V))}{o:O}{g:Nat->V}{h:Hp}{K:fj}(e:x=some (o,g))(H:K (g h.next) (h.new o)):gU x h K:=by rw[e];exact H
structure Lc where
 lr:Nat
 lu:Nat
 iI:Nat
 kj:Nat
 wF:Nat
 mM:Nat
 rF:Nat
 Pq:Nat
def zga(L:Lc):V:= .func gF [] [.ptr L.lu 0,.ptr L.kj 0]
def Zh(L:Lc):V:= .func fU [] [.ptr L.mM 0,.ptr L.lr 0]
def WV(L:Lc):V:= .func iX [] [.ptr L.lu 0,.ptr L.rF 0,.ptr L.iI 0]
structure Dq (F G:Nat->Prop) (h:Hp) (L:Lc) (ops:List Int) (t:Dt) (R:Rw):Prop where
 D:Dw F G h L.lu L.iI L.kj t R
 hq:R.cc=R.vc
 gl:G L.mM
 ga:h.get L.mM=some (.cells fN 1 true false [.I t.s.pos])
 fr:F L.lr
 gr:∃a vs n,h.get L.lr=some (.cells VY 1 true false [a,vs,n])/\hD (eI .i64) F h ops a
 fp:F L.wF
 gp:∃e,h.get L.wF=some (.cells e 1 true false [zga L])
 fn:F L.rF
 gn:∃e,h.get L.rF=some (.cells e 1 true false [Zh L])
 fs:F L.Pq
 gs:∃e,h.get L.Pq=some (.cells e 1 true false [WV L])
end
section
variable{F F' G G':Nat->Prop}{h h':Hp}{L:Lc}{ops:List Int}{t t':Dt}{R R':Rw}{Q:fj}
theorem Dq.za3(q:Dq F G h L ops t R)(k:∀l,F l->h'.get l=h.get l) (D':Dw F' G' h' L.lu L.iI L.kj t' R')(a:∀l,F l->F' l) (b:R'.cc=R'.vc)(c:G' L.mM)(d:h'.get L.mM=some (.cells fN 1 true false [.I t'.s.pos])):Dq F' G' h' L ops t' R' where
 D:=D'
 hq:=b
 gl:=c
 ga:=d
 fr:=a _ q.fr
 gr:=by
  let⟨vo,vs,n,e,f⟩:=q.gr
  exact⟨vo,vs,n,by rw[k _ q.fr];exact e,(f.fy k).mono a⟩
 fp:=a _ q.fp
 gp:=by rw[k _ q.fp];exact q.gp
 fn:=a _ q.fn
 gn:=by rw[k _ q.fn];exact q.gn
 fs:=a _ q.fs
 gs:=by rw[k _ q.fs];exact q.gs
theorem Dq.step(q:Dq F G h L ops t R)(k:Kp F G h h') (D':Dw F' G' h' L.lu L.iI L.kj t' R')(b:∀l,F l->F' l)(c:G' L.mM) (a:R'.cc=R'.vc)(hp:t'.s.pos=t.s.pos):Dq F' G' h' L ops t' R':=
 q.za3 (λl hl=>k.fy l (.inl hl)) D' b a c (by rw[k.fy _ (.inr q.gl),hp];exact q.ga)
theorem Dq.qF(q:Dq F G h L ops t R):ez (.ptr L.wF 0) h=some (zga L):=by let⟨e,hg⟩:=q.gp;exact lK hg rfl
theorem Dq.xj(q:Dq F G h L ops t R):ez (.ptr L.rF 0) h=some (Zh L):=by let⟨e,hg⟩:=q.gn;exact lK hg rfl
theorem Dq.L7(q:Dq F G h L ops t R):ez (.ptr L.Pq 0) h=some (WV L):=by let⟨e,hg⟩:=q.gs;exact lK hg rfl
theorem Dq.Jl(q:Dq F G h L ops t R){i:Nat}(hi:i<t.s.known.length):∃l o,l<h.next/\(F l\/Loc R.vk l)/\gM 1 R.vk (.I i)=some (.ptr l o)/\ez (.ptr l o) h=some (.I (t.s.known.getD i 0:Nat)):=by
 let⟨l,o,u,hl,a,b,c⟩:=q.D.ok.read.Yt hi .i64 rfl
 refine⟨l,o,hl.elim (q.D.fl l) λh=>(q.D.ok.TZ h).2.1,hl,a,?_⟩;rw[b];have:[u]=[V.I (t.s.known[i]:Nat)]:=c;rw[IY,hZ hi];simpa using this
theorem Dw.zg4{lu iI kj:Nat}(D:Dw F G h lu iI kj t R)(a:∀l,G' l->G l\/(l<h.next/\¬F l/\∀i,¬comp lu iI kj R i l)):Dw F G' h lu iI kj t R:=
 {D with gx:=λl hl=>(a l hl).elim (D.gx l) id}
def gm(G:Nat->Prop)(a:Nat):Nat->Prop:=λl=>G l/\l≠a
theorem Kp.gm(k:Kp F G h h')(a:Nat):Kp F (Hx.gm G a) h h':=⟨k.next,λl hl=>k.fy l (hl.imp id λh=>h.1)⟩
def setPos(t:Dt)(p:Nat):Dt:={t with s:={t.s with pos:=p} }
theorem yG{m:Nat}(q:Dq F G h L ops t R)(f:0<m)(g:m<=100000000)(B:ops.length<9223372036854775808)
  (H:∀h',Kp F (gm G L.mM) h h'->Dq F G h' L ops (setPos t (draw ops t.s.pos m).2) R->Q (.I ((draw ops t.s.pos m).1:Nat)) h') :
  cP CS fU [.I m,.ptr L.mM 0,.ptr L.lr 0] h Q:=by
 refine Fa ?_
 let⟨vo,vs,n,gr,so⟩:=q.gr
 have j:ez (.ptr L.mM 0) h=some (.I t.s.pos):=lK q.ga rfl;have k:ez (.ptr L.lr 0) h=some vo:=lK gr rfl;simp[j,gQ,k,so.len];have a:=q.D.gx _ q.gl;split
 ·rename_i p;have e:draw ops t.s.pos m=(0,t.s.pos):=by
   unfold draw;rw[Z2 (by omega)]
  rw[e]at H;exact H h (Kp.refl _ _ _) q
 ·rename_i b;have b:t.s.pos<ops.length:=by omega
  have e:draw ops t.s.pos m=(jC ops[t.s.pos] m,t.s.pos+1):=by
   unfold draw;rw[hZ b]
  rw[e]at H;have w1:jo .i64 ((t.s.pos:Int)+1)=((t.s.pos+1:Nat):Int):=by rw[gG (by simp[ml];omega)];omega
  have e1:=Pg (o:=0) (uD:=[.I ((t.s.pos+1:Nat):Int)]) q.ga (by simp) rfl rfl;have hc:uE (λl=>l=L.mM) h (h.put L.mM (.cells fN 1 true false [.I ((t.s.pos+1:Nat):Int)])):=uE.put _ rfl a.1;have c:∀l,F l->(h.put L.mM (.cells fN 1 true false [.I ((t.s.pos+1:Nat):Int)])).get l=h.get l:=λl hl=>lE _ a.1 λe=>a.2.1 (e▸hl);have r:ez (.ptr L.lr 0) (h.put L.mM (.cells fN 1 true false [.I ((t.s.pos+1:Nat):Int)]))=some vo:=lK (by rw[c _ q.fr];exact gr) rfl;have v:ez (.ptr L.mM 0) (h.put L.mM (.cells fN 1 true false [.I ((t.s.pos+1:Nat):Int)]))=some (.I ((t.s.pos+1:Nat):Int)):=lK (iB _ a.1) rfl;have w2:jo .i64 (((t.s.pos+1:Nat):Int)-1)=(t.s.pos:Nat):=by rw[gG (by simp[ml];omega)];omega
  let⟨l,o,u,_,w,x,y⟩:=(so.fy c).Yt b .i64 rfl
  obtain⟨rfl⟩:u = .I ops[t.s.pos]:=by simpa using y.1
  simp only[ w1,gQ,e1,eh,r,v,jx,w2,w,x];refine Pu f (by omega) (H _ ⟨hc.next,λl hl=>hl.elim (c l) λhl=>lE _ a.1 λe=>hl.2 e.symm⟩ ?_);have z:Dw F (gm G L.mM) h L.lu L.iI L.kj t R:={q.D with gx:=λl hl=>q.D.gx l hl.1}
  have D':=(z.other hc λl hl=>by subst hl;exact⟨a.2.1,λA=>A.2 rfl,a.2.2⟩).1;refine q.za3 c ?_ (λ_ h=>h) q.hq q.gl (iB _ a.1);have d:∀l,G l->_:=λl hl=>if e:l=L.mM then e▸(⟨a.1,a.2.1,a.2.2⟩:_/\_/\∀i,¬comp L.lu L.iI L.kj R i L.mM) else D'.gx l ⟨hl,e⟩
  exact{D' with gx:=d}
theorem CL(l:List Nat)(h:0<l.length):l.getD (l.length-1) 0=l.getLastD 0:=by
 rw[List.getLastD_eq_getLast?,List.getLast?_eq_getElem?,IY]
theorem YT{cs:List Pc}{T:Nat}{z u:V}{K:fj}(H:ej F h cs)(b:u.one=true)(c:∀a,ej F a (eD h.next T [u]::cs)->Sn F h F a->K (.ptr h.next 0) a) :
  gU (some (O.cells T 1 true false [z],λl=>V.ptr l 0)) h λv d=>eJ (gj 1 v u d) λ_ a=>K v a:=by
 rw[fK]
 let⟨e,s1⟩:=H.xC T [z]
 let⟨a,e2,_,f,g⟩:=e.st 0 rfl (o:=0) (by simp) b
 rw[e2,eh];exact c a f (s1.trans g)
theorem zcQ{cs:List Pc}{T n:Nat}{b ws:List V}{K:fj}(H:ej F h cs)(d:b.length=n)(e:ws.length=n)(c:gi ws=true)(f:∀a,ej F a (eD h.next T ws::cs)->Sn F h F a->K (.ptr h.next 0) a) :
  gU (some (O.cells T 1 true false b,λl=>V.ptr l 0)) h λv c=>eJ (gj n v (.agg ws) c) λ_ a=>K v a:=by
 rw[fK]
 let⟨g,s1⟩:=H.xC T b
 let⟨a,e2,_,i,j⟩:=g.Tw 0 rfl e d c
 rw[e2,eh];exact f a i (s1.trans j)
def OM(cs:List Pc):Nat->Prop:=λl=>∃c∈cs,c.pS l
section
variable{lu iI kj:Nat}{cs:List Pc}
theorem ej.pre{ds a:List Pc}(H:ej F h (ds++a)):ej F h ds:=H.re id (λi c hc=>by rw[id,UF (ke.1 hc).1];exact hc) λ_ _ _ _ e=>e
theorem TQ{i:Nat}{c:Pc}(hc:(RR lu iI kj t R++cs)[i]? =some c):(RR lu iI kj t R)[i]? =some c\/∃j,i=9+j/\cs[j]? =some c:=by
 rcases Sf i 9 with hi|hi
 ·rw[UF (by simpa using hi)]at hc;exact .inl hc
 ·rw[Ze (by simpa using hi)]at hc;exact .inr ⟨i-9,by omega,hc⟩
theorem Dw.mk'(H:ej F h (RR lu iI kj t R++cs)):Dw F (OM cs) h lu iI kj t R where
 H:=H.pre
 gx l hl:=by
  let⟨c,hc,hf⟩:=hl
  let⟨j,hj⟩:=mz.1 hc
  have a:(RR lu iI kj t R++cs)[9+j]? =some c:=by rw[Ze (by simp)];simpa using hj
  have b:=c.FK (H.ok _ c a) l hf;refine⟨b.1,b.2,λi hi=>?_⟩
  let⟨d,hd,hg⟩:=Um (t:=t) hi
  have hl:=(ke.1 hd).1;exact H.Hj (9+j) i c d a (by rw[UF hl];exact hd) (by simp at hl;omega) l hf hg
theorem Dw.back(D:Dw F' G h' lu iI kj t R)(H:ej F h0 cs)(s:Sn F h0 F' h')(f:∀c∈cs,∀l,c.pS l->G l/\h'.get l=h0.get l):ej F' h' (RR lu iI kj t R++cs):=by
 have ap:∀{i j:Nat} {c d:Pc},(RR lu iI kj t R)[i]? =some c->cs[j]? =some d->∀l,c.pS l->¬d.pS l:=λhc hd l hl e=>(D.gx l (f _ (yN hd) l e).1).2.2 _ (Mn hc hl);refine⟨D.fl,λi c hc=>?_,λi j c d hc hd h=>?_⟩
 ·rcases TQ hc with a|⟨j,_,a⟩
  ·exact D.H.ok i c a
  ·have g:=f c (yN a);exact c.mono (c.fy (H.ok j c a) s.fy (λl hl=>(g l hl).2) s.next) s.mono λl hl=>(D.gx l (g l hl).1).2.1
 ·rcases TQ hc with a|⟨k,e1,a⟩ <;> rcases TQ hd with b|⟨m,e2,b⟩
  ·exact D.H.Hj i j c d a b h
  ·exact ap a b
  ·exact λl hl e=>ap b a l e hl
  ·exact H.Hj k m c d a b (by omega)
theorem ej.lie(H:ej F h (MT G h0::cs)):ej F h (MT G h::cs):=H.swap (i:=0) rfl (λl hl=>⟨rfl,(H.ok 0 _ rfl l hl).2⟩) λ_ h=>h
theorem Dq.of(q:Dq F G h L ops t R)(H:ej F' h' (MT G h::(RR L.lu L.iI L.kj t' R'++cs)))(s:Sn F h F' h') (a:R'.cc=R'.vc)(hp:t'.s.pos=t.s.pos):Kp F G h h'/\Dq F' (λl=>G l\/OM cs l) h' L ops t' R':=by
 let⟨k,D1⟩:=Dw.of (H.pre (ds:=MT G h::RR L.lu L.iI L.kj t' R')) s
 have b:=Dw.mk' H.tail;exact⟨k,q.za3 s.fy ⟨b.H,λl hl=>hl.elim (D1.gx l) (b.gx l)⟩ s.mono a (.inl q.gl) (by rw[k.fy _ (.inr q.gl),hp];exact q.ga)⟩
theorem Dq.less{S:Nat->Prop}(q:Dq F (λl=>G l\/S l) h L ops t R)(hl:G L.mM):Dq F G h L ops t R:={q with D:=q.D.zg4 λl hl=> .inl (.inl hl),gl:=hl}
theorem Dq.back(q:Dq F (λl=>G l\/OM cs l) h' L ops t' R')(gl:G L.mM)(H:ej F h (MT G h0::(RR L.lu L.iI L.kj t R++cs)))(k:Kp F (gm (λl=>G l\/OM cs l) L.mM) h h'):ej F h' (MT G h'::(RR L.lu L.iI L.kj t' R'++cs))/\Dq F G h' L ops t' R'/\Kp F (gm G L.mM) h h':=by
 have H:ej F h (MT G h0::cs):=H.perm [0] 10 (by decide) (by decide) (by simp);have d:∀(j:Nat) c,cs[j]? =some c->∀l,c.pS l->¬G l:=λj c hc l hl a=>H.Hj (j+1) 0 c _ hc rfl (by omega) l hl a;refine⟨(q.D.back H.tail ⟨k.next,λl hl=>k.fy l (.inl hl),λ_ h=>h⟩ λc hc l hl=>?_).cons (λl hl=>⟨rfl,(q.D.gx l (.inl hl)).1,(q.D.gx l (.inl hl)).2.1⟩) λi c hc l a hl=>?_,q.less gl,k.next,λl hl=>k.fy l (hl.imp id λhl=>⟨.inl hl.1,hl.2⟩)⟩
 ·let⟨j,hj⟩:=mz.1 hc
  exact⟨.inr ⟨c,hc,hl⟩,k.fy l (.inr ⟨.inr ⟨c,hc,hl⟩,λe=>d j c hj l hl (e▸gl)⟩)⟩
 ·rcases TQ hc with b|⟨j,_,b⟩
  ·exact(q.D.gx l (.inl a)).2.2 i (Mn b hl)
  ·exact d j c b l hl a
end
theorem Qa(q:Dq F G h L ops t R)(z:0<t.s.known.length)(aa:t.s.known.length<1000)(hs:t.s.eE.length<1000)(ho:ops.length<9223372036854775808)
  (H:∀F' h' R',(∀l,F l->F' l)->Kp F (gm G L.mM) h h'->Dq F' G h' L ops {t with s:=(fI ops t.s).2} R'->R'.vk=R.vk->Q (.I ((fI ops t.s).1:Nat)) h') :
  cP CS iX [.ptr L.lu 0,.ptr L.rF 0,.ptr L.iI 0] h Q:=by
 refine FW ?_;have gl:=q.gl;refine ec (fo _ _ _) (ec q.D.ldS (ec q.D.os.len (ec (show _=some (V.agg [.I 1,.I t.s.eE.length,.ed,.ed]) from rfl) (zcQ q.D.wh rfl rfl rfl λh2 j s2=>?_))));generalize h.next=r at*;have j:ej F h2 (MT G h::(RR L.lu L.iI L.kj t R++[eD r 85 [.I 1,.I t.s.eE.length,.ed,.ed],ft eN fN [] .ed])):=(j.add (p:=ft eN fN [] .ed) (.inl ⟨rfl,rfl⟩) λ_ h=>h).perm [2,3,4,5,6,7,8,9,10,11,1,0] 12 (by decide) (by decide) (by simp)
 let⟨k2,M⟩:=q.of j s2 q.hq rfl
 refine ec M.xj ?_;simp only[Zh,Lr,JK,RL,Ku];refine yG (m:=4) M (by decide) (by decide) ho λh3 A B=>?_
 let⟨v,B,A⟩:=B.back gl j A
 have hr:(draw ops t.s.pos 4).1<4:=xx _ _ (by decide)
 refine BT (λk x0 x1 x2 x4 x5 h'=>∃(s:Ds) (l:List Nat) (vl:V),x0 = .ptr L.lu 0/\x1 = .ptr L.rF 0/\x2 = .ptr L.iI 0/\x4 = .ptr r 0/\x5 = .I (k:Nat)/\Dq F G h' L ops {t with s:=s} R/\Kp F (gm G L.mM) h h'/\
  ej F h' (MT G h'::(RR L.lu L.iI L.kj {t with s:=s} R++[eD r 85 [.I 1,.I t.s.eE.length,vl,.ed],ft eN fN l vl]))/\some_ ops k s l=some_ ops (draw ops t.s.pos 4).1 (num ops t.s 4).2 []/\s.known=t.s.known/\s.eE=t.s.eE/\l.length+k<=4) ?_
  ⟨(num ops t.s 4).2,[],.ed,rfl,rfl,rfl,rfl,rfl,B,(k2.gm L.mM).trans A λ_ h=>h,v,rfl,rfl,rfl,by simp;omega⟩
 clear B A M v j s2 k2;rintro k x0 x1 x2 x4 x5 h' ⟨s,l,vl,rfl,rfl,rfl,rfl,rfl,c,k',C,d,b,e,hlen⟩;unfold nJ;have N:=c.D.ok.len;rw[show({t with s:=s}:Dt).s.known=t.s.known from b]at N;have e3:∀a:Nat,iO 3 1 1 (V.I 0) [(0,V.I (a:Nat))]=some (.cells 3 1 true false [V.I (a:Nat)],λl=> .slice l 0 1):=λ_=>rfl
 cases k with
 | succ k=>
   refine PT (io (ec (fo _ _ _) (ec (C.ld 10 (o:=2) rfl rfl) (ec c.D.AX (ec c.xj (ec c.D.AX (ec N ?_)))))));simp only[Zh,Lr,JK,RL,Ku];refine yG (m:=t.s.known.length) (c.of C (Sn.refl _ _) c.hq rfl).2 z (by omega) ho λP I J=>⟨I.next,?_⟩
   let⟨H1,J,I⟩:=J.back gl C I
   obtain⟨S,T,w,_,U,g⟩:=J.Jl (i:=(draw ops s.pos t.s.known.length).1) (by show _<s.known.length;rw[b];exact xx _ _ z);have g:ez (.ptr S T) P=some (.I (s.known.getD (draw ops s.pos t.s.known.length).1 0:Nat)):=g;refine ec U (ec g ?_);rw[e3,gI];generalize hv:s.known.getD (draw ops s.pos t.s.known.length).1 0=a at*;have Hg:=(H1.grow (uE.new P (.cells 3 1 true false [V.I (a:Nat)]))).1;refine⟨⟨fh _ _,O.jS _ _ _ _ _⟩,gz g (fi _ w),Hg.ld 2 rfl rfl,Hg.ld 10 rfl rfl,?_⟩
   let⟨v',h3,a1,n3,v,s3⟩:=H1.pT 11 rfl (iU:=8) (MB:=3) (ro:=false) (y:=a) rfl (by decide) (by decide) (by omega)
   let⟨h4,a2,n4,K,s4⟩:=v.st 10 rfl (o:=2) (by simp) (v.one 11 rfl)
   refine MX a1 ⟨n3,ec (fo _ _ _) (MX a2 ⟨n4,vz (by omega) (by omega) ?_⟩)⟩;have K:ej F h4 (MT G P::(RR L.lu L.iI L.kj {t with s:={s with pos:=(draw ops s.pos t.s.known.length).2} } R++[eD r 85 [.I 1,.I (t.s.eE.length:Nat),v',.ed],ft eN fN (l++[a]) v'])):=K
   let⟨k4,q4⟩:=J.of K (s3.trans s4) c.hq rfl
   refine⟨k,by omega,{s with pos:=(draw ops s.pos t.s.known.length).2},l++[a],v',by trivial,by trivial,by trivial,by trivial,by trivial,q4.less gl,(k'.trans I λ_ h=>h).trans (k4.gm _) λ_ h=>h,K.lie,?_,b,e,by simp;omega⟩;rw[<-d,<-hv];show _=some_ ops k (fT ops s).2 (l++[(fT ops s).1]);unfold fT
   rw[b]
 | zero=>
   obtain⟨e1,e2⟩:l=(some_ ops (draw ops t.s.pos 4).1 (num ops t.s 4).2 []).1/\s=(some_ ops (draw ops t.s.pos 4).1 (num ops t.s 4).2 []).2:=by rw[<-d];exact⟨rfl,rfl⟩
   obtain ⟨S,T,w,_,U,g⟩:=c.Jl (i:=t.s.known.length-1) (by show _<s.known.length;rw[b];omega);have g:ez (.ptr S T) h' = some (.I (t.s.known.getLastD 0:Nat)):=by
     rw[g,show({t with s:=s}:Dt).s.known=t.s.known from b,CL _ z]
   refine PT (kw (ec c.D.AX (ec c.D.AX (ec N (vz (by omega) z (ec U (ec g ?_)))))));rw[e3,fK];generalize ha:t.s.known.getLastD 0=a at*
   let⟨H5,s5,r5⟩:=C.zaU (E:=eN) (n:=1) (xs:=[a]) (ws:=[V.I (a:Nat)]) 3 rfl ⟨_,[],(Ku _).symm,rfl,trivial⟩ false
   let⟨h6,a6,n6,H6,s6⟩:=H5.st 10 rfl (o:=3) (u:= .slice h'.next 0 1) (by simp) rfl
   refine ec (fo _ _ _) (MX a6 ?_)
   let⟨W,X,r7⟩:=H6.hY 11 rfl
   refine ec (fo _ _ _) (ec (W.ld 1 (o:=4) rfl rfl) (ec (W.tj 10 rfl rfl) ?_));have ow:gi [.I 1,.I (t.s.eE.length:Nat),vl,.slice h'.next 0 1]=true:=by simp only[fe,r7.one];rfl
   refine zcm (Ce rfl rfl ow) ?_
   let⟨H8,s8,r8⟩:=W.zaU (E:=eF) (n:=1) (xs:=[⟨1,(t.s.eE.length:Nat),l,[a]⟩]) zeH rfl ⟨_,[],(Ku _).symm,⟨vl,_,rfl,r7,((r5.fy s6.fy).fy X.fy).mono X.mono⟩,trivial⟩ false
   refine ec (show _=some (V.agg [.slice h6.next 0 1]) from rfl) ?_;refine zcm (Ce rfl rfl rfl) ?_
   let⟨v',h9,a9,_,H9,s9⟩:=H8.pT 6 rfl (iU:=24) (MB:=Pw) (ro:=false) (y:=[⟨1,(t.s.eE.length:Nat),l,[a]⟩]) ⟨_,rfl,r8⟩ (by decide) (by decide) (by show s.eE.length<_;rw[e];omega)
   let⟨x,Y,_,f,Z⟩:=H9.st 1 rfl (o:=4) (by simp) (H9.one 6 rfl)
   refine MX a9 (ec (fo _ _ _) (MX Y ?_));refine ec (fo _ _ _) (ec (f.ld 1 (o:=4) rfl rfl) (ec (f.len 6 rfl) (vz (by simp[e];omega) (by simp) ?_)));have hE:(fI ops t.s)=(t.s.eE.length,{s with eE:=s.eE++[[⟨1,(t.s.eE.length:Nat),l,[a]⟩]]}):=by
     unfold fI;rw[e1,e,e2,ha];rfl
   have f:ej _ x (MT G h'::(RR L.lu L.iI L.kj {t with s:={s with eE:=s.eE++[[⟨1,(t.s.eE.length:Nat),l,[a]⟩]]} } {R with vs:=v'}++[eD r 85 [.I 1,.I (t.s.eE.length:Nat),vl,.slice h'.next 0 1],emp])):=f
   let⟨kA,qA⟩:=c.of f (s5.trans (s6.trans (X.trans (s8.trans (s9.trans Z))))) c.hq rfl
   rw[hE]at H;have:=H _ x {R with vs:=v'} (λ_ h=> .inl (.inl (.inl h))) (k'.trans (kA.gm _) λ_ h=>h) (qA.less gl) rfl;simpa[e]using this
end
theorem fG{t n:Nat}(H:K (.I ((n+1:Nat):Int)))(h:n<1000000000:=by omega):oP (ef .add t (.I n) (.I 1)) K:=j9 h (by decide) H
theorem gy{t:Nat}{b:Int}{B:Prop}(H:A)(h:a<b:=by omega):oP (ef .lss t (.int k a) (.int k b)) λv=>bP v A B:=Y7 (fO h H)
theorem iA{t:Nat}{b:Int}(H:B)(h:¬a<b:=by omega):oP (ef .lss t (.int k a) (.int k b)) λv=>bP v A B:=Y7 (fH h H)
section
variable{F F' G G':Nat->Prop}{h h':Hp}{L:Lc}{ops:List Int}{t t':Dt}{R R':Rw}{Q:fj}
theorem pT{α:Type}{l:List α}{x:α}{n:Nat}(h:l.length<=n):(l++[x]).length<=n+1:=by simp_all
structure Sm (s:Ds) (n:Nat):Prop where
 v:s.ee.length<=n
 c:s.cur.length<=n
 k:s.known.length<=n
 st:s.eE.length<=n
 k0:0<s.known.length
theorem Sm.le{n m:Nat}(a:Sm s n)(h:n<=m):Sm s m:=⟨OA a.v h,OA a.c h,OA a.k h,OA a.st h,a.k0⟩
theorem Sm.put{n:Nat}(a:Sm s n)(x:Vl):Sm (put s x) (n+1):=
 ⟨pT a.v,pT a.c,wBN a.k,wBN a.st,a.k0⟩
theorem Sm.il{n:Nat}(a:Sm s n)(x:Vl):Sm (il s x) (n+1):=
 ⟨pT a.v,pT a.c,
  pT a.k,wBN a.st,by show 0<(s.known++[s.ee.length]).length;simp_all⟩
theorem Sm.pos{n:Nat}(a:Sm s n)(p:Nat):Sm {s with pos:=p} n:=⟨a.v,a.c,a.k,a.st,a.k0⟩
theorem Sm.state{n:Nat}(a:Sm s n)(ops:List Int):Sm (fI ops s).2 (n+1):=by
 have hp:∃p,(some_ ops (num ops s 4).1 (num ops s 4).2 []).2 = {s with pos:=p}:=by
  let⟨p,h⟩:=Ik ops (num ops s 4).1 (num ops s 4).2 []
  exact⟨p,h⟩
 let⟨p,hp⟩:=hp
 unfold fI;simp[hp];exact⟨wBN a.v,wBN a.c,wBN a.k,pT a.st,a.k0⟩
theorem zdZ(q:Dq F G h L ops t R){n a:Nat}(m:Sm t.s n)(p:n<1000){K:Hp->Prop}
  (H:∀h' R',Kp F G h h'->Dq F G h' L ops {t with s:={t.s with known:=t.s.known++[a]} } R'->K h') :
  uj (iO 3 1 1 (V.I 0) [(0,.I a)]) h λo c b=>((b.get h.next=some o/\O.beq o o=true)/\(ez (.ptr L.iI 0) b=some R.vk/\eJ (fg 3 1 8 R.vk c b) λd e=>(b.next<=e.next/\eJ (gj 1 (.ptr L.iI 0) d e) λ_ g=>(e.next<=g.next/\K g)))):=by
 have r:iO 3 1 1 (V.I 0) [(0,V.I a)]=some (.cells 3 1 true false [V.I a],λl=> .slice l 0 1):=rfl;rw[r,gI];have i:=q.D.grow (uE.new h (.cells 3 1 true false [V.I a]));have u:mV (h.new (.cells 3 1 true false [V.I a])) 1 (.slice h.next 0 1)=some (1,[V.I a]):=rP rfl
 let⟨v',A,B,v,w,x,y,z,D4⟩:=i.zfJ (ys:=[a]) u ⟨[V.I a],[],rfl,rfl,trivial⟩ rfl rfl (by simp) (by have:=m.k;simp;omega)
 have f:=v;refine⟨by grind[fh,O.jS],i.AX,?_⟩;simp[f,eh,x];have j:=(q.D.Kz (.cells 3 1 true false [V.I a])).trans z λ_ h=>h;exact⟨w,y,H _ _ j (q.step j D4 (by simp_all) q.gl q.hq rfl)⟩
theorem JA(q:Dq F G h L ops t R){n:Nat}(b:Sm t.s n)(p:n<999)(r:eV.rel F h x w){K:Hp->Prop}
  (H:∀h' R',Kp F G h h'->Dq F G h' L ops {t with s:=il t.s x} R'->K h') :
  cP CS gF [.agg w,.ptr L.lu 0,.ptr L.kj 0] h λd e=>(h.next<=e.next/\uj (iO 3 1 1 (V.I 0) [(0,d)]) e λo f a=>((a.get e.next=some o/\O.beq o o=true)/\(ez (.ptr L.iI 0) a=some R.vk/\eJ (fg 3 1 8 R.vk f a) λg i=>(a.next<=i.next/\eJ (gj 1 (.ptr L.iI 0) g i) λ_ m=>(i.next<=m.next/\K m))))):=by
 have hv:=b.v;have hc:=b.c;refine X3 q.D q.hq r (by omega) (by omega) λE I j u k l=>⟨j.next,?_⟩
 have y:=q.step j u (by simp_all) q.gl k rfl;rw[<-l];exact zdZ y (b.put x) (by omega) λz A B C=>H z A (j.trans B λ_ h=>h) C
theorem Mu(q:Dq F G h L ops t R){n:Nat}(d:Sm t.s n)(f:n<999)(g:eV.rel F h x w){K:fj}
  (H:∀h' R',Kp F G h h'->R'.vk=R.vk->Dq F G h' L ops {t with s:=put t.s x} R'->K (.I t.s.ee.length) h'):cP CS gF [.agg w,.ptr L.lu 0,.ptr L.kj 0] h K:=by
 have hv:=d.v;have hc:=d.c;exact X3 q.D q.hq g (by omega) (by omega) λi j e k a b=>H i j e b (q.step e k (by simp_all) q.gl a rfl)
theorem Qk(q:Dq F G h L ops t R)(c:ops.length<9223372036854775808){n:Nat}(a:Sm t.s n)(d:n<1000){K:fj}
  (H:∀h' l o,Kp F (gm G L.mM) h h'->Dq F G h' L ops {t with s:=(fT ops t.s).2} R->l<h'.next->gM 1 R.vk (.I ((draw ops t.s.pos t.s.known.length).1:Nat))=some (.ptr l o)->ez (.ptr l o) h' = some (.I ((fT ops t.s).1:Nat))->K (.I ((draw ops t.s.pos t.s.known.length).1:Nat)) h') :
  cP CS fU [.I t.s.known.length,.ptr L.mM 0,.ptr L.lr 0] h K:=by
 refine yG q a.k0 (by have:=a.k;omega) c λe f b=>?_
 let⟨l,o,hl,_,g,j⟩:=b.Jl (i:=(draw ops t.s.pos t.s.known.length).1) (xx _ _ a.k0)
 exact H e l o f b hl g j
theorem zgm{b:Bk}{nv:V}(q:Dq F G h L ops t R){n:Nat}(hn:t.blocks.length<1000)(hv0:b.ee=[])(w:b.fk=[])(a:hD eN F h b.next nv)
  (H:∀F' h' R',(∀l,F l->F' l)->Kp F G h h'->Dq F' G h' L ops {s:={t.s with cur:=[]},blocks:=t.blocks++[⟨t.s.cur,b.fin,b.cond,b.next,t.fk,b.state⟩],fk:=[]} R'->Q (.I t.blocks.length) h') :
  cP CS mB [.agg (pR b .ed nv .ed),.ptr L.kj 0,.ptr L.lu 0] h Q:=by
 refine Fg ?_;have x:gi (pR b .ed nv .ed)=true:=by simp only[pR,fe,a.one];rfl
 have y:=λl hl=>(q.D.gx l hl).1;have z:∀i l,comp L.lu L.iI L.kj R i l->l<h.next:=λi l hl=>(q.D.sig hl).2.1;have fresh:∀l,h.next<=l->¬F l/\¬G l/\∀i,¬comp L.lu L.iI L.kj R i l:=λl hl=>⟨λA=>by have:=q.D.fl l A;omega,by grind,by grind⟩
 have j:=q.D.grow (uE.new h (.cells 79 1 true false (pR b .ed nv .ed)));have B:=q.D.Kz (.cells 79 1 true false (pR b .ed nv .ed));have C:(h.new (.cells 79 1 true false (pR b .ed nv .ed))).get h.next=_:=fh _ _;have e:h.next<(h.new (.cells 79 1 true false (pR b .ed nv .ed))).next:=TU _;simp[Jy x,fK,j.ldC];generalize h.new (.cells 79 1 true false (pR b .ed nv .ed))=k at*;have e2:=Pg (o:=0) (uD:=pR b R.cc nv .ed) C (by simp[pR]) (by rw[q.hq];exact q.D.oc.one) rfl
 let⟨D2,E⟩:=j.other (uE.put (.cells 79 1 true false (pR b R.cc nv .ed)) rfl e) (by simp_all)
 have I:=iB (.cells 79 1 true false (pR b R.cc nv .ed)) e;have m:h.next<(k.put h.next (.cells 79 1 true false (pR b R.cc nv .ed))).next:=e;simp[e2,eh,D2.ldP];generalize k.put h.next (.cells 79 1 true false (pR b R.cc nv .ed))=J at*;have K:=Pg (o:=4) (uD:=pR b R.cc nv R.vp) I (by simp[pR]) q.D.sp.one rfl
 let⟨D3,M⟩:=D2.other (uE.put (.cells 79 1 true false (pR b R.cc nv R.vp)) rfl m) (by simp_all)
 have N:=iB (.cells 79 1 true false (pR b R.cc nv R.vp)) m;simp[K,eh,D3.ldB];generalize J.put h.next (.cells 79 1 true false (pR b R.cc nv R.vp))=d at*;have p:gi (pR b R.cc nv R.vp)=true:=by simp only[pR,fe,a.one,q.hq,q.D.oc.one,q.D.sp.one];rfl
 have O:fZ 6 (.ptr h.next 0) d=some (.agg (pR b R.cc nv R.vp)):=IP N rfl;have P:iO 79 6 1 (V.agg [V.ed,(V.I 0),(V.I 0),V.ed,V.ed,(V.I 0)]) [(0,.agg (pR b R.cc nv R.vp))]=some (.cells 79 6 true false (pR b R.cc nv R.vp),λl=> .slice l 0 1):=Ce rfl rfl p;simp[O,gQ,P];have r:=D3.grow (uE.new d (.cells 79 6 true false (pR b R.cc nv R.vp)));have S:=D3.Kz (.cells 79 6 true false (pR b R.cc nv R.vp));have f:mV (d.new (.cells 79 6 true false (pR b R.cc nv R.vp))) 6 (.slice d.next 0 1)=some (1,pR b R.cc nv R.vp):=rP rfl;have u:Kp F G h (d.new (.cells 79 6 true false (pR b R.cc nv R.vp))):=((B.trans E λ_ h=>h).trans M λ_ h=>h).trans S λ_ h=>h;generalize d.new (.cells 79 6 true false (pR b R.cc nv R.vp))=v at*
 let⟨sc,D5⟩:=r.flush
 have T:eK.rel (fzc F R.vc) v ⟨t.s.cur,b.fin,b.cond,b.next,t.fk,b.state⟩ (pR b R.cc nv R.vp):=
  ⟨R.cc,nv,R.vp,rfl,by rw[q.hq];exact sc,(a.fy λl hl=>u.fy l (.inl hl)).mono λ_ h=> .inl h,r.sp.mono λ_ h=> .inl h⟩
 let⟨v',U,h6,W,a2,X,a4,Y,D6⟩:=D5.zh4 (ys:=[⟨t.s.cur,b.fin,b.cond,b.next,t.fk,b.state⟩]) f ⟨pR b R.cc nv R.vp,[],by simp,T,trivial⟩ rfl p (by simp) (by simp;omega)
 have g:fg 79 6 96 R.vb (.slice d.next 0 1) v=some (.val v' U):=W;have Z:fq [V.ed,(V.I 0),(V.I 0),V.ed,V.ed,(V.I 0)] ge []=some (.agg [.ed,.I 0,.I 0,.ed,.ed,.I 0]):=rfl;have e8:=Y3 (n:=6) (ws:=[.ed,.I 0,.I 0,.ed,.ed,.I 0]) D6.gb rfl rfl rfl
 let⟨k7,D7⟩:=D6.zfb (c:= .ed) .nil
 have lb:fE v' = some (.I ((t.blocks.length+1:Nat):Int)):=by
  have:=D7.ob.len;simpa using this
 simp only[g,eh,X,Z,gQ,e8,D7.ldB,lb,jx,zbD (n:=t.blocks.length) (by omega)];have kb:=(u.trans Y λ_ h=> .inl h).trans k7 λ_ h=> .inl h;exact H (fzc F R.vc) _ _ (λ_ h=> .inl h) kb (q.step kb D7 (λ_ h=> .inl h) q.gl rfl rfl)
