/- Parts. -/
import Derived.Test.YtnehpeeglbgfpaaDoorM18
import Derived.Test.YtnehpeeglbgfpaaDoorM19
import Derived.Test.YtnehpeeglbgfpaaDoorM15
set_option maxHeartbeats 4000000
namespace Go.Proofs.YtnehpeeglbgfpaaDoor.Hx
open Un
theorem BS{e:Nat}{w:List V}(a:gh w=true):sO e (.agg w)=some (.cells e 1 true false w,λl=> .ptr l 0):=by
 unfold sO
 grind[vJ,gh,bB,V.cells]
theorem Ha{e sz:Nat}{z w:List V}(c:z.length=sz)(a:w.length=sz)(d:gh w=true):ju e sz 1 (.agg z) [(0,.agg w)]=some (.cells e sz true false w,λl=> .slice l 0 1):=by
 unfold ju;have b:nQ (Nat.mul 0 sz) (yy 1 (V.agg z).cells) (V.agg w).cells=some w:=by
  show nQ (0*sz) (z++[]) w=some w;rw[Nat.zero_mul,IN,B2 (by omega),Wi,LR,EM,List.drop_of_length_le (by omega),IN]
 simp only[wk,eQ,b];rw[vJ _ (show Nat.beq (V.agg w).cells.length sz=true by rw[show(V.agg w).cells=w from rfl,a];simp_all)]
 simp_all
theorem Jt{n:Nat}(h:n<1000000000):jt .i64 (((n+1:Nat):Int)-1)=(n:Nat):=by
 grind[iO,Fb]
theorem Y2{n k:Nat}(h:n<1000000000)(a:k<1000000000):jt .i64 (((n:Nat):Int)+(k:Nat))=((n+k:Nat):Int):=by
 grind[iO,Fb]
theorem Rt(t:Nat)(k:IntKind)(a b:Int)(d:b≠0):ef .rem t (.int k a) (.int k b)=some (.int k (a.tmod b)):=by
 have c:hint .rem k a b=some (.int k (a.tmod b)):=by
  cases b with
  | ofNat n=>cases n with
    |zero=>simp_all
    |succ n=>rfl
  |negSucc n=>rfl
 cases k <;> exact c
theorem zX{n:Int}{m:Nat}{h:Hp}{Q:fm}(f:0<m)(d:m<=1000000000)(H:Q (.I (jk n m:Nat)) h):cP CS fP [.I n,.I m] h Q:=by
 refine AU rfl rfl ?_;unfold uy;have g:=Int.tmod_lt_of_pos n (b:=(m:Int)) (by omega);have i : -(m:Int)<n.tmod m:=by
  have:=Int.tmod_lt_of_pos (-n) (b:=(m:Int)) (by omega);rw[Int.neg_tmod]at this;omega
 simp only[Rt _ _ _ (m:Int) (by omega),gZ,jo,LZ,IM];unfold jk at H;split
 ·rename_i a;rw[if_pos a]at H;have e:jt .i64 (n.tmod m+m)=n.tmod m+m:=by grind[iO,Fb]
  simp only[Ba,e,gZ];refine qD ?_;unfold mA;rw[Int.toNat_of_nonneg (by omega)]at H;exact H
 ·rename_i c;rw[if_neg c]at H;refine qD ?_;unfold mA;rw[Int.toNat_of_nonneg (by omega)]at H;exact H
section
variable{F G:Nat->Prop}{h:Hp}{lu gR iX:Nat}{t:Dt}{R:Rw}{Q:fm}
theorem Dw.Qi(D:Dw F G h lu gR iX t R):en (.ptr lu 2) h=some R.vv:=js D.gu rfl
theorem Dw.TQ(D:Dw F G h lu gR iX t R):en (.ptr lu 3) h=some R.vb:=js D.gu rfl
theorem Dw.Zc(D:Dw F G h lu gR iX t R):en (.ptr lu 4) h=some R.vs:=js D.gu rfl
theorem Dw.w9(D:Dw F G h lu gR iX t R):en (.ptr gR 0) h=some R.vk:=js D.gk rfl
theorem Dw.Z9(D:Dw F G h lu gR iX t R):en (.ptr iX 0) h=some R.cc:=js D.gb rfl
theorem Dw.ldP(D:Dw F G h lu gR iX t R):en (.ptr iX 4) h=some R.vp:=js D.gb rfl
theorem NM{x:Vl}{w:List V}(D:Dw F G h lu gR iX t R)(hq:R.cc=R.vc)(g:eV.rel F h x w)(O:t.s.ee.length<1000)(hc:t.s.cur.length<1000)
  (H:∀h' R',Kp F G h h'->Dw F G h' lu gR iX {t with s:=put t.s x} R'->R'.cc=R'.vc->R'.vk=R.vk->Q (.I t.s.ee.length) h') :
  cP CS fe [.agg w,.ptr lu 0,.ptr iX 0] h Q:=by
 refine zB rfl rfl ?_;unfold rR;have a:=eV.one g;have b:w.length=6:=eV.len g;have i:=D.grow (kX.new h (.cells 46 1 true false w));have q:=D.vH (.cells 46 1 true false w);have e1:fZ 6 (.ptr h.next 0) (h.new (.cells 46 1 true false w))=some (.agg w):=y6 (ez _ _) b;have e2:ju 46 6 1 (V.agg [(V.I 0),(V.I 0),(V.I 0),(V.I 0),V.ed,(V.I 0)]) [(0,.agg w)]=some (.cells 46 6 true false w,λl=> .slice l 0 1):=Ha rfl b a;simp only[BS a,fJ,fH,gZ,EM,i.Qi,e1,e2];generalize v:h.new (.cells 46 1 true false w)=f at*;have y:=i.grow (kX.new f (.cells 46 6 true false w));have r:=i.vH (.cells 46 6 true false w);have j:eV.rel F (f.new (.cells 46 6 true false w)) x w:=eV.eD (λl z=>(q.trans r λ_ h=>h).eD l (.inl z)) g;have m:kJ (f.new (.cells 46 6 true false w)) 6 (.slice f.next 0 1)=some (1,w):=by grind[mI]
 obtain⟨P,S,c,A,T,B,U,C,d⟩:=y.ZQ (ys:=[x]) m ⟨w,[],by simp,j,trivial⟩ (by omega) a (by simp) (by simp;omega);have lc:((t.s.ee++[x]).length:Nat)=t.s.ee.length+1:=by simp
 have lv:=d.ov.len;simp only[lc]at lv;simp only[A,ej,B,d.Z9,d.Qi,gZ,lv,iy];have u:jt .i64 (((t.s.ee.length+1:Nat):Int)-1)=(t.s.ee.length:Nat):=Jt (by omega);have E:ju 3 1 1 (V.I 0) [(0,V.I t.s.ee.length)]=some (.cells 3 1 true false [V.I t.s.ee.length],λl=> .slice l 0 1):=rfl;simp only[u,E,fJ,hq];have I:=d.grow (kX.new c (.cells 3 1 true false [V.I t.s.ee.length]));have k4:=d.vH (.cells 3 1 true false [V.I t.s.ee.length]);have n:kJ (c.new (.cells 3 1 true false [V.I t.s.ee.length])) 1 (.slice c.next 0 1)=some (1,[V.I t.s.ee.length]):=mI (k:=0) rfl;obtain⟨J,K,W,L,X,M,Y,N,o⟩:=I.ZA (ys:=[t.s.ee.length]) n ⟨[V.I t.s.ee.length],[],rfl,rfl,trivial⟩ rfl rfl (by simp) (by simp;omega);have e:=o.ov.len;simp only[lc]at e;have p:fh 3 1 8 R.vc (.slice c.next 0 1) (c.new (.cells 3 1 true false [V.I t.s.ee.length]))=some (.val J K):=L;simp only[p,ej,M,o.Qi,gZ,e,iy,u];exact H _ _ ((((q.trans r λ_ h=>h).trans C λ_ h=>h).trans k4 λ_ h=>h).trans N λ_ h=>h) o rfl rfl
end
open Un
structure Lc where
 lr:Nat
 lu:Nat
 gR:Nat
 iX:Nat
 vV:Nat
 mb:Nat
 na:Nat
 Ox:Nat
def Vn(L:Lc):V:= .func fe [] [.ptr L.lu 0,.ptr L.iX 0]
def Oe(L:Lc):V:= .func eJ [] [.ptr L.mb 0,.ptr L.lr 0]
def M4(L:Lc):V:= .func fM [] [.ptr L.lu 0,.ptr L.na 0,.ptr L.gR 0]
structure Dq (F G:Nat->Prop) (h:Hp) (L:Lc) (ops:List Int) (t:Dt) (R:Rw):Prop where
 D:Dw F G h L.lu L.gR L.iX t R
 hq:R.cc=R.vc
 gl:G L.mb
 ga:h.get L.mb=some (.cells fy 1 true false [.I t.s.pos])
 fr:F L.lr
 gr:∃a vs n,h.get L.lr=some (.cells Lq 1 true false [a,vs,n])/\iL (eI .i64) F h ops a
 fp:F L.vV
 gp:∃e,h.get L.vV=some (.cells e 1 true false [Vn L])
 fn:F L.na
 gn:∃e,h.get L.na=some (.cells e 1 true false [Oe L])
 fs:F L.Ox
 gs:∃e,h.get L.Ox=some (.cells e 1 true false [M4 L])
section
variable{F F' G G':Nat->Prop}{h h':Hp}{L:Lc}{ops:List Int}{t t':Dt}{R R':Rw}{Q:fm}
theorem Dq.U1(q:Dq F G h L ops t R)(k:∀l,F l->h'.get l=h.get l) (D':Dw F' G' h' L.lu L.gR L.iX t' R')(a:∀l,F l->F' l) (b:R'.cc=R'.vc)(c:G' L.mb)(d:h'.get L.mb=some (.cells fy 1 true false [.I t'.s.pos])):Dq F' G' h' L ops t' R' where
 D:=D'
 hq:=b
 gl:=c
 ga:=d
 fr:=a _ q.fr
 gr:=by
  let⟨vo,vs,n,e,f⟩:=q.gr
  exact⟨vo,vs,n,by rw[k _ q.fr];exact e,(f.eD k).mono a⟩
 fp:=a _ q.fp
 gp:=by rw[k _ q.fp];exact q.gp
 fn:=a _ q.fn
 gn:=by rw[k _ q.fn];exact q.gn
 fs:=a _ q.fs
 gs:=by rw[k _ q.fs];exact q.gs
theorem Dq.step(q:Dq F G h L ops t R)(k:Kp F G h h') (D':Dw F' G' h' L.lu L.gR L.iX t' R')(b:∀l,F l->F' l)(c:G' L.mb) (a:R'.cc=R'.vc)(d:t'.s.pos=t.s.pos):Dq F' G' h' L ops t' R':=
 q.U1 (λl e=>k.eD l (.inl e)) D' b a c (by rw[k.eD _ (.inr q.gl),d];exact q.ga)
theorem Dq.mO(q:Dq F G h L ops t R):en (.ptr L.vV 0) h=some (Vn L):=by let⟨e,hg⟩:=q.gp;exact js hg rfl
theorem Dq.sq(q:Dq F G h L ops t R):en (.ptr L.na 0) h=some (Oe L):=by let⟨e,hg⟩:=q.gn;exact js hg rfl
theorem Dq.DM(q:Dq F G h L ops t R):en (.ptr L.Ox 0) h=some (M4 L):=by let⟨e,hg⟩:=q.gs;exact js hg rfl
theorem Dq.BI(q:Dq F G h L ops t R){i:Nat}(hi:i<t.s.known.length):∃l o,l<h.next/\(F l\/Loc R.vk l)/\gy 1 R.vk (.I i)=some (.ptr l o)/\en (.ptr l o) h=some (.I (t.s.known.getD i 0:Nat)):=by
 let⟨l,o,u,hl,a,b,c⟩:=q.D.ok.read.PO hi .i64 rfl
 refine⟨l,o,hl.elim (q.D.fl l) λh=>(q.D.ok.tu h).2.1,hl,a,?_⟩;rw[b];have:[u]=[V.I (t.s.known[i]:Nat)]:=c;rw[List.getD_eq_getElem?_getD,iH hi];simpa using this
theorem Dw.Rl{lu gR iX:Nat}(D:Dw F G h lu gR iX t R)(a:∀l,G' l->G l\/(l<h.next/\¬F l/\∀i,¬comp lu gR iX R i l)):Dw F G' h lu gR iX t R:=
 {D with gx:=λl b=>(a l b).elim (D.gx l) id}
def gm(G:Nat->Prop)(a:Nat):Nat->Prop:=λl=>G l/\l≠a
theorem Kp.gm(k:Kp F G h h')(a:Nat):Kp F (Hx.gm G a) h h':=⟨k.next,λl b=>k.eD l (b.imp id λh=>h.1)⟩
def setPos(t:Dt)(p:Nat):Dt:={t with s:={t.s with pos:=p} }
theorem tJ{m:Nat}(q:Dq F G h L ops t R)(g:0<m)(j:m<=100000000)(A:ops.length<9223372036854775808)
  (H:∀h',Kp F (gm G L.mb) h h'->Dq F G h' L ops (setPos t (draw ops t.s.pos m).2) R->Q (.I ((draw ops t.s.pos m).1:Nat)) h') :
  cP CS eJ [.I m,.ptr L.mb 0,.ptr L.lr 0] h Q:=by
 refine zS rfl rfl ?_;unfold rO
 let⟨vo,vs,n,gr,so⟩:=q.gr
 have k:en (.ptr L.mb 0) h=some (.I t.s.pos):=js q.ga rfl;have p:en (.ptr L.lr 0) h=some vo:=js gr rfl;simp[k,gZ,p,so.len];have a:=q.D.gx _ q.gl;split
 ·rename_i r;have e:draw ops t.s.pos m=(0,t.s.pos):=by
   unfold draw;rw[List.getElem?_eq_none (by omega)]
  rw[e]at H;exact H h (Kp.refl _ _ _) q
 ·rename_i c;have c:t.s.pos<ops.length:=by omega
  have e:draw ops t.s.pos m=(jk ops[t.s.pos] m,t.s.pos+1):=by
   unfold draw;rw[iH c]
  rw[e]at H;have w1:jt .i64 ((t.s.pos:Int)+1)=((t.s.pos+1:Nat):Int):=by rw[iO (by simp[Fb];omega)];omega
  have e1:=mg (o:=0) (mG:=[.I ((t.s.pos+1:Nat):Int)]) q.ga (by simp) rfl rfl;have hc:kX (λl=>l=L.mb) h (h.put L.mb (.cells fy 1 true false [.I ((t.s.pos+1:Nat):Int)])):=kX.put _ rfl a.1;have d:∀l,F l->(h.put L.mb (.cells fy 1 true false [.I ((t.s.pos+1:Nat):Int)])).get l=h.get l:=λl b=>fS _ a.1 λe=>a.2.1 (e▸b);have l2:en (.ptr L.lr 0) (h.put L.mb (.cells fy 1 true false [.I ((t.s.pos+1:Nat):Int)]))=some vo:=js (by rw[d _ q.fr];exact gr) rfl;have l3:en (.ptr L.mb 0) (h.put L.mb (.cells fy 1 true false [.I ((t.s.pos+1:Nat):Int)]))=some (.I ((t.s.pos+1:Nat):Int)):=js (fO _ a.1) rfl;have w2:jt .i64 (((t.s.pos+1:Nat):Int)-1)=(t.s.pos:Nat):=by rw[iO (by simp[Fb];omega)];omega
  let⟨l,o,u,_,v,w,x⟩:=(so.eD d).PO c .i64 rfl
  obtain⟨rfl⟩:u = .I ops[t.s.pos]:=by simpa using x.1
  simp only[ w1,gZ,e1,ej,l2,l3,iy,w2,v,w];refine zX g (by omega) (H _ ⟨hc.next,λl b=>b.elim (d l) λb=>fS _ a.1 λe=>b.2 e.symm⟩ ?_);have y:Dw F (gm G L.mb) h L.lu L.gR L.iX t R:={q.D with gx:=λl b=>q.D.gx l b.1}
  have D':=(y.other hc λl b=>by subst b;exact⟨a.2.1,λz=>z.2 rfl,a.2.2⟩).1;refine q.U1 d ?_ (λ_ h=>h) q.hq q.gl (fO _ a.1);have f:∀l,G l->_:=λl b=>if e:l=L.mb then e▸(⟨a.1,a.2.1,a.2.2⟩:_/\_/\∀i,¬comp L.lu L.gR L.iX R i L.mb) else D'.gx l ⟨b,e⟩
  exact{D' with gx:=f}
def gp(G:Nat->Prop)(v:V)(p:Nat):Nat->Prop:=λl=>G l\/l=p\/Loc v l
theorem yF(l:List Nat)(h:0<l.length):l.getD (l.length-1) 0=l.getLastD 0:=by
 rw[List.getLastD_eq_getLast?,List.getLast?_eq_getElem?,List.getD_eq_getElem?_getD]
theorem HM(q:Dq F G h L ops t R)(hk:0<t.s.known.length)(aN:t.s.known.length<1000)(hs:t.s.eh.length<1000)(ho:ops.length<9223372036854775808)
  (H:∀F' h' R',(∀l,F l->F' l)->Kp F (gm G L.mb) h h'->Dq F' G h' L ops {t with s:=(fk ops t.s).2} R'->R'.vk=R.vk->Q (.I ((fk ops t.s).1:Nat)) h') :
  cP CS fM [.ptr L.lu 0,.ptr L.na 0,.ptr L.gR 0] h Q:=by
 refine zw rfl rfl ?_;unfold rY;have aM:=(q.D.gx _ q.gl).1;have am:∀l,G l->l<h.next:=λl f=>(q.D.gx l f).1;have an:∀i l,comp L.lu L.gR L.iX R i l->l<h.next:=λi l f=>(q.D.sig f).2.1;have eb:fG [(V.I 0),(V.I 0),V.ed,V.ed] [(0,1),(1,1),(2,1),(3,1)] [(0,(V.I 1)),(1,.I t.s.eh.length)]=some (.agg [.I 1,.I t.s.eh.length,.ed,.ed]):=rfl;have U:(h.new (.cells 50 1 true false [(V.I 0),(V.I 0),V.ed,V.ed])).get h.next=some (.cells 50 1 true false [(V.I 0),(V.I 0),V.ed,V.ed]):=ez _ _;have e1:=BV (n:=4) (ws:=[.I 1,.I t.s.eh.length,.ed,.ed]) U rfl rfl rfl;simp only[fH,gZ,EM,q.D.Zc,q.D.os.len,eb,fJ,e1,ej];have K:h.next<(h.new (.cells 50 1 true false [(V.I 0),(V.I 0),V.ed,V.ed])).next:=K8 _
 have c2:kX (λl=>l=h.next) h ((h.new (.cells 50 1 true false [(V.I 0),(V.I 0),V.ed,V.ed])).put h.next (.cells 50 1 true false [.I 1,.I t.s.eh.length,.ed,.ed])):=
  (kX.new _ _).trans (kX.put _ rfl K)
 have g2:=fO (h:=h.new (.cells 50 1 true false [(V.I 0),(V.I 0),V.ed,V.ed])) (.cells 50 1 true false [.I 1,.I t.s.eh.length,.ed,.ed]) K;have n2:((h.new (.cells 50 1 true false [(V.I 0),(V.I 0),V.ed,V.ed])).put h.next (.cells 50 1 true false [.I 1,.I t.s.eh.length,.ed,.ed])).next=h.next+1:=rfl;generalize ((h.new (.cells 50 1 true false [(V.I 0),(V.I 0),V.ed,V.ed])).put h.next (.cells 50 1 true false [.I 1,.I t.s.eh.length,.ed,.ed]))=h2 at*;clear U e1 K;have fresh:∀l,h.next<=l->¬F l/\¬G l/\∀i,¬comp L.lu L.gR L.iX R i l:=λl f=>⟨λhf=>by have:=q.D.fl l hf;omega,λhg=>by have:=am l hg;omega,λi hi=>by have:=an i l hi;omega⟩
 obtain ⟨W,k2⟩:=q.D.other c2 (λl f=>by subst f;exact fresh _ (jn _));have X:Dw F (gp G .ed h.next) h2 L.lu L.gR L.iX t R:=W.Rl λl f=>f.elim .inl λf=> .inr (by
  rcases f with rfl|f
  ·exact⟨by omega,(fresh _ (jn _)).1,(fresh _ (jn _)).2.2⟩
  ·exact f.elim)
 have q2:Dq F (gp G .ed h.next) h2 L ops t R:=q.step k2 X (λ_ h=>h) (.inl q.gl) q.hq rfl;rw[q2.sq];simp only[gZ,Oe,Hq,BX,LR,IN];refine tJ (m:=4) q2 (by decide) (by decide) ho λy k3 q3=>?_;have g3:y.get h.next=some (.cells 50 1 true false [.I 1,.I t.s.eh.length,.ed,.ed]):=by
  rw[k3.eD _ (.inr ⟨.inr (.inl rfl),by omega⟩)];exact g2
 have hr:(draw ops t.s.pos 4).1<4:=tH _ _ (by decide)
 refine xA (λk x0 x1 x2 x4 x5 h'=>∃(s:Ds) (l:List Nat) (vl:V),x0 = .ptr L.lu 0/\x1 = .ptr L.na 0/\x2 = .ptr L.gR 0/\x4 = .ptr h.next 0/\x5 = .I (k:Nat)/\Dq F (gp G vl h.next) h' L ops {t with s:=s} R/\Kp F (gm G L.mb) h h'/\
  h'.get h.next=some (.cells 50 1 true false [.I 1,.I t.s.eh.length,vl,.ed])/\jF eN fy F h' l vl/\(∀z,Loc vl z->h.next<z)/\some_ ops k s l=some_ ops (draw ops t.s.pos 4).1 (num ops t.s 4).2 []/\s.known=t.s.known/\s.eh=t.s.eh/\l.length+k<=4) ?_
  ⟨(num ops t.s 4).2,[],.ed,rfl,rfl,rfl,rfl,rfl,q3,(k2.gm L.mb).trans ⟨k3.next,λl f=>k3.eD l (f.imp id λf=>⟨.inl f.1,f.2⟩)⟩ (λ_ h=>h),g3,.nil,λ_ h=>h.elim,rfl,rfl,rfl,by simp;omega⟩
 clear q3 k3 g3 q2 X W k2 g2 c2 eb;rintro k x0 x1 x2 x4 x5 h' ⟨s,l,vl,rfl,rfl,rfl,rfl,rfl,j,k',gF,ol,P,p,r,A,hlen⟩;unfold oV;have ao:en (.ptr h.next 2) h' = some vl:=js gF rfl;have kl:({t with s:=s}:Dt).s.known.length=t.s.known.length:=by show s.known.length=_;rw[r]
 have Y:h.next<h'.next:=(j.D.gx h.next (.inr (.inl rfl))).1;have Z:∀{g:Hp} {s1:Ds},Dq F (gp G vl h.next) g L ops {t with s:=s1} R->Dw F G g L.lu L.gR L.iX {t with s:=s1} R:=λq=>{q.D with gx:=λl f=>q.D.gx l (.inl f)}
 simp only[my,gZ,LZ,IM]
 cases k with
 | succ k=>
   rw[if_pos (by omega)];have lk:=j.D.ok.len;rw[kl]at lk;rw[j.sq];simp only[fH,gZ,EM,ao,j.D.w9,lk,Oe,Hq,BX,LR,IN];refine tJ (m:=t.s.known.length) j hk (by omega) ho λg u I=>?_;have aq:g.get h.next=some (.cells 50 1 true false [.I 1,.I (t.s.eh.length:Nat),vl,.ed]):=by
     rw[u.eD _ (.inr ⟨.inr (.inl rfl),by omega⟩)];exact gF
   have aa:jF eN fy F g l vl:=ol.eD (λz b=>u.eD z (.inl b)) (λz b=>u.eD z (.inr ⟨.inr (.inr b),by have:=P z b;omega⟩)) u.next;have ar:(draw ops s.pos t.s.known.length).1<t.s.known.length:=tH _ _ hk;obtain⟨l1,o1,ab,ac,i1,i2⟩:=I.BI (i:=(draw ops s.pos t.s.known.length).1) (by show _<s.known.length;rw[r];exact ar);have B:en (.ptr l1 o1) g=some (.I (s.known.getD (draw ops s.pos t.s.known.length).1 0:Nat)):=i2;refine⟨u.next,?_⟩;have e3:∀a:Nat,ju 3 1 1 (V.I 0) [(0,V.I (a:Nat))]=some (.cells 3 1 true false [V.I (a:Nat)],λl=> .slice l 0 1):=λ_=>rfl;have au:gy 1 R.vk (.I ((draw ops ({t with s:=s}:Dt).s.pos t.s.known.length).1:Nat))=some (.ptr l1 o1):=i1;simp only[au,B,gZ,e3,ij];generalize hv:s.known.getD (draw ops s.pos t.s.known.length).1 0=a at*;have W:=(Z I).grow (kX.new g (.cells 3 1 true false [V.I (a:Nat)]));have ae:(g.new (.cells 3 1 true false [V.I (a:Nat)])).get h.next=_:=(eR _ (by have:=u.next;omega)).trans aq;refine⟨⟨ez _ _,O.ie _ _ _ _ _⟩,mN B (eR _ ab),W.w9,js ae rfl,?_⟩;have aw:jF eN fy F (g.new (.cells 3 1 true false [V.I (a:Nat)])) l vl:=aa.eD (λz b=>eR _ (I.D.fl z b)) (λz b=>eR _ (aa.tu b).2.1) (La _);have hx:kJ (g.new (.cells 3 1 true false [V.I (a:Nat)])) 1 (.slice g.next 0 1)=some (1,[V.I (a:Nat)]):=mI (k:=0) rfl;obtain⟨d,y,a1,ag,c3,ax⟩:=aw.append (lV:=8) (ys:=[a]) hx ⟨[V.I (a:Nat)],[],rfl,rfl,trivial⟩ rfl rfl (by simp) (by decide) (λz b=>UT (I.D.fl z b)) (by simp;omega) (by simp;omega);have n2:(g.new (.cells 3 1 true false [V.I (a:Nat)])).next=g.next+1:=rfl;have w:h.next<y.next:=by have:=c3.next;have:=u.next;omega
   have ay:y.get h.next=some (.cells 50 1 true false [.I 1,.I (t.s.eh.length:Nat),vl,.ed]):=by
     rw[c3.eD _ (by have:=u.next;omega) λb=>VN _ (P _ b)];exact ae
   have a2:=mg (o:=2) (v:=d) (mG:=[.I 1,.I (t.s.eh.length:Nat),d,.ed]) ay (by simp) ag.one rfl;have az:fh 3 1 8 vl (.slice g.next 0 1) (g.new (.cells 3 1 true false [V.I (a:Nat)]))=some (.val d y):=a1;have w1:jt .i64 (((k+1:Nat):Int)-1)=(k:Nat):=Jt (by omega);simp only[az,ej,a2,iy,w1,gZ];refine⟨c3.next,jn _,k,by omega,?_⟩
   have cc:kX (λz=>Loc vl z\/z=h.next) (g.new (.cells 3 1 true false [V.I (a:Nat)])) (y.put h.next (.cells 50 1 true false [.I 1,.I (t.s.eh.length:Nat),d,.ed])):=
     (c3.Ub λ_ _ h=> .inl h).trans (kX.put _ (.inr rfl) w)
   obtain⟨D4,k4⟩:=W.other cc λz b=>fresh z (by rcases b with b|rfl;exact Nat.le_of_lt (P z b);exact jn _);have M:∀z,Loc d z->h.next<z:=λz b=>(ax z b).elim (P z) λe=>by have:=u.next;omega
   have ah:jF eN fy F (y.put h.next (.cells 50 1 true false [.I 1,.I (t.s.eh.length:Nat),d,.ed])) (l++[a]) d:=
     ag.eD (λz b=>fS _ w λe=>(fresh h.next (jn _)).1 (e▸b)) (λz b=>fS _ w (by have:=M z b;omega)) (jn _)
   have aA:Dw F (gp G d h.next) (y.put h.next (.cells 50 1 true false [.I 1,.I (t.s.eh.length:Nat),d,.ed])) L.lu L.gR L.iX _ R:=D4.Rl λz b=>b.elim .inl λb=> .inr (by
     rcases b with rfl|b
     ·exact⟨w,(fresh _ (jn _)).1,(fresh _ (jn _)).2.2⟩
     ·have C:=fresh z (Nat.le_of_lt (M z b));exact⟨(ah.tu b).2.1,C.1,C.2.2⟩)
   have kk:Kp F G g (y.put h.next (.cells 50 1 true false [.I 1,.I (t.s.eh.length:Nat),d,.ed])):=
     (Kp.new F G g _ I.D.fl λz b=>(I.D.gx z (.inl b)).1).trans k4 λ_ h=>h
   have qG:Dq F G g L ops _ R:={I with D:=Z I,gl:=q.gl}
   refine⟨{s with pos:=(draw ops s.pos t.s.known.length).2},l++[a],d,by trivial,by trivial,by trivial,by trivial,by trivial,qG.step kk aA (λ_ h=>h) (.inl q.gl) j.hq rfl,?_,fO _ w,ah,M,?_,r,A,by simp;omega⟩
   ·exact(k'.trans ⟨u.next,λz b=>u.eD z (b.imp id λb=>⟨.inl b.1,b.2⟩)⟩ λ_ h=>h).trans (kk.gm _) λ_ h=>h
   ·rw[<-p,<-hv]
    show _=some_ ops k (fu ops s).2 (l++[(fu ops s).1]);unfold fu
    rw[r]
 | zero=>
   rw[if_neg (by omega)];obtain⟨e1,e2⟩:l=(some_ ops (draw ops t.s.pos 4).1 (num ops t.s 4).2 []).1/\s=(some_ ops (draw ops t.s.pos 4).1 (num ops t.s 4).2 []).2:=by rw[<-p];exact⟨rfl,rfl⟩
   have lk:=j.D.ok.len;rw[kl]at lk;have w1:jt .i64 (((t.s.known.length:Nat):Int)-1)=((t.s.known.length-1:Nat):Int):=by
     rw[show((t.s.known.length:Nat):Int)=((t.s.known.length-1+1:Nat):Int) by omega];exact Jt (by omega)
   obtain ⟨l1,o1,ab,ac,i1,i2⟩:=j.BI (i:=t.s.known.length-1) (by rw[kl];omega);have B:en (.ptr l1 o1) h' = some (.I (t.s.known.getLastD 0:Nat)):=by
     rw[i2,show({t with s:=s}:Dt).s.known=t.s.known from r,yF _ hk]
   have e3:∀a:Nat,ju 3 1 1 (V.I 0) [(0,V.I (a:Nat))]=some (.cells 3 1 true false [V.I (a:Nat)],λl=> .slice l 0 1):=λ_=>rfl;simp only[j.D.w9,gZ,lk,iy,w1,i1,B,e3,fJ,fH,EM];have D5:=(Z j).grow (kX.new h' (.cells 3 1 true false [V.I (t.s.known.getLastD 0:Nat)]));have k5:Kp F G h' (h'.new (.cells 3 1 true false [V.I (t.s.known.getLastD 0:Nat)])):=(Z j).vH _;have g5:(h'.new (.cells 3 1 true false [V.I (t.s.known.getLastD 0:Nat)])).get h'.next=_:=ez _ _;have aB:(h'.new (.cells 3 1 true false [V.I (t.s.known.getLastD 0:Nat)])).get h.next=_:=(eR _ Y).trans gF;have aC:jF eN fy F (h'.new (.cells 3 1 true false [V.I (t.s.known.getLastD 0:Nat)])) l vl:=ol.eD (λz b=>eR _ (j.D.fl z b)) (λz b=>eR _ (ol.tu b).2.1) (La _);have n5:(h'.new (.cells 3 1 true false [V.I (t.s.known.getLastD 0:Nat)])).next=h'.next+1:=rfl;generalize h'.new (.cells 3 1 true false [V.I (t.s.known.getLastD 0:Nat)])=C at*;have a1:=mg (o:=3) (v:= .slice h'.next 0 1) (mG:=[.I 1,.I (t.s.eh.length:Nat),vl,.slice h'.next 0 1]) aB (by simp) rfl rfl;have E:h.next<C.next:=by omega
   obtain⟨D6,k6⟩:=D5.other (kX.put (S:=λz=>z=h.next) (.cells 50 1 true false [.I 1,.I (t.s.eh.length:Nat),vl,.slice h'.next 0 1]) rfl E) λz b=>by subst b;exact fresh _ (jn _)
   have aD:=fO (.cells 50 1 true false [.I 1,.I (t.s.eh.length:Nat),vl,.slice h'.next 0 1]) E;have g6:(C.put h.next (.cells 50 1 true false [.I 1,.I (t.s.eh.length:Nat),vl,.slice h'.next 0 1])).get h'.next=_:=(fS _ E (by omega)).trans g5;have ai:jF eN fy F (C.put h.next (.cells 50 1 true false [.I 1,.I (t.s.eh.length:Nat),vl,.slice h'.next 0 1])) l vl:=aC.eD (λz b=>k6.eD z (.inl b)) (λz b=>fS _ E (by have:=P z b;omega)) (jn _);have n6:(C.put h.next (.cells 50 1 true false [.I 1,.I (t.s.eh.length:Nat),vl,.slice h'.next 0 1])).next=C.next:=rfl;simp only[a1,ej];generalize C.put h.next (.cells 50 1 true false [.I 1,.I (t.s.eh.length:Nat),vl,.slice h'.next 0 1])=c at*;have lA:fZ 4 (.ptr h.next 0) c=some (.agg [.I 1,.I (t.s.eh.length:Nat),vl,.slice h'.next 0 1]):=y6 aD rfl;have ow:gh [.I 1,.I (t.s.eh.length:Nat),vl,.slice h'.next 0 1]=true:=by simp only[fc,ol.one];rfl
   have e7:ju 50 4 1 (V.agg [(V.I 0),(V.I 0),V.ed,V.ed]) [(0,.agg [.I 1,.I (t.s.eh.length:Nat),vl,.slice h'.next 0 1])]=some (.cells 50 4 true false [.I 1,.I (t.s.eh.length:Nat),vl,.slice h'.next 0 1],λl=> .slice l 0 1):=Ha rfl rfl ow;have e8:∀m:Nat,fG [V.ed] [(0,1)] [(0,.slice m 0 1)]=some (.agg [.slice m 0 1]):=λ_=>rfl;have e9:∀m:Nat,ju 53 1 1 (V.agg [V.ed]) [(0,.agg [.slice m 0 1])]=some (.cells 53 1 true false [.slice m 0 1],λl=> .slice l 0 1):=λm=>Ha rfl rfl rfl;simp only[D6.Zc,gZ,lA,e7,fJ,e8,e9];have D7:=D6.grow (kX.new c (.cells 50 4 true false [.I 1,.I (t.s.eh.length:Nat),vl,.slice h'.next 0 1]));have k7:=D6.vH (.cells 50 4 true false [.I 1,.I (t.s.eh.length:Nat),vl,.slice h'.next 0 1]);have g7:(c.new (.cells 50 4 true false [.I 1,.I (t.s.eh.length:Nat),vl,.slice h'.next 0 1])).get c.next=_:=ez _ _;have aE:(c.new (.cells 50 4 true false [.I 1,.I (t.s.eh.length:Nat),vl,.slice h'.next 0 1])).get h'.next=_:=(eR _ (by omega)).trans g6;have aj:jF eN fy F (c.new (.cells 50 4 true false [.I 1,.I (t.s.eh.length:Nat),vl,.slice h'.next 0 1])) l vl:=ai.eD (λz b=>eR _ (D6.fl z b)) (λz b=>eR _ (ai.tu b).2.1) (La _);have n7:(c.new (.cells 50 4 true false [.I 1,.I (t.s.eh.length:Nat),vl,.slice h'.next 0 1])).next=c.next+1:=rfl;generalize c.new (.cells 50 4 true false [.I 1,.I (t.s.eh.length:Nat),vl,.slice h'.next 0 1])=x at*;have D8:=D7.grow (kX.new x (.cells 53 1 true false [.slice c.next 0 1]));have k8:=D7.vH (.cells 53 1 true false [.slice c.next 0 1]);have g8:(x.new (.cells 53 1 true false [.slice c.next 0 1])).get c.next=_:=(eR _ (by omega)).trans g7;have aF:(x.new (.cells 53 1 true false [.slice c.next 0 1])).get h'.next=_:=(eR _ (by omega)).trans aE;have ak:jF eN fy F (x.new (.cells 53 1 true false [.slice c.next 0 1])) l vl:=aj.eD (λz b=>eR _ (D7.fl z b)) (λz b=>eR _ (aj.tu b).2.1) (La _);have aG:kJ (x.new (.cells 53 1 true false [.slice c.next 0 1])) 1 (.slice x.next 0 1)=some (1,[.slice c.next 0 1]):=mI (k:=0) rfl;have n8:(x.new (.cells 53 1 true false [.slice c.next 0 1])).next=x.next+1:=rfl;generalize x.new (.cells 53 1 true false [.slice c.next 0 1])=T at*;have D9:Dw (λz=>F z\/Loc vl z\/z=h'.next\/z=c.next) G T L.lu L.gR L.iX {t with s:=s} R:=D8.more (λ_ h=> .inl h) λz b=>b.elim .inl λb=> .inr (by
     have aH:h.next<z/\z<T.next:=by
       rcases b with b|rfl|rfl
       ·exact⟨P z b,(ak.tu b).2.1⟩
       ·omega
       ·omega
     have h9:=fresh z (by omega);exact⟨aH.2,h9.2.2,h9.2.1⟩)
   have sl:iL eN (λz=>F z\/Loc vl z\/z=h'.next\/z=c.next) T l vl:=ak.Wa (λ_ h=> .inl h) λ_ h=> .inr (.inl h)
   have ss:iL eN (λz=>F z\/Loc vl z\/z=h'.next\/z=c.next) T [t.s.known.getLastD 0] (.slice h'.next 0 1):=
     .inr ⟨h'.next,0,3,true,false,[V.I (t.s.known.getLastD 0:Nat)],rfl,.inr (.inr (.inl rfl)),aF,.inr rfl,GM _,⟨_,[],rfl,rfl,trivial⟩⟩
   have sf:iL eF (λz=>F z\/Loc vl z\/z=h'.next\/z=c.next) T [⟨1,(t.s.eh.length:Nat),l,[t.s.known.getLastD 0]⟩] (.slice c.next 0 1):=
     .inr ⟨c.next,0,50,true,false,[.I 1,.I (t.s.eh.length:Nat),vl,.slice h'.next 0 1],rfl,.inr (.inr (.inr rfl)),g8,.inr rfl,GM _,⟨_,[],rfl,⟨vl,_,rfl,sl,ss⟩,trivial⟩⟩
   obtain⟨v',h9,al,b1,b2,b3,b4,k9,N⟩:=D9.Zv (ys:=[[⟨1,(t.s.eh.length:Nat),l,[t.s.known.getLastD 0]⟩]]) aG ⟨[.slice c.next 0 1],[],rfl,⟨_,rfl,sf⟩,trivial⟩ rfl rfl (by simp) (by show s.eh.length+_<_;rw[A];simp;omega);have aI:fh 53 1 24 R.vs (.slice x.next 0 1) T=some (.val v' h9):=b1;have lS:=N.os.len;have aJ:((s.eh++[[(⟨1,(t.s.eh.length:Nat),l,[t.s.known.getLastD 0]⟩:Fm)]]).length:Nat)=t.s.eh.length+1:=by rw[A];simp
   have aK:fF v' = some (.I ((t.s.eh.length+1:Nat):Int)):=by rw[<-aJ];exact lS
   have w2:jt .i64 (((t.s.eh.length+1:Nat):Int)-1)=(t.s.eh.length:Nat):=Jt (by omega);simp only[aI,ej,b3,N.Zc,gZ,aK,iy,w2];have J:Kp F G h' al:=(((k5.trans k6 λ_ h=>h).trans k7 λ_ h=>h).trans k8 λ_ h=>h).trans ⟨k9.next,λz b=>k9.eD z (b.imp (λh=> .inl h) id)⟩ λ_ h=>h;have qG:Dq F G h' L ops _ R:={j with D:=Z j,gl:=q.gl}
   have hE:({t with s:=(fk ops t.s).2}:Dt) = {t with s:={s with eh:=s.eh++[[⟨1,(t.s.eh.length:Nat),l,[t.s.known.getLastD 0]⟩]]} }:=by
     unfold fk;rw[e1,A,e2];rfl
   have aL:=qG.step J N (λ_ h=> .inl h) q.gl j.hq rfl;refine H (λz=>F z\/Loc vl z\/z=h'.next\/z=c.next) al {R with vs:=v'} (λ_ h=> .inl h) (k'.trans (J.gm _) λ_ h=>h) ?_ rfl;rw[hE];exact aL
end
open Un
theorem Ul{t:Nat}{k:IntKind}{a b:Int}{A B:Prop}(h:if a<b then A else B):oP (ef .lss t (.int k a) (.int k b)) λv=>bP v A B:=by
 simp_all
theorem hH{t:Nat}{k:IntKind}{a b:Int}{A B:Prop}(h:if a=b then A else B):oP (ef .eql t (.int k a) (.int k b)) λv=>bP v A B:=by
 simp_all
theorem Mk{t:Nat}{k:IntKind}{a b:Int}{A B:Prop}(h:if b<a then A else B):oP (ef .gtr t (.int k a) (.int k b)) λv=>bP v A B:=by
 simp_all
theorem iA{t n m:Nat}{K:V->Prop}(a:n<1000000000)(b:m<1000000000)(H:K (.I ((n+m:Nat):Int))):oP (ef .add t (.I n) (.I m)) K:=by
 grind[Ba,Y2,gZ]
theorem tM{t n:Nat}{K:V->Prop}(a:n<1000000000)(h0:0<n)(H:K (.I ((n-1:Nat):Int))):oP (ef .sub t (.I n) (.I 1)) K:=by
 obtain⟨m,rfl⟩:∃m,n=m+1:=by simp_all
 grind[iy,Jt,gZ]
theorem gU{c A B:Prop}[Decidable c] (hc:c)(h:A):if c then A else B:=by simp_all
theorem gB{c A B:Prop}[Decidable c] (hc:¬c)(h:B):if c then A else B:=by simp_all
theorem gq{t n:Nat}{K:V->Prop}(H:K (.I ((n+1:Nat):Int)))(h:n<1000000000:=by omega):oP (ef .add t (.I n) (.I 1)) K:=iA (m:=1) h (by decide) H
theorem hV{t:Nat}{k:IntKind}{a b:Int}{A B:Prop}(H:A)(h:a<b:=by omega):oP (ef .lss t (.int k a) (.int k b)) λv=>bP v A B:=Ul (gU h H)
theorem jG{t:Nat}{k:IntKind}{a b:Int}{A B:Prop}(H:B)(h:¬a<b:=by omega):oP (ef .lss t (.int k a) (.int k b)) λv=>bP v A B:=Ul (gB h H)
section
variable{F F' G G':Nat->Prop}{h h':Hp}{L:Lc}{ops:List Int}{t t':Dt}{R R':Rw}{Q:fm}
theorem DD{α:Type}{l:List α}{x:α}{n:Nat}(h:l.length<=n):(l++[x]).length<=n+1:=by simp_all
structure Sm (s:Ds) (n:Nat):Prop where
 v:s.ee.length<=n
 c:s.cur.length<=n
 k:s.known.length<=n
 st:s.eh.length<=n
 k0:0<s.known.length
theorem Sm.le{s:Ds}{n m:Nat}(a:Sm s n)(h:n<=m):Sm s m:=⟨GP a.v h,GP a.c h,GP a.k h,GP a.st h,a.k0⟩
theorem Sm.put{s:Ds}{n:Nat}(a:Sm s n)(x:Vl):Sm (put s x) (n+1):=
 ⟨DD a.v,DD a.c,SC a.k,SC a.st,a.k0⟩
theorem Sm.gX{s:Ds}{n:Nat}(a:Sm s n)(x:Vl):Sm (gX s x) (n+1):=
 ⟨DD a.v,DD a.c,
  DD a.k,SC a.st,by show 0<(s.known++[s.ee.length]).length;simp_all⟩
theorem Sm.pos{s:Ds}{n:Nat}(a:Sm s n)(p:Nat):Sm {s with pos:=p} n:=⟨a.v,a.c,a.k,a.st,a.k0⟩
theorem Sm.state{s:Ds}{n:Nat}(a:Sm s n)(ops:List Int):Sm (fk ops s).2 (n+1):=by
 have b:∃p,(some_ ops (num ops s 4).1 (num ops s 4).2 []).2 = {s with pos:=p}:=by
  obtain⟨p,h⟩:=BD ops (num ops s 4).1 (num ops s 4).2 [];exact⟨p,h⟩
 obtain⟨p,b⟩:=b;unfold fk;simp only[b];exact⟨SC a.v,SC a.c,SC a.k,DD a.st,a.k0⟩
theorem TH(q:Dq F G h L ops t R){n a:Nat}(j:Sm t.s n)(m:n<1000){K:Hp->Prop}
  (H:∀h' R',Kp F G h h'->Dq F G h' L ops {t with s:={t.s with known:=t.s.known++[a]} } R'->K h') :
  uN (ju 3 1 1 (V.I 0) [(0,.I a)]) h λo c b=>((b.get h.next=some o/\O.beq o o=true)/\(en (.ptr L.gR 0) b=some R.vk/\fi (fh 3 1 8 R.vk c b) λd e=>(b.next<=e.next/\fi (gW 1 (.ptr L.gR 0) d e) λ_ g=>(e.next<=g.next/\K g)))):=by
 have p:ju 3 1 1 (V.I 0) [(0,V.I a)]=some (.cells 3 1 true false [V.I a],λl=> .slice l 0 1):=rfl;rw[p,ij];have i:=q.D.grow (kX.new h (.cells 3 1 true false [V.I a]));have r:kJ (h.new (.cells 3 1 true false [V.I a])) 1 (.slice h.next 0 1)=some (1,[V.I a]):=mI (k:=0) rfl;obtain⟨u,v,C,w,x,y,z,A,B⟩:=i.Vp (ys:=[a]) r ⟨[V.I a],[],rfl,rfl,trivial⟩ rfl rfl (by simp) (by have:=j.k;simp;omega);have f:fh 3 1 8 R.vk (.slice h.next 0 1) (h.new (.cells 3 1 true false [V.I a]))=some (.val u v):=w;refine⟨by grind[ez,O.ie],i.w9,?_⟩;simp only[f,ej,y];have k4:=(q.D.vH (.cells 3 1 true false [V.I a])).trans A λ_ h=>h;exact⟨x,z,H _ _ k4 (q.step k4 B (by simp_all) q.gl q.hq rfl)⟩
theorem BQ{x:Vl}{w:List V}(q:Dq F G h L ops t R){n:Nat}(b:Sm t.s n)(p:n<999)(r:eV.rel F h x w){K:Hp->Prop}
  (H:∀h' R',Kp F G h h'->Dq F G h' L ops {t with s:=gX t.s x} R'->K h') :
  cP CS fe [.agg w,.ptr L.lu 0,.ptr L.iX 0] h λd e=>(h.next<=e.next/\uN (ju 3 1 1 (V.I 0) [(0,d)]) e λo f a=>((a.get e.next=some o/\O.beq o o=true)/\(en (.ptr L.gR 0) a=some R.vk/\fi (fh 3 1 8 R.vk f a) λg i=>(a.next<=i.next/\fi (gW 1 (.ptr L.gR 0) g i) λ_ m=>(i.next<=m.next/\K m))))):=by
 have E:=b.v;have hc:=b.c;refine NM q.D q.hq r (by omega) (by omega) λu R1 j y k l=>⟨j.next,?_⟩
 have z:Dq F G u L ops {t with s:=put t.s x} R1:=q.step j y (by simp_all) q.gl k rfl;rw[<-l];exact TH z (b.put x) (by omega) λA R2 B C=>H A R2 (j.trans B λ_ h=>h) C
theorem Ep{x:Vl}{w:List V}(q:Dq F G h L ops t R){n:Nat}(d:Sm t.s n)(f:n<999)(g:eV.rel F h x w){K:fm}
  (H:∀h' R',Kp F G h h'->R'.vk=R.vk->Dq F G h' L ops {t with s:=put t.s x} R'->K (.I t.s.ee.length) h'):cP CS fe [.agg w,.ptr L.lu 0,.ptr L.iX 0] h K:=by
 have k:=d.v;have hc:=d.c;exact NM q.D q.hq g (by omega) (by omega) λi R1 e j a b=>H i R1 e b (q.step e j (by simp_all) q.gl a rfl)
theorem Iq(q:Dq F G h L ops t R)(c:ops.length<9223372036854775808){n:Nat}(a:Sm t.s n)(d:n<1000){K:fm}
  (H:∀h' l o,Kp F (gm G L.mb) h h'->Dq F G h' L ops {t with s:=(fu ops t.s).2} R->l<h'.next->gy 1 R.vk (.I ((draw ops t.s.pos t.s.known.length).1:Nat))=some (.ptr l o)->en (.ptr l o) h' = some (.I ((fu ops t.s).1:Nat))->K (.I ((draw ops t.s.pos t.s.known.length).1:Nat)) h') :
  cP CS eJ [.I t.s.known.length,.ptr L.mb 0,.ptr L.lr 0] h K:=by
 refine tJ q a.k0 (by have:=a.k;omega) c λe f b=>?_;obtain⟨l,o,g,_,j,m⟩:=b.BI (i:=(draw ops t.s.pos t.s.known.length).1) (tH _ _ a.k0);exact H e l o f b g j m
theorem V8{b:Bk}{nv:V}(q:Dq F G h L ops t R){n:Nat}(hn:t.blocks.length<1000)(K:b.ee=[])(M:b.ft=[])(a:iL eN F h b.next nv)
  (H:∀F' h' R',(∀l,F l->F' l)->Kp F G h h'->Dq F' G h' L ops {s:={t.s with cur:=[]},blocks:=t.blocks++[⟨t.s.cur,b.fin,b.cond,b.next,t.ft,b.state⟩],ft:=[]} R'->Q (.I t.blocks.length) h') :
  cP CS jC [.agg (lC b .ed nv .ed),.ptr L.iX 0,.ptr L.lu 0] h Q:=by
 refine zP rfl rfl ?_;unfold rQ;have o1:gh (lC b .ed nv .ed)=true:=by simp only[lC,fc,a.one];rfl
 have N:∀l,G l->l<h.next:=λl e=>(q.D.gx l e).1;have O:∀i l,comp L.lu L.gR L.iX R i l->l<h.next:=λi l e=>(q.D.sig e).2.1;have fresh:∀l,h.next<=l->¬F l/\¬G l/\∀i,¬comp L.lu L.gR L.iX R i l:=λl e=>⟨λP=>by have:=q.D.fl l P;omega,by grind,by grind⟩
 have u:=q.D.grow (kX.new h (.cells 44 1 true false (lC b .ed nv .ed)));have T:=q.D.vH (.cells 44 1 true false (lC b .ed nv .ed));have U:(h.new (.cells 44 1 true false (lC b .ed nv .ed))).get h.next=_:=ez _ _;have f:h.next<(h.new (.cells 44 1 true false (lC b .ed nv .ed))).next:=K8 _;simp only[BS o1,fJ,fH,gZ,EM,SH,u.Z9];generalize h.new (.cells 44 1 true false (lC b .ed nv .ed))=w at*;have e2:=mg (o:=0) (v:=R.cc) (mG:=lC b R.cc nv .ed) U (by simp[lC]) (by rw[q.hq];exact q.D.oc.one) rfl;obtain⟨x,W⟩:=u.other (kX.put (S:=λz=>z=h.next) (.cells 44 1 true false (lC b R.cc nv .ed)) rfl f) (by simp_all);have X:=fO (.cells 44 1 true false (lC b R.cc nv .ed)) f;have y:h.next<(w.put h.next (.cells 44 1 true false (lC b R.cc nv .ed))).next:=f;simp only[e2,ej,x.ldP,gZ];generalize w.put h.next (.cells 44 1 true false (lC b R.cc nv .ed))=Y at*;have Z:=mg (o:=4) (v:=R.vp) (mG:=lC b R.cc nv R.vp) X (by simp[lC]) q.D.sp.one rfl;obtain⟨g,k3⟩:=x.other (kX.put (S:=λz=>z=h.next) (.cells 44 1 true false (lC b R.cc nv R.vp)) rfl y) (by simp_all);have g3:=fO (.cells 44 1 true false (lC b R.cc nv R.vp)) y;simp only[Z,ej,g.TQ,gZ];generalize Y.put h.next (.cells 44 1 true false (lC b R.cc nv R.vp))=d at*;have A:gh (lC b R.cc nv R.vp)=true:=by simp only[lC,fc,a.one,q.hq,q.D.oc.one,q.D.sp.one];rfl
 have lA:fZ 6 (.ptr h.next 0) d=some (.agg (lC b R.cc nv R.vp)):=y6 g3 rfl;have e4:ju 44 6 1 (V.agg [V.ed,(V.I 0),(V.I 0),V.ed,V.ed,(V.I 0)]) [(0,.agg (lC b R.cc nv R.vp))]=some (.cells 44 6 true false (lC b R.cc nv R.vp),λl=> .slice l 0 1):=Ha rfl rfl A;simp only[lA,gZ,e4,fJ];have B:=g.grow (kX.new d (.cells 44 6 true false (lC b R.cc nv R.vp)));have k4:=g.vH (.cells 44 6 true false (lC b R.cc nv R.vp));have j:kJ (d.new (.cells 44 6 true false (lC b R.cc nv R.vp))) 6 (.slice d.next 0 1)=some (1,lC b R.cc nv R.vp):=mI (k:=0) rfl;have C:Kp F G h (d.new (.cells 44 6 true false (lC b R.cc nv R.vp))):=((T.trans W λ_ h=>h).trans k3 λ_ h=>h).trans k4 λ_ h=>h;generalize d.new (.cells 44 6 true false (lC b R.cc nv R.vp))=E at*;obtain⟨sc,D5⟩:=B.flush
 have hw:eK.rel (WJ F R.vc) E ⟨t.s.cur,b.fin,b.cond,b.next,t.ft,b.state⟩ (lC b R.cc nv R.vp):=
  ⟨R.cc,nv,R.vp,rfl,by rw[q.hq];exact sc,(a.eD λl e=>C.eD l (.inl e)).mono λ_ h=> .inl h,B.sp.mono λ_ h=> .inl h⟩
 obtain ⟨I,h5,h6,a1,a2,a3,a4,k6,J⟩:=D5.Zy (ys:=[⟨t.s.cur,b.fin,b.cond,b.next,t.ft,b.state⟩]) j ⟨lC b R.cc nv R.vp,[],by simp,hw,trivial⟩ rfl A (by simp) (by simp;omega);have m:fh 44 6 96 R.vb (.slice d.next 0 1) E=some (.val I h5):=a1;have e7:fG [V.ed,(V.I 0),(V.I 0),V.ed,V.ed,(V.I 0)] [(0,1),(1,1),(2,1),(3,1),(4,1),(5,1)] []=some (.agg [.ed,.I 0,.I 0,.ed,.ed,.I 0]):=rfl;have e8:=BV (n:=6) (ws:=[.ed,.I 0,.I 0,.ed,.ed,.I 0]) J.gb rfl rfl rfl;obtain⟨k7,r⟩:=J.UB (c:= .ed) (p:= .ed) (ps:=[]) .nil;have lb:fF I=some (.I ((t.blocks.length+1:Nat):Int)):=by
  have:=r.ob.len;simpa using this
 simp only[m,ej,a3,e7,gZ,e8,r.TQ,lb,iy,Jt (n:=t.blocks.length) (by omega)];have kb:=(C.trans (F':=WJ F R.vc) k6 λ_ h=> .inl h).trans (F':=WJ F R.vc) k7 λ_ h=> .inl h;exact H (WJ F R.vc) _ _ (λ_ h=> .inl h) kb (q.step kb r (λ_ h=> .inl h) q.gl rfl rfl)
end
