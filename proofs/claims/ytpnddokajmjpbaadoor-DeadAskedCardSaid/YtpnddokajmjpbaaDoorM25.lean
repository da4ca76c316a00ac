/- Parts. -/
import Derived.Test.YtpnddokajmjpbaaDoorM24
import Derived.KernelRfl
namespace Go.Proofs.YtpnddokajmjpbaaDoor.Hx
open Go.Proofs.YtpnddokajmjpbaaDoor.Un Go.Proofs.YtpnddokajmjpbaaDoor.Dm
def pre (u:U)(b:Nat):List Nat:=(u.blocks.take b).flatMap (·.vals)
theorem wW {u:U}{b:Nat}{B:Bk}(a:u.blocks[b]? =some B):pre u (b+1)=pre u b++B.vals:=by
 unfold pre;obtain⟨c,rfl⟩:=wAB.1 a;rw[wAT c,wBR];simp
theorem zB {u:U}{b v:Nat}:v∈pre u b↔∃c k,At u v c k/\c<b:=by
 unfold pre At;simp only[wAy];constructor
 ·rintro⟨B,a,d⟩;obtain⟨c,hc⟩:=wAD.1 a;obtain⟨k,e⟩:=wAD.1 d;rw[List.getElem?_take]at hc;split at hc
  ·exact⟨c,k,⟨B,hc,e⟩,by omega⟩
  ·cases hc
 ·rintro⟨c,k,⟨B,a,d⟩,f⟩;refine⟨B,wAD.2 ⟨c,?_⟩,wAD.2 ⟨k,d⟩⟩;rw[List.getElem?_take,if_pos f];exact a
theorem yx {u:U}(g:Good u){b:Nat}{B:Bk}(a:u.blocks[b]? =some B):B.vals.Nodup:=by
 rw[wBj,wA3];intro i j hi c d e;have f:At u (B.vals[i]) b i:=⟨B,a,wAA hi⟩
 have h:At u (B.vals[i]) b j:=⟨B,a,by rw[e];exact wAA c⟩
 have:=(g.at2 _ _ _ _ _ f h).2;omega
theorem xH {u:U}(g:Good u):∀b,(pre u b).Nodup
 |0=>by simp[pre]
 | b + 1=>by
   by_cases hb:b<u.blocks.length
   ·have a:=wAA hb
    rw[wW a,wBM];refine⟨xH g b,yx g a,λv d w f e=>?_⟩;subst e;obtain⟨c,k,h,l⟩:=zB.1 d;obtain⟨j,i⟩:=wAD.1 f;have:=(g.at2 _ _ _ _ _ h ⟨_,a,i⟩).1;omega
   ·have:pre u (b+1)=pre u b:=by
      unfold pre;rw[wA1 (by omega),wA1 (by omega)]
    rw[this];exact xH g b
theorem AS {u:U}(g:Good u):(pre u u.blocks.length).length=u.vals.length:=by
 refine Nat.le_antisymm (iy _ _ (xH g _) λv a=>?_) ?_
 ·obtain⟨c,k,d,_⟩:=zB.1 a;exact g.atlt _ _ _ d
 ·have d:(List.range u.vals.length).length=u.vals.length:=wBY;rw[<-d];refine ER _ _ List.nodup_range λv a=>?_;rw[wBJ]at a;obtain⟨b,k,e⟩:=g.at1 v a;refine zB.2 ⟨b,k,e,?_⟩;obtain⟨B,f,_⟩:=e;exact(wAB.1 f).1
structure Std (u:U) (b k:Nat) (bl pl:List Int):Prop where
 nb:bl.length=u.vals.length
 np:pl.length=u.vals.length
 yes:∀(v c j:Nat),At u v c j->(c<b\/(c=b/\j<k))->bl[v]? =some (c:Int)/\pl[v]? =some (j:Int)
 no:∀(v c j:Nat),At u v c j->¬(c<b\/(c=b/\j<k))->bl[v]? =some (-1)
theorem Std.step {u:U}{b k:Nat}{bl pl:List Int}(g:Good u)(S:Std u b k bl pl){v:Nat}(f:At u v b k):Std u b (k+1) (bl.set v (b:Int)) (pl.set v (k:Int)):=by
 have d:=g.atlt _ _ _ f;refine⟨by simp[S.nb],by simp[S.np],λw c j a hc=>?_,λw c j a hc=>?_⟩
 ·by_cases e:w=v
  ·subst e;obtain⟨rfl,rfl⟩:=g.at2 _ _ _ _ _ a f;rw[wAK (by rw[S.nb];exact d),wAK (by rw[S.np];exact d)];exact⟨rfl,rfl⟩
  ·rw [wAN λh=>e h.symm,wAN λh=>e h.symm];refine S.yes w c j a ?_;rcases hc with i|⟨rfl,i⟩
   ·exact .inl i
   ·refine .inr ⟨rfl,?_⟩;rcases wBK j k with l|l
    ·exact l
    ·exfalso;obtain rfl:j=k:=by omega
     obtain⟨B,o,p⟩:=a;obtain⟨q,m,n⟩:=f;rw[o]at m;cases m;rw[p]at n;cases n;exact e rfl
 ·have e:w≠v:=λe=>by
   subst e;obtain⟨rfl,rfl⟩:=g.at2 _ _ _ _ _ a f;exact hc (.inr ⟨rfl,by omega⟩)
  rw[wAN λh=>e h.symm];exact S.no w c j a λh=>hc (by omega)
theorem Std.next {u:U}{b:Nat}{bl pl:List Int}{B:Bk}(g:u.blocks[b]? =some B)(S:Std u b B.vals.length bl pl):Std u (b+1) 0 bl pl:=by
 have d:∀v c j,At u v c j->((c<b\/(c=b/\j<B.vals.length))↔(c<b+1\/(c=b+1/\j<0))):=by
  intro v c j i;constructor
  ·omega
  ·intro h;by_cases e:c=b
   ·subst e;obtain⟨l,a,f⟩:=i;rw[g]at a;cases a;exact .inr ⟨rfl,(wAB.1 f).1⟩
   ·omega
 exact⟨S.nb,S.np,λv c j a f=>S.yes v c j a ((d v c j a).2 f),λv c j a f=>S.no v c j a λk=>f ((d v c j a).1 k)⟩
theorem G1:P0.underlying tyBool=some .bool:=by kernel_rfl
theorem FW (a b:Bool):hbin .neq tyBool (.bool a) (.bool b)=some (.bool (a != b)):=by
 show heql tyBool true (.bool a) (.bool b)=_;unfold heql heqT hnilT;rw[G1];cases a <;> cases b <;> rfl
section
variable{F F':Nat->Prop}{h h':Hp}{cs:List Pc}{Q:QP1}{u:U}{vv vb vs:V}{lc:Nat}{bl pl idm:V}
theorem HB (g:Good u){ty:Nat}(H0:Hold F h (cellP lc ty [.int .i64 u.func,.int .i64 u.pc,vv,vb,vs,bl,pl,idm]::cs))(s:URd F h u vv vb vs)
  (H:∀F' h' b' p' xs ys,Sn F h F' h'->Hold F' h' (cellP lc ty [.int .i64 u.func,.int .i64 u.pc,vv,vb,vs,b',p',idm]::cs)->SlR eZ F' h' xs b'->SlR eZ F' h' ys p'->Std u u.blocks.length 0 xs ys->Q (.bool true) h') :
  cP CS jv [.ptr lc 0] h Q:=by
 refine xX rfl rfl ?_;unfold rB;have nv:=g.nv;have nb:=g.nb;have aV:lc<h.next:=(H0.ok 0 _ rfl).2.1;refine d9 (fc _ _) (d9 (ed _ _ _) (oF (H0.ld 0 rfl rfl) (d9 s.v.len ?_)));rw[gh (z:=V.int .i64 0) rfl (by decide) (by omega),fD];obtain⟨H1,s1⟩:=H0.make (E:=eZ) (ty:=tyInt) (y:=0) (u:=V.int .i64 0) u.vals.length rfl rfl;have n1:(h.new (.cells tyInt 1 true false (List.replicate u.vals.length (V.int .i64 0)))).next=h.next+1:=rfl;have g1:(h.new (.cells tyInt 1 true false (List.replicate u.vals.length (V.int .i64 0)))).get h.next=_:=ef _ _;show oP (pNil (.ptr lc 0)) _;generalize ap:h.new (.cells tyInt 1 true false (List.replicate u.vals.length (V.int .i64 0)))=a at*;refine d9 (fc _ _) (d9 (ed _ _ _) (oF (H1.ld 1 rfl rfl) (d9 (s.since s1).v.len ?_)));rw[gh (z:=V.int .i64 0) rfl (by decide) (by omega),fD];obtain⟨H2,s2⟩:=H1.make (E:=eZ) (ty:=tyInt) (y:=0) (u:=V.int .i64 0) u.vals.length rfl rfl;have g2:(a.new (.cells tyInt 1 true false (List.replicate u.vals.length (V.int .i64 0)))).get a.next=_:=ef _ _;have N:=(er (h:=a) (.cells tyInt 1 true false (List.replicate u.vals.length (V.int .i64 0))) (l:=h.next) (by omega)).trans g1;have n2:(a.new (.cells tyInt 1 true false (List.replicate u.vals.length (V.int .i64 0)))).next=a.next+1:=rfl;show oP (pNil (.ptr lc 0)) _;generalize aq:a.new (.cells tyInt 1 true false (List.replicate u.vals.length (V.int .i64 0)))=h2 at*;refine d9 (fc _ _) (d9 (ed _ _ _) ⟨⟨g2,O.beq_cells _ _ _ _ _⟩,H2.ld 2 rfl rfl,⟨N,O.beq_cells _ _ _ _ _⟩,H2.ld 2 rfl rfl,?_⟩);obtain⟨h3,e3,n3,H3,s3,k3⟩:=H2.stk 2 (o:=5) (u:= .slice h.next 0 u.vals.length) rfl (by simp) rfl;rw[show V.ptr lc (0+5)=V.ptr lc 5 from rfl,e3,ec];refine⟨n3,d9 (fc _ _) (d9 (ed _ _ _) ⟨⟨(k3 _ (by omega)).trans g2,O.beq_cells _ _ _ _ _⟩,?_⟩)⟩;simp only[wAE,wAC]at H3;obtain⟨h4,e4,n4,H4,s4⟩:=H3.st 2 (o:=6) (u:= .slice a.next 0 u.vals.length) rfl (by simp) rfl;rw[show V.ptr lc (0+6)=V.ptr lc 6 from rfl,e4,ec];refine⟨n4,?_⟩;simp only[wAE,wAC]at H4;have ar:=((s1.trans s2).trans s3).trans s4;clear e3 e4 k3 g1 N g2 H1 H2 H3 s1 s2 s3 s4 ap aq;generalize V.slice a.next 0 u.vals.length=vp at*;generalize V.slice h.next 0 u.vals.length=vq at*;have lq:=H4.len 1 (xs:=List.replicate u.vals.length (0:Int)) rfl;rw[wAi]at lq;refine oN (H4.ld 2 rfl rfl) (d9 lq ?_)
 refine vf (λk A P R h'=>∃(i:Nat) (xs:List Int),A = .ptr lc 0/\P = .int .i64 u.vals.length/\R = .int .i64 i/\i+k=u.vals.length/\xs.length=u.vals.length/\(∀j,j<i->xs[j]? =some (-1))/\Sn F h F h'/\
  Hold F h' (rowP eZ tyInt (List.replicate u.vals.length (0:Int)) vp::rowP eZ tyInt xs vq::cellP lc ty [.int .i64 u.func,.int .i64 u.pc,vv,vb,vs,vq,vp,idm]::cs)) ?_ (k:=u.vals.length)
  ⟨0,_,rfl,rfl,rfl,by omega,by simp,λj hj=>by omega,ar,H4⟩
 rintro k A P R h5 ⟨i,xs,rfl,rfl,rfl,hk,S,hm,s5,H5⟩;unfold pw;by_cases hi:i<u.vals.length
 ·refine ltYes ?_;obtain⟨l6,o6,h6,e6,e7,n6,L,C⟩:=H5.stR 1 rfl (k:=i) (y:=(-1:Int)) (u:=V.int .i64 (-1)) (by omega) rfl rfl rfl;refine oN (H5.ld 2 rfl rfl) (d9 e6 ?_);rw[e7,ec];simp only[wAE,wAC]at L;refine addOne ⟨k-1,by omega,i+1,xs.set i (-1),rfl,rfl,rfl,by omega,by simp[S],λj hj=>?_,s5.trans C,L⟩;by_cases e:j=i
  ·subst e;rw[wAK (by omega)]
  ·rw[wAN λh=>e h.symm];exact hm j (by omega)
 refine ltNo ?_;refine d9 (fc _ _) (d9 (ed _ _ _) (oF (H5.ld 2 rfl rfl) (d9 (s.since s5).b.len ?_)));have S0:Std u 0 0 xs (List.replicate u.vals.length (0:Int)):=⟨S,by simp,λv c j _ h=>by omega,λv c j a _=>hm v (by have:=g.atlt _ _ _ a;omega)⟩
 refine vU (λk A T d m n h'=>∃(b:Nat) (xs ys:List Int),A = .ptr lc 0/\T = .int .i64 ((pre u b).length:Nat)/\d=vb/\m = .int .i64 u.blocks.length/\n = .int .i64 b/\b+k=u.blocks.length/\Std u b 0 xs ys/\Sn F h F h'/\
  Hold F h' (rowP eZ tyInt ys vp::rowP eZ tyInt xs vq::cellP lc ty [.int .i64 u.func,.int .i64 u.pc,vv,vb,vs,vq,vp,idm]::cs)) ?_ (k:=u.blocks.length)
  ⟨0,xs,_,rfl,rfl,rfl,rfl,rfl,by omega,S0,s5,H5⟩
 rintro k1 A T d m n h6 ⟨b,au,aw,rfl,rfl,ax,rfl,rfl,aW,S1,C,L⟩;subst d;unfold pb;by_cases hb:b<u.blocks.length;rotate_left
 ·refine ltNo ?_;obtain rfl:b=u.blocks.length:=by omega
  refine d9 (fc _ _) (d9 (ed _ _ _) (oF (L.ld 2 rfl rfl) (d9 (s.since C).v.len (fu ?_))));rw[AS g,wBF rfl];obtain⟨U,W,r7⟩:=L.freezeR 0 rfl;simp only[wAE,wAC]at U;obtain⟨p,t,r8⟩:=U.freezeR 1 rfl;simp only[wAE,wAC]at p;exact H _ _ _ _ _ _ ((C.trans W).trans t) p.tail.tail r8 (r7.since t) S1
 refine ltYes ?_;obtain⟨B,D⟩:∃B,u.blocks[b]? =some B:=⟨_,wAA hb⟩
 obtain ⟨l7,o7,bv,bn,bp,_,i1,i2,M,iN,ip,_⟩:=(s.since C).blk D;refine d9 i1 (d9 i2 ?_);refine fU L rfl rfl (by simp only[bkC,ee,M.one,iN.one,ip.one];rfl) λh7 U W=>?_;have M:=M.since W;refine oF (U.ld 0 rfl rfl) (d9 M.len ?_);have aX:(pre u b).length<=u.vals.length:=by
  rw[<-AS g];unfold pre;have:u.blocks.take b <+: u.blocks:=List.take_prefix _ _;obtain⟨r,hr⟩:=this
  conv=>rhs;rw[wAg,<-hr,wBR,wAM]
  omega
 have aU:(pre u b).length+B.vals.length<=u.vals.length:=by
  rw[<-wAM,<-wW D];rw[<-AS g];unfold pre;have:u.blocks.take (b+1) <+: u.blocks:=List.take_prefix _ _;obtain⟨r,hr⟩:=this
  conv=>rhs;rw[wAg,<-hr,wBR,wAM]
  omega
 refine vL (λk A T x5 x7 d m n I X Y h'=>∃(j:Nat) (fst:Bool) (xs ys:List Int),A = .ptr lc 0/\T = .int .i64 (((pre u b).length+j:Nat):Int)/\x5 = .int .i64 b/\x7 = .bool fst/\d=vb/\m = .int .i64 u.blocks.length/\n = .int .i64 b/\
  I=bv/\X = .int .i64 B.vals.length/\Y = .int .i64 j/\j+k=B.vals.length/\(fst=true\/∃v w x,At u v b (j-1)/\0<j/\w=v/\u.vals[v]? =some x/\isHead x.op=false)/\Std u b j xs ys/\Sn F h F h'/\
  Hold F h' (rowP eZ tyInt ys vp::rowP eZ tyInt xs vq::cellP lc ty [.int .i64 u.func,.int .i64 u.pc,vv,vb,vs,vq,vp,idm]::cs)) ?_ (k:=B.vals.length)
  ⟨0,true,au,aw,rfl,rfl,rfl,rfl,rfl,rfl,rfl,rfl,rfl,rfl,by omega,.inl rfl,S1,C.trans W,U.tail⟩
 rintro k2 A T x5 x7 d m n I X Y Z ⟨j,fst,J,aa,rfl,rfl,rfl,rfl,ax,rfl,rfl,aY,rfl,rfl,aZ,ab,S2,t,p⟩;subst d I;unfold pC;by_cases hj:j<B.vals.length;rotate_left
 ·refine ltNo ?_;obtain rfl:j=B.vals.length:=by omega
  refine addOne ⟨k1-1,by omega,b+1,J,aa,rfl,?_,rfl,rfl,rfl,by omega,S2.next D,t,p⟩;rw[wW D,wAM]
 refine ltYes ?_;have f:At u (B.vals[j]) b j:=⟨B,D,wAA hj⟩
 have K:=g.atlt _ _ _ f;obtain⟨x,hx⟩:∃x,u.vals[B.vals[j]]? =some x:=⟨_,wAA K⟩
 have ay:SlR eN F Z B.vals bv:=by
  obtain ⟨l7,o7,a5,a6,a7,_,a8,a9,ba,_⟩:=(s.since t).blk D;have e1:l7=l7:=rfl;exact(((s.since C).blk D|> λ_=>M)|> λ_=>(by
   have hk:∀l,F l->Z.get l=h7.get l:=λl hl=>(t.keep l hl).trans ((C.trans W).keep l hl).symm;exact M.keep hk))
 obtain ⟨l9,o9,_,j1,j2⟩:=ay.nat (wAA hj) .i64;refine d9 j1 (d9 j2 (d9 (fc _ _) (d9 (ed _ _ _) (oF (p.ld 2 rfl rfl) (d9 (s.since t).v.len ?_)))));refine r0 ?_;rw[wBF K];refine d9 rfl ?_;have aA:=S2.no _ _ _ f (by omega);obtain⟨G,ac⟩:=wAB.1 aA;obtain⟨lb,ob,ub,b1,b2,b3⟩:=p.ix1 1 rfl (k:=B.vals[j]) G .i64 rfl;obtain rfl:ub = .int .i64 (-1):=by
  have:[ub]=[V.int .i64 J[B.vals[j]]]:=b3;rw[ac]at this;simpa using this
 have eA:pOr (.bool (!true)) (oB (some (V.ptr lc 0)) λaB=>oB (pNil aB) λaC=>oB (pFA 5 aC) λaD=>oB (pLd aD Z) λaE=>oB (some (V.int .i64 (B.vals[j]:Nat))) λaF=>oB (pIx 1 aE aF) λaG=>oB (pLd aG Z) λaH=>hbin .geq 3 aH (V.int .i64 0))=some (.bool false):=by
  have l5:pLd (.ptr lc (0+5)) Z=some vq:=p.ld 2 rfl rfl;simp only[wCC,jC,en,fc,ed,l5,b1,b2,kX];rfl
 refine d9 eA (st_b (if_f (by simp) ?_));obtain⟨lv,ov,wv,_,c1,_,_,cv⟩:=(s.since t).val hx;refine d9 (fc _ _) (d9 (ed _ _ _) (oF (p.ld 2 rfl rfl) (d9 c1 (oF cv.op ?_))));refine d9 (fF _ _ _ _) ?_;have eH:pOr (.bool ((x.op:Int) == 21)) (oB (some (V.int .i64 x.op)) λaI=>hbin .eql 3 aI (V.int .i64 1))=some (.bool (isHead x.op)):=by
  simp only[en,fF,sU];unfold isHead;rw[show((x.op:Int) == 21)=(x.op == 21) from ieq _ 21,show((x.op:Int) == 1)=(x.op == 1) from ieq _ 1,Bool.or_comm]
 refine d9 eH ?_;have aJ:isHead x.op=true->fst=true:=by
  intro q;rcases ab with a|⟨v,w,y,a,h2,rfl,h3,h4⟩
  ·exact a
  ·exfalso;have h5:=g.heads (B.vals[j]) w b (j-1) x y (by rw[Nat.sub_add_cancel h2];exact f) a hx h3 q;rw[h4]at h5;cases h5
 have aK:pAnd (.bool (isHead x.op)) (oB (some (V.bool fst)) λae=>hun .not ae)=some (.bool false):=by
  cases q:isHead x.op with
  |false=>rfl
  |true=>rw[aJ q];rfl
 refine d9 aK ?_;have aL:isHead x.op=true->((x.op:Int) == 1)=((b:Int) == 0):=by
  intro q;unfold isHead at q;simp only[wAw,wAt]at q;rw[show((x.op:Int) == 1)=(x.op == 1) from ieq _ 1,show((b:Int) == 0)=(b == 0) from ieq _ 0];rcases q with a|a
  ·rw[g.par _ _ _ _ f hx a,a];rfl
  ·have:=(g.phi _ _ _ _ _ f hx a D).1;rw[a]
   symm
   rw[show((21:Nat) == 1)=false from rfl,wAz];exact this
 have eM:pOr (.bool false) (oB (some (V.int .i64 x.op)) λag=>oB (hbin .eql 3 ag (V.int .i64 1)) λah=>oB (some (V.int .i64 b)) λai=>oB (hbin .eql 3 ai (V.int .i64 0)) λaj=>oB (hbin .neq 4 ah aj) λal=>oB (some al) λam=>pAnd am (some (V.bool (isHead x.op))))=some (.bool false):=by
  simp only[jC,en,fF,FW,gv]
  cases q:isHead x.op with
  |false=>simp
  |true=>rw[aL q];simp
 refine d9 eM (st_b (if_f (by simp) ?_));obtain⟨l10,bb,bc,aM,aN,aO,an,aP⟩:=p.stR 1 rfl (k:=B.vals[j]) (y:=(b:Int)) (u:=V.int .i64 b) G rfl rfl rfl;simp only[wAE,wAC]at an;refine oN (p.ld 2 rfl rfl) (oN (p.ld 2 rfl rfl) (d9 aM ?_));rw[aN,ec];obtain⟨l12,bd,be,aQ,aR,aS,ao,aT⟩:=an.stR 0 rfl (k:=B.vals[j]) (y:=(j:Int)) (u:=V.int .i64 j) (by rw[S2.np];exact K) rfl rfl rfl;simp only[wAE,wAC]at ao;refine⟨aO,d9 aQ ?_⟩;rw[aR,ec];refine⟨aS,addOne (addOne ?_)⟩;refine⟨k2-1,by omega,j+1,isHead x.op,J.set (B.vals[j]) (b:Int),aa.set (B.vals[j]) (j:Int),rfl,?_,rfl,rfl,rfl,rfl,rfl,rfl,rfl,rfl,by omega,?_,S2.step g f,(t.trans aP).trans aT,ao⟩
 ·rw[show(pre u b).length+(j+1)=(pre u b).length+j+1 by omega]
 ·cases q:isHead x.op with
  |true=>exact .inl rfl
  |false=>exact .inr ⟨_,_,x,f,by omega,rfl,hx,q⟩
end
open Go.Proofs.YtpnddokajmjpbaaDoor.Un Go.Proofs.YtpnddokajmjpbaaDoor.Dm
def nestP {α:Type}(E:Enc α)(tyO ty:Nat)(xss:List (List α))(v:V)(ds:List V):Pc where
 foot:=λl=>Loc v l\/∃d∈ds,Loc d l
 ok F h:=∃t,v = .slice t 0 xss.length/\t<h.next/\¬F t/\h.get t=some (.cells tyO 1 true false ds)/\ds.length=xss.length/\(∀(i:Nat) x d,xss[i]? =some x->ds[i]? =some d->OwnR E ty F h x d)/\(∀d∈ds,¬Loc d t)/\
  ∀(i j:Nat) (d e:V),i≠j->ds[i]? =some d->ds[j]? =some e->∀l,Loc d l->¬Loc e l
 inn:=λ⟨t,b,g,m,n,o,k,p,q⟩ l a=>by
  rcases a with a|⟨d,c,a⟩
  ·subst b;obtain rfl:t=l:=a;exact⟨g,m⟩
  ·obtain⟨i,hi⟩:=wAD.1 c;have w:=(wAB.1 hi).1;exact((k i _ d (wAA (by omega)) hi).tyOf a).2
 keep:=λ{F h h'} ⟨t,b,g,m,n,o,k,p,q⟩ r a u=>by
  refine⟨t,b,wAO g u,m,(a t (.inl (by subst b;rfl))).trans n,o,λi x d s c=>?_,p,q⟩;exact(k i x d s c).keep r (λl f=>a l (.inr ⟨d,wAD.2 ⟨i,c⟩,f⟩)) u
 mono:=λ{F F' h} ⟨t,b,g,m,n,o,k,p,q⟩ r a=>by
  refine⟨t,b,g,a t (.inl (by subst b;rfl)),n,o,λi x d s c=>?_,p,q⟩;exact(k i x d s c).mono r λl f=>a l (.inr ⟨d,wAD.2 ⟨i,c⟩,f⟩)
theorem DU {α:Type}{E:Enc α}{F:Nat->Prop}{h:Hp}:∀{xss:List (List α)}{ds:List V},ds.length=xss.length->(∀(i:Nat) x d,xss[i]? =some x->ds[i]? =some d->SlR E F h x d)->Win (eL E) F h ds xss
 |[],_,_,_=>trivial
 |x::xss,[],h,_=>by simp at h
 |x::xss,d::ds,hl,H=>⟨[d],ds,rfl,⟨d,rfl,H 0 x d rfl rfl⟩,DU (by simpa using hl) λi x d a b=>H (i+1) x d (by simpa using a) (by simpa using b)⟩
section
variable{F F':Nat->Prop}{h h':Hp}{cs:List Pc}{α:Type}{E:Enc α}{tyO ty:Nat}{xss:List (List α)}{v:V}{ds:List V}
theorem Hold.newNest (H:Hold F h cs)(n:Nat):Hold F (h.new (.cells tyO 1 true false (List.replicate n V.nilSlice))) (nestP E tyO ty (List.replicate n []) (.slice h.next 0 n) (List.replicate n V.nilSlice)::cs)/\Sn F h F (h.new (.cells tyO 1 true false (List.replicate n V.nilSlice))):=by
 have c:∀{i:Nat} {d:V},(List.replicate n V.nilSlice)[i]? =some d->d = .nilSlice:=λa=>wCA (wAD.2 ⟨_,a⟩);refine H.new _ ⟨h.next,by simp,wAk _,H.fresh,ef _ _,by simp,λi x d f a=>?_,λd a=>?_,λi j d e _ a _ l b=>?_⟩ λl b=>?_
 ·obtain rfl:=c a;obtain rfl:x=[]:=wCA (wAD.2 ⟨_,f⟩);exact .nil
 ·obtain rfl:=wCA a;exact id
 ·obtain rfl:=c a;exact b.elim
 ·rcases b with b|⟨d,a,b⟩
  ·exact b.symm
  ·obtain rfl:=wCA a;exact b.elim
theorem Hold.nestLen (H:Hold F h cs)(i:Nat)(hi:cs[i]? =some (nestP E tyO ty xss v ds)):pLen v=some (.int .i64 xss.length):=by
 obtain⟨t,rfl,_⟩:=H.ok i _ hi;rfl
theorem Hold.nestApp (H:Hold F h cs)(i:Nat)(hi:cs[i]? =some (nestP E tyO ty xss v ds)){b:Nat}(T:b<xss.length){by_ ety:Nat}{y:α}{w:List V}{ro:Bool}(O:E.rel F h y w)(hz:0<E.sz)(U:by_<=1000)(hlen:xss[b].length<1000000) :
  ∃l d p G D,ds[b]? =some d/\l<h.next/\pIx 1 v (.int .i64 b)=some (.ptr l (b*1))/\pLd (.ptr l (b*1)) h=some d/\happend ty E.sz by_ d (.slice h.next 0 1) (h.new (.cells ety E.sz true ro w))=some (.val p G)/\h.next+1<=G.next/\
   pSt 1 (.ptr l (b*1)) p G=some (.val .undef D)/\G.next<=D.next/\Hold F D (cs.set i (nestP E tyO ty (xss.set b (xss[b]++[y])) v (ds.set b p)))/\Sn F h F D:=by
 obtain⟨t,rfl,G,D,h4,h5,W,P,Q⟩:=H.ok i _ hi;obtain⟨d,I⟩:∃d,ds[b]? =some d:=⟨_,wAA (by omega)⟩
 have X:=W b _ d (wAA T) I;have s:=wAD.2 ⟨b,I⟩;have Y:OwnR E ty F (h.new (.cells ety E.sz true ro w)) xss[b] d:=X.keep (λl a=>er _ (H.fl l a)) (λl a=>er _ (X.tyOf a).2.1) (wBZ _);have hx:xcells (h.new (.cells ety E.sz true ro w)) E.sz (.slice h.next 0 1)=some (1,w):=jl (k:=0) (by rw[E.len O];simp);have ab:(xss[b].length+1)*by_<=1000000*1000:=Nat.mul_le_mul (by omega) U;obtain⟨p,m,R,o1,J,l1⟩:=Y.append (by_:=by_) (ys:=[y]) hx ⟨w,[],by simp,E.keep (λl a=>er _ (H.fl l a)) O,trivial⟩ (by rw[E.len O];simp) (E.one O) (by simp) hz (λl a=>wB6 (H.fl l a)) (by simp;omega) (by simp;omega);have n1:(h.new (.cells ety E.sz true ro w)).next=h.next+1:=rfl;have u:∀l,Loc p l->Loc d l\/h.next<=l:=λl a=>(l1 l a).imp id λe=>by omega
 have g:t<m.next:=by have:=J.next;omega
 have gt:m.get t=some (.cells tyO 1 true false ds):=by rw[J.keep t (by omega) (P d s),er _ G];exact h4
 have M:=BQ (o:=b*1) (v:=p) gt (by rw[Nat.mul_one];omega) o1.one;rw[Nat.mul_one]at M;have N:¬Loc p t:=λa=>(u t a).elim (P d s) λe=>by omega
 have cg:Chg (nestP E tyO ty xss (.slice t 0 xss.length) ds).foot h (m.put t (.cells tyO 1 true false (ds.set b p))):=by
  refine(((Chg.new h _).weak λ_ _ h=>h).trans' (J.weak (S':=λl=>Loc d l) λ_ _ h=>h) λl _ a=> .inr ⟨d,s,a⟩).trans' (Chg.put (S:=λl=>l=t) _ rfl g) λl _ e=> .inl e.symm
 have n:∀{j:Nat} {e:V},(ds.set b p)[j]? =some e->(j=b/\e=p)\/(j≠b/\ds[j]? =some e):=λ{j e} c=>by
  by_cases ej:b=j
  ·subst ej;rw[wAK (by omega)]at c;exact .inl ⟨rfl,(Option.some.inj c).symm⟩
  ·rw[wAN ej]at c;exact .inr ⟨λh=>ej h.symm,c⟩
 have r:∀{j:Nat} {e:V},ds[j]? =some e->∀l,Loc e l->l<h.next:=λ{j e} c l a=>by
  have ac:=(wAB.1 c).1;exact((W j _ e (wAA (by omega)) c).tyOf a).2.1
 refine⟨t,d,p,m,m.put t (.cells tyO 1 true false (ds.set b p)),I,G,?_,?_,R,J.next,by rw[Nat.mul_one];exact M,wAF _,H.turn' hi cg ?_ ?_⟩
 ·rw[uD _ _ _ _ _ _ T,wAY]
 ·rw[Nat.mul_one];exact gZ h4 I
 ·refine ⟨t,by simp,g,D,fd _ g,by simp[h5],λj x e z c=>?_,λe c=>?_,λj k e f hn c hf l a A=>?_⟩
  ·rcases n c with⟨rfl,rfl⟩|⟨q,c⟩
   ·rw[wAK T]at z;obtain rfl:=Option.some.inj z;exact o1.keep (λl a=>fg _ g λe=>D (e▸a)) (λl a=>fg _ g λe=>N (e▸a)) (wAF _)
   ·rw[wAN λe=>q e.symm]at z;have Z:=wAD.2 ⟨j,c⟩;refine(W j x e z c).keep (λl a=>?_) (λl a=>?_) (by have:=J.next;show h.next<=m.next;omega)
    ·rw[fg _ g λe=>D (e▸a),J.keep l (wB6 (H.fl l a)) λK=>(X.tyOf K).2.2 a,er _ (H.fl l a)]
    ·have aa:=r c l a;rw[fg _ g λe'=>P e Z (e'▸a),J.keep l (by omega) λK=>Q j b e d q c I l a K,er _ aa]
  ·obtain⟨j,q⟩:=wAD.1 c;rcases n q with⟨_,rfl⟩|⟨_,q⟩
   ·exact N
   ·exact P e (wAD.2 ⟨j,q⟩)
  ·rcases n c with⟨R,e2⟩|⟨q,L⟩
   ·rcases n hf with⟨M,_⟩|⟨hk,B⟩
    ·exact hn (R.trans M.symm)
    ·subst R e2;rcases u l a with C|C
     ·exact Q k j f d hk B I l A C
     ·have:=r B l A;omega
   ·rcases n hf with⟨M,e4⟩|⟨hk,B⟩
    ·subst M e4;rcases u l A with C|C
     ·exact Q j k e d q L I l a C
     ·have:=r L l a;omega
    ·exact Q j k e f hn L B l a A
 ·intro l a;rcases a with a|⟨e,c,a⟩
  ·exact .inl (.inl a)
  ·obtain ⟨j,q⟩:=wAD.1 c;rcases n q with⟨_,rfl⟩|⟨_,q⟩
   ·rcases u l a with C|C
    ·exact .inl (.inr ⟨d,s,C⟩)
    ·exact .inr C
   ·exact .inl (.inr ⟨e,wAD.2 ⟨j,q⟩,a⟩)
theorem Hold.freezeN (H:Hold F h cs)(i:Nat)(hi:cs[i]? =some (nestP E tyO ty xss v ds)):∃F',Hold F' h (cs.set i emp)/\Sn F h F' h/\SlR (eL E) F' h xss v:=by
 have a:=H.ok i _ hi;obtain⟨c,e⟩:=H.turn (p:=emp) (F':=λl=>F l\/(nestP E tyO ty xss v ds).foot l) hi (Chg.refl _ _) (λ_ h=> .inl h) (λ_ h=>h.imp id .inl) trivial λ_ h=>h.elim;refine⟨_,c,e,?_⟩;obtain⟨t,rfl,o,q,f,g,k,r,s⟩:=a;refine .inr ⟨t,0,tyO,true,false,ds,rfl,.inr (.inl rfl),f,.inr rfl,wA5 _,?_⟩;rw[wBT];exact DU g λj x d m b=>(k j x d m b).slR (λ_ h=> .inl h) λl n=> .inr (.inr ⟨d,wAD.2 ⟨j,b⟩,n⟩)
end
def aheadUp (u:U)(i j b:Nat):List Nat:=aheadTo (u.blocks.take i) 0 b++(match u.blocks[i]? with
 |some B=>((B.next.take j).filter (·= b)).map λ_=>i
 |none=>[])
theorem y0 (u:U)(b:Nat):aheadUp u 0 0 b=[]:=by
 unfold aheadUp;cases u.blocks[0]? <;> simp[aheadTo]
theorem zs {u:U}{i j b t:Nat}{B:Bk}(a:u.blocks[i]? =some B)(c:B.next[j]? =some t):aheadUp u i (j+1) b=if b=t then aheadUp u i j b++[i] else aheadUp u i j b:=by
 unfold aheadUp;rw[a];obtain⟨d,rfl⟩:=wAB.1 c;simp only[wAT d,wBb,wAx];by_cases e:b=B.next[j]
 ·rw[if_pos e,<-wAU];simp[e]
 ·rw[if_neg e];have:B.next[j]≠b:=λh=>e h.symm;simp[this]
theorem zw {u:U}{i b:Nat}{B:Bk}(a:u.blocks[i]? =some B):aheadUp u (i+1) 0 b=aheadUp u i B.next.length b:=by
 unfold aheadUp;obtain⟨hi,rfl⟩:=wAB.1 a;rw[a,wAT hi,sS];have c:(u.blocks.take i).length=i:=by rw[wAc];omega
 simp only[c,wAY,wAg];cases u.blocks[i+1]? <;> simp[aheadTo]
theorem jO (u:U)(b:Nat):aheadUp u u.blocks.length 0 b=Un.ahead u b:=by
 unfold aheadUp Un.ahead;rw[wAg,wAh (wAF _)];simp
theorem jR {u:U}(g:Good u){i j b:Nat}(hi:i<=u.blocks.length)(k:j<=2):(aheadUp u i j b).length<=2*i+2:=by
 have c:∀i,i<=u.blocks.length->(aheadTo (u.blocks.take i) 0 b).length<=2*i:=by
  intro i
  induction i with
  |zero=>intro _;simp[aheadTo]
  | succ i e=>
    intro hi;have a:i<u.blocks.length:=by omega
    rw[wAT a,sS];have:=e (by omega);have f:u.blocks[i]? =some u.blocks[i]:=wAA a;have l:(u.blocks[i]).next.length<=2:=by
      rcases g.fin i _ f with⟨_,h⟩|⟨_,h,_⟩|⟨_,h,_⟩
      ·omega
      ·omega
      ·rw[h];simp
    have d:=wBo (λx=>decide (x=b)) (u.blocks[i]).next;simp only[wAM,aheadTo,wAb,wAa,wBe];omega
 have m:=c i hi;unfold aheadUp;rw[wAM]
 cases hq:u.blocks[i]? with
 |none=>simp only[wBe];omega
 | some B=>
   have d:=wBo (λx=>decide (x=b)) (B.next.take j);simp only[wAb,wAc]at d⊢;omega
section
variable{F F':Nat->Prop}{h h':Hp}{cs:List Pc}{Q:QP1}{u:U}{vv vb vs:V}
theorem DM (g:Good u)(H0:Hold F h cs)(D:URd F h u vv vb vs)(H:∀F' h' v,Sn F h F' h'->Hold F' h' cs->SlR (eL eN) F' h' ((List.range u.blocks.length).map (Un.ahead u)) v->Q v h') :
  cP CS qO [.agg (uC u vv vb vs)] h Q:=by
 refine DY rfl rfl ?_;unfold Af;have nb:=g.nb;refine kh H0 D.one λp U K=>?_;refine oF (U.ld 0 rfl rfl) (d9 (D.since K).b.len ?_);rw[gh (z:=V.nilSlice) rfl (by decide) (by omega),ev];obtain⟨L,W⟩:=U.newNest (E:=eN) (tyO:=tyInts) (ty:=tyInt) u.blocks.length;have M:List.replicate u.blocks.length ([]:List Nat)=(List.range u.blocks.length).map (aheadUp u 0 0):=by
  refine List.ext_getElem (by simp) λi p h2=>?_;simp[y0]
 rw[M]at L;refine oF (L.ld 1 rfl rfl) (d9 (D.since (K.trans W)).b.len ?_)
 refine BB (λk q a f m h'=>∃(i:Nat) (ds:List V),q = .slice p.next 0 u.blocks.length/\a=vb/\f = .int .i64 u.blocks.length/\m = .int .i64 i/\i+k=u.blocks.length/\Sn F h F h'/\
  Hold F h' (nestP eN tyInts tyInt ((List.range u.blocks.length).map (aheadUp u i 0)) (.slice p.next 0 u.blocks.length) ds::cs)) ?_ (k:=u.blocks.length)
  ⟨0,_,rfl,rfl,rfl,rfl,by omega,K.trans W,(L.forget (i:=1) rfl)|> λH=>by
    simp only[wAE,wAC]at H;exact⟨H.fl,λi c hc=>by
      cases i with
      |zero=>exact H.ok 0 c hc
      |succ i=>exact H.ok (i+2) c hc,λi j c d hc G hn=>by
      cases i with
      | zero=>
        cases j with
        |zero=>exact absurd rfl hn
        |succ j=>exact H.dis 0 (j+2) c d hc G (by omega)
      | succ i=>
        cases j with
        |zero=>exact H.dis (i+2) 0 c d hc G (by omega)
        |succ j=>exact H.dis (i+2) (j+2) c d hc G (by omega)⟩⟩
 rintro k q a f m h3 ⟨i,ds,rfl,N,rfl,rfl,hk,O,X⟩;subst a;unfold xk;by_cases hi:i<u.blocks.length;rotate_left
 ·refine ltNo ?_;obtain rfl:i=u.blocks.length:=by omega
  obtain ⟨F4,I,J,r4⟩:=X.freezeN 0 rfl;have e:(List.range u.blocks.length).map (aheadUp u u.blocks.length 0)=(List.range u.blocks.length).map (Un.ahead u):=by
   refine wBS λb _=>jO u b
  rw[e]at r4;exact H F4 h3 _ (O.trans J) I.tail r4
 refine ltYes ?_;obtain⟨B,r⟩:∃B,u.blocks[i]? =some B:=⟨_,wAA hi⟩
 obtain ⟨l7,o7,bv,bn,bp,_,i1,i2,iv,s,ip,_⟩:=(D.since O).blk r;have aa:B.next.length<=2:=by
  rcases g.fin i _ r with⟨_,h⟩|⟨_,h,_⟩|⟨_,h,_⟩
  ·omega
  ·omega
  ·rw[h];simp
 refine d9 i1 (d9 i2 ?_);refine fU X rfl rfl (by simp only[bkC,ee,iv.one,s.one,ip.one];rfl) λh4 I J=>?_;have s:=s.since J;refine oF (I.ld 0 rfl rfl) (d9 s.len ?_)
 refine BM (λk q Y a f m n t x h'=>∃(j:Nat) (ds:List V),q = .slice p.next 0 u.blocks.length/\Y = .int .i64 i/\a=vb/\f = .int .i64 u.blocks.length/\m = .int .i64 i/\n=bn/\t = .int .i64 B.next.length/\x = .int .i64 j/\
  j+k=B.next.length/\Sn F h4 F h'/\Hold F h' (nestP eN tyInts tyInt ((List.range u.blocks.length).map (aheadUp u i j)) (.slice p.next 0 u.blocks.length) ds::cs)) ?_ (k:=B.next.length)
  ⟨0,ds,rfl,rfl,rfl,rfl,rfl,rfl,rfl,rfl,by omega,Sn.refl _ _,I.tail⟩
 rintro k1 q Y a f m n t x Z ⟨j,A,rfl,rfl,N,rfl,rfl,ab,rfl,rfl,ac,P,R⟩;subst a n;unfold wq;by_cases hj:j<B.next.length;rotate_left
 ·refine ltNo ?_;obtain rfl:j=B.next.length:=by omega
  refine addOne ⟨k-1,by omega,i+1,A,rfl,rfl,rfl,rfl,by omega,(O.trans J).trans P,?_⟩;have e:(List.range u.blocks.length).map (aheadUp u (i+1) 0)=(List.range u.blocks.length).map (aheadUp u i B.next.length):=wBS λb _=>zw r;rw[e];exact R
 refine ltYes ?_;obtain⟨l8,o8,_,j1,j2⟩:=(s.since P).nat (wAA hj) .i64;have C:B.next[j]<u.blocks.length:=g.nx i _ (by unfold next;rw[r];exact wAR hj);have lN:=R.nestLen 0 rfl;rw[wAb,wBY]at lN;refine d9 j1 (d9 j2 (d9 lN ?_));refine r0 (st_b (if_t (by simpa using C) ?_));have o:B.next[j]<((List.range u.blocks.length).map (aheadUp u i j)).length:=by simpa using C
 have S:((List.range u.blocks.length).map (aheadUp u i j))[B.next[j]]'o=aheadUp u i j B.next[j]:=by simp
 obtain ⟨l,d,d',h6,h7,G,hl,e1,e2,e3,e4,e5,e6,H7,s7⟩:=R.nestApp 0 rfl o (by_:=8) (ety:=3) (y:=i) (w:=[.int .i64 i]) (ro:=false) rfl (by decide) (by decide) (by
  rw[S];have:=jR g (i:=i) (j:=j) (b:=B.next[j]) (by omega) (by omega);omega)
 refine d9 e1 (d9 e2 ?_);rw[iY,ev];have T:happend 3 1 8 d (.slice Z.next 0 1) (Z.new (.cells 3 1 true false (nats [i])))=some (.val d' h6):=e3;rw[T,ec];refine d9 e1 ?_;rw[e5,ec];refine AG ?_;unfold vW;simp only[wAC]at H7;refine addOne ⟨k1-1,by omega,j+1,A.set (B.next[j]) d',rfl,rfl,rfl,rfl,rfl,rfl,rfl,rfl,by omega,P.trans s7,?_⟩;have e:((List.range u.blocks.length).map (aheadUp u i j)).set (B.next[j]) (((List.range u.blocks.length).map (aheadUp u i j))[B.next[j]]'o++[i])=(List.range u.blocks.length).map (aheadUp u i (j+1)):=by
  refine List.ext_getElem (by simp) λb p h2=>?_;rw[List.getElem_set];simp only[List.getElem_map,List.getElem_range];rw[zs r (wAA hj)];by_cases eb:B.next[j]=b
  ·subst eb;simp
  ·rw[if_neg eb,if_neg λh=>eb h.symm]
 rw[<-e];exact H7
end
