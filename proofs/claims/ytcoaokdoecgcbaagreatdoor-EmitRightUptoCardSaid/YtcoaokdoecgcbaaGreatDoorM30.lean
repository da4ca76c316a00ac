/- Parts. -/
import Derived.Test.YtcoaokdoecgcbaaGreatDoorM29
set_option maxHeartbeats 4000000
namespace Go.Proofs.YtcoaokdoecgcbaaGreatDoor.Hx
open Un Dm
def rW(l:Nat)(S:Int->Prop):Pc where
 oJ:=λm=>m=l
 ok F h:=(∃es c,h.get l=some (.map es c)/\(∀e∈es,∃k:Int,e.1 = .I k/\e.2.1 = .bool true/\S k)/\∀k,S k->∃e∈es,e.1 = .I k)/\l<h.next/\¬F l
 Iu:=λh _ e=>by subst e;exact h.2
 fh:=λ⟨⟨es,c,b,d⟩,a⟩ _ hl f=>⟨⟨es,c,(hl l rfl).trans b,d⟩,Dy a.1 f,a.2⟩
 mono:=λh _ hl=>⟨h.1,h.2.1,hl l rfl⟩
theorem Lm(k:Int):∀(es:List (V×V×Nat))(i:Nat),(∀e∈es,∃k:Int,e.1 = .I k/\e.2.1 = .bool true)->
  (nI fw none (.I k) es i=some none/\∀e∈es,e.1≠ .I k)\/∃j e,nI fw none (.I k) es i=some (some (i+j,.bool true))/\es[j]? =some e/\e.1 = .I k
 |[],i,_=> .inl ⟨rfl,λ_ h=>by cases h⟩
 | e ::es,i,h=>by
   obtain ⟨k',c,g⟩:=h e (RN ..);have a:nI fw none (.I k) (e::es) i=if k=k' then some (some (i,e.2.1)) else nI fw none (.I k) es (i+1):=by
     show oB (Ku fw none (.I k) e.1) _=_;rw[c,show Ku fw none (V.I k) (V.I k')=some (k == k') from N0 _ _];by_cases hk:k=k'
     ·rw[if_pos hk,KC.2 hk];rfl
     ·rw[if_neg hk,wBA.2 hk];rfl
   by_cases hk:k=k'
   ·subst hk
    rw[if_pos rfl,g]at a;exact .inr ⟨0,e,a,rfl,c⟩
   ·rw[if_neg hk]at a
    rcases Lm k es (i+1) λe b=>h e (Yd _ b)with⟨d,f⟩|⟨j,e',d,f,l⟩
    ·refine .inl ⟨a.trans d,λe' b=>?_⟩
     rcases wM.1 b with rfl|b
     ·rw[c];intro m;cases m;exact hk rfl
     ·exact f e' b
    ·exact .inr ⟨j+1,e',by rw[a,d];congr 3;omega,f,l⟩
section
variable{F F':Nat->Prop}{h h':Hp}{cs:List Pc}{Q:fo}{l:Nat}{S:Int->Prop}
theorem ej.look(H:ej F h cs)(i:Nat)(hi:cs[i]? =some (rW l S))(k:Int):∃b,p5 fw none (.bool false) false (.map l) (.I k) h=some (.bool b)/\(b=true↔S k):=by
 obtain ⟨⟨es,c,n,m,o⟩,_⟩:=H.ok i _ hi;have e1:∀r,nI fw none (.I k) es 0=some r->p5 fw none (.bool false) false (.map l) (.I k) h=some (found (.bool false) false r):=λr p=>by
  unfold p5 yq;simp only[n,eD];rw[p];rfl
 rcases Lm k es 0 λe d=>let⟨k,a,b,_⟩:=m e d;⟨k,a,b⟩ with⟨f,g⟩|⟨j,e,f,g,q⟩
 ·refine⟨false,e1 _ f,by simp,λhs=>?_⟩;obtain⟨e,d,s⟩:=o k hs;exact absurd s (g e d)
 ·refine⟨true,e1 _ f,λ_=>?_,λ_=>rfl⟩;obtain⟨k',a,_,b⟩:=m e (zQ g);rw[q]at a;cases a;exact b
theorem ej.hO(H:ej F h cs)(i:Nat)(hi:cs[i]? =some (rW l S))(k:Int):∃h',xh fw none (.map l) (.I k) (.bool true) h=some (.val .undef h')/\h.next<=h'.next/\ej F h' (cs.set i (rW l λx=>S x\/x=k))/\Sn F h F h':=by
 obtain⟨⟨es,c,y,o,v⟩,q,z⟩:=H.ok i _ hi
 have fin:∀iP c',zM fw none es c (.I k) (.bool true)=some (.map iP c')->(∀e∈iP,∃k':Int,e.1 = .I k'/\e.2.1 = .bool true/\(S k'\/k' = k))->(∀k',S k'\/k' = k->∃e∈iP,e.1 = .I k')->
   ∃h',xh fw none (.map l) (.I k) (.bool true) h=some (.val .undef h')/\h.next<=h'.next/\ej F h' (cs.set i (rW l λx=>S x\/x=k))/\Sn F h F h':=by
  intro iP c' A B C;refine⟨h.put l (.map iP c'),?_,jv _,H.Bm (p:=rW l λx=>S x\/x=k) hi (lU.put _ rfl q) ⟨⟨iP,c',fT _ q,B,C⟩,q,z⟩ λ_ h=> .inl h⟩;unfold xh yq;simp only[y,eD,A];rfl
 rcases Lm k es 0 λe f=>let⟨k,a,b,_⟩:=o e f;⟨k,a,b⟩ with⟨r,s⟩|⟨j,e,r,s,t⟩
 ·refine fin (es++[(.I k,.bool true,c)]) (c+1) (by unfold zM;rw[r];rfl) (λe f=>?_) λk' g=>?_
  ·rcases xU.1 f with h|h
   ·obtain⟨k',a,b,d⟩:=o e h;exact⟨k',a,b,.inl d⟩
   ·obtain rfl:=EI.1 h;exact⟨k,rfl,rfl,.inr rfl⟩
  ·rcases g with g|rfl
   ·obtain⟨e,f,g⟩:=v k' g;exact⟨e,XR _ f,g⟩
   ·exact⟨_,wBY _ (EI.2 rfl),rfl⟩
 ·obtain ⟨D,rfl⟩:=kE.1 s;refine fin (es.set j (.I k,.bool true,es[j].2.2)) c ?_ (λe f=>?_) λk' g=>?_
  ·unfold zM;rw[r];simp only[eD,HP,s,t,V.BW];rfl
  ·rcases wBF f with h|rfl
   ·obtain⟨k',a,b,d⟩:=o e h;exact⟨k',a,b,.inl d⟩
   ·exact⟨k,rfl,rfl,.inr rfl⟩
  ·have E:S k:=by
    obtain⟨k',a,_,d⟩:=o _ (Dg D);rw[t]at a;cases a;exact d
   have u:S k':=g.elim id λe=>e▸E;obtain⟨e,f,m⟩:=v k' u;obtain⟨n,w,rfl⟩:=wBi.1 f;by_cases hnj:n=j
   ·subst hnj;rw[t]at m;exact⟨_,zQ (OY w),m⟩
   ·exact⟨es[n],zQ (by rw[QI λe=>hnj e.symm];exact iz w),m⟩
theorem ej.zdE(H:ej F h cs):ej F (h.new (.map [] 0)) (rW h.next (λ_=>False)::cs)/\Sn F h F (h.new (.map [] 0)):=
 H.new (p:=rW h.next λ_=>False) _ ⟨⟨[],0,eJ _ _,And.intro (λe a=>nomatch a) (λk b=>False.elim b)⟩,RC _,H.fresh⟩ λ_ e=>e
end
open Un Dm
def bh(u:U):List Nat->(Nat->Prop)->Nat->Prop
 |[],P=>P
 |v::r,P=>λw=>if hD u v=true then bh u r P w else(bh u r P w/\w≠v)\/w∈Eg u v
section
variable{F F':Nat->Prop}{h h':Hp}{cs:List Pc}{Q:fo}{u:U}{vv vb vs:V}{lv:Nat}{qV jm:V}{outs:List (List Bool)}
theorem Pm(g:Good u)(C:Lk F h cs lv u vv vb vs qV jm)(ro:iH (eL eB) F h outs jm)(O:Zo u outs){b:Nat}{B:Bk}(W:u.blocks[b]? =some B)
  (H:∀F' h' o rs,Sn F h F' h'->ej F' h' cs->iH (eL eB) F' h' rs o->rs.length=B.ee.length->(∀(i:Nat) row,rs[i]? =some row->row.length=u.ee.length/\∀w,On row w↔bh u (B.ee.drop (i+1)) (mH outs b) w)->Q o h') :
  cP CS kU [.ptr lv 0,.I b] h Q:=by
 refine FG rfl rfl ?_;unfold wR;have nv:=g.nv;have aa:=(kE.1 W).1;have ab:=qT g W;obtain⟨l1,o1,bv,bn,bp,_,i1,i2,iv,_,_,ba⟩:=C.u.AA W;refine ec (fi _ _) (ec (fN _ _ _) (oF (C.ld 3 rfl) (ec i1 (oF ba.ee (ec iv.len ?_)))));rw[pC rfl (by decide) (by omega),fI];obtain⟨H1,s1⟩:=C.H.make (E:=eL eB) (ty:=hY) (y:=[]) (u:=V.ed) B.ee.length ⟨.ed,rfl,.nil⟩ rfl;have H1:ej F (h.new (.cells 130 1 true false (List.replicate B.ee.length V.ed))) (fE (eL eB) hY (List.replicate B.ee.length []) (.slice h.next 0 B.ee.length)::cs):=H1;have s1:Sn F h F (h.new (.cells 130 1 true false (List.replicate B.ee.length V.ed))):=s1;generalize h.new (.cells 130 1 true false (List.replicate B.ee.length V.ed))=q at*;generalize V.slice h.next 0 B.ee.length=o at*;rw[tY,fI];obtain⟨X,Y⟩:=H1.NX (E:=eB) (xs:=[]) (ws:=[]) (n:=0) hC rfl trivial rfl;have X:ej F (q.new (.cells 4 1 true false [])) (fE eB hC [] (.slice q.next 0 0)::fE (eL eB) hY (List.replicate B.ee.length []) o::cs):=X;have Y:Sn F q F (q.new (.cells 4 1 true false [])):=Y;generalize q.new (.cells 4 1 true false [])=t at*;obtain⟨x,D⟩:∃r,outs[b]? =some r:=⟨_,iz (show b<outs.length by rw[O.len];exact aa)⟩
 have P:=O.row x (zQ D);obtain⟨lo,oo,wo,_,q1,q2,q3⟩:=(ro.since (s1.trans Y)).list D .i64;obtain⟨ic,hc⟩:=C.c;refine oN (X.ld (ic+2) hc rfl) (ec q1 (ec q2 ?_));obtain⟨N,h3,e3,n3,H3,s3⟩:=X.O9 0 rfl (lE:=1) q3 (by decide) (by decide) (by simp;omega);have ac:eQ 4 1 1 (.slice q.next 0 0) wo t=some (.val N h3):=e3;rw[ac,eh];simp only[AD,OJ]at H3;have a:∀n:Nat,n<=3000->iy .i64 (((n:Nat):Int)-1)=(n:Int)-1:=λn hn=>by rw[gS (by simp only[Cf];omega)]
 refine ec iv.len (ec (iu _ _ _ _) ?_);rw[a _ ab];have ae:=(s1.trans Y).trans s3
 refine Ce (λk x0 x5 x6 x7 x8 h'=>∃(F':Nat->Prop) (l d:List Nat) (cur:List Bool) (rs:List (List Bool)),x0 = .ptr lv 0/\x5=bv/\x6=o/\x7=N/\x8 = .I ((l.length:Int)-1)/\k=l.length/\B.ee=l++d/\Sn F h F' h'/\cur.length=u.ee.length/\
  ej F' h' (fE eB hC cur N::fE (eL eB) hY rs o::cs)/\(∀w,On cur w↔bh u d (mH outs b) w)/\rs.length=B.ee.length/\
  ∀(i:Nat) row,l.length<=i->rs[i]? =some row->row.length=u.ee.length/\∀w,On row w↔bh u (B.ee.drop (i+1)) (mH outs b) w) ?_ (k:=B.ee.length)
  ⟨F,B.ee,[],x,List.replicate B.ee.length [],rfl,rfl,rfl,rfl,rfl,rfl,by simp,ae,P,H3,λw=>(Jx D w).symm,by simp,λi row q t=>by
   have:=(kE.1 t).1;rw[List.length_replicate]at this;omega⟩
 rintro k x0 x5 x6 x7 x8 G ⟨Z,l,d,cur,rs,rfl,e5,e6,e7,rfl,hk,f,s6,I,H6,J,K,R⟩;subst x5 x6 x7;unfold tK;have OM:l.length<=B.ee.length:=by rw[f,oQ];omega
 refine PS ?_;rcases iQ l with rfl|⟨s,v,rfl⟩
 ·refine gD (by simp) ?_;obtain⟨z,L,r7⟩:=H6.tail.ji 0 rfl;simp only[AD]at z;exact H _ G o rs (s6.trans L) z.tail r7 K λi row hi=>R i row (Ll _) hi
 have ag:((s++[v]).length:Int)-1=(s.length:Nat):=by simp
 rw[ag];refine gN (by omega) ?_;have j:B.ee[s.length]? =some v:=by rw[f];simp
 have aq:s.length<B.ee.length:=(kE.1 j).1;have ah:At u v b s.length:=⟨B,W,j⟩
 have S:=g.DW v b _ ah;have M:B.ee.drop (s.length+1)=d:=by
  rw[f,List.drop_left' (by simp)]
 rw[tY,fI];obtain⟨z,L⟩:=H6.NX (E:=eB) (xs:=[]) (ws:=[]) (n:=0) hC rfl trivial rfl;have z:ej Z (G.new (.cells 4 1 true false [])) (fE eB hC [] (.slice G.next 0 0)::fE eB hC cur N::fE (eL eB) hY rs o::cs):=z;have L:Sn Z G Z (G.new (.cells 4 1 true false [])):=L;generalize G.new (.cells 4 1 true false [])=h7 at*;obtain⟨v8,h8,e8,n8,H8,s8⟩:=z.zek 0 1 rfl rfl (lE:=1) (by decide) (by decide) (by simp;omega);have ai:eQ 4 1 1 (.slice G.next 0 0) N h7=some (.val v8 h8):=e8;rw[ai,eh];simp only[AD,OJ]at H8;obtain⟨H9,s9,r9⟩:=H8.ji 0 rfl;simp only[AD]at H9;obtain⟨l10,ar,aj,ak,al,au,m,am⟩:=H9.L9 2 rfl (k:=s.length) (y:=cur) (u:=v8) (show s.length<rs.length by omega) rfl r9.one ⟨v8,rfl,r9⟩;refine ec ak ?_;rw[al,eh];simp only[OH,AD]at m;have m:=m.tail;have T:=((L.trans s8).trans s9).trans am;generalize (λl=>Z l\/Loc v8 l)=FA at*;have p:=s6.trans T;obtain⟨lq,oq,_,p1,p2⟩:=(iv.since p).nat j .i64;have CA:Lk FA aj (fE eB hC cur N::fE (eL eB) hY (rs.set s.length cur) o::cs) lv u vv vb vs qV jm:=⟨m,⟨ic+2,hc⟩,C.u.since p⟩
 refine ec p1 (ec p2 (DM CA S (po ?_)));have A:∀(i:Nat) row,s.length<=i->(rs.set s.length cur)[i]? =some row->row.length=u.ee.length/\∀w,On row w↔bh u (B.ee.drop (i+1)) (mH outs b) w:=by
  intro i row q t;by_cases hi:i=s.length
  ·subst hi;rw[OY (by omega)]at t;cases t;exact⟨I,λw=>by rw[M];exact J w⟩
  ·rw[QI λe=>hi e.symm]at t;exact R i row (by simp;omega) t
 cases hq:hD u v with
 | true=>
   refine gN rfl ?_;refine si ?_;unfold nA;refine ec (iu _ _ _ _) ?_;rw[a s.length (by omega)];refine⟨s.length,by rw[hk];simp,FA,s,v::d,cur,rs.set s.length cur,rfl,rfl,rfl,rfl,rfl,rfl,by rw[f];simp,p,I,m,λw=>?_,by simp[K],A⟩;rw[J w];unfold bh;rw[if_pos hq]
   cases d <;> rfl
 | false=>
   refine gD (by simp) ?_;refine ec p1 (ec p2 ?_);refine Tz g CA I S λF7 h7 U L z ao an=>?_;refine si ?_;unfold nA;refine ec (iu _ _ _ _) ?_;rw[a s.length (by omega)];refine⟨s.length,by rw[hk];simp,F7,s,v::d,U,rs.set s.length cur,rfl,rfl,rfl,rfl,rfl,rfl,by rw[f];simp,p.trans L,by omega,z,λw=>?_,by simp[K],A⟩;rw[an w,J w]
   conv=>rhs;unfold bh
   rw[if_neg (by rw[hq];simp)]
end
open Un Dm
theorem Re{u:U}:∀{r:List Nat} {P a:Nat->Prop},(∀w,P w->a w)->∀w,bh u r P w->bh u r a w
 |[],_,_,h,w,hw=>h w hw
 | v::r,P,a,h,w,hw=>by
   unfold bh at hw⊢;split at hw
   ·rename_i e;rw[if_pos e];exact Re h w hw
   ·rename_i e;rw[if_neg e];exact hw.imp (λb=>⟨Re h w b.1,b.2⟩) id
structure PA (u:U) (Out:Nat->Nat->Prop) (of:List Int) (c i:Nat):Prop where
 hd:∀v,At u v c i->hD u v=true->∀j w,j<i->At u w c j->hD u w=true->of[w]?≠of[v]?
 ap:∀v,At u v c i->∀w,w<u.ee.length->bh u ((jr u c).drop (i+1)) (Out c) w->w≠v->of[w]?≠of[v]?
def OT(fM k:Int):Prop:=(0<=k/\k<12)\/(16<=k/\k<16+fM)
structure pJ (u:U) (Out:Nat->Nat->Prop) (of:List Int) (fM:Int):Prop where
 len:of.length=u.ee.length
 s0:0<=fM
 s1:fM<=399
 pl:∀k∈of,OT fM k
 pa:∀c i,PA u Out of c i
theorem PA.congr{u:U} {Out a:Nat->Nat->Prop}{of:List Int}{c i:Nat}(h:∀w,a c w->Out c w)(p:PA u Out of c i):PA u a of c i:=
 ⟨p.hd,λv hv w b d=>p.ap v hv w b (Re h w d)⟩
theorem pJ.congr{u:U} {In Out b a:Nat->Nat->Prop}{of:List Int}{fM:Int}(h:rk u (jN u) In Out) (h':rk u (jN u) b a)(r:pJ u Out of fM):pJ u a of fM:=
 ⟨r.len,r.s0,r.s1,r.pl,λc i=>by
  by_cases hc:c<u.blocks.length
  ·exact(r.pa c i).congr λw d=>(rk.uniq h h' (λ_ _ _ _=>Iff.rfl) hc).2.2 d
  ·exact⟨(r.pa c i).hd,λv ⟨B,e,_⟩=>absurd (kE.1 e).1 hc⟩⟩
section
variable{F F':Nat->Prop}{h h':Hp}{cs:List Pc}{Q:fo}{u:U}{vv vb vs:V}{of:List Int}{tR:V}{fM:Int}
theorem zdT{xs:List Int}(hl:∀k∈xs,OT fM k){i:Nat}{k:Int}(h:xs[i]? =some k):OT fM k:=hl k (zQ h)
theorem zaK(g:Good u)(H0:ej F h cs)(hu:Is F h u vv vb vs){ii:Nat}(J:cs[ii]? =some (fE eZ fw of tR))(hl:of.length<1000000)
  (H:∀F' h' c,Sn F h F' h'->ej F' h' cs->(c=true->∃In Out,rk u (jN u) In Out/\pJ u Out of fM)->(c=false->(∀Out,¬pJ u Out of fM)\/∃In Out,rk u (jN u) In Out/\¬pJ u Out of fM)->Q (.bool c) h') :
  cP CS wK [.agg (uC u vv vb vs),.agg [tR,.I fM]] h Q:=by
 refine Pb rfl rfl ?_;unfold Ie;have nv:=g.nv;have nb:=g.nb;refine rL H0 hu.one λT H1 s1=>?_;refine rL H1 (by simp only[fe,H1.one (ii+1) J];rfl) λA H2 s2=>?_;have u2:=(hu.since s1).since s2;generalize h.next=lu at*;generalize T.next=s at*;refine ec (H2.zB 1 rfl rfl) ?_;refine NM g H2 u2 λF3 x s3 H3=>?_;have X:=(s1.trans s2).trans s3;have u3:=u2.since s3;have ax:eC (.ptr s (0+0)) x=some tR:=H3.ld 0 rfl rfl;have am:eC (.ptr s (0+1)) x=some (.I fM):=H3.ld 0 rfl rfl;have a0:eC (.ptr lu (0+2)) x=some vv:=H3.ld 1 rfl rfl;refine Rx ?_;have E1:mm (.bool (!true)) (oB (fK 0 (.ptr s 0)) λa1=>oB (eC a1 x) λa2=>oB (fD a2) λa3=>oB (fK 2 (.ptr lu 0)) λa4=>oB (eC a4 x) λa5=>oB (fD a5) λa6=>ef .neq 3 a3 a6)=some (.bool ((of.length:Int) != (u.ee.length:Int))):=by
  simp only[eD,fN,ax,a0,H3.len (ii+2) J,u3.v.len,vB,iC,wBc,Bool.false_or]
 have E2:∀b,mm (.bool b) (oB (fK 1 (.ptr s 0)) λa7=>oB (eC a7 x) λa8=>ef .lss 3 a8 (V.I 0))=some (.bool (b ||decide (fM<0))):=λb=>by
  simp only[eD,fN,am,jC,iC]
 have E3:∀b,mm (.bool b) (oB (fK 1 (.ptr s 0)) λa9=>oB (eC a9 x) λbb=>ef .gtr 3 bb (V.I 399))=some (.bool (b ||decide (399<fM))):=λb=>by
  simp only[eD,fN,am,iG,iC]
 refine ec E1 (ec (E2 _) (ec (E3 _) (gh ?_)));by_cases hc:of.length=u.ee.length/\0<=fM/\fM<=399;rotate_left
 ·refine gN ?_ (H F3 x false X H3.tail.tail (by simp) λ_=> .inl λOut r=>hc ⟨r.len,r.s0,r.s1⟩);simp only[GY,wB3,AL];omega
 obtain⟨c1,c2,c3⟩:=hc;refine gD (by simp only[GY,wB3,AL];omega) ?_;refine oF ax (ec (H3.len (ii+2) J) ?_)
 refine KZ (λk x2 E an ay az h'=>∃i:Nat,x2 = .ptr lu 0/\E = .ptr s 0/\an=tR/\ay = .I (of.length:Nat)/\az = .I (i:Nat)/\i+k=of.length/\h' = x/\∀k∈of.take i,OT fM k) ?_ (k:=of.length)
  ⟨0,rfl,rfl,rfl,rfl,rfl,by omega,rfl,by simp⟩
 rintro k x2 E an ay az h' ⟨i,rfl,rfl,bV,rfl,rfl,hk,rfl,Y⟩;subst an;unfold B0;by_cases hi:i<of.length
 ·refine gU ?_;obtain⟨y,U⟩:∃y,of[i]? =some y:=⟨_,iz hi⟩
  obtain ⟨l4,o4,p1,p2⟩:=H3.AI (ii+2) J U .i64;have bc:iy .i64 (16+fM)=16+fM:=gS (by simp only[Cf];omega);have E4:mm (.bool (decide (y<0))) (oB (some (V.I y)) λbd=>ef .geq 3 bd (V.I 12))=some (.bool (decide (y<0) ||decide (12<=y))):=by
   simp only[eD,jc,iC]
  have E5:iM (.bool (decide (y<0) ||decide (12<=y))) (oB (some (V.I y)) λbe=>oB (ef .lss 3 be (V.I 16)) λbf=>oB (some bf) λbg=>mm bg (oB (some (V.I y)) λbi=>oB (fK 1 (.ptr s 0)) λbj=>oB (eC bj h') λbm=>oB (ef .add 3 (V.I 16) bm) λbo=>ef .geq 3 bi bo)) =
    some (.bool ((decide (y<0) ||decide (12<=y))&&(decide (y<16) ||decide (16+fM<=y)))):=by
   simp only[eD,jC,fN,am,Cv,bc,jc,iC,gQ]
  refine ec p1 (ec p2 (ec (jC _ _ _ _) (ec E4 (ec E5 (gh ?_)))));by_cases hp:OT fM y
  ·unfold OT at hp;refine gD (by simp only[GY,sJ,AL];omega) ?_;refine gf ⟨k-1,by omega,i+1,rfl,rfl,rfl,rfl,rfl,by omega,rfl,λk' aA=>?_⟩;obtain⟨_,rfl⟩:=kE.1 U;rw[Nt hi,xU,EI]at aA;rcases aA with T|rfl
   ·exact Y k' T
   ·exact hp
  ·refine gN ?_ (H F3 h' false X H3.tail.tail (by simp) λ_=> .inl λOut r=>hp (zdT r.pl U));unfold OT at hp;simp only[GY,sJ,AL];omega
 refine iY ?_;obtain rfl:i=of.length:=by omega
 rw[SM]at Y;refine ec (H3.zB 1 rfl rfl) ?_;refine Wl g H3 u3 λF4 I lv qV jm ins outs s4 H4 bW br hA=>?_;obtain⟨H5,s5,ri⟩:=H4.ji 0 rfl;simp only[AD]at H5;obtain⟨H6,s6,ro⟩:=H5.ji 1 rfl;simp only[OH,AD]at H6;have H6:=H6.tail.tail;have ae:=(s4.trans s5).trans s6;generalize (λl=>(F4 l\/Loc qV l)\/Loc jm l)=F6 at*;have u6:=u3.since ae;have no:∀c i,¬PA u (mH outs) of c i->(∀Out,¬pJ u Out of fM)\/∃In Out,rk u (jN u) In Out/\¬pJ u Out of fM:=λc i hn=> .inr ⟨_,_,hA,λr=>hn (r.pa c i)⟩;refine oF (H6.ld 2 rfl rfl) (ec u6.b.len ?_)
 refine Lo (λk E W d n o h'=>∃(F':Nat->Prop) (b:Nat),E = .ptr s 0/\W = .ptr lv 0/\d=vb/\n = .I u.blocks.length/\o = .I b/\b+k=u.blocks.length/\Sn F6 I F' h'/\
  ej F' h' (ft lv me [.I u.func,.I u.pc,vv,vb,vs,qV,jm]::ft s 37 [tR,.I fM]::ft lu 34 (uC u vv vb vs)::cs)/\∀c i,c<b->PA u (mH outs) of c i) ?_ (k:=u.blocks.length)
  ⟨F6,0,rfl,rfl,rfl,rfl,rfl,by omega,Sn.refl _ _,H6,λ_ _ h=>by omega⟩
 clear hk k;rintro k E W d n o h7 ⟨F7,b,rfl,rfl,aB,rfl,rfl,hk,s7,H7,aC⟩;subst d;unfold CC;have u7:=u6.since s7;by_cases hb:b<u.blocks.length;rotate_left
 ·refine iY (H F7 h7 true ((X.trans ae).trans s7) H7.tail.tail.tail (λ_=>⟨_,_,hA,c1,c2,c3,Y,λc i=>?_⟩) (by simp));by_cases hc:c<b
  ·exact aC c i hc
  ·exact⟨λv ⟨B,P,_⟩=>absurd (kE.1 P).1 (by omega),λv ⟨B,P,_⟩=>absurd (kE.1 P).1 (by omega)⟩
 refine gU ?_;obtain⟨B,P⟩:∃B,u.blocks[b]? =some B:=⟨_,iz hb⟩
 have bX:=qT g P;have aD:jr u b=B.ee:=by unfold jr;rw[P]
 obtain⟨l8,o8,bv,bn,bp,_,i1,i2,iv,iN,ip,ba⟩:=u7.AA P;refine ec i1 (ec i2 ?_);refine lM H7 rfl rfl (by simp only[rr,fe,iv.one,iN.one,ip.one];rfl) λh8 H8 s8=>?_;generalize h7.next=bx at*;rw[fI];obtain⟨H9,s9⟩:=H8.zdE;generalize h8.new (.map [] 0)=h9 at*;generalize h8.next=mx at*;have ao:=s8.trans s9;have C9:Lk F7 h9 _ lv u vv vb vs qV jm:=⟨H9,⟨2,rfl⟩,u7.since ao⟩
 refine Pm g C9 (ro.since (s7.trans ao)) br P λf Z vo rs bt bu ag bY bw=>?_;refine ec ag.len ?_;have aE:=ao.trans bt
 refine Lp (λk E W x9 K d n o C L M h'=>∃(S:Int->Prop) (i:Nat),E = .ptr s 0/\W = .ptr lv 0/\x9 = .ptr bx 0/\K = .map mx/\d=vb/\n = .I u.blocks.length/\o = .I b/\C=vo/\L = .I rs.length/\M = .I i/\i+k=B.ee.length/\Sn f Z f h'/\
  ej f h' (rW mx S::ft bx 79 (rr B bv bn bp)::ft lv me [.I u.func,.I u.pc,vv,vb,vs,qV,jm]::ft s 37 [tR,.I fM]::ft lu 34 (uC u vv vb vs)::cs)/\
  (∀k,S k↔∃j w,j<i/\At u w b j/\hD u w=true/\of[w]? =some k)/\∀j,j<i->PA u (mH outs) of b j) ?_ (k:=B.ee.length)
  ⟨λ_=>False,0,rfl,rfl,rfl,rfl,rfl,rfl,rfl,rfl,rfl,rfl,by omega,Sn.refl _ _,bu,λk=>⟨λh=>h.elim,λ⟨j,_,h,_⟩=>by omega⟩,λ_ h=>by omega⟩
 rintro k2 E W x9 K d n o C L M t ⟨S,i,rfl,rfl,rfl,rfl,aB,rfl,rfl,bz,rfl,rfl,bZ,aa,D,hS,aF⟩;subst d C;unfold B1;have ah:=aE.trans aa;by_cases hi:i<B.ee.length;rotate_left
 ·refine iY ?_;refine gf ⟨k-1,by omega,f,b+1,rfl,rfl,rfl,rfl,rfl,by omega,s7.trans ah,D.tail.tail,λc j hc=>?_⟩;by_cases hcb:c<b
  ·exact aC c j hcb
  obtain rfl:c=b:=by omega
  by_cases hj:j<i
  ·exact aF j hj
  ·have:∀v,¬At u v c j:=λv ⟨B',m,hv⟩=>by
    rw[P]at m;cases m;have:=(kE.1 hv).1;omega
   exact⟨λv hv=>absurd hv (this v),λv hv=>absurd hv (this v)⟩
 refine gU ?_;obtain⟨row,R⟩:∃r,rs[i]? =some r:=⟨_,iz (by omega)⟩
 obtain⟨aq,ab⟩:=bw i row R;obtain⟨v,hv⟩:∃v,B.ee[i]? =some v:=⟨_,iz hi⟩
 have ai:At u v b i:=⟨B,P,hv⟩
 have aG:=g.DW _ _ _ ai;obtain⟨y,U⟩:∃y,of[v]? =some y:=⟨_,iz (by omega)⟩
 obtain⟨lr,N,wr,_,r1,r2,r3⟩:=(ag.since aa).list R .i64;obtain⟨lq,oq,_,q1,q2⟩:=(iv.since ah).nat hv .i64;obtain⟨lo,oo,y1,y2⟩:=D.AI (ii+5) J U .i64;have aH:Lk f t _ lv u vv vb vs qV jm:=⟨D,⟨2,rfl⟩,u7.since ah⟩
 have aj:eC (.ptr s (0+0)) t=some tR:=D.ld 3 rfl rfl;refine ec r1 (ec r2 (oF (D.ld 1 rfl rfl) (ec q1 (ec q2 ?_))));refine DM aH aG ?_;obtain⟨ar,bA,aI⟩:=D.look 0 rfl y;have E6:iM (.bool (hD u v)) (oB (some (V.map mx)) λbC=>oB (fK 0 (.ptr s 0)) λbD=>oB (eC bD t) λbE=>oB (some (V.I v)) λbG=>oB (gP 1 bE bG) λbH=>oB (eC bH t) λbI=>p5 3 none (V.bool false) false bC bI t)=some (.bool (hD u v&&ar)):=by
  have aJ:p5 3 none (.bool false) false (.map mx) (.I y) t=some (.bool ar):=bA;simp only[eD,fN,aj,y1,y2,aJ,gQ]
 refine ec E6 (gh ?_);by_cases hbad:(hD u v&&ar)=true
 ·rw[sJ]at hbad;refine gN (by simp[hbad]) (H f t false ((X.trans ae).trans (s7.trans ah)) D.tail.tail.tail.tail.tail (by simp) λ_=>no b i λp=>?_);obtain⟨j,w,T,A,x,I⟩:=(hS y).1 (aI.1 hbad.2);exact p.hd v ai hbad.1 j w T A x (I.trans U.symm)
 refine gD hbad ?_;have bJ:hD u v=true->∀j w,j<i->At u w b j->hD u w=true->of[w]?≠of[v]?:=λhq j w T A x I=>hbad (by
  rw[sJ];exact⟨hq,aI.2 ((hS y).2 ⟨j,w,T,A,x,I.trans U⟩)⟩)
 have fin:∀(q:Hp) (S':Int->Prop),Sn f Z f q->ej f q (rW mx S'::ft bx 79 (rr B bv bn bp)::ft lv me [.I u.func,.I u.pc,vv,vb,vs,qV,jm]::ft s 37 [tR,.I fM]::ft lu 34 (uC u vv vb vs)::cs)->
   (∀k,S' k↔∃j w,j<i+1/\At u w b j/\hD u w=true/\of[w]? =some k)->
   pZ CS Q (λE W d n o h'=>∃k',k' < k/\∃(F':Nat->Prop) (b:Nat),E = .ptr s 0/\W = .ptr lv 0/\d=vb/\n = .I u.blocks.length/\o = .I b/\b+k' = u.blocks.length/\Sn F6 I F' h'/\
    ej F' h' (ft lv me [.I u.func,.I u.pc,vv,vb,vs,qV,jm]::ft s 37 [tR,.I fM]::ft lu 34 (uC u vv vb vs)::cs)/\∀c i,c<b->PA u (mH outs) of c i)
    (λE W x9 K d n o C L M h'=>∃k',k' < k2/\∃(S:Int->Prop) (i:Nat),E = .ptr s 0/\W = .ptr lv 0/\x9 = .ptr bx 0/\K = .map mx/\d=vb/\n = .I u.blocks.length/\o = .I b/\C=vo/\L = .I rs.length/\M = .I i/\i+k' = B.ee.length/\Sn f Z f h'/\
     ej f h' (rW mx S::ft bx 79 (rr B bv bn bp)::ft lv me [.I u.func,.I u.pc,vv,vb,vs,qV,jm]::ft s 37 [tR,.I fM]::ft lu 34 (uC u vv vb vs)::cs)/\
     (∀k,S k↔∃j w,j<i/\At u w b j/\hD u w=true/\of[w]? =some k)/\∀j,j<i->PA u (mH outs) of b j)
    (.ptr s 0) (.ptr lv 0) (.ptr bx 0) (.map mx) wr (.I v) vb (.I u.blocks.length) (.I b) vo (.I rs.length) (.I i) q:=by
  intro q S' O G bK;refine JE ?_;unfold AW;have bL:=(ag.since O).list R .i64;obtain⟨b1,b2,b3,_,b4,b5,b6⟩:=bL;have aK:iH eB f q row wr:=by
   have e1:=(ag.since O).list R .i64;obtain⟨a,b',c,d1,d2,d3,d4⟩:=e1;have hp:gP 1 vo (.I i)=some (.ptr lr N):=r1;rw[hp]at d2;cases d2;have:eC (.ptr lr N) q=eC (.ptr lr N) t:=by
    rw[show eC (.ptr lr N) q=eC (.ptr lr N) Z from ?_,show eC (.ptr lr N) t=eC (.ptr lr N) Z from ?_]
    ·unfold eC ld1 jW;simp only[tw,aa.fh _ d1]
    ·unfold eC ld1 jW;simp only[tw,O.fh _ d1]
   rw[d3,r2]at this;cases this;exact d4
  refine ec aK.len ?_;rw[aq];have au:eC (.ptr s (0+0)) q=some tR:=G.ld 3 rfl rfl;obtain⟨b7,b8,bQ,bR⟩:=G.AI (ii+5) J U .i64
  refine K3 (λk E W x9 K aL d n o C L M ac ak al h'=>∃w:Nat,E = .ptr s 0/\W = .ptr lv 0/\x9 = .ptr bx 0/\K = .map mx/\aL = .I v/\d=vb/\n = .I u.blocks.length/\o = .I b/\C=vo/\L = .I rs.length/\M = .I i/\ac=wr/\ak = .I u.ee.length/\al = .I (w:Nat)/\w+k=u.ee.length/\h' = q/\
   ∀w',w' < w->On row w'->w'≠v->of[w']?≠of[v]?) ?_ (k:=u.ee.length)
   ⟨0,rfl,rfl,rfl,rfl,rfl,rfl,rfl,rfl,rfl,rfl,rfl,rfl,rfl,rfl,by omega,rfl,λ_ h=>by omega⟩
  rintro k3 E W x9 K aL d n o C L M ac ak al h' ⟨w,rfl,rfl,rfl,rfl,rfl,aB,rfl,rfl,bz,rfl,rfl,bU,rfl,rfl,b9,rfl,hw⟩;subst d C ac;unfold B2;by_cases hwl:w<u.ee.length;rotate_left
  ·refine iY ?_;refine gf ⟨k2-1,by omega,S',i+1,rfl,rfl,rfl,rfl,rfl,rfl,rfl,rfl,rfl,rfl,by omega,O,G,bK,λj hj=>?_⟩;by_cases hji:j<i
   ·exact aF j hji
   obtain rfl:j=i:=by omega
   refine⟨λv' e=>?_,λv' e w' ca aM=>?_⟩
   ·obtain⟨B',m,e⟩:=e;rw[P]at m;cases m;rw[hv]at e;cases e;exact bJ
   ·obtain⟨B',m,e⟩:=e;rw[P]at m;cases m;rw[hv]at e;cases e;rw[aD]at aM;exact hw w' (by omega) ((ab w').2 aM)
  refine gU ?_;obtain⟨z,hz⟩:∃z,row[w]? =some z:=⟨_,iz (by omega)⟩
  obtain⟨yw,aw⟩:∃y,of[w]? =some y:=⟨_,iz (by omega)⟩
  obtain ⟨lz,oz,_,z1,z2⟩:=aK.bool hz .i64;obtain⟨lw,ow,w1,w2⟩:=G.AI (ii+5) J aw .i64;have E7:iM (.bool z) (oB (some (V.I w)) λaN=>oB (some (V.I v)) λaO=>ef .neq 3 aN aO)=some (.bool (z&&((w:Int) != (v:Int)))):=by
   simp only[eD,vB,gQ]
  have E8:iM (.bool (z&&((w:Int) != (v:Int)))) (oB (fK 0 (.ptr s 0)) λaP=>oB (eC aP h') λaQ=>oB (some (V.I w)) λaR=>oB (gP 1 aQ aR) λaS=>oB (eC aS h') λaT=>oB (fK 0 (.ptr s 0)) λaU=>oB (eC aU h') λaV=>oB (some (V.I v)) λaW=>oB (gP 1 aV aW) λaX=>oB (eC aX h') λaY=>ef .eql 3 aT aY)=some (.bool ((z&&((w:Int) != (v:Int)))&&(yw == y))):=by
   simp only[eD,fN,au,w1,w2,bQ,bR,iE,gQ]
  refine ec z1 (ec z2 (ec E7 (ec E8 (gh ?_))));by_cases hx:(z&&((w:Int) != (v:Int))&&(yw == y))=true
  ·refine gN hx (H f h' false ((X.trans ae).trans ((s7.trans aE).trans O)) G.tail.tail.tail.tail.tail (by simp) λ_=>no b i λp=>?_);simp only[sJ,wB3,KC]at hx;obtain⟨⟨x1,x2⟩,E⟩:=hx;refine p.ap v ai w hwl (by rw[aD];exact(ab w).1 (by unfold On;rw[hz,x1])) (by omega) ?_;rw[aw,U,E]
  ·refine gD hx ?_;refine gf ⟨k3-1,by omega,w+1,rfl,rfl,rfl,rfl,rfl,rfl,rfl,rfl,rfl,rfl,rfl,rfl,rfl,rfl,by omega,rfl,λw' T A x I=>?_⟩;by_cases hww:w' < w
   ·exact hw w' hww A x I
   obtain rfl:w' = w:=by omega
   apply hx;have e1:z=true:=by
    unfold On at A;rw[hz]at A;exact Option.some.inj A
   have e2:yw=y:=by rw[aw,U]at I;exact Option.some.inj I
   have e3:((w':Int) != (v:Int))=true:=by rw[wB3];omega
   rw[e1,e2,e3,beq_self_eq_true];rfl
 refine DM aH aG ?_
 cases hq:hD u v with
 | true=>
   refine gh (gN rfl ?_);obtain⟨q,bS,cb,G,O⟩:=D.hO 0 rfl y;have aZ:xh 3 none (.map mx) (.I y) (.bool true) t=some (.val .undef q):=bS;refine oF aj (ec y1 (ec y2 ?_));rw[aZ,eh];simp only[AD]at G;refine fin q _ (aa.trans O) G λk'=>?_;rw[hS k'];constructor
   ·rintro(⟨j,w,T,A⟩|rfl)
    ·exact⟨j,w,by omega,A⟩
    ·exact⟨i,v,by omega,ai,hq,U⟩
   ·rintro ⟨j,w,T,A,x,I⟩
    by_cases hj:j<i
    ·exact .inl ⟨j,w,hj,A,x,I⟩
    ·obtain rfl:j=i:=by omega
     obtain⟨B',m,e⟩:=A;rw[P]at m;cases m;rw[hv]at e;cases e;rw[U]at I
     exact .inr (Option.some.inj I).symm
 | false=>
   refine gh (gD (by simp) ?_);refine fin t _ aa D λk'=>?_;rw[hS k'];constructor
   ·rintro⟨j,w,T,A⟩
    exact⟨j,w,by omega,A⟩
   ·rintro ⟨j,w,T,A,x,I⟩
    by_cases hj:j<i
    ·exact⟨j,w,hj,A,x,I⟩
    ·obtain rfl:j=i:=by omega
     obtain⟨B',m,e⟩:=A;rw[P]at m;cases m;rw[hv]at e;cases e;rw[hq]at x;cases x
end
open Un Dm
section
variable{u:U}{P:Nat->Prop}{w:Nat}
theorem Rg{v:Nat}{r:List Nat}(h:bh u r P w)(a:w≠v):bh u (v::r) P w:=by
 unfold bh;split
 ·exact h
 ·exact .inl ⟨h,a⟩
theorem TH:∀{l d:List Nat},(∀x∈l,hD u x=true)->(bh u (l++d) P w↔bh u d P w)
 |[],_,_=>Iff.rfl
 | v::l,d,h=>by
   show(if hD u v=true then _ else _)↔_;rw[if_pos (h v (by simp))];exact TH λx a=>h x (by simp[a])
theorem zct:∀{n:Nat}{l d:List Nat},l.length=n->l.reverse.Pairwise (λa b=>hD u a=true->hD u b=true)->(bk u l.reverse (bh u d P) w↔bh u (l++d) P w)
 | 0,l,d,hl,_=>by
   obtain rfl:=wAz hl
   exact Iff.rfl
 | n + 1,l,d,hl,hp=>by
   rcases iQ l with rfl|⟨s,v,rfl⟩
   ·simp at hl
   ·rw[List.reverse_append]at hp⊢
    simp only[List.reverse_cons,List.reverse_nil,OJ,List.singleton_append]at hp⊢;rw[List.pairwise_cons]at hp
    cases hq:hD u v with
    | true=>
      have e1:bk u (v::s.reverse) (bh u d P) w=bh u d P w:=by
        unfold bk;rw[if_pos hq]
      rw[e1];refine(TH λx c=>?_).symm;rcases xU.1 c with h|h
      ·exact hp.1 x (YB.2 h) hq
      ·rw[EI.1 h];exact hq
    | false=>
      have e1:bk u (v::s.reverse) (bh u d P) w=bk u s.reverse (bh u (v::d) P) w:=by
        conv=>lhs;unfold bk
        rw[if_neg (by rw[hq];simp)];congr 1;funext x
        conv=>rhs;unfold bh
        rw[if_neg (by rw[hq];simp)]
      rw[e1,zct (n:=n) (l:=s) (by simpa using hl) hp.2,KB];rfl
end
section
variable{u:U}(g:Good u){In Out:Nat->Nat->Prop}(h:rk u (jN u) In Out){of:List Int}(pa:∀c i,PA u Out of c i){w1 w2:Nat}(oS:w1≠w2)(heq:of[w1]? =of[w2]?)
include pa oS heq
include g h
omit oS heq pa in
theorem ze1 {b w:Nat}(hb:b<u.blocks.length):In b w↔bh u (jr u b) (Out b) w:=by
 rw[h.Iu b w hb];have:=zct (u:=u) (P:=Out b) (w:=w) (l:=jr u b) (d:=[]) rfl (g.pw b);rw[Hf]at this;exact this
end
