/- Parts. -/
import Derived.Test.YtcoaokdoecgcbaaGreatDoorM29
set_option maxHeartbeats 4000000
namespace Go.Proofs.YtcoaokdoecgcbaaGreatDoor.Hx
open Un Dm
def vT(l:Nat)(S:Int->Prop):Pc where
 pQ:=λm=>m=l
 ok F h:=(∃es c,h.get l=some (.map es c)/\(∀e∈es,∃k,e.1 = .I k/\e.2.1 = .bool true/\S k)/\∀k,S k->∃e∈es,e.1 = .I k)/\l<h.next/\¬F l
 Iq:=λh _ e=>by subst e;exact h.2
 fm:=λ⟨⟨es,c,b,d⟩,a⟩ _ hl f=>⟨⟨es,c,(hl l rfl).trans b,d⟩,EP a.1 f,a.2⟩
 mono:=λh _ hl=>⟨h.1,h.2.1,hl l rfl⟩
theorem MO(k:Int):∀es i,(∀e∈es,∃k,e.1 = .I k/\e.2.1 = .bool true)->
  (oQ fJ none (.I k) es i=some none/\∀e∈es,e.1≠ .I k)\/∃j e,oQ fJ none (.I k) es i=some (some (i+j,.bool true))/\es[j]? =some e/\e.1 = .I k
 |[],i,_=> .inl ⟨rfl,λ_ h=>by cases h⟩
 | e ::es,i,h=>by
   let⟨k',c,g⟩:=h e (Tx ..)
   have a:oQ fJ none (.I k) (e::es) i=if k=k' then some (some (i,e.2.1)) else oQ fJ none (.I k) es (i+1):=by
     show oB (L1 fJ none (.I k) e.1) _=_;rw[c,show L1 fJ none (V.I k) (V.I k')=some (k == k') from OU _ _];by_cases hk:k=k'
     ·rw[if_pos hk,Gi.2 hk];rfl
     ·rw[if_neg hk,Yz.2 hk];rfl
   by_cases hk:k=k'
   ·subst hk
    rw[if_pos rfl,g]at a;exact .inr ⟨0,e,a,rfl,c⟩
   ·rw[if_neg hk]at a
    rcases MO k es (i+1) λe b=>h e (wA7 _ b)with⟨d,f⟩|⟨j,e',d,f,l⟩
    ·refine .inl ⟨a.trans d,λe' b=>?_⟩
     rcases yt.1 b with rfl|b
     ·rw[c];intro m;cases m;exact hk rfl
     ·exact f e' b
    ·exact .inr ⟨j+1,e',by rw[a,d];congr 3;omega,f,l⟩
section
variable{F F':Nat->Prop}{h h':Hp}{cs:List Pc}{Q:fo}{l:Nat}{S:Int->Prop}
theorem ej.look(H:ej F h cs)(i:Nat)(hi:cs[i]? =some (vT l S))(k:Int):∃b,rG fJ none (.bool false) false (.map l) (.I k) h=some (.bool b)/\(b=true↔S k):=by
 let⟨⟨es,c,n,m,o⟩,_⟩:=H.ok i _ hi
 have e1:∀r,oQ fJ none (.I k) es 0=some r->rG fJ none (.bool false) false (.map l) (.I k) h=some (found (.bool false) false r):=λr p=>by
  unfold rG zy;simp[n,fe];rw[p];rfl
 rcases MO k es 0 λe d=>let⟨k,a,b,_⟩:=m e d;⟨k,a,b⟩ with⟨f,g⟩|⟨j,e,f,g,q⟩
 ·refine⟨false,e1 _ f,by simp,λhs=>?_⟩
  let⟨e,d,hk⟩:=o k hs
  exact absurd hk (g e d)
 ·refine⟨true,e1 _ f,λ_=>?_,λ_=>rfl⟩
  let⟨k',a,_,b⟩:=m e (Ap g)
  rw[q]at a;cases a;exact b
theorem ej.ig(H:ej F h cs)(i:Nat)(hi:cs[i]? =some (vT l S))(k:Int):∃h',zk fJ none (.map l) (.I k) (.bool true) h=some (.val .undef h')/\h.next<=h'.next/\ej F h' (cs.set i (vT l λx=>S x\/x=k))/\Sn F h F h':=by
 let⟨⟨es,c,v,m,t⟩,o,w⟩:=H.ok i _ hi
 have fin:∀jM c',Bl fJ none es c (.I k) (.bool true)=some (.map jM c')->(∀e∈jM,∃k',e.1 = .I k'/\e.2.1 = .bool true/\(S k'\/k' = k))->(∀k',S k'\/k' = k->∃e∈jM,e.1 = .I k')->
   ∃h',zk fJ none (.map l) (.I k) (.bool true) h=some (.val .undef h')/\h.next<=h'.next/\ej F h' (cs.set i (vT l λx=>S x\/x=k))/\Sn F h F h':=by
  intro jM c' y z A;refine⟨h.put l (.map jM c'),?_,jj _,H.BV hi (mr.put _ rfl o) ⟨⟨jM,c',fY _ o,z,A⟩,o,w⟩ λ_ h=> .inl h⟩;unfold zk zy;simp[v,fe,y];rfl
 rcases MO k es 0 λe f=>let⟨k,a,b,_⟩:=m e f;⟨k,a,b⟩ with⟨p,q⟩|⟨j,e,p,q,r⟩
 ·refine fin (es++[(.I k,.bool true,c)]) (c+1) (by unfold Bl;rw[p];rfl) (λe f=>?_) λk' g=>?_
  ·rcases vU.1 f with h|h
   ·let⟨k',a,b,d⟩:=m e h
    exact⟨k',a,b,.inl d⟩
   ·obtain rfl:=Et.1 h;exact⟨k,rfl,rfl,.inr rfl⟩
  ·rcases g with g|rfl
   ·let⟨e,f,g⟩:=t k' g
    exact⟨e,Xy _ f,g⟩
   ·exact⟨_,wBO _ (Et.2 rfl),rfl⟩
 ·obtain ⟨B,rfl⟩:=j6.1 q;refine fin (es.set j (.I k,.bool true,es[j].2.2)) c ?_ (λe f=>?_) λk' g=>?_
  ·unfold Bl;rw[p];simp[ Gg,q,r,V.DH];rfl
  ·rcases wBJ f with h|rfl
   ·let⟨k',a,b,d⟩:=m e h
    exact⟨k',a,b,.inl d⟩
   ·exact⟨k,rfl,rfl,.inr rfl⟩
  ·have C:S k:=by
    let⟨k',a,_,d⟩:=m _ (AQ B)
    rw[r]at a;cases a;exact d
   have s:=g.elim id λe=>e▸C
   let⟨e,f,hke⟩:=t k' s
   obtain⟨n,u,rfl⟩:=wBr.1 f;by_cases hnj:n=j
   ·subst hnj;rw[r]at hke;exact⟨_,Ap (Qk u),hke⟩
   ·exact⟨es[n],Ap (by rw[Qp λe=>hnj e.symm];exact hN u),hke⟩
theorem ej.ze8(H:ej F h cs):ej F (h.new (.map [] 0)) (vT h.next (λ_=>False)::cs)/\Sn F h F (h.new (.map [] 0)):=
 H.new _ ⟨⟨[],0,eQ _ _,And.intro (λe a=>nomatch a) (λk b=>False.elim b)⟩,Rz _,H.fresh⟩ λ_ e=>e
def bh(u:U):List Nat->(Nat->Prop)->Nat->Prop
 |[],P=>P
 |v::r,P=>λw=>if gD u v=true then bh u r P w else(bh u r P w/\w≠v)\/w∈Bm u v
variable{u:U}{vv vb vs:V}{lv:Nat}{tj jK:V}{outs:List (List Bool)}
theorem Re(g:Good u)(C:Lk F h cs lv u vv vb vs tj jK)(ro:iD (eL eB) F h outs jK)(N:Shp u outs){b:Nat}{B:Bk}(U:u.blocks[b]? =some B)
  (H:∀F' h' j rs,Sn F h F' h'->ej F' h' cs->iD (eL eB) F' h' rs j->rs.length=B.ee.length->(∀i row,rs[i]? =some row->row.length=u.ee.length/\∀w,On row w↔bh u (B.ee.drop (i+1)) (nK outs b) w)->Q j h') :
  cP CS og [.ptr lv 0,.I b] h Q:=by
 refine Hj ?_;have nv:=g.nv;have Z:=(j6.1 U).1;have aa:=tw g U
 let⟨l1,o1,bv,bn,bp,_,i1,i2,iv,_,_,ba⟩:=C.u.Bt U
 refine ec (eC _ _) (ec (fx _ _ _) (oF (C.ld 3 rfl) (ec i1 (oF ba.ee (ec iv.len ?_)))));rw[pW rfl (by decide) (by omega),fH]
 let⟨H1,s1⟩:=C.H.make (E:=eL eB) (ty:=iq) B.ee.length ⟨.ed,rfl,.nil⟩ rfl
 have H1:=H1;have s1:=s1;generalize h.new (.cells 130 1 true false (List.replicate B.ee.length V.ed))=p at*;generalize V.slice h.next 0 B.ee.length=j at*;rw[Ej,fH]
 let⟨W,X⟩:=H1.SM (E:=eB) (xs:=[]) (ws:=[]) hY rfl trivial rfl
 have W:ej F (p.new (.cells 4 1 true false [])) (fu eB hY [] (.slice p.next 0 0)::fu (eL eB) iq (List.replicate B.ee.length []) j::cs):=W;have X:Sn F p F (p.new (.cells 4 1 true false [])):=X;generalize p.new (.cells 4 1 true false [])=q at*;obtain⟨t,z⟩:∃r,outs[b]? =some r:=⟨_,hN (by rw[N.len];exact Z)⟩
 have O:=N.row t (Ap z)
 let⟨lo,oo,wo,_,q1,q2,q3⟩:=(ro.since (s1.trans X)).list z .i64
 let⟨ic,hc⟩:=C.c
 refine oN (W.ld (ic+2) hc rfl) (ec q1 (ec q2 ?_))
 let⟨M,h3,e3,n3,H3,s3⟩:=W.V2 0 rfl (jh:=1) q3 (by decide) (by decide) (by simp;omega)
 have ab:fg 4 1 1 (.slice p.next 0 0) wo q=some (.val M h3):=e3;rw[ab,ef];simp[ QX]at H3;have a:∀n,n<=3000->jo .i64 (((n:Nat):Int)-1)=(n:Int)-1:=λn hn=>by rw[gK (by simp[mR];omega)]
 refine ec iv.len (ec (iI _ _ _ _) ?_);rw[a _ aa];have ac:=(s1.trans X).trans s3
 refine Dx (λk x0 x5 x6 x7 x8 h'=>∃F' l d cur rs,x0 = .ptr lv 0/\x5=bv/\x6=j/\x7=M/\x8 = .I ((l.length:Int)-1)/\k=l.length/\B.ee=l++d/\Sn F h F' h'/\cur.length=u.ee.length/\
  ej F' h' (fu eB hY cur M::fu (eL eB) iq rs j::cs)/\(∀w,On cur w↔bh u d (nK outs b) w)/\rs.length=B.ee.length/\
  ∀i row,l.length<=i->rs[i]? =some row->row.length=u.ee.length/\∀w,On row w↔bh u (B.ee.drop (i+1)) (nK outs b) w) ?_
  ⟨F,B.ee,[],t,List.replicate B.ee.length [],rfl,rfl,rfl,rfl,rfl,rfl,by simp,ac,O,H3,λw=>(L4 z w).symm,by simp,λi row p q=>by
   have:=(j6.1 q).1;rw[wBF]at this;omega⟩
 rintro k x0 x5 x6 x7 x8 A ⟨Y,l,d,cur,rs,rfl,e5,e6,e7,rfl,hk,f,s6,D,H6,G,I,P⟩;subst x5 x6 x7;unfold pP;have Ma:l.length<=B.ee.length:=by rw[f,nB];omega
 refine LG ?_;rcases jf l with rfl|⟨s,v,rfl⟩
 ·refine fN (by simp) ?_
  let⟨J,K,r7⟩:=H6.tail.jG 0 rfl
  exact H _ A j rs (s6.trans K) J.tail r7 I λi row hi=>P i row (L9 _) hi
 have qU:((s++[v]).length:Int)-1=(s.length:Nat):=by simp
 rw[qU];refine fX (by omega) ?_;have x:B.ee[s.length]? =some v:=by rw[f];simp
 have ad:At u v b s.length:=⟨B,U,x⟩
 have R:=g.uz v b _ ad;have L:B.ee.drop (s.length+1)=d:=by
  rw[f,List.drop_left' (by simp)]
 rw[Ej,fH]
 let⟨J,K⟩:=H6.SM (E:=eB) (xs:=[]) (ws:=[]) hY rfl trivial rfl
 have J:ej Y (A.new (.cells 4 1 true false [])) (fu eB hY [] (.slice A.next 0 0)::fu eB hY cur M::fu (eL eB) iq rs j::cs):=J;have K:Sn Y A Y (A.new (.cells 4 1 true false [])):=K;generalize A.new (.cells 4 1 true false [])=h7 at*
 let⟨v8,h8,e8,n8,H8,s8⟩:=J.zeJ 0 1 rfl rfl (jh:=1) (by decide) (by decide) (by simp;omega)
 have ae:fg 4 1 1 (.slice A.next 0 0) M h7=some (.val v8 h8):=e8;rw[ae,ef];simp[ QX]at H8
 let⟨H9,s9,r9⟩:=H8.jG 0 rfl
 let⟨am,an,ag,ah,ai,ao,m,aj⟩:=H9.Mb 2 rfl (show s.length<rs.length by omega) rfl r9.one ⟨v8,rfl,r9⟩
 refine ec ah ?_;rw[ai,ef];have m:=m.tail;have S:=((K.trans s8).trans s9).trans aj;generalize (λl=>Y l\/Loc v8 l)=FA at*;have o:=s6.trans S
 let⟨lq,oq,_,p1,p2⟩:=(iv.since o).nat x .i64
 have CA:Lk FA ag (fu eB hY cur M::fu (eL eB) iq (rs.set s.length cur) j::cs) lv u vv vb vs tj jK:=⟨m,⟨ic+2,hc⟩,C.u.since o⟩
 refine ec p1 (ec p2 (Fs CA R (qS ?_)));have y:∀i row,s.length<=i->(rs.set s.length cur)[i]? =some row->row.length=u.ee.length/\∀w,On row w↔bh u (B.ee.drop (i+1)) (nK outs b) w:=by
  intro i row p q;by_cases hi:i=s.length
  ·subst hi;rw[Qk (by omega)]at q;cases q;exact⟨D,λw=>by rw[L];exact G w⟩
  ·rw[Qp λe=>hi e.symm]at q;exact P i row (by simp;omega) q
 cases hq:gD u v with
 | true=>
   refine fX rfl ?_;refine uu ?_;unfold lL;refine ec (iI _ _ _ _) ?_;rw[a s.length (by omega)];refine⟨s.length,by rw[hk];simp,FA,s,v::d,cur,rs.set s.length cur,rfl,rfl,rfl,rfl,rfl,rfl,by rw[f];simp,o,D,m,λw=>?_,by simp[I],y⟩;rw[G w];unfold bh;rw[if_pos hq]
   cases d <;> rfl
 | false=>
   refine fN (by simp) ?_;refine ec p1 (ec p2 ?_);refine Uh g CA D R λF7 h7 T K J al ak=>?_;refine uu ?_;unfold lL;refine ec (iI _ _ _ _) ?_;rw[a s.length (by omega)];refine⟨s.length,by rw[hk];simp,F7,s,v::d,T,rs.set s.length cur,rfl,rfl,rfl,rfl,rfl,rfl,by rw[f];simp,o.trans K,by omega,J,λw=>?_,by simp[I],y⟩;rw[ak w,G w]
   conv=>rhs;unfold bh
   rw[if_neg (by rw[hq];simp)]
theorem SP{u:U}:∀{r:List Nat} {P a:Nat->Prop},(∀w,P w->a w)->∀w,bh u r P w->bh u r a w
 |[],_,_,h,w,hw=>h w hw
 | v::r,P,a,h,w,hw=>by
   unfold bh at hw⊢;split at hw
   ·rename_i e;rw[if_pos e];exact SP h w hw
   ·rename_i e;rw[if_neg e];exact hw.imp (λb=>⟨SP h w b.1,b.2⟩) id
structure PA (u:U) (Out:Nat->Nat->Prop) (of:List Int) (c i:Nat):Prop where
 hd:∀v,At u v c i->gD u v=true->∀j w,j<i->At u w c j->gD u w=true->of[w]?≠of[v]?
 ap:∀v,At u v c i->∀w,w<u.ee.length->bh u ((iM u c).drop (i+1)) (Out c) w->w≠v->of[w]?≠of[v]?
def NQ(fG k:Int):Prop:=(0<=k/\k<12)\/(16<=k/\k<16+fG)
structure lI (u:U) (Out:Nat->Nat->Prop) (of:List Int) (fG:Int):Prop where
 len:of.length=u.ee.length
 s0:0<=fG
 s1:fG<=399
 pl:∀k∈of,NQ fG k
 pa:∀c i,PA u Out of c i
theorem PA.congr{u:U} {Out a:Nat->Nat->Prop}{of:List Int}{c i:Nat}(h:∀w,a c w->Out c w)(p:PA u Out of c i):PA u a of c i:=
 ⟨p.hd,λv hv w b d=>p.ap v hv w b (SP h w d)⟩
theorem lI.congr{u:U} {In Out b a:Nat->Nat->Prop}{of:List Int}{fG:Int}(h:mK u (iy u) In Out) (h':mK u (iy u) b a)(r:lI u Out of fG):lI u a of fG:=
 ⟨r.len,r.s0,r.s1,r.pl,λc i=>by
  by_cases hc:c<u.blocks.length
  ·exact(r.pa c i).congr λw d=>(mK.uniq h h' (λ_ _ _ _=>Iff.rfl) hc).2.2 d
  ·exact⟨(r.pa c i).hd,λv ⟨B,e,_⟩=>absurd (j6.1 e).1 hc⟩⟩
variable{of:List Int}{xx:V}{fG:Int}
theorem zei{xs:List Int}(hl:∀k∈xs,NQ fG k){i:Nat}{k:Int}(h:xs[i]? =some k):NQ fG k:=hl k (Ap h)
theorem zb2(g:Good u)(H0:ej F h cs)(hu:Ff F h u vv vb vs){ii:Nat}(J:cs[ii]? =some (fu eZ fJ of xx))(hl:of.length<1000000)
  (H:∀F' h' c,Sn F h F' h'->ej F' h' cs->(c=true->∃In Out,mK u (iy u) In Out/\lI u Out of fG)->(c=false->(∀Out,¬lI u Out of fG)\/∃In Out,mK u (iy u) In Out/\¬lI u Out of fG)->Q (.bool c) h') :
  cP CS Cc [.agg (uC u vv vb vs),.agg [xx,.I fG]] h Q:=by
 refine Qx ?_;have nb:=g.nb;refine pz H0 hu.one λR H1 s1=>?_;refine pz H1 (by simp[ H1.one (ii+1) J];rfl) λA H2 s2=>?_;have u2:=(hu.since s1).since s2;generalize h.next=lu at*;generalize R.next=s at*;refine ec (H2.xk 1 rfl rfl) ?_;refine ON g H2 u2 λF3 x s3 H3=>?_;have W:=(s1.trans s2).trans s3;have u3:=u2.since s3;have ao:eD (.ptr s (0+0)) x=some xx:=H3.ld 0 rfl rfl;have aj:eD (.ptr s (0+1)) x=some (.I fG):=H3.ld 0 rfl rfl;have aT:eD (.ptr lu (0+2)) x=some vv:=H3.ld 1 rfl rfl;refine Xz ?_;have E1:nr (.bool (!true)) (oB (fV 0 (.ptr s 0)) λaU=>oB (eD aU x) λaV=>oB (fM aV) λaW=>oB (fV 2 (.ptr lu 0)) λaX=>oB (eD aX x) λaY=>oB (fM aY) λaZ=>eh .neq 3 aW aZ)=some (.bool ((of.length:Int) != (u.ee.length:Int))):=by
  simp[ fx,ao,aT,H3.len (ii+2) J,u3.v.len]
 have E2:∀b,nr (.bool b) (oB (fV 1 (.ptr s 0)) λa0=>oB (eD a0 x) λa1=>eh .lss 3 a1 (V.I 0))=some (.bool (b ||decide (fG<0))):=λb=>by
  simp[ fx,aj]
 have E3:∀b,nr (.bool b) (oB (fV 1 (.ptr s 0)) λa2=>oB (eD a2 x) λa3=>eh .gtr 3 a3 (V.I 399))=some (.bool (b ||decide (399<fG))):=λb=>by
  simp[ fx,aj]
 refine ec E1 (ec (E2 _) (ec (E3 _) (gf ?_)));by_cases hc:of.length=u.ee.length/\0<=fG/\fG<=399;rotate_left
 ·refine fX ?_ (H F3 x false W H3.tail.tail (by simp) λ_=> .inl λOut r=>hc ⟨r.len,r.s0,r.s1⟩);simp[ wB6];omega
 let⟨c1,c2,c3⟩:=hc
 refine fN (by simp[ wB6];omega) ?_;refine oF ao (ec (H3.len (ii+2) J) ?_)
 refine M1 (λk x2 E ak aq ar h'=>∃i,x2 = .ptr lu 0/\E = .ptr s 0/\ak=xx/\aq = .I (of.length:Nat)/\ar = .I (i:Nat)/\i+k=of.length/\h' = x/\∀k∈of.take i,NQ fG k) ?_ (k:=of.length)
  ⟨0,rfl,rfl,rfl,rfl,rfl,by omega,rfl,by simp⟩
 rintro k x2 E ak aq ar h' ⟨i,rfl,rfl,bI,rfl,rfl,hk,rfl,X⟩;subst ak;unfold xN;by_cases hi:i<of.length
 ·refine gJ ?_;obtain⟨y,T⟩:∃y,of[i]? =some y:=⟨_,hN hi⟩
  let⟨l4,o4,p1,p2⟩:=H3.BG (ii+2) J T .i64
  have a4:jo .i64 (16+fG)=16+fG:=gK (by simp[mR];omega);have E4:nr (.bool (decide (y<0))) (oB (some (V.I y)) λa5=>eh .geq 3 a5 (V.I 12))=some (.bool (decide (y<0) ||decide (12<=y))):=by
   simp[ jt]
  have E5:jm (.bool (decide (y<0) ||decide (12<=y))) (oB (some (V.I y)) λa6=>oB (eh .lss 3 a6 (V.I 16)) λa7=>oB (some a7) λa8=>nr a8 (oB (some (V.I y)) λa9=>oB (fV 1 (.ptr s 0)) λbb=>oB (eD bb h') λbc=>oB (eh .add 3 (V.I 16) bc) λbd=>eh .geq 3 a9 bd)) =
    some (.bool ((decide (y<0) ||decide (12<=y))&&(decide (y<16) ||decide (16+fG<=y)))):=by
   simp[ gX,aj,a4]
  refine ec p1 (ec p2 (ec (gX _ _ _ _) (ec E4 (ec E5 (gf ?_)))));by_cases hp:NQ fG y
  ·unfold NQ at hp;refine fN (by simp[ xB];omega) ?_;refine fT ⟨k-1,by omega,i+1,rfl,rfl,rfl,rfl,rfl,by omega,rfl,λk' au=>?_⟩;obtain⟨_,rfl⟩:=j6.1 T;rw[JE hi,vU,Et]at au;rcases au with R|rfl
   ·exact X k' R
   ·exact hp
  ·refine fX ?_ (H F3 h' false W H3.tail.tail (by simp) λ_=> .inl λOut r=>hp (zei r.pl T));unfold NQ at hp;simp[ xB];omega
 refine iY ?_;obtain rfl:i=of.length:=by omega
 rw[QQ]at X;refine ec (H3.xk 1 rfl rfl) ?_;refine Xs g H3 u3 λF4 I lv tj jK ins outs s4 H4 bJ be hA=>?_
 let⟨H5,s5,ri⟩:=H4.jG 0 rfl
 simp[CW]at H5
 let⟨H6,s6,ro⟩:=H5.jG 1 rfl
 simp[ CW]at H6;have H6:=H6.tail.tail;have ab:=(s4.trans s5).trans s6;generalize (λl=>(F4 l\/Loc tj l)\/Loc jK l)=F6 at*;have u6:=u3.since ab;have no:∀c i,¬PA u (nK outs) of c i->(∀Out,¬lI u Out of fG)\/∃In Out,mK u (iy u) In Out/\¬lI u Out of fG:=λc i hn=> .inr ⟨_,_,hA,λr=>hn (r.pa c i)⟩;refine oF (H6.ld 2 rfl rfl) (ec u6.b.len ?_)
 refine Mq (λk E U d n o h'=>∃F' b,E = .ptr s 0/\U = .ptr lv 0/\d=vb/\n = .I u.blocks.length/\o = .I (b:Nat)/\b+k=u.blocks.length/\Sn F6 I F' h'/\
  ej F' h' (fi lv mF [.I u.func,.I u.pc,vv,vb,vs,tj,jK]::fi s 37 [xx,.I fG]::fi lu 34 (uC u vv vb vs)::cs)/\∀c i,c<b->PA u (nK outs) of c i) ?_ (k:=u.blocks.length)
  ⟨F6,0,rfl,rfl,rfl,rfl,rfl,by omega,Sn.refl _ _,H6,λ_ _ h=>by omega⟩
 rintro k E U d n o h7 ⟨F7,b,rfl,rfl,aw,rfl,rfl,hk,s7,H7,ax⟩;subst d;unfold xR;have u7:=u6.since s7;by_cases hb:b<u.blocks.length;rotate_left
 ·refine iY (H F7 h7 true ((W.trans ab).trans s7) H7.tail.tail.tail (λ_=>⟨_,_,hA,c1,c2,c3,X,λc i=>?_⟩) (by simp));by_cases hc:c<b
  ·exact ax c i hc
  ·exact⟨λv ⟨B,O,_⟩=>absurd (j6.1 O).1 (by omega),λv ⟨B,O,_⟩=>absurd (j6.1 O).1 (by omega)⟩
 refine gJ ?_;obtain⟨B,O⟩:∃B,u.blocks[b]? =some B:=⟨_,hN hb⟩
 have bK:=tw g O;have ay:iM u b=B.ee:=by unfold iM;rw[O]
 let⟨l8,o8,bv,bn,bp,_,i1,i2,iv,iN,ip,ba⟩:=u7.Bt O
 refine ec i1 (ec i2 ?_);refine j5 H7 rfl rfl (by simp only[pY,fh,iv.one,iN.one,ip.one];rfl) λh8 H8 s8=>?_;generalize h7.next=bx at*;rw[fH]
 let⟨H9,s9⟩:=H8.ze8
 generalize h8.new (.map [] 0)=h9 at*;generalize h8.next=mx at*;have al:=s8.trans s9;have C9:Lk F7 h9 _ lv u vv vb vs tj jK:=⟨H9,⟨2,rfl⟩,u7.since al⟩
 refine Re g C9 (ro.since (s7.trans al)) be O λf Y vo rs bf bg ac bL bi=>?_;refine ec ac.len ?_;have az:=al.trans bf
 refine Mw (λk E U x9 K d n o C L M h'=>∃S i,E = .ptr s 0/\U = .ptr lv 0/\x9 = .ptr bx 0/\K = .map mx/\d=vb/\n = .I u.blocks.length/\o = .I b/\C=vo/\L = .I rs.length/\M = .I (i:Nat)/\i+k=B.ee.length/\Sn f Y f h'/\
  ej f h' (vT mx S::fi bx 79 (pY B bv bn bp)::fi lv mF [.I u.func,.I u.pc,vv,vb,vs,tj,jK]::fi s 37 [xx,.I fG]::fi lu 34 (uC u vv vb vs)::cs)/\
  (∀k,S k↔∃j w,j<i/\At u w b j/\gD u w=true/\of[w]? =some k)/\∀j,j<i->PA u (nK outs) of b j) ?_ (k:=B.ee.length)
  ⟨λ_=>False,0,rfl,rfl,rfl,rfl,rfl,rfl,rfl,rfl,rfl,rfl,by omega,Sn.refl _ _,bg,λk=>⟨λh=>h.elim,λ⟨j,_,h,_⟩=>by omega⟩,λ_ h=>by omega⟩
 rintro k2 E U x9 K d n o C L M t ⟨S,i,rfl,rfl,rfl,rfl,aw,rfl,rfl,bj,rfl,rfl,bQ,Z,D,hS,aA⟩;subst d C;unfold xW;have ad:=az.trans Z;by_cases hi:i<B.ee.length;rotate_left
 ·refine iY ?_;refine fT ⟨k-1,by omega,f,b+1,rfl,rfl,rfl,rfl,rfl,by omega,s7.trans ad,D.tail.tail,λc j hc=>?_⟩;by_cases hcb:c<b
  ·exact ax c j hcb
  obtain rfl:c=b:=by omega
  by_cases hj:j<i
  ·exact aA j hj
  ·have:∀v,¬At u v c j:=λv ⟨B',m,hv⟩=>by
    rw[O]at m;cases m;have:=(j6.1 hv).1;omega
   exact⟨λv hv=>absurd hv (this v),λv hv=>absurd hv (this v)⟩
 refine gJ ?_;obtain⟨row,P⟩:∃r,rs[i]? =some r:=⟨_,hN (by omega)⟩
 let⟨hrowl,hrowb⟩:=bi i row P
 obtain⟨v,hv⟩:∃v,B.ee[i]? =some v:=⟨_,hN hi⟩
 have ae:At u v b i:=⟨B,O,hv⟩
 have aB:=g.uz _ _ _ ae;obtain⟨y,T⟩:∃y,of[v]? =some y:=⟨_,hN (by omega)⟩
 let⟨lr,or_,wr,_,r1,r2,r3⟩:=(ac.since Z).list P .i64
 let⟨lq,oq,_,q1,q2⟩:=(iv.since ad).nat hv .i64
 let⟨lo,oo,y1,y2⟩:=D.BG (ii+5) J T .i64
 have aC:Lk f t _ lv u vv vb vs tj jK:=⟨D,⟨2,rfl⟩,u7.since ad⟩
 have ag:eD (.ptr s (0+0)) t=some xx:=D.ld 3 rfl rfl;refine ec r1 (ec r2 (oF (D.ld 1 rfl rfl) (ec q1 (ec q2 ?_))));refine Fs aC aB ?_
 let⟨bk_,hlk,hbk⟩:=D.look 0 rfl y
 have E6:jm (.bool (gD u v)) (oB (some (V.map mx)) λbm=>oB (fV 0 (.ptr s 0)) λbo=>oB (eD bo t) λbr=>oB (some (V.I v)) λbt=>oB (gQ 1 br bt) λbu=>oB (eD bu t) λbw=>rG 3 none (V.bool false) false bm bw t)=some (.bool (gD u v&&bk_)):=by
  have aD:rG 3 none (.bool false) false (.map mx) (.I y) t=some (.bool bk_):=hlk;simp[ fx,ag,y1,y2,aD]
 refine ec E6 (gf ?_);by_cases hbad:(gD u v&&bk_)=true
 ·rw[xB]at hbad;refine fX (by simp[hbad]) (H f t false ((W.trans ab).trans (s7.trans ad)) D.tail.tail.tail.tail.tail (by simp) λ_=>no b i λp=>?_)
  let⟨j,w,R,A,x,I⟩:=(hS y).1 (hbk.1 hbad.2)
  exact p.hd v ae hbad.1 j w R A x (I.trans T.symm)
 refine fN hbad ?_;have bz:gD u v=true->∀j w,j<i->At u w b j->gD u w=true->of[w]?≠of[v]?:=λhq j w R A x I=>hbad (by
  rw[xB];exact⟨hq,hbk.2 ((hS y).2 ⟨j,w,R,A,x,I.trans T⟩)⟩)
 have fin:∀q S',Sn f Y f q->ej f q (vT mx S'::fi bx 79 (pY B bv bn bp)::fi lv mF [.I u.func,.I u.pc,vv,vb,vs,tj,jK]::fi s 37 [xx,.I fG]::fi lu 34 (uC u vv vb vs)::cs)->
   (∀k,S' k↔∃j w,j<i+1/\At u w b j/\gD u w=true/\of[w]? =some k)->
   rC Q (λE U d n o h'=>∃k',k' < k/\∃F' b,E = .ptr s 0/\U = .ptr lv 0/\d=vb/\n = .I u.blocks.length/\o = .I (b:Nat)/\b+k' = u.blocks.length/\Sn F6 I F' h'/\
    ej F' h' (fi lv mF [.I u.func,.I u.pc,vv,vb,vs,tj,jK]::fi s 37 [xx,.I fG]::fi lu 34 (uC u vv vb vs)::cs)/\∀c i,c<b->PA u (nK outs) of c i)
    (λE U x9 K d n o C L M h'=>∃k',k' < k2/\∃S i,E = .ptr s 0/\U = .ptr lv 0/\x9 = .ptr bx 0/\K = .map mx/\d=vb/\n = .I u.blocks.length/\o = .I b/\C=vo/\L = .I rs.length/\M = .I (i:Nat)/\i+k' = B.ee.length/\Sn f Y f h'/\
     ej f h' (vT mx S::fi bx 79 (pY B bv bn bp)::fi lv mF [.I u.func,.I u.pc,vv,vb,vs,tj,jK]::fi s 37 [xx,.I fG]::fi lu 34 (uC u vv vb vs)::cs)/\
     (∀k,S k↔∃j w,j<i/\At u w b j/\gD u w=true/\of[w]? =some k)/\∀j,j<i->PA u (nK outs) of b j)
    (.ptr s 0) (.ptr lv 0) (.ptr bx 0) (.map mx) wr (.I v) vb (.I u.blocks.length) (.I b) vo (.I rs.length) (.I i) q:=by
  intro q S' N G bA;refine LY ?_;unfold wU;have bC:=(ac.since N).list P .i64
  let⟨lr',or',wr',_,bR,bS,bU⟩:=bC
  have aE:iD eB f q row wr:=by
   have e1:=(ac.since N).list P .i64
   let⟨a,b',c,d1,d2,d3,d4⟩:=e1
   have hp:gQ 1 vo (.I i)=some (.ptr lr or_):=r1;rw[hp]at d2;cases d2;have:eD (.ptr lr or_) q=eD (.ptr lr or_) t:=by
    rw[show eD (.ptr lr or_) q=eD (.ptr lr or_) Y from ?_,show eD (.ptr lr or_) t=eD (.ptr lr or_) Y from ?_]
    ·unfold eD ld1 lj;simp[ Z.fm _ d1]
    ·unfold eD ld1 lj;simp[ N.fm _ d1]
   rw[d3,r2]at this;cases this;exact d4
  refine ec aE.len ?_;rw[hrowl];have am:eD (.ptr s (0+0)) q=some xx:=G.ld 3 rfl rfl
  let⟨lo',oo',bD,bE⟩:=G.BG (ii+5) J T .i64
  refine Mh (λk E U x9 K gI d n o C L M aa ah ai h'=>∃w,E = .ptr s 0/\U = .ptr lv 0/\x9 = .ptr bx 0/\K = .map mx/\gI = .I v/\d=vb/\n = .I u.blocks.length/\o = .I b/\C=vo/\L = .I rs.length/\M = .I i/\aa=wr/\ah = .I u.ee.length/\ai = .I (w:Nat)/\w+k=u.ee.length/\h' = q/\
   ∀w',w' < w->On row w'->w'≠v->of[w']?≠of[v]?) ?_ (k:=u.ee.length)
   ⟨0,rfl,rfl,rfl,rfl,rfl,rfl,rfl,rfl,rfl,rfl,rfl,rfl,rfl,rfl,by omega,rfl,λ_ h=>by omega⟩
  rintro k3 E U x9 K gI d n o C L M aa ah ai h' ⟨w,rfl,rfl,rfl,rfl,rfl,aw,rfl,rfl,bj,rfl,rfl,bH,rfl,rfl,bV,rfl,hw⟩;subst d C aa;unfold xS;by_cases hwl:w<u.ee.length;rotate_left
  ·refine iY ?_;refine fT ⟨k2-1,by omega,S',i+1,rfl,rfl,rfl,rfl,rfl,rfl,rfl,rfl,rfl,rfl,by omega,N,G,bA,λj hj=>?_⟩;by_cases hji:j<i
   ·exact aA j hji
   obtain rfl:j=i:=by omega
   refine⟨λv' e=>?_,λv' e w' bW aF=>?_⟩
   ·let⟨B',m,e⟩:=e
    rw[O]at m;cases m;rw[hv]at e;cases e;exact bz
   ·let⟨B',m,e⟩:=e
    rw[O]at m;cases m;rw[hv]at e;cases e;rw[ay]at aF;exact hw w' (by omega) ((hrowb w').2 aF)
  refine gJ ?_;obtain⟨z,hz⟩:∃z,row[w]? =some z:=⟨_,hN (by omega)⟩
  obtain⟨yw,an⟩:∃y,of[w]? =some y:=⟨_,hN (by omega)⟩
  let⟨lz,oz,_,z1,z2⟩:=aE.bool hz .i64
  let⟨lw,ow,w1,w2⟩:=G.BG (ii+5) J an .i64
  have E7:jm (.bool z) (oB (some (V.I w)) λaG=>oB (some (V.I v)) λaH=>eh .neq 3 aG aH)=some (.bool (z&&((w:Int) != (v:Int)))):=by
   simp[ wj]
  have E8:jm (.bool (z&&((w:Int) != (v:Int)))) (oB (fV 0 (.ptr s 0)) λaI=>oB (eD aI h') λaJ=>oB (some (V.I w)) λaK=>oB (gQ 1 aJ aK) λaL=>oB (eD aL h') λaM=>oB (fV 0 (.ptr s 0)) λaN=>oB (eD aN h') λaO=>oB (some (V.I v)) λaP=>oB (gQ 1 aO aP) λaQ=>oB (eD aQ h') λaR=>eh .eql 3 aM aR)=some (.bool ((z&&((w:Int) != (v:Int)))&&(yw == y))):=by
   simp[ fx,am,w1,w2,bD,bE]
  refine ec z1 (ec z2 (ec E7 (ec E8 (gf ?_))));by_cases hx:(z&&((w:Int) != (v:Int))&&(yw == y))=true
  ·refine fX hx (H f h' false ((W.trans ab).trans ((s7.trans az).trans N)) G.tail.tail.tail.tail.tail (by simp) λ_=>no b i λp=>?_);simp[ wB6]at hx
   let⟨⟨x1,x2⟩,E⟩:=hx
   refine p.ap v ae w hwl (by rw[ay];exact(hrowb w).1 (by unfold On;rw[hz,x1])) (by omega) ?_;rw[an,T,E]
  ·refine fN hx ?_;refine fT ⟨k3-1,by omega,w+1,rfl,rfl,rfl,rfl,rfl,rfl,rfl,rfl,rfl,rfl,rfl,rfl,rfl,rfl,by omega,rfl,λw' R A x I=>?_⟩;by_cases hww:w' < w
   ·exact hw w' hww A x I
   obtain rfl:w' = w:=by omega
   apply hx;have e1:z=true:=by
    unfold On at A;rw[hz]at A;exact Option.some.inj A
   have e2:yw=y:=by rw[an,T]at I;exact Option.some.inj I
   have e3:((w':Int) != (v:Int))=true:=by rw[wB6];omega
   rw[e1,e2,e3,beq_self_eq_true];rfl
 refine Fs aC aB ?_
 cases hq:gD u v with
 | true=>
   refine gf (fX rfl ?_)
   let⟨q,bG,bX,G,N⟩:=D.ig 0 rfl y
   have aS:zk 3 none (.map mx) (.I y) (.bool true) t=some (.val .undef q):=bG;refine oF ag (ec y1 (ec y2 ?_));rw[aS,ef];simp[CW]at G;refine fin q _ (Z.trans N) G λk'=>?_;rw[hS k'];constructor
   ·rintro(⟨j,w,R,A⟩|rfl)
    ·exact⟨j,w,by omega,A⟩
    ·exact⟨i,v,by omega,ae,hq,T⟩
   ·rintro ⟨j,w,R,A,x,I⟩
    by_cases hj:j<i
    ·exact .inl ⟨j,w,hj,A,x,I⟩
    ·obtain rfl:j=i:=by omega
     let⟨B',m,e⟩:=A
     rw[O]at m;cases m;rw[hv]at e;cases e;rw[T]at I
     exact .inr (Option.some.inj I).symm
 | false=>
   refine gf (fN (by simp) ?_);refine fin t _ Z D λk'=>?_;rw[hS k'];constructor
   ·rintro⟨j,w,R,A⟩
    exact⟨j,w,by omega,A⟩
   ·rintro ⟨j,w,R,A,x,I⟩
    by_cases hj:j<i
    ·exact⟨j,w,hj,A,x,I⟩
    ·obtain rfl:j=i:=by omega
     let⟨B',m,e⟩:=A
     rw[O]at m;cases m;rw[hv]at e;cases e;rw[hq]at x;cases x
variable{P:Nat->Prop}{w:Nat}
theorem Ta{v:Nat}{r:List Nat}(h:bh u r P w)(a:w≠v):bh u (v::r) P w:=by
 unfold bh;split
 ·exact h
 ·exact .inl ⟨h,a⟩
theorem KM:∀{l d:List Nat},(∀x∈l,gD u x=true)->(bh u (l++d) P w↔bh u d P w)
 |[],_,_=>Iff.rfl
 | v::l,d,h=>by
   show(if gD u v=true then _ else _)↔_;rw[if_pos (h v (by simp))];exact KM λx a=>h x (by simp[a])
theorem zbK:∀{n:Nat}{l d:List Nat},l.length=n->l.reverse.Pairwise (λa b=>gD u a=true->gD u b=true)->(bk u l.reverse (bh u d P) w↔bh u (l++d) P w)
 | 0,l,d,hl,_=>by
   obtain rfl:=wBS hl
   exact Iff.rfl
 | n + 1,l,d,hl,hp=>by
   rcases jf l with rfl|⟨s,v,rfl⟩
   ·simp at hl
   ·rw[List.reverse_append]at hp⊢
    simp only[List.reverse_cons,List.reverse_nil,QX,List.singleton_append]at hp⊢;rw[List.pairwise_cons]at hp
    cases hq:gD u v with
    | true=>
      have e1:bk u (v::s.reverse) (bh u d P) w=bh u d P w:=by
        unfold bk;rw[if_pos hq]
      rw[e1];refine(KM λx c=>?_).symm;rcases vU.1 c with h|h
      ·exact hp.1 x (wA9.2 h) hq
      ·rw[Et.1 h];exact hq
    | false=>
      have e1:bk u (v::s.reverse) (bh u d P) w=bk u s.reverse (bh u (v::d) P) w:=by
        conv=>lhs;unfold bk
        rw[if_neg (by rw[hq];simp)];congr 1;funext x
        conv=>rhs;unfold bh
        rw[if_neg (by rw[hq];simp)]
      rw[e1,zbK (by simpa using hl) hp.2,Bo];rfl
end
section
variable{u:U}(g:Good u){In Out:Nat->Nat->Prop}(h:mK u (iy u) In Out){of:List Int}(pa:∀c i,PA u Out of c i){w1 w2:Nat}(mD:w1≠w2)(heq:of[w1]? =of[w2]?)
include pa mD heq
include g h
omit mD heq pa in
theorem zgg {b w:Nat}(hb:b<u.blocks.length):In b w↔bh u (iM u b) (Out b) w:=by
 rw[h.Iq b w hb];have:=zbK (u:=u) (P:=Out b) (w:=w) (l:=iM u b) (d:=[]) rfl (g.pw b);rw[GA]at this;exact this
end
