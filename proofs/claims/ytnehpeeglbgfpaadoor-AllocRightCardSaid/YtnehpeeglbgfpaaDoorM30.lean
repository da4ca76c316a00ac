/- Parts. -/
import Derived.Test.YtnehpeeglbgfpaaDoorM29
set_option maxHeartbeats 4000000
namespace Go.Proofs.YtnehpeeglbgfpaaDoor.Hx
open Un Dm
def oH(l:Nat)(S:Int->Prop):Pc where
 me:=λm=>m=l
 ok F h:=(∃es c,h.get l=some (.map es c)/\(∀e∈es,∃k:Int,e.1 = .I k/\e.2.1 = .bool true/\S k)/\∀k,S k->∃e∈es,e.1 = .I k)/\l<h.next/\¬F l
 I8:=λh _ e=>by subst e;exact h.2
 eD:=λ⟨⟨es,c,d,f⟩,b⟩ _ a g=>⟨⟨es,c,(a l rfl).trans d,f⟩,zr b.1 g,b.2⟩
 mono:=λh _ a=>⟨h.1,h.2.1,a l rfl⟩
theorem Fs(k:Int):∀(es:List (V×V×Nat))(i:Nat),(∀e∈es,∃k:Int,e.1 = .I k/\e.2.1 = .bool true)->
  (nB fy none (.I k) es i=some none/\∀e∈es,e.1≠ .I k)\/∃j e,nB fy none (.I k) es i=some (some (i+j,.bool true))/\es[j]? =some e/\e.1 = .I k
 |[],i,_=> .inl ⟨rfl,λ_ h=>by cases h⟩
 | e ::es,i,h=>by
   obtain ⟨k',c,g⟩:=h e (M9 ..);have a:nB fy none (.I k) (e::es) i=if k=k' then some (some (i,e.2.1)) else nB fy none (.I k) es (i+1):=by
     show oB (Iy fy none (.I k) e.1) _=_;rw[c,show Iy fy none (V.I k) (V.I k')=some (k == k') from M0 _ _];by_cases hk:k=k'
     ·rw[if_pos hk,Jg.2 hk];rfl
     ·rw[if_neg hk,W5.2 hk];rfl
   by_cases hk:k=k'
   ·subst hk
    rw[if_pos rfl,g]at a;exact .inr ⟨0,e,a,rfl,c⟩
   ·rw[if_neg hk]at a
    rcases Fs k es (i+1) λe b=>h e (V4 _ b)with⟨d,f⟩|⟨j,e',d,f,l⟩
    ·refine .inl ⟨a.trans d,λe' b=>?_⟩
     rcases AJ.1 b with rfl|b
     ·rw[c];intro m;cases m;exact hk rfl
     ·exact f e' b
    ·exact .inr ⟨j+1,e',by rw[a,d];congr 3;omega,f,l⟩
section
variable{F F':Nat->Prop}{h h':Hp}{cs:List Pc}{Q:fm}{l:Nat}{S:Int->Prop}
theorem er.look(H:er F h cs)(i:Nat)(hi:cs[i]? =some (oH l S))(k:Int):∃b,CK fy none (.bool false) false (.map l) (.I k) h=some (.bool b)/\(b=true↔S k):=by
 obtain ⟨⟨es,c,n,m,o⟩,_⟩:=H.ok i _ hi;have e1:∀r,nB fy none (.I k) es 0=some r->CK fy none (.bool false) false (.map l) (.I k) h=some (found (.bool false) false r):=λr p=>by
  unfold CK yn;simp only[n,eQ];rw[p];rfl
 rcases Fs k es 0 λe d=>let⟨k,a,b,_⟩:=m e d;⟨k,a,b⟩ with⟨f,g⟩|⟨j,e,f,g,q⟩
 ·refine⟨false,e1 _ f,by simp,λs=>?_⟩;obtain⟨e,d,t⟩:=o k s;exact absurd t (g e d)
 ·refine⟨true,e1 _ f,λ_=>?_,λ_=>rfl⟩;obtain⟨k',a,_,b⟩:=m e (xu g);rw[q]at a;cases a;exact b
theorem er.gX(H:er F h cs)(i:Nat)(hi:cs[i]? =some (oH l S))(k:Int):∃h',yQ fy none (.map l) (.I k) (.bool true) h=some (.val .undef h')/\h.next<=h'.next/\er F h' (cs.set i (oH l λx=>S x\/x=k))/\Sn F h F h':=by
 obtain⟨⟨es,c,w,o,u⟩,q,y⟩:=H.ok i _ hi
 have fin:∀iD c',BB fy none es c (.I k) (.bool true)=some (.map iD c')->(∀e∈iD,∃k':Int,e.1 = .I k'/\e.2.1 = .bool true/\(S k'\/k' = k))->(∀k',S k'\/k' = k->∃e∈iD,e.1 = .I k')->
   ∃h',yQ fy none (.map l) (.I k) (.bool true) h=some (.val .undef h')/\h.next<=h'.next/\er F h' (cs.set i (oH l λx=>S x\/x=k))/\Sn F h F h':=by
  intro iD c' z A B;refine⟨h.put l (.map iD c'),?_,jn _,H.CN (p:=oH l λx=>S x\/x=k) hi (kX.put _ rfl q) ⟨⟨iD,c',fO _ q,A,B⟩,q,y⟩ λ_ h=> .inl h⟩;unfold yQ yn;simp only[w,eQ,z];rfl
 rcases Fs k es 0 λe f=>let⟨k,a,b,_⟩:=o e f;⟨k,a,b⟩ with⟨g4,r⟩|⟨j,e,g4,r,s⟩
 ·refine fin (es++[(.I k,.bool true,c)]) (c+1) (by unfold BB;rw[g4];rfl) (λe f=>?_) λk' g=>?_
  ·rcases AI.1 f with h|h
   ·obtain⟨k',a,b,d⟩:=o e h;exact⟨k',a,b,.inl d⟩
   ·obtain rfl:=Ig.1 h;exact⟨k,rfl,rfl,.inr rfl⟩
  ·rcases g with g|rfl
   ·obtain⟨e,f,g⟩:=u k' g;exact⟨e,Sv _ f,g⟩
   ·exact⟨_,List.mem_append_right _ (Ig.2 rfl),rfl⟩
 ·obtain ⟨C,rfl⟩:=jw.1 r;refine fin (es.set j (.I k,.bool true,es[j].2.2)) c ?_ (λe f=>?_) λk' g=>?_
  ·unfold BB;rw[g4];simp only[eQ,EM,r,s,V.A4];rfl
  ·rcases VJ f with h|rfl
   ·obtain⟨k',a,b,d⟩:=o e h;exact⟨k',a,b,.inl d⟩
   ·exact⟨k,rfl,rfl,.inr rfl⟩
  ·have D:S k:=by
    obtain⟨k',a,_,d⟩:=o _ (Cj C);rw[s]at a;cases a;exact d
   have t:S k':=g.elim id λe=>e▸D;obtain⟨e,f,m⟩:=u k' t;obtain⟨n,v,rfl⟩:=List.mem_iff_getElem.1 f;by_cases hnj:n=j
   ·subst hnj;rw[s]at m;exact⟨_,xu (G2 v),m⟩
   ·exact⟨es[n],xu (by rw[Iv λe=>hnj e.symm];exact iH v),m⟩
theorem er.VO(H:er F h cs):er F (h.new (.map [] 0)) (oH h.next (λ_=>False)::cs)/\Sn F h F (h.new (.map [] 0)):=
 H.new (p:=oH h.next λ_=>False) _ ⟨⟨[],0,ez _ _,And.intro (λe a=>nomatch a) (λk b=>False.elim b)⟩,K8 _,H.fresh⟩ λ_ e=>e
end
open Un Dm
def bh(u:U):List Nat->(Nat->Prop)->Nat->Prop
 |[],P=>P
 |v::r,P=>λw=>if gi u v=true then bh u r P w else(bh u r P w/\w≠v)\/w∈sY u v
section
variable{F F':Nat->Prop}{h h':Hp}{cs:List Pc}{Q:fm}{u:U}{vv vb vs:V}{lv:Nat}{iT fR:V}{outs:List (List Bool)}
theorem JU(g:Good u)(C:Lk F h cs lv u vv vb vs iT fR)(ro:iL (eL eB) F h outs fR)(O:Jv u outs){b:Nat}{B:Bk}(W:u.blocks[b]? =some B)
  (H:∀F' h' o rs,Sn F h F' h'->er F' h' cs->iL (eL eB) F' h' rs o->rs.length=B.ee.length->(∀(i:Nat) row,rs[i]? =some row->row.length=u.ee.length/\∀w,On row w↔bh u (B.ee.drop (i+1)) (iz outs b) w)->Q o h') :
  cP CS j9 [.ptr lv 0,.I b] h Q:=by
 refine AS rfl rfl ?_;unfold uv;have nv:=g.nv;have aa:=(jw.1 W).1;have ab:=mP g W;obtain⟨l1,o1,bv,bn,bp,_,i1,i2,iv,_,_,ba⟩:=C.u.wh W;refine ec (fj _ _) (ec (fH _ _ _) (oF (C.ld 3 rfl) (ec i1 (oF ba.ee (ec iv.len ?_)))));rw[kM rfl (by decide) (by omega),fJ];obtain⟨H1,s1⟩:=C.H.make (E:=eL eB) (ty:=fL) (y:=[]) (u:=V.ed) B.ee.length ⟨.ed,rfl,.nil⟩ rfl;have H1:er F (h.new (.cells 59 1 true false (List.replicate B.ee.length V.ed))) (fo (eL eB) fL (List.replicate B.ee.length []) (.slice h.next 0 B.ee.length)::cs):=H1;have s1:Sn F h F (h.new (.cells 59 1 true false (List.replicate B.ee.length V.ed))):=s1;generalize h.new (.cells 59 1 true false (List.replicate B.ee.length V.ed))=q at*;generalize V.slice h.next 0 B.ee.length=o at*;rw[wJ,fJ];obtain⟨X,Y⟩:=H1.KX (E:=eB) (xs:=[]) (ws:=[]) (n:=0) fx rfl trivial rfl;have X:er F (q.new (.cells 4 1 true false [])) (fo eB fx [] (.slice q.next 0 0)::fo (eL eB) fL (List.replicate B.ee.length []) o::cs):=X;have Y:Sn F q F (q.new (.cells 4 1 true false [])):=Y;generalize q.new (.cells 4 1 true false [])=t at*;obtain⟨x,D⟩:∃r,outs[b]? =some r:=⟨_,iH (show b<outs.length by rw[O.len];exact aa)⟩
 have P:=O.row x (xu D);obtain⟨lo,oo,wo,_,q1,q2,q3⟩:=(ro.since (s1.trans Y)).list D .i64;obtain⟨ic,hc⟩:=C.c;refine oN (X.ld (ic+2) hc rfl) (ec q1 (ec q2 ?_));obtain⟨N,h3,e3,n3,H3,s3⟩:=X.Nj 0 rfl (lV:=1) q3 (by decide) (by decide) (by simp;omega);have ac:fh 4 1 1 (.slice q.next 0 0) wo t=some (.val N h3):=e3;rw[ac,ej];simp only[ot,LR]at H3;have a:∀n:Nat,n<=3000->jt .i64 (((n:Nat):Int)-1)=(n:Int)-1:=λn hn=>by rw[iO (by simp only[Fb];omega)]
 refine ec iv.len (ec (iy _ _ _ _) ?_);rw[a _ ab];have ae:=(s1.trans Y).trans s3
 refine zo (λk x0 x5 x6 x7 x8 h'=>∃(F':Nat->Prop) (l d:List Nat) (cur:List Bool) (rs:List (List Bool)),x0 = .ptr lv 0/\x5=bv/\x6=o/\x7=N/\x8 = .I ((l.length:Int)-1)/\k=l.length/\B.ee=l++d/\Sn F h F' h'/\cur.length=u.ee.length/\
  er F' h' (fo eB fx cur N::fo (eL eB) fL rs o::cs)/\(∀w,On cur w↔bh u d (iz outs b) w)/\rs.length=B.ee.length/\
  ∀(i:Nat) row,l.length<=i->rs[i]? =some row->row.length=u.ee.length/\∀w,On row w↔bh u (B.ee.drop (i+1)) (iz outs b) w) ?_ (k:=B.ee.length)
  ⟨F,B.ee,[],x,List.replicate B.ee.length [],rfl,rfl,rfl,rfl,rfl,rfl,by simp,ae,P,H3,λw=>(rJ D w).symm,by simp,λi row q t=>by
   have:=(jw.1 t).1;rw[List.length_replicate]at this;omega⟩
 rintro k x0 x5 x6 x7 x8 G ⟨Z,l,d,cur,rs,rfl,e5,e6,e7,rfl,hk,f,s6,I,H6,J,K,R⟩;subst x5 x6 x7;unfold qF;have aq:l.length<=B.ee.length:=by rw[f,Ja];omega
 refine CL ?_;rcases gY l with rfl|⟨s,v,rfl⟩
 ·refine gB (by simp) ?_;obtain⟨z,L,r7⟩:=H6.tail.mi 0 rfl;simp only[ot]at z;exact H _ G o rs (s6.trans L) z.tail r7 K λi row hi=>R i row (GM _) hi
 have ag:((s++[v]).length:Int)-1=(s.length:Nat):=by simp
 rw[ag];refine gU (by omega) ?_;have j:B.ee[s.length]? =some v:=by rw[f];simp
 have ar:s.length<B.ee.length:=(jw.1 j).1;have ah:At u v b s.length:=⟨B,W,j⟩
 have S:=g.vR v b _ ah;have M:B.ee.drop (s.length+1)=d:=by
  rw[f,List.drop_left' (by simp)]
 rw[wJ,fJ];obtain⟨z,L⟩:=H6.KX (E:=eB) (xs:=[]) (ws:=[]) (n:=0) fx rfl trivial rfl;have z:er Z (G.new (.cells 4 1 true false [])) (fo eB fx [] (.slice G.next 0 0)::fo eB fx cur N::fo (eL eB) fL rs o::cs):=z;have L:Sn Z G Z (G.new (.cells 4 1 true false [])):=L;generalize G.new (.cells 4 1 true false [])=h7 at*;obtain⟨v8,h8,e8,n8,H8,s8⟩:=z.RG 0 1 rfl rfl (lV:=1) (by decide) (by decide) (by simp;omega);have ai:fh 4 1 1 (.slice G.next 0 0) N h7=some (.val v8 h8):=e8;rw[ai,ej];simp only[ot,LR]at H8;obtain⟨H9,s9,r9⟩:=H8.mi 0 rfl;simp only[ot]at H9;obtain⟨MK,au,aj,ak,al,aw,m,am⟩:=H9.AD 2 rfl (k:=s.length) (y:=cur) (u:=v8) (show s.length<rs.length by omega) rfl r9.one ⟨v8,rfl,r9⟩;refine ec ak ?_;rw[al,ej];simp only[AT,ot]at m;have m:=m.tail;have T:=((L.trans s8).trans s9).trans am;generalize (λl=>Z l\/Loc v8 l)=FA at*;have p:=s6.trans T;obtain⟨lq,oq,_,p1,p2⟩:=(iv.since p).nat j .i64;have CA:Lk FA aj (fo eB fx cur N::fo (eL eB) fL (rs.set s.length cur) o::cs) lv u vv vb vs iT fR:=⟨m,⟨ic+2,hc⟩,C.u.since p⟩
 refine ec p1 (ec p2 (Aa CA S (yz ?_)));have A:∀(i:Nat) row,s.length<=i->(rs.set s.length cur)[i]? =some row->row.length=u.ee.length/\∀w,On row w↔bh u (B.ee.drop (i+1)) (iz outs b) w:=by
  intro i row q t;by_cases hi:i=s.length
  ·subst hi;rw[G2 (by omega)]at t;cases t;exact⟨I,λw=>by rw[M];exact J w⟩
  ·rw[Iv λe=>hi e.symm]at t;exact R i row (by simp;omega) t
 cases hq:gi u v with
 | true=>
   refine gU rfl ?_;refine pZ ?_;unfold lZ;refine ec (iy _ _ _ _) ?_;rw[a s.length (by omega)];refine⟨s.length,by rw[hk];simp,FA,s,v::d,cur,rs.set s.length cur,rfl,rfl,rfl,rfl,rfl,rfl,by rw[f];simp,p,I,m,λw=>?_,by simp[K],A⟩;rw[J w];unfold bh;rw[if_pos hq]
   cases d <;> rfl
 | false=>
   refine gB (by simp) ?_;refine ec p1 (ec p2 ?_);refine LG g CA I S λF7 h7 U L z ao an=>?_;refine pZ ?_;unfold lZ;refine ec (iy _ _ _ _) ?_;rw[a s.length (by omega)];refine⟨s.length,by rw[hk];simp,F7,s,v::d,U,rs.set s.length cur,rfl,rfl,rfl,rfl,rfl,rfl,by rw[f];simp,p.trans L,by omega,z,λw=>?_,by simp[K],A⟩;rw[an w,J w]
   conv=>rhs;unfold bh
   rw[if_neg (by rw[hq];simp)]
end
open Un Dm
theorem KZ{u:U}:∀{r:List Nat} {P a:Nat->Prop},(∀w,P w->a w)->∀w,bh u r P w->bh u r a w
 |[],_,_,h,w,hw=>h w hw
 | v::r,P,a,h,w,hw=>by
   unfold bh at hw⊢;split at hw
   ·rename_i e;rw[if_pos e];exact KZ h w hw
   ·rename_i e;rw[if_neg e];exact hw.imp (λb=>⟨KZ h w b.1,b.2⟩) id
structure PA (u:U) (Out:Nat->Nat->Prop) (of:List Int) (c i:Nat):Prop where
 hd:∀v,At u v c i->gi u v=true->∀j w,j<i->At u w c j->gi u w=true->of[w]?≠of[v]?
 ap:∀v,At u v c i->∀w,w<u.ee.length->bh u ((ik u c).drop (i+1)) (Out c) w->w≠v->of[w]?≠of[v]?
def GD(fw k:Int):Prop:=(0<=k/\k<12)\/(16<=k/\k<16+fw)
structure kT (u:U) (Out:Nat->Nat->Prop) (of:List Int) (fw:Int):Prop where
 len:of.length=u.ee.length
 s0:0<=fw
 s1:fw<=399
 pl:∀k∈of,GD fw k
 pa:∀c i,PA u Out of c i
theorem PA.congr{u:U} {Out a:Nat->Nat->Prop}{of:List Int}{c i:Nat}(h:∀w,a c w->Out c w)(p:PA u Out of c i):PA u a of c i:=
 ⟨p.hd,λv b w d e=>p.ap v b w d (KZ h w e)⟩
theorem kT.congr{u:U} {In Out b a:Nat->Nat->Prop}{of:List Int}{fw:Int}(h:lR u (gw u) In Out) (h':lR u (gw u) b a)(r:kT u Out of fw):kT u a of fw:=
 ⟨r.len,r.s0,r.s1,r.pl,λc i=>by
  by_cases hc:c<u.blocks.length
  ·exact(r.pa c i).congr λw d=>(lR.uniq h h' (λ_ _ _ _=>Iff.rfl) hc).2.2 d
  ·exact⟨(r.pa c i).hd,λv ⟨B,e,_⟩=>absurd (jw.1 e).1 hc⟩⟩
section
variable{F F':Nat->Prop}{h h':Hp}{cs:List Pc}{Q:fm}{u:U}{vv vb vs:V}{of:List Int}{uO:V}{fw:Int}
theorem RQ{xs:List Int}(a:∀k∈xs,GD fw k){i:Nat}{k:Int}(h:xs[i]? =some k):GD fw k:=a k (xu h)
theorem HW(g:Good u)(H0:er F h cs)(hu:Af F h u vv vb vs){ii:Nat}(J:cs[ii]? =some (fo eZ fy of uO))(hl:of.length<1000000)
  (H:∀F' h' c,Sn F h F' h'->er F' h' cs->(c=true->∃In Out,lR u (gw u) In Out/\kT u Out of fw)->(c=false->(∀Out,¬kT u Out of fw)\/∃In Out,lR u (gw u) In Out/\¬kT u Out of fw)->Q (.bool c) h') :
  cP CS j5 [.agg (uC u vv vb vs),.agg [uO,.I fw]] h Q:=by
 refine I6 rfl rfl ?_;unfold CJ;have nv:=g.nv;have nb:=g.nb;refine qx H0 hu.one λT H1 s1=>?_;refine qx H1 (by simp only[fc,H1.one (ii+1) J];rfl) λA H2 s2=>?_;have u2:=(hu.since s1).since s2;generalize h.next=lu at*;generalize T.next=s at*;refine ec (H2.CI 1 rfl rfl) ?_;refine Lr g H2 u2 λF3 x s3 H3=>?_;have Y:=(s1.trans s2).trans s3;have u3:=u2.since s3;have ay:en (.ptr s (0+0)) x=some uO:=H3.ld 0 rfl rfl;have an:en (.ptr s (0+1)) x=some (.I fw):=H3.ld 0 rfl rfl;have a1:en (.ptr lu (0+2)) x=some vv:=H3.ld 1 rfl rfl;refine Oo ?_;have E1:mh (.bool (!true)) (oB (fI 0 (.ptr s 0)) λa2=>oB (en a2 x) λa3=>oB (fF a3) λa4=>oB (fI 2 (.ptr lu 0)) λa5=>oB (en a5 x) λa6=>oB (fF a6) λa7=>ef .neq 3 a4 a7)=some (.bool ((of.length:Int) != (u.ee.length:Int))):=by
  simp only[eQ,fH,ay,a1,H3.len (ii+2) J,u3.v.len,yI,iM,Ug,Bool.false_or]
 have E2:∀b,mh (.bool b) (oB (fI 1 (.ptr s 0)) λa8=>oB (en a8 x) λa9=>ef .lss 3 a9 (V.I 0))=some (.bool (b ||decide (fw<0))):=λb=>by
  simp only[eQ,fH,an,jo,iM]
 have E3:∀b,mh (.bool b) (oB (fI 1 (.ptr s 0)) λbb=>oB (en bb x) λbc=>ef .gtr 3 bc (V.I 399))=some (.bool (b ||decide (399<fw))):=λb=>by
  simp only[eQ,fH,an,my,iM]
 refine ec E1 (ec (E2 _) (ec (E3 _) (je ?_)));by_cases hc:of.length=u.ee.length/\0<=fw/\fw<=399;rotate_left
 ·refine gU ?_ (H F3 x false Y H3.tail.tail (by simp) λ_=> .inl λOut r=>hc ⟨r.len,r.s0,r.s1⟩);simp only[IY,Su,IM];omega
 obtain⟨c1,c2,c3⟩:=hc;refine gB (by simp only[IY,Su,IM];omega) ?_;refine oF ay (ec (H3.len (ii+2) J) ?_)
 refine Fg (λk x2 E ao az aA h'=>∃i:Nat,x2 = .ptr lu 0/\E = .ptr s 0/\ao=uO/\az = .I (of.length:Nat)/\aA = .I (i:Nat)/\i+k=of.length/\h' = x/\∀k∈of.take i,GD fw k) ?_ (k:=of.length)
  ⟨0,rfl,rfl,rfl,rfl,rfl,by omega,rfl,by simp⟩
 rintro k x2 E ao az aA h' ⟨i,rfl,rfl,bV,rfl,rfl,hk,rfl,Z⟩;subst ao;unfold zj;by_cases hi:i<of.length
 ·refine hV ?_;obtain⟨y,U⟩:∃y,of[i]? =some y:=⟨_,iH hi⟩
  obtain ⟨l4,o4,p1,p2⟩:=H3.wQ (ii+2) J U .i64;have bd:jt .i64 (16+fw)=16+fw:=iO (by simp only[Fb];omega);have E4:mh (.bool (decide (y<0))) (oB (some (V.I y)) λbe=>ef .geq 3 be (V.I 12))=some (.bool (decide (y<0) ||decide (12<=y))):=by
   simp only[eQ,nU,iM]
  have E5:jq (.bool (decide (y<0) ||decide (12<=y))) (oB (some (V.I y)) λbf=>oB (ef .lss 3 bf (V.I 16)) λbg=>oB (some bg) λbi=>mh bi (oB (some (V.I y)) λbj=>oB (fI 1 (.ptr s 0)) λbm=>oB (en bm h') λbo=>oB (ef .add 3 (V.I 16) bo) λbq=>ef .geq 3 bj bq)) =
    some (.bool ((decide (y<0) ||decide (12<=y))&&(decide (y<16) ||decide (16+fw<=y)))):=by
   simp only[eQ,jo,fH,an,Ba,bd,nU,iM,ir]
  refine ec p1 (ec p2 (ec (jo _ _ _ _) (ec E4 (ec E5 (je ?_)))));by_cases hp:GD fw y
  ·unfold GD at hp;refine gB (by simp only[IY,qU,IM];omega) ?_;refine gq ⟨k-1,by omega,i+1,rfl,rfl,rfl,rfl,rfl,by omega,rfl,λk' aB=>?_⟩;obtain⟨_,rfl⟩:=jw.1 U;rw[KM hi,AI,Ig]at aB;rcases aB with T|rfl
   ·exact Z k' T
   ·exact hp
  ·refine gU ?_ (H F3 h' false Y H3.tail.tail (by simp) λ_=> .inl λOut r=>hp (RQ r.pl U));unfold GD at hp;simp only[IY,qU,IM];omega
 refine jG ?_;obtain rfl:i=of.length:=by omega
 rw[Yn]at Z;refine ec (H3.CI 1 rfl rfl) ?_;refine OS g H3 u3 λF4 I lv iT fR ins outs s4 H4 bW br hA=>?_;obtain⟨H5,s5,ri⟩:=H4.mi 0 rfl;simp only[ot]at H5;obtain⟨H6,s6,ro⟩:=H5.mi 1 rfl;simp only[AT,ot]at H6;have H6:=H6.tail.tail;have ag:=(s4.trans s5).trans s6;generalize (λl=>(F4 l\/Loc iT l)\/Loc fR l)=F6 at*;have u6:=u3.since ag;have no:∀c i,¬PA u (iz outs) of c i->(∀Out,¬kT u Out of fw)\/∃In Out,lR u (gw u) In Out/\¬kT u Out of fw:=λc i hn=> .inr ⟨_,_,hA,λr=>hn (r.pa c i)⟩;refine oF (H6.ld 2 rfl rfl) (ec u6.b.len ?_)
 refine FE (λk E W d n o h'=>∃(F':Nat->Prop) (b:Nat),E = .ptr s 0/\W = .ptr lv 0/\d=vb/\n = .I u.blocks.length/\o = .I b/\b+k=u.blocks.length/\Sn F6 I F' h'/\
  er F' h' (ey lv kU [.I u.func,.I u.pc,vv,vb,vs,iT,fR]::ey s 32 [uO,.I fw]::ey lu 29 (uC u vv vb vs)::cs)/\∀c i,c<b->PA u (iz outs) of c i) ?_ (k:=u.blocks.length)
  ⟨F6,0,rfl,rfl,rfl,rfl,rfl,by omega,Sn.refl _ _,H6,λ_ _ h=>by omega⟩
 clear hk k;rintro k E W d n o h7 ⟨F7,b,rfl,rfl,aC,rfl,rfl,hk,s7,H7,aD⟩;subst d;unfold yW;have u7:=u6.since s7;by_cases hb:b<u.blocks.length;rotate_left
 ·refine jG (H F7 h7 true ((Y.trans ag).trans s7) H7.tail.tail.tail (λ_=>⟨_,_,hA,c1,c2,c3,Z,λc i=>?_⟩) (by simp));by_cases hc:c<b
  ·exact aD c i hc
  ·exact⟨λv ⟨B,P,_⟩=>absurd (jw.1 P).1 (by omega),λv ⟨B,P,_⟩=>absurd (jw.1 P).1 (by omega)⟩
 refine hV ?_;obtain⟨B,P⟩:∃B,u.blocks[b]? =some B:=⟨_,iH hb⟩
 have bX:=mP g P;have aE:ik u b=B.ee:=by unfold ik;rw[P]
 obtain⟨l8,o8,bv,bn,bp,_,i1,i2,iv,iN,ip,ba⟩:=u7.wh P;refine ec i1 (ec i2 ?_);refine jy H7 rfl rfl (by simp only[lC,fc,iv.one,iN.one,ip.one];rfl) λh8 H8 s8=>?_;generalize h7.next=bx at*;rw[fJ];obtain⟨H9,s9⟩:=H8.VO;generalize h8.new (.map [] 0)=h9 at*;generalize h8.next=mx at*;have aq:=s8.trans s9;have C9:Lk F7 h9 _ lv u vv vb vs iT fR:=⟨H9,⟨2,rfl⟩,u7.since aq⟩
 refine JU g C9 (ro.since (s7.trans aq)) br P λf aa vo rs bt bu ah bY bw=>?_;refine ec ah.len ?_;have aF:=aq.trans bt
 refine FX (λk E W x9 K d n o C L M h'=>∃(S:Int->Prop) (i:Nat),E = .ptr s 0/\W = .ptr lv 0/\x9 = .ptr bx 0/\K = .map mx/\d=vb/\n = .I u.blocks.length/\o = .I b/\C=vo/\L = .I rs.length/\M = .I i/\i+k=B.ee.length/\Sn f aa f h'/\
  er f h' (oH mx S::ey bx 44 (lC B bv bn bp)::ey lv kU [.I u.func,.I u.pc,vv,vb,vs,iT,fR]::ey s 32 [uO,.I fw]::ey lu 29 (uC u vv vb vs)::cs)/\
  (∀k,S k↔∃j w,j<i/\At u w b j/\gi u w=true/\of[w]? =some k)/\∀j,j<i->PA u (iz outs) of b j) ?_ (k:=B.ee.length)
  ⟨λ_=>False,0,rfl,rfl,rfl,rfl,rfl,rfl,rfl,rfl,rfl,rfl,by omega,Sn.refl _ _,bu,λk=>⟨λh=>h.elim,λ⟨j,_,h,_⟩=>by omega⟩,λ_ h=>by omega⟩
 rintro k2 E W x9 K d n o C L M t ⟨S,i,rfl,rfl,rfl,rfl,aC,rfl,rfl,bz,rfl,rfl,bZ,ab,D,hS,aG⟩;subst d C;unfold yJ;have ai:=aF.trans ab;by_cases hi:i<B.ee.length;rotate_left
 ·refine jG ?_;refine gq ⟨k-1,by omega,f,b+1,rfl,rfl,rfl,rfl,rfl,by omega,s7.trans ai,D.tail.tail,λc j hc=>?_⟩;by_cases hcb:c<b
  ·exact aD c j hcb
  obtain rfl:c=b:=by omega
  by_cases hj:j<i
  ·exact aG j hj
  ·have:∀v,¬At u v c j:=λv ⟨B',m,X⟩=>by
    rw[P]at m;cases m;have:=(jw.1 X).1;omega
   exact⟨λv X=>absurd X (this v),λv X=>absurd X (this v)⟩
 refine hV ?_;obtain⟨row,R⟩:∃r,rs[i]? =some r:=⟨_,iH (by omega)⟩
 obtain⟨ar,ac⟩:=bw i row R;obtain⟨v,X⟩:∃v,B.ee[i]? =some v:=⟨_,iH hi⟩
 have aj:At u v b i:=⟨B,P,X⟩
 have aH:=g.vR _ _ _ aj;obtain⟨y,U⟩:∃y,of[v]? =some y:=⟨_,iH (by omega)⟩
 obtain⟨lr,N,wr,_,r1,r2,r3⟩:=(ah.since ab).list R .i64;obtain⟨lq,oq,_,q1,q2⟩:=(iv.since ai).nat X .i64;obtain⟨lo,oo,y1,y2⟩:=D.wQ (ii+5) J U .i64;have aI:Lk f t _ lv u vv vb vs iT fR:=⟨D,⟨2,rfl⟩,u7.since ai⟩
 have ak:en (.ptr s (0+0)) t=some uO:=D.ld 3 rfl rfl;refine ec r1 (ec r2 (oF (D.ld 1 rfl rfl) (ec q1 (ec q2 ?_))));refine Aa aI aH ?_;obtain⟨au,bA,aJ⟩:=D.look 0 rfl y;have E6:jq (.bool (gi u v)) (oB (some (V.map mx)) λbC=>oB (fI 0 (.ptr s 0)) λbD=>oB (en bD t) λbE=>oB (some (V.I v)) λbG=>oB (gy 1 bE bG) λbH=>oB (en bH t) λbI=>CK 3 none (V.bool false) false bC bI t)=some (.bool (gi u v&&au)):=by
  have aK:CK 3 none (.bool false) false (.map mx) (.I y) t=some (.bool au):=bA;simp only[eQ,fH,ak,y1,y2,aK,ir]
 refine ec E6 (je ?_);by_cases hbad:(gi u v&&au)=true
 ·rw[qU]at hbad;refine gU (by simp[hbad]) (H f t false ((Y.trans ag).trans (s7.trans ai)) D.tail.tail.tail.tail.tail (by simp) λ_=>no b i λp=>?_);obtain⟨j,w,T,A,x,I⟩:=(hS y).1 (aJ.1 hbad.2);exact p.hd v aj hbad.1 j w T A x (I.trans U.symm)
 refine gB hbad ?_;have bJ:gi u v=true->∀j w,j<i->At u w b j->gi u w=true->of[w]?≠of[v]?:=λhq j w T A x I=>hbad (by
  rw[qU];exact⟨hq,aJ.2 ((hS y).2 ⟨j,w,T,A,x,I.trans U⟩)⟩)
 have fin:∀(q:Hp) (S':Int->Prop),Sn f aa f q->er f q (oH mx S'::ey bx 44 (lC B bv bn bp)::ey lv kU [.I u.func,.I u.pc,vv,vb,vs,iT,fR]::ey s 32 [uO,.I fw]::ey lu 29 (uC u vv vb vs)::cs)->
   (∀k,S' k↔∃j w,j<i+1/\At u w b j/\gi u w=true/\of[w]? =some k)->
   nd CS Q (λE W d n o h'=>∃k',k' < k/\∃(F':Nat->Prop) (b:Nat),E = .ptr s 0/\W = .ptr lv 0/\d=vb/\n = .I u.blocks.length/\o = .I b/\b+k' = u.blocks.length/\Sn F6 I F' h'/\
    er F' h' (ey lv kU [.I u.func,.I u.pc,vv,vb,vs,iT,fR]::ey s 32 [uO,.I fw]::ey lu 29 (uC u vv vb vs)::cs)/\∀c i,c<b->PA u (iz outs) of c i)
    (λE W x9 K d n o C L M h'=>∃k',k' < k2/\∃(S:Int->Prop) (i:Nat),E = .ptr s 0/\W = .ptr lv 0/\x9 = .ptr bx 0/\K = .map mx/\d=vb/\n = .I u.blocks.length/\o = .I b/\C=vo/\L = .I rs.length/\M = .I i/\i+k' = B.ee.length/\Sn f aa f h'/\
     er f h' (oH mx S::ey bx 44 (lC B bv bn bp)::ey lv kU [.I u.func,.I u.pc,vv,vb,vs,iT,fR]::ey s 32 [uO,.I fw]::ey lu 29 (uC u vv vb vs)::cs)/\
     (∀k,S k↔∃j w,j<i/\At u w b j/\gi u w=true/\of[w]? =some k)/\∀j,j<i->PA u (iz outs) of b j)
    (.ptr s 0) (.ptr lv 0) (.ptr bx 0) (.map mx) wr (.I v) vb (.I u.blocks.length) (.I b) vo (.I rs.length) (.I i) q:=by
  intro q S' O G bK;refine Ek ?_;unfold xD;have bL:=(ah.since O).list R .i64;obtain⟨b1,b2,b3,_,b4,b5,b6⟩:=bL;have aL:iL eB f q row wr:=by
   have e1:=(ah.since O).list R .i64;obtain⟨a,b',c,d1,d2,d3,d4⟩:=e1;have hp:gy 1 vo (.I i)=some (.ptr lr N):=r1;rw[hp]at d2;cases d2;have:en (.ptr lr N) q=en (.ptr lr N) t:=by
    rw[show en (.ptr lr N) q=en (.ptr lr N) aa from ?_,show en (.ptr lr N) t=en (.ptr lr N) aa from ?_]
    ·unfold en UA jN;simp only[qM,ab.eD _ d1]
    ·unfold en UA jN;simp only[qM,O.eD _ d1]
   rw[d3,r2]at this;cases this;exact d4
  refine ec aL.len ?_;rw[ar];have aw:en (.ptr s (0+0)) q=some uO:=G.ld 3 rfl rfl;obtain⟨b7,b8,bQ,bR⟩:=G.wQ (ii+5) J U .i64
  refine FQ (λk E W x9 K aM d n o C L M ae al am h'=>∃w:Nat,E = .ptr s 0/\W = .ptr lv 0/\x9 = .ptr bx 0/\K = .map mx/\aM = .I v/\d=vb/\n = .I u.blocks.length/\o = .I b/\C=vo/\L = .I rs.length/\M = .I i/\ae=wr/\al = .I u.ee.length/\am = .I (w:Nat)/\w+k=u.ee.length/\h' = q/\
   ∀w',w' < w->On row w'->w'≠v->of[w']?≠of[v]?) ?_ (k:=u.ee.length)
   ⟨0,rfl,rfl,rfl,rfl,rfl,rfl,rfl,rfl,rfl,rfl,rfl,rfl,rfl,rfl,by omega,rfl,λ_ h=>by omega⟩
  rintro k3 E W x9 K aM d n o C L M ae al am h' ⟨w,rfl,rfl,rfl,rfl,rfl,aC,rfl,rfl,bz,rfl,rfl,bU,rfl,rfl,b9,rfl,hw⟩;subst d C ae;unfold zh;by_cases hwl:w<u.ee.length;rotate_left
  ·refine jG ?_;refine gq ⟨k2-1,by omega,S',i+1,rfl,rfl,rfl,rfl,rfl,rfl,rfl,rfl,rfl,rfl,by omega,O,G,bK,λj hj=>?_⟩;by_cases hji:j<i
   ·exact aG j hji
   obtain rfl:j=i:=by omega
   refine⟨λv' e=>?_,λv' e w' ca aN=>?_⟩
   ·obtain⟨B',m,e⟩:=e;rw[P]at m;cases m;rw[X]at e;cases e;exact bJ
   ·obtain⟨B',m,e⟩:=e;rw[P]at m;cases m;rw[X]at e;cases e;rw[aE]at aN;exact hw w' (by omega) ((ac w').2 aN)
  refine hV ?_;obtain⟨z,hz⟩:∃z,row[w]? =some z:=⟨_,iH (by omega)⟩
  obtain⟨yw,ax⟩:∃y,of[w]? =some y:=⟨_,iH (by omega)⟩
  obtain ⟨lz,oz,_,z1,z2⟩:=aL.bool hz .i64;obtain⟨lw,ow,w1,w2⟩:=G.wQ (ii+5) J ax .i64;have E7:jq (.bool z) (oB (some (V.I w)) λaO=>oB (some (V.I v)) λaP=>ef .neq 3 aO aP)=some (.bool (z&&((w:Int) != (v:Int)))):=by
   simp only[eQ,yI,ir]
  have E8:jq (.bool (z&&((w:Int) != (v:Int)))) (oB (fI 0 (.ptr s 0)) λaQ=>oB (en aQ h') λaR=>oB (some (V.I w)) λaS=>oB (gy 1 aR aS) λaT=>oB (en aT h') λaU=>oB (fI 0 (.ptr s 0)) λaV=>oB (en aV h') λaW=>oB (some (V.I v)) λaX=>oB (gy 1 aW aX) λaY=>oB (en aY h') λaZ=>ef .eql 3 aU aZ)=some (.bool ((z&&((w:Int) != (v:Int)))&&(yw == y))):=by
   simp only[eQ,fH,aw,w1,w2,bQ,bR,ig,ir]
  refine ec z1 (ec z2 (ec E7 (ec E8 (je ?_))));by_cases hx:(z&&((w:Int) != (v:Int))&&(yw == y))=true
  ·refine gU hx (H f h' false ((Y.trans ag).trans ((s7.trans aF).trans O)) G.tail.tail.tail.tail.tail (by simp) λ_=>no b i λp=>?_);simp only[qU,Su,Jg]at hx;obtain⟨⟨x1,x2⟩,E⟩:=hx;refine p.ap v aj w hwl (by rw[aE];exact(ac w).1 (by unfold On;rw[hz,x1])) (by omega) ?_;rw[ax,U,E]
  ·refine gB hx ?_;refine gq ⟨k3-1,by omega,w+1,rfl,rfl,rfl,rfl,rfl,rfl,rfl,rfl,rfl,rfl,rfl,rfl,rfl,rfl,by omega,rfl,λw' T A x I=>?_⟩;by_cases hww:w' < w
   ·exact hw w' hww A x I
   obtain rfl:w' = w:=by omega
   apply hx;have e1:z=true:=by
    unfold On at A;rw[hz]at A;exact Option.some.inj A
   have e2:yw=y:=by rw[ax,U]at I;exact Option.some.inj I
   have e3:((w':Int) != (v:Int))=true:=by rw[Su];omega
   rw[e1,e2,e3,beq_self_eq_true];rfl
 refine Aa aI aH ?_
 cases hq:gi u v with
 | true=>
   refine je (gU rfl ?_);obtain⟨q,bS,cb,G,O⟩:=D.gX 0 rfl y;have a0:yQ 3 none (.map mx) (.I y) (.bool true) t=some (.val .undef q):=bS;refine oF ak (ec y1 (ec y2 ?_));rw[a0,ej];simp only[ot]at G;refine fin q _ (ab.trans O) G λk'=>?_;rw[hS k'];constructor
   ·rintro(⟨j,w,T,A⟩|rfl)
    ·exact⟨j,w,by omega,A⟩
    ·exact⟨i,v,by omega,aj,hq,U⟩
   ·rintro ⟨j,w,T,A,x,I⟩
    by_cases hj:j<i
    ·exact .inl ⟨j,w,hj,A,x,I⟩
    ·obtain rfl:j=i:=by omega
     obtain⟨B',m,e⟩:=A;rw[P]at m;cases m;rw[X]at e;cases e;rw[U]at I
     exact .inr (Option.some.inj I).symm
 | false=>
   refine je (gB (by simp) ?_);refine fin t _ ab D λk'=>?_;rw[hS k'];constructor
   ·rintro⟨j,w,T,A⟩
    exact⟨j,w,by omega,A⟩
   ·rintro ⟨j,w,T,A,x,I⟩
    by_cases hj:j<i
    ·exact⟨j,w,hj,A,x,I⟩
    ·obtain rfl:j=i:=by omega
     obtain⟨B',m,e⟩:=A;rw[P]at m;cases m;rw[X]at e;cases e;rw[hq]at x;cases x
end
open Un Dm
section
variable{u:U}{P:Nat->Prop}{w:Nat}
theorem KR{v:Nat}{r:List Nat}(h:bh u r P w)(a:w≠v):bh u (v::r) P w:=by
 unfold bh;split
 ·exact h
 ·exact .inl ⟨h,a⟩
theorem IF:∀{l d:List Nat},(∀x∈l,gi u x=true)->(bh u (l++d) P w↔bh u d P w)
 |[],_,_=>Iff.rfl
 | v::l,d,h=>by
   show(if gi u v=true then _ else _)↔_;rw[if_pos (h v (by simp))];exact IF λx a=>h x (by simp[a])
theorem Uw:∀{n:Nat}{l d:List Nat},l.length=n->l.reverse.Pairwise (λa b=>gi u a=true->gi u b=true)->(bk u l.reverse (bh u d P) w↔bh u (l++d) P w)
 | 0,l,d,hl,_=>by
   obtain rfl:=Wm hl
   exact Iff.rfl
 | n + 1,l,d,hl,hp=>by
   rcases gY l with rfl|⟨s,v,rfl⟩
   ·simp at hl
   ·rw[List.reverse_append]at hp⊢
    simp only[List.reverse_cons,List.reverse_nil,LR,W3]at hp⊢;rw[List.pairwise_cons]at hp
    cases hq:gi u v with
    | true=>
      have e1:bk u (v::s.reverse) (bh u d P) w=bh u d P w:=by
        unfold bk;rw[if_pos hq]
      rw[e1];refine(IF λx c=>?_).symm;rcases AI.1 c with h|h
      ·exact hp.1 x (Qw.2 h) hq
      ·rw[Ig.1 h];exact hq
    | false=>
      have e1:bk u (v::s.reverse) (bh u d P) w=bk u s.reverse (bh u (v::d) P) w:=by
        conv=>lhs;unfold bk
        rw[if_neg (by rw[hq];simp)];congr 1;funext x
        conv=>rhs;unfold bh
        rw[if_neg (by rw[hq];simp)]
      rw[e1,Uw (n:=n) (l:=s) (by simpa using hl) hp.2,MQ];rfl
end
section
variable{u:U}(g:Good u){In Out:Nat->Nat->Prop}(h:lR u (gw u) In Out){of:List Int}(pa:∀c i,PA u Out of c i){w1 w2:Nat}(pe:w1≠w2)(heq:of[w1]? =of[w2]?)
include pa pe heq
include g h
omit pe heq pa in
theorem Yj {b w:Nat}(hb:b<u.blocks.length):In b w↔bh u (ik u b) (Out b) w:=by
 rw[h.I8 b w hb];have:=Uw (u:=u) (P:=Out b) (w:=w) (l:=ik u b) (d:=[]) rfl (g.pw b);rw[IN]at this;exact this
end
