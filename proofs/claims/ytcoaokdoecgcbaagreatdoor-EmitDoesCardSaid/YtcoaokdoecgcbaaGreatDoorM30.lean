/- Parts. -/
import Derived.Test.YtcoaokdoecgcbaaGreatDoorM29
set_option maxHeartbeats 4000000
namespace Go.Proofs.YtcoaokdoecgcbaaGreatDoor.Hx
open Un Dm
def wH(l:Nat)(S:Int->Prop):Pc where
 pS:=λm=>m=l
 ok F h:=(∃es c,h.get l=some (.map es c)/\(∀e∈es,∃k,e.1 = .I k/\e.2.1 = .bool true/\S k)/\∀k,S k->∃e∈es,e.1 = .I k)/\l<h.next/\¬F l
 FK:=λh _ e=>by subst e;exact h.2
 fy:=λ⟨⟨es,c,b,d⟩,a⟩ _ hl f=>⟨⟨es,c,(hl l rfl).trans b,d⟩,NY a.1 f,a.2⟩
 mono:=λh _ hl=>⟨h.1,h.2.1,hl l rfl⟩
theorem NI(k:Int):∀es i,(∀e∈es,∃k,e.1 = .I k/\e.2.1 = .bool true)->
  (oU fN none (.I k) es i=some none/\∀e∈es,e.1≠ .I k)\/∃j e,oU fN none (.I k) es i=some (some (i+j,.bool true))/\es[j]? =some e/\e.1 = .I k
 |[],i,_=> .inl ⟨rfl,λ_ h=>by cases h⟩
 | e ::es,i,h=>by
   let⟨k',c,g⟩:=h e (Wh ..)
   have a:oU fN none (.I k) (e::es) i=if k=k' then some (some (i,e.2.1)) else oU fN none (.I k) es (i+1):=by
     show oB (L0 fN none (.I k) e.1) _=_;rw[c,show L0 fN none (V.I k) (V.I k')=some (k == k') from Qg _ _];by_cases hk:k=k'
     ·rw[if_pos hk,Ey.2 hk];rfl
     ·rw[if_neg hk,Ym.2 hk];rfl
   by_cases hk:k=k'
   ·subst hk
    rw[if_pos rfl,g]at a;exact .inr ⟨0,e,a,rfl,c⟩
   ·rw[if_neg hk]at a
    rcases NI k es (i+1) λe b=>h e (wBA _ b)with⟨d,f⟩|⟨j,e',d,f,l⟩
    ·refine .inl ⟨a.trans d,λe' b=>?_⟩
     rcases Aw.1 b with rfl|b
     ·rw[c];intro m;cases m;exact hk rfl
     ·exact f e' b
    ·exact .inr ⟨j+1,e',by rw[a,d];congr 3;omega,f,l⟩
section
variable{F F':Nat->Prop}{h h':Hp}{cs:List Pc}{Q:fj}{l:Nat}{S:Int->Prop}
theorem ej.look(H:ej F h cs)(i:Nat)(hi:cs[i]? =some (wH l S))(k:Int):∃b,rH fN none (.bool false) false (.map l) (.I k) h=some (.bool b)/\(b=true↔S k):=by
 let⟨⟨es,c,n,m,o⟩,_⟩:=H.ok i _ hi
 have e1:∀r,oU fN none (.I k) es 0=some r->rH fN none (.bool false) false (.map l) (.I k) h=some (found (.bool false) false r):=λr p=>by
  unfold rH zU;simp[n,eQ];rw[p];rfl
 rcases NI k es 0 λe d=>let⟨k,a,b,_⟩:=m e d;⟨k,a,b⟩ with⟨f,g⟩|⟨j,e,f,g,q⟩
 ·refine⟨false,e1 _ f,by simp,λhs=>?_⟩
  let⟨e,d,hk⟩:=o k hs
  exact absurd hk (g e d)
 ·refine⟨true,e1 _ f,λ_=>?_,λ_=>rfl⟩
  let⟨k',a,_,b⟩:=m e (yN g)
  rw[q]at a;cases a;exact b
theorem ej.il(H:ej F h cs)(i:Nat)(hi:cs[i]? =some (wH l S))(k:Int):∃h',xN fN none (.map l) (.I k) (.bool true) h=some (.val .undef h')/\h.next<=h'.next/\ej F h' (cs.set i (wH l λx=>S x\/x=k))/\Sn F h F h':=by
 let⟨⟨es,c,v,m,t⟩,o,w⟩:=H.ok i _ hi
 have fin:∀jL c',BG fN none es c (.I k) (.bool true)=some (.map jL c')->(∀e∈jL,∃k',e.1 = .I k'/\e.2.1 = .bool true/\(S k'\/k' = k))->(∀k',S k'\/k' = k->∃e∈jL,e.1 = .I k')->
   ∃h',xN fN none (.map l) (.I k) (.bool true) h=some (.val .undef h')/\h.next<=h'.next/\ej F h' (cs.set i (wH l λx=>S x\/x=k))/\Sn F h F h':=by
  intro jL c' y z A;refine⟨h.put l (.map jL c'),?_,jJ _,H.z8 hi (uE.put _ rfl o) ⟨⟨jL,c',iB _ o,z,A⟩,o,w⟩ λ_ h=> .inl h⟩;unfold xN zU;simp[v,eQ,y];rfl
 rcases NI k es 0 λe f=>let⟨k,a,b,_⟩:=m e f;⟨k,a,b⟩ with⟨p,q⟩|⟨j,e,p,q,r⟩
 ·refine fin (es++[(.I k,.bool true,c)]) (c+1) (by unfold BG;rw[p];rfl) (λe f=>?_) λk' g=>?_
  ·rcases yX.1 f with h|h
   ·let⟨k',a,b,d⟩:=m e h
    exact⟨k',a,b,.inl d⟩
   ·obtain rfl:=Hh.1 h;exact⟨k,rfl,rfl,.inr rfl⟩
  ·rcases g with g|rfl
   ·let⟨e,f,g⟩:=t k' g
    exact⟨e,Zu _ f,g⟩
   ·exact⟨_,wBL _ (Hh.2 rfl),rfl⟩
 ·obtain ⟨B,rfl⟩:=ke.1 q;refine fin (es.set j (.I k,.bool true,es[j].2.2)) c ?_ (λe f=>?_) λk' g=>?_
  ·unfold BG;rw[p];simp[ Jn,q,r,V.Et];rfl
  ·rcases wBG f with h|rfl
   ·let⟨k',a,b,d⟩:=m e h
    exact⟨k',a,b,.inl d⟩
   ·exact⟨k,rfl,rfl,.inr rfl⟩
  ·have C:S k:=by
    let⟨k',a,_,d⟩:=m _ (AL B)
    rw[r]at a;cases a;exact d
   have s:=g.elim id λe=>e▸C
   let⟨e,f,hke⟩:=t k' s
   obtain⟨n,u,rfl⟩:=wBp.1 f;by_cases hnj:n=j
   ·subst hnj;rw[r]at hke;exact⟨_,yN (Tt u),hke⟩
   ·exact⟨es[n],yN (by rw[VL λe=>hnj e.symm];exact hZ u),hke⟩
theorem ej.zfB(H:ej F h cs):ej F (h.new (.map [] 0)) (wH h.next (λ_=>False)::cs)/\Sn F h F (h.new (.map [] 0)):=
 H.new _ ⟨⟨[],0,fh _ _,And.intro (λe a=>nomatch a) (λk b=>False.elim b)⟩,TU _,H.fresh⟩ λ_ e=>e
def bh(u:U):List Nat->(Nat->Prop)->Nat->Prop
 |[],P=>P
 |v::r,P=>λw=>if gJ u v=true then bh u r P w else(bh u r P w/\w≠v)\/w∈BP u v
variable{u:U}{vv vb vs:V}{lv:Nat}{tu jI:V}{outs:List (List Bool)}
theorem RN(g:Good u)(C:Lk F h cs lv u vv vb vs tu jI)(ro:hD (eL eB) F h outs jI)(G:Shp u outs){b:Nat}{B:Bk}(N:u.blocks[b]? =some B)
  (H:∀F' h' e rs,Sn F h F' h'->ej F' h' cs->hD (eL eB) F' h' rs e->rs.length=B.ee.length->(∀i row,rs[i]? =some row->row.length=u.ee.length/\∀w,On row w↔bh u (B.ee.drop (i+1)) (nD outs b) w)->Q e h') :
  cP CS nV [.ptr lv 0,.I b] h Q:=by
 refine HE ?_;have nv:=g.nv;have S:=(ke.1 N).1;have T:=tB g N
 let⟨l1,o1,bv,bn,bp,_,i1,i2,iv,_,_,ba⟩:=C.u.B8 N
 refine ec (eC _ _) (ec (by rfl) (ec (by rfl) (ec (C.ld 3 rfl) (ec i1 (ec (by rfl) (ec ba.ee (ec iv.len ?_)))))));rw[pG rfl (by decide) (by omega),fK]
 let⟨U,s1⟩:=C.H.make (E:=eL eB) (ty:=im) B.ee.length ⟨.ed,rfl,.nil⟩ rfl
 have U:=U;have s1:=s1;generalize h.new (.cells 130 1 true false (List.replicate B.ee.length V.ed))=q at*;generalize V.slice h.next 0 B.ee.length=e at*;rw[za,fK]
 let⟨O,P⟩:=U.Ra (E:=eB) (xs:=[]) (ws:=[]) hV rfl trivial rfl
 have O:ej F (q.new (.cells 4 1 true false [])) (ft eB hV [] (.slice q.next 0 0)::ft (eL eB) im (List.replicate B.ee.length []) e::cs):=O;have P:Sn F q F (q.new (.cells 4 1 true false [])):=P;generalize q.new (.cells 4 1 true false [])=h2 at*;obtain⟨m,t⟩:∃r,outs[b]? =some r:=⟨_,hZ (by rw[G.len];exact S)⟩
 have I:=G.row m (yN t)
 let⟨lo,oo,wo,_,q1,q2,q3⟩:=(ro.since (s1.trans P)).list t .i64
 let⟨ic,hc⟩:=C.c
 refine ec (eC _ _) (ec (by rfl) (ec (O.ld (ic+2) hc rfl) (ec q1 (ec q2 ?_))))
 let⟨D,h3,e3,n3,H3,s3⟩:=O.WI 0 rfl (iU:=1) q3 (by decide) (by decide) (by simp;omega)
 have W:fg 4 1 1 (.slice q.next 0 0) wo h2=some (.val D h3):=e3;rw[W,eh];simp[ RL]at H3;have a:∀n,n<=3000->jo .i64 (((n:Nat):Int)-1)=(n:Int)-1:=by grind[gG,ml]
 refine ec iv.len (ec (by rfl) ?_);rw[a _ T];have X:=(s1.trans P).trans s3
 refine DW (λk x0 Y Z x7 x8 h'=>∃F' l d cur rs,x0 = .ptr lv 0/\Y=bv/\Z=e/\x7=D/\x8 = .I ((l.length:Int)-1)/\k=l.length/\B.ee=l++d/\Sn F h F' h'/\cur.length=u.ee.length/\
  ej F' h' (ft eB hV cur D::ft (eL eB) im rs e::cs)/\(∀w,On cur w↔bh u d (nD outs b) w)/\rs.length=B.ee.length/\
  ∀i row,l.length<=i->rs[i]? =some row->row.length=u.ee.length/\∀w,On row w↔bh u (B.ee.drop (i+1)) (nD outs b) w) ?_
  ⟨F,B.ee,[],m,List.replicate B.ee.length [],rfl,rfl,rfl,rfl,rfl,rfl,by simp,X,I,H3,λw=>(Mr t w).symm,by simp,by simp_all⟩
 rintro k x0 Y Z x7 x8 x ⟨R,l,d,cur,rs,rfl,e5,e6,e7,rfl,hk,y,s6,J,H6,ak,aa,al⟩;subst Y Z x7;unfold pE;have NP:l.length<=B.ee.length:=by rw[y,qu];omega
 refine MG ?_;rcases jh l with rfl|⟨s,v,rfl⟩
 ·refine fH (by simp) ?_
  let⟨z,A,r7⟩:=H6.tail.hY 0 rfl
  exact H _ x e rs (s6.trans A) z.tail r7 aa (by grind)
 have pO:((s++[v]).length:Int)-1=(s.length:Nat):=by simp
 rw[pO];refine io ?_;have o:B.ee[s.length]? =some v:=by rw[y];simp
 have ab:At u v b s.length:=⟨B,N,o⟩
 have K:=g.uP v b _ ab;have ac:B.ee.drop (s.length+1)=d:=by
  rw[y,List.drop_left' (by simp)]
 rw[za,fK]
 let⟨z,A⟩:=H6.Ra (E:=eB) (xs:=[]) (ws:=[]) hV rfl trivial rfl
 have z:ej R (x.new (.cells 4 1 true false [])) (ft eB hV [] (.slice x.next 0 0)::ft eB hV cur D::ft (eL eB) im rs e::cs):=z;have A:Sn R x R (x.new (.cells 4 1 true false [])):=A;generalize x.new (.cells 4 1 true false [])=h7 at*
 let⟨v8,h8,e8,n8,H8,s8⟩:=z.zeP 0 1 rfl rfl (iU:=1) (by decide) (by decide) (by simp;omega)
 have ad:fg 4 1 1 (.slice x.next 0 0) D h7=some (.val v8 h8):=e8;rw[ad,eh];simp[ RL]at H8
 let⟨H9,s9,r9⟩:=H8.hY 0 rfl
 let⟨am,an,ae,ag,ah,ao,f,ai⟩:=H9.M7 2 rfl (show s.length<rs.length by omega) rfl r9.one ⟨v8,rfl,r9⟩
 refine ec ag ?_;rw[ah,eh];have f:=f.tail;have L:=((A.trans s8).trans s9).trans ai;generalize (λl=>R l\/Loc v8 l)=FA at*;have j:=s6.trans L
 let⟨lq,oq,_,p1,p2⟩:=(iv.since j).nat o .i64
 have CA:Lk FA ae (ft eB hV cur D::ft (eL eB) im (rs.set s.length cur) e::cs) lv u vv vb vs tu jI:=⟨f,⟨ic+2,hc⟩,C.u.since j⟩
 refine ec p1 (ec p2 (FO CA K (py ?_)));have p:∀i row,s.length<=i->(rs.set s.length cur)[i]? =some row->row.length=u.ee.length/\∀w,On row w↔bh u (B.ee.drop (i+1)) (nD outs b) w:=by
  intro i row q h2;by_cases hi:i=s.length
  ·simp_all
  ·grind
 cases hq:gJ u v with
 | true=>
   refine fO rfl ?_;refine uI ?_;unfold lH;refine ec (by rfl) ?_;rw[a s.length (by omega)];refine⟨s.length,by omega,FA,s,v::d,cur,rs.set s.length cur,rfl,rfl,rfl,rfl,rfl,rfl,by simp_all,j,J,f,λw=>?_,by simp_all,p⟩
   simp_all[bh,if_pos]
 | false=>
   refine fH (by simp) ?_;refine ec p1 (ec p2 ?_);refine Vq g CA J K λF7 h7 M A z aj aq=>?_;refine uI ?_;unfold lH;refine ec (by rfl) ?_;rw[a s.length (by omega)];refine⟨s.length,by omega,F7,s,v::d,M,rs.set s.length cur,rfl,rfl,rfl,rfl,rfl,rfl,by simp_all,j.trans A,by omega,z,λw=>?_,by simp_all,p⟩
   simp_all[bh,if_neg]
theorem Uu{u:U}:∀{r:List Nat} {P a:Nat->Prop},(∀w,P w->a w)->∀w,bh u r P w->bh u r a w
 |[],_,_,h,w,hw=>h w hw
 | v::r,P,a,h,w,hw=>by
   unfold bh at hw⊢;split at hw
   ·rename_i e;rw[if_pos e];exact Uu h w hw
   ·rename_i e;rw[if_neg e];exact hw.imp (λb=>⟨Uu h w b.1,b.2⟩) id
structure PA (u:U) (Out:Nat->Nat->Prop) (of:List Int) (c i:Nat):Prop where
 hd:∀v,At u v c i->gJ u v=true->∀j w,j<i->At u w c j->gJ u w=true->of[w]?≠of[v]?
 ap:∀v,At u v c i->∀w,w<u.ee.length->bh u ((iD u c).drop (i+1)) (Out c) w->w≠v->of[w]?≠of[v]?
def OT(fF k:Int):Prop:=(0<=k/\k<12)\/(16<=k/\k<16+fF)
structure kK (u:U) (Out:Nat->Nat->Prop) (of:List Int) (fF:Int):Prop where
 len:of.length=u.ee.length
 s0:0<=fF
 s1:fF<=399
 pl:∀k∈of,OT fF k
 pa:∀c i,PA u Out of c i
theorem PA.congr{u:U} {Out a:Nat->Nat->Prop}{of:List Int}{c i:Nat}(h:∀w,a c w->Out c w)(p:PA u Out of c i):PA u a of c i:=
 ⟨p.hd,λv hv w b d=>p.ap v hv w b (Uu h w d)⟩
theorem kK.congr{u:U} {In Out b a:Nat->Nat->Prop}{of:List Int}{fF:Int}(h:mn u (iu u) In Out) (h':mn u (iu u) b a)(r:kK u Out of fF):kK u a of fF:=
 ⟨r.len,r.s0,r.s1,r.pl,λc i=>by
  by_cases hc:c<u.blocks.length
  ·exact(r.pa c i).congr λw d=>(mn.uniq h h' (by simp_all) hc).2.2 d
  ·exact⟨(r.pa c i).hd,λv ⟨B,e,_⟩=>by simp_all⟩⟩
variable{of:List Int}{xW:V}{fF:Int}
theorem zfw{xs:List Int}(hl:∀k∈xs,OT fF k){i:Nat}{k:Int}(h:xs[i]? =some k):OT fF k:=by grind
theorem zcW(g:Good u)(H0:ej F h cs)(hu:EZ F h u vv vb vs){ii:Nat}(J:cs[ii]? =some (ft eZ fN of xW))(hl:of.length<1000000)
  (H:∀F' h' c,Sn F h F' h'->ej F' h' cs->(c=true->∃In Out,mn u (iu u) In Out/\kK u Out of fF)->(c=false->(∀Out,¬kK u Out of fF)\/∃In Out,mn u (iu u) In Out/\¬kK u Out of fF)->Q (.bool c) h') :
  cP CS Dk [.agg (uC u vv vb vs),.agg [xW,.I fF]] h Q:=by
 refine Rz ?_;have nb:=g.nb;refine oC H0 hu.one λT H1 s1=>?_;refine oC H1 (by simp[ H1.one (ii+1) J];rfl) λA H2 s2=>?_;have u2:=(hu.since s1).since s2;generalize h.next=lu at*;generalize T.next=s at*;refine ec (H2.tj 1 rfl rfl) ?_;refine QW g H2 u2 λF3 x s3 H3=>?_;have U:=(s1.trans s2).trans s3;have u3:=u2.since s3;have an:ez (.ptr s (0+0)) x=some xW:=H3.ld 0 rfl rfl;have aQ:ez (.ptr s (0+1)) x=some (.I fF):=H3.ld 0 rfl rfl;have aR:ez (.ptr lu (0+2)) x=some vv:=H3.ld 1 rfl rfl;refine T8 ?_;have E1:mi (.bool (!true)) (oB (fJ 0 (.ptr s 0)) λaS=>oB (ez aS x) λaT=>oB (fE aT) λaU=>oB (fJ 2 (.ptr lu 0)) λaV=>oB (ez aV x) λaW=>oB (fE aW) λaX=>ef .neq 3 aU aX)=some (.bool ((of.length:Int) != (u.ee.length:Int))):=by
  simp[ fo,an,aR,H3.len (ii+2) J,u3.v.len]
 have E2:∀b,mi (.bool b) (oB (fJ 1 (.ptr s 0)) λaY=>oB (ez aY x) λaZ=>ef .lss 3 aZ (V.I 0))=some (.bool (b ||decide (fF<0))):=by simp_all
 have E3:∀b,mi (.bool b) (oB (fJ 1 (.ptr s 0)) λa0=>oB (ez a0 x) λa1=>ef .gtr 3 a1 (V.I 399))=some (.bool (b ||decide (399<fF))):=by simp_all
 refine ec E1 (ec (E2 _) (ec (E3 _) (fX ?_)));by_cases hc:of.length=u.ee.length/\0<=fF/\fF<=399;rotate_left
 ·refine fO ?_ (H F3 x false U H3.tail.tail (by simp) λ_=> .inl λOut r=>hc ⟨r.len,r.s0,r.s1⟩)
  grind
 let⟨c1,c2,c3⟩:=hc
 refine fH (by simp_all) ?_;refine ec (by rfl) (ec an (ec (H3.len (ii+2) J) ?_))
 refine N0 (λk x2 E aj ao aq h'=>∃i,x2 = .ptr lu 0/\E = .ptr s 0/\aj=xW/\ao = .I (of.length:Nat)/\aq = .I (i:Nat)/\i+k=of.length/\h' = x/\∀k∈of.take i,OT fF k) ?_ (k:=of.length)
  (by grind)
 rintro k x2 E aj ao aq h' ⟨i,rfl,rfl,bH,rfl,rfl,hk,rfl,ae⟩;subst aj;unfold yj;by_cases hi:i<of.length
 ·refine gy ?_;obtain⟨y,P⟩:∃y,of[i]? =some y:=by simp_all
  let⟨l4,o4,p1,p2⟩:=H3.BY (ii+2) J P .i64
  have a2:jo .i64 (16+fF)=16+fF:=by grind[gG,ml]
  have E4:mi (.bool (decide (y<0))) (oB (some (V.I y)) λa3=>ef .geq 3 a3 (V.I 12))=some (.bool (decide (y<0) ||decide (12<=y))):=by
   simp[ jK]
  have E5:iM (.bool (decide (y<0) ||decide (12<=y))) (oB (some (V.I y)) λa4=>oB (ef .lss 3 a4 (V.I 16)) λa5=>oB (some a5) λa6=>mi a6 (oB (some (V.I y)) λa7=>oB (fJ 1 (.ptr s 0)) λa8=>oB (ez a8 h') λa9=>oB (ef .add 3 (V.I 16) a9) λbb=>ef .geq 3 a7 bb)) =
    some (.bool ((decide (y<0) ||decide (12<=y))&&(decide (y<16) ||decide (16+fF<=y)))):=by
   simp[ iF,aQ,a2]
  refine ec p1 (ec p2 (ec (by rfl) (ec E4 (ec E5 (fX ?_)))));by_cases hp:OT fF y
  ·unfold OT at hp;refine fH (by grind) ?_;refine fG ⟨k-1,by omega,i+1,rfl,rfl,rfl,rfl,rfl,by omega,rfl,λk' ar=>?_⟩;obtain⟨_,rfl⟩:=ke.1 P;rw[Ho hi,yX,Hh]at ar;rcases ar with T|rfl
   ·simp_all
   ·exact hp
  ·refine fO ?_ (H F3 h' false U H3.tail.tail (by simp) λ_=> .inl λOut r=>hp (zfw r.pl P));unfold OT at hp
   grind
 refine iA ?_;obtain rfl:i=of.length:=by omega
 rw[PG]at ae;refine ec (H3.tj 1 rfl rfl) ?_;refine Za g H3 u3 λF4 I lv tu jI ins outs s4 H4 bI bc hA=>?_
 let⟨H5,s5,ri⟩:=H4.hY 0 rfl
 simp[DR]at H5
 let⟨H6,s6,ro⟩:=H5.hY 1 rfl
 simp[ DR]at H6;have H6:=H6.tail.tail;have aa:=(s4.trans s5).trans s6;generalize (λl=>(F4 l\/Loc tu l)\/Loc jI l)=F6 at*;have u6:=u3.since aa;have no:∀c i,¬PA u (nD outs) of c i->(∀Out,¬kK u Out of fF)\/∃In Out,mn u (iu u) In Out/\¬kK u Out of fF:=λc i hn=> .inr ⟨_,_,hA,λr=>hn (r.pa c i)⟩;refine ec (by rfl) (ec (H6.ld 2 rfl rfl) (ec u6.b.len ?_))
 refine Oa (λk E R d m n h'=>∃F' b,E = .ptr s 0/\R = .ptr lv 0/\d=vb/\m = .I u.blocks.length/\n = .I (b:Nat)/\b+k=u.blocks.length/\Sn F6 I F' h'/\
  ej F' h' (eD lv mG [.I u.func,.I u.pc,vv,vb,vs,tu,jI]::eD s 37 [xW,.I fF]::eD lu 34 (uC u vv vb vs)::cs)/\∀c i,c<b->PA u (nD outs) of c i) ?_ (k:=u.blocks.length)
  ⟨F6,0,rfl,rfl,rfl,rfl,rfl,by omega,Sn.refl _ _,H6,by omega⟩
 rintro k E R d m n h7 ⟨F7,b,rfl,rfl,au,rfl,rfl,hk,s7,H7,bJ⟩;subst d;unfold yp;have u7:=u6.since s7;by_cases hb:b<u.blocks.length;rotate_left
 ·refine iA (H F7 h7 true ((U.trans aa).trans s7) H7.tail.tail.tail (λ_=>⟨_,_,hA,c1,c2,c3,ae,λc i=>?_⟩) (by simp));by_cases hc:c<b
  ·simp_all
  ·exact⟨λv ⟨B,W,_⟩=>by grind,λv ⟨B,W,_⟩=>by grind⟩
 refine gy ?_;obtain⟨B,W⟩:∃B,u.blocks[b]? =some B:=by simp_all
 have bK:=tB g W;have aw:iD u b=B.ee:=by unfold iD;rw[W]
 let⟨l8,o8,bv,bn,bp,_,i1,i2,iv,iN,ip,ba⟩:=u7.B8 W
 refine ec i1 (ec i2 ?_);refine jX H7 rfl rfl (by simp only[pR,fe,iv.one,iN.one,ip.one];rfl) λh8 H8 s8=>?_;generalize h7.next=bx at*;rw[fK]
 let⟨H9,s9⟩:=H8.zfB
 generalize h8.new (.map [] 0)=h9 at*;generalize h8.next=mx at*;have ak:=s8.trans s9;have C9:Lk F7 h9 _ lv u vv vb vs tu jI:=⟨H9,⟨2,rfl⟩,u7.since ak⟩
 refine RN g C9 (ro.since (s7.trans ak)) bc W λf X vo rs bd be ab bL bf=>?_;refine ec ab.len ?_;have ax:=ak.trans bd
 refine Nj (λk E R x9 K d m n C L M h'=>∃S i,E = .ptr s 0/\R = .ptr lv 0/\x9 = .ptr bx 0/\K = .map mx/\d=vb/\m = .I u.blocks.length/\n = .I b/\C=vo/\L = .I rs.length/\M = .I (i:Nat)/\i+k=B.ee.length/\Sn f X f h'/\
  ej f h' (wH mx S::eD bx 79 (pR B bv bn bp)::eD lv mG [.I u.func,.I u.pc,vv,vb,vs,tu,jI]::eD s 37 [xW,.I fF]::eD lu 34 (uC u vv vb vs)::cs)/\
  (∀k,S k↔∃j w,j<i/\At u w b j/\gJ u w=true/\of[w]? =some k)/\∀j,j<i->PA u (nD outs) of b j) ?_ (k:=B.ee.length)
  ⟨λ_=>False,0,rfl,rfl,rfl,rfl,rfl,rfl,rfl,rfl,rfl,rfl,by omega,Sn.refl _ _,be,by simp_all,by omega⟩
 rintro k2 E R x9 K d m n C L M t ⟨S,i,rfl,rfl,rfl,rfl,au,rfl,rfl,bg,rfl,rfl,bQ,Y,D,hS,bi⟩;subst d C;unfold yg;have ac:=ax.trans Y;by_cases hi:i<B.ee.length;rotate_left
 ·refine iA ?_;refine fG ⟨k-1,by omega,f,b+1,rfl,rfl,rfl,rfl,rfl,by omega,s7.trans ac,D.tail.tail,λc j hc=>?_⟩;by_cases hcb:c<b
  ·simp_all
  obtain rfl:c=b:=by omega
  by_cases hj:j<i
  ·simp_all
  ·have:∀v,¬At u v c j:=λv ⟨B',o,hv⟩=>by
    grind
   exact⟨by simp_all,by simp_all⟩
 refine gy ?_;obtain⟨row,O⟩:∃r,rs[i]? =some r:=by simp_all
 let⟨hrowl,hrowb⟩:=bf i row O
 obtain⟨v,hv⟩:∃v,B.ee[i]? =some v:=by simp_all
 have ad:At u v b i:=⟨B,W,hv⟩
 have ay:=g.uP _ _ _ ad;obtain⟨y,P⟩:∃y,of[v]? =some y:=by simp_all
 let⟨lr,or_,wr,_,r1,r2,r3⟩:=(ab.since Y).list O .i64
 let⟨lq,oq,_,q1,q2⟩:=(iv.since ac).nat hv .i64
 let⟨lo,oo,y1,y2⟩:=D.BY (ii+5) J P .i64
 have az:Lk f t _ lv u vv vb vs tu jI:=⟨D,⟨2,rfl⟩,u7.since ac⟩
 have ag:ez (.ptr s (0+0)) t=some xW:=D.ld 3 rfl rfl;refine ec r1 (ec r2 (ec (by rfl) (ec (D.ld 1 rfl rfl) (ec q1 (ec q2 ?_)))));refine FO az ay ?_
 let⟨bk_,hlk,hbk⟩:=D.look 0 rfl y
 have E6:iM (.bool (gJ u v)) (oB (some (V.map mx)) λbj=>oB (fJ 0 (.ptr s 0)) λbm=>oB (ez bm t) λbo=>oB (some (V.I v)) λbr=>oB (gM 1 bo br) λbt=>oB (ez bt t) λbu=>rH 3 none (V.bool false) false bj bu t)=some (.bool (gJ u v&&bk_)):=by
  have aA:rH 3 none (.bool false) false (.map mx) (.I y) t=some (.bool bk_):=hlk;simp[ fo,ag,y1,y2,aA]
 refine ec E6 (fX ?_);by_cases hbad:(gJ u v&&bk_)=true
 ·rw[yF]at hbad;refine fO (by simp_all) (H f t false ((U.trans aa).trans (s7.trans ac)) D.tail.tail.tail.tail.tail (by simp) λ_=>no b i λp=>?_)
  let⟨j,w,T,A,x,I⟩:=(hS y).1 (hbk.1 hbad.2)
  exact p.hd v ad hbad.1 j w T A x (I.trans P.symm)
 refine fH hbad ?_;have bw:gJ u v=true->∀j w,j<i->At u w b j->gJ u w=true->of[w]?≠of[v]?:=λhq j w T A x I=>hbad (by
  rw[yF];exact⟨hq,hbk.2 ((hS y).2 ⟨j,w,T,A,x,I.trans P⟩)⟩)
 have fin:∀q S',Sn f X f q->ej f q (wH mx S'::eD bx 79 (pR B bv bn bp)::eD lv mG [.I u.func,.I u.pc,vv,vb,vs,tu,jI]::eD s 37 [xW,.I fF]::eD lu 34 (uC u vv vb vs)::cs)->
   (∀k,S' k↔∃j w,j<i+1/\At u w b j/\gJ u w=true/\of[w]? =some k)->
   qZ Q (λE R d m n h'=>∃k',k' < k/\∃F' b,E = .ptr s 0/\R = .ptr lv 0/\d=vb/\m = .I u.blocks.length/\n = .I (b:Nat)/\b+k' = u.blocks.length/\Sn F6 I F' h'/\
    ej F' h' (eD lv mG [.I u.func,.I u.pc,vv,vb,vs,tu,jI]::eD s 37 [xW,.I fF]::eD lu 34 (uC u vv vb vs)::cs)/\∀c i,c<b->PA u (nD outs) of c i)
    (λE R x9 K d m n C L M h'=>∃k',k' < k2/\∃S i,E = .ptr s 0/\R = .ptr lv 0/\x9 = .ptr bx 0/\K = .map mx/\d=vb/\m = .I u.blocks.length/\n = .I b/\C=vo/\L = .I rs.length/\M = .I (i:Nat)/\i+k' = B.ee.length/\Sn f X f h'/\
     ej f h' (wH mx S::eD bx 79 (pR B bv bn bp)::eD lv mG [.I u.func,.I u.pc,vv,vb,vs,tu,jI]::eD s 37 [xW,.I fF]::eD lu 34 (uC u vv vb vs)::cs)/\
     (∀k,S k↔∃j w,j<i/\At u w b j/\gJ u w=true/\of[w]? =some k)/\∀j,j<i->PA u (nD outs) of b j)
    (.ptr s 0) (.ptr lv 0) (.ptr bx 0) (.map mx) wr (.I v) vb (.I u.blocks.length) (.I b) vo (.I rs.length) (.I i) q:=by
  intro q S' N G bz;refine L8 ?_;unfold wO;have bA:=(ab.since N).list O .i64
  let⟨lr',or',wr',_,bR,bS,bU⟩:=bA
  have aB:hD eB f q row wr:=by
   have e1:=(ab.since N).list O .i64
   let⟨a,b',c,d1,d2,d3,d4⟩:=e1
   have hp:gM 1 vo (.I i)=some (.ptr lr or_):=r1;rw[hp]at d2;cases d2;have:ez (.ptr lr or_) q=ez (.ptr lr or_) t:=by
    rw[show ez (.ptr lr or_) q=ez (.ptr lr or_) X from ?_,show ez (.ptr lr or_) t=ez (.ptr lr or_) X from ?_]
    ·unfold ez ld1 kR;simp[ Y.fy _ d1]
    ·unfold ez ld1 kR;simp[ N.fy _ d1]
   rw[d3,r2]at this;cases this;exact d4
  refine ec aB.len ?_;rw[hrowl];have al:ez (.ptr s (0+0)) q=some xW:=G.ld 3 rfl rfl
  let⟨lo',oo',bC,bD⟩:=G.BY (ii+5) J P .i64
  refine Nb (λk E R x9 K gL d m n C L M Z ah ai h'=>∃w,E = .ptr s 0/\R = .ptr lv 0/\x9 = .ptr bx 0/\K = .map mx/\gL = .I v/\d=vb/\m = .I u.blocks.length/\n = .I b/\C=vo/\L = .I rs.length/\M = .I i/\Z=wr/\ah = .I u.ee.length/\ai = .I (w:Nat)/\w+k=u.ee.length/\h' = q/\
   ∀w',w' < w->On row w'->w'≠v->of[w']?≠of[v]?) ?_ (k:=u.ee.length)
   ⟨0,rfl,rfl,rfl,rfl,rfl,rfl,rfl,rfl,rfl,rfl,rfl,rfl,rfl,rfl,by omega,rfl,λ_ h=>by omega⟩
  rintro k3 E R x9 K gL d m n C L M Z ah ai h' ⟨w,rfl,rfl,rfl,rfl,rfl,au,rfl,rfl,bg,rfl,rfl,bG,rfl,rfl,bV,rfl,hw⟩;subst d C Z;unfold yy;by_cases hwl:w<u.ee.length;rotate_left
  ·refine iA ?_;refine fG ⟨k2-1,by omega,S',i+1,rfl,rfl,rfl,rfl,rfl,rfl,rfl,rfl,rfl,rfl,by omega,N,G,bz,λj hj=>?_⟩;by_cases hji:j<i
   ·exact bi j hji
   obtain rfl:j=i:=by omega
   refine⟨λv' e=>?_,λv' e w' bW aC=>?_⟩
   ·let⟨B',o,e⟩:=e
    rw[W]at o;cases o;rw[hv]at e;cases e;exact bw
   ·let⟨B',o,e⟩:=e
    rw[W]at o;cases o;rw[hv]at e;cases e;rw[aw]at aC;exact hw w' (by omega) ((hrowb w').2 aC)
  refine gy ?_;obtain⟨z,hz⟩:∃z,row[w]? =some z:=⟨_,hZ (by omega)⟩
  obtain⟨yw,am⟩:∃y,of[w]? =some y:=⟨_,hZ (by omega)⟩
  let⟨lz,oz,_,z1,z2⟩:=aB.bool hz .i64
  let⟨lw,ow,w1,w2⟩:=G.BY (ii+5) J am .i64
  have E7:iM (.bool z) (oB (some (V.I w)) λaD=>oB (some (V.I v)) λaE=>ef .neq 3 aD aE)=some (.bool (z&&((w:Int) != (v:Int)))):=by
   simp[ rZ]
  have E8:iM (.bool (z&&((w:Int) != (v:Int)))) (oB (fJ 0 (.ptr s 0)) λaF=>oB (ez aF h') λaG=>oB (some (V.I w)) λaH=>oB (gM 1 aG aH) λaI=>oB (ez aI h') λaJ=>oB (fJ 0 (.ptr s 0)) λaK=>oB (ez aK h') λaL=>oB (some (V.I v)) λaM=>oB (gM 1 aL aM) λaN=>oB (ez aN h') λaO=>ef .eql 3 aJ aO)=some (.bool ((z&&((w:Int) != (v:Int)))&&(yw == y))):=by
   simp[ fo,al,w1,w2,bC,bD]
  refine ec z1 (ec z2 (ec E7 (ec E8 (fX ?_))));by_cases hx:(z&&((w:Int) != (v:Int))&&(yw == y))=true
  ·refine fO hx (H f h' false ((U.trans aa).trans ((s7.trans ax).trans N)) G.tail.tail.tail.tail.tail (by simp) λ_=>no b i λp=>?_);simp[ bne_iff_ne]at hx
   let⟨⟨x1,x2⟩,E⟩:=hx
   refine p.ap v ad w hwl (by rw[aw];exact(hrowb w).1 (by unfold On;rw[hz,x1])) (by omega) ?_;rw[am,P,E]
  ·refine fH hx ?_;refine fG ⟨k3-1,by omega,w+1,rfl,rfl,rfl,rfl,rfl,rfl,rfl,rfl,rfl,rfl,rfl,rfl,rfl,rfl,by omega,rfl,λw' T A x I=>?_⟩;by_cases hww:w' < w
   ·exact hw w' hww A x I
   obtain rfl:w' = w:=by omega
   apply hx;have e1:z=true:=by
    unfold On at A;rw[hz]at A;exact Option.some.inj A
   have e2:yw=y:=by rw[am,P]at I;exact Option.some.inj I
   have e3:((w':Int) != (v:Int))=true:=by rw[bne_iff_ne];omega
   rw[e1,e2,e3,beq_self_eq_true];rfl
 refine FO az ay ?_
 cases hq:gJ u v with
 | true=>
   refine fX (fO rfl ?_)
   let⟨q,bE,bX,G,N⟩:=D.il 0 rfl y
   have aP:xN 3 none (.map mx) (.I y) (.bool true) t=some (.val .undef q):=bE;refine oF ag (ec y1 (ec y2 ?_));rw[aP,eh];simp[DR]at G;refine fin q _ (Y.trans N) G λk'=>?_;rw[hS k'];constructor
   ·rintro(⟨j,w,T,A⟩|rfl)
    ·exact⟨j,w,by omega,A⟩
    ·exact⟨i,v,by omega,ad,hq,P⟩
   ·rintro ⟨j,w,T,A,x,I⟩
    by_cases hj:j<i
    ·exact .inl ⟨j,w,hj,A,x,I⟩
    ·obtain rfl:j=i:=by omega
     let⟨B',o,e⟩:=A
     rw[W]at o;cases o;rw[hv]at e;cases e;rw[P]at I
     exact .inr (Option.some.inj I).symm
 | false=>
   refine fX (fH (by simp) ?_);refine fin t _ Y D λk'=>?_;rw[hS k'];constructor
   ·rintro⟨j,w,T,A⟩
    exact⟨j,w,by omega,A⟩
   ·rintro ⟨j,w,T,A,x,I⟩
    by_cases hj:j<i
    ·exact⟨j,w,hj,A,x,I⟩
    ·obtain rfl:j=i:=by omega
     let⟨B',o,e⟩:=A
     rw[W]at o;cases o;rw[hv]at e;cases e;rw[hq]at x;cases x
variable{P:Nat->Prop}{w:Nat}
theorem Ua{v:Nat}{r:List Nat}(h:bh u r P w)(a:w≠v):bh u (v::r) P w:=by
 unfold bh;split
 ·exact h
 ·exact .inl ⟨h,a⟩
theorem MP:∀{l d:List Nat},(∀x∈l,gJ u x=true)->(bh u (l++d) P w↔bh u d P w)
 |[],_,_=>Iff.rfl
 | v::l,d,h=>by
   show(if gJ u v=true then _ else _)↔_;rw[if_pos (h v (by simp))];exact MP λx a=>h x (by simp[a])
theorem zbN:∀{n:Nat}{l d:List Nat},l.length=n->l.reverse.Pairwise (λa b=>gJ u a=true->gJ u b=true)->(bk u l.reverse (bh u d P) w↔bh u (l++d) P w)
 | 0,l,d,hl,_=>by
   obtain rfl:=wBR hl
   exact Iff.rfl
 | n + 1,l,d,hl,hp=>by
   rcases jh l with rfl|⟨s,v,rfl⟩
   ·simp at hl
   ·rw[List.reverse_append]at hp⊢
    simp only[List.reverse_cons,List.reverse_nil,RL,List.singleton_append]at hp⊢;rw[List.pairwise_cons]at hp
    cases hq:gJ u v with
    | true=>
      have e1:bk u (v::s.reverse) (bh u d P) w=bh u d P w:=by
        unfold bk;rw[if_pos hq]
      rw[e1];refine(MP λx c=>?_).symm;rcases yX.1 c with h|h
      ·exact hp.1 x (wA7.2 h) hq
      ·rw[Hh.1 h];exact hq
    | false=>
      have e1:bk u (v::s.reverse) (bh u d P) w=bk u s.reverse (bh u (v::d) P) w:=by
        conv=>lhs;unfold bk
        rw[if_neg (by rw[hq];simp)];congr 1;funext x
        conv=>rhs;unfold bh
        rw[if_neg (by rw[hq];simp)]
      rw[e1,zbN (by simpa using hl) hp.2,Cy];rfl
end
section
variable{u:U}(g:Good u){In Out:Nat->Nat->Prop}(h:mn u (iu u) In Out){of:List Int}(pa:∀c i,PA u Out of c i){w1 w2:Nat}(nw:w1≠w2)(heq:of[w1]? =of[w2]?)
include pa nw heq
include g h
omit nw heq pa in
theorem zgG {b w:Nat}(hb:b<u.blocks.length):In b w↔bh u (iD u b) (Out b) w:=by
 rw[h.FK b w hb];have:=zbN (u:=u) (P:=Out b) (w:=w) (l:=iD u b) (d:=[]) rfl (g.pw b);rw[Ku]at this;exact this
end
