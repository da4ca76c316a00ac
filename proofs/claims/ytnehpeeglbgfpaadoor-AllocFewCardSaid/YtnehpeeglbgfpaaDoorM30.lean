/- Parts. -/
import Derived.Test.YtnehpeeglbgfpaaDoorM29
set_option maxHeartbeats 4000000
namespace Go.Proofs.YtnehpeeglbgfpaaDoor.Hx
open Un Dm
def pY(l:Nat)(S:Int->Prop):Pc where
 lG:=λm=>m=l
 ok F h:=(∃es c,h.get l=some (.map es c)/\(∀e∈es,∃k:Int,e.1 = .I k/\e.2.1 = .bool true/\S k)/\∀k,S k->∃e∈es,e.1 = .I k)/\l<h.next/\¬F l
 Hl:=λh _ e=>by subst e;exact h.2
 eC:=λ⟨⟨es,c,d,f⟩,b⟩ _ a g=>⟨⟨es,c,(a l rfl).trans d,f⟩,yG b.1 g,b.2⟩
 mono:=λh _ a=>⟨h.1,h.2.1,a l rfl⟩
theorem DU(k:Int):∀(es:List (V×V×Nat))(i:Nat),(∀e∈es,∃k:Int,e.1 = .I k/\e.2.1 = .bool true)->
  (mR fI none (.I k) es i=some none/\∀e∈es,e.1≠ .I k)\/∃j e,mR fI none (.I k) es i=some (some (i+j,.bool true))/\es[j]? =some e/\e.1 = .I k
 |[],i,_=> .inl ⟨rfl,λ_ h=>by cases h⟩
 | e ::es,i,h=>by
   obtain ⟨k',c,g⟩:=h e (Lh ..);have a:mR fI none (.I k) (e::es) i=if k=k' then some (some (i,e.2.1)) else mR fI none (.I k) es (i+1):=by
     show oB (Gi fI none (.I k) e.1) _=_;rw[c,show Gi fI none (V.I k) (V.I k')=some (k == k') from Mc _ _];by_cases hk:k=k'
     ·rw[if_pos hk,I8.2 hk];rfl
     ·rw[if_neg hk,VW.2 hk];rfl
   by_cases hk:k=k'
   ·subst hk
    rw[if_pos rfl,g]at a;exact .inr ⟨0,e,a,rfl,c⟩
   ·rw[if_neg hk]at a
    rcases DU k es (i+1) λe b=>h e (SP _ b)with⟨d,f⟩|⟨j,e',d,f,l⟩
    ·refine .inl ⟨a.trans d,λe' b=>?_⟩
     rcases zq.1 b with rfl|b
     ·rw[c];intro m;cases m;exact hk rfl
     ·exact f e' b
    ·exact .inr ⟨j+1,e',by rw[a,d];congr 3;omega,f,l⟩
section
variable{F F':Nat->Prop}{h h':Hp}{cs:List Pc}{Q:fu}{l:Nat}{S:Int->Prop}
theorem en.look(H:en F h cs)(i:Nat)(hi:cs[i]? =some (pY l S))(k:Int):∃b,He fI none (.bool false) false (.map l) (.I k) h=some (.bool b)/\(b=true↔S k):=by
 obtain ⟨⟨es,c,n,m,o⟩,_⟩:=H.ok i _ hi;have e1:∀r,mR fI none (.I k) es 0=some r->He fI none (.bool false) false (.map l) (.I k) h=some (found (.bool false) false r):=λr p=>by
  unfold He xG;simp only[n,fg];rw[p];rfl
 rcases DU k es 0 λe d=>let⟨k,a,b,_⟩:=m e d;⟨k,a,b⟩ with⟨f,g⟩|⟨j,e,f,g,q⟩
 ·refine⟨false,e1 _ f,by simp,λs=>?_⟩;obtain⟨e,d,t⟩:=o k s;exact absurd t (g e d)
 ·refine⟨true,e1 _ f,λ_=>?_,λ_=>rfl⟩;obtain⟨k',a,_,b⟩:=m e (vS g);rw[q]at a;cases a;exact b
theorem en.gR(H:en F h cs)(i:Nat)(hi:cs[i]? =some (pY l S))(k:Int):∃h',zt fI none (.map l) (.I k) (.bool true) h=some (.val .undef h')/\h.next<=h'.next/\en F h' (cs.set i (pY l λx=>S x\/x=k))/\Sn F h F h':=by
 obtain⟨⟨es,c,y,o,v⟩,q,z⟩:=H.ok i _ hi
 have fin:∀im c',zS fI none es c (.I k) (.bool true)=some (.map im c')->(∀e∈im,∃k':Int,e.1 = .I k'/\e.2.1 = .bool true/\(S k'\/k' = k))->(∀k',S k'\/k' = k->∃e∈im,e.1 = .I k')->
   ∃h',zt fI none (.map l) (.I k) (.bool true) h=some (.val .undef h')/\h.next<=h'.next/\en F h' (cs.set i (pY l λx=>S x\/x=k))/\Sn F h F h':=by
  intro im c' A B C;refine⟨h.put l (.map im c'),?_,je _,H.BE (p:=pY l λx=>S x\/x=k) hi (ki.put _ rfl q) ⟨⟨im,c',fG _ q,B,C⟩,q,z⟩ λ_ h=> .inl h⟩;unfold zt xG;simp only[y,fg,A];rfl
 rcases DU k es 0 λe f=>let⟨k,a,b,_⟩:=o e f;⟨k,a,b⟩ with⟨r,s⟩|⟨j,e,r,s,t⟩
 ·refine fin (es++[(.I k,.bool true,c)]) (c+1) (by unfold zS;rw[r];rfl) (λe f=>?_) λk' g=>?_
  ·rcases zH.1 f with h|h
   ·obtain⟨k',a,b,d⟩:=o e h;exact⟨k',a,b,.inl d⟩
   ·obtain rfl:=Hh.1 h;exact⟨k,rfl,rfl,.inr rfl⟩
  ·rcases g with g|rfl
   ·obtain⟨e,f,g⟩:=v k' g;exact⟨e,QX _ f,g⟩
   ·exact⟨_,List.mem_append_right _ (Hh.2 rfl),rfl⟩
 ·obtain ⟨D,rfl⟩:=jv.1 s;refine fin (es.set j (.I k,.bool true,es[j].2.2)) c ?_ (λe f=>?_) λk' g=>?_
  ·unfold zS;rw[r];simp only[fg,Dr,s,t,V.Aq];rfl
  ·rcases Uq f with h|rfl
   ·obtain⟨k',a,b,d⟩:=o e h;exact⟨k',a,b,.inl d⟩
   ·exact⟨k,rfl,rfl,.inr rfl⟩
  ·have E:S k:=by
    obtain⟨k',a,_,d⟩:=o _ (B9 D);rw[t]at a;cases a;exact d
   have u:S k':=g.elim id λe=>e▸E;obtain⟨e,f,m⟩:=v k' u;obtain⟨n,w,rfl⟩:=List.mem_iff_getElem.1 f;by_cases hnj:n=j
   ·subst hnj;rw[t]at m;exact⟨_,vS (Fz w),m⟩
   ·exact⟨es[n],vS (by rw[GI λe=>hnj e.symm];exact iQ w),m⟩
theorem en.Vg(H:en F h cs):en F (h.new (.map [] 0)) (pY h.next (λ_=>False)::cs)/\Sn F h F (h.new (.map [] 0)):=
 H.new (p:=pY h.next λ_=>False) _ ⟨⟨[],0,ey _ _,And.intro (λe a=>nomatch a) (λk b=>False.elim b)⟩,JI _,H.fresh⟩ λ_ e=>e
end
open Un Dm
def bh(u:U):List Nat->(Nat->Prop)->Nat->Prop
 |[],P=>P
 |v::r,P=>λw=>if gh u v=true then bh u r P w else(bh u r P w/\w≠v)\/w∈rV u v
section
variable{F F':Nat->Prop}{h h':Hp}{cs:List Pc}{Q:fu}{u:U}{vv vb vs:V}{lv:Nat}{iX fR:V}{outs:List (List Bool)}
theorem N5(g:Good u)(C:Lk F h cs lv u vv vb vs iX fR)(ro:iB (eL eB) F h outs fR)(O:Iw u outs){b:Nat}{B:Bk}(W:u.blocks[b]? =some B)
  (H:∀F' h' o rs,Sn F h F' h'->en F' h' cs->iB (eL eB) F' h' rs o->rs.length=B.ee.length->(∀(i:Nat) row,rs[i]? =some row->row.length=u.ee.length/\∀w,On row w↔bh u (B.ee.drop (i+1)) (ir outs b) w)->Q o h') :
  cP CS kT [.ptr lv 0,.I b] h Q:=by
 refine Ar rfl rfl ?_;unfold tg;have nv:=g.nv;have aa:=(jv.1 W).1;have ab:=nR g W;obtain⟨l1,o1,bv,bn,bp,_,i1,i2,iv,_,_,ba⟩:=C.u.vT W;refine ec (fc _ _) (ec (fM _ _ _) (oF (C.ld 3 rfl) (ec i1 (oF ba.ee (ec iv.len ?_)))));rw[jY rfl (by decide) (by omega),fF];obtain⟨H1,s1⟩:=C.H.make (E:=eL eB) (ty:=fy) (y:=[]) (u:=V.ed) B.ee.length ⟨.ed,rfl,.nil⟩ rfl;have H1:en F (h.new (.cells 59 1 true false (List.replicate B.ee.length V.ed))) (ft (eL eB) fy (List.replicate B.ee.length []) (.slice h.next 0 B.ee.length)::cs):=H1;have s1:Sn F h F (h.new (.cells 59 1 true false (List.replicate B.ee.length V.ed))):=s1;generalize h.new (.cells 59 1 true false (List.replicate B.ee.length V.ed))=q at*;generalize V.slice h.next 0 B.ee.length=o at*;rw[yf,fF];obtain⟨X,Y⟩:=H1.JX (E:=eB) (xs:=[]) (ws:=[]) (n:=0) fo rfl trivial rfl;have X:en F (q.new (.cells 4 1 true false [])) (ft eB fo [] (.slice q.next 0 0)::ft (eL eB) fy (List.replicate B.ee.length []) o::cs):=X;have Y:Sn F q F (q.new (.cells 4 1 true false [])):=Y;generalize q.new (.cells 4 1 true false [])=t at*;obtain⟨x,D⟩:∃r,outs[b]? =some r:=⟨_,iQ (show b<outs.length by rw[O.len];exact aa)⟩
 have P:=O.row x (vS D);obtain⟨lo,oo,wo,_,q1,q2,q3⟩:=(ro.since (s1.trans Y)).list D .i64;obtain⟨ic,hc⟩:=C.c;refine oN (X.ld (ic+2) hc rfl) (ec q1 (ec q2 ?_));obtain⟨N,h3,e3,n3,H3,s3⟩:=X.Ll 0 rfl (lD:=1) q3 (by decide) (by decide) (by simp;omega);have ac:fh 4 1 1 (.slice q.next 0 0) wo t=some (.val N h3):=e3;rw[ac,eh];simp only[pP,Lg]at H3;have a:∀n:Nat,n<=3000->jw .i64 (((n:Nat):Int)-1)=(n:Int)-1:=λn hn=>by rw[iR (by simp only[Fe];omega)]
 refine ec iv.len (ec (hZ _ _ _ _) ?_);rw[a _ ab];have ae:=(s1.trans Y).trans s3
 refine yb (λk x0 x5 x6 x7 x8 h'=>∃(F':Nat->Prop) (l d:List Nat) (cur:List Bool) (rs:List (List Bool)),x0 = .ptr lv 0/\x5=bv/\x6=o/\x7=N/\x8 = .I ((l.length:Int)-1)/\k=l.length/\B.ee=l++d/\Sn F h F' h'/\cur.length=u.ee.length/\
  en F' h' (ft eB fo cur N::ft (eL eB) fy rs o::cs)/\(∀w,On cur w↔bh u d (ir outs b) w)/\rs.length=B.ee.length/\
  ∀(i:Nat) row,l.length<=i->rs[i]? =some row->row.length=u.ee.length/\∀w,On row w↔bh u (B.ee.drop (i+1)) (ir outs b) w) ?_ (k:=B.ee.length)
  ⟨F,B.ee,[],x,List.replicate B.ee.length [],rfl,rfl,rfl,rfl,rfl,rfl,by simp,ae,P,H3,λw=>(qA D w).symm,by simp,λi row q t=>by
   have:=(jv.1 t).1;rw[List.length_replicate]at this;omega⟩
 rintro k x0 x5 x6 x7 x8 G ⟨Z,l,d,cur,rs,rfl,e5,e6,e7,rfl,hk,f,s6,I,H6,J,K,R⟩;subst x5 x6 x7;unfold qj;have aq:l.length<=B.ee.length:=by rw[f,Hm];omega
 refine BH ?_;rcases gO l with rfl|⟨s,v,rfl⟩
 ·refine gJ (by simp) ?_;obtain⟨z,L,r7⟩:=H6.tail.mO 0 rfl;simp only[pP]at z;exact H _ G o rs (s6.trans L) z.tail r7 K λi row hi=>R i row (EL _) hi
 have ag:((s++[v]).length:Int)-1=(s.length:Nat):=by simp
 rw[ag];refine hV (by omega) ?_;have j:B.ee[s.length]? =some v:=by rw[f];simp
 have ar:s.length<B.ee.length:=(jv.1 j).1;have ah:At u v b s.length:=⟨B,W,j⟩
 have S:=g.vX v b _ ah;have M:B.ee.drop (s.length+1)=d:=by
  rw[f,List.drop_left' (by simp)]
 rw[yf,fF];obtain⟨z,L⟩:=H6.JX (E:=eB) (xs:=[]) (ws:=[]) (n:=0) fo rfl trivial rfl;have z:en Z (G.new (.cells 4 1 true false [])) (ft eB fo [] (.slice G.next 0 0)::ft eB fo cur N::ft (eL eB) fy rs o::cs):=z;have L:Sn Z G Z (G.new (.cells 4 1 true false [])):=L;generalize G.new (.cells 4 1 true false [])=h7 at*;obtain⟨v8,h8,e8,n8,H8,s8⟩:=z.Re 0 1 rfl rfl (lD:=1) (by decide) (by decide) (by simp;omega);have ai:fh 4 1 1 (.slice G.next 0 0) N h7=some (.val v8 h8):=e8;rw[ai,eh];simp only[pP,Lg]at H8;obtain⟨H9,s9,r9⟩:=H8.mO 0 rfl;simp only[pP]at H9;obtain⟨M5,au,aj,ak,al,aw,m,am⟩:=H9.zm 2 rfl (k:=s.length) (y:=cur) (u:=v8) (show s.length<rs.length by omega) rfl r9.one ⟨v8,rfl,r9⟩;refine ec ak ?_;rw[al,eh];simp only[Bt,pP]at m;have m:=m.tail;have T:=((L.trans s8).trans s9).trans am;generalize (λl=>Z l\/Loc v8 l)=FA at*;have p:=s6.trans T;obtain⟨lq,oq,_,p1,p2⟩:=(iv.since p).nat j .i64;have CA:Lk FA aj (ft eB fo cur N::ft (eL eB) fy (rs.set s.length cur) o::cs) lv u vv vb vs iX fR:=⟨m,⟨ic+2,hc⟩,C.u.since p⟩
 refine ec p1 (ec p2 (CQ CA S (yS ?_)));have A:∀(i:Nat) row,s.length<=i->(rs.set s.length cur)[i]? =some row->row.length=u.ee.length/\∀w,On row w↔bh u (B.ee.drop (i+1)) (ir outs b) w:=by
  intro i row q t;by_cases hi:i=s.length
  ·subst hi;rw[Fz (by omega)]at t;cases t;exact⟨I,λw=>by rw[M];exact J w⟩
  ·rw[GI λe=>hi e.symm]at t;exact R i row (by simp;omega) t
 cases hq:gh u v with
 | true=>
   refine hV rfl ?_;refine pj ?_;unfold lB;refine ec (hZ _ _ _ _) ?_;rw[a s.length (by omega)];refine⟨s.length,by rw[hk];simp,FA,s,v::d,cur,rs.set s.length cur,rfl,rfl,rfl,rfl,rfl,rfl,by rw[f];simp,p,I,m,λw=>?_,by simp[K],A⟩;rw[J w];unfold bh;rw[if_pos hq]
   cases d <;> rfl
 | false=>
   refine gJ (by simp) ?_;refine ec p1 (ec p2 ?_);refine K5 g CA I S λF7 h7 U L z ao an=>?_;refine pj ?_;unfold lB;refine ec (hZ _ _ _ _) ?_;rw[a s.length (by omega)];refine⟨s.length,by rw[hk];simp,F7,s,v::d,U,rs.set s.length cur,rfl,rfl,rfl,rfl,rfl,rfl,by rw[f];simp,p.trans L,by omega,z,λw=>?_,by simp[K],A⟩;rw[an w,J w]
   conv=>rhs;unfold bh
   rw[if_neg (by rw[hq];simp)]
end
open Un Dm
theorem Je{u:U}:∀{r:List Nat} {P a:Nat->Prop},(∀w,P w->a w)->∀w,bh u r P w->bh u r a w
 |[],_,_,h,w,hw=>h w hw
 | v::r,P,a,h,w,hw=>by
   unfold bh at hw⊢;split at hw
   ·rename_i e;rw[if_pos e];exact Je h w hw
   ·rename_i e;rw[if_neg e];exact hw.imp (λb=>⟨Je h w b.1,b.2⟩) id
structure PA (u:U) (Out:Nat->Nat->Prop) (of:List Int) (c i:Nat):Prop where
 hd:∀v,At u v c i->gh u v=true->∀j w,j<i->At u w c j->gh u w=true->of[w]?≠of[v]?
 ap:∀v,At u v c i->∀w,w<u.ee.length->bh u ((gZ u c).drop (i+1)) (Out c) w->w≠v->of[w]?≠of[v]?
def Vh(fY k:Int):Prop:=(0<=k/\k<12)\/(16<=k/\k<16+fY)
structure PL (u:U) (Out:Nat->Nat->Prop) (of:List Int) (fY:Int):Prop where
 len:of.length=u.ee.length
 s0:0<=fY
 s1:fY<=399
 pl:∀k∈of,Vh fY k
 pa:∀c i,PA u Out of c i
section
variable{F F':Nat->Prop}{h h':Hp}{cs:List Pc}{Q:fu}{u:U}{vv vb vs:V}{of:List Int}{Qf:V}{fY:Int}
end
open Un Dm
section
variable{u:U}{P:Nat->Prop}{w:Nat}
theorem Jv{v:Nat}{r:List Nat}(h:bh u r P w)(a:w≠v):bh u (v::r) P w:=by
 unfold bh;split
 ·exact h
 ·exact .inl ⟨h,a⟩
theorem FN:∀{l d:List Nat},(∀x∈l,gh u x=true)->(bh u (l++d) P w↔bh u d P w)
 |[],_,_=>Iff.rfl
 | v::l,d,h=>by
   show(if gh u v=true then _ else _)↔_;rw[if_pos (h v (by simp))];exact FN λx a=>h x (by simp[a])
theorem SH:∀{n:Nat}{l d:List Nat},l.length=n->l.reverse.Pairwise (λa b=>gh u a=true->gh u b=true)->(bk u l.reverse (bh u d P) w↔bh u (l++d) P w)
 | 0,l,d,hl,_=>by
   obtain rfl:=US hl
   exact Iff.rfl
 | n + 1,l,d,hl,hp=>by
   rcases gO l with rfl|⟨s,v,rfl⟩
   ·simp at hl
   ·rw[List.reverse_append]at hp⊢
    simp only[List.reverse_cons,List.reverse_nil,Lg,Ve]at hp⊢;rw[List.pairwise_cons]at hp
    cases hq:gh u v with
    | true=>
      have e1:bk u (v::s.reverse) (bh u d P) w=bh u d P w:=by
        unfold bk;rw[if_pos hq]
      rw[e1];refine(FN λx c=>?_).symm;rcases zH.1 c with h|h
      ·exact hp.1 x (O4.2 h) hq
      ·rw[Hh.1 h];exact hq
    | false=>
      have e1:bk u (v::s.reverse) (bh u d P) w=bk u s.reverse (bh u (v::d) P) w:=by
        conv=>lhs;unfold bk
        rw[if_neg (by rw[hq];simp)];congr 1;funext x
        conv=>rhs;unfold bh
        rw[if_neg (by rw[hq];simp)]
      rw[e1,SH (n:=n) (l:=s) (by simpa using hl) hp.2,LX];rfl
end
section
variable{u:U}(g:Good u){In Out:Nat->Nat->Prop}(h:rY u (gW u) In Out){of:List Int}(pa:∀c i,PA u Out of c i){w1 w2:Nat}(pQ:w1≠w2)(heq:of[w1]? =of[w2]?)
include pa pQ heq
include g h
omit pQ heq pa in
theorem VC {b w:Nat}(hb:b<u.blocks.length):In b w↔bh u (gZ u b) (Out b) w:=by
 rw[h.Hl b w hb];have:=SH (u:=u) (P:=Out b) (w:=w) (l:=gZ u b) (d:=[]) rfl (g.pw b);rw[Hk]at this;exact this
end
