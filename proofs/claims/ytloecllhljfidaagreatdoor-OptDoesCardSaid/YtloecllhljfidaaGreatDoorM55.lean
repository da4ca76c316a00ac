/- Parts. -/
import Derived.Test.YtloecllhljfidaaGreatDoorM53
import Derived.Test.YtloecllhljfidaaGreatDoorM50
set_option maxHeartbeats 4000000
namespace Go.Proofs.YtloecllhljfidaaGreatDoor.Hx
open Un Dm
abbrev zT:Nat:=133
def Jx(k:oX):List V:=[.I (k.1:Nat),.I k.2.1,.I k.2.2.1,.I k.2.2.2]
def eKy:qf oX where
 sz:=4
 rel _ _ k cs:=cs=Jx k
 len h:=by subst h;rfl
 one h:=by subst h;rfl
 fk _ h:=h
 mono _ h:=h
noncomputable def isInt(t:Nat):Bool:=match P0.underlying t with
 |some (.int _)=>true
 |_=>false
theorem zbE:(match wN with
  |some [a,b,c,d]=>(a.offset == 0&&b.offset == 1&&c.offset == 2&&d.offset == 3)&&(isInt a.type&&isInt b.type&&isInt c.type&&isInt d.type)
  |_=>false)=true:=by kernel_rfl
theorem RK{t:Nat}(h:isInt t=true)(a b:Int):ET t (.I a) (.I b)=some (a == b):=by
 unfold isInt at h;unfold ET;split at h
 ·rename_i e;rw[e];rfl
 ·cases h
theorem SX:∃f g i j,wN=some [f,g,i,j]/\f.offset=0/\g.offset=1/\i.offset=2/\j.offset=3/\isInt f.type=true/\isInt g.type=true/\isInt i.type=true/\isInt j.type=true:=by
 have h:=zbE;split at h
 ·rename_i a b c d e;simp[ Bg]at h
  let⟨⟨⟨⟨k,l⟩,m⟩,n⟩,⟨⟨o,p⟩,q⟩,r⟩:=h
  exact⟨a,b,c,d,e,k,l,m,n,o,p,q,r⟩
 ·cases h
theorem HY(k:oX):JF wN (.agg (Jx k))=true:=by
 let⟨f0,f1,f2,f3,e,h0,a,b,c,_⟩:=SX
 rw[e];show([f0,f1,f2,f3].all λf=>(B6 (Jx k) f.offset).isSome)=true;simp only[wBn,List.all_nil,h0,a,b,c];rfl
theorem YS(a b:oX):Oe zT wN (.agg (Jx a)) (.agg (Jx b))=some (decide (a=b)):=by
 let⟨f0,f1,f2,f3,e,h0,i,j,k,m,n,o,p⟩:=SX
 rw [e];show Mz [f0,f1,f2,f3] (Jx a) (Jx b)=_;have z:∀f fs x y u v,B6 x f.offset=some (.I u)->B6 y f.offset=some (.I v)->isInt f.type=true->Mz (f::fs) x y=if u=v then Mz fs x y else some false:=λf fs x y u v q hv ht=>by
  show oB (B6 x f.offset) _=_;rw[q];show oB (B6 y f.offset) _=_;rw[hv];show oB (ET f.type _ _) _=_;rw[RK ht];by_cases c:u=v
  ·rw[if_pos c,Bg.2 c];rfl
  ·rw[if_neg c,PG.2 c];rfl
 let⟨a1,a2,a3,a4⟩:=a
 let⟨b1,b2,b3,r⟩:=b
 rw[z f0 _ _ _ _ _ (by rw[h0];rfl) (by rw[h0];rfl) m,z f1 _ _ _ _ _ (by rw[i];rfl) (by rw[i];rfl) n,z f2 _ _ _ _ _ (by rw[j];rfl) (by rw[j];rfl) o,z f3 _ _ _ _ _ (by rw[k];rfl) (by rw[k];rfl) p];simp only[Prod.mk.injEq];by_cases l:a1=b1
 ·rw [if_pos (by omega)];by_cases c2:a2=b2
  ·rw [if_pos c2];by_cases d:a3=b3
   ·rw[if_pos d];by_cases g:a4=r
    ·rw[if_pos g,JO ⟨l,c2,d,g⟩];rfl
    ·rw[if_neg g,Li λh=>g h.2.2.2]
   ·rw[if_neg d,Li λh=>d h.2.2.1]
  ·rw[if_neg c2,Li λh=>c2 h.2.1]
 ·rw[if_neg (by omega),Li λh=>l h.1]
def Yw(ks:List (oX×Nat×Nat)):List (V×V×Nat):=ks.map λe=>(.agg (Jx e.1),.I (e.2.1:Nat),e.2.2)
theorem US{α β:Type}(f:α->β):∀(l:List α) i,(l.eraseIdx i).map f=(l.map f).eraseIdx i
 |[],_=>rfl
 |_::_,0=>rfl
 |a::l,i+1=>congrArg (f a::·) (US f l i)
def RY(l:Nat)(S:oX->Option Nat):Pc where
 my:=λm=>m=l
 ok F h:=(∃ks c,h.get l=some (.map (Yw ks) c)/\(ks.map Prod.fst).Nodup/\∀k w,S k=some w↔∃t,(k,w,t)∈ks)/\l<h.next/\¬F l
 Nn:=λh _ e=>by subst e;exact h.2
 fk:=λ⟨⟨ks,c,d,f⟩,b⟩ _ a g=>⟨⟨ks,c,(a l rfl).trans d,f⟩,Ep b.1 g,b.2⟩
 mono:=λh _ a=>⟨h.1,h.2.1,a l rfl⟩
theorem V8(k:oX):∀ks i,
  (ri zT wN (.agg (Jx k)) (Yw ks) i=some none/\∀e∈ks,e.1≠k)\/∃j w t,ri zT wN (.agg (Jx k)) (Yw ks) i=some (some (i+j,.I (w:Nat)))/\ks[j]? =some (k,w,t)
 |[],i=> .inl ⟨rfl,λ_ h=>by cases h⟩
 | e ::es,i=>by
   have a:ri zT wN (.agg (Jx k)) (Yw (e::es)) i=if k=e.1 then some (some (i,.I (e.2.1:Nat))) else ri zT wN (.agg (Jx k)) (Yw es) (i+1):=by
     show oB (Oe zT wN (.agg (Jx k)) (.agg (Jx e.1))) _=_;rw[YS];by_cases hk:k=e.1
     ·rw[if_pos hk,JO hk];rfl
     ·rw[if_neg hk,Li hk];rfl
   by_cases hk:k=e.1
   ·rw[if_pos hk]at a
    exact .inr ⟨0,e.2.1,e.2.2,a,by rw[hk];rfl⟩
   ·rw[if_neg hk]at a
    rcases V8 k es (i+1)with⟨b,c⟩|⟨j,w,t,b,c⟩
    ·exact .inl ⟨a.trans b,λe' d=>(Ki.1 d).elim (λh=>by rw[h];exact λh=>hk h.symm) (c e')⟩
    ·exact .inr ⟨j+1,w,t,by rw[a,b];congr 3;omega,c⟩
section
variable{F F':Nat->Prop}{h h':Hp}{cs ds:List Pc}{Q:fq}{l:Nat}{S:oX->Option Nat}
theorem ev.ze7(H:ev F h cs)(i:Nat)(hi:cs[i]? =some (RY l S))(k:oX)(z:V):MG zT wN z true (.map l) (.agg (Jx k)) h=some (.tuple (match S k with|some w=>[.I w,.bool true]|none=>[z,.bool false])):=by
 let⟨⟨ks,c,f,m,d⟩,_⟩:=H.ok i _ hi
 have e:∀r,ri zT wN (.agg (Jx k)) (Yw ks) 0=some r->MG zT wN z true (.map l) (.agg (Jx k)) h=some (found z true r):=λr g=>by
  unfold MG FP;simp[f,ft,HY];rw[g];rfl
 rcases V8 k ks 0 with⟨a,b⟩|⟨j,w,t,a,b⟩
 ·rw[e _ a]
  cases hS:S k with
  |none=>rfl
  | some v=>
    let⟨t,ht⟩:=(d k v).1 hS
    exact absurd rfl (b _ ht)
 ·rw[e _ a,(d k w).2 ⟨t,zD b⟩];rfl
theorem ev.iO(H:ev F h cs)(i:Nat)(hi:cs[i]? =some (RY l S)){k:oX}(g:S k=none)(w:Nat):∃h',MT zT wN (.map l) (.agg (Jx k)) (.I w) h=some (.val .undef h')/\h.next<=h'.next/\ev F h' (cs.set i (RY l (up S k (some w))))/\Sn F h F h':=by
 let⟨⟨ks,c,m,n,d⟩,b,o⟩:=H.ok i _ hi
 have a:∀e∈ks,e.1≠k:=λe p hk=>by
  let⟨k',w',t⟩:=e
  obtain rfl:k' = k:=hk;have:=(d k' w').2 ⟨t,p⟩;rw[g]at this;cases this
 rcases V8 k ks 0 with⟨f,_⟩|⟨j,w',t,f,q⟩
 ·have r:LD zT wN (Yw ks) c (.agg (Jx k)) (.I w)=some (.map (Yw (ks++[(k,w,c)])) (c+1)):=by
   unfold LD;rw[f];show some (O.map (Yw ks++[_]) _)=_;unfold Yw;rw[Mw];rfl
  refine⟨h.put l (.map (Yw (ks++[(k,w,c)])) (c+1)),?_,iZ _,H.Au hi (lP.put _ rfl b) ⟨⟨_,_,fY _ b,?_,λk' w'=>?_⟩,b,o⟩ λ_ h=> .inl h⟩
  ·unfold MT FP;simp[m,ft,r,HY]
  ·rw[Mw,wBO];refine⟨n,by simp,λx hx y s e=>?_⟩;obtain⟨z,u,rfl⟩:=Kj.1 hx;obtain rfl:y=k:=by simpa using s
   exact a z u e
  ·by_cases e:k' = k
   ·subst e;rw[jz];constructor
    ·intro v;cases v;exact⟨c,wBY _ (by simp)⟩
    ·rintro⟨t,ht⟩;rcases EG.1 ht with ht|ht
     ·exact absurd rfl (a _ ht)
     ·let⟨_,A⟩:=Prod.mk.inj (Pl.1 ht)
      rw[(Prod.mk.inj A).1]
   ·rw[iX _ _ e,d];exact⟨λ⟨t,ht⟩=>⟨t,Ti _ ht⟩,λ⟨t,ht⟩=>⟨t,(EG.1 ht).elim id λht=>absurd (Prod.mk.inj (Pl.1 ht)).1 e⟩⟩
 ·exact absurd rfl (a _ (zD q))
theorem Yu{ks:List (oX×Nat×Nat)}(f:(ks.map Prod.fst).Nodup){i j:Nat}{a b:oX×Nat×Nat}(g:ks[i]? =some a)(hb:ks[j]? =some b)(k:a.1=b.1):i=j:=by
 have c:(ks.map Prod.fst)[i]? =some a.1:=by rw[zq,g];rfl
 have l:(ks.map Prod.fst)[j]? =some b.1:=by rw[zq,hb];rfl
 rw[k]at c
 let⟨p1,d⟩:=jo.1 c
 let⟨p2,e⟩:=jo.1 l
 have hp:=wA6.1 f;rcases wB1 i j with h|h|h
 ·exact absurd (d.trans e.symm) (hp i j p1 p2 h)
 ·exact h
 ·exact absurd (e.trans d.symm) (hp j i p2 p1 h)
theorem ev.zgw(H:ev F h cs)(i:Nat)(hi:cs[i]? =some (RY l S))(k:oX):∃h',Ci zT wN (.map l) (.agg (Jx k)) h=some (.val (.tuple []) h')/\h.next<=h'.next/\ev F h' (cs.set i (RY l (up S k none)))/\Sn F h F h':=by
 let⟨⟨ks,c,d,f,o⟩,a,p⟩:=H.ok i _ hi
 rcases V8 k ks 0 with⟨g,b⟩|⟨j,w,t,g,b⟩
 ·refine ⟨h,?_,iZ _,H.swap hi ⟨⟨ks,c,d,f,λk' w'=>?_⟩,a,p⟩ λ_ h=>h,Sn.refl _ _⟩
  ·unfold Ci FP;simp[d,ft,g,HY]
  ·by_cases e:k' = k
   ·subst e;rw[jz];exact⟨λh=>(nomatch h),λ⟨t,ht⟩=>absurd rfl (b _ ht)⟩
   ·rw[iX _ _ e,o]
 ·refine ⟨h.put l (.map (Yw (ks.eraseIdx j)) c),?_,iZ _,H.Au hi (lP.put _ rfl a) ⟨⟨_,_,fY _ a,?_,λk' w'=>?_⟩,a,p⟩ λ_ h=> .inl h⟩
  ·unfold Ci FP;simp[d,ft,g,HY];unfold Yw;rw[US]
  ·rw[US];exact f.sublist (List.eraseIdx_sublist ..)
  ·have m:∀x,x∈ks.eraseIdx j↔∃q,q≠j/\ks[q]? =some x:=λx=>List.mem_eraseIdx_iff_getElem?;by_cases e:k' = k
   ·subst e;rw[jz];refine⟨λh=>(nomatch h),λ⟨t',ht⟩=>?_⟩
    let⟨q,hq,hx⟩:=(m _).1 ht
    exact absurd (Yu f hx b rfl) hq
   ·rw [iX _ _ e,o];constructor
    ·rintro⟨t',ht⟩
     let⟨q,hq⟩:=mn.1 ht
     refine⟨t',(m _).2 ⟨q,λn=>?_,hq⟩⟩;subst n;rw[b]at hq;exact e (Prod.mk.inj (Option.some.inj hq)).1.symm
    ·rintro⟨t',ht⟩
     let⟨q,_,hq⟩:=(m _).1 ht
     exact⟨t',zD hq⟩
end
open Un Dm
section
variable{F F':Nat->Prop}{h h':Hp}{cs ds:List Pc}{Q:fq}{u:U}{wv wb ws jC kv:V}{ln Tn lm:Nat}{az:List Int}{S:oX->Option Nat}
theorem zbQ{op:Nat}(H:Q (.bool (jJ op)) h):cP CS JG [.I op] h Q:=by
 refine Vt ?_;refine eh (nW ..) (eh ?_ H);unfold jJ;by_cases c:2<=op
 ·rw[JO c,JO (by omega)];show ez .leq 3 (.I op) (.I 16)=_;rw[KA,wBd];congr 2;exact decide_eq_decide.2 (by omega)
 ·rw[Li c,Li (by omega)];rfl
theorem zdW(H0:ev F h cs){i j:Nat}{D:List V}(hi:cs[i]? =some (eJ ln Tn D))(r:D[5]? =some jC)(hj:cs[j]? =some (fg eZ eR az jC)){x:Vl}{s:V}(f:il eN F h x.args s)(hl:x.op=21\/x.op=20->x.args.length<=1000000)(P:∀w∈gG x,w<az.length)(aa:(gG x).length<=1000000)
  (H:∀F' h',Sn F h F' h'->ev F' h' cs->Q (.agg (Jx (Un.keyOf (jy az) x))) h'):cP CS qv [.ptr ln 0,.agg (mh x s)] h Q:=by
 refine Gu ?_;refine j4 H0 (by simp only[mh,eQ,f.one];rfl) λE H1 R=>pz H1 λG S T=>?_;generalize h.next=l3 at*;generalize E.next=l4 at*;refine oF (S.ld 1 rfl rfl) (eh (rfl) ?_);refine gQ S rfl rfl rfl λh3 U W=>?_;generalize G.next=p at*;refine eh (U.mY 2 rfl rfl) ?_;refine KV U (((f.since R).since T).since W) hl λI h4 uv s4 C J=>?_;have t:=((R.trans T).trans W).trans s4;have v:∀{a b c:Pc},(a::b::c::cs)[i+3]? =some (eJ ln Tn D):=λ{_ _ _}=>by simpa using hi
 have y:∀{a b c:Pc},(a::b::c::cs)[j+3]? =some (fg eZ eR az jC):=λ{_ _ _}=>by simpa using hj
 have at_:∀n,J5 (jy az) (gG x) n=match (gG x)[n]? with|some w=>jy az w|none=>-1:=λ_=>rfl
 have X:∀{q d},Sn F h q d->ev q d (eJ p 133 [.I x.op,.I (J5 (jy az) (gG x) 0),.I (J5 (jy az) (gG x) 1),.I 0]::eJ l4 133 [.I 0,.I 0,.I 0,.I 0]::eJ l3 45 (mh x s)::cs)->
   lI Q [.ptr l3 0,.ptr l4 0,.ptr p 0] d:=λ{q d} z e=>by
  refine Cl ?_;unfold uL;have Y:∀{k},Sn q d q k->ev q k (eJ p 133 (Jx (Un.keyOf (jy az) x))::eJ l4 133 [.I 0,.I 0,.I 0,.I 0]::eJ l3 45 (mh x s)::cs)->lJ Q [.ptr l4 0,.ptr p 0] k:=λ{k} l g=>by
   refine Cm ?_;unfold vw;refine eh (g.mY 0 rfl rfl) ?_
   let⟨h7,e7,_,Z,s7⟩:=g.Qy 1 (n:=4) (ws:=Jx (Un.keyOf (jy az) x)) rfl rfl rfl rfl
   rw[e7,en];refine eh (Z.mY 1 rfl rfl) ?_;exact H _ _ ((z.trans l).trans s7) Z.tail.tail.tail
  refine oF (e.ld 2 rfl rfl) (fX ?_);have hk:∀n,(x.op=2->n=x.n)->(x.op≠2->n=0)->Jx (Un.keyOf (jy az) x)=[.I x.op,.I (J5 (jy az) (gG x) 0),.I (J5 (jy az) (gG x) 1),.I n]:=λn E G=>by
   unfold Un.keyOf Jx;by_cases c:x.op=2
   ·rw[if_pos c,E c]
   ·rw[if_neg c,G c]
  by_cases c:x.op=2
  ·refine fW (by omega) (oF (e.ld 2 rfl rfl) (eh pf ?_))
   let⟨k,A,_,g,l⟩:=e.st 0 (o:=0+3) (u:= .I x.n) rfl (by simp) rfl
   rw[A,en];refine Y l ?_;rw[hk x.n (λ_=>rfl) λh=>absurd c h];exact g
  ·refine fP (by omega) (Y (Sn.refl _ _) ?_);rw[hk 0 (λh=>absurd h c) λ_=>rfl];exact e
 have k4:∀{d},Sn I h4 I d->ev I d (eJ p 133 [.I x.op,.I (J5 (jy az) (gG x) 0),.I (-1),.I 0]::eJ l4 133 [.I 0,.I 0,.I 0,.I 0]::eJ l3 45 (mh x s)::cs)->
   lG Q [.ptr ln 0,.ptr l3 0,.ptr l4 0,.ptr p 0,uv] d:=λ{d} z e=>by
  refine CO ?_;unfold uU;have r5:=J.since z;refine eh r5.len (AQ ?_);by_cases c:1<(gG x).length
  ·have B:=gN c;have m:=P _ (zI c);generalize (gG x)[1]=w at*
   let⟨l6,o6,_,K,L⟩:=r5.nat B .i64
   have f:=gN m
   let⟨l7,o7,M,N⟩:=e.Sh (j+3) y f .i64
   refine fW (by omega) (oN (e.ld (i+3) v r) (eh K (eh L (eh M (eh N (eh pf ?_))))))
   let⟨k,A,O,g,l⟩:=e.st 0 (o:=0+2) (u:= .I az[w]) rfl (by simp) rfl
   rw[A,en];refine⟨O,X ((t.trans z).trans l) ?_⟩;rw[at_ 1,B,<-He f]at*;exact g
  ·refine fP (by omega) (X (t.trans z) ?_);rw[at_ 1,Q9 (by omega)];exact e
 refine eh J.len (AQ ?_);by_cases c:0<(gG x).length
 ·have B:=gN c;have m:=P _ (zI c);generalize (gG x)[0]=w at*
  let⟨l6,o6,_,K,L⟩:=J.nat B .i64
  have f:=gN m
  let⟨l7,o7,M,N⟩:=C.Sh (j+3) y f .i64
  refine fW (by omega) (oN (C.ld (i+3) v r) (eh K (eh L (eh M (eh N (eh pf ?_))))))
  let⟨k,A,O,g,l⟩:=C.st 0 (o:=0+1) (u:= .I az[w]) rfl (by simp) rfl
  rw[A,en];refine⟨O,k4 l ?_⟩;rw[at_ 0,B,<-He f]at*;exact g
 ·refine fP (by omega) (k4 (Sn.refl _ _) ?_);rw[at_ 0,Q9 (by omega)];exact C
abbrev Nm(ln Tn:Nat) (u:U) (wv wb ws jC kv:V) (lm:Nat) (az:List Int) (S:oX->Option Nat) (ds:List Pc):List Pc:=
 eJ ln Tn [.I u.func,.I u.pc,wv,wb,ws,jC,kv,.map lm]::fg eZ eR az jC::RY lm S::ds
theorem zbL{az:List Int}{v:Nat}{a:Int}(h:v<az.length):jy (az.set v a) v=a:=He (MR h)
theorem zdF{az:List Int}{v w:Nat}{a:Int}(h:w≠v):jy (az.set v a) w=jy az w:=by
 unfold jy;rw[CH,CH,I9 λe=>h e.symm]
theorem XM{x:Vl}(h:jJ x.op=true):(gG x).length<=2:=by
 rw[rj]at h;unfold gG;rw[if_neg (by omega)];split
 ·omega
 ·split
  ·simp
  ·split <;> simp
theorem T5(g:Good u){b:Nat}{B:Bk}{vl:List Nat}{O:Nat->Prop}(H0:ev F h (Nm ln Tn u wv wb ws jC kv lm az S ds))(hu:tL F h u wv wb ws)(aa:az.length=u.ej.length)(M:∀(v:Nat) a,az[v]? =some a->a<az.length)(N:u.blocks[b]? =some B)
  (hw:NW u (Pv u (·∈vl) b 0) O (jy az) S) (hb:b ∉ vl) (Ma:∀c,c≠b->mz (next u) c b->c∈vl) (hO:∀c,O c↔mz (next u) c b)
  (H:∀F' h' jD P l v,Sn F h F' h'->ev F' h' (Nm ln Tn u wv wb ws jC kv lm jD P ds)->jD.length=u.ej.length->(∀(v:Nat) a,jD[v]? =some a->a<jD.length)->NW u (Ux u (b::vl)) O (jy jD) P->il eKy F' h' l v->l.length<=3000->DH u (Ux u (b::vl)) (jy jD) b l->
   (∀c l,c≠b->DH u (Ux u vl) (jy az) c l->DH u (Ux u (b::vl)) (jy jD) c l)->Q v h') :
  cP CS me [.ptr ln 0,.I b] h Q:=by
 refine Eg ?_;have nv:=g.nv
 let⟨lb,ob,bv,bn,bp,_,x1,_,xv,_,_,xb⟩:=hu.nJ N
 have aj:=iP _ B.ej (wM g N) λv hv=>by
  let⟨k,hk⟩:=mn.1 hv
  exact g.iM v b k ⟨B,N,hk⟩
 refine eh pn (eh pf (oF (H0.ld 0 rfl rfl) (eh x1 (oF xb.ej (eh xv.len ?_)))))
 obtain ⟨J,hJ⟩:∃J,J=λk l h'=>∃(F':Nat->Prop) (i:Nat) (jD:List Int) (P:oX->Option Nat) (R:List oX) (lv:V),l=[.ptr ln 0,lv,bv,.I B.ej.length,.I i]/\i+k=B.ej.length/\Sn F h F' h'/\jD.length=u.ej.length/\(∀(v:Nat) a,jD[v]? =some a->a<jD.length)/\NW u (Pv u (·∈vl) b i) O (jy jD) P/\R.length<=i/\DH u (Pv u (·∈vl) b i) (jy jD) b R/\
   (∀c l,c≠b->DH u (Pv u (·∈vl) b 0) (jy az) c l->DH u (Pv u (·∈vl) b i) (jy jD) c l)/\ev F' h' (fg eKy zT R lv::Nm ln Tn u wv wb ws jC kv lm jD P ds):=⟨_,rfl⟩
 refine Be J (λk x0 lv ak al am h1 hi=>?_) (k:=B.ej.length) ?_;rotate_left
 ·rw[hJ];refine⟨F,0,az,S,[],.ei,rfl,by omega,Sn.refl _ _,aa,M,hw,iZ _,λk=>⟨λh=>(nomatch h),λ⟨w,y,c,i,h1,_,_,_,T,h6,_⟩=>?_⟩,λ_ _ _ h=>h,H0.add .nil λ_ h=>h⟩;rw[RU]at h1
  let⟨c',i',a1,a2⟩:=h1
  obtain⟨rfl,rfl⟩:=g.Ao _ _ _ _ _ T a1;subst h6;exact absurd a2 hb
 rw[hJ]at hi;obtain⟨F1,i,m,S1,R,_,⟨⟩,hk,U,q,o,s,an,a1,t,H1⟩:=hi;unfold rE;by_cases hi:i<B.ej.length;rotate_left
 ·refine hY ?_;obtain rfl:i=B.ej.length:=by omega
  let⟨K,W,r2⟩:=H1.jc 0 rfl
  rw[zdr N]at s a1 t;rw[RU]at t;exact H _ _ m S1 R lv (U.trans W) K.tail q o s r2 (by omega) a1 t
 refine gy ?_;have hv:=gN hi;generalize B.ej[i]=v at*;have f:At u v b i:=⟨B,N,hv⟩
 have X:=g.iM v b i f;have hx:=gN X;generalize u.ej[v]=x at*;have u1:=hu.since U
 let⟨l2,o2,_,y1,y2⟩:=(xv.since U).nat hv .i64
 let⟨l3,o3,wa,_,z1,z2,za,_⟩:=u1.val hx
 refine eh y1 (eh y2 (eh pn (eh pf (oF (H1.ld 1 rfl rfl) (eh z1 (eh z2 ?_))))));refine gQ H1 rfl rfl (by simp only[mh,eQ,za.one];rfl) λh2 K W=>?_
 have k8:∀{F8 h8 n S8 r z},Sn F h F8 h8->n.length=u.ej.length->(∀v (a:Int),n[v]? =some a->a<n.length)->NW u (Pv u (·∈vl) b (i+1)) O (jy n) S8->r.length<=i+1->DH u (Pv u (·∈vl) b (i+1)) (jy n) b r->
   (∀c l,c≠b->DH u (Pv u (·∈vl) b i) (jy m) c l->DH u (Pv u (·∈vl) b (i+1)) (jy n) c l)->ev F8 h8 (fg eKy zT r z::Nm ln Tn u wv wb ws jC kv lm n S8 ds)->jj Q (Es J k) [.ptr ln 0,z,bv,.I B.ej.length,.I i] h8:=λ{F8 h8 n S8 r z} s8 ab Y n8 ac a8 ad H8=>by
  refine A3 ?_;unfold rO;refine fF ⟨k-1,by omega,?_⟩;rw[hJ];exact⟨F8,i+1,n,S8,r,z,rfl,by omega,s8,ab,Y,n8,ac,a8,λc l hc ha=>ad c l hc (t c l hc ha),H8⟩
 have A:∀w y,Pv u (·∈vl) b i w->u.ej[w]? =some y->jJ y.op=true->∀p∈gG y,Pv u (·∈vl) b i p:=λw y a b c p d=>s.part g a b c d;have C:jJ x.op=true->∀p∈gG x,Pv u (·∈vl) b i p:=λhp p ae=>HO g hb f Ma (Jt g f hx hp ae);have fk:∀{qW:Nat->Int},(∀w,w≠v->qW w=jy m w)->∀c l,c≠b->DH u (Pv u (·∈vl) b i) (jy m) c l->DH u (Pv u (·∈vl) b (i+1)) qW c l:=λag c l hc ha=>ha.step g hb f hx A C ag λG=>⟨.inl,λh=>h.elim id λh=>absurd h.1 hc⟩
 refine oF (K.ld 0 rfl rfl) (zbQ (pY ?_))
 cases hp:jJ x.op with
 | false=>
   refine fP (by simp) (k8 (U.trans W) q o (s.skip g hb f hx Ma hp) (by omega) ?_ (fk λ_ _=>rfl) K.tail)
   exact a1.step g hb f hx A C (λ_ _=>rfl) λG=>⟨.inl,λh=>h.elim id λh=>by rw[hp]at h;cases h.2.1⟩
 | true =>
   refine fW rfl (eh (K.mY 0 rfl rfl) ?_);have ah:∀w∈gG x,w<m.length:=λw hw=>by rw[q];exact uP (g.use v x hx w hw)
   have ao:=XM hp;refine zdW K (i:=2) (j:=3) rfl rfl rfl (za.since W) (λh=>by rw[rj]at hp;omega) ah (by omega) λF3 h3 s3 H3=>?_;generalize hke:Un.keyOf (jy m) x=ke at*;refine gQ H3 rfl rfl rfl λh4 D s4=>?_;have Z:=((U.trans W).trans s3).trans s4;refine oN (D.ld 3 rfl rfl) (eh (D.mY 0 rfl rfl) (eh (D.ze7 5 rfl ke _) ?_))
   cases hS:S1 ke with
   | some w=>
     refine eh (rfl) (eh (rfl) (iB (fW rfl ?_)))
     let⟨l5,o5,T,q1,q2,_,L,s5⟩:=D.IH 4 rfl (k:=v) (u:=V.I (w:Nat)) (by omega) rfl rfl rfl
     refine oN (D.ld 3 rfl rfl) (eh q1 ?_);rw[q2,en];simp[ pJ]at L;have ap:w<u.ej.length:=by
       let⟨y,_,_,_,h,_⟩:=(s.known _ _).1 hS
       exact(jo.1 h).1
     have E:jy (m.set v (w:Int)) v=(w:Int):=zbL (by omega);have I:∀w',w'≠v->jy (m.set v (w:Int)) w' = jy m w':=λw' h=>zdF h;have ai:jy (m.set v (w:Int)) v≠(v:Int):=λe=>by
       rw[E]at e
       let⟨_,_,_,hP,_⟩:=(s.known _ _).1 hS
       exact JU g hb f ((Int.ofNat.inj e:w=v)▸hP)
     rw[<-hke]at hS;refine k8 (Z.trans s5) (by rw[Lj];exact q) (λv' a' h=>?_) (s.there g hb f hx Ma hO hp hS E I) (by omega) ?_ (fk I) L.tail.tail
     ·rw[Lj]
      by_cases e:v' = v
      ·subst e
       rw[MR (by omega)]at h;cases h;omega
      ·rw[I9 λh=>e h.symm]at h
       exact o v' a' h
     ·exact a1.step g hb f hx A C I λG=>⟨.inl,λh=>h.elim id λh=>absurd h.2.2.1 ai⟩
   | none=>
     refine eh (rfl) (eh (rfl) (iB (fP (by simp) ?_)))
     let⟨T,q5,n5,L,s5⟩:=D.iO 5 rfl hS v
     refine oN (D.ld 3 rfl rfl) (eh (D.mY 0 rfl rfl) ?_);rw[show MT zT wN (.map lm) (.agg (Jx ke)) (.I (v:Nat)) h4=_ from q5,en];simp[ pJ]at L;refine⟨n5,eh (L.mY 0 rfl rfl) ?_⟩;rw[show iS 133 4 1 (.agg [.I 0,.I 0,.I 0,.I 0]) [(0,.agg (Jx ke))]=_ from nM rfl rfl rfl,fu]
     let⟨lv6,h6,q6,_,H6,s6⟩:=L.rZ 2 rfl (jL:=32) (GA:=133) (w:=Jx ke) (ro:=false) rfl (by decide) (by decide) (by omega)
     rw[show fi 133 4 32 lv (.slice T.next 0 1) (T.new (.cells 133 4 true false (Jx ke)))=_ from q6,en];simp[ pJ]at H6;rw[<-hke]at hS;refine k8 ((Z.trans s5).trans s6) q o (s.fresh g hb f hx Ma hO hp hS (by rw[hke,jz]) λk hk=>iX _ _ (by rw[<-hke];exact hk)) (by simp;omega) ?_ (fk λ_ _=>rfl) H6.tail.tail;refine a1.step g hb f hx A C (λ_ _=>rfl) λG=>?_;rw[EG,Pl,hke];exact⟨λh=>h.imp id λh=>⟨rfl,hp,s.stay v X (JU g hb f),h.symm⟩,λh=>h.imp id λh=>h.2.2.2.symm⟩
end
open Un Dm
abbrev W8:Nat:=129
def eVs:qf (Nat×Nat×List oX) where
 sz:=3
 rel F h x cs:=∃w,cs=[.I (x.1:Nat),.I (x.2.1:Nat),w]/\il eKy F h x.2.2 w
 len:=λ⟨w,h,_⟩=>by subst h;rfl
 one:=λ⟨w,h,hs⟩=>by subst h;simp only[eQ,hs.one];rfl
 fk:=λa ⟨w,h,hs⟩=>⟨w,h,hs.fk a⟩
 mono:=λa ⟨w,h,hs⟩=>⟨w,h,hs.mono a⟩
section
variable{F F':Nat->Prop}{h h':Hp}{cs ds:List Pc}{Q:fq}{u:U}{wv wb ws jC kv:V}{ln Tn lm:Nat}{az:List Int}{S:oX->Option Nat}
theorem SK{lv:V}(c:lv.one=true)(a b:Int):fT [.I 0,.I 0,.ei] [(0,1),(1,1),(2,1)] [(0,.I a),(1,.I b),(2,lv)]=some (.agg [.I a,.I b,lv]):=by
 cases lv <;> first|rfl|cases c
theorem zb1(g:Good u){I:Nat->Nat}{G:Dm.Gr}{kl:List (List Nat)}(H0:ev F h (Nm ln Tn u wv wb ws jC kv lm az (λ_=>none) ds))(hu:tL F h u wv wb ws)(U:az=(List.range u.ej.length).map λ(i:Nat)=>(i:Int))(hk:il (eL eN) F h kl kv)(ag:∀b,b<u.blocks.length->kl[b]? =some (kd u I b))
  (hT:Tree G I (λb=>b<u.blocks.length)) (hA:∀x b,b<u.blocks.length->(qD I x b↔mz (next u) x b))
  (H:∀F' h' jD,Sn F h F' h'->ev F' h' (eJ ln Tn [.I u.func,.I u.pc,wv,wb,ws,jC,kv,.map lm]::fg eZ eR jD jC::ds)->jD.length=u.ej.length->(∀(v:Nat) a,jD[v]? =some a->a<jD.length)->N8 u (jy jD)->Q (.tuple []) h') :
  cP CS pT [.ptr ln 0] h Q:=by
 refine EA ?_;have nb:=g.nb;have I5:=g.I5;have hlen:az.length=u.ej.length:=by rw[U];simp
 have D:∀v a,az[v]? =some a->v<u.ej.length/\a=(v:Int):=λv a h=>by
  have d:=(jo.1 h).1;rw[hlen]at d;rw[U,zq,wBk d]at h;exact⟨d,(Option.some.inj h).symm⟩
 obtain⟨B0,ah⟩:∃B,u.blocks[0]? =some B:=⟨_,gN (by omega)⟩
 have ai:∀v,v<u.ej.length->jy az v=(v:Int):=λv hv=>by
  have d:=gN (l:=az) (i:=v) (by omega);rw[He d];exact(D v _ d).2
 refine T5 g H0 hu hlen (λv a h=>by let⟨d,h2⟩:=D v a h;omega) ah (nw0 u ai) (List.not_mem_nil) (λc hc hd=>absurd (zdb.2 hd) hc) (λc=>zdb) λF1 d aj S1 l1 p s1 H1 ak W n1 r1 al a1 _=>?_;refine eh (SK r1.one 0 0) ?_;have ow:gj [V.I 0,.I 0,p]=true:=by simp[eQ,r1.one];rfl
 rw[show iS 129 3 1 (.agg [.I 0,.I 0,.ei]) [(0,.agg [.I 0,.I 0,p])]=_ from nM rfl rfl ow,fu]
 let⟨H2,s2⟩:=H1.TC (E:=eVs) (xs:=[(0,0,l1)]) W8 rfl ⟨_,[],(Lg _).symm,⟨p,rfl,r1⟩,trivial⟩ ow
 have H2:ev F1 (d.new (.cells 129 3 true false [.I 0,.I 0,p])) (fg eVs W8 [(0,0,l1)] (.slice d.next 0 1)::_):=H2;have s2:Sn F1 d F1 (d.new (.cells 129 3 true false [.I 0,.I 0,p])):=s2;have ns:=NS.start g (I:=I) n1 a1 λb h0 hb e=>by
  have:=(hT.up b hb h0).2;rw[e]at this;exact wBc _ this
 have am:∀{r S st vl},NS u I r S st vl->st.length<=vl.length:=λ{r S st vl} n=>by
  have:=sub_le (st.map (·.1)) vl n.sn λx hx=>by
   let⟨f,d,h2⟩:=Kj.1 hx
   exact h2▸n.sv f d
  simpa using this
 obtain ⟨J,hJ⟩:∃J,J=λk l h'=>∃(F':Nat->Prop) (jD:List Int) (X:oX->Option Nat) (st:List (Nat×Nat×List oX)) (vl:List Nat) (xv:V),l=[.ptr ln 0,xv]/\k=2*(u.blocks.length-vl.length)+st.length/\Sn F h F' h'/\jD.length=u.ej.length/\(∀(v:Nat) a,jD[v]? =some a->a<jD.length)/\NS u I (jy jD) X st vl/\(∀f∈st,f.2.2.length<=3000)/\
   ev F' h' (fg eVs W8 st xv::Nm ln Tn u wv wb ws jC kv lm jD X ds):=⟨_,rfl⟩
 refine BS J (λk x0 xv h3 hi=>?_) (k:=2*(u.blocks.length-1)+1) ?_;rotate_left
 ·rw[hJ];exact⟨F1,aj,S1,_,_,_,rfl,rfl,s1.trans s2,ak,W,ns,λf o=>by rw[Pl.1 o];exact al,H2⟩
 rw[hJ]at hi;obtain⟨F3,N,S3,st,vl,_,⟨⟩,an,Y,O,q,n3,z,K⟩:=hi;have aC:=n3.le;have ao:=am n3;unfold tU;refine eh (K.len 0 rfl) (AQ ?_);rcases VG st with rfl|⟨pre,⟨b,m,l⟩,rfl⟩
 ·refine fP (by simp) ?_;exact H _ _ N Y (K.perm [1,2] 4 (by decide) (by decide) (by simp)) O q (n3.done g hT)
 have P:(pre++[(b,m,l)]).length=pre.length+1:=by simp
 rw[P]at ao an⊢;have A:(b,m,l)∈pre++[(b,m,l)]:=by simp
 have ap:=n3.vlt b (n3.sv _ A);have L:pre.length<(pre++[(b,m,l)]).length:=by omega
 refine fW (by omega) (eh (K.len 0 rfl) ?_);rw[P];refine sR (by omega) (by omega) ?_;rw[Nat.add_sub_cancel];obtain⟨lx,ox,w,x1,_,⟨lv,rfl,r3⟩,x4⟩:=K.ixO 0 rfl L .i64;have Z:(pre++[(b,m,l)])[pre.length]=(b,m,l):=by simp
 rw[Z]at x4 r3;have y0:=x4 0 _ rfl;have y1:fe (.ptr lx (ox+1)) h3=some (.I m):=x4 1 _ rfl;have y2:=x4 2 _ rfl
 let⟨l4,o4,kw,_,z1,z2,z3⟩:=(hk.since Y).list (ag b ap) .i64
 have z2:=z2;refine eh x1 (oN y1 (oN (K.ld 1 rfl rfl) (oN y0 (eh z1 (eh z2 (eh z3.len (fX ?_)))))));have s0:=n3.fr _ A;have aD:m<=(kd u I b).length:=s0.1;have aE:(kd u I b).length<=u.blocks.length:=by
  exact Gq (Zu ..) (by simp)
 by_cases hm:m=(kd u I b).length
 ·refine fW (by omega) (oN y2 (eh r3.len ?_));have aa:=z _ A;have aa:l.length<=3000:=aa;obtain⟨J1,R⟩:∃J1,J1=λk l' h'=>∃X i,l' = [.ptr ln 0,xv,lv,.I l.length,.I (i:Nat)]/\i+k=l.length/\Sn F3 h3 F3 h'/\(∀k,X k=if k∈l.take i then none else S3 k)/\ev F3 h' (fg eVs W8 (pre++[(b,m,l)]) xv::Nm ln Tn u wv wb ws jC kv lm N X ds):=⟨_,rfl⟩
  refine Bl J1 (λk1 x0 x2 aF aG aH h4 hi=>?_) (k:=l.length) ?_;rotate_left
  ·rw[R];exact⟨S3,0,rfl,by omega,Sn.refl _ _,λk=>by simp,K⟩
  rw[R]at hi;obtain⟨S4,i,⟨⟩,aI,s4,T,C⟩:=hi;unfold th;by_cases hi:i<l.length
  ·refine gy ?_;have aq:=M4 hi
   let⟨l5,o5,w5,_,q1,q2,q3,_⟩:=(r3.since s4).ix hi .i64
   obtain rfl:w5=Jx l[i]:=q3;generalize l[i]=ke at*;refine eh q1 (eh q2 ?_);refine gQ C rfl rfl rfl λh5 M s5=>?_
   let⟨h6,q6,n6,H6,s6⟩:=M.zgw 4 rfl ke
   refine oN (M.ld 2 rfl rfl) (eh (M.mY 0 rfl rfl) ?_);rw[show Ci zT wN (.map lm) (.agg (Jx ke)) h5=_ from q6,en];simp[ pJ]at H6;refine⟨n6,fF ⟨k1-1,by omega,?_⟩⟩;rw[R];refine⟨_,i+1,rfl,by omega,(s4.trans s5).trans s6,λk=>?_,H6.tail⟩;rw[aq];by_cases e:k=ke
   ·subst e;rw[jz,if_pos (by simp)]
   ·rw[iX _ _ e,T k];simp[e]
  ·refine hY ?_;obtain rfl:i=l.length:=by omega
   rw[I2]at T;refine eh (C.len 0 rfl) ?_;rw[P];refine sR (by omega) (by omega) ?_;rw[Nat.add_sub_cancel]
   let⟨xv5,q5,M⟩:=C.za8 0 rfl (n:=pre.length) (by omega)
   rw[List.take_left' rfl]at M;refine eh q5 ⟨2*(u.blocks.length-vl.length)+pre.length,by omega,?_⟩;rw[hJ];exact⟨F3,N,S4,pre,vl,xv5,rfl,rfl,Y.trans s4,O,q,n3.pop g hm T,λf o=>z f (Ti _ o),M⟩
 have ar:m<(kd u I b).length:=by omega
 have ht:=gN ar;generalize (kd u I b)[m]=t at*
 let⟨t1,t2,t3,t4⟩:=n3.new ht
 let⟨l6,o6,_,q1,q2⟩:=z3.nat ht .i64
 refine fP (by omega) (oN (K.ld 1 rfl rfl) (oN y0 (eh z1 (eh z2 (oN y1 (eh q1 (eh q2 (oN y1 ?_))))))));refine fF ?_
 let ⟨l7,o7,h4,p1,p2,_,C,s4⟩:=K.stP 0 rfl (k:=pre.length) (j:=1) (y:=(b,m+1,l)) (u:= .I ((m+1:Nat):Int)) L (by decide) rfl λw hw=>by
  rw[Z]at hw
  let⟨w2,e,hs⟩:=hw
  subst e;exact⟨w2,rfl,hs⟩
 rw[show eVs.sz=3 from rfl,show gB 3 xv (.I pre.length)=some (.ptr lx ox) from x1]at p1;cases p1;refine eh pn (eh pf ?_);rw[p2,en];have ab:(pre++[(b,m,l)]).set pre.length (b,m+1,l)=pre++[(b,m+1,l)]:=by simp
 rw[ab]at C;simp[oU]at C;have C:=C.J0 3 (by simp);obtain⟨B,hB⟩:∃B,u.blocks[t]? =some B:=⟨_,gN t2⟩
 have ac:=λc=>(n3.anc ht c).trans (hA c t t2);refine T5 g C ((hu.since Y).since s4) O q hB (n3.ready ht g) t1 (λc hc hd=>?_) ac λF5 h5 au S5 l5 s s5 M aw ad n5 r5 ax a5 ae=>?_
 ·rcases(ac c).2 hd with h|h
  ·let⟨f,d,h2⟩:=Kj.1 h
   exact h2▸n3.sv f d
  ·exact absurd h hc
 refine eh (SK r5.one _ _) ?_;have ay:gj [V.I t,.I 0,s]=true:=by simp only[eQ,r5.one];rfl
 rw[show iS 129 3 1 (.agg [.I 0,.I 0,.ei]) [(0,.agg [.I t,.I 0,s])]=_ from nM rfl rfl ay,fu]
 let⟨xv6,h6,q6,_,H6,s6⟩:=M.rZ 3 rfl (jL:=40) (GA:=129) (y:=(t,0,l5)) (w:=[.I t,.I 0,s]) (ro:=false) ⟨s,rfl,r5⟩ (by decide) (by decide) (by simp;omega)
 rw[show fi 129 3 40 xv (.slice h5.next 0 1) (h5.new (.cells 129 3 true false [.I t,.I 0,s]))=_ from q6,en];have aA:(t::vl).length=vl.length+1:=rfl;have aB:=(n3.push ht g n5 a5 ae).le;rw[aA]at aB;refine⟨2*(u.blocks.length-(vl.length+1))+(pre.length+2),by omega,?_⟩;rw[hJ];refine⟨F5,au,S5,_,_,xv6,rfl,by simp,((Y.trans s4).trans s5).trans s6,aw,ad,n3.push ht g n5 a5 ae,λf o=>?_,H6.perm [3,0,1,2] 4 (by decide) (by decide) (by simp)⟩;rcases EG.1 o with o|o
 ·rcases EG.1 o with o|o
  ·exact z f (Ti _ o)
  ·rw[Pl.1 o];exact show l.length<=3000 from z (b,m,l) A
 ·rw[Pl.1 o];exact ax
end
open Un Dm
section
variable{F F':Nat->Prop}{h h':Hp}{cs:List Pc}{Q:fq}{u:U}{vv vb vs:V}
theorem ev.zad{α:Type}{E:qf α}{Sl ty:Nat}{GZ:List (List α)}{v:V}{ds:List V}(H:ev F h cs)(i:Nat)(hi:cs[i]? =some (B3 E Sl ty GZ v ds)){b:Nat}(hb:b<GZ.length){jL GA:Nat}{y:α}{w:List V}{ro:Bool}(g:E.rel F h y w)(u:0<E.sz)(k:jL<=1000)(hlen:GZ[b].length<1000000)
  {d d':V} {q:Hp} (r:ds[b]? =some d) (x:fi ty E.sz jL d (.slice h.next 0 1) (h.new (.cells GA E.sz true ro w))=some (.val d' q)) {j:Nat} {c:Pc} (z:j≠i) (hc:cs[j]? =some c):c.ok F q:=by
 obtain⟨t,rfl,_,_,_,D,A,_,_⟩:=H.ok i _ hi;have hO:=A b _ d (gN hb) r;have m:=mn.2 ⟨b,r⟩;have n:kV E ty F (h.new (.cells GA E.sz true ro w)) GZ[b] d:=hO.fk (λl a=>fo _ (H.fl l a)) (λl a=>fo _ (hO.vV a).2.1) (PH _);have hx:kX (h.new (.cells GA E.sz true ro w)) E.sz (.slice h.next 0 1)=some (1,w):=mU (by rw[E.len g];simp);have B:(GZ[b].length+1)*jL<=1000000*1000:=Nat.mul_le_mul (by omega) k
 let⟨d',C,s,_,o,_⟩:=n.append (jL:=jL) (ys:=[y]) hx ⟨w,[],by simp,E.fk (λl a=>fo _ (H.fl l a)) g,trivial⟩ (by rw[E.len g];simp) (E.one g) (by simp) u (λl a=>wBf (H.fl l a)) (by simp;omega) (by simp;omega)
 rw[x]at s;cases s;have G:(h.new (.cells GA E.sz true ro w)).next=h.next+1:=rfl;have f:=H.ok j c hc;refine c.fk f (λl a=>?_) (λl a=>?_) (by have:=o.next;omega)
 ·rw[o.fk l (by have:=H.fl l a;omega) λe=>(hO.vV e).2.2 a,fo _ (H.fl l a)]
 ·have p:=(c.Nn f l a).1;rw[o.fk l (by omega) λe=>H.Et j i c _ hc hi z l a (.inr ⟨d,m,e⟩),fo _ p]
def Gf(u:U)(I:Nat->Nat)(i b:Nat):List Nat:=(List.range i).filter λt=>t != 0&&I t == b
theorem Qg(u:U)(I:Nat->Nat)(i b:Nat):Gf u I (i+1) b=if i≠0/\I i=b then Gf u I i b++[i] else Gf u I i b:=by
 unfold Gf;rw[YN,wBp];by_cases c:i≠0/\I i=b
 ·rw[if_pos c,wBm,if_pos (by rw[vU,wB2,Bg];exact c)];rfl
 ·rw[if_neg c,wBm,if_neg (by rw[vU,wB2,Bg];exact c)];simp
theorem zaN(u:U)(I:Nat->Nat)(i b:Nat):(Gf u I i b).length<=i:=by
 exact Gq (Zu ..) (by simp)
theorem zdC{l ty:Nat}{a b c d e f g k:V}(H:ev F h cs)(i:Nat)(hi:cs[i]? =some (eJ l ty [a,b,c,d,e,f,g,k])):fO 5 (.ptr l 0) h=some (.agg [a,b,c,d,e]):=by
 rw[Bf (H.get i hi)];rfl
theorem XN(g:Good u)(ha:rM u)(H0:ev F h cs)(D:tL F h u vv vb vs)
  (H:∀F' h' az wv wb ws,Sn F h F' h'->ev F' h' cs->N8 u (jy az)->az.length=u.ej.length->tL F' h' (gU u (jy az)) wv wb ws->Q (.agg (uC (gU u (jy az)) wv wb ws)) h') :
  cP CS qh [.agg (uC u vv vb vs)] h Q:=by
 refine M1 ?_;have nv:=g.nv;have nb:=g.nb;refine j4 H0 D.one λh1 H1 s1=>pz H1 λh2 H2 s2=>?_;generalize h.next=l1 at*;generalize h1.next=l2 at*;refine eh (H2.mY 1 rfl rfl) ?_;refine OH g H2 ((D.since s1).since s2) λF3 h3 s3 H3=>?_;refine pY (fW rfl ?_);have R:=(s1.trans s2).trans s3;have u3:=D.since R;refine eh (H3.mY 1 rfl rfl) (eh (H3.mY 1 rfl rfl) ?_);rw[gO];have g4:=fm h3 (.map [] 0)
 let⟨H4,s4⟩:=H3.new (p:=zgu (λl=>l=h3.next) (h3.new (.map [] 0))) (.map [] 0) (λl hl=>by subst hl;exact⟨rfl,Pf _,H3.fresh⟩) λ_ e=>e
 generalize h3.next=lm at*;refine⟨⟨g4,O.RS 0⟩,H4.mY 2 rfl rfl,H4.mY 2 rfl rfl,?_⟩;refine Nq (AI g ha) H4 (u3.since s4) λF5 h5 wv wb ws xs bs ss fa fn fl s5 hc hb hs H5=>⟨s5.next,⟨((H5.ok 6 _ rfl) lm rfl).1.trans g4,O.RS 0⟩,H5.mY 8 rfl rfl,?_⟩
 have S:=(R.trans s4).trans s5;have u5:=D.since S
 let⟨G,H6,s6,w6⟩:=H5.Tf hc hb hs
 have an:=S.trans s6;refine Nj D.one (u5.since s6).v.len nv H6 λh7 jC s7 H7=>⟨s7.next,?_⟩
 have ea:=H7.one 0 rfl;have hp:fT [.I 0,.I 0,.ei,.ei,.ei,.ei,.ei,.oH] [(0,5),(5,1),(6,1),(7,1)] [(0,V.agg (uC u wv wb ws)),(1,jC),(3,.map lm)]=some (V.agg [.I u.func,.I u.pc,wv,wb,ws,jC,.ei,.map lm]):=by
  rcases H7.row 0 rfl with⟨rfl,_⟩|⟨t,aI,rfl,_⟩ <;> rfl
 refine eh hp ?_;have w7:=w6.since s7;refine Sf H7 (by simp only[eQ,w7.v.one,w7.b.one,w7.s.one,ea];rfl) λK s8=>?_;have g8:=((K.ok 2 _ rfl) lm rfl).1.trans g4;have ao:=(K.ok 2 _ rfl) lm rfl;refine⟨⟨fm _ _,bq⟩,⟨g8,O.RS 0⟩,?_⟩;have K:=K.swap (i:=2) (p:=RY lm λ_=>none) rfl ⟨⟨[],0,g8,List.nodup_nil,λk w=>⟨λh=>(nomatch h),λ⟨_,h⟩=>(nomatch h)⟩⟩,ao.2⟩ λ_ e=>e;simp[ pJ]at K;generalize h7.new (.cells 92 1 true false [.I u.func,.I u.pc,wv,wb,ws,jC,.ei,.map lm])=h8 at*;generalize h7.next=ln at*;have T:=(an.trans s7).trans s8;have u8:=D.since T;refine oF (K.ld 4 rfl rfl) (eh u8.b.len ?_);rw[jE rfl (by decide) (by omega),fu]
 let⟨H9,s9⟩:=K.R0 (E:=eN) (Sl:=iU) (ty:=eR) u.blocks.length
 have H9:=H9;have s9:=s9;generalize h8.next=L at*
 let⟨aJ,ap,_,M,U⟩:=H9.st 1 (o:=0+6) (u:= .slice L 0 u.blocks.length) rfl (by simp) rfl
 refine eh pn (eh pf ?_);rw[ap,en];simp[ pJ]at M;have C:=(T.trans s9).trans U;refine eh (M.mY 5 rfl rfl) ?_;refine Jf g M (D.since C) λc aq dv Ea I seen post Gg W X rd Y Z ar hT hA=>?_;have aa:=C.trans W;refine eh rd.len ?_;have au:List.replicate u.blocks.length ([]:List Nat)=(List.range u.blocks.length).map (Gf u I 0):=by
  refine wBy (by simp) λi h1 h2=>?_;simp[Gf]
 rw[au]at X
 obtain ⟨J,hJ⟩:∃J,J=λk l h'=>∃(i:Nat) (dl:List V),l=[.ptr l2 0,.ptr ln 0,dv,.I Ea.length,.I i]/\i+k=u.blocks.length/\Sn c aq c h'/\
   ev c h' (B3 eN iU eR ((List.range u.blocks.length).map (Gf u I i)) (.slice L 0 u.blocks.length) dl::eJ ln 92 [.I u.func,.I u.pc,wv,wb,ws,jC,.slice L 0 u.blocks.length,.map lm]::fg eZ eR ((List.range u.ej.length).map λ(i:Nat)=>(i:Int)) jC::RY lm (λ_=>none)::eJ l2 gJ [.I 0,.I 0,.ei,.ei,.ei]::eJ l1 gJ (uC u vv vb vs)::cs):=⟨_,rfl⟩
 refine JH J (λk x2 x3 aK aL aM A hi=>?_) (k:=u.blocks.length) ?_;rotate_left
 ·rw[hJ];exact⟨0,_,rfl,by omega,Sn.refl _ _,X⟩
 rw[hJ]at hi;obtain⟨i,dl,⟨⟩,hk,m,f⟩:=hi;unfold AM;rw[Y];have ab:=((((w7.since s8).since s9).since U).since W).since m;by_cases hi:i<u.blocks.length;rotate_left
 ·refine hY ?_;obtain rfl:i=u.blocks.length:=by omega
  let⟨aN,q,r,aw⟩:=f.Rh 0 rfl
  have q:=q.tail;refine zb1 g q (ab.since r) rfl aw (λb hb=>?_) hT hA λaO ax az B x al sub hN=>?_
  ·rw[zq,wBk hb];rfl
  have ay:=(ab.since r).since B;refine eh pn (eh (gf _ _ _) (eh (zdC x 0 rfl) (oN (x.ld 0 rfl rfl) ?_)));refine Xe g ha al sub (x.perm [1,0,2,3] 4 (by decide) (by decide) (by simp)) ay λaA aP ac ad ae ag N ah=>⟨ag.next,?_⟩
  have N:=N
  let⟨aB,aC,aD,P,ai⟩:=N.Qy 1 (ws:=uC (gU u (jy az)) ac ad ae) (n:=5) rfl rfl rfl ah.one
  rw[aC,en];refine⟨aD,?_⟩;simp[ pJ]at P;refine eh (P.mY 1 rfl rfl) ?_;exact H aA aB az ac ad ae (((((aa.trans m).trans r).trans B).trans ag).trans ai) P.tail.tail.tail hN al (ah.since ai)
 refine gy ?_
 have aj:∀{a dl},Sn c A c a->ev c a (B3 eN iU eR ((List.range u.blocks.length).map (Gf u I (i+1))) (.slice L 0 u.blocks.length) dl::eJ ln 92 [.I u.func,.I u.pc,wv,wb,ws,jC,.slice L 0 u.blocks.length,.map lm]::fg eZ eR ((List.range u.ej.length).map λ(i:Nat)=>(i:Int)) jC::RY lm (λ_=>none)::eJ l2 gJ [.I 0,.I 0,.ei,.ei,.ei]::eJ l1 gJ (uC u vv vb vs)::cs)->
   pb Q (Es J k) [.ptr l2 0,.ptr ln 0,dv,.I u.blocks.length,.I i] a:=λ{a dl} r q=>by
  refine IJ ?_;unfold zW;refine fF ⟨k-1,by omega,?_⟩;rw[hJ,Y];exact⟨i+1,dl,rfl,by omega,m.trans r,q⟩
 by_cases h0:i=0
 ·subst h0
  let⟨l6,o6,_,q1,q2⟩:=(rd.since m).int Z .i64
  refine eh q1 (eh q2 (PO (fP (by omega) (aj (dl:=dl) (Sn.refl _ _) ?_))));have e:(List.range u.blocks.length).map (Gf u I (0+1))=(List.range u.blocks.length).map (Gf u I 0):=Ym λb _=>by rw[Qg,if_neg λh=>h.1 rfl]
  rw[e];exact f
 let⟨l6,o6,_,q1,q2⟩:=(rd.since m).int (ar i h0 hi) .i64
 have aE:=(hT.up i hi h0).1;refine eh q1 (eh q2 (PO (fW (by omega) ?_)));have z:I i<((List.range u.blocks.length).map (Gf u I i)).length:=by simpa using aE
 have aF:((List.range u.blocks.length).map (Gf u I i))[I i]'z=Gf u I i (I i):=by simp
 have hlen:(((List.range u.blocks.length).map (Gf u I i))[I i]'z).length<1000000:=by
  rw[aF];have:=zaN u I i (I i);omega
 let⟨l,d,d',a,ax,hd,hl,e1,e2,e3,e4,e5,e6,x,B⟩:=f.Ri 0 rfl z (jL:=8) (GA:=3) (y:=i) (w:=[.I i]) (ro:=false) rfl (by decide) (by decide) hlen
 have aG:=f.zad 0 rfl z (jL:=8) (GA:=3) (y:=i) (w:=[.I i]) (ro:=false) rfl (by decide) (by decide) hlen hd e3 (j:=1) (by decide) rfl;have aH:fi 3 1 8 d (.slice A.next 0 1) (A.new (.cells 3 1 true false (ig [i])))=some (.val d' a):=e3;have cn:fe (.ptr ln (0+6)) A=some (.slice L 0 u.blocks.length):=f.ld 1 rfl rfl;have ak:fe (.ptr ln (0+6)) a=some (.slice L 0 u.blocks.length):=kP aG.1 rfl;have am:=(f.ok 1 _ rfl).2.1;refine oN cn (oN cn (eh e1 (eh e2 ?_)));rw[mH,gO];refine⟨⟨fm _ _,bq⟩,ij e2 (fo _ hl),ij cn (fo _ am),ij cn (fo _ am),?_⟩;rw[aH,en];refine⟨e4,eh e1 ⟨ak,?_⟩⟩;rw[e5,en];refine⟨e6,aj (dl:=dl.set (I i) d') B ?_⟩;have e:((List.range u.blocks.length).map (Gf u I i)).set (I i) (((List.range u.blocks.length).map (Gf u I i))[I i]'z++[i])=(List.range u.blocks.length).map (Gf u I (i+1)):=by
  refine wBy (by simp) λb h1 h2=>?_;rw[List.getElem_set];simp[List.getElem_map,List.getElem_range];rw[Qg];by_cases eb:I i=b
  ·subst eb;simp[h0]
  ·rw[if_neg eb,if_neg λh=>eb h.2]
 rw[<-e];exact x
end
open Un Dm
section
variable{F F':Nat->Prop}{h h':Hp}{cs:List Pc}{Q:fq}{u:U}{vv vb vs:V}
structure TmS (u:U) (P:Nat->Prop) (ys:List Vl):Prop where
 len:ys.length=u.ej.length
 one:∀v x,u.ej[v]? =some x->(ys[v]? =some x\/ys[v]? =some (zK v x))/\(P v->ys[v]? =some (zK v x))
theorem TmS.step{P c:Nat->Prop} {ys a:List Vl}(t:TmS u P ys){v:Nat}{x:Vl}(hx:u.ej[v]? =some x)(d:a[v]? =some (zK v x))(f:∀w,w≠v->a[w]? =ys[w]?)(g:a.length=ys.length)(hP:∀w,c w->P w\/w=v):TmS u c a:=by
 refine⟨g.trans t.len,λw y b=>?_⟩;by_cases e:w=v
 ·subst e;rw[hx]at b;cases b;exact⟨.inr d,λ_=>d⟩
 ·rw[f w e];exact⟨(t.one w y b).1,λh=>(t.one w y b).2 ((hP w h).elim id λh=>absurd h e)⟩
theorem TmS.all{P:Nat->Prop}{ys:List Vl}(t:TmS u P ys)(h:∀v,v<u.ej.length->P v):ys=(B5 u).ej:=by
 refine wBL λv=>?_;by_cases hv:v<u.ej.length
 ·have hx:=gN hv;rw[(t.one v _ hx).2 (h v hv),Uh hx]
 ·have e:(B5 u).ej.length=u.ej.length:=List.length_mapIdx;rw[Q9 (by rw[t.len];omega),Q9 (by omega)]
def PT(u:U)(i j v:Nat):Prop:=∃c k,At u v c k/\(c<i\/c=i/\k<j)
theorem za5{u:U}{v:Nat}{x y:Vl}(h:y=x\/y=zK v x):(y.op=19\/y.op=20->x.op=19\/x.op=20)/\(¬(y.op=19\/y.op=20)->y=zK v x):=by
 by_cases c:x.op=19\/x.op=20
 ·refine⟨λ_=>c,λa=>h.elim (λe=>absurd (e▸c) a) id⟩
 ·rw[Hz c]at h⊢;have e:=h.elim id id;exact⟨λh=>e▸h,λ_=>e⟩
theorem zbF(g:Good u)(H0:ev F h cs)(hu:tL F h u vv vb vs)
  (H:∀F' h' wv wb,Sn F h F' h'->ev F' h' cs->tL F' h' (B5 u) wv wb vs->Q (.agg (uC (B5 u) wv wb vs)) h') :
  cP CS rY [.agg (uC u vv vb vs)] h Q:=by
 refine GO ?_;have nv:=g.nv;have nb:=g.nb;refine j4 H0 hu.one λI H1 s1=>pz H1 λd H2 s2=>?_;generalize h.next=l1 at*;generalize I.next=l2 at*;rw[C8,fu]
 let⟨H3,s3⟩:=H2.TC (E:=eV) (xs:=[]) gK (ws:=[]) rfl trivial rfl
 have H3:ev F (d.new (.cells 45 6 true false [])) (fg eV gK [] (.slice d.next 0 0)::_):=H3;have s3:Sn F d F (d.new (.cells 45 6 true false [])):=s3;generalize d.new (.cells 45 6 true false [])=M at*;generalize d.next=lz at*;have u3:=((hu.since s1).since s2).since s3
 let⟨xv,V,e4,_,H4,s4⟩:=H3.OV 0 rfl (jL:=64) u3.v (by decide) (by decide) (by simp;omega)
 refine oF (H3.ld 2 rfl rfl) ?_;rw[show fi 45 6 64 (.slice lz 0 0) vv M=_ from e4,en];simp[ UA]at H4;have ai:=((s1.trans s2).trans s3).trans s4
 let J:Nat->LP:=λk l h'=>∃F' i ys m,l=[.ptr l1 0,.ptr l2 0,xv,m,.I (i:Nat)]/\i+k=u.blocks.length/\Sn F h F' h'/\TmS u (PT u i 0) ys/\
   ev F' h' (fg eV gK ys xv::fg eK fJ (u.blocks.take i) m::eJ l2 gJ [.I 0,.I 0,.ei,.ei,.ei]::eJ l1 gJ (uC u vv vb vs)::cs)
 refine Dd J (λk x1 x2 x3 m x5 h5 hi=>?_) (k:=u.blocks.length) ?_;rotate_left
 ·refine⟨F,0,u.ej,.ei,rfl,by omega,ai,⟨rfl,λv x hx=>⟨.inl hx,λ⟨c,k,_,h⟩=>by omega⟩⟩,?_⟩;have:=(H4.add (p:=fg eK fJ [] .ei) .nil λ_ h=>h).sw;exact this
 obtain⟨W,i,ys,_,⟨⟩,hk,s5,t5,X⟩:=hi;unfold vZ;have u5:=hu.since s5;refine oF (X.ld 3 rfl rfl) (eh u5.b.len ?_);by_cases hi:i<u.blocks.length;rotate_left
 ·refine hY ?_;obtain rfl:i=u.blocks.length:=by omega
  have ey:=t5.all λv hv=>by
   let⟨b,j,A⟩:=g.B6 v hv trivial
   exact⟨b,j,A,.inl (let⟨_,K,_⟩:=A;(jo.1 K).1)⟩
  subst ey;rw[I2]at X
  let⟨h6,e6,_,Y,s6⟩:=X.st 3 (o:=0+2) rfl (by simp[uC]) (X.one 0 rfl)
  refine eh pf ?_;rw[e6,en];simp[ pJ]at Y
  let⟨Z,e7,_,f,s7⟩:=Y.st 3 (o:=0+3) rfl (by simp[uC]) (Y.one 1 rfl)
  refine eh pf ?_;rw[e7,en];simp[ pJ]at f
  let⟨t,L,r8⟩:=f.jc 0 rfl
  simp[oU]at t
  let⟨q,N,r9⟩:=t.jc 1 rfl
  simp[ pJ]at q;have aa:=((s6.trans s7).trans L).trans N;have w9:tL _ Z (B5 u) xv m vs:=⟨r8.since N,r9,(u5.since aa).s⟩
  have q:ev _ Z (emp::emp::eJ l2 gJ _::eJ l1 gJ (uC (B5 u) xv m vs)::cs):=q;refine eh (q.mY 3 rfl rfl) ?_
  let⟨ab,O,_,r,C⟩:=q.Qy 2 (n:=5) rfl rfl rfl w9.one
  rw[O,en];simp[ pJ]at r;refine eh (r.mY 2 rfl rfl) ?_;exact H _ ab xv m ((s5.trans aa).trans C) r.tail.tail.tail.tail (w9.since C)
 refine gy ?_;have K:=gN hi;have aj:=M4 hi;generalize u.blocks[i]=B at*
 let⟨lb,ob,bv,bn,bp,_,y1,y2,iv,iN,ip,_⟩:=u5.nJ K
 refine oF (X.ld 3 rfl rfl) (eh y1 (eh y2 ?_));refine gQ X rfl rfl (by simp only[ku,eQ,iv.one,iN.one,ip.one];rfl) λh6 Y s6=>?_;generalize h5.next=lx at*;have am:=iP _ B.ej (wM g K) λv hv=>by
  let⟨k,hk⟩:=mn.1 hv
  exact g.iM v i k ⟨B,K,hk⟩
 obtain ⟨J1,P⟩:∃J1,J1=λk l h'=>∃j ys z,l=[.ptr l1 0,.ptr l2 0,xv,m,.I i,.ptr lx 0,z,.I (j:Nat)]/\j+k=B.ej.length/\Sn W h6 W h'/\TmS u (PT u i j) ys/\
   ev W h' (fg eN eR (B.ej.take j) z::eJ lx 43 (ku B bv bn bp)::fg eV gK ys xv::fg eK fJ (u.blocks.take i) m::eJ l2 gJ [.I 0,.I 0,.ei,.ei,.ei]::eJ l1 gJ (uC u vv vb vs)::cs):=⟨_,rfl⟩
 refine DE J1 (λk1 x1 x2 x3 x4 x5 x6 z x8 Z ac=>?_) (k:=B.ej.length) ?_;rotate_left
 ·rw[P];exact⟨0,ys,.ei,rfl,by omega,Sn.refl _ _,t5,Y.add .nil λ_ h=>h⟩
 rw[P]at ac;obtain⟨j,ys,_,⟨⟩,an,s7,t7,f⟩:=ac;unfold wu;have ad:=s6.trans s7;have R:=iv.since ad;refine oF (f.ld 1 rfl rfl) (eh R.len ?_);by_cases hj:j<B.ej.length;rotate_left
 ·refine hY ?_;obtain rfl:j=B.ej.length:=by omega
  rw[I2]at f
  let⟨t,L,r8⟩:=f.jc 0 rfl
  simp[oU]at t
  let⟨h9,e9,_,q,N⟩:=t.st 1 (o:=0+0) rfl (by simp[ku]) r8.one
  refine eh pf ?_;rw[e9,en];simp[ pJ]at q;refine eh (q.mY 1 rfl rfl) ?_;have S:=(ad.trans L).trans N;have o1:gj (ku B z bn bp)=true:=by simp only[ku,eQ,r8.one,iN.one,ip.one];rfl
  rw[show iS 43 6 1 (.agg [.ei,.I 0,.I 0,.ei,.ei,.I 0]) [(0,.agg ((ku B bv bn bp).set (0+0) z))]=_ from nM rfl rfl o1,fu]
  let⟨bw2,ab,O,_,r,C⟩:=q.rZ 3 rfl (jL:=96) (GA:=43) (ro:=false) ⟨z,bn,bp,rfl,r8.since N,iN.since S,ip.since S⟩ (by decide) (by decide) (by simp;omega)
  rw[show fi 43 6 96 m (.slice h9.next 0 1) (h9.new (.cells 43 6 true false ((ku B bv bn bp).set (0+0) z)))=_ from O,en];refine fF ⟨k-1,by omega,?_⟩;refine⟨_,i+1,ys,bw2,rfl,by omega,(s5.trans S).trans C,⟨t7.len,λv x hx=>⟨(t7.one v x hx).1,λ⟨c,k,I,d⟩=>(t7.one v x hx).2 ⟨c,k,I,?_⟩⟩⟩,?_⟩
  ·rcases Ub c i with M|M
   ·exact .inl M
   ·have:c=i:=by omega
    subst this
    let⟨B',V,h5⟩:=I
    rw[K]at V;cases V;exact .inr ⟨rfl,(jo.1 h5).1⟩
  ·rw[aj];exact r.tail.tail
 refine gy ?_;have hv:=gN hj;have ae:=M4 hj;generalize B.ej[j]=v at*;have A:At u v i j:=⟨B,K,hv⟩
 have T:=g.iM v i j A;have hx:=gN T;generalize u.ej[v]=x at*
 let⟨l3,o3,_,q1,q2⟩:=R.nat hv .i64
 obtain⟨y,hy⟩:∃y,ys[v]? =some y:=⟨_,gN (by rw[t7.len];exact T)⟩
 have D:v<ys.length:=by rw[t7.len];exact T
 have ak:y=x\/y=zK v x:=by
  rcases(t7.one v x hx).1 with h|h <;> rw[hy]at h <;> cases h
  ·exact .inl rfl
  ·exact .inr rfl
 let⟨ho1,ho2⟩:=za5 (u:=u) ak
 let⟨l4,o4,w4,z1,_,⟨wa,ew,_⟩,z4⟩:=f.ixO 2 rfl D .i64
 have al:=Option.some.inj ((gN D).symm.trans hy);rw[al]at ew;subst ew;have z0:=z4 0 _ rfl;have ag:∀w,PT u i (j+1) w->PT u i j w\/w=v:=λw ⟨c,k,I,d⟩=>by
  rcases d with d|⟨rfl,d⟩
  ·exact .inl ⟨c,k,I,.inl d⟩
  ·by_cases e:k=j
   ·subst e
    let⟨B',M,V⟩:=I
    rw[K]at M;cases M;rw[hv]at V;exact .inr (Option.some.inj V).symm
   ·exact .inl ⟨c,k,I,.inr ⟨rfl,by omega⟩⟩
 have ah:∀{U G},Sn W Z W U->TmS u (PT u i (j+1)) G->ev W U (fg eN eR (B.ej.take j) z::eJ lx 43 (ku B bv bn bp)::fg eV gK G xv::fg eK fJ (u.blocks.take i) m::eJ l2 gJ [.I 0,.I 0,.ei,.ei,.ei]::eJ l1 gJ (uC u vv vb vs)::cs)->
   lF Q (Es J k) (Es J1 k1) [.ptr l1 0,.ptr l2 0,xv,m,.I i,.ptr lx 0,z,.I j] U:=λ{U G} L t8 t=>by
  refine CG ?_;unfold vg
  let⟨l5,o5,_,p1,p2⟩:=(R.since L).nat hv .i64
  refine oF (t.ld 1 rfl rfl) (eh p1 (eh p2 ?_));rw[mH,fu]
  let⟨lw9,h9,e9,_,q,N⟩:=t.rZ 0 rfl (jL:=8) (GA:=3) (w:=ig [v]) (ro:=false) rfl (by decide) (by decide) (by simp;omega)
  rw[show fi 3 1 8 z (.slice U.next 0 1) (U.new (.cells 3 1 true false (ig [v])))=_ from e9,en];refine fF ⟨k1-1,by omega,?_⟩;rw[P];exact⟨j+1,G,lw9,rfl,by omega,(s7.trans L).trans N,t8,by rw[ae];exact q⟩
 refine oF (f.ld 1 rfl rfl) (eh q1 (eh q2 (eh z1 (oF z0 (eh (gR ..) (eh (a:= .bool (decide (y.op=19\/y.op=20))) ?_ (iB ?_)))))))
 ·simp only[ft,gR,uN];congr 2;rw[Wr,OK,Bg,Bg,zX];omega
 by_cases c:y.op=19\/y.op=20
 ·refine fW (JO c) (oF (f.ld 1 rfl rfl) (eh q1 (eh q2 (oF (f.ld 1 rfl rfl) (eh q1 (eh q2 ?_))))));refine eh (show _=some (.agg (mh ⟨2,0,0,(v:Int),[],0⟩ .ei)) from rfl) ?_
  let⟨l6,o6,U,p1,p2,n8,t,L⟩:=f.stE 2 rfl D (ws:=mh ⟨2,0,0,(v:Int),[],0⟩ .ei) ⟨.ei,rfl,.inl ⟨rfl,rfl⟩⟩
  refine eh p1 ?_;rw[show gq 6 (.ptr l6 o6) _ Z=_ from p2,en];refine⟨n8,ah L (t7.step hx ?_ (λw hw=>I9 λe=>hw e.symm) (by simp) ag) t⟩;rw[MR D,LX (ho1 c)]
 ·refine fP (by rw[zX];exact c) (ah (Sn.refl _ _) (t7.step hx (hy.trans (congrArg some (ho2 c))) (λ_ _=>rfl) rfl ag) f)
end
