/- Parts. -/
import Derived.Test.YtkpicojjjifmgabGreatDoorM39
import Derived.Test.YtkpicojjjifmgabGreatDoorM46
import Derived.Test.YtkpicojjjifmgabGreatDoorM37
set_option maxHeartbeats 4000000
namespace Go.Proofs.YtkpicojjjifmgabGreatDoor.Hx
open Un Dm
abbrev zJ:Nat:=107
def Jr(k:oR):List V:=[.I (k.1:Nat),.I k.2.1,.I k.2.2.1,.I k.2.2.2]
def eKy:qp oR where
 sz:=4
 rel _ _ k cs:=cs=Jr k
 len h:=by subst h;rfl
 one h:=by subst h;rfl
 fj _ h:=h
 mono _ h:=h
noncomputable def isInt(t:Nat):Bool:=match P0.underlying t with
 |some (.int _)=>true
 |_=>false
theorem Z5:(match wN with
  |some [a,b,c,d]=>(a.offset == 0&&b.offset == 1&&c.offset == 2&&d.offset == 3)&&(isInt a.type&&isInt b.type&&isInt c.type&&isInt d.type)
  |_=>false)=true:=by kernel_rfl
theorem QK{t:Nat}(h:isInt t=true)(a b:Int):E8 t (.I a) (.I b)=some (a == b):=by
 unfold isInt at h;unfold E8;split at h
 ·rename_i e;rw[e];rfl
 ·cases h
theorem Se:∃f g i j,wN=some [f,g,i,j]/\f.offset=0/\g.offset=1/\i.offset=2/\j.offset=3/\isInt f.type=true/\isInt g.type=true/\isInt i.type=true/\isInt j.type=true:=by
 have h:=Z5;split at h
 ·rename_i a b c d e;simp only[vH,Cw]at h;obtain⟨⟨⟨⟨k,l⟩,m⟩,n⟩,⟨⟨o,p⟩,q⟩,r⟩:=h;exact⟨a,b,c,d,e,k,l,m,n,o,p,q,r⟩
 ·cases h
theorem Hz(k:oR):Jf wN (.agg (Jr k))=true:=by
 obtain⟨a,b,c,d,e,h0,g,h,i,_⟩:=Se;rw[e];show([a,b,c,d].all λf=>(Ef (Jr k) f.offset).isSome)=true;simp only[wBp,List.all_nil,h0,g,h,i];rfl
theorem Y2(a b:oR):Ny zJ wN (.agg (Jr a)) (.agg (Jr b))=some (decide (a=b)):=by
 obtain ⟨i,j,k,l,e,h0,m,n,o,q,r,s,t⟩:=Se;rw[e];show Mi [i,j,k,l] (Jr a) (Jr b)=_;have z:∀f fs x y (u v:Int),Ef x f.offset=some (.I u)->Ef y f.offset=some (.I v)->isInt f.type=true->Mi (f::fs) x y=if u=v then Mi fs x y else some false:=λf fs x y u v w hv ht=>by
  show oB (Ef x f.offset) _=_;rw[w];show oB (Ef y f.offset) _=_;rw[hv];show oB (E8 f.type _ _) _=_;rw[QK ht];by_cases c:u=v
  ·rw[if_pos c,Cw.2 c];rfl
  ·rw[if_neg c,Wc.2 c];rfl
 obtain⟨a1,a2,a3,A⟩:=a;obtain⟨b1,b2,b3,B⟩:=b;rw[z i _ _ _ _ _ (by rw[h0];rfl) (by rw[h0];rfl) q,z j _ _ _ _ _ (by rw[m];rfl) (by rw[m];rfl) r,z k _ _ _ _ _ (by rw[n];rfl) (by rw[n];rfl) s,z l _ _ _ _ _ (by rw[o];rfl) (by rw[o];rfl) t];simp only[Prod.mk.injEq];by_cases p:a1=b1
 ·rw [if_pos (show(a1:Int)=b1 by omega)];by_cases c2:a2=b2
  ·rw [if_pos c2];by_cases d:a3=b3
   ·rw[if_pos d];by_cases g:A=B
    ·rw[if_pos g,JM ⟨p,c2,d,g⟩];rfl
    ·rw[if_neg g,KM λh=>g h.2.2.2]
   ·rw[if_neg d,KM λh=>d h.2.2.1]
  ·rw[if_neg c2,KM λh=>c2 h.2.1]
 ·rw[if_neg (show ¬(a1:Int)=b1 by omega),KM λh=>p h.1]
def WH(ks:List (oR×Nat×Nat)):List (V×V×Nat):=ks.map λe=>(.agg (Jr e.1),.I (e.2.1:Nat),e.2.2)
theorem Uy{α β:Type}(f:α->β):∀(l:List α)(i:Nat),(l.eraseIdx i).map f=(l.map f).eraseIdx i
 |[],_=>rfl
 |_::_,0=>rfl
 |a::l,i+1=>congrArg (f a::·) (Uy f l i)
def N1(l:Nat)(S:oR->Option Nat):Pc where
 mn:=λm=>m=l
 ok F h:=(∃ks c,h.get l=some (.map (WH ks) c)/\(ks.map Prod.fst).Nodup/\∀k w,S k=some w↔∃t,(k,w,t)∈ks)/\l<h.next/\¬F l
 MB:=λh _ e=>by subst e;exact h.2
 fj:=λ⟨⟨ks,c,d,f⟩,b⟩ _ a g=>⟨⟨ks,c,(a l rfl).trans d,f⟩,EK b.1 g,b.2⟩
 mono:=λh _ a=>⟨h.1,h.2.1,a l rfl⟩
theorem VY(k:oR):∀(ks:List (oR×Nat×Nat))(i:Nat),
  (rQ zJ wN (.agg (Jr k)) (WH ks) i=some none/\∀e∈ks,e.1≠k)\/∃j w t,rQ zJ wN (.agg (Jr k)) (WH ks) i=some (some (i+j,.I (w:Nat)))/\ks[j]? =some (k,w,t)
 |[],i=> .inl ⟨rfl,λ_ h=>by cases h⟩
 | e ::es,i=>by
   have a:rQ zJ wN (.agg (Jr k)) (WH (e::es)) i=if k=e.1 then some (some (i,.I (e.2.1:Nat))) else rQ zJ wN (.agg (Jr k)) (WH es) (i+1):=by
     show oB (Ny zJ wN (.agg (Jr k)) (.agg (Jr e.1))) _=_;rw[Y2];by_cases hk:k=e.1
     ·rw[if_pos hk,JM hk];rfl
     ·rw[if_neg hk,KM hk];rfl
   by_cases hk:k=e.1
   ·rw[if_pos hk]at a
    exact .inr ⟨0,e.2.1,e.2.2,a,by rw[hk];rfl⟩
   ·rw[if_neg hk]at a
    rcases VY k es (i+1)with⟨b,c⟩|⟨j,w,t,b,c⟩
    ·exact .inl ⟨a.trans b,λd f=>(IS.1 f).elim (λh=>by rw[h];exact λh=>hk h.symm) (c d)⟩
    ·exact .inr ⟨j+1,w,t,by rw[a,b];congr 3;omega,c⟩
section
variable{F F':Nat->Prop}{h h':Hp}{cs ds:List Pc}{Q:fD}{l:Nat}{S:oR->Option Nat}
theorem eo.zdJ(H:eo F h cs)(i:Nat)(hi:cs[i]? =some (N1 l S))(k:oR)(z:V):LU zJ wN z true (.map l) (.agg (Jr k)) h=some (.tuple (match S k with|some w=>[.I w,.bool true]|none=>[z,.bool false])):=by
 obtain ⟨⟨ks,c,f,m,d⟩,_⟩:=H.ok i _ hi;have e:∀r,rQ zJ wN (.agg (Jr k)) (WH ks) 0=some r->LU zJ wN z true (.map l) (.agg (Jr k)) h=some (found z true r):=λr g=>by
  unfold LU Ac;simp only[f,fo,Hz,oV];rw[g];rfl
 rcases VY k ks 0 with⟨a,b⟩|⟨j,w,t,a,b⟩
 ·rw[e _ a]
  cases hS:S k with
  |none=>rfl
  | some v=>
    obtain⟨t,ht⟩:=(d k v).1 hS;exact absurd rfl (b _ ht)
 ·rw[e _ a,(d k w).2 ⟨t,DG b⟩];rfl
theorem eo.jd(H:eo F h cs)(i:Nat)(hi:cs[i]? =some (N1 l S)){k:oR}(g:S k=none)(w:Nat):∃h',J4 zJ wN (.map l) (.agg (Jr k)) (.I w) h=some (.val .undef h')/\h.next<=h'.next/\eo F h' (cs.set i (N1 l (up S k (some w))))/\Sn F h F h':=by
 obtain ⟨⟨ks,c,m,n,d⟩,b,o⟩:=H.ok i _ hi;have a:∀e∈ks,e.1≠k:=λe q r=>by
  obtain⟨k',w',t⟩:=e;obtain rfl:k' = k:=r;have:=(d k' w').2 ⟨t,q⟩;rw[g]at this;cases this
 rcases VY k ks 0 with⟨f,_⟩|⟨j,w',t,f,s⟩
 ·have u:Lf zJ wN (WH ks) c (.agg (Jr k)) (.I w)=some (.map (WH (ks++[(k,w,c)])) (c+1)):=by
   unfold Lf;rw[f];show some (O.map (WH ks++[_]) _)=_;unfold WH;rw[Lj];rfl
  refine⟨h.put l (.map (WH (ks++[(k,w,c)])) (c+1)),?_,jO _,H.Cq (p:=N1 l (up S k (some w))) hi (mA.put _ rfl b) ⟨⟨_,_,gj _ b,?_,λk' w'=>?_⟩,b,o⟩ λ_ h=> .inl h⟩
  ·unfold J4 Ac;simp only[m,fo,u,Hz,oV]
  ·rw[Lj,ZL];refine⟨n,by simp,λx hx y v e=>?_⟩;obtain⟨z,A,rfl⟩:=MI.1 hx;obtain rfl:y=k:=by simpa using v
   exact a z A e
  ·by_cases e:k' = k
   ·subst e;rw[jn];constructor
    ·intro B;cases B;exact⟨c,wBR _ (by simp)⟩
    ·rintro⟨t,ht⟩;rcases He.1 ht with ht|ht
     ·exact absurd rfl (a _ ht)
     ·obtain⟨_,C⟩:=Prod.mk.inj (QJ.1 ht);rw[(Prod.mk.inj C).1]
   ·rw[jk _ _ e,d];exact⟨λ⟨t,ht⟩=>⟨t,SN _ ht⟩,λ⟨t,ht⟩=>⟨t,(He.1 ht).elim id λht=>absurd (Prod.mk.inj (QJ.1 ht)).1 e⟩⟩
 ·exact absurd rfl (a _ (DG s))
theorem W4{ks:List (oR×Nat×Nat)}(f:(ks.map Prod.fst).Nodup){i j:Nat}{a b:oR×Nat×Nat}(g:ks[i]? =some a)(hb:ks[j]? =some b)(k:a.1=b.1):i=j:=by
 have c:(ks.map Prod.fst)[i]? =some a.1:=by rw[Dn,g];rfl
 have l:(ks.map Prod.fst)[j]? =some b.1:=by rw[Dn,hb];rfl
 rw[k]at c;obtain⟨p1,d⟩:=ki.1 c;obtain⟨p2,e⟩:=ki.1 l;have hp:=wA5.1 f;rcases wBi i j with h|h|h
 ·exact absurd (d.trans e.symm) (hp i j p1 p2 h)
 ·exact h
 ·exact absurd (e.trans d.symm) (hp j i p2 p1 h)
theorem eo.zfo(H:eo F h cs)(i:Nat)(hi:cs[i]? =some (N1 l S))(k:oR):∃h',Cp zJ wN (.map l) (.agg (Jr k)) h=some (.val (.tuple []) h')/\h.next<=h'.next/\eo F h' (cs.set i (N1 l (up S k none)))/\Sn F h F h':=by
 obtain⟨⟨ks,c,d,f,o⟩,a,r⟩:=H.ok i _ hi;rcases VY k ks 0 with⟨g,b⟩|⟨j,w,t,g,b⟩
 ·refine ⟨h,?_,jO _,H.swap hi ⟨⟨ks,c,d,f,λk' w'=>?_⟩,a,r⟩ λ_ h=>h,Sn.refl _ _⟩
  ·unfold Cp Ac;simp only[d,fo,g,Hz,oV]
  ·by_cases e:k' = k
   ·subst e;rw[jn];exact⟨λh=>(nomatch h),λ⟨t,ht⟩=>absurd rfl (b _ ht)⟩
   ·rw[jk _ _ e,o]
 ·refine ⟨h.put l (.map (WH (ks.eraseIdx j)) c),?_,jO _,H.Cq (p:=N1 l (up S k none)) hi (mA.put _ rfl a) ⟨⟨_,_,gj _ a,?_,λk' w'=>?_⟩,a,r⟩ λ_ h=> .inl h⟩
  ·unfold Cp Ac;simp only[d,fo,g,Hz,oV,zO];unfold WH;rw[Uy]
  ·rw[Uy];exact f.sublist (List.eraseIdx_sublist ..)
  ·have m:∀x,x∈ks.eraseIdx j↔∃q,q≠j/\ks[q]? =some x:=λx=>List.mem_eraseIdx_iff_getElem?;by_cases e:k' = k
   ·subst e;rw[jn];refine⟨λh=>(nomatch h),λ⟨t',ht⟩=>?_⟩;obtain⟨q,hq,hx⟩:=(m _).1 ht;exact absurd (W4 f hx b rfl) hq
   ·rw[jk _ _ e,o];constructor
    ·rintro⟨t',ht⟩;obtain⟨q,hq⟩:=oY.1 ht;refine⟨t',(m _).2 ⟨q,λn=>?_,hq⟩⟩;subst n;rw[b]at hq;exact e (Prod.mk.inj (Option.some.inj hq)).1.symm
    ·rintro⟨t',ht⟩;obtain⟨q,_,hq⟩:=(m _).1 ht;exact⟨t',DG hq⟩
end
open Un Dm
section
variable{F F':Nat->Prop}{h h':Hp}{cs ds:List Pc}{Q:fD}{u:U}{wv wb ws mQ kv:V}{ln Tn lm:Nat}{az:List Int}{S:oR->Option Nat}
theorem zbf{op:Nat}(H:Q (.bool (j6 op)) h):cP CS Fi [.I op] h Q:=by
 refine T9 rfl rfl ?_;unfold N5;refine eh (pP ..) (eh (a:= .bool (j6 op)) ?_ H);unfold j6;by_cases c:2<=op
 ·rw[JM c,JM (show(2:Int)<=op by omega)];show ez .leq 3 (.I op) (.I 16)=_;rw[Kc,wBr];congr 2;exact decide_eq_decide.2 (by omega)
 ·rw[KM c,KM (show ¬(2:Int)<=op by omega)];rfl
theorem zdl(H0:eo F h cs){i j:Nat}{C:List V}(hi:cs[i]? =some (eQ ln Tn C))(q:C[5]? =some mQ)(hj:cs[j]? =some (fg eZ eR az mQ)){x:Vl}{r:V}(f:im eN F h x.args r)(hl:x.op=21\/x.op=20->x.args.length<=1000000)(O:∀w∈hK x,w<az.length)(aa:(hK x).length<=1000000)
  (H:∀F' h',Sn F h F' h'->eo F' h' cs->Q (.agg (Jr (Un.keyOf (mm az) x))) h'):cP CS nY [.ptr ln 0,.agg (mF x r)] h Q:=by
 refine FW rfl rfl ?_;unfold yK;refine jH H0 (by simp only[mF,eJ,f.one];rfl) λD H1 P=>xz H1 λE R S=>?_;generalize h.next=l3 at*;generalize D.next=l4 at*;refine oF (R.ld 1 rfl rfl) (eh (show _=some (.agg [.I x.op,.I (-1),.I (-1),.I 0]) from rfl) ?_);refine gZ R rfl rfl rfl λh3 T U=>?_;generalize E.next=l5 at*;refine eh (T.pC 2 rfl rfl) ?_;refine KA T (((f.since P).since S).since U) hl λG h4 uv s4 B I=>?_;have s:=((P.trans S).trans U).trans s4;have t:∀{a b c:Pc},(a::b::c::cs)[i+3]? =some (eQ ln Tn C):=λ{_ _ _}=>by simpa using hi
 have v:∀{a b c:Pc},(a::b::c::cs)[j+3]? =some (fg eZ eR az mQ):=λ{_ _ _}=>by simpa using hj
 have at_:∀n,Jv (mm az) (hK x) n=match (hK x)[n]? with|some w=>mm az w|none=>-1:=λ_=>rfl
 have W:∀{p d},Sn F h p d->eo p d (eQ l5 107 [.I x.op,.I (Jv (mm az) (hK x) 0),.I (Jv (mm az) (hK x) 1),.I 0]::eQ l4 107 [.I 0,.I 0,.I 0,.I 0]::eQ l3 34 (mF x r)::cs)->
   mj CS Q [.ptr l3 0,.ptr l4 0,.ptr l5 0] d:=λ{p d} y e=>by
  refine CK ?_;unfold uU;have X:∀{k},Sn p d p k->eo p k (eQ l5 107 (Jr (Un.keyOf (mm az) x))::eQ l4 107 [.I 0,.I 0,.I 0,.I 0]::eQ l3 34 (mF x r)::cs)->mg CS Q [.ptr l4 0,.ptr l5 0] k:=λ{k} l g=>by
   refine CM ?_;unfold ux;refine eh (g.pC 0 rfl rfl) ?_;obtain⟨h7,e7,_,Y,s7⟩:=g.U1 1 (n:=4) (ws:=Jr (Un.keyOf (mm az) x)) rfl rfl rfl rfl;rw[e7,en];refine eh (Y.pC 1 rfl rfl) ?_;exact H _ _ ((y.trans l).trans s7) Y.tail.tail.tail
  refine oF (e.ld 2 rfl rfl) (gy ?_);have Z:∀n,(x.op=2->n=x.n)->(x.op≠2->n=0)->Jr (Un.keyOf (mm az) x)=[.I x.op,.I (Jv (mm az) (hK x) 0),.I (Jv (mm az) (hK x) 1),.I n]:=λn D E=>by
   unfold Un.keyOf Jr;by_cases c:x.op=2
   ·rw[if_pos c,D c]
   ·rw[if_neg c,E c]
  by_cases c:x.op=2
  ·refine gz (by omega) (oF (e.ld 2 rfl rfl) (eh pf ?_));obtain⟨k,z,_,g,l⟩:=e.st 0 (o:=0+3) (u:= .I x.n) rfl (by simp) rfl;rw[z,en];refine X l ?_;rw[Z x.n (λ_=>rfl) λh=>absurd c h];exact g
  ·refine gh (by omega) (X (Sn.refl _ _) ?_);rw[Z 0 (λh=>absurd h c) λ_=>rfl];exact e
 have k4:∀{d},Sn G h4 G d->eo G d (eQ l5 107 [.I x.op,.I (Jv (mm az) (hK x) 0),.I (-1),.I 0]::eQ l4 107 [.I 0,.I 0,.I 0,.I 0]::eQ l3 34 (mF x r)::cs)->
   mb CS Q [.ptr ln 0,.ptr l3 0,.ptr l4 0,.ptr l5 0,uv] d:=λ{d} y e=>by
  refine Dg ?_;unfold um;have r5:=I.since y;refine eh r5.len (DT ?_);by_cases c:1<(hK x).length
  ·have A:=iy c;have m:=O _ (AY c);generalize (hK x)[1]=w at*;obtain⟨l6,o6,_,J,K⟩:=r5.nat A .i64;have f:=iy m;obtain⟨l7,o7,L,M⟩:=e.Qd (j+3) v f .i64;refine gz (by omega) (oN (e.ld (i+3) t q) (eh J (eh K (eh L (eh M (eh pf ?_))))));obtain⟨k,z,N,g,l⟩:=e.st 0 (o:=0+2) (u:= .I az[w]) rfl (by simp) rfl;rw[z,en];refine⟨N,W ((s.trans y).trans l) ?_⟩;rw[at_ 1,A,<-JG f]at*;exact g
  ·refine gh (by omega) (W (s.trans y) ?_);rw[at_ 1,OE (by omega)];exact e
 refine eh I.len (DT ?_);by_cases c:0<(hK x).length
 ·have A:=iy c;have m:=O _ (AY c);generalize (hK x)[0]=w at*;obtain⟨l6,o6,_,J,K⟩:=I.nat A .i64;have f:=iy m;obtain⟨l7,o7,L,M⟩:=B.Qd (j+3) v f .i64;refine gz (by omega) (oN (B.ld (i+3) t q) (eh J (eh K (eh L (eh M (eh pf ?_))))));obtain⟨k,z,N,g,l⟩:=B.st 0 (o:=0+1) (u:= .I az[w]) rfl (by simp) rfl;rw[z,en];refine⟨N,k4 l ?_⟩;rw[at_ 0,A,<-JG f]at*;exact g
 ·refine gh (by omega) (k4 (Sn.refl _ _) ?_);rw[at_ 0,OE (by omega)];exact B
abbrev Nm(ln Tn:Nat) (u:U) (wv wb ws mQ kv:V) (lm:Nat) (az:List Int) (S:oR->Option Nat) (ds:List Pc):List Pc:=
 eQ ln Tn [.I u.func,.I u.pc,wv,wb,ws,mQ,kv,.map lm]::fg eZ eR az mQ::N1 lm S::ds
theorem zbb{az:List Int}{v:Nat}{a:Int}(h:v<az.length):mm (az.set v a) v=a:=JG (NZ h)
theorem zcs{az:List Int}{v w:Nat}{a:Int}(h:w≠v):mm (az.set v a) w=mm az w:=by
 unfold mm;rw[Je,Je,KP λe=>h e.symm]
theorem Wn{x:Vl}(h:j6 x.op=true):(hK x).length<=2:=by
 rw[qZ]at h;unfold hK;rw[if_neg (by omega)];split
 ·omega
 ·split
  ·simp
  ·split <;> simp
theorem RQ(g:Good u){b:Nat}{B:Bk}{vl:List Nat}{O:Nat->Prop}(H0:eo F h (Nm ln Tn u wv wb ws mQ kv lm az S ds))(hu:wW F h u wv wb ws)(ab:az.length=u.ej.length)(N:∀(v:Nat)(a:Int),az[v]? =some a->a<az.length)(P:u.blocks[b]? =some B)
  (hw:NW u (Pv u (·∈vl) b 0) O (mm az) S) (hb:b ∉ vl) (KX:∀c,c≠b->o0 (next u) c b->c∈vl) (hO:∀c,O c↔o0 (next u) c b)
  (H:∀F' h' f S' l v,Sn F h F' h'->eo F' h' (Nm ln Tn u wv wb ws mQ kv lm f S' ds)->f.length=u.ej.length->(∀(v:Nat) (a:Int),f[v]? =some a->a<f.length)->NW u (TI u (b::vl)) O (mm f) S'->im eKy F' h' l v->l.length<=3000->DY u (TI u (b::vl)) (mm f) b l->
   (∀c l,c≠b->DY u (TI u vl) (mm az) c l->DY u (TI u (b::vl)) (mm f) c l)->Q v h') :
  cP CS kH [.ptr ln 0,.I b] h Q:=by
 refine DC rfl rfl ?_;unfold vT;have nv:=g.nv;obtain⟨lb,ob,bv,bn,bp,_,x1,_,xv,_,_,xb⟩:=hu.pE P;have al:B.ej.length<=u.ej.length:=jM _ B.ej (yX g P) λv hv=>by
  obtain⟨k,hk⟩:=oY.1 hv;exact g.ko v b k ⟨B,P,hk⟩
 refine eh pn (eh pf (oF (H0.ld 0 rfl rfl) (eh x1 (oF xb.ej (eh xv.len ?_)))))
 obtain ⟨J,hJ⟩:∃J:Nat->LP,J=λk l h'=>∃(F':Nat->Prop) (i:Nat) (f:List Int) (S':oR->Option Nat) (R:List oR) (lv:V),l=[.ptr ln 0,lv,bv,.I B.ej.length,.I i]/\i+k=B.ej.length/\Sn F h F' h'/\f.length=u.ej.length/\(∀(v:Nat) (a:Int),f[v]? =some a->a<f.length)/\NW u (Pv u (·∈vl) b i) O (mm f) S'/\R.length<=i/\DY u (Pv u (·∈vl) b i) (mm f) b R/\
   (∀c l,c≠b->DY u (Pv u (·∈vl) b 0) (mm az) c l->DY u (Pv u (·∈vl) b i) (mm f) c l)/\eo F' h' (fg eKy zJ R lv::Nm ln Tn u wv wb ws mQ kv lm f S' ds):=⟨_,rfl⟩
 refine AS J (λk x0 lv am an ao h1 hi=>?_) (k:=B.ej.length) ?_;rotate_left
 ·rw[hJ];refine⟨F,0,az,S,[],.ei,rfl,by omega,Sn.refl _ _,ab,N,hw,jO _,λk=>⟨λh=>(nomatch h),λ⟨w,y,c,i,h1,_,_,_,T,h6,_⟩=>?_⟩,λ_ _ _ h=>h,H0.add (p:=fg eKy zJ [] .ei) .nil λ_ h=>h⟩;rw[Q9]at h1;obtain⟨c',i',a1,a2⟩:=h1;obtain⟨rfl,rfl⟩:=g.FQ _ _ _ _ _ T a1;subst h6;exact absurd a2 hb
 rw[hJ]at hi;obtain⟨F1,i,n,S1,R,_,⟨⟩,hk,U,r,q,t,ap,a1,z,H1⟩:=hi;unfold rE;by_cases hi:i<B.ej.length;rotate_left
 ·refine iQ ?_;obtain rfl:i=B.ej.length:=by omega
  obtain⟨L,W,r2⟩:=H1.kL 0 rfl;rw[zcF P]at t a1 z;rw[Q9]at z;exact H _ _ n S1 R lv (U.trans W) L.tail r q t r2 (by omega) a1 z
 refine gK ?_;have hv:=iy hi;generalize B.ej[i]=v at*;have m:At u v b i:=⟨B,P,hv⟩
 have X:=g.ko v b i m;have hx:=iy X;generalize u.ej[v]=x at*;have u1:=hu.since U;obtain⟨l2,o2,_,y1,y2⟩:=(xv.since U).nat hv .i64;obtain⟨l3,o3,wa,_,z1,z2,za,_⟩:=u1.val hx;refine eh y1 (eh y2 (eh pn (eh pf (oF (H1.ld 1 rfl rfl) (eh z1 (eh z2 ?_))))));refine gZ H1 rfl rfl (by simp only[mF,eJ,za.one];rfl) λh2 L W=>?_;generalize h1.next=lx at*
 have k8:∀{F8 h8 o S8 s A},Sn F h F8 h8->o.length=u.ej.length->(∀(v:Nat) (a:Int),o[v]? =some a->a<o.length)->NW u (Pv u (·∈vl) b (i+1)) O (mm o) S8->s.length<=i+1->DY u (Pv u (·∈vl) b (i+1)) (mm o) b s->
   (∀c l,c≠b->DY u (Pv u (·∈vl) b i) (mm n) c l->DY u (Pv u (·∈vl) b (i+1)) (mm o) c l)->eo F8 h8 (fg eKy zJ s A::Nm ln Tn u wv wb ws mQ kv lm o S8 ds)->jF CS Q (Ey J k) [.ptr ln 0,A,bv,.I B.ej.length,.I i] h8:=λ{F8 h8 o S8 s A} s8 ac Y n8 ae a8 ag H8=>by
  refine Bs ?_;unfold rB;refine fL ⟨k-1,by omega,?_⟩;rw[hJ];exact⟨F8,i+1,o,S8,s,A,rfl,by omega,s8,ac,Y,n8,ae,a8,λc l hc ha=>ag c l hc (z c l hc ha),H8⟩
 have C:∀w y,Pv u (·∈vl) b i w->u.ej[w]? =some y->j6 y.op=true->∀p∈hK y,Pv u (·∈vl) b i p:=λw y a b c p d=>t.part g a b c d;have D:j6 x.op=true->∀p∈hK x,Pv u (·∈vl) b i p:=λhp p ah=>GO g hb m KX (Jj g m hx hp ah);have fj:∀{Z:Nat->Int},(∀w,w≠v->Z w=mm n w)->∀c l,c≠b->DY u (Pv u (·∈vl) b i) (mm n) c l->DY u (Pv u (·∈vl) b (i+1)) Z c l:=λai c l hc ha=>ha.step g hb m hx C D ai λI=>⟨.inl,λh=>h.elim id λh=>absurd h.1 hc⟩
 refine oF (L.ld 0 rfl rfl) (zbf (rP ?_))
 cases hp:j6 x.op with
 | false=>
   refine gh (by simp) (k8 (U.trans W) r q (t.skip g hb m hx KX hp) (by omega) ?_ (fj λ_ _=>rfl) L.tail)
   exact a1.step g hb m hx C D (λ_ _=>rfl) λI=>⟨.inl,λh=>h.elim id λh=>by rw[hp]at h;cases h.2.1⟩
 | true =>
   refine gz rfl (eh (L.pC 0 rfl rfl) ?_);have aj:∀w∈hK x,w<n.length:=λw hw=>by rw[r];exact zK (g.use v x hx w hw)
   have aq:=Wn hp;refine zdl L (i:=2) (j:=3) rfl rfl rfl (za.since W) (λh=>by rw[qZ]at hp;omega) aj (by omega) λF3 h3 s3 H3=>?_;generalize hke:Un.keyOf (mm n) x=ke at*;refine gZ H3 rfl rfl rfl λh4 E s4=>?_;generalize h3.next=ly at*;have aa:=((U.trans W).trans s3).trans s4;refine oN (E.ld 3 rfl rfl) (eh (E.pC 0 rfl rfl) (eh (E.zdJ 5 rfl ke _) ?_))
   cases hS:S1 ke with
   | some w=>
     refine eh (show CN 0 (.tuple [.I (w:Nat),.bool true])=some (.I (w:Nat)) from rfl) (eh (show CN 1 (.tuple [.I (w:Nat),.bool true])=some (.bool true) from rfl) (jj (gz rfl ?_)));obtain⟨l5,o5,T,q1,q2,_,M,s5⟩:=E.Kh 4 rfl (k:=v) (y:=(w:Int)) (u:=V.I (w:Nat)) (by omega) rfl rfl rfl;refine oN (E.ld 3 rfl rfl) (eh q1 ?_);rw[q2,en];simp only[ji,lO]at M;have ar:w<u.ej.length:=by
       obtain⟨y,_,_,_,h,_⟩:=(t.known _ _).1 hS;exact(ki.1 h).1
     have G:mm (n.set v (w:Int)) v=(w:Int):=zbb (by omega);have K:∀w',w'≠v->mm (n.set v (w:Int)) w' = mm n w':=λw' h=>zcs h;have ak:mm (n.set v (w:Int)) v≠(v:Int):=λe=>by
       rw[G]at e;obtain⟨_,_,_,hP,_⟩:=(t.known _ _).1 hS;exact I0 g hb m ((Int.ofNat.inj e:w=v)▸hP)
     rw[<-hke]at hS;refine k8 (aa.trans s5) (by rw[TH];exact r) (λv' a' h=>?_) (t.there g hb m hx KX hO hp hS G K) (by omega) ?_ (fj K) M.tail.tail
     ·rw[TH]
      by_cases e:v' = v
      ·subst e
       rw[NZ (by omega)]at h;cases h;omega
      ·rw[KP λh=>e h.symm]at h
       exact q v' a' h
     ·exact a1.step g hb m hx C D K λI=>⟨.inl,λh=>h.elim id λh=>absurd h.2.2.1 ak⟩
   | none=>
     refine eh (show CN 0 (.tuple [.I 0,.bool false])=some (.I 0) from rfl) (eh (show CN 1 (.tuple [.I 0,.bool false])=some (.bool false) from rfl) (jj (gh (by simp) ?_)));obtain⟨T,q5,n5,M,s5⟩:=E.jd 5 rfl hS v;refine oN (E.ld 3 rfl rfl) (eh (E.pC 0 rfl rfl) ?_);rw[show J4 zJ wN (.map lm) (.agg (Jr ke)) (.I (v:Nat)) h4=_ from q5,en];simp only[ji,lO]at M;refine⟨n5,eh (M.pC 0 rfl rfl) ?_⟩;rw[show jz 107 4 1 (.agg [.I 0,.I 0,.I 0,.I 0]) [(0,.agg (Jr ke))]=_ from nW rfl rfl rfl,fE];obtain⟨au,h6,q6,_,H6,s6⟩:=M.rU 2 rfl (jP:=32) (zL:=107) (y:=ke) (w:=Jr ke) (ro:=false) rfl (by decide) (by decide) (by omega);rw[show fh 107 4 32 lv (.slice T.next 0 1) (T.new (.cells 107 4 true false (Jr ke)))=_ from q6,en];simp only[ji,lO]at H6;rw[<-hke]at hS;refine k8 ((aa.trans s5).trans s6) r q (t.fresh g hb m hx KX hO hp hS (S':=up S1 ke (some v)) (by rw[hke,jn]) λk hk=>jk _ _ (by rw[<-hke];exact hk)) (by simp;omega) ?_ (fj λ_ _=>rfl) H6.tail.tail;refine a1.step g hb m hx C D (λ_ _=>rfl) λI=>?_;rw[He,QJ,hke];exact⟨λh=>h.imp id λh=>⟨rfl,hp,t.stay v X (I0 g hb m),h.symm⟩,λh=>h.imp id λh=>h.2.2.2.symm⟩
end
open Un Dm
abbrev Sc:Nat:=103
def eVs:qp (Nat×Nat×List oR) where
 sz:=3
 rel F h x cs:=∃w,cs=[.I (x.1:Nat),.I (x.2.1:Nat),w]/\im eKy F h x.2.2 w
 len:=λ⟨w,h,_⟩=>by subst h;rfl
 one:=λ⟨w,h,hs⟩=>by subst h;simp only[eJ,hs.one];rfl
 fj:=λa ⟨w,h,hs⟩=>⟨w,h,hs.fj a⟩
 mono:=λa ⟨w,h,hs⟩=>⟨w,h,hs.mono a⟩
section
variable{F F':Nat->Prop}{h h':Hp}{cs ds:List Pc}{Q:fD}{u:U}{wv wb ws mQ kv:V}{ln Tn lm:Nat}{az:List Int}{S:oR->Option Nat}
theorem eo.stP{α:Type}{E:qp α}{ty:Nat}{xs:List α}{v:V}(H:eo F h cs)(i:Nat)(hi:cs[i]? =some (fg E ty xs v)){k j:Nat}(b:k<xs.length)(c:j<E.sz){y:α}{u:V}(d:u.one=true)(e:∀w,E.rel F h xs[k] w->E.rel F h y (w.set j u)) :
  ∃l o h',gB E.sz v (.I k)=some (.ptr l o)/\gJ 1 (.ptr l (o+j)) u h=some (.val .undef h')/\h.next<=h'.next/\eo F h' (cs.set i (fg E ty (xs.set k y) v))/\Sn F h F h':=by
 obtain⟨t,h',_,f,g,m,a⟩:=(H.row i hi).store b c d e;exact⟨t,_,h',f,g,a.next,H.Cq hi a m λ_ h=> .inl h⟩
theorem eo.ixO{α:Type}{E:qp α}{ty:Nat}{xs:List α}{v:V}(H:eo F h cs)(i:Nat)(hi:cs[i]? =some (fg E ty xs v)){k:Nat}(a:k<xs.length)(kd:IntKind) :
  ∃l o w,gB E.sz v (.int kd k)=some (.ptr l o)/\fW E.sz (.ptr l o) h=some (.agg w)/\E.rel F h xs[k] w/\∀j u,w[j]? =some u->fe (.ptr l (o+j)) h=some u:=by
 rcases H.row i hi with⟨_,rfl⟩|⟨t,ws,rfl,n,p,c,f,q⟩
 ·simp at a
 ·obtain ⟨w,d,g,e⟩:=f.get (i:=k) (x:=xs[k]) (iy a);refine⟨t,0+k*E.sz,w,AN _ _ _ _ _ _ a,?_,e,λj u b=>?_⟩
  ·rw[AV c,zO,EO g,d];rfl
  ·rw[QN c,Rh];have m:j<E.sz:=by rw[<-E.len e];exact(ki.1 b).1
   rw[<-d,wBB m,wBL]at b;rw[zO];exact b
theorem Uk{α:Type}(l:List α):l=[]\/∃p z,l=p++[z]:=by
 rcases List.eq_nil_or_concat l with h|⟨p,z,h⟩
 ·exact .inl h
 ·exact .inr ⟨p,z,h.trans List.concat_eq_append⟩
theorem Sy{lv:V}(c:lv.one=true)(a b:Int):fV [.I 0,.I 0,.ei] [(0,1),(1,1),(2,1)] [(0,.I a),(1,.I b),(2,lv)]=some (.agg [.I a,.I b,lv]):=by
 cases lv <;> first|rfl|cases c
theorem zap(g:Good u){I:Nat->Nat}{G:Dm.Gr}{kl:List (List Nat)}(H0:eo F h (Nm ln Tn u wv wb ws mQ kv lm az (λ_=>none) ds))(hu:wW F h u wv wb ws)(W:az=(List.range u.ej.length).map λ(i:Nat)=>(i:Int))(hk:im (eL eN) F h kl kv)(ai:∀b,b<u.blocks.length->kl[b]? =some (kd u I b))
  (hT:Tree G I (λb=>b<u.blocks.length)) (hA:∀x b,b<u.blocks.length->(qo I x b↔o0 (next u) x b))
  (H:∀F' h' d,Sn F h F' h'->eo F' h' (eQ ln Tn [.I u.func,.I u.pc,wv,wb,ws,mQ,kv,.map lm]::fg eZ eR d mQ::ds)->d.length=u.ej.length->(∀(v:Nat) (a:Int),d[v]? =some a->a<d.length)->NK u (mm d)->Q (.tuple []) h') :
  cP CS mY [.ptr ln 0] h Q:=by
 refine Ft rfl rfl ?_;unfold xm;have nb:=g.nb;have MH:=g.MH;have nv:=g.nv;have hlen:az.length=u.ej.length:=by rw[W];simp
 have L:∀(v:Nat) (a:Int),az[v]? =some a->v<u.ej.length/\a=(v:Int):=λv a h=>by
  have o:=(ki.1 h).1;rw[hlen]at o;rw[W,Dn,wBw o]at h;exact⟨o,(Option.some.inj h).symm⟩
 obtain⟨B0,aj⟩:∃B,u.blocks[0]? =some B:=⟨_,iy (by omega)⟩
 have ak:∀v,v<u.ej.length->mm az v=(v:Int):=λv hv=>by
  have o:=iy (l:=az) (i:=v) (by omega);rw[JG o];exact(L v _ o).2
 refine RQ g H0 hu hlen (λv a h=>by obtain⟨o,X⟩:=L v a h;omega) aj (nw0 u ak) (List.not_mem_nil) (λc hc hd=>absurd (zbY.2 hd) hc) (λc=>zbY) λF1 o al S1 l1 p s1 H1 am Y n1 r1 an a1 _=>?_;refine eh (Sy r1.one 0 0) ?_;have ow:gw [V.I 0,.I 0,p]=true:=by simp only[eJ,r1.one];rfl
 rw [show jz 103 3 1 (.agg [.I 0,.I 0,.ei]) [(0,.agg [.I 0,.I 0,p])]=_ from nW rfl rfl ow,fE];obtain⟨H2,s2⟩:=H1.SB (E:=eVs) (xs:=[(0,0,l1)]) Sc (n:=1) rfl ⟨_,[],(JL _).symm,⟨p,rfl,r1⟩,trivial⟩ ow;have H2:eo F1 (o.new (.cells 103 3 true false [.I 0,.I 0,p])) (fg eVs Sc [(0,0,l1)] (.slice o.next 0 1)::_):=H2;have s2:Sn F1 o F1 (o.new (.cells 103 3 true false [.I 0,.I 0,p])):=s2;generalize o.new (.cells 103 3 true false [.I 0,.I 0,p])=X at*;have ns:=NS.start g (I:=I) n1 a1 λb h0 hb e=>by
  have:=(hT.up b hb h0).2;rw[e]at this;exact ZS _ this
 have ao:∀{r S st vl},NS u I r S st vl->st.length<=vl.length:=λ{r S st vl} n=>by
  have:=sub_le (st.map (·.1)) vl n.sn λx hx=>by
   obtain⟨f,o,X⟩:=MI.1 hx;exact X▸n.sv f o
  simpa using this
 obtain ⟨J,hJ⟩:∃J:Nat->LP,J=λk l h'=>∃(F':Nat->Prop) (d:List Int) (S':oR->Option Nat) (st:List (Nat×Nat×List oR)) (vl:List Nat) (xv:V),l=[.ptr ln 0,xv]/\k=2*(u.blocks.length-vl.length)+st.length/\Sn F h F' h'/\d.length=u.ej.length/\(∀(v:Nat) (a:Int),d[v]? =some a->a<d.length)/\NS u I (mm d) S' st vl/\(∀f∈st,f.2.2.length<=3000)/\
   eo F' h' (fg eVs Sc st xv::Nm ln Tn u wv wb ws mQ kv lm d S' ds):=⟨_,rfl⟩
 refine BX J (λk x0 xv Z hi=>?_) (k:=2*(u.blocks.length-1)+1) ?_;rotate_left
 ·rw[hJ];exact⟨F1,al,S1,_,_,_,rfl,rfl,s1.trans s2,am,Y,ns,λf q=>by rw[QJ.1 q];exact an,H2⟩
 rw[hJ]at hi;obtain⟨F3,A,S3,st,vl,_,⟨⟩,ap,s3,P,s,n3,C,M⟩:=hi;have aG:=n3.le;have aq:=ao n3;unfold tQ;refine eh (M.len 0 rfl) (DT ?_);rcases Uk st with rfl|⟨pre,⟨b,m,l⟩,rfl⟩
 ·refine gh (by simp) ?_;exact H _ _ A s3 (M.perm [1,2] 4 (by decide) (by decide) (by simp)) P s (n3.done g hT)
 have R:(pre++[(b,m,l)]).length=pre.length+1:=by simp
 rw[R]at aq ap⊢;have D:(b,m,l)∈pre++[(b,m,l)]:=by simp
 have ar:b<u.blocks.length:=n3.vlt b (n3.sv _ D);have aH:(pre++[(b,m,l)])[pre.length]? =some (b,m,l):=by simp
 have N:pre.length<(pre++[(b,m,l)]).length:=by omega
 refine gz (by omega) (eh (M.len 0 rfl) ?_);rw[R];refine ze (by omega) (by omega) ?_;rw[Nat.add_sub_cancel];obtain⟨lx,ox,w,x1,_,⟨lv,rfl,r3⟩,x4⟩:=M.ixO 0 rfl N .i64;have aa:(pre++[(b,m,l)])[pre.length]=(b,m,l):=by simp
 rw [aa]at x4 r3;have y0:fe (.ptr lx (ox+0)) Z=some (.I b):=x4 0 _ rfl;have y1:fe (.ptr lx (ox+1)) Z=some (.I m):=x4 1 _ rfl;have y2:fe (.ptr lx (ox+2)) Z=some lv:=x4 2 _ rfl;obtain⟨l4,o4,kw,_,z1,z2,z3⟩:=(hk.since s3).list (ai b ar) .i64;have z2:fe (.ptr l4 o4) Z=some kw:=z2;refine eh x1 (oN y1 (oN (M.ld 1 rfl rfl) (oN y0 (eh z1 (eh z2 (eh z3.len (gy ?_)))))));have s0:=n3.fr _ D;have aI:m<=(kd u I b).length:=s0.1;have aJ:(kd u I b).length<=u.blocks.length:=by
  unfold kd;exact KG (wBE ..) (by simp)
 by_cases hm:m=(kd u I b).length
 ·refine gz (by omega) (oN y2 (eh r3.len ?_));have ab:=C _ D;have ab:l.length<=3000:=ab;obtain⟨J1,T⟩:∃J1:Nat->LP,J1=λk l' h'=>∃(S':oR->Option Nat) (i:Nat),l' = [.ptr ln 0,xv,lv,.I l.length,.I i]/\i+k=l.length/\Sn F3 Z F3 h'/\(∀k,S' k=if k∈l.take i then none else S3 k)/\eo F3 h' (fg eVs Sc (pre++[(b,m,l)]) xv::Nm ln Tn u wv wb ws mQ kv lm A S' ds):=⟨_,rfl⟩
  refine Cb J1 (λk1 x0 x2 aK aL aM h4 hi=>?_) (k:=l.length) ?_;rotate_left
  ·rw[T];exact⟨S3,0,rfl,by omega,Sn.refl _ _,λk=>by simp,M⟩
  rw[T]at hi;obtain⟨S4,i,⟨⟩,aN,s4,U,K⟩:=hi;unfold se;by_cases hi:i<l.length
  ·refine gK ?_;have aO:=iy hi;have au:=MU hi;obtain⟨l5,o5,w5,_,q1,q2,q3,_⟩:=(r3.since s4).ix hi .i64;obtain rfl:w5=Jr l[i]:=q3;generalize l[i]=ke at*;refine eh q1 (eh q2 ?_);refine gZ K rfl rfl rfl λh5 O s5=>?_;generalize h4.next=ly at*;obtain⟨h6,q6,n6,H6,s6⟩:=O.zfo 4 rfl ke;refine oN (O.ld 2 rfl rfl) (eh (O.pC 0 rfl rfl) ?_);rw[show Cp zJ wN (.map lm) (.agg (Jr ke)) h5=_ from q6,en];simp only[ji,lO]at H6;refine⟨n6,fL ⟨k1-1,by omega,?_⟩⟩;rw[T];refine⟨_,i+1,rfl,by omega,(s4.trans s5).trans s6,λk=>?_,H6.tail⟩;rw[au];by_cases e:k=ke
   ·subst e;rw[jn,if_pos (by simp)]
   ·rw[jk _ _ e,U k];simp[e]
  ·refine iQ ?_;obtain rfl:i=l.length:=by omega
   rw[Ki]at U;refine eh (K.len 0 rfl) ?_;rw[R];refine ze (by omega) (by omega) ?_;rw[Nat.add_sub_cancel];obtain⟨aw,q5,O⟩:=K.zcr 0 rfl (n:=pre.length) (by omega);rw[List.take_left' rfl]at O;refine eh q5 ⟨2*(u.blocks.length-vl.length)+pre.length,by omega,?_⟩;rw[hJ];exact⟨F3,A,S4,pre,vl,aw,rfl,rfl,s3.trans s4,P,s,n3.pop g hm U,λf q=>C f (SN _ q),O⟩
 have ax:m<(kd u I b).length:=by omega
 have ht:=iy ax;generalize (kd u I b)[m]=t at*;obtain⟨t1,t2,t3,t4⟩:=n3.new ht;obtain⟨l6,o6,_,q1,q2⟩:=z3.nat ht .i64;refine gh (by omega) (oN (M.ld 1 rfl rfl) (oN y0 (eh z1 (eh z2 (oN y1 (eh q1 (eh q2 (oN y1 ?_))))))));refine fL ?_;obtain⟨l7,o7,h4,p1,p2,_,K,s4⟩:=M.stP 0 rfl (k:=pre.length) (j:=1) (y:=(b,m+1,l)) (u:= .I ((m+1:Nat):Int)) N (by decide) rfl λw hw=>by
  rw[aa]at hw;obtain⟨w2,e,hs⟩:=hw;subst e;exact⟨w2,rfl,hs⟩
 rw[show eVs.sz=3 from rfl,show gB 3 xv (.I pre.length)=some (.ptr lx ox) from x1]at p1;cases p1;refine eh pn (eh pf ?_);rw[p2,en];have ac:(pre++[(b,m,l)]).set pre.length (b,m+1,l)=pre++[(b,m+1,l)]:=by simp
 rw[ac]at K;simp only[ji]at K;have K:eo F3 h4 (Nm ln Tn u wv wb ws mQ kv lm A S3 (fg eVs Sc (pre++[(b,m+1,l)]) xv::ds)):=K.Qw 3 (by simp);obtain⟨B,hB⟩:∃B,u.blocks[t]? =some B:=⟨_,iy t2⟩
 have ae:∀c,(c∈(pre++[(b,m,l)]).map (·.1)\/c=t)↔o0 (next u) c t:=λc=>(n3.anc ht c).trans (hA c t t2);refine RQ g K ((hu.since s3).since s4) P s hB (n3.ready ht g) t1 (λc hc hd=>?_) ae λF5 h5 ay S5 l5 z s5 O aA ag n5 r5 aB a5 ah=>?_
 ·rcases(ae c).2 hd with h|h
  ·obtain⟨f,o,X⟩:=MI.1 h;exact X▸n3.sv f o
  ·exact absurd h hc
 refine eh (Sy r5.one _ _) ?_;have aC:gw [V.I t,.I 0,z]=true:=by simp only[eJ,r5.one];rfl
 rw[show jz 103 3 1 (.agg [.I 0,.I 0,.ei]) [(0,.agg [.I t,.I 0,z])]=_ from nW rfl rfl aC,fE];obtain⟨aD,h6,q6,_,H6,s6⟩:=O.rU 3 rfl (jP:=40) (zL:=103) (y:=(t,0,l5)) (w:=[.I t,.I 0,z]) (ro:=false) ⟨z,rfl,r5⟩ (by decide) (by decide) (by simp;omega);rw[show fh 103 3 40 xv (.slice h5.next 0 1) (h5.new (.cells 103 3 true false [.I t,.I 0,z]))=_ from q6,en];simp only[ji,lO]at H6;have aE:(t::vl).length=vl.length+1:=rfl;have aF:=(n3.push ht g n5 a5 ah).le;rw[aE]at aF;refine⟨2*(u.blocks.length-(vl.length+1))+(pre.length+2),by omega,?_⟩;rw[hJ];refine⟨F5,ay,S5,_,_,aD,rfl,by simp,((s3.trans s4).trans s5).trans s6,aA,ag,n3.push ht g n5 a5 ah,λf q=>?_,H6.perm [3,0,1,2] 4 (by decide) (by decide) (by simp)⟩;rcases He.1 q with q|q
 ·rcases He.1 q with q|q
  ·exact C f (SN _ q)
  ·rw[QJ.1 q];exact show l.length<=3000 from C (b,m,l) D
 ·rw[QJ.1 q];exact aB
end
open Un Dm
section
variable{F F':Nat->Prop}{h h':Hp}{cs:List Pc}{Q:fD}{u:U}{vv vb vs:V}
theorem eo.XL{α:Type}{E:qp α}{PC ty:Nat}{GP:List (List α)}{v:V}{ds:List V}(H:eo F h cs)(i:Nat)(hi:cs[i]? =some (Cd E PC ty GP v ds)){b:Nat}(hb:b<GP.length){jP zL:Nat}{y:α}{w:List V}{ro:Bool}(g:E.rel F h y w)(z:0<E.sz)(m:jP<=1000)(hlen:GP[b].length<1000000)
  {d r:V} {s:Hp} (u:ds[b]? =some d) (A:fh ty E.sz jP d (.slice h.next 0 1) (h.new (.cells zL E.sz true ro w))=some (.val r s)) {j:Nat} {c:Pc} (B:j≠i) (hc:cs[j]? =some c):c.ok F s:=by
 obtain⟨t,rfl,_,_,_,I,C,_,_⟩:=H.ok i _ hi;have hO:=C b _ d (iy hb) u;have n:=oY.2 ⟨b,u⟩;have o:lC E ty F (h.new (.cells zL E.sz true ro w)) GP[b] d:=hO.fj (λl a=>fk _ (H.fl l a)) (λl a=>fk _ (hO.vC a).2.1) (OK _);have hx:lQ (h.new (.cells zL E.sz true ro w)) E.sz (.slice h.next 0 1)=some (1,w):=nz (k:=0) (by rw[E.len g];simp);have D:(GP[b].length+1)*jP<=1000000*1000:=Nat.mul_le_mul (by omega) m;obtain⟨r,G,x,_,p,_⟩:=o.append (jP:=jP) (ys:=[y]) hx ⟨w,[],by simp,E.fj (λl a=>fk _ (H.fl l a)) g,trivial⟩ (by rw[E.len g];simp) (E.one g) (by simp) z (λl a=>wBh (H.fl l a)) (by simp;omega) (by simp;omega);rw[A]at x;cases x;have J:(h.new (.cells zL E.sz true ro w)).next=h.next+1:=rfl;have f:=H.ok j c hc;refine c.fj f (λl a=>?_) (λl a=>?_) (by have:=p.next;omega)
 ·rw[p.fj l (by have:=H.fl l a;omega) λe=>(hO.vC e).2.2 a,fk _ (H.fl l a)]
 ·have q:=(c.MB f l a).1;rw[p.fj l (by omega) λe=>H.Ew j i c _ hc hi B l a (.inr ⟨d,n,e⟩),fk _ q]
def EV(u:U)(I:Nat->Nat)(i b:Nat):List Nat:=(List.range i).filter λt=>t != 0&&I t == b
theorem Pw(u:U)(I:Nat->Nat)(i b:Nat):EV u I (i+1) b=if i≠0/\I i=b then EV u I i b++[i] else EV u I i b:=by
 unfold EV;rw[Yl,wB0];by_cases c:i≠0/\I i=b
 ·rw[if_pos c,wBn,if_pos (by rw[vH,wB6,Cw];exact c)];rfl
 ·rw[if_neg c,wBn,if_neg (by rw[vH,wB6,Cw];exact c)];simp
theorem zao(u:U)(I:Nat->Nat)(i b:Nat):(EV u I i b).length<=i:=by
 unfold EV;exact KG (wBE ..) (by simp)
theorem zcZ{l ty:Nat}{a b c d e f g k:V}(H:eo F h cs)(i:Nat)(hi:cs[i]? =some (eQ l ty [a,b,c,d,e,f,g,k])):fW 5 (.ptr l 0) h=some (.agg [a,b,c,d,e]):=by
 rw[AV (H.get i hi)];rfl
theorem Wd(g:Good u)(ha:OV u)(H0:eo F h cs)(K:wW F h u vv vb vs)
  (H:∀F' h' az wv wb ws,Sn F h F' h'->eo F' h' cs->NK u (mm az)->az.length=u.ej.length->wW F' h' (jo u (mm az)) wv wb ws->Q (.agg (uC (jo u (mm az)) wv wb ws)) h') :
  cP CS ve [.agg (uC u vv vb vs)] h Q:=by
 refine Mk rfl rfl ?_;unfold FO;have nv:=g.nv;have nb:=g.nb;refine jH H0 K.one λh1 H1 s1=>xz H1 λh2 H2 s2=>?_;generalize h.next=l1 at*;generalize h1.next=l2 at*;refine eh (H2.pC 1 rfl rfl) ?_;refine Yn g H2 ((K.since s1).since s2) λF3 S s3 H3=>?_;refine rP (gz rfl ?_);have T:=(s1.trans s2).trans s3;have u3:=K.since T;refine eh (H3.pC 1 rfl rfl) (eh (H3.pC 1 rfl rfl) ?_);rw[hX];have g4:=fq S (.map [] 0);obtain⟨H4,s4⟩:=H3.new (p:=zfx (λl=>l=S.next) (S.new (.map [] 0))) (.map [] 0) (λl hl=>by subst hl;exact⟨rfl,OF _,H3.fresh⟩) λ_ e=>e;generalize S.new (.map [] 0)=h4 at*;generalize S.next=lm at*;refine⟨⟨g4,O.QB 0⟩,H4.pC 2 rfl rfl,H4.pC 2 rfl rfl,?_⟩;refine Qf (Fe g ha) H4 (u3.since s4) λF5 h5 wv wb ws xs bs ss fa fn fl s5 hc hb hs H5=>⟨s5.next,⟨((H5.ok 6 _ rfl) lm rfl).1.trans g4,O.QB 0⟩,H5.pC 8 rfl rfl,?_⟩
 have U:=(T.trans s4).trans s5;have u5:=K.since U;obtain⟨G,H6,s6,w6⟩:=H5.SC hc hb hs;have aw:=U.trans s6;refine zaT K.one (u5.since s6).v.len nv H6 λh7 mQ s7 H7=>⟨s7.next,?_⟩
 have ea:=H7.one 0 rfl;have hp:fV [.I 0,.I 0,.ei,.ei,.ei,.ei,.ei,.l0] [(0,5),(5,1),(6,1),(7,1)] [(0,V.agg (uC u wv wb ws)),(1,mQ),(3,.map lm)]=some (V.agg [.I u.func,.I u.pc,wv,wb,ws,mQ,.ei,.map lm]):=by
  rcases H7.row 0 rfl with⟨rfl,_⟩|⟨t,aM,rfl,_⟩ <;> rfl
 refine eh hp ?_;have w7:=w6.since s7;refine Vq H7 (by simp only[eJ,w7.v.one,w7.b.one,w7.s.one,ea];rfl) λL s8=>?_;have g8:=((L.ok 2 _ rfl) lm rfl).1.trans g4;have W:=(L.ok 2 _ rfl) lm rfl;refine⟨⟨fq _ _,bq⟩,⟨g8,O.QB 0⟩,?_⟩;have L:=L.swap (i:=2) (p:=N1 lm λ_=>none) rfl ⟨⟨[],0,g8,List.nodup_nil,λk w=>⟨λh=>(nomatch h),λ⟨_,h⟩=>(nomatch h)⟩⟩,W.2⟩ λ_ e=>e;simp only[ji,lO]at L;clear g8 W;generalize h7.new (.cells 60 1 true false [.I u.func,.I u.pc,wv,wb,ws,mQ,.ei,.map lm])=X at*;generalize h7.next=ln at*;have Y:=(aw.trans s7).trans s8;have u8:=K.since Y;refine oF (L.ld 4 rfl rfl) (eh u8.b.len ?_);rw[ku (z:=V.ei) rfl (by decide) (by omega),fE];obtain⟨H9,s9⟩:=L.Q7 (E:=eN) (PC:=iZ) (ty:=eR) u.blocks.length;have H9:eo G (X.new (.cells 22 1 true false (List.replicate u.blocks.length .ei))) _:=H9;have s9:Sn G X G (X.new (.cells 22 1 true false (List.replicate u.blocks.length .ei))):=s9;generalize X.new (.cells 22 1 true false (List.replicate u.blocks.length .ei))=h9 at*;generalize X.next=M at*;obtain⟨aN,ax,_,N,Z⟩:=H9.st 1 (o:=0+6) (u:= .slice M 0 u.blocks.length) rfl (by simp) rfl;refine eh pn (eh pf ?_);rw[ax,en];simp only[ji,lO]at N;have D:=(Y.trans s9).trans Z;refine eh (N.pC 5 rfl rfl) ?_;refine IY g N (K.since D) λa ay dv DR I seen post Gg aa ab rd ac ae aA hT hA=>?_;have ag:=D.trans aa;refine eh rd.len ?_;have aB:List.replicate u.blocks.length ([]:List Nat)=(List.range u.blocks.length).map (EV u I 0):=by
  refine wBy (by simp) λi h1 h2=>?_;simp[EV]
 rw[aB]at ab
 obtain ⟨J,hJ⟩:∃J:Nat->LP,J=λk l h'=>∃(i:Nat) (dl:List V),l=[.ptr l2 0,.ptr ln 0,dv,.I DR.length,.I i]/\i+k=u.blocks.length/\Sn a ay a h'/\
   eo a h' (Cd eN iZ eR ((List.range u.blocks.length).map (EV u I i)) (.slice M 0 u.blocks.length) dl::eQ ln 60 [.I u.func,.I u.pc,wv,wb,ws,mQ,.slice M 0 u.blocks.length,.map lm]::fg eZ eR ((List.range u.ej.length).map λ(i:Nat)=>(i:Int)) mQ::N1 lm (λ_=>none)::eQ l2 gR [.I 0,.I 0,.ei,.ei,.ei]::eQ l1 gR (uC u vv vb vs)::cs):=⟨_,rfl⟩
 refine Jd J (λk x2 x3 aO aP aQ q hi=>?_) (k:=u.blocks.length) ?_;rotate_left
 ·rw[hJ];exact⟨0,_,rfl,by omega,Sn.refl _ _,ab⟩
 rw[hJ]at hi;obtain⟨i,dl,⟨⟩,hk,r,f⟩:=hi;unfold Bd;rw[ac];have ah:wW a q u wv wb ws:=((((w7.since s8).since s9).since Z).since aa).since r;by_cases hi:i<u.blocks.length;rotate_left
 ·refine iQ ?_;obtain rfl:i=u.blocks.length:=by omega
  obtain⟨aR,x,A,r13⟩:=f.QO 0 rfl;have x:=x.tail;refine zap g x (ah.since A) rfl r13 (λb hb=>?_) hT hA λaS aC az C m al sub hN=>?_
  ·rw[Dn,wBw hb];rfl
  have aD:=(ah.since A).since C;refine eh pn (eh (fM _ _ _) (eh (zcZ m 0 rfl) (oN (m.ld 0 rfl rfl) ?_)));refine zag g ha al sub (m.perm [1,0,2,3] 4 (by decide) (by decide) (by simp)) aD λai aE aj ak am an P ao=>⟨an.next,?_⟩
  have P:eo ai aE (eQ ln 60 _::eQ l2 gR _::eQ l1 gR _::cs):=P;obtain⟨aF,aG,aH,R,ap⟩:=P.U1 1 (ws:=uC (jo u (mm az)) aj ak am) (n:=5) rfl rfl rfl ao.one;rw[aG,en];refine⟨aH,?_⟩;simp only[ji,lO]at R;refine eh (R.pC 1 rfl rfl) ?_;exact H ai aF az aj ak am (((((ag.trans r).trans A).trans C).trans an).trans ap) R.tail.tail.tail hN al (ao.since ap)
 refine gK ?_
 have aq:∀{c dl},Sn a q a c->eo a c (Cd eN iZ eR ((List.range u.blocks.length).map (EV u I (i+1))) (.slice M 0 u.blocks.length) dl::eQ ln 60 [.I u.func,.I u.pc,wv,wb,ws,mQ,.slice M 0 u.blocks.length,.map lm]::fg eZ eR ((List.range u.ej.length).map λ(i:Nat)=>(i:Int)) mQ::N1 lm (λ_=>none)::eQ l2 gR [.I 0,.I 0,.ei,.ei,.ei]::eQ l1 gR (uC u vv vb vs)::cs)->
   pB CS Q (Ey J k) [.ptr l2 0,.ptr ln 0,dv,.I u.blocks.length,.I i] c:=λ{c dl} A x=>by
  refine Im ?_;unfold zV;refine fL ⟨k-1,by omega,?_⟩;rw[hJ,ac];exact⟨i+1,dl,rfl,by omega,r.trans A,x⟩
 by_cases h0:i=0
 ·subst h0;obtain⟨l6,o6,_,q1,q2⟩:=(rd.since r).int ae .i64;refine eh q1 (eh q2 (Pe (gh (by omega) (aq (dl:=dl) (Sn.refl _ _) ?_))));have e:(List.range u.blocks.length).map (EV u I (0+1))=(List.range u.blocks.length).map (EV u I 0):=Xp λb _=>by rw[Pw,if_neg λh=>h.1 rfl]
  rw[e];exact f
 obtain⟨l6,o6,_,q1,q2⟩:=(rd.since r).int (aA i h0 hi) .i64;have aI:=(hT.up i hi h0).1;refine eh q1 (eh q2 (Pe (gz (by omega) ?_)));have B:I i<((List.range u.blocks.length).map (EV u I i)).length:=by simpa using aI
 have aJ:((List.range u.blocks.length).map (EV u I i))[I i]'B=EV u I i (I i):=by simp
 have hlen:(((List.range u.blocks.length).map (EV u I i))[I i]'B).length<1000000:=by
  rw[aJ];have:=zao u I i (I i);omega
 obtain ⟨l,d,d',c,aC,hd,hl,e1,e2,e3,e4,e5,e6,m,C⟩:=f.QA 0 rfl B (jP:=8) (zL:=3) (y:=i) (w:=[.I i]) (ro:=false) rfl (by decide) (by decide) hlen;have aK:=f.XL 0 rfl B (jP:=8) (zL:=3) (y:=i) (w:=[.I i]) (ro:=false) rfl (by decide) (by decide) hlen hd e3 (j:=1) (by decide) rfl;have aL:fh 3 1 8 d (.slice q.next 0 1) (q.new (.cells 3 1 true false (ic [i])))=some (.val d' c):=e3;have cn:fe (.ptr ln (0+6)) q=some (.slice M 0 u.blocks.length):=f.ld 1 rfl rfl;have ar:fe (.ptr ln (0+6)) c=some (.slice M 0 u.blocks.length):=lJ aK.1 rfl;have au:=(f.ok 1 _ rfl).2.1;refine oN cn (oN cn (eh e1 (eh e2 ?_)));rw[qB,hX];refine⟨⟨fq _ _,bq⟩,iA e2 (fk _ hl),iA cn (fk _ au),iA cn (fk _ au),?_⟩;rw[aL,en];refine⟨e4,eh e1 ⟨ar,?_⟩⟩;rw[e5,en];refine⟨e6,aq (dl:=dl.set (I i) d') C ?_⟩;simp only[ji]at m;have e:((List.range u.blocks.length).map (EV u I i)).set (I i) (((List.range u.blocks.length).map (EV u I i))[I i]'B++[i])=(List.range u.blocks.length).map (EV u I (i+1)):=by
  refine wBy (by simp) λb h1 h2=>?_;rw[List.getElem_set];simp only[List.getElem_map,List.getElem_range];rw[Pw];by_cases eb:I i=b
  ·subst eb;simp[h0]
  ·rw[if_neg eb,if_neg λh=>eb h.2]
 rw[<-e];exact m
end
open Un Dm
theorem Ua(l:List V):gw l=l.all V.one:=by
 induction l with
 |nil=>rfl
 |cons a l b=>rw[eJ,b];rfl
theorem UY{l ws:List V}(h:gw l=true)(a:gw ws=true)(n m:Nat):gw (l.take n++ws++l.drop m)=true:=by
 rw[Ua,Rp]at*;intro x hx;rcases He.1 hx with hx|hx
 ·rcases He.1 hx with hx|hx
  ·exact h x (wBb hx)
  ·exact a x hx
 ·exact h x (List.mem_of_mem_drop hx)
section
variable{F F':Nat->Prop}{h h':Hp}{cs:List Pc}{Q:fD}{u:U}{vv vb vs:V}
theorem eo.stE{α:Type}{E:qp α}{ty:Nat}{xs:List α}{v:V}(H:eo F h cs)(i:Nat)(hi:cs[i]? =some (fg E ty xs v)){k:Nat}(a:k<xs.length){y:α}{ws:List V}(b:E.rel F h y ws) :
  ∃l o h',gB E.sz v (.I k)=some (.ptr l o)/\gJ E.sz (.ptr l o) (.agg ws) h=some (.val .undef h')/\h.next<=h'.next/\eo F h' (cs.set i (fg E ty (xs.set k y) v))/\Sn F h F h':=by
 rcases H.row i hi with⟨_,rfl⟩|⟨t,ds,rfl,c,d,g,f,j⟩
 ·simp at a
 ·obtain ⟨w,u,m,z⟩:=f.get (i:=k) (x:=xs[k]) (iy a);have n:=E.len b
  obtain ⟨q,r⟩:=H.Cq (p:=fg E ty (xs.set k y) (.slice t 0 xs.length)) (h':=h.put t (.cells ty E.sz true false (ds.take (k*E.sz)++ws++ds.drop (k*E.sz+E.sz)))) hi (mA.put _ rfl c)
   (.inr ⟨t,_,by simp,c,d,gj _ c,qQ.fj (h:=h) (λl s=>gN _ c λe=>d (e▸s)) (f.set a b),UY j (E.one b) _ _⟩) λ_ h=> .inl h
  exact⟨t,k*E.sz,_,by rw[AN _ _ _ _ _ _ a,zO],zcT g n m (E.one b),jO _,q,r⟩
structure TmS (u:U) (P:Nat->Prop) (ys:List Vl):Prop where
 len:ys.length=u.ej.length
 one:∀(v:Nat) (x:Vl),u.ej[v]? =some x->(ys[v]? =some x\/ys[v]? =some (Ao v x))/\(P v->ys[v]? =some (Ao v x))
theorem TmS.step{P b:Nat->Prop} {ys Xt:List Vl}(t:TmS u P ys){v:Nat}{x:Vl}(hx:u.ej[v]? =some x)(c:Xt[v]? =some (Ao v x))(d:∀w,w≠v->Xt[w]? =ys[w]?)(f:Xt.length=ys.length)(hP:∀w,b w->P w\/w=v):TmS u b Xt:=by
 refine⟨f.trans t.len,λw y a=>?_⟩;by_cases e:w=v
 ·subst e;rw[hx]at a;cases a;exact⟨.inr c,λ_=>c⟩
 ·rw[d w e];exact⟨(t.one w y a).1,λh=>(t.one w y a).2 ((hP w h).elim id λh=>absurd h e)⟩
theorem TmS.all{P:Nat->Prop}{ys:List Vl}(t:TmS u P ys)(h:∀v,v<u.ej.length->P v):ys=(Ce u).ej:=by
 refine wBZ λv=>?_;by_cases hv:v<u.ej.length
 ·have hx:=iy hv;rw[(t.one v _ hx).2 (h v hv),RZ hx]
 ·have e:(Ce u).ej.length=u.ej.length:=List.length_mapIdx;rw[OE (by rw[t.len];omega),OE (by omega)]
def PT(u:U)(i j v:Nat):Prop:=∃c k,At u v c k/\(c<i\/c=i/\k<j)
theorem zay{u:U}{v:Nat}{x y:Vl}(h:y=x\/y=Ao v x):(y.op=19\/y.op=20->x.op=19\/x.op=20)/\(¬(y.op=19\/y.op=20)->y=Ao v x):=by
 by_cases c:x.op=19\/x.op=20
 ·refine⟨λ_=>c,λa=>h.elim (λe=>absurd (e▸c) a) id⟩
 ·rw[G6 c]at h⊢;have e:y=x:=h.elim id id;exact⟨λh=>e▸h,λ_=>e⟩
theorem zbl(g:Good u)(H0:eo F h cs)(hu:wW F h u vv vb vs)
  (H:∀F' h' wv wb,Sn F h F' h'->eo F' h' cs->wW F' h' (Ce u) wv wb vs->Q (.agg (uC (Ce u) wv wb vs)) h') :
  cP CS oI [.agg (uC u vv vb vs)] h Q:=by
 refine GA rfl rfl ?_;unfold zF;have nv:=g.nv;have nb:=g.nb;refine jH H0 hu.one λI H1 s1=>xz H1 λm H2 s2=>?_;generalize h.next=l1 at*;generalize I.next=l2 at*;rw[DI,fE];obtain⟨H3,s3⟩:=H2.SB (E:=eV) (xs:=[]) hH (ws:=[]) (n:=0) rfl trivial rfl;have H3:eo F (m.new (.cells 34 6 true false [])) (fg eV hH [] (.slice m.next 0 0)::_):=H3;have s3:Sn F m F (m.new (.cells 34 6 true false [])):=s3;generalize m.new (.cells 34 6 true false [])=M at*;generalize m.next=lz at*;have u3:=((hu.since s1).since s2).since s3;obtain⟨xv,X,e4,_,H4,s4⟩:=H3.Nf 0 rfl (jP:=64) u3.v (by decide) (by decide) (by simp;omega);refine oF (H3.ld 2 rfl rfl) ?_;rw[show fh 34 6 64 (.slice lz 0 0) vv M=_ from e4,en];simp only[ji,OG]at H4;have aj:=((s1.trans s2).trans s3).trans s4
 obtain ⟨J,hJ⟩:∃J:Nat->LP,J=λk l h'=>∃(F':Nat->Prop) (i:Nat) (ys:List Vl) (d:V),l=[.ptr l1 0,.ptr l2 0,xv,d,.I i]/\i+k=u.blocks.length/\Sn F h F' h'/\TmS u (PT u i 0) ys/\
   eo F' h' (fg eV hH ys xv::fg eK fS (u.blocks.take i) d::eQ l2 gR [.I 0,.I 0,.ei,.ei,.ei]::eQ l1 gR (uC u vv vb vs)::cs):=⟨_,rfl⟩
 refine Dv J (λk x1 x2 x3 d x5 h5 hi=>?_) (k:=u.blocks.length) ?_;rotate_left
 ·rw[hJ];refine⟨F,0,u.ej,.ei,rfl,by omega,aj,⟨rfl,λv x hx=>⟨.inl hx,λ⟨c,k,_,h⟩=>by omega⟩⟩,?_⟩;have:=(H4.add (p:=fg eK fS [] .ei) .nil λ_ h=>h).sw;exact this
 rw[hJ]at hi;obtain⟨Y,i,ys,_,⟨⟩,hk,s5,t5,N⟩:=hi;unfold vY;have u5:=hu.since s5;refine oF (N.ld 3 rfl rfl) (eh u5.b.len ?_);by_cases hi:i<u.blocks.length;rotate_left
 ·refine iQ ?_;obtain rfl:i=u.blocks.length:=by omega
  have ey:=t5.all λv hv=>by
   obtain⟨b,j,A⟩:=g.Ef v hv trivial;exact⟨b,j,A,.inl (let⟨_,K,_⟩:=A;(ki.1 K).1)⟩
  subst ey;rw[Ki]at N;obtain⟨h6,e6,_,Z,s6⟩:=N.st 3 (o:=0+2) (u:=xv) rfl (by simp[uC]) (N.one 0 rfl);refine eh pf ?_;rw[e6,en];simp only[ji,lO]at Z;obtain⟨h7,e7,_,q,s7⟩:=Z.st 3 (o:=0+3) (u:=d) rfl (by simp[uC]) (Z.one 1 rfl);refine eh pf ?_;rw[e7,en];simp only[ji,lO]at q;obtain⟨z,L,r8⟩:=q.kL 0 rfl;simp only[ji]at z;obtain⟨r,O,r9⟩:=z.kL 1 rfl;simp only[ji,lO]at r;have aa:=((s6.trans s7).trans L).trans O;have w9:wW _ h7 (Ce u) xv d vs:=⟨r8.since O,r9,(u5.since aa).s⟩
  have r:eo _ h7 (emp::emp::eQ l2 gR _::eQ l1 gR (uC (Ce u) xv d vs)::cs):=r;refine eh (r.pC 3 rfl rfl) ?_;obtain⟨ab,P,_,f,C⟩:=r.U1 2 (ws:=uC (Ce u) xv d vs) (n:=5) rfl rfl rfl w9.one;rw[P,en];simp only[ji,lO]at f;refine eh (f.pC 2 rfl rfl) ?_;exact H _ ab xv d ((s5.trans aa).trans C) f.tail.tail.tail.tail (w9.since C)
 refine gK ?_;have K:=iy hi;have ak:=MU hi;generalize u.blocks[i]=B at*;obtain⟨lb,ob,bv,bn,bp,_,y1,y2,iv,iN,ip,_⟩:=u5.pE K;refine oF (N.ld 3 rfl rfl) (eh y1 (eh y2 ?_));refine gZ N rfl rfl (by simp only[km,eJ,iv.one,iN.one,ip.one];rfl) λh6 Z s6=>?_;generalize h5.next=lx at*;have ar:B.ej.length<=u.ej.length:=jM _ B.ej (yX g K) λv hv=>by
  obtain⟨k,hk⟩:=oY.1 hv;exact g.ko v i k ⟨B,K,hk⟩
 obtain ⟨J1,R⟩:∃J1:Nat->LP,J1=λk l h'=>∃(j:Nat) (ys:List Vl) (t:V),l=[.ptr l1 0,.ptr l2 0,xv,d,.I i,.ptr lx 0,t,.I j]/\j+k=B.ej.length/\Sn Y h6 Y h'/\TmS u (PT u i j) ys/\
   eo Y h' (fg eN eR (B.ej.take j) t::eQ lx 45 (km B bv bn bp)::fg eV hH ys xv::fg eK fS (u.blocks.take i) d::eQ l2 gR [.I 0,.I 0,.ei,.ei,.ei]::eQ l1 gR (uC u vv vb vs)::cs):=⟨_,rfl⟩
 refine Dr J1 (λk1 x1 x2 x3 x4 x5 x6 t x8 h7 ac=>?_) (k:=B.ej.length) ?_;rotate_left
 ·rw[R];exact⟨0,ys,.ei,rfl,by omega,Sn.refl _ _,t5,Z.add (p:=fg eN eR [] .ei) .nil λ_ h=>h⟩
 clear t5 Z N ys;rw[R]at ac;obtain⟨j,ys,_,⟨⟩,au,s7,t7,q⟩:=ac;unfold vX;have ae:=s6.trans s7;have S:=iv.since ae;refine oF (q.ld 1 rfl rfl) (eh S.len ?_);by_cases hj:j<B.ej.length;rotate_left
 ·refine iQ ?_;obtain rfl:j=B.ej.length:=by omega
  rw[Ki]at q;obtain⟨z,L,r8⟩:=q.kL 0 rfl;simp only[ji]at z;obtain⟨h9,e9,_,r,O⟩:=z.st 1 (o:=0+0) (u:=t) rfl (by simp[km]) r8.one;refine eh pf ?_;rw[e9,en];simp only[ji,lO]at r;refine eh (r.pC 1 rfl rfl) ?_;have T:=(ae.trans L).trans O;have o1:gw (km B t bn bp)=true:=by simp only[km,eJ,r8.one,iN.one,ip.one];rfl
  rw[show jz 45 6 1 (.agg [.ei,.I 0,.I 0,.ei,.ei,.I 0]) [(0,.agg ((km B bv bn bp).set (0+0) t))]=_ from nW rfl rfl o1,fE];obtain⟨al,ab,P,_,f,C⟩:=r.rU 3 rfl (jP:=96) (zL:=45) (y:=B) (w:=km B t bn bp) (ro:=false) ⟨t,bn,bp,rfl,r8.since O,iN.since T,ip.since T⟩ (by decide) (by decide) (by simp;omega);rw[show fh 45 6 96 d (.slice h9.next 0 1) (h9.new (.cells 45 6 true false ((km B bv bn bp).set (0+0) t)))=_ from P,en];refine fL ⟨k-1,by omega,?_⟩;rw[hJ];simp only[ji,lO]at f;refine⟨_,i+1,ys,al,rfl,by omega,(s5.trans T).trans C,⟨t7.len,λv x hx=>⟨(t7.one v x hx).1,λ⟨c,k,I,m⟩=>(t7.one v x hx).2 ⟨c,k,I,?_⟩⟩⟩,?_⟩
  ·rcases Tj c i with M|M
   ·exact .inl M
   ·have:c=i:=by omega
    subst this;obtain⟨B',X,h5⟩:=I;rw[K]at X;cases X;exact .inr ⟨rfl,(ki.1 h5).1⟩
  ·rw[ak];exact f.tail.tail
 refine gK ?_;have hv:=iy hj;have ag:=MU hj;generalize B.ej[j]=v at*;have A:At u v i j:=⟨B,K,hv⟩
 have U:=g.ko v i j A;have hx:=iy U;generalize u.ej[v]=x at*;obtain⟨l3,o3,_,q1,q2⟩:=S.nat hv .i64;obtain⟨y,hy⟩:∃y,ys[v]? =some y:=⟨_,iy (by rw[t7.len];exact U)⟩
 have D:v<ys.length:=by rw[t7.len];exact U
 have am:y=x\/y=Ao v x:=by
  rcases(t7.one v x hx).1 with h|h <;> rw[hy]at h <;> cases h
  ·exact .inl rfl
  ·exact .inr rfl
 obtain ⟨an,ao⟩:=zay (u:=u) am;obtain⟨l4,o4,w4,z1,_,⟨wa,ew,_⟩,z4⟩:=q.ixO 2 rfl D .i64;have ap:ys[v]=y:=Option.some.inj ((iy D).symm.trans hy);rw[ap]at ew;subst ew;have z0:fe (.ptr l4 (o4+0)) h7=some (.I y.op):=z4 0 _ rfl;have ah:∀w,PT u i (j+1) w->PT u i j w\/w=v:=λw ⟨c,k,I,m⟩=>by
  rcases m with m|⟨rfl,m⟩
  ·exact .inl ⟨c,k,I,.inl m⟩
  ·by_cases e:k=j
   ·subst e;obtain⟨B',M,X⟩:=I;rw[K]at M;cases M;rw[hv]at X;exact .inr (Option.some.inj X).symm
   ·exact .inl ⟨c,k,I,.inr ⟨rfl,by omega⟩⟩
 have ai:∀{W G},Sn Y h7 Y W->TmS u (PT u i (j+1)) G->eo Y W (fg eN eR (B.ej.take j) t::eQ lx 45 (km B bv bn bp)::fg eV hH G xv::fg eK fS (u.blocks.take i) d::eQ l2 gR [.I 0,.I 0,.ei,.ei,.ei]::eQ l1 gR (uC u vv vb vs)::cs)->
   mi CS Q (Ey J k) (Ey J1 k1) [.ptr l1 0,.ptr l2 0,xv,d,.I i,.ptr lx 0,t,.I j] W:=λ{W G} L t8 z=>by
  refine Df ?_;unfold uQ;obtain⟨l5,o5,_,p1,p2⟩:=(S.since L).nat hv .i64;refine oF (z.ld 1 rfl rfl) (eh p1 (eh p2 ?_));rw[qB,fE];obtain⟨aq,h9,e9,_,r,O⟩:=z.rU 0 rfl (jP:=8) (zL:=3) (y:=v) (w:=ic [v]) (ro:=false) rfl (by decide) (by decide) (by simp;omega);rw[show fh 3 1 8 t (.slice W.next 0 1) (W.new (.cells 3 1 true false (ic [v])))=_ from e9,en];refine fL ⟨k1-1,by omega,?_⟩;rw[R];simp only[ji]at r;exact⟨j+1,G,aq,rfl,by omega,(s7.trans L).trans O,t8,by rw[ag];exact r⟩
 refine oF (q.ld 1 rfl rfl) (eh q1 (eh q2 (eh z1 (oF z0 (eh (g0 ..) (eh (a:= .bool (decide (y.op=19\/y.op=20))) ?_ (jj ?_)))))))
 ·simp only[fo,g0,pS];congr 2;rw[Xz,KO,Cw,Cw,CU];omega
 by_cases c:y.op=19\/y.op=20
 ·refine gz (JM c) (oF (q.ld 1 rfl rfl) (eh q1 (eh q2 (oF (q.ld 1 rfl rfl) (eh q1 (eh q2 ?_))))));refine eh (show _=some (.agg (mF ⟨2,0,0,(v:Int),[],0⟩ .ei)) from rfl) ?_;obtain⟨l6,o6,W,p1,p2,n8,z,L⟩:=q.stE 2 rfl D (y:=⟨2,0,0,(v:Int),[],0⟩) (ws:=mF ⟨2,0,0,(v:Int),[],0⟩ .ei) ⟨.ei,rfl,.inl ⟨rfl,rfl⟩⟩;refine eh p1 ?_;rw[show gJ 6 (.ptr l6 o6) _ h7=_ from p2,en];simp only[ji,lO]at z;refine⟨n8,ai L (t7.step hx (Xt:=ys.set v ⟨2,0,0,(v:Int),[],0⟩) ?_ (λw hw=>KP λe=>hw e.symm) (by simp) ah) z⟩;rw[NZ D,Lh (an c)]
 ·refine gh (by rw[CU];exact c) (ai (Sn.refl _ _) (t7.step hx (hy.trans (congrArg some (ao c))) (λ_ _=>rfl) rfl ah) q)
end
