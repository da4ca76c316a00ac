/- Parts. -/
import Derived.Test.YtloecllhljfidaaDoorM37
import Derived.Test.YtloecllhljfidaaDoorM53
set_option maxHeartbeats 4000000
namespace Go.Proofs.YtloecllhljfidaaDoor.Hx
open Un Dm
theorem SI(l:List V):fZ l=l.all V.one:=by
 induction l with
 |nil=>rfl
 |cons a l b=>rw[eo,b];rfl
theorem Sp{l ws:List V}(h:fZ l=true)(a:fZ ws=true)(n m:Nat):fZ (l.take n++ws++l.drop m)=true:=by
 rw[SI,O4]at*;intro x hx;rcases Bm.1 hx with hx|hx
 ·rcases Bm.1 hx with hx|hx
  ·exact h x (wBx hx)
  ·exact a x hx
 ·exact h x (List.mem_of_mem_drop hx)
section
variable{F F':Nat->Prop}{h h':Hp}{cs:List Pc}
theorem ej.stP{α:Type}{E:o0 α}{ty:Nat}{xs:List α}{v:V}(H:ej F h cs)(i:Nat)(hi:cs[i]? =some (ev E ty xs v)){k j:Nat}(hk:k<xs.length)(b:j<E.sz){y:α}{u:V}(c:u.one=true)(d:∀w,E.rel F h xs[k] w->E.rel F h y (w.set j u)) :
  ∃l o h',hV E.sz v (.I k)=some (.ptr l o)/\gh 1 (.ptr l (o+j)) u h=some (.val .undef h')/\h.next<=h'.next/\ej F h' (cs.set i (ev E ty (xs.set k y) v))/\Sn F h F h':=by
 obtain⟨t,h',_,e,f,g,a⟩:=(H.row i hi).store hk b c d;exact⟨t,_,h',e,f,a.next,H.zL hi a g λ_ h=> .inl h⟩
theorem ej.Z0{α:Type}{E:o0 α}{ty:Nat}{xs:List α}{v:V}(H:ej F h cs)(i:Nat)(hi:cs[i]? =some (ev E ty xs v)){k:Nat}(hk:k<xs.length)(kd:IntKind) :
  ∃l o w,hV E.sz v (.int kd k)=some (.ptr l o)/\fM E.sz (.ptr l o) h=some (.agg w)/\E.rel F h xs[k] w/\∀j u,w[j]? =some u->eQ (.ptr l (o+j)) h=some u:=by
 rcases H.row i hi with⟨_,rfl⟩|⟨t,ws,rfl,m,n,b,e,p⟩
 ·simp at hk
 ·obtain ⟨w,c,f,d⟩:=e.get (i:=k) (x:=xs[k]) (g0 hk);refine⟨t,0+k*E.sz,w,vN _ _ _ _ _ _ hk,?_,d,λj u a=>?_⟩
  ·rw[yL b,wO,DZ f,c];rfl
  ·rw[OT b,Of];have g:j<E.sz:=by rw[<-E.len d];exact(jk.1 a).1
   rw[<-c,wBZ g,wBr]at a;rw[wO];exact a
theorem RK{α:Type}(l:List α):l=[]\/∃p z,l=p++[z]:=by
 rcases List.eq_nil_or_concat l with h|⟨p,z,h⟩
 ·exact .inl h
 ·exact .inr ⟨p,z,h.trans List.concat_eq_append⟩
theorem ej.stE{α:Type}{E:o0 α}{ty:Nat}{xs:List α}{v:V}(H:ej F h cs)(i:Nat)(hi:cs[i]? =some (ev E ty xs v)){k:Nat}(hk:k<xs.length){y:α}{ws:List V}(a:E.rel F h y ws) :
  ∃l o h',hV E.sz v (.I k)=some (.ptr l o)/\gh E.sz (.ptr l o) (.agg ws) h=some (.val .undef h')/\h.next<=h'.next/\ej F h' (cs.set i (ev E ty (xs.set k y) v))/\Sn F h F h':=by
 rcases H.row i hi with⟨_,rfl⟩|⟨t,ds,rfl,b,c,f,d,g⟩
 ·simp at hk
 ·obtain ⟨w,s,j,u⟩:=d.get (i:=k) (x:=xs[k]) (g0 hk);have m:=E.len a
  obtain ⟨n,q⟩:=H.zL (p:=ev E ty (xs.set k y) (.slice t 0 xs.length)) (h':=h.put t (.cells ty E.sz true false (ds.take (k*E.sz)++ws++ds.drop (k*E.sz+E.sz)))) hi (lO.put _ rfl b)
   (.inr ⟨t,_,by simp,b,c,fP _ b,pd.fe (h:=h) (λl r=>gf _ b λe=>c (e▸r)) (d.set hk a),Sp g (E.one a) _ _⟩) λ_ h=> .inl h
  exact⟨t,k*E.sz,_,by rw[vN _ _ _ _ _ _ hk,wO],Wc f m j (E.one a),jb _,n,q⟩
end
open Un Dm
abbrev vW:Nat:=99
def Gv(k:mK):List V:=[.I (k.1:Nat),.I k.2.1,.I k.2.2.1,.I k.2.2.2]
def eKy:o0 mK where
 sz:=4
 rel _ _ k cs:=cs=Gv k
 len h:=by subst h;rfl
 one h:=by subst h;rfl
 fe _ h:=h
 mono _ h:=h
noncomputable def isInt(t:Nat):Bool:=match P0.underlying t with
 |some (.int _)=>true
 |_=>false
theorem YH:(match AU with
  |some [a,b,c,d]=>(a.offset == 0&&b.offset == 1&&c.offset == 2&&d.offset == 3)&&(isInt a.type&&isInt b.type&&isInt c.type&&isInt d.type)
  |_=>false)=true:=by kernel_rfl
theorem OH{t:Nat}(h:isInt t=true)(a b:Int):BM t (.I a) (.I b)=some (a == b):=by
 unfold isInt at h;unfold BM;split at h
 ·rename_i e;rw[e];rfl
 ·cases h
theorem Pg:∃f g i j,AU=some [f,g,i,j]/\f.offset=0/\g.offset=1/\i.offset=2/\j.offset=3/\isInt f.type=true/\isInt g.type=true/\isInt i.type=true/\isInt j.type=true:=by
 have h:=YH;split at h
 ·rename_i a b c d e;simp only[uF,EE]at h;obtain⟨⟨⟨⟨k,l⟩,m⟩,n⟩,⟨⟨o,p⟩,q⟩,r⟩:=h;exact⟨a,b,c,d,e,k,l,m,n,o,p,q,r⟩
 ·cases h
theorem Ea(k:mK):Gy AU (.agg (Gv k))=true:=by
 obtain⟨a,b,c,d,e,h0,g,h,i,_⟩:=Pg;rw[e];show([a,b,c,d].all λf=>(xM (Gv k) f.offset).isSome)=true;simp only[Y9,List.all_nil,h0,g,h,i];rfl
theorem V4(a b:mK):L3 vW AU (.agg (Gv a)) (.agg (Gv b))=some (decide (a=b)):=by
 obtain ⟨i,j,k,l,e,h0,m,n,o,q,r,s,t⟩:=Pg;rw[e];show I5 [i,j,k,l] (Gv a) (Gv b)=_;have z:∀f fs x y (u v:Int),xM x f.offset=some (.I u)->xM y f.offset=some (.I v)->isInt f.type=true->I5 (f::fs) x y=if u=v then I5 fs x y else some false:=λf fs x y u v w hv ht=>by
  show oB (xM x f.offset) _=_;rw[w];show oB (xM y f.offset) _=_;rw[hv];show oB (BM f.type _ _) _=_;rw[OH ht];by_cases c:u=v
  ·rw[if_pos c,EE.2 c];rfl
  ·rw[if_neg c,SJ.2 c];rfl
 obtain⟨a1,a2,a3,a4⟩:=a;obtain⟨b1,b2,b3,A⟩:=b;rw[z i _ _ _ _ _ (by rw[h0];rfl) (by rw[h0];rfl) q,z j _ _ _ _ _ (by rw[m];rfl) (by rw[m];rfl) r,z k _ _ _ _ _ (by rw[n];rfl) (by rw[n];rfl) s,z l _ _ _ _ _ (by rw[o];rfl) (by rw[o];rfl) t];simp only[Prod.mk.injEq];by_cases p:a1=b1
 ·rw [if_pos (show(a1:Int)=b1 by omega)];by_cases c2:a2=b2
  ·rw [if_pos c2];by_cases d:a3=b3
   ·rw[if_pos d];by_cases g:a4=A
    ·rw[if_pos g,O7 ⟨p,c2,d,g⟩];rfl
    ·rw[if_neg g,O9 λh=>g h.2.2.2]
   ·rw[if_neg d,O9 λh=>d h.2.2.1]
  ·rw[if_neg c2,O9 λh=>c2 h.2.1]
 ·rw[if_neg (show ¬(a1:Int)=b1 by omega),O9 λh=>p h.1]
def UO(ks:List (mK×Nat×Nat)):List (V×V×Nat):=ks.map λe=>(.agg (Gv e.1),.I (e.2.1:Nat),e.2.2)
theorem Ss{α β:Type}(f:α->β):∀(l:List α)(i:Nat),(l.eraseIdx i).map f=(l.map f).eraseIdx i
 |[],_=>rfl
 |_::_,0=>rfl
 |a::l,i+1=>congrArg (f a::·) (Ss f l i)
def Ly(l:Nat)(S:mK->Option Nat):Pc where
 lh:=λm=>m=l
 ok F h:=(∃ks c,h.get l=some (.map (UO ks) c)/\(ks.map Prod.fst).Nodup/\∀k w,S k=some w↔∃t,(k,w,t)∈ks)/\l<h.next/\¬F l
 LR:=λh _ e=>by subst e;exact h.2
 fe:=λ⟨⟨ks,c,d,f⟩,b⟩ _ a g=>⟨⟨ks,c,(a l rfl).trans d,f⟩,BF b.1 g,b.2⟩
 mono:=λh _ a=>⟨h.1,h.2.1,a l rfl⟩
theorem SV(k:mK):∀(ks:List (mK×Nat×Nat))(i:Nat),
  (po vW AU (.agg (Gv k)) (UO ks) i=some none/\∀e∈ks,e.1≠k)\/∃j w t,po vW AU (.agg (Gv k)) (UO ks) i=some (some (i+j,.I (w:Nat)))/\ks[j]? =some (k,w,t)
 |[],i=> .inl ⟨rfl,λ_ h=>by cases h⟩
 | e ::es,i=>by
   have a:po vW AU (.agg (Gv k)) (UO (e::es)) i=if k=e.1 then some (some (i,.I (e.2.1:Nat))) else po vW AU (.agg (Gv k)) (UO es) (i+1):=by
     show oB (L3 vW AU (.agg (Gv k)) (.agg (Gv e.1))) _=_;rw[V4];by_cases hk:k=e.1
     ·rw[if_pos hk,O7 hk];rfl
     ·rw[if_neg hk,O9 hk];rfl
   by_cases hk:k=e.1
   ·rw[if_pos hk]at a
    exact .inr ⟨0,e.2.1,e.2.2,a,by rw[hk];rfl⟩
   ·rw[if_neg hk]at a
    rcases SV k es (i+1)with⟨b,c⟩|⟨j,w,t,b,c⟩
    ·exact .inl ⟨a.trans b,λe' d=>(FZ.1 d).elim (λh=>by rw[h];exact λh=>hk h.symm) (c e')⟩
    ·exact .inr ⟨j+1,w,t,by rw[a,b];congr 3;omega,c⟩
section
variable{F F':Nat->Prop}{h h':Hp}{cs ds:List Pc}{Q:fq}{l:Nat}{S:mK->Option Nat}
theorem ej.zcB(H:ej F h cs)(i:Nat)(hi:cs[i]? =some (Ly l S))(k:mK)(z:V):I4 vW AU z true (.map l) (.agg (Gv k)) h=some (.tuple (match S k with|some w=>[.I w,.bool true]|none=>[z,.bool false])):=by
 obtain ⟨⟨ks,c,f,m,d⟩,_⟩:=H.ok i _ hi;have e:∀r,po vW AU (.agg (Gv k)) (UO ks) 0=some r->I4 vW AU z true (.map l) (.agg (Gv k)) h=some (found z true r):=λr g=>by
  unfold I4 xH;simp only[f,fy,Ea,nB];rw[g];rfl
 rcases SV k ks 0 with⟨a,b⟩|⟨j,w,t,a,b⟩
 ·rw[e _ a]
  cases hS:S k with
  |none=>rfl
  | some v=>
    obtain⟨t,ht⟩:=(d k v).1 hS;exact absurd rfl (b _ ht)
 ·rw[e _ a,(d k w).2 ⟨t,yC b⟩];rfl
theorem ej.iE(H:ej F h cs)(i:Nat)(hi:cs[i]? =some (Ly l S)){k:mK}(g:S k=none)(w:Nat):∃h',G2 vW AU (.map l) (.agg (Gv k)) (.I w) h=some (.val .undef h')/\h.next<=h'.next/\ej F h' (cs.set i (Ly l (up S k (some w))))/\Sn F h F h':=by
 obtain ⟨⟨ks,c,m,n,d⟩,b,o⟩:=H.ok i _ hi;have a:∀e∈ks,e.1≠k:=λe q hk=>by
  obtain⟨k',w',t⟩:=e;obtain rfl:k' = k:=hk;have:=(d k' w').2 ⟨t,q⟩;rw[g]at this;cases this
 rcases SV k ks 0 with⟨f,_⟩|⟨j,w',t,f,r⟩
 ·have s:Ih vW AU (UO ks) c (.agg (Gv k)) (.I w)=some (.map (UO (ks++[(k,w,c)])) (c+1)):=by
   unfold Ih;rw[f];show some (O.map (UO ks++[_]) _)=_;unfold UO;rw[MA];rfl
  refine⟨h.put l (.map (UO (ks++[(k,w,c)])) (c+1)),?_,jb _,H.zL (p:=Ly l (up S k (some w))) hi (lO.put _ rfl b) ⟨⟨_,_,fP _ b,?_,λk' w'=>?_⟩,b,o⟩ λ_ h=> .inl h⟩
  ·unfold G2 xH;simp only[m,fy,s,Ea,nB]
  ·rw[MA,Zq];refine⟨n,by simp,λx hx y u e=>?_⟩;obtain⟨z,v,rfl⟩:=GL.1 hx;obtain rfl:y=k:=by simpa using u
   exact a z v e
  ·by_cases e:k' = k
   ·subst e;rw[jo];constructor
    ·intro A;cases A;exact⟨c,wBt _ (by simp)⟩
    ·rintro⟨t,ht⟩;rcases Bm.1 ht with ht|ht
     ·exact absurd rfl (a _ ht)
     ·obtain⟨_,B⟩:=Prod.mk.inj (Me.1 ht);rw[(Prod.mk.inj B).1]
   ·rw[iI _ _ e,d];exact⟨λ⟨t,ht⟩=>⟨t,My _ ht⟩,λ⟨t,ht⟩=>⟨t,(Bm.1 ht).elim id λht=>absurd (Prod.mk.inj (Me.1 ht)).1 e⟩⟩
 ·exact absurd rfl (a _ (yC r))
theorem VD{ks:List (mK×Nat×Nat)}(k:(ks.map Prod.fst).Nodup){i j:Nat}{a b:mK×Nat×Nat}(l:ks[i]? =some a)(hb:ks[j]? =some b)(m:a.1=b.1):i=j:=by
 have c:(ks.map Prod.fst)[i]? =some a.1:=by rw[xk,l];rfl
 have n:(ks.map Prod.fst)[j]? =some b.1:=by rw[xk,hb];rfl
 rw[m]at c;obtain⟨p1,d⟩:=jk.1 c;obtain⟨e,f⟩:=jk.1 n;have g:=ZZ.1 k;rcases wBj i j with h|h|h
 ·exact absurd (d.trans f.symm) (g i j p1 e h)
 ·exact h
 ·exact absurd (f.trans d.symm) (g j i e p1 h)
theorem ej.zc1(H:ej F h cs)(i:Nat)(hi:cs[i]? =some (Ly l S))(k:mK):∃h',zw vW AU (.map l) (.agg (Gv k)) h=some (.val (.tuple []) h')/\h.next<=h'.next/\ej F h' (cs.set i (Ly l (up S k none)))/\Sn F h F h':=by
 obtain⟨⟨ks,c,d,f,o⟩,a,r⟩:=H.ok i _ hi;rcases SV k ks 0 with⟨g,b⟩|⟨j,w,t,g,b⟩
 ·refine ⟨h,?_,jb _,H.swap hi ⟨⟨ks,c,d,f,λk' w'=>?_⟩,a,r⟩ λ_ h=>h,Sn.refl _ _⟩
  ·unfold zw xH;simp only[d,fy,g,Ea,nB]
  ·by_cases e:k' = k
   ·subst e;rw[jo];exact⟨λh=>(nomatch h),λ⟨t,ht⟩=>absurd rfl (b _ ht)⟩
   ·rw[iI _ _ e,o]
 ·refine ⟨h.put l (.map (UO (ks.eraseIdx j)) c),?_,jb _,H.zL (p:=Ly l (up S k none)) hi (lO.put _ rfl a) ⟨⟨_,_,fP _ a,?_,λk' w'=>?_⟩,a,r⟩ λ_ h=> .inl h⟩
  ·unfold zw xH;simp only[d,fy,g,Ea,nB,wO];unfold UO;rw[Ss]
  ·rw[Ss];exact f.sublist (List.eraseIdx_sublist ..)
  ·have m:∀x,x∈ks.eraseIdx j↔∃q,q≠j/\ks[q]? =some x:=λx=>List.mem_eraseIdx_iff_getElem?;by_cases e:k' = k
   ·subst e;rw[jo];refine⟨λh=>(nomatch h),λ⟨t',ht⟩=>?_⟩;obtain⟨q,hq,hx⟩:=(m _).1 ht;exact absurd (VD f hx b rfl) hq
   ·rw[iI _ _ e,o];constructor
    ·rintro⟨t',ht⟩;obtain⟨q,hq⟩:=mr.1 ht;refine⟨t',(m _).2 ⟨q,λn=>?_,hq⟩⟩;subst n;rw[b]at hq;exact e (Prod.mk.inj (Option.some.inj hq)).1.symm
    ·rintro⟨t',ht⟩;obtain⟨q,_,hq⟩:=(m _).1 ht;exact⟨t',yC hq⟩
end
open Un Dm
section
variable{F F':Nat->Prop}{h h':Hp}{cs ds:List Pc}{Q:fq}{u:U}{wv wb ws iQ kv:V}{ln Tn lm:Nat}{az:List Int}{S:mK->Option Nat}
theorem Zc{op:Nat}(H:Q (.bool (jG op)) h):cP CS Bu [.I op] h Q:=by
 refine SD rfl rfl ?_;unfold KG;refine ed (pq ..) (ed (a:= .bool (jG op)) ?_ H);unfold jG;by_cases c:2<=op
 ·rw[O7 c,O7 (show(2:Int)<=op by omega)];show eJ .leq 3 (.I op) (.I 16)=_;rw[Li,Yl];congr 2;exact decide_eq_decide.2 (by omega)
 ·rw[O9 c,O9 (show ¬(2:Int)<=op by omega)];rfl
theorem za6(Z:ej F h cs){i j:Nat}{C:List V}(hi:cs[i]? =some (er ln Tn C))(q:C[5]? =some iQ)(hj:cs[j]? =some (ev eZ en az iQ)){x:Vl}{r:V}(f:iG eN F h x.args r)(hl:x.op=21\/x.op=20->x.args.length<=1000000)(N:∀w∈gO x,w<az.length)(aa:(gO x).length<=1000000)
  (H:∀F' h',Sn F h F' h'->ej F' h' cs->Q (.agg (Gv (Un.keyOf (iL az) x))) h'):cP CS ml [.ptr ln 0,.agg (lW x r)] h Q:=by
 refine CE rfl rfl ?_;unfold vB;refine jP Z (by simp only[lW,eo,f.one];rfl) λD H1 O=>rh H1 λE P R=>?_;generalize h.next=l3 at*;generalize D.next=l4 at*;refine oF (P.ld 1 rfl rfl) (ed (show _=some (.agg [.I x.op,.I (-1),.I (-1),.I 0]) from rfl) ?_);refine gQ P rfl rfl rfl λh3 S T=>?_;generalize E.next=l5 at*;refine ed (S.oL 2 rfl rfl) ?_;refine BI S (((f.since O).since R).since T) hl λG h4 uv s4 B r4=>?_;have s:=((O.trans R).trans T).trans s4;have t:∀{a b c:Pc},(a::b::c::cs)[i+3]? =some (er ln Tn C):=λ{_ _ _}=>by simpa using hi
 have v:∀{a b c:Pc},(a::b::c::cs)[j+3]? =some (ev eZ en az iQ):=λ{_ _ _}=>by simpa using hj
 have at_:∀n,OG (iL az) (gO x) n=match (gO x)[n]? with|some w=>iL az w|none=>-1:=λ_=>rfl
 have U:∀{p d},Sn F h p d->ej p d (er l5 99 [.I x.op,.I (OG (iL az) (gO x) 0),.I (OG (iL az) (gO x) 1),.I 0]::er l4 99 [.I 0,.I 0,.I 0,.I 0]::er l3 40 (lW x r)::cs)->
   kO CS Q [.ptr l3 0,.ptr l4 0,.ptr l5 0] d:=λ{p d} y e=>by
  refine Aa ?_;unfold qY;have W:∀{k},Sn p d p k->ej p k (er l5 99 (Gv (Un.keyOf (iL az) x))::er l4 99 [.I 0,.I 0,.I 0,.I 0]::er l3 40 (lW x r)::cs)->kI CS Q [.ptr l4 0,.ptr l5 0] k:=λ{k} l g=>by
   refine zT ?_;unfold qS;refine ed (g.oL 0 rfl rfl) ?_;obtain⟨h7,e7,_,X,s7⟩:=g.Uf 1 (n:=4) (ws:=Gv (Un.keyOf (iL az) x)) rfl rfl rfl rfl;rw[e7,ei];refine ed (X.oL 1 rfl rfl) ?_;exact H _ _ ((y.trans l).trans s7) X.tail.tail.tail
  refine oF (e.ld 2 rfl rfl) (gM ?_);have hk:∀n,(x.op=2->n=x.n)->(x.op≠2->n=0)->Gv (Un.keyOf (iL az) x)=[.I x.op,.I (OG (iL az) (gO x) 0),.I (OG (iL az) (gO x) 1),.I n]:=λn D E=>by
   unfold Un.keyOf Gv;by_cases c:x.op=2
   ·rw[if_pos c,D c]
   ·rw[if_neg c,E c]
  by_cases c:x.op=2
  ·refine gI (by omega) (oF (e.ld 2 rfl rfl) (ed pf ?_));obtain⟨k,z,_,g,l⟩:=e.st 0 (o:=0+3) (u:= .I x.n) rfl (by simp) rfl;rw[z,ei];refine W l ?_;rw[hk x.n (λ_=>rfl) λh=>absurd c h];exact g
  ·refine gv (by omega) (W (Sn.refl _ _) ?_);rw[hk 0 (λh=>absurd h c) λ_=>rfl];exact e
 have Y:∀{d},Sn G h4 G d->ej G d (er l5 99 [.I x.op,.I (OG (iL az) (gO x) 0),.I (-1),.I 0]::er l4 99 [.I 0,.I 0,.I 0,.I 0]::er l3 40 (lW x r)::cs)->
   kN CS Q [.ptr ln 0,.ptr l3 0,.ptr l4 0,.ptr l5 0,uv] d:=λ{d} y e=>by
  refine z9 ?_;unfold qR;have r5:=r4.since y;refine ed r5.len (Co ?_);by_cases c:1<(gO x).length
  ·have A:=g0 c;have m:=N _ (EA c);generalize (gO x)[1]=w at*;obtain⟨l6,o6,_,I,J⟩:=r5.nat A .i64;have f:=g0 m;obtain⟨l7,o7,K,L⟩:=e.NJ (j+3) v f .i64;refine gI (by omega) (oN (e.ld (i+3) t q) (ed I (ed J (ed K (ed L (ed pf ?_))))));obtain⟨k,z,M,g,l⟩:=e.st 0 (o:=0+2) (u:= .I az[w]) rfl (by simp) rfl;rw[z,ei];refine⟨M,U ((s.trans y).trans l) ?_⟩;rw[at_ 1,A,<-CX f]at*;exact g
  ·refine gv (by omega) (U (s.trans y) ?_);rw[at_ 1,JA (by omega)];exact e
 refine ed r4.len (Co ?_);by_cases c:0<(gO x).length
 ·have A:=g0 c;have m:=N _ (EA c);generalize (gO x)[0]=w at*;obtain⟨l6,o6,_,I,J⟩:=r4.nat A .i64;have f:=g0 m;obtain⟨l7,o7,K,L⟩:=B.NJ (j+3) v f .i64;refine gI (by omega) (oN (B.ld (i+3) t q) (ed I (ed J (ed K (ed L (ed pf ?_))))));obtain⟨k,z,M,g,l⟩:=B.st 0 (o:=0+1) (u:= .I az[w]) rfl (by simp) rfl;rw[z,ei];refine⟨M,Y l ?_⟩;rw[at_ 0,A,<-CX f]at*;exact g
 ·refine gv (by omega) (Y (Sn.refl _ _) ?_);rw[at_ 0,JA (by omega)];exact B
abbrev Nm(ln Tn:Nat) (u:U) (wv wb ws iQ kv:V) (lm:Nat) (az:List Int) (S:mK->Option Nat) (ds:List Pc):List Pc:=
 er ln Tn [.I u.func,.I u.pc,wv,wb,ws,iQ,kv,.map lm]::ev eZ en az iQ::Ly lm S::ds
theorem Y1{az:List Int}{v:Nat}{a:Int}(h:v<az.length):iL (az.set v a) v=a:=CX (Mt h)
theorem za4{az:List Int}{v w:Nat}{a:Int}(h:w≠v):iL (az.set v a) w=iL az w:=by
 unfold iL;rw[CM,CM,IB λe=>h e.symm]
theorem UQ{x:Vl}(h:jG x.op=true):(gO x).length<=2:=by
 rw[Ho]at h;unfold gO;rw[if_neg (by omega)];split
 ·omega
 ·split
  ·simp
  ·split <;> simp
theorem PU(g:Good u){b:Nat}{B:Bk}{vl:List Nat}{O:Nat->Prop}(H0:ej F h (Nm ln Tn u wv wb ws iQ kv lm az S ds))(hu:tL F h u wv wb ws)(ab:az.length=u.ef.length)(N:∀(v:Nat)(a:Int),az[v]? =some a->a<az.length)(P:u.blocks[b]? =some B)
  (hw:NW u (Pv u (·∈vl) b 0) O (iL az) S) (hb:b ∉ vl) (IH:∀c,c≠b->kV (next u) c b->c∈vl) (hO:∀c,O c↔kV (next u) c b)
  (H:∀F' h' iR S' l v,Sn F h F' h'->ej F' h' (Nm ln Tn u wv wb ws iQ kv lm iR S' ds)->iR.length=u.ef.length->(∀(v:Nat) (a:Int),iR[v]? =some a->a<iR.length)->NW u (Rh u (b::vl)) O (iL iR) S'->iG eKy F' h' l v->l.length<=3000->Ak u (Rh u (b::vl)) (iL iR) b l->
   (∀c l,c≠b->Ak u (Rh u vl) (iL az) c l->Ak u (Rh u (b::vl)) (iL iR) c l)->Q v h') :
  cP CS jE [.ptr ln 0,.I b] h Q:=by
 refine AG rfl rfl ?_;unfold th;have nv:=g.nv;obtain⟨lb,ob,bv,bn,bp,_,x1,_,xv,_,_,xb⟩:=hu.vf P;have al:B.ef.length<=u.ef.length:=jr _ B.ef (Ez g P) λv hv=>by
  obtain⟨k,hk⟩:=mr.1 hv;exact g.jz v b k ⟨B,P,hk⟩
 refine ed pn (ed pf (oF (H0.ld 0 rfl rfl) (ed x1 (oF xb.ef (ed xv.len ?_)))))
 obtain ⟨J,hJ⟩:∃J:Nat->LP,J=λk l h'=>∃(F':Nat->Prop) (i:Nat) (iR:List Int) (S':mK->Option Nat) (R:List mK) (T:V),l=[.ptr ln 0,T,bv,.I B.ef.length,.I i]/\i+k=B.ef.length/\Sn F h F' h'/\iR.length=u.ef.length/\(∀(v:Nat) (a:Int),iR[v]? =some a->a<iR.length)/\NW u (Pv u (·∈vl) b i) O (iL iR) S'/\R.length<=i/\Ak u (Pv u (·∈vl) b i) (iL iR) b R/\
   (∀c l,c≠b->Ak u (Pv u (·∈vl) b 0) (iL az) c l->Ak u (Pv u (·∈vl) b i) (iL iR) c l)/\ej F' h' (ev eKy vW R T::Nm ln Tn u wv wb ws iQ kv lm iR S' ds):=⟨_,rfl⟩
 refine yP J (λk x0 T am an ao h1 hi=>?_) (k:=B.ef.length) ?_;rotate_left
 ·rw[hJ];refine⟨F,0,az,S,[],.ee,rfl,by omega,Sn.refl _ _,ab,N,hw,jb _,λk=>⟨λh=>(nomatch h),λ⟨w,y,c,i,h1,_,_,_,U,h6,_⟩=>?_⟩,λ_ _ _ h=>h,H0.add (p:=ev eKy vW [] .ee) .nil λ_ h=>h⟩;rw[N2]at h1;obtain⟨c',i',a1,a2⟩:=h1;obtain⟨rfl,rfl⟩:=g.AH _ _ _ _ _ U a1;subst h6;exact absurd a2 hb
 rw[hJ]at hi;obtain⟨F1,i,m,S1,R,_,⟨⟩,hk,W,q,o,s,ap,a1,t,H1⟩:=hi;unfold pY;by_cases hi:i<B.ef.length;rotate_left
 ·refine jf ?_;obtain rfl:i=B.ef.length:=by omega
  obtain⟨L,X,r2⟩:=H1.lH 0 rfl;rw[zax P]at s a1 t;rw[N2]at t;exact H _ _ m S1 R T (W.trans X) L.tail q o s r2 (by omega) a1 t
 refine gR ?_;have hv:=g0 hi;generalize B.ef[i]=v at*;have f:At u v b i:=⟨B,P,hv⟩
 have Y:=g.jz v b i f;have hx:=g0 Y;generalize u.ef[v]=x at*;have u1:=hu.since W;obtain⟨l2,o2,_,y1,y2⟩:=(xv.since W).nat hv .i64;obtain⟨l3,o3,wa,_,z1,z2,za,_⟩:=u1.val hx;refine ed y1 (ed y2 (ed pn (ed pf (oF (H1.ld 1 rfl rfl) (ed z1 (ed z2 ?_))))));refine gQ H1 rfl rfl (by simp only[lW,eo,za.one];rfl) λh2 L X=>?_;generalize h1.next=lx at*
 have k8:∀{F8 h8 n S8 r z},Sn F h F8 h8->n.length=u.ef.length->(∀(v:Nat) (a:Int),n[v]? =some a->a<n.length)->NW u (Pv u (·∈vl) b (i+1)) O (iL n) S8->r.length<=i+1->Ak u (Pv u (·∈vl) b (i+1)) (iL n) b r->
   (∀c l,c≠b->Ak u (Pv u (·∈vl) b i) (iL m) c l->Ak u (Pv u (·∈vl) b (i+1)) (iL n) c l)->ej F8 h8 (ev eKy vW r z::Nm ln Tn u wv wb ws iQ kv lm n S8 ds)->iY CS Q (A4 J k) [.ptr ln 0,z,bv,.I B.ef.length,.I i] h8:=λ{F8 h8 n S8 r z} s8 ac Z n8 ae a8 ag H8=>by
  refine yH ?_;unfold pZ;refine fS ⟨k-1,by omega,?_⟩;rw[hJ];exact⟨F8,i+1,n,S8,r,z,rfl,by omega,s8,ac,Z,n8,ae,a8,λc l hc ha=>ag c l hc (t c l hc ha),H8⟩
 have A:∀w y,Pv u (·∈vl) b i w->u.ef[w]? =some y->jG y.op=true->∀p∈gO y,Pv u (·∈vl) b i p:=λw y a b c p d=>s.part g a b c d;have C:jG x.op=true->∀p∈gO x,Pv u (·∈vl) b i p:=λD p ah=>CV g hb f IH (BH g f hx D ah);have fe:∀{oX:Nat->Int},(∀w,w≠v->oX w=iL m w)->∀c l,c≠b->Ak u (Pv u (·∈vl) b i) (iL m) c l->Ak u (Pv u (·∈vl) b (i+1)) oX c l:=λai c l hc ha=>ha.step g hb f hx A C ai λI=>⟨.inl,λh=>h.elim id λh=>absurd h.1 hc⟩
 refine oF (L.ld 0 rfl rfl) (Zc (wW ?_))
 cases D:jG x.op with
 | false=>
   refine gv (by simp) (k8 (W.trans X) q o (s.skip g hb f hx IH D) (by omega) ?_ (fe λ_ _=>rfl) L.tail)
   exact a1.step g hb f hx A C (λ_ _=>rfl) λI=>⟨.inl,λh=>h.elim id λh=>by rw[D]at h;cases h.2.1⟩
 | true =>
   refine gI rfl (ed (L.oL 0 rfl rfl) ?_);have aj:∀w∈gO x,w<m.length:=λw hw=>by rw[q];exact yj (g.use v x hx w hw)
   have aq:=UQ D;refine za6 L (i:=2) (j:=3) rfl rfl rfl (za.since X) (λh=>by rw[Ho]at D;omega) aj (by omega) λF3 h3 s3 H3=>?_;generalize hke:Un.keyOf (iL m) x=ke at*;refine gQ H3 rfl rfl rfl λh4 E s4=>?_;generalize h3.next=ly at*;have aa:=((W.trans X).trans s3).trans s4;refine oN (E.ld 3 rfl rfl) (ed (E.oL 0 rfl rfl) (ed (E.zcB 5 rfl ke _) ?_))
   cases hS:S1 ke with
   | some w=>
     refine ed (show BS 0 (.tuple [.I (w:Nat),.bool true])=some (.I (w:Nat)) from rfl) (ed (show BS 1 (.tuple [.I (w:Nat),.bool true])=some (.bool true) from rfl) (jF (gI rfl ?_)));obtain⟨l5,o5,U,q1,q2,_,M,s5⟩:=E.Ma 4 rfl (k:=v) (y:=(w:Int)) (u:=V.I (w:Nat)) (by omega) rfl rfl rfl;refine oN (E.ld 3 rfl rfl) (ed q1 ?_);rw[q2,ei];simp only[jx,lU]at M;have ar:w<u.ef.length:=by
       obtain⟨y,_,_,_,h,_⟩:=(s.known _ _).1 hS;exact(jk.1 h).1
     have G:iL (m.set v (w:Int)) v=(w:Int):=Y1 (by omega);have K:∀w',w'≠v->iL (m.set v (w:Int)) w' = iL m w':=λw' h=>za4 h;have ak:iL (m.set v (w:Int)) v≠(v:Int):=λe=>by
       rw[G]at e;obtain⟨_,_,_,hP,_⟩:=(s.known _ _).1 hS;exact GG g hb f ((Int.ofNat.inj e:w=v)▸hP)
     rw[<-hke]at hS;refine k8 (aa.trans s5) (by rw[Lm];exact q) (λv' a' h=>?_) (s.there g hb f hx IH hO D hS G K) (by omega) ?_ (fe K) M.tail.tail
     ·rw[Lm]
      by_cases e:v' = v
      ·subst e
       rw[Mt (by omega)]at h;cases h;omega
      ·rw[IB λh=>e h.symm]at h
       exact o v' a' h
     ·exact a1.step g hb f hx A C K λI=>⟨.inl,λh=>h.elim id λh=>absurd h.2.2.1 ak⟩
   | none=>
     refine ed (show BS 0 (.tuple [.I 0,.bool false])=some (.I 0) from rfl) (ed (show BS 1 (.tuple [.I 0,.bool false])=some (.bool false) from rfl) (jF (gv (by simp) ?_)));obtain⟨U,q5,n5,M,s5⟩:=E.iE 5 rfl hS v;refine oN (E.ld 3 rfl rfl) (ed (E.oL 0 rfl rfl) ?_);rw[show G2 vW AU (.map lm) (.agg (Gv ke)) (.I (v:Nat)) h4=_ from q5,ei];simp only[jx,lU]at M;refine⟨n5,ed (M.oL 0 rfl rfl) ?_⟩;rw[show jd 99 4 1 (.agg [.I 0,.I 0,.I 0,.I 0]) [(0,.agg (Gv ke))]=_ from ng rfl rfl rfl,fF];obtain⟨au,h6,q6,_,H6,s6⟩:=M.uI 2 rfl (kj:=32) (B2:=99) (y:=ke) (w:=Gv ke) (ro:=false) rfl (by decide) (by decide) (by omega);rw[show eR 99 4 32 T (.slice U.next 0 1) (U.new (.cells 99 4 true false (Gv ke)))=_ from q6,ei];simp only[jx,lU]at H6;rw[<-hke]at hS;refine k8 ((aa.trans s5).trans s6) q o (s.fresh g hb f hx IH hO D hS (S':=up S1 ke (some v)) (by rw[hke,jo]) λk hk=>iI _ _ (by rw[<-hke];exact hk)) (by simp;omega) ?_ (fe λ_ _=>rfl) H6.tail.tail;refine a1.step g hb f hx A C (λ_ _=>rfl) λI=>?_;rw[Bm,Me,hke];exact⟨λh=>h.imp id λh=>⟨rfl,D,s.stay v Y (GG g hb f),h.symm⟩,λh=>h.imp id λh=>h.2.2.2.symm⟩
end
open Un Dm
abbrev PN:Nat:=95
def eVs:o0 (Nat×Nat×List mK) where
 sz:=3
 rel F h x cs:=∃w,cs=[.I (x.1:Nat),.I (x.2.1:Nat),w]/\iG eKy F h x.2.2 w
 len:=λ⟨w,h,_⟩=>by subst h;rfl
 one:=λ⟨w,h,hs⟩=>by subst h;simp only[eo,hs.one];rfl
 fe:=λa ⟨w,h,hs⟩=>⟨w,h,hs.fe a⟩
 mono:=λa ⟨w,h,hs⟩=>⟨w,h,hs.mono a⟩
section
variable{F F':Nat->Prop}{h h':Hp}{cs ds:List Pc}{Q:fq}{u:U}{wv wb ws iQ kv:V}{ln Tn lm:Nat}{az:List Int}{S:mK->Option Nat}
theorem PV{c:V}(d:c.one=true)(a b:Int):fJ [.I 0,.I 0,.ee] [(0,1),(1,1),(2,1)] [(0,.I a),(1,.I b),(2,c)]=some (.agg [.I a,.I b,c]):=by
 cases c <;> first|rfl|cases d
theorem ZT(g:Good u){I:Nat->Nat}{G:Dm.Gr}{kl:List (List Nat)}(H0:ej F h (Nm ln Tn u wv wb ws iQ kv lm az (λ_=>none) ds))(hu:tL F h u wv wb ws)(X:az=(List.range u.ef.length).map λ(i:Nat)=>(i:Int))(hk:iG (eL eN) F h kl kv)(ai:∀b,b<u.blocks.length->kl[b]? =some (kd u I b))
  (hT:Tree G I (λb=>b<u.blocks.length)) (hA:∀x b,b<u.blocks.length->(oA I x b↔kV (next u) x b))
  (H:∀F' h' iR,Sn F h F' h'->ej F' h' (er ln Tn [.I u.func,.I u.pc,wv,wb,ws,iQ,kv,.map lm]::ev eZ en iR iQ::ds)->iR.length=u.ef.length->(∀(v:Nat) (a:Int),iR[v]? =some a->a<iR.length)->Hh u (iL iR)->Q (.tuple []) h') :
  cP CS lR [.ptr ln 0] h Q:=by
 refine Bh rfl rfl ?_;unfold tB;have nb:=g.nb;have JN:=g.JN;have nv:=g.nv;have hlen:az.length=u.ef.length:=by rw[X];simp
 have L:∀(v:Nat) (a:Int),az[v]? =some a->v<u.ef.length/\a=(v:Int):=λv a h=>by
  have d:=(jk.1 h).1;rw[hlen]at d;rw[X,xk,wBm d]at h;exact⟨d,(Option.some.inj h).symm⟩
 obtain⟨B0,aj⟩:∃B,u.blocks[0]? =some B:=⟨_,g0 (by omega)⟩
 have ak:∀v,v<u.ef.length->iL az v=(v:Int):=λv hv=>by
  have d:=g0 (l:=az) (i:=v) (by omega);rw[CX d];exact(L v _ d).2
 refine PU g H0 hu hlen (λv a h=>by obtain⟨d,Y⟩:=L v a h;omega) aj (nw0 u ak) (List.not_mem_nil) (λc hc hd=>absurd (Z5.2 hd) hc) (λc=>Z5) λF1 d al S1 l1 o s1 H1 am Z n1 r1 an a1 _=>?_;refine ed (PV r1.one 0 0) ?_;have ow:fZ [V.I 0,.I 0,o]=true:=by simp only[eo,r1.one];rfl
 rw [show jd 95 3 1 (.agg [.I 0,.I 0,.ee]) [(0,.agg [.I 0,.I 0,o])]=_ from ng rfl rfl ow,fF];obtain⟨H2,s2⟩:=H1.Vz (E:=eVs) (xs:=[(0,0,l1)]) PN (n:=1) rfl ⟨_,[],(HU _).symm,⟨o,rfl,r1⟩,trivial⟩ ow;have H2:ej F1 (d.new (.cells 95 3 true false [.I 0,.I 0,o])) (ev eVs PN [(0,0,l1)] (.slice d.next 0 1)::_):=H2;have s2:Sn F1 d F1 (d.new (.cells 95 3 true false [.I 0,.I 0,o])):=s2;generalize d.new (.cells 95 3 true false [.I 0,.I 0,o])=Y at*;have ns:=NS.start g (I:=I) n1 a1 λb h0 hb e=>by
  have:=(hT.up b hb h0).2;rw[e]at this;exact wB2 _ this
 have ao:∀{r S st vl},NS u I r S st vl->st.length<=vl.length:=λ{r S st vl} n=>by
  have:=sub_le (st.map (·.1)) vl n.sn λx hx=>by
   obtain⟨f,d,Y⟩:=GL.1 hx;exact Y▸n.sv f d
  simpa using this
 obtain ⟨J,hJ⟩:∃J:Nat->LP,J=λk l h'=>∃(F':Nat->Prop) (iR:List Int) (S':mK->Option Nat) (st:List (Nat×Nat×List mK)) (vl:List Nat) (xv:V),l=[.ptr ln 0,xv]/\k=2*(u.blocks.length-vl.length)+st.length/\Sn F h F' h'/\iR.length=u.ef.length/\(∀(v:Nat) (a:Int),iR[v]? =some a->a<iR.length)/\NS u I (iL iR) S' st vl/\(∀f∈st,f.2.2.length<=3000)/\
   ej F' h' (ev eVs PN st xv::Nm ln Tn u wv wb ws iQ kv lm iR S' ds):=⟨_,rfl⟩
 refine zo J (λk x0 xv h3 hi=>?_) (k:=2*(u.blocks.length-1)+1) ?_;rotate_left
 ·rw[hJ];exact⟨F1,al,S1,_,_,_,rfl,rfl,s1.trans s2,am,Z,ns,λf p=>by rw[Me.1 p];exact an,H2⟩
 rw[hJ]at hi;obtain⟨F3,A,S3,st,vl,_,⟨⟩,ap,s3,P,s,q,C,M⟩:=hi;have aG:=q.le;have aq:=ao q;unfold qi;refine ed (M.len 0 rfl) (Co ?_);rcases RK st with rfl|⟨pre,⟨b,m,l⟩,rfl⟩
 ·refine gv (by simp) ?_;exact H _ _ A s3 (M.perm [1,2] 4 (by decide) (by decide) (by simp)) P s (q.done g hT)
 have R:(pre++[(b,m,l)]).length=pre.length+1:=by simp
 rw[R]at aq ap⊢;have D:(b,m,l)∈pre++[(b,m,l)]:=by simp
 have ar:b<u.blocks.length:=q.vlt b (q.sv _ D);have aH:(pre++[(b,m,l)])[pre.length]? =some (b,m,l):=by simp
 have N:pre.length<(pre++[(b,m,l)]).length:=by omega
 refine gI (by omega) (ed (M.len 0 rfl) ?_);rw[R];refine qa (by omega) (by omega) ?_;rw[Nat.add_sub_cancel];obtain⟨lx,ox,w,x1,_,⟨lv,rfl,r3⟩,x4⟩:=M.Z0 0 rfl N .i64;have aa:(pre++[(b,m,l)])[pre.length]=(b,m,l):=by simp
 rw [aa]at x4 r3;have y0:eQ (.ptr lx (ox+0)) h3=some (.I b):=x4 0 _ rfl;have y1:eQ (.ptr lx (ox+1)) h3=some (.I m):=x4 1 _ rfl;have y2:eQ (.ptr lx (ox+2)) h3=some lv:=x4 2 _ rfl;obtain⟨l4,o4,kw,_,z1,z2,z3⟩:=(hk.since s3).list (ai b ar) .i64;have z2:eQ (.ptr l4 o4) h3=some kw:=z2;refine ed x1 (oN y1 (oN (M.ld 1 rfl rfl) (oN y0 (ed z1 (ed z2 (ed z3.len (gM ?_)))))));have s0:=q.fr _ D;have aI:m<=(kd u I b).length:=s0.1;have aJ:(kd u I b).length<=u.blocks.length:=by
  unfold kd;exact BX (U7 ..) (by simp)
 by_cases hm:m=(kd u I b).length
 ·refine gI (by omega) (oN y2 (ed r3.len ?_));have ab:=C _ D;have ab:l.length<=3000:=ab;obtain⟨J1,T⟩:∃J1:Nat->LP,J1=λk l' h'=>∃(S':mK->Option Nat) (i:Nat),l' = [.ptr ln 0,xv,lv,.I l.length,.I i]/\i+k=l.length/\Sn F3 h3 F3 h'/\(∀k,S' k=if k∈l.take i then none else S3 k)/\ej F3 h' (ev eVs PN (pre++[(b,m,l)]) xv::Nm ln Tn u wv wb ws iQ kv lm A S' ds):=⟨_,rfl⟩
  refine zl J1 (λk1 x0 x2 aK aL aM h4 hi=>?_) (k:=l.length) ?_;rotate_left
  ·rw[T];exact⟨S3,0,rfl,by omega,Sn.refl _ _,λk=>by simp,M⟩
  rw[T]at hi;obtain⟨S4,i,⟨⟩,aN,W,U,K⟩:=hi;unfold qv;by_cases hi:i<l.length
  ·refine gR ?_;have aO:=g0 hi;have au:=Qs hi;obtain⟨l5,o5,w5,_,q1,q2,q3,_⟩:=(r3.since W).ix hi .i64;obtain rfl:w5=Gv l[i]:=q3;generalize l[i]=ke at*;refine ed q1 (ed q2 ?_);refine gQ K rfl rfl rfl λh5 O s5=>?_;generalize h4.next=ly at*;obtain⟨h6,q6,n6,H6,s6⟩:=O.zc1 4 rfl ke;refine oN (O.ld 2 rfl rfl) (ed (O.oL 0 rfl rfl) ?_);rw[show zw vW AU (.map lm) (.agg (Gv ke)) h5=_ from q6,ei];simp only[jx,lU]at H6;refine⟨n6,fS ⟨k1-1,by omega,?_⟩⟩;rw[T];refine⟨_,i+1,rfl,by omega,(W.trans s5).trans s6,λk=>?_,H6.tail⟩;rw[au];by_cases e:k=ke
   ·subst e;rw[jo,if_pos (by simp)]
   ·rw[iI _ _ e,U k];simp[e]
  ·refine jf ?_;obtain rfl:i=l.length:=by omega
   rw[Hj]at U;refine ed (K.len 0 rfl) ?_;rw[R];refine qa (by omega) (by omega) ?_;rw[Nat.add_sub_cancel];obtain⟨aw,q5,O⟩:=K.ZN 0 rfl (n:=pre.length) (by omega);rw[List.take_left' rfl]at O;refine ed q5 ⟨2*(u.blocks.length-vl.length)+pre.length,by omega,?_⟩;rw[hJ];exact⟨F3,A,S4,pre,vl,aw,rfl,rfl,s3.trans W,P,s,q.pop g hm U,λf p=>C f (My _ p),O⟩
 have ax:m<(kd u I b).length:=by omega
 have ht:=g0 ax;generalize (kd u I b)[m]=t at*;obtain⟨t1,t2,t3,t4⟩:=q.new ht;obtain⟨l6,o6,_,q1,q2⟩:=z3.nat ht .i64;refine gv (by omega) (oN (M.ld 1 rfl rfl) (oN y0 (ed z1 (ed z2 (oN y1 (ed q1 (ed q2 (oN y1 ?_))))))));refine fS ?_;obtain⟨l7,o7,h4,p1,p2,_,K,W⟩:=M.stP 0 rfl (k:=pre.length) (j:=1) (y:=(b,m+1,l)) (u:= .I ((m+1:Nat):Int)) N (by decide) rfl λw hw=>by
  rw[aa]at hw;obtain⟨w2,e,hs⟩:=hw;subst e;exact⟨w2,rfl,hs⟩
 rw[show eVs.sz=3 from rfl,show hV 3 xv (.I pre.length)=some (.ptr lx ox) from x1]at p1;cases p1;refine ed pn (ed pf ?_);rw[p2,ei];have ac:(pre++[(b,m,l)]).set pre.length (b,m+1,l)=pre++[(b,m+1,l)]:=by simp
 rw[ac]at K;simp only[jx]at K;have K:ej F3 h4 (Nm ln Tn u wv wb ws iQ kv lm A S3 (ev eVs PN (pre++[(b,m+1,l)]) xv::ds)):=K.FQ 3 (by simp);obtain⟨B,hB⟩:∃B,u.blocks[t]? =some B:=⟨_,g0 t2⟩
 have ae:∀c,(c∈(pre++[(b,m,l)]).map (·.1)\/c=t)↔kV (next u) c t:=λc=>(q.Yx ht c).trans (hA c t t2);refine PU g K ((hu.since s3).since W) P s hB (q.ready ht g) t1 (λc hc hd=>?_) ae λF5 h5 ay S5 l5 z s5 O aA ag n5 r5 aB a5 ah=>?_
 ·rcases(ae c).2 hd with h|h
  ·obtain⟨f,d,Y⟩:=GL.1 h;exact Y▸q.sv f d
  ·exact absurd h hc
 refine ed (PV r5.one _ _) ?_;have aC:fZ [V.I t,.I 0,z]=true:=by simp only[eo,r5.one];rfl
 rw[show jd 95 3 1 (.agg [.I 0,.I 0,.ee]) [(0,.agg [.I t,.I 0,z])]=_ from ng rfl rfl aC,fF];obtain⟨aD,h6,q6,_,H6,s6⟩:=O.uI 3 rfl (kj:=40) (B2:=95) (y:=(t,0,l5)) (w:=[.I t,.I 0,z]) (ro:=false) ⟨z,rfl,r5⟩ (by decide) (by decide) (by simp;omega);rw[show eR 95 3 40 xv (.slice h5.next 0 1) (h5.new (.cells 95 3 true false [.I t,.I 0,z]))=_ from q6,ei];simp only[jx,lU]at H6;have aE:(t::vl).length=vl.length+1:=rfl;have aF:=(q.push ht g n5 a5 ah).le;rw[aE]at aF;refine⟨2*(u.blocks.length-(vl.length+1))+(pre.length+2),by omega,?_⟩;rw[hJ];refine⟨F5,ay,S5,_,_,aD,rfl,by simp,((s3.trans W).trans s5).trans s6,aA,ag,q.push ht g n5 a5 ah,λf p=>?_,H6.perm [3,0,1,2] 4 (by decide) (by decide) (by simp)⟩;rcases Bm.1 p with p|p
 ·rcases Bm.1 p with p|p
  ·exact C f (My _ p)
  ·rw[Me.1 p];exact show l.length<=3000 from C (b,m,l) D
 ·rw[Me.1 p];exact aB
end
open Un Dm
section
variable{F F':Nat->Prop}{h h':Hp}{cs:List Pc}{Q:fq}{u:U}{vv vb vs:V}
theorem ej.XX{α:Type}{E:o0 α}{N9 ty:Nat}{GK:List (List α)}{v:V}{ds:List V}(H:ej F h cs)(i:Nat)(hi:cs[i]? =some (Ci E N9 ty GK v ds)){b:Nat}(hb:b<GK.length){kj B2:Nat}{y:α}{w:List V}{ro:Bool}(g:E.rel F h y w)(x:0<E.sz)(m:kj<=1000)(hlen:GK[b].length<1000000)
  {d d':V} {r:Hp} (s:ds[b]? =some d) (z:eR ty E.sz kj d (.slice h.next 0 1) (h.new (.cells B2 E.sz true ro w))=some (.val d' r)) {j:Nat} {c:Pc} (A:j≠i) (hc:cs[j]? =some c):c.ok F r:=by
 obtain⟨t,rfl,_,_,_,G,B,_,_⟩:=H.ok i _ hi;have hO:=B b _ d (g0 hb) s;have n:=mr.2 ⟨b,s⟩;have o:jY E ty F (h.new (.cells B2 E.sz true ro w)) GK[b] d:=hO.fe (λl a=>fh _ (H.fl l a)) (λl a=>fh _ (hO.rI a).2.1) (Qd _);have hx:kW (h.new (.cells B2 E.sz true ro w)) E.sz (.slice h.next 0 1)=some (1,w):=mS (k:=0) (by rw[E.len g];simp);have C:(GK[b].length+1)*kj<=1000000*1000:=Nat.mul_le_mul (by omega) m;obtain⟨d',D,u,_,p,_⟩:=o.append (kj:=kj) (ys:=[y]) hx ⟨w,[],by simp,E.fe (λl a=>fh _ (H.fl l a)) g,trivial⟩ (by rw[E.len g];simp) (E.one g) (by simp) x (λl a=>wBi (H.fl l a)) (by simp;omega) (by simp;omega);rw[z]at u;cases u;have I:(h.new (.cells B2 E.sz true ro w)).next=h.next+1:=rfl;have f:=H.ok j c hc;refine c.fe f (λl a=>?_) (λl a=>?_) (by have:=p.next;omega)
 ·rw[p.fe l (by have:=H.fl l a;omega) λe=>(hO.rI e).2.2 a,fh _ (H.fl l a)]
 ·have q:=(c.LR f l a).1;rw[p.fe l (by omega) λe=>H.A5 j i c _ hc hi A l a (.inr ⟨d,n,e⟩),fh _ q]
def BQ(u:U)(I:Nat->Nat)(i b:Nat):List Nat:=(List.range i).filter λt=>t != 0&&I t == b
theorem MP(u:U)(I:Nat->Nat)(i b:Nat):BQ u I (i+1) b=if i≠0/\I i=b then BQ u I i b++[i] else BQ u I i b:=by
 unfold BQ;rw[VR,wBu];by_cases c:i≠0/\I i=b
 ·rw[if_pos c,wBb,if_pos (by rw[uF,wB5,EE];exact c)];rfl
 ·rw[if_neg c,wBb,if_neg (by rw[uF,wB5,EE];exact c)];simp
theorem Yw(u:U)(I:Nat->Nat)(i b:Nat):(BQ u I i b).length<=i:=by
 unfold BQ;exact BX (U7 ..) (by simp)
theorem zbi{l ty:Nat}{a b c d e f g k:V}(H:ej F h cs)(i:Nat)(hi:cs[i]? =some (er l ty [a,b,c,d,e,f,g,k])):fM 5 (.ptr l 0) h=some (.agg [a,b,c,d,e]):=by
 rw[yL (H.get i hi)];rfl
theorem Uz(g:Good u)(ha:oh u)(H0:ej F h cs)(K:tL F h u vv vb vs)
  (H:∀F' h' az wv wb ws,Sn F h F' h'->ej F' h' cs->Hh u (iL az)->az.length=u.ef.length->tL F' h' (gG u (iL az)) wv wb ws->Q (.agg (uC (gG u (iL az)) wv wb ws)) h') :
  cP CS oz [.agg (uC u vv vb vs)] h Q:=by
 refine JM rfl rfl ?_;unfold BZ;have nv:=g.nv;have nb:=g.nb;refine jP H0 K.one λh1 H1 s1=>rh H1 λh2 H2 s2=>?_;generalize h.next=l1 at*;generalize h1.next=l2 at*;refine ed (H2.oL 1 rfl rfl) ?_;refine LD g H2 ((K.since s1).since s2) λF3 S s3 H3=>?_;refine wW (gI rfl ?_);have T:=(s1.trans s2).trans s3;have u3:=K.since T;refine ed (H3.oL 1 rfl rfl) (ed (H3.oL 1 rfl rfl) ?_);rw[gZ];have g4:=fi S (.map [] 0);obtain⟨H4,s4⟩:=H3.new (p:=zcY (λl=>l=S.next) (S.new (.map [] 0))) (.map [] 0) (λl hl=>by subst hl;exact⟨rfl,Pd _,H3.fresh⟩) λ_ e=>e;generalize S.new (.map [] 0)=h4 at*;generalize S.next=lm at*;refine⟨⟨g4,O.O3 0⟩,H4.oL 2 rfl rfl,H4.oL 2 rfl rfl,?_⟩;refine J2 (vL g ha) H4 (u3.since s4) λF5 h5 wv wb ws xs bs ss fa fn fl s5 hc hb hs H5=>⟨s5.next,⟨((H5.ok 6 _ rfl) lm rfl).1.trans g4,O.O3 0⟩,H5.oL 8 rfl rfl,?_⟩
 have U:=(T.trans s4).trans s5;have u5:=K.since U;obtain⟨G,H6,s6,w6⟩:=H5.P9 hc hb hs;have aw:=U.trans s6;refine JQ K.one (u5.since s6).v.len nv H6 λh7 iQ s7 H7=>⟨s7.next,?_⟩
 have ea:=H7.one 0 rfl;have hp:fJ [.I 0,.I 0,.ee,.ee,.ee,.ee,.ee,.ku] [(0,5),(5,1),(6,1),(7,1)] [(0,V.agg (uC u wv wb ws)),(1,iQ),(3,.map lm)]=some (V.agg [.I u.func,.I u.pc,wv,wb,ws,iQ,.ee,.map lm]):=by
  rcases H7.row 0 rfl with⟨rfl,_⟩|⟨t,aM,rfl,_⟩ <;> rfl
 refine ed hp ?_;have w7:=w6.since s7;refine Td H7 (by simp only[eo,w7.v.one,w7.b.one,w7.s.one,ea];rfl) λL s8=>?_;have g8:=((L.ok 2 _ rfl) lm rfl).1.trans g4;have W:=(L.ok 2 _ rfl) lm rfl;refine⟨⟨fi _ _,bq⟩,⟨g8,O.O3 0⟩,?_⟩;have L:=L.swap (i:=2) (p:=Ly lm λ_=>none) rfl ⟨⟨[],0,g8,List.nodup_nil,λk w=>⟨λh=>(nomatch h),λ⟨_,h⟩=>(nomatch h)⟩⟩,W.2⟩ λ_ e=>e;simp only[jx,lU]at L;clear g8 W;generalize h7.new (.cells 72 1 true false [.I u.func,.I u.pc,wv,wb,ws,iQ,.ee,.map lm])=X at*;generalize h7.next=ln at*;have Y:=(aw.trans s7).trans s8;have u8:=K.since Y;refine oF (L.ld 4 rfl rfl) (ed u8.b.len ?_);rw[oC (z:=V.ee) rfl (by decide) (by omega),fF];obtain⟨H9,s9⟩:=L.Ud (E:=eN) (N9:=iP) (ty:=en) u.blocks.length;have H9:ej G (X.new (.cells 22 1 true false (List.replicate u.blocks.length .ee))) _:=H9;have s9:Sn G X G (X.new (.cells 22 1 true false (List.replicate u.blocks.length .ee))):=s9;generalize X.new (.cells 22 1 true false (List.replicate u.blocks.length .ee))=h9 at*;generalize X.next=M at*;obtain⟨aN,ax,_,N,Z⟩:=H9.st 1 (o:=0+6) (u:= .slice M 0 u.blocks.length) rfl (by simp) rfl;refine ed pn (ed pf ?_);rw[ax,ei];simp only[jx,lU]at N;have D:=(Y.trans s9).trans Z;refine ed (N.oL 5 rfl rfl) ?_;refine Fi g N (K.since D) λa ay dv Al I seen post Gg aa ab rd ac ae aA hT hA=>?_;have ag:=D.trans aa;refine ed rd.len ?_;have aB:List.replicate u.blocks.length ([]:List Nat)=(List.range u.blocks.length).map (BQ u I 0):=by
  refine List.ext_getElem (by simp) λi h1 h2=>?_;simp[BQ]
 rw[aB]at ab
 obtain ⟨J,hJ⟩:∃J:Nat->LP,J=λk l h'=>∃(i:Nat) (dl:List V),l=[.ptr l2 0,.ptr ln 0,dv,.I Al.length,.I i]/\i+k=u.blocks.length/\Sn a ay a h'/\
   ej a h' (Ci eN iP en ((List.range u.blocks.length).map (BQ u I i)) (.slice M 0 u.blocks.length) dl::er ln 72 [.I u.func,.I u.pc,wv,wb,ws,iQ,.slice M 0 u.blocks.length,.map lm]::ev eZ en ((List.range u.ef.length).map λ(i:Nat)=>(i:Int)) iQ::Ly lm (λ_=>none)::er l2 fT [.I 0,.I 0,.ee,.ee,.ee]::er l1 fT (uC u vv vb vs)::cs):=⟨_,rfl⟩
 refine Gi J (λk x2 x3 aO aP aQ q hi=>?_) (k:=u.blocks.length) ?_;rotate_left
 ·rw[hJ];exact⟨0,_,rfl,by omega,Sn.refl _ _,ab⟩
 rw[hJ]at hi;obtain⟨i,dl,⟨⟩,hk,r,f⟩:=hi;unfold yB;rw[ac];have ah:tL a q u wv wb ws:=((((w7.since s8).since s9).since Z).since aa).since r;by_cases hi:i<u.blocks.length;rotate_left
 ·refine jf ?_;obtain rfl:i=u.blocks.length:=by omega
  obtain⟨aR,x,A,r13⟩:=f.TT 0 rfl;have x:=x.tail;refine ZT g x (ah.since A) rfl r13 (λb hb=>?_) hT hA λaS aC az C m al sub hN=>?_
  ·rw[xk,wBm hb];rfl
  have aD:=(ah.since A).since C;refine ed pn (ed (fR _ _ _) (ed (zbi m 0 rfl) (oN (m.ld 0 rfl rfl) ?_)));refine TY g ha al sub (m.perm [1,0,2,3] 4 (by decide) (by decide) (by simp)) aD λai aE aj ak am an P ao=>⟨an.next,?_⟩
  have P:ej ai aE (er ln 72 _::er l2 fT _::er l1 fT _::cs):=P;obtain⟨aF,aG,aH,R,ap⟩:=P.Uf 1 (ws:=uC (gG u (iL az)) aj ak am) (n:=5) rfl rfl rfl ao.one;rw[aG,ei];refine⟨aH,?_⟩;simp only[jx,lU]at R;refine ed (R.oL 1 rfl rfl) ?_;exact H ai aF az aj ak am (((((ag.trans r).trans A).trans C).trans an).trans ap) R.tail.tail.tail hN al (ao.since ap)
 refine gR ?_
 have aq:∀{c dl},Sn a q a c->ej a c (Ci eN iP en ((List.range u.blocks.length).map (BQ u I (i+1))) (.slice M 0 u.blocks.length) dl::er ln 72 [.I u.func,.I u.pc,wv,wb,ws,iQ,.slice M 0 u.blocks.length,.map lm]::ev eZ en ((List.range u.ef.length).map λ(i:Nat)=>(i:Int)) iQ::Ly lm (λ_=>none)::er l2 fT [.I 0,.I 0,.ee,.ee,.ee]::er l1 fT (uC u vv vb vs)::cs)->
   nj CS Q (A4 J k) [.ptr l2 0,.ptr ln 0,dv,.I u.blocks.length,.I i] c:=λ{c dl} A x=>by
  refine ER ?_;unfold xL;refine fS ⟨k-1,by omega,?_⟩;rw[hJ,ac];exact⟨i+1,dl,rfl,by omega,r.trans A,x⟩
 by_cases h0:i=0
 ·subst h0;obtain⟨l6,o6,_,q1,q2⟩:=(rd.since r).int ae .i64;refine ed q1 (ed q2 (WH (gv (by omega) (aq (dl:=dl) (Sn.refl _ _) ?_))));have e:(List.range u.blocks.length).map (BQ u I (0+1))=(List.range u.blocks.length).map (BQ u I 0):=Xf λb _=>by rw[MP,if_neg λh=>h.1 rfl]
  rw[e];exact f
 obtain⟨l6,o6,_,q1,q2⟩:=(rd.since r).int (aA i h0 hi) .i64;have aI:=(hT.up i hi h0).1;refine ed q1 (ed q2 (WH (gI (by omega) ?_)));have B:I i<((List.range u.blocks.length).map (BQ u I i)).length:=by simpa using aI
 have aJ:((List.range u.blocks.length).map (BQ u I i))[I i]'B=BQ u I i (I i):=by simp
 have hlen:(((List.range u.blocks.length).map (BQ u I i))[I i]'B).length<1000000:=by
  rw[aJ];have:=Yw u I i (I i);omega
 obtain ⟨l,d,d',c,aC,hd,hl,e1,e2,e3,e4,e5,e6,m,C⟩:=f.T3 0 rfl B (kj:=8) (B2:=3) (y:=i) (w:=[.I i]) (ro:=false) rfl (by decide) (by decide) hlen;have aK:=f.XX 0 rfl B (kj:=8) (B2:=3) (y:=i) (w:=[.I i]) (ro:=false) rfl (by decide) (by decide) hlen hd e3 (j:=1) (by decide) rfl;have aL:eR 3 1 8 d (.slice q.next 0 1) (q.new (.cells 3 1 true false (iT [i])))=some (.val d' c):=e3;have cn:eQ (.ptr ln (0+6)) q=some (.slice M 0 u.blocks.length):=f.ld 1 rfl rfl;have ar:eQ (.ptr ln (0+6)) c=some (.slice M 0 u.blocks.length):=kK aK.1 rfl;have au:=(f.ok 1 _ rfl).2.1;refine oN cn (oN cn (ed e1 (ed e2 ?_)));rw[mN,gZ];refine⟨⟨fi _ _,bq⟩,qN e2 (fh _ hl),qN cn (fh _ au),qN cn (fh _ au),?_⟩;rw[aL,ei];refine⟨e4,ed e1 ⟨ar,?_⟩⟩;rw[e5,ei];refine⟨e6,aq (dl:=dl.set (I i) d') C ?_⟩;simp only[jx]at m;have e:((List.range u.blocks.length).map (BQ u I i)).set (I i) (((List.range u.blocks.length).map (BQ u I i))[I i]'B++[i])=(List.range u.blocks.length).map (BQ u I (i+1)):=by
  refine List.ext_getElem (by simp) λb h1 h2=>?_;rw[List.getElem_set];simp only[List.getElem_map,List.getElem_range];rw[MP];by_cases eb:I i=b
  ·subst eb;simp[h0]
  ·rw[if_neg eb,if_neg λh=>eb h.2]
 rw[<-e];exact m
end
open Un Dm
section
variable{F F':Nat->Prop}{h h':Hp}{cs:List Pc}{Q:fq}{u:U}{vv vb vs:V}
structure TmS (u:U) (P:Nat->Prop) (ys:List Vl):Prop where
 len:ys.length=u.ef.length
 one:∀(v:Nat) (x:Vl),u.ef[v]? =some x->(ys[v]? =some x\/ys[v]? =some (xm v x))/\(P v->ys[v]? =some (xm v x))
theorem TmS.step{P b:Nat->Prop} {ys VS:List Vl}(t:TmS u P ys){v:Nat}{x:Vl}(hx:u.ef[v]? =some x)(c:VS[v]? =some (xm v x))(d:∀w,w≠v->VS[w]? =ys[w]?)(f:VS.length=ys.length)(hP:∀w,b w->P w\/w=v):TmS u b VS:=by
 refine⟨f.trans t.len,λw y a=>?_⟩;by_cases e:w=v
 ·subst e;rw[hx]at a;cases a;exact⟨.inr c,λ_=>c⟩
 ·rw[d w e];exact⟨(t.one w y a).1,λh=>(t.one w y a).2 ((hP w h).elim id λh=>absurd h e)⟩
theorem TmS.all{P:Nat->Prop}{ys:List Vl}(t:TmS u P ys)(h:∀v,v<u.ef.length->P v):ys=(zM u).ef:=by
 refine So λv=>?_;by_cases hv:v<u.ef.length
 ·have hx:=g0 hv;rw[(t.one v _ hx).2 (h v hv),QQ hx]
 ·have e:(zM u).ef.length=u.ef.length:=List.length_mapIdx;rw[JA (by rw[t.len];omega),JA (by omega)]
def PT(u:U)(i j v:Nat):Prop:=∃c k,At u v c k/\(c<i\/c=i/\k<j)
theorem YX{u:U}{v:Nat}{x y:Vl}(h:y=x\/y=xm v x):(y.op=19\/y.op=20->x.op=19\/x.op=20)/\(¬(y.op=19\/y.op=20)->y=xm v x):=by
 by_cases c:x.op=19\/x.op=20
 ·refine⟨λ_=>c,λa=>h.elim (λe=>absurd (e▸c) a) id⟩
 ·rw[G1 c]at h⊢;have e:y=x:=h.elim id id;exact⟨λh=>e▸h,λ_=>e⟩
theorem ZL(g:Good u)(H0:ej F h cs)(hu:tL F h u vv vb vs)
  (H:∀F' h' wv wb,Sn F h F' h'->ej F' h' cs->tL F' h' (zM u) wv wb vs->Q (.agg (uC (zM u) wv wb vs)) h') :
  cP CS mJ [.agg (uC u vv vb vs)] h Q:=by
 refine DC rfl rfl ?_;unfold wL;have nv:=g.nv;have nb:=g.nb;refine jP H0 hu.one λI H1 s1=>rh H1 λm H2 s2=>?_;generalize h.next=l1 at*;generalize I.next=l2 at*;rw[Di,fF];obtain⟨H3,s3⟩:=H2.Vz (E:=eV) (xs:=[]) gi (ws:=[]) (n:=0) rfl trivial rfl;have H3:ej F (m.new (.cells 40 6 true false [])) (ev eV gi [] (.slice m.next 0 0)::_):=H3;have s3:Sn F m F (m.new (.cells 40 6 true false [])):=s3;generalize m.new (.cells 40 6 true false [])=N at*;generalize m.next=lz at*;have u3:=((hu.since s1).since s2).since s3;obtain⟨xv,h4,e4,_,H4,s4⟩:=H3.NI 0 rfl (kj:=64) u3.v (by decide) (by decide) (by simp;omega);refine oF (H3.ld 2 rfl rfl) ?_;rw[show eR 40 6 64 (.slice lz 0 0) vv N=_ from e4,ei];simp only[jx,MR]at H4;have aj:=((s1.trans s2).trans s3).trans s4
 obtain ⟨J,hJ⟩:∃J:Nat->LP,J=λk l h'=>∃(F':Nat->Prop) (i:Nat) (ys:List Vl) (d:V),l=[.ptr l1 0,.ptr l2 0,xv,d,.I i]/\i+k=u.blocks.length/\Sn F h F' h'/\TmS u (PT u i 0) ys/\
   ej F' h' (ev eV gi ys xv::ev eK fo (u.blocks.take i) d::er l2 fT [.I 0,.I 0,.ee,.ee,.ee]::er l1 fT (uC u vv vb vs)::cs):=⟨_,rfl⟩
 refine AT J (λk x1 x2 x3 d x5 h5 hi=>?_) (k:=u.blocks.length) ?_;rotate_left
 ·rw[hJ];refine⟨F,0,u.ef,.ee,rfl,by omega,aj,⟨rfl,λv x hx=>⟨.inl hx,λ⟨c,k,_,h⟩=>by omega⟩⟩,?_⟩;have:=(H4.add (p:=ev eK fo [] .ee) .nil λ_ h=>h).sw;exact this
 rw[hJ]at hi;obtain⟨F5,i,ys,_,⟨⟩,hk,s5,t5,O⟩:=hi;unfold tj;have u5:=hu.since s5;refine oF (O.ld 3 rfl rfl) (ed u5.b.len ?_);by_cases hi:i<u.blocks.length;rotate_left
 ·refine jf ?_;obtain rfl:i=u.blocks.length:=by omega
  have ey:=t5.all λv hv=>by
   obtain⟨b,j,A⟩:=g.xM v hv trivial;exact⟨b,j,A,.inl (let⟨_,K,_⟩:=A;(jk.1 K).1)⟩
  subst ey;rw[Hj]at O;obtain⟨h6,e6,_,H6,s6⟩:=O.st 3 (o:=0+2) (u:=xv) rfl (by simp[uC]) (O.one 0 rfl);refine ed pf ?_;rw[e6,ei];simp only[jx,lU]at H6;obtain⟨h7,e7,_,q,s7⟩:=H6.st 3 (o:=0+3) (u:=d) rfl (by simp[uC]) (H6.one 1 rfl);refine ed pf ?_;rw[e7,ei];simp only[jx,lU]at q;obtain⟨z,L,r8⟩:=q.lH 0 rfl;simp only[jx]at z;obtain⟨r,P,r9⟩:=z.lH 1 rfl;simp only[jx,lU]at r;have aa:=((s6.trans s7).trans L).trans P;have w9:tL _ h7 (zM u) xv d vs:=⟨r8.since P,r9,(u5.since aa).s⟩
  have r:ej _ h7 (emp::emp::er l2 fT _::er l1 fT (uC (zM u) xv d vs)::cs):=r;refine ed (r.oL 3 rfl rfl) ?_;obtain⟨ab,R,_,f,C⟩:=r.Uf 2 (ws:=uC (zM u) xv d vs) (n:=5) rfl rfl rfl w9.one;rw[R,ei];simp only[jx,lU]at f;refine ed (f.oL 2 rfl rfl) ?_;exact H _ ab xv d ((s5.trans aa).trans C) f.tail.tail.tail.tail (w9.since C)
 refine gR ?_;have K:=g0 hi;have ak:=Qs hi;generalize u.blocks[i]=B at*;obtain⟨lb,ob,bv,S,T,_,y1,y2,iv,iN,ip,_⟩:=u5.vf K;refine oF (O.ld 3 rfl rfl) (ed y1 (ed y2 ?_));refine gQ O rfl rfl (by simp only[kS,eo,iv.one,iN.one,ip.one];rfl) λh6 H6 s6=>?_;generalize h5.next=lx at*;have ar:B.ef.length<=u.ef.length:=jr _ B.ef (Ez g K) λv hv=>by
  obtain⟨k,hk⟩:=mr.1 hv;exact g.jz v i k ⟨B,K,hk⟩
 obtain ⟨J1,U⟩:∃J1:Nat->LP,J1=λk l h'=>∃(j:Nat) (ys:List Vl) (t:V),l=[.ptr l1 0,.ptr l2 0,xv,d,.I i,.ptr lx 0,t,.I j]/\j+k=B.ef.length/\Sn F5 h6 F5 h'/\TmS u (PT u i j) ys/\
   ej F5 h' (ev eN en (B.ef.take j) t::er lx 38 (kS B bv S T)::ev eV gi ys xv::ev eK fo (u.blocks.take i) d::er l2 fT [.I 0,.I 0,.ee,.ee,.ee]::er l1 fT (uC u vv vb vs)::cs):=⟨_,rfl⟩
 refine AV J1 (λk1 x1 x2 x3 x4 x5 x6 t x8 h7 ac=>?_) (k:=B.ef.length) ?_;rotate_left
 ·rw[U];exact⟨0,ys,.ee,rfl,by omega,Sn.refl _ _,t5,H6.add (p:=ev eN en [] .ee) .nil λ_ h=>h⟩
 clear t5 H6 O ys;rw[U]at ac;obtain⟨j,ys,_,⟨⟩,au,s7,M,q⟩:=ac;unfold sW;have ae:=s6.trans s7;have W:=iv.since ae;refine oF (q.ld 1 rfl rfl) (ed W.len ?_);by_cases hj:j<B.ef.length;rotate_left
 ·refine jf ?_;obtain rfl:j=B.ef.length:=by omega
  rw[Hj]at q;obtain⟨z,L,r8⟩:=q.lH 0 rfl;simp only[jx]at z;obtain⟨h9,e9,_,r,P⟩:=z.st 1 (o:=0+0) (u:=t) rfl (by simp[kS]) r8.one;refine ed pf ?_;rw[e9,ei];simp only[jx,lU]at r;refine ed (r.oL 1 rfl rfl) ?_;have X:=(ae.trans L).trans P;have o1:fZ (kS B t S T)=true:=by simp only[kS,eo,r8.one,iN.one,ip.one];rfl
  rw[show jd 38 6 1 (.agg [.ee,.I 0,.I 0,.ee,.ee,.I 0]) [(0,.agg ((kS B bv S T).set (0+0) t))]=_ from ng rfl rfl o1,fF];obtain⟨al,ab,R,_,f,C⟩:=r.uI 3 rfl (kj:=96) (B2:=38) (y:=B) (w:=kS B t S T) (ro:=false) ⟨t,S,T,rfl,r8.since P,iN.since X,ip.since X⟩ (by decide) (by decide) (by simp;omega);rw[show eR 38 6 96 d (.slice h9.next 0 1) (h9.new (.cells 38 6 true false ((kS B bv S T).set (0+0) t)))=_ from R,ei];refine fS ⟨k-1,by omega,?_⟩;rw[hJ];simp only[jx,lU]at f;refine⟨_,i+1,ys,al,rfl,by omega,(s5.trans X).trans C,⟨M.len,λv x hx=>⟨(M.one v x hx).1,λ⟨c,k,I,m⟩=>(M.one v x hx).2 ⟨c,k,I,?_⟩⟩⟩,?_⟩
  ·rcases Re c i with N|N
   ·exact .inl N
   ·have:c=i:=by omega
    subst this;obtain⟨B',h4,h5⟩:=I;rw[K]at h4;cases h4;exact .inr ⟨rfl,(jk.1 h5).1⟩
  ·rw[ak];exact f.tail.tail
 refine gR ?_;have hv:=g0 hj;have ag:=Qs hj;generalize B.ef[j]=v at*;have A:At u v i j:=⟨B,K,hv⟩
 have Y:=g.jz v i j A;have hx:=g0 Y;generalize u.ef[v]=x at*;obtain⟨l3,o3,_,q1,q2⟩:=W.nat hv .i64;obtain⟨y,hy⟩:∃y,ys[v]? =some y:=⟨_,g0 (by rw[M.len];exact Y)⟩
 have D:v<ys.length:=by rw[M.len];exact Y
 have am:y=x\/y=xm v x:=by
  rcases(M.one v x hx).1 with h|h <;> rw[hy]at h <;> cases h
  ·exact .inl rfl
  ·exact .inr rfl
 obtain ⟨an,ao⟩:=YX (u:=u) am;obtain⟨l4,o4,w4,z1,_,⟨wa,ew,_⟩,z4⟩:=q.Z0 2 rfl D .i64;have ap:ys[v]=y:=Option.some.inj ((g0 D).symm.trans hy);rw[ap]at ew;subst ew;have z0:eQ (.ptr l4 (o4+0)) h7=some (.I y.op):=z4 0 _ rfl;have ah:∀w,PT u i (j+1) w->PT u i j w\/w=v:=λw ⟨c,k,I,m⟩=>by
  rcases m with m|⟨rfl,m⟩
  ·exact .inl ⟨c,k,I,.inl m⟩
  ·by_cases e:k=j
   ·subst e;obtain⟨B',N,h4⟩:=I;rw[K]at N;cases N;rw[hv]at h4;exact .inr (Option.some.inj h4).symm
   ·exact .inl ⟨c,k,I,.inr ⟨rfl,by omega⟩⟩
 have ai:∀{Z G},Sn F5 h7 F5 Z->TmS u (PT u i (j+1)) G->ej F5 Z (ev eN en (B.ef.take j) t::er lx 38 (kS B bv S T)::ev eV gi G xv::ev eK fo (u.blocks.take i) d::er l2 fT [.I 0,.I 0,.ee,.ee,.ee]::er l1 fT (uC u vv vb vs)::cs)->
   kL CS Q (A4 J k) (A4 J1 k1) [.ptr l1 0,.ptr l2 0,xv,d,.I i,.ptr lx 0,t,.I j] Z:=λ{Z G} L t8 z=>by
  refine Ag ?_;unfold qU;obtain⟨l5,o5,_,p1,p2⟩:=(W.since L).nat hv .i64;refine oF (z.ld 1 rfl rfl) (ed p1 (ed p2 ?_));rw[mN,fF];obtain⟨aq,h9,e9,_,r,P⟩:=z.uI 0 rfl (kj:=8) (B2:=3) (y:=v) (w:=iT [v]) (ro:=false) rfl (by decide) (by decide) (by simp;omega);rw[show eR 3 1 8 t (.slice Z.next 0 1) (Z.new (.cells 3 1 true false (iT [v])))=_ from e9,ei];refine fS ⟨k1-1,by omega,?_⟩;rw[U];simp only[jx]at r;exact⟨j+1,G,aq,rfl,by omega,(s7.trans L).trans P,t8,by rw[ag];exact r⟩
 refine oF (q.ld 1 rfl rfl) (ed q1 (ed q2 (ed z1 (oF z0 (ed (ie ..) (ed (a:= .bool (decide (y.op=19\/y.op=20))) ?_ (jF ?_)))))))
 ·simp only[fy,ie,pD];congr 2;rw[Th,Rc,EE,EE,D1];omega
 by_cases c:y.op=19\/y.op=20
 ·refine gI (O7 c) (oF (q.ld 1 rfl rfl) (ed q1 (ed q2 (oF (q.ld 1 rfl rfl) (ed q1 (ed q2 ?_))))));refine ed (show _=some (.agg (lW ⟨2,0,0,(v:Int),[],0⟩ .ee)) from rfl) ?_;obtain⟨l6,o6,Z,p1,p2,n8,z,L⟩:=q.stE 2 rfl D (y:=⟨2,0,0,(v:Int),[],0⟩) (ws:=lW ⟨2,0,0,(v:Int),[],0⟩ .ee) ⟨.ee,rfl,.inl ⟨rfl,rfl⟩⟩;refine ed p1 ?_;rw[show gh 6 (.ptr l6 o6) _ h7=_ from p2,ei];simp only[jx,lU]at z;refine⟨n8,ai L (M.step hx (VS:=ys.set v ⟨2,0,0,(v:Int),[],0⟩) ?_ (λw hw=>IB λe=>hw e.symm) (by simp) ah) z⟩;rw[Mt D,MJ (an c)]
 ·refine gv (by rw[D1];exact c) (ai (Sn.refl _ _) (M.step hx (hy.trans (congrArg some (ao c))) (λ_ _=>rfl) rfl ah) q)
end
