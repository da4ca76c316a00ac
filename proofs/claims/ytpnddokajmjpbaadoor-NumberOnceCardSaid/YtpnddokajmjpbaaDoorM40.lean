/- Parts. -/
import Derived.Test.YtpnddokajmjpbaaDoorM38
import Derived.Test.YtpnddokajmjpbaaDoorM35
import Derived.Test.YtpnddokajmjpbaaDoorM37
namespace Go.Proofs.YtpnddokajmjpbaaDoor.Hx
open Go.Proofs.YtpnddokajmjpbaaDoor.Un Go.Proofs.YtpnddokajmjpbaaDoor.Dm
abbrev yN:Nat:=127
def Fp (k:mb):List V:=[.int .i64 (k.1:Nat),.int .i64 k.2.1,.int .i64 k.2.2.1,.int .i64 k.2.2.2]
def eKy:nQ mb where
 sz:=4
 rel _ _ k cs:=cs=Fp k
 len h:=by subst h;rfl
 one h:=by subst h;rfl
 fc _ h:=h
 mono _ h:=h
noncomputable def isInt (t:Nat):Bool:=match P0.underlying t with
 |some (.int _)=>true
 |_=>false
theorem WK:(match tg with
  |some [a,b,c,d]=>(a.offset == 0&&b.offset == 1&&c.offset == 2&&d.offset == 3)&&(isInt a.type&&isInt b.type&&isInt c.type&&isInt d.type)
  |_=>false)=true:=by kernel_rfl
theorem M7 {t:Nat}(h:isInt t=true)(a b:Int):B4 t (.int .i64 a) (.int .i64 b)=some (a == b):=by
 unfold isInt at h;unfold B4;split at h
 ·rename_i e;rw[e];rfl
 ·cases h
theorem Om:∃f g i j,tg=some [f,g,i,j]/\f.offset=0/\g.offset=1/\i.offset=2/\j.offset=3/\isInt f.type=true/\isInt g.type=true/\isInt i.type=true/\isInt j.type=true:=by
 have h:=WK;split at h
 ·rename_i a b c d e;simp only[tN,CN]at h;obtain⟨⟨⟨⟨k,l⟩,m⟩,n⟩,⟨⟨o,p⟩,q⟩,r⟩:=h;exact⟨a,b,c,d,e,k,l,m,n,o,p,q,r⟩
 ·cases h
theorem DX (k:mb):Fu tg (.agg (Fp k))=true:=by
 obtain⟨a,b,c,d,e,h0,g,h,i,_⟩:=Om;rw[e];show([a,b,c,d].all λf=>(AB (Fp k) f.offset).isSome)=true;simp only[W7,List.all_nil,h0,g,h,i];rfl
theorem UW (a b:mb):Jt yN tg (.agg (Fp a)) (.agg (Fp b))=some (decide (a=b)):=by
 obtain ⟨i,j,k,l,e,h0,m,n,o,q,r,s,t⟩:=Om;rw[e];show Ip [i,j,k,l] (Fp a) (Fp b)=_;have z:∀f fs x y (u v:Int),AB x f.offset=some (.int .i64 u)->AB y f.offset=some (.int .i64 v)->isInt f.type=true->Ip (f::fs) x y=if u=v then Ip fs x y else some false:=λf fs x y u v w hv ht=>by
  show oB (AB x f.offset) _=_;rw[w];show oB (AB y f.offset) _=_;rw[hv];show oB (B4 f.type _ _) _=_;rw[M7 ht];by_cases c:u=v
  ·rw[if_pos c,CN.2 c];rfl
  ·rw[if_neg c,Tw.2 c];rfl
 obtain⟨a1,a2,a3,A⟩:=a;obtain⟨b1,b2,b3,B⟩:=b;rw[z i _ _ _ _ _ (by rw[h0];rfl) (by rw[h0];rfl) q,z j _ _ _ _ _ (by rw[m];rfl) (by rw[m];rfl) r,z k _ _ _ _ _ (by rw[n];rfl) (by rw[n];rfl) s,z l _ _ _ _ _ (by rw[o];rfl) (by rw[o];rfl) t];simp only[Prod.mk.injEq];by_cases p:a1=b1
 ·rw [if_pos (show(a1:Int)=b1 by omega)];by_cases c2:a2=b2
  ·rw [if_pos c2];by_cases d:a3=b3
   ·rw[if_pos d];by_cases g:A=B
    ·rw[if_pos g,I9 ⟨p,c2,d,g⟩];rfl
    ·rw[if_neg g,K3 λh=>g h.2.2.2]
   ·rw[if_neg d,K3 λh=>d h.2.2.1]
  ·rw[if_neg c2,K3 λh=>c2 h.2.1]
 ·rw[if_neg (show ¬(a1:Int)=b1 by omega),K3 λh=>p h.1]
def SO (ks:List (mb×Nat×Nat)):List (V×V×Nat):=ks.map λe=>(.agg (Fp e.1),.int .i64 (e.2.1:Nat),e.2.2)
theorem PX {α β:Type}(f:α->β):∀(l:List α)(i:Nat),(l.eraseIdx i).map f=(l.map f).eraseIdx i
 |[],_=>rfl
 |_::_,0=>rfl
 |a::l,i+1=>congrArg (f a::·) (PX f l i)
def JS (l:Nat)(S:mb->Option Nat):Pc where
 j5:=λm=>m=l
 ok F h:=(∃ks c,h.get l=some (.map (SO ks) c)/\(ks.map Prod.fst).Nodup/\∀k w,S k=some w↔∃t,(k,w,t)∈ks)/\l<h.next/\¬F l
 IP:=λh _ e=>by subst e;exact h.2
 fc:=λ⟨⟨ks,c,d,f⟩,b⟩ _ a g=>⟨⟨ks,c,(a l rfl).trans d,f⟩,Ac b.1 g,b.2⟩
 mono:=λh _ a=>⟨h.1,h.2.1,a l rfl⟩
theorem QN (k:mb):∀(ks:List (mb×Nat×Nat))(i:Nat),
  (oJ yN tg (.agg (Fp k)) (SO ks) i=some none/\∀e∈ks,e.1≠k)\/∃j w t,oJ yN tg (.agg (Fp k)) (SO ks) i=some (some (i+j,.int .i64 (w:Nat)))/\ks[j]? =some (k,w,t)
 |[],i=> .inl ⟨rfl,λ_ h=>by cases h⟩
 | e ::es,i=>by
   have a:oJ yN tg (.agg (Fp k)) (SO (e::es)) i=if k=e.1 then some (some (i,.int .i64 (e.2.1:Nat))) else oJ yN tg (.agg (Fp k)) (SO es) (i+1):=by
     show oB (Jt yN tg (.agg (Fp k)) (.agg (Fp e.1))) _=_;rw[UW];by_cases hk:k=e.1
     ·rw[if_pos hk,I9 hk];rfl
     ·rw[if_neg hk,K3 hk];rfl
   by_cases hk:k=e.1
   ·rw[if_pos hk]at a
    exact .inr ⟨0,e.2.1,e.2.2,a,by rw[hk];rfl⟩
   ·rw[if_neg hk]at a
    rcases QN k es (i+1)with⟨b,c⟩|⟨j,w,t,b,c⟩
    ·exact .inl ⟨a.trans b,λd f=>(CL.1 f).elim (λh=>by rw[h];exact λh=>hk h.symm) (c d)⟩
    ·exact .inr ⟨j+1,w,t,by rw[a,b];congr 3;omega,c⟩
section
variable{F F':Nat->Prop}{h h':Hp}{cs ds:List Pc}{Q:fx}{l:Nat}{S:mb->Option Nat}
theorem ei.zag (H:ei F h cs)(i:Nat)(hi:cs[i]? =some (JS l S))(k:mb)(z:V):Iq yN tg z true (.map l) (.agg (Fp k)) h=some (.tuple (match S k with|some w=>[.int .i64 w,.bool true]|none=>[z,.bool false])):=by
 obtain ⟨⟨ks,c,f,m,d⟩,_⟩:=H.ok i _ hi;have e:∀r,oJ yN tg (.agg (Fp k)) (SO ks) 0=some r->Iq yN tg z true (.map l) (.agg (Fp k)) h=some (found z true r):=λr g=>by
  unfold Iq xh;simp only[f,fh,DX,kI];rw[g];rfl
 rcases QN k ks 0 with⟨a,b⟩|⟨j,w,t,a,b⟩
 ·rw[e _ a]
  cases hS:S k with
  |none=>rfl
  | some v=>
    obtain⟨t,ht⟩:=(d k v).1 hS;exact absurd rfl (b _ ht)
 ·rw[e _ a,(d k w).2 ⟨t,xQ b⟩];rfl
theorem ei.il (H:ei F h cs)(i:Nat)(hi:cs[i]? =some (JS l S)){k:mb}(g:S k=none)(w:Nat):∃h',GD yN tg (.map l) (.agg (Fp k)) (.int .i64 w) h=some (.val .undef h')/\h.next<=h'.next/\ei F h' (cs.set i (JS l (up S k (some w))))/\Sn F h F h':=by
 obtain ⟨⟨ks,c,m,n,d⟩,b,o⟩:=H.ok i _ hi;have a:∀e∈ks,e.1≠k:=λe q r=>by
  obtain⟨k',w',t⟩:=e;obtain rfl:k' = k:=r;have:=(d k' w').2 ⟨t,q⟩;rw[g]at this;cases this
 rcases QN k ks 0 with⟨f,_⟩|⟨j,w',t,f,s⟩
 ·have u:Hu yN tg (SO ks) c (.agg (Fp k)) (.int .i64 w)=some (.map (SO (ks++[(k,w,c)])) (c+1)):=by
   unfold Hu;rw[f];show some (O.map (SO ks++[_]) _)=_;unfold SO;rw[EV];rfl
  refine⟨h.put l (.map (SO (ks++[(k,w,c)])) (c+1)),?_,iW _,H.Ad (p:=JS l (up S k (some w))) hi (jZ.put _ rfl b) ⟨⟨_,_,fP _ b,?_,λk' w'=>?_⟩,b,o⟩ λ_ h=> .inl h⟩
  ·unfold GD xh;simp only[m,fh,u,DX,kI]
  ·rw[EV,Qh];refine⟨n,by simp,λx hx y v e=>?_⟩;obtain⟨z,A,rfl⟩:=K2.1 hx;obtain rfl:y=k:=by simpa using v
   exact a z A e
  ·by_cases e:k' = k
   ·subst e;rw[im];constructor
    ·intro B;cases B;exact⟨c,XU _ (by simp)⟩
    ·rintro⟨t,ht⟩;rcases xX.1 ht with ht|ht
     ·exact absurd rfl (a _ ht)
     ·obtain⟨_,C⟩:=Prod.mk.inj (EB.1 ht);rw[(Prod.mk.inj C).1]
   ·rw[iz _ _ e,d];exact⟨λ⟨t,ht⟩=>⟨t,LC _ ht⟩,λ⟨t,ht⟩=>⟨t,(xX.1 ht).elim id λht=>absurd (Prod.mk.inj (EB.1 ht)).1 e⟩⟩
 ·exact absurd rfl (a _ (xQ s))
theorem Sf {ks:List (mb×Nat×Nat)}(l:(ks.map Prod.fst).Nodup){i j:Nat}{a b:mb×Nat×Nat}(m:ks[i]? =some a)(hb:ks[j]? =some b)(n:a.1=b.1):i=j:=by
 have c:(ks.map Prod.fst)[i]? =some a.1:=by rw[wq,m];rfl
 have o:(ks.map Prod.fst)[j]? =some b.1:=by rw[wq,hb];rfl
 rw[n]at c;obtain⟨d,e⟩:=iB.1 c;obtain⟨f,g⟩:=iB.1 o;have k:=VQ.1 l;rcases V2 i j with h|h|h
 ·exact absurd (e.trans g.symm) (k i j d f h)
 ·exact h
 ·exact absurd (g.trans e.symm) (k j i f d h)
theorem ei.zbc (H:ei F h cs)(i:Nat)(hi:cs[i]? =some (JS l S))(k:mb):∃h',zQ yN tg (.map l) (.agg (Fp k)) h=some (.val (.tuple []) h')/\h.next<=h'.next/\ei F h' (cs.set i (JS l (up S k none)))/\Sn F h F h':=by
 obtain⟨⟨ks,c,d,f,o⟩,a,r⟩:=H.ok i _ hi;rcases QN k ks 0 with⟨g,b⟩|⟨j,w,t,g,b⟩
 ·refine ⟨h,?_,iW _,H.swap hi ⟨⟨ks,c,d,f,λk' w'=>?_⟩,a,r⟩ λ_ h=>h,Sn.refl _ _⟩
  ·unfold zQ xh;simp only[d,fh,g,DX,kI]
  ·by_cases e:k' = k
   ·subst e;rw[im];exact⟨λh=>(nomatch h),λ⟨t,ht⟩=>absurd rfl (b _ ht)⟩
   ·rw[iz _ _ e,o]
 ·refine ⟨h.put l (.map (SO (ks.eraseIdx j)) c),?_,iW _,H.Ad (p:=JS l (up S k none)) hi (jZ.put _ rfl a) ⟨⟨_,_,fP _ a,?_,λk' w'=>?_⟩,a,r⟩ λ_ h=> .inl h⟩
  ·unfold zQ xh;simp only[d,fh,g,DX,kI,vI];unfold SO;rw[PX]
  ·rw[PX];exact f.sublist (List.eraseIdx_sublist ..)
  ·have m:∀x,x∈ks.eraseIdx j↔∃q,q≠j/\ks[q]? =some x:=λx=>List.mem_eraseIdx_iff_getElem?;by_cases e:k' = k
   ·subst e;rw[im];refine⟨λh=>(nomatch h),λ⟨t',ht⟩=>?_⟩;obtain⟨q,hq,hx⟩:=(m _).1 ht;exact absurd (Sf f hx b rfl) hq
   ·rw[iz _ _ e,o];constructor
    ·rintro⟨t',ht⟩;obtain⟨q,hq⟩:=mA.1 ht;refine⟨t',(m _).2 ⟨q,λn=>?_,hq⟩⟩;subst n;rw[b]at hq;exact e (Prod.mk.inj (Option.some.inj hq)).1.symm
    ·rintro⟨t',ht⟩;obtain⟨q,_,hq⟩:=(m _).1 ht;exact⟨t',xQ hq⟩
end
open Go.Proofs.YtpnddokajmjpbaaDoor.Un Go.Proofs.YtpnddokajmjpbaaDoor.Dm
section
variable{F F':Nat->Prop}{h h':Hp}{cs ds:List Pc}{Q:fx}{u:U}{wv wb ws kU kv:V}{ln Tn lm:Nat}{az:List Int}{S:mb->Option Nat}
theorem Wx {op:Nat}(H:Q (.bool (iM op)) h):cP CS BP [.int .i64 op] h Q:=by
 refine Qc rfl rfl ?_;unfold Kf;refine ed (mY ..) (ed (a:= .bool (iM op)) ?_ H);unfold iM;by_cases c:2<=op
 ·rw[I9 c,I9 (show(2:Int)<=op by omega)];show er .leq 3 (.int .i64 op) (.int .i64 16)=_;rw[Kk,YY];congr 2;exact decide_eq_decide.2 (by omega)
 ·rw[K3 c,K3 (show ¬(2:Int)<=op by omega)];rfl
theorem Y9 (H0:ei F h cs){i j:Nat}{E:List V}(hi:cs[i]? =some (eo ln Tn E))(s:E[5]? =some kU)(hj:cs[j]? =some (eQ eZ en az kU)){x:Vl}{t:V}(f:ik eN F h x.args t)(hl:x.op=21\/x.op=20->x.args.length<=1000000)(R:∀w∈gJ x,w<az.length)(aa:(gJ x).length<=1000000)
  (H:∀F' h',Sn F h F' h'->ei F' h' cs->Q (.agg (Fp (Un.keyOf (jQ az) x))) h'):cP CS lV [.ptr ln 0,.agg (ll x t)] h Q:=by
 refine CH rfl rfl ?_;unfold uY;have pn:∀{l o:Nat},iq (.ptr l o)=some (.ptr l o):=fT _ _;have G:∀{l o k:Nat},fH k (.ptr l o)=some (.ptr l (o+k)):=ez _ _ _;refine mf H0 (by simp only[ll,eJ,f.one];rfl) λI H1 S=>yV H1 λJ T U=>?_;generalize h.next=l3 at*;generalize I.next=l4 at*;refine oF (T.ld 1 rfl rfl) (ed (show _=some (.agg [.int .i64 x.op,.int .i64 (-1),.int .i64 (-1),.int .i64 0]) from rfl) ?_);refine iK T rfl rfl rfl λh3 W X=>?_;generalize J.next=l5 at*;refine ed (W.wH 2 rfl rfl) ?_;refine Nb W (((f.since S).since U).since X) hl λK h4 uv s4 D r4=>?_;have v:=((S.trans U).trans X).trans s4;have y:∀{a b c:Pc},(a::b::c::cs)[i+3]? =some (eo ln Tn E):=λ{_ _ _}=>by simpa using hi
 have z:∀{a b c:Pc},(a::b::c::cs)[j+3]? =some (eQ eZ en az kU):=λ{_ _ _}=>by simpa using hj
 have at_:∀n,G5 (jQ az) (gJ x) n=match (gJ x)[n]? with|some w=>jQ az w|none=>-1:=λ_=>rfl
 have Y:∀{r d},Sn F h r d->ei r d (eo l5 127 [.int .i64 x.op,.int .i64 (G5 (jQ az) (gJ x) 0),.int .i64 (G5 (jQ az) (gJ x) 1),.int .i64 0]::eo l4 127 [.int .i64 0,.int .i64 0,.int .i64 0,.int .i64 0]::eo l3 42 (ll x t)::cs)->
   ka CS Q [.ptr l3 0,.ptr l4 0,.ptr l5 0] d:=λ{r d} A e=>by
  refine AH ?_;unfold rL;have Z:∀{m},Sn r d r m->ei r m (eo l5 127 (Fp (Un.keyOf (jQ az) x))::eo l4 127 [.int .i64 0,.int .i64 0,.int .i64 0,.int .i64 0]::eo l3 42 (ll x t)::cs)->km CS Q [.ptr l4 0,.ptr l5 0] m:=λ{m} p g=>by
   refine Ax ?_;unfold rN;refine ed (g.wH 0 rfl rfl) ?_;obtain⟨h7,e7,_,H7,s7⟩:=g.VI 1 (n:=4) (ws:=Fp (Un.keyOf (jQ az) x)) rfl rfl rfl rfl;rw[e7,ef];refine ed (H7.wH 1 rfl rfl) ?_;exact H _ _ ((A.trans p).trans s7) H7.tail.tail.tail
  refine oF (e.ld 2 rfl rfl) (gO ?_);have hk:∀n,(x.op=2->n=x.n)->(x.op≠2->n=0)->Fp (Un.keyOf (jQ az) x)=[.int .i64 x.op,.int .i64 (G5 (jQ az) (gJ x) 0),.int .i64 (G5 (jQ az) (gJ x) 1),.int .i64 n]:=λn I J=>by
   unfold Un.keyOf Fp;by_cases c:x.op=2
   ·rw[if_pos c,I c]
   ·rw[if_neg c,J c]
  by_cases c:x.op=2
  ·refine ig (by omega) (oF (e.ld 2 rfl rfl) (ed G ?_));obtain⟨m,B,_,g,p⟩:=e.st 0 (o:=0+3) (u:= .int .i64 x.n) rfl (by simp) rfl;rw[B,ef];refine Z p ?_;rw[hk x.n (λ_=>rfl) λh=>absurd c h];exact g
  ·refine gG (by omega) (Z (Sn.refl _ _) ?_);rw[hk 0 (λh=>absurd h c) λ_=>rfl];exact e
 have k4:∀{d},Sn K h4 K d->ei K d (eo l5 127 [.int .i64 x.op,.int .i64 (G5 (jQ az) (gJ x) 0),.int .i64 (-1),.int .i64 0]::eo l4 127 [.int .i64 0,.int .i64 0,.int .i64 0,.int .i64 0]::eo l3 42 (ll x t)::cs)->
   ki CS Q [.ptr ln 0,.ptr l3 0,.ptr l4 0,.ptr l5 0,uv] d:=λ{d} A e=>by
  refine Au ?_;unfold rF;have r5:=r4.since A;refine ed r5.len (AM ?_);by_cases c:1<(gJ x).length
  ·have C:=gQ c;have q:=R _ (AO c);generalize (gJ x)[1]=w at*;obtain⟨l6,o6,_,L,M⟩:=r5.nat C .i64;have f:=gQ q;obtain⟨l7,o7,N,O⟩:=e.M9 (j+3) z f .i64;refine ig (by omega) (oN (e.ld (i+3) y s) (ed L (ed M (ed N (ed O (ed G ?_))))));obtain⟨m,B,P,g,p⟩:=e.st 0 (o:=0+2) (u:= .int .i64 az[w]) rfl (by simp) rfl;rw[B,ef];refine⟨P,Y ((v.trans A).trans p) ?_⟩;rw[at_ 1,C,<-Fb f]at*;exact g
  ·refine gG (by omega) (Y (v.trans A) ?_);rw[at_ 1,Jp (by omega)];exact e
 refine ed r4.len (AM ?_);by_cases c:0<(gJ x).length
 ·have C:=gQ c;have q:=R _ (AO c);generalize (gJ x)[0]=w at*;obtain⟨l6,o6,_,L,M⟩:=r4.nat C .i64;have f:=gQ q;obtain⟨l7,o7,N,O⟩:=D.M9 (j+3) z f .i64;refine ig (by omega) (oN (D.ld (i+3) y s) (ed L (ed M (ed N (ed O (ed G ?_))))));obtain⟨m,B,P,g,p⟩:=D.st 0 (o:=0+1) (u:= .int .i64 az[w]) rfl (by simp) rfl;rw[B,ef];refine⟨P,k4 p ?_⟩;rw[at_ 0,C,<-Fb f]at*;exact g
 ·refine gG (by omega) (k4 (Sn.refl _ _) ?_);rw[at_ 0,Jp (by omega)];exact D
abbrev Nm (ln Tn:Nat) (u:U) (wv wb ws kU kv:V) (lm:Nat) (az:List Int) (S:mb->Option Nat) (ds:List Pc):List Pc:=
 eo ln Tn [.int .i64 u.func,.int .i64 u.pc,wv,wb,ws,kU,kv,.map lm]::eQ eZ en az kU::JS lm S::ds
theorem Wj{az:List Int}{v:Nat}{a:Int}(h:v<az.length):jQ (az.set v a) v=a:=Fb (Ct h)
theorem Zv {az:List Int}{v w:Nat}{a:Int}(h:w≠v):jQ (az.set v a) w=jQ az w:=by
 unfold jQ;rw[E3,E3,AR λe=>h e.symm]
theorem Lv {x:Vl}(h:iM x.op=true):(gJ x).length<=2:=by
 rw[DL]at h;unfold gJ;rw[if_neg (by omega)];split
 ·omega
 ·split
  ·simp
  ·split <;> simp
theorem Oq (g:Good u){b:Nat}{B:Bk}{vl:List Nat}{O:Nat->Prop}(H0:ei F h (Nm ln Tn u wv wb ws kU kv lm az S ds))(hu:zf F h u wv wb ws)(ag:az.length=u.ee.length)(R:∀(v:Nat)(a:Int),az[v]? =some a->a<az.length)(T:u.blocks[b]? =some B)
  (hw:NW u (Pv u (·∈vl) b 0) O (jQ az) S) (hb:b ∉ vl) (Dz:∀c,c≠b->mg (next u) c b->c∈vl) (hO:∀c,O c↔mg (next u) c b)
  (H:∀F' h' f S' l v,Sn F h F' h'->ei F' h' (Nm ln Tn u wv wb ws kU kv lm f S' ds)->f.length=u.ee.length->(∀(v:Nat) (a:Int),f[v]? =some a->a<f.length)->NW u (Pl u (b::vl)) O (jQ f) S'->ik eKy F' h' l v->l.length<=3000->Bb u (Pl u (b::vl)) (jQ f) b l->
   (∀c l,c≠b->Bb u (Pl u vl) (jQ az) c l->Bb u (Pl u (b::vl)) (jQ f) c l)->Q v h') :
  cP CS jw [.ptr ln 0,.int .i64 b] h Q:=by
 refine Bp rfl rfl ?_;unfold tq;have nv:=g.nv;have pn:∀{l o:Nat},iq (.ptr l o)=some (.ptr l o):=fT _ _;have pf:∀{l o k:Nat},fH k (.ptr l o)=some (.ptr l (o+k)):=ez _ _ _;obtain⟨lb,ob,bv,bn,bp,_,x1,_,xv,_,_,xb⟩:=hu.mS T;have ao:B.ee.length<=u.ee.length:=jy _ B.ee (Eh g T) λv hv=>by
  obtain⟨k,hk⟩:=mA.1 hv;exact g.l0 v b k ⟨B,T,hk⟩
 refine ed pn (ed pf (oF (H0.ld 0 rfl rfl) (ed x1 (oF xb.ee (ed xv.len ?_)))))
 obtain ⟨J,hJ⟩:∃J:Nat->LP,J=λk l h'=>∃(F':Nat->Prop) (i:Nat) (f:List Int) (S':mb->Option Nat) (U:List mb) (W:V),l=[.ptr ln 0,W,bv,.int .i64 B.ee.length,.int .i64 i]/\i+k=B.ee.length/\Sn F h F' h'/\f.length=u.ee.length/\(∀(v:Nat) (a:Int),f[v]? =some a->a<f.length)/\NW u (Pv u (·∈vl) b i) O (jQ f) S'/\U.length<=i/\Bb u (Pv u (·∈vl) b i) (jQ f) b U/\
   (∀c l,c≠b->Bb u (Pv u (·∈vl) b 0) (jQ az) c l->Bb u (Pv u (·∈vl) b i) (jQ f) c l)/\ei F' h' (eQ eKy yN U W::Nm ln Tn u wv wb ws kU kv lm f S' ds):=⟨_,rfl⟩
 refine yA J (λk x0 W ap aq ar h1 hi=>?_) (k:=B.ee.length) ?_;rotate_left
 ·rw[hJ];refine⟨F,0,az,S,[],.ec,rfl,by omega,Sn.refl _ _,ag,R,hw,iW _,λk=>⟨λh=>(nomatch h),λ⟨w,y,c,i,h1,_,_,_,X,h6,_⟩=>?_⟩,λ_ _ _ h=>h,H0.add (p:=eQ eKy yN [] .ec) .nil λ_ h=>h⟩;rw[Mm]at h1;obtain⟨c',i',a1,a2⟩:=h1;obtain⟨rfl,rfl⟩:=g.EI _ _ _ _ _ X a1;subst h6;exact absurd a2 hb
 rw[hJ]at hi;obtain⟨F1,i,n,S1,U,_,⟨⟩,hk,Y,s,r,z,au,a1,A,H1⟩:=hi;unfold pg;by_cases hi:i<B.ee.length;rotate_left
 ·refine iC ?_;obtain rfl:i=B.ee.length:=by omega
  obtain⟨N,Z,r2⟩:=H1.kE 0 rfl;rw[Zi T]at z a1 A;rw[Mm]at A;exact H _ _ n S1 U W (Y.trans Z) N.tail s r z r2 (by omega) a1 A
 refine gw ?_;have hv:=gQ hi;generalize B.ee[i]=v at*;have m:At u v b i:=⟨B,T,hv⟩
 have aa:=g.l0 v b i m;have hx:=gQ aa;generalize u.ee[v]=x at*;have u1:=hu.since Y;obtain⟨l2,o2,_,y1,y2⟩:=(xv.since Y).nat hv .i64;obtain⟨l3,o3,wa,_,z1,z2,za,_⟩:=u1.val hx;refine ed y1 (ed y2 (ed pn (ed pf (oF (H1.ld 1 rfl rfl) (ed z1 (ed z2 ?_))))));refine iK H1 rfl rfl (by simp only[ll,eJ,za.one];rfl) λh2 N Z=>?_;generalize h1.next=lx at*
 have k8:∀{F8 h8 q S8 t C},Sn F h F8 h8->q.length=u.ee.length->(∀(v:Nat) (a:Int),q[v]? =some a->a<q.length)->NW u (Pv u (·∈vl) b (i+1)) O (jQ q) S8->t.length<=i+1->Bb u (Pv u (·∈vl) b (i+1)) (jQ q) b t->
   (∀c l,c≠b->Bb u (Pv u (·∈vl) b i) (jQ n) c l->Bb u (Pv u (·∈vl) b (i+1)) (jQ q) c l)->ei F8 h8 (eQ eKy yN t C::Nm ln Tn u wv wb ws kU kv lm q S8 ds)->iT CS Q (Cs J k) [.ptr ln 0,C,bv,.int .i64 B.ee.length,.int .i64 i] h8:=λ{F8 h8 q S8 t C} s8 ah ab n8 ai a8 aj H8=>by
  refine yR ?_;unfold po;refine fM ⟨k-1,by omega,?_⟩;rw[hJ];exact⟨F8,i+1,q,S8,t,C,rfl,by omega,s8,ah,ab,n8,ai,a8,λc l hc ha=>aj c l hc (A c l hc ha),H8⟩
 have D:∀w y,Pv u (·∈vl) b i w->u.ee[w]? =some y->iM y.op=true->∀p∈gJ y,Pv u (·∈vl) b i p:=λw y a b c p d=>z.part g a b c d;have E:iM x.op=true->∀p∈gJ x,Pv u (·∈vl) b i p:=λG p ak=>Bd g hb m Dz (Fg g m hx G ak);have fc:∀{ac:Nat->Int},(∀w,w≠v->ac w=jQ n w)->∀c l,c≠b->Bb u (Pv u (·∈vl) b i) (jQ n) c l->Bb u (Pv u (·∈vl) b (i+1)) ac c l:=λal c l hc ha=>ha.step g hb m hx D E al λL=>⟨.inl,λh=>h.elim id λh=>absurd h.1 hc⟩
 refine oF (N.ld 0 rfl rfl) (Wx (pj ?_))
 cases G:iM x.op with
 | false=>
   refine gG (by simp) (k8 (Y.trans Z) s r (z.skip g hb m hx Dz G) (by omega) ?_ (fc λ_ _=>rfl) N.tail)
   exact a1.step g hb m hx D E (λ_ _=>rfl) λL=>⟨.inl,λh=>h.elim id λh=>by rw[G]at h;cases h.2.1⟩
 | true =>
   refine ig rfl (ed (N.wH 0 rfl rfl) ?_);have am:∀w∈gJ x,w<n.length:=λw hw=>by rw[s];exact Dp (g.use v x hx w hw)
   have aw:=Lv G;refine Y9 N (i:=2) (j:=3) rfl rfl rfl (za.since Z) (λh=>by rw[DL]at G;omega) am (by omega) λF3 h3 s3 H3=>?_;generalize hke:Un.keyOf (jQ n) x=ke at*;refine iK H3 rfl rfl rfl λh4 I s4=>?_;generalize h3.next=ly at*;have ae:=((Y.trans Z).trans s3).trans s4;refine oN (I.ld 3 rfl rfl) (ed (I.wH 0 rfl rfl) (ed (I.zag 5 rfl ke _) ?_))
   cases hS:S1 ke with
   | some w=>
     refine ed (show My 0 (.tuple [.int .i64 (w:Nat),.bool true])=some (.int .i64 (w:Nat)) from rfl) (ed (show My 1 (.tuple [.int .i64 (w:Nat),.bool true])=some (.bool true) from rfl) (jH (ig rfl ?_)));obtain⟨l5,o5,X,q1,q2,_,P,s5⟩:=I.G7 4 rfl (k:=v) (y:=(w:Int)) (u:=V.int .i64 (w:Nat)) (by omega) rfl rfl rfl;refine oN (I.ld 3 rfl rfl) (ed q1 ?_);rw[q2,ef];simp only[iO,kZ]at P;have ax:w<u.ee.length:=by
       obtain⟨y,_,_,_,h,_⟩:=(z.known _ _).1 hS;exact(iB.1 h).1
     have K:jQ (n.set v (w:Int)) v=(w:Int):=Wj (by omega);have M:∀w',w'≠v->jQ (n.set v (w:Int)) w' = jQ n w':=λw' h=>Zv h;have an:jQ (n.set v (w:Int)) v≠(v:Int):=λe=>by
       rw[K]at e;obtain⟨_,_,_,hP,_⟩:=(z.known _ _).1 hS;exact FV g hb m ((Int.ofNat.inj e:w=v)▸hP)
     rw[<-hke]at hS;refine k8 (ae.trans s5) (by rw[Nu];exact s) (λv' a' h=>?_) (z.there g hb m hx Dz hO G hS K M) (by omega) ?_ (fc M) P.tail.tail
     ·rw[Nu]
      by_cases e:v' = v
      ·subst e
       rw[Ct (by omega)]at h;cases h;omega
      ·rw[AR λh=>e h.symm]at h
       exact r v' a' h
     ·exact a1.step g hb m hx D E M λL=>⟨.inl,λh=>h.elim id λh=>absurd h.2.2.1 an⟩
   | none=>
     refine ed (show My 0 (.tuple [.int .i64 0,.bool false])=some (.int .i64 0) from rfl) (ed (show My 1 (.tuple [.int .i64 0,.bool false])=some (.bool false) from rfl) (jH (gG (by simp) ?_)));obtain⟨X,q5,n5,P,s5⟩:=I.il 5 rfl hS v;refine oN (I.ld 3 rfl rfl) (ed (I.wH 0 rfl rfl) ?_);rw[show GD 127 tg (.map lm) (.agg (Fp ke)) (.int .i64 (v:Nat)) h4=_ from q5,ef];simp only[iO,kZ]at P;refine⟨n5,ed (P.wH 0 rfl rfl) ?_⟩;rw[show iZ 127 4 1 (.agg [.int .i64 0,.int .i64 0,.int .i64 0,.int .i64 0]) [(0,.agg (Fp ke))]=_ from mq rfl rfl rfl,fq];obtain⟨ay,h6,q6,_,H6,s6⟩:=P.vF 2 rfl (jr:=32) (zF:=127) (y:=ke) (w:=Fp ke) (ro:=false) rfl (by decide) (by decide) (by omega);rw[show eR 127 4 32 W (.slice X.next 0 1) (X.new (.cells 127 4 true false (Fp ke)))=_ from q6,ef];simp only[iO,kZ]at H6;rw[<-hke]at hS;refine k8 ((ae.trans s5).trans s6) s r (z.fresh g hb m hx Dz hO G hS (S':=up S1 ke (some v)) (by rw[hke,im]) λk hk=>iz _ _ (by rw[<-hke];exact hk)) (by simp;omega) ?_ (fc λ_ _=>rfl) H6.tail.tail;refine a1.step g hb m hx D E (λ_ _=>rfl) λL=>?_;rw[xX,EB,hke];exact⟨λh=>h.imp id λh=>⟨rfl,G,z.stay v aa (FV g hb m),h.symm⟩,λh=>h.imp id λh=>h.2.2.2.symm⟩
end
open Go.Proofs.YtpnddokajmjpbaaDoor.Un Go.Proofs.YtpnddokajmjpbaaDoor.Dm
abbrev Oo:Nat:=123
def ZL:nQ (Nat×Nat×List mb) where
 sz:=3
 rel F h x cs:=∃w,cs=[.int .i64 (x.1:Nat),.int .i64 (x.2.1:Nat),w]/\ik eKy F h x.2.2 w
 len:=λ⟨w,h,_⟩=>by subst h;rfl
 one:=λ⟨w,h,hs⟩=>by subst h;simp only[eJ,hs.one];rfl
 fc:=λa ⟨w,h,hs⟩=>⟨w,h,hs.fc a⟩
 mono:=λa ⟨w,h,hs⟩=>⟨w,h,hs.mono a⟩
section
variable{F F':Nat->Prop}{h h':Hp}{cs ds:List Pc}{Q:fx}{u:U}{wv wb ws kU kv:V}{ln Tn lm:Nat}{az:List Int}{S:mb->Option Nat}
theorem ei.stP {α:Type}{E:nQ α}{ty:Nat}{xs:List α}{v:V}(H:ei F h cs)(i:Nat)(hi:cs[i]? =some (eQ E ty xs v)){k j:Nat}(b:k<xs.length)(c:j<E.sz){y:α}{u:V}(d:u.one=true)(e:∀w,E.rel F h xs[k] w->E.rel F h y (w.set j u)) :
  ∃l o h',gD E.sz v (.int .i64 k)=some (.ptr l o)/\gB 1 (.ptr l (o+j)) u h=some (.val .undef h')/\h.next<=h'.next/\ei F h' (cs.set i (eQ E ty (xs.set k y) v))/\Sn F h F h':=by
 obtain⟨t,h',_,f,g,m,a⟩:=(H.row i hi).store b c d e;exact⟨t,_,h',f,g,a.next,H.Ad hi a m λ_ h=> .inl h⟩
theorem ei.ixO {α:Type}{E:nQ α}{ty:Nat}{xs:List α}{v:V}(H:ei F h cs)(i:Nat)(hi:cs[i]? =some (eQ E ty xs v)){k:Nat}(a:k<xs.length)(kd:IntKind) :
  ∃l o w,gD E.sz v (.int kd k)=some (.ptr l o)/\gg E.sz (.ptr l o) h=some (.agg w)/\E.rel F h xs[k] w/\∀j u,w[j]? =some u->ev (.ptr l (o+j)) h=some u:=by
 rcases H.row i hi with⟨_,rfl⟩|⟨t,ws,rfl,n,p,c,f,q⟩
 ·simp at a
 ·obtain ⟨w,d,g,e⟩:=f.get (i:=k) (x:=xs[k]) (gQ a);refine⟨t,0+k*E.sz,w,vL _ _ _ _ _ _ a,?_,e,λj u b=>?_⟩
  ·rw[yW c,vI,AE g,d];rfl
  ·rw[Mo c,Mw];have m:j<E.sz:=by rw[<-E.len e];exact(iB.1 b).1
   rw[<-d,VF m,Tj]at b;rw[vI];exact b
theorem Qi {α:Type}(l:List α):l=[]\/∃p z,l=p++[z]:=by
 rcases List.eq_nil_or_concat l with h|⟨p,z,h⟩
 ·exact .inl h
 ·exact .inr ⟨p,z,h.trans List.concat_eq_append⟩
theorem NK {c:V}(d:c.one=true)(a b:Int):fN [.int .i64 0,.int .i64 0,.ec] [(0,1),(1,1),(2,1)] [(0,.int .i64 a),(1,.int .i64 b),(2,c)]=some (.agg [.int .i64 a,.int .i64 b,c]):=by
 cases c <;> first|rfl|cases d
theorem XB (g:Good u){I:Nat->Nat}{G:Dm.Gr}{kl:List (List Nat)}(H0:ei F h (Nm ln Tn u wv wb ws kU kv lm az (λ_=>none) ds))(hu:zf F h u wv wb ws)(Y:az=(List.range u.ee.length).map λ(i:Nat)=>(i:Int))(hk:ik (eL eN) F h kl kv)(aj:∀b,b<u.blocks.length->kl[b]? =some (kd u I b))
  (hT:Tree G I (λb=>b<u.blocks.length)) (hA:∀x b,b<u.blocks.length->(ot I x b↔mg (next u) x b))
  (H:∀F' h' d,Sn F h F' h'->ei F' h' (eo ln Tn [.int .i64 u.func,.int .i64 u.pc,wv,wb,ws,kU,kv,.map lm]::eQ eZ en d kU::ds)->d.length=u.ee.length->(∀(v:Nat) (a:Int),d[v]? =some a->a<d.length)->Mg u (jQ d)->Q (.tuple []) h') :
  cP CS lD [.ptr ln 0] h Q:=by
 refine BV rfl rfl ?_;unfold uu;have nb:=g.nb;have Ju:=g.Ju;have nv:=g.nv;have pn:∀{l o:Nat},iq (.ptr l o)=some (.ptr l o):=fT _ _;have pf:∀{l o k:Nat},fH k (.ptr l o)=some (.ptr l (o+k)):=ez _ _ _;have hlen:az.length=u.ee.length:=by rw[Y];simp
 have M:∀(v:Nat) (a:Int),az[v]? =some a->v<u.ee.length/\a=(v:Int):=λv a h=>by
  have p:=(iB.1 h).1;rw[hlen]at p;rw[Y,wq,XT p]at h;exact⟨p,(Option.some.inj h).symm⟩
 obtain⟨B0,ak⟩:∃B,u.blocks[0]? =some B:=⟨_,gQ (by omega)⟩
 have al:∀v,v<u.ee.length->jQ az v=(v:Int):=λv hv=>by
  have p:=gQ (l:=az) (i:=v) (by omega);rw[Fb p];exact(M v _ p).2
 refine Oq g H0 hu hlen (λv a h=>by obtain⟨p,Z⟩:=M v a h;omega) ak (nw0 u al) (List.not_mem_nil) (λc hc hd=>absurd (Yl.2 hd) hc) (λc=>Yl) λF1 p am S1 l1 q s1 H1 an aa n1 r1 ao a1 _=>?_;refine ed (NK r1.one 0 0) ?_;have ow:fV [V.int .i64 0,.int .i64 0,q]=true:=by simp only[eJ,r1.one];rfl
 rw [show iZ 123 3 1 (.agg [.int .i64 0,.int .i64 0,.ec]) [(0,.agg [.int .i64 0,.int .i64 0,q])]=_ from mq rfl rfl ow,fq];obtain⟨H2,s2⟩:=H1.SE (E:=ZL) (xs:=[(0,0,l1)]) Oo (n:=1) rfl ⟨_,[],(Co _).symm,⟨q,rfl,r1⟩,trivial⟩ ow;have H2:ei F1 (p.new (.cells 123 3 true false [.int .i64 0,.int .i64 0,q])) (eQ ZL Oo [(0,0,l1)] (.slice p.next 0 1)::_):=H2;have s2:Sn F1 p F1 (p.new (.cells 123 3 true false [.int .i64 0,.int .i64 0,q])):=s2;generalize p.new (.cells 123 3 true false [.int .i64 0,.int .i64 0,q])=Z at*;have ns:=NS.start g (I:=I) n1 a1 λb h0 hb e=>by
  have:=(hT.up b hb h0).2;rw[e]at this;exact Pj _ this
 have ap:∀{r S st vl},NS u I r S st vl->st.length<=vl.length:=λ{r S st vl} n=>by
  have:=sub_le (st.map (·.1)) vl n.sn λx hx=>by
   obtain⟨f,p,Z⟩:=K2.1 hx;exact Z▸n.sv f p
  simpa using this
 obtain ⟨J,hJ⟩:∃J:Nat->LP,J=λk l h'=>∃(F':Nat->Prop) (d:List Int) (S':mb->Option Nat) (st:List (Nat×Nat×List mb)) (vl:List Nat) (xv:V),l=[.ptr ln 0,xv]/\k=2*(u.blocks.length-vl.length)+st.length/\Sn F h F' h'/\d.length=u.ee.length/\(∀(v:Nat) (a:Int),d[v]? =some a->a<d.length)/\NS u I (jQ d) S' st vl/\(∀f∈st,f.2.2.length<=3000)/\
   ei F' h' (eQ ZL Oo st xv::Nm ln Tn u wv wb ws kU kv lm d S' ds):=⟨_,rfl⟩
 refine zw J (λk x0 xv h3 hi=>?_) (k:=2*(u.blocks.length-1)+1) ?_;rotate_left
 ·rw[hJ];exact⟨F1,am,S1,_,_,_,rfl,rfl,s1.trans s2,an,aa,ns,λf s=>by rw[EB.1 s];exact ao,H2⟩
 rw[hJ]at hi;obtain⟨F3,C,S3,st,vl,_,⟨⟩,aq,s3,R,z,n3,D,N⟩:=hi;have aH:=n3.le;have ar:=ap n3;unfold qD;refine ed (N.len 0 rfl) (AM ?_);rcases Qi st with rfl|⟨pre,⟨b,m,l⟩,rfl⟩
 ·refine gG (by simp) ?_;exact H _ _ C s3 (N.perm [1,2] 4 (by decide) (by decide) (by simp)) R z (n3.done g hT)
 have T:(pre++[(b,m,l)]).length=pre.length+1:=by simp
 rw[T]at ar aq⊢;have K:(b,m,l)∈pre++[(b,m,l)]:=by simp
 have au:b<u.blocks.length:=n3.vlt b (n3.sv _ K);have aI:(pre++[(b,m,l)])[pre.length]? =some (b,m,l):=by simp
 have O:pre.length<(pre++[(b,m,l)]).length:=by omega
 refine ig (by omega) (ed (N.len 0 rfl) ?_);rw[T];refine vU (by omega) (by omega) ?_;rw[Nat.add_sub_cancel];obtain⟨lx,ox,w,x1,_,⟨lv,rfl,r3⟩,x4⟩:=N.ixO 0 rfl O .i64;have ab:(pre++[(b,m,l)])[pre.length]=(b,m,l):=by simp
 rw [ab]at x4 r3;have y0:ev (.ptr lx (ox+0)) h3=some (.int .i64 b):=x4 0 _ rfl;have y1:ev (.ptr lx (ox+1)) h3=some (.int .i64 m):=x4 1 _ rfl;have y2:ev (.ptr lx (ox+2)) h3=some lv:=x4 2 _ rfl;obtain⟨l4,o4,kw,_,z1,z2,z3⟩:=(hk.since s3).list (aj b au) .i64;have z2:ev (.ptr l4 o4) h3=some kw:=z2;refine ed x1 (oN y1 (oN (N.ld 1 rfl rfl) (oN y0 (ed z1 (ed z2 (ed z3.len (gO ?_)))))));have s0:=n3.fr _ K;have aJ:m<=(kd u I b).length:=s0.1;have aK:(kd u I b).length<=u.blocks.length:=by
  unfold kd;exact Ez (XP ..) (by simp)
 by_cases hm:m=(kd u I b).length
 ·refine ig (by omega) (oN y2 (ed r3.len ?_));have ac:=D _ K;have ac:l.length<=3000:=ac;obtain⟨J1,U⟩:∃J1:Nat->LP,J1=λk l' h'=>∃(S':mb->Option Nat) (i:Nat),l' = [.ptr ln 0,xv,lv,.int .i64 l.length,.int .i64 i]/\i+k=l.length/\Sn F3 h3 F3 h'/\(∀k,S' k=if k∈l.take i then none else S3 k)/\ei F3 h' (eQ ZL Oo (pre++[(b,m,l)]) xv::Nm ln Tn u wv wb ws kU kv lm C S' ds):=⟨_,rfl⟩
  refine zK J1 (λk1 x0 x2 aL aM aN h4 hi=>?_) (k:=l.length) ?_;rotate_left
  ·rw[U];exact⟨S3,0,rfl,by omega,Sn.refl _ _,λk=>by simp,N⟩
  rw[U]at hi;obtain⟨S4,i,⟨⟩,aO,X,W,L⟩:=hi;unfold qW;by_cases hi:i<l.length
  ·refine gw ?_;have aP:=gQ hi;have aw:=Nw hi;obtain⟨l5,o5,w5,_,q1,q2,q3,_⟩:=(r3.since X).ix hi .i64;obtain rfl:w5=Fp l[i]:=q3;generalize l[i]=ke at*;refine ed q1 (ed q2 ?_);refine iK L rfl rfl rfl λh5 P s5=>?_;generalize h4.next=ly at*;obtain⟨h6,q6,n6,H6,s6⟩:=P.zbc 4 rfl ke;refine oN (P.ld 2 rfl rfl) (ed (P.wH 0 rfl rfl) ?_);rw[show zQ 127 tg (.map lm) (.agg (Fp ke)) h5=_ from q6,ef];simp only[iO,kZ]at H6;refine⟨n6,fM ⟨k1-1,by omega,?_⟩⟩;rw[U];refine⟨_,i+1,rfl,by omega,(X.trans s5).trans s6,λk=>?_,H6.tail⟩;rw[aw];by_cases e:k=ke
   ·subst e;rw[im,if_pos (by simp)]
   ·rw[iz _ _ e,W k];simp[e]
  ·refine iC ?_;obtain rfl:i=l.length:=by omega
   rw[IT]at W;refine ed (L.len 0 rfl) ?_;rw[T];refine vU (by omega) (by omega) ?_;rw[Nat.add_sub_cancel];obtain⟨ax,q5,P⟩:=L.YQ 0 rfl (n:=pre.length) (by omega);rw[List.take_left' rfl]at P;refine ed q5 ⟨2*(u.blocks.length-vl.length)+pre.length,by omega,?_⟩;rw[hJ];exact⟨F3,C,S4,pre,vl,ax,rfl,rfl,s3.trans X,R,z,n3.pop g hm W,λf s=>D f (LC _ s),P⟩
 have ay:m<(kd u I b).length:=by omega
 have ht:=gQ ay;generalize (kd u I b)[m]=t at*;obtain⟨t1,t2,t3,t4⟩:=n3.new ht;obtain⟨l6,o6,_,q1,q2⟩:=z3.nat ht .i64;refine gG (by omega) (oN (N.ld 1 rfl rfl) (oN y0 (ed z1 (ed z2 (oN y1 (ed q1 (ed q2 (oN y1 ?_))))))));refine fM ?_;obtain⟨l7,o7,h4,p1,p2,_,L,X⟩:=N.stP 0 rfl (k:=pre.length) (j:=1) (y:=(b,m+1,l)) (u:= .int .i64 ((m+1:Nat):Int)) O (by decide) rfl λw hw=>by
  rw[ab]at hw;obtain⟨w2,e,hs⟩:=hw;subst e;exact⟨w2,rfl,hs⟩
 rw[show ZL.sz=3 from rfl,show gD 3 xv (.int .i64 pre.length)=some (.ptr lx ox) from x1]at p1;cases p1;refine ed pn (ed pf ?_);rw[p2,ef];have ae:(pre++[(b,m,l)]).set pre.length (b,m+1,l)=pre++[(b,m+1,l)]:=by simp
 rw[ae]at L;simp only[iO]at L;have L:ei F3 h4 (Nm ln Tn u wv wb ws kU kv lm C S3 (eQ ZL Oo (pre++[(b,m+1,l)]) xv::ds)):=L.Nj 3 (by simp);obtain⟨B,hB⟩:∃B,u.blocks[t]? =some B:=⟨_,gQ t2⟩
 have ag:∀c,(c∈(pre++[(b,m,l)]).map (·.1)\/c=t)↔mg (next u) c t:=λc=>(n3.Xj ht c).trans (hA c t t2);refine Oq g L ((hu.since s3).since X) R z hB (n3.ready ht g) t1 (λc hc hd=>?_) ag λF5 h5 aA S5 l5 A s5 P aB ah n5 r5 aC a5 ai=>?_
 ·rcases(ag c).2 hd with h|h
  ·obtain⟨f,p,Z⟩:=K2.1 h;exact Z▸n3.sv f p
  ·exact absurd h hc
 refine ed (NK r5.one _ _) ?_;have aD:fV [V.int .i64 t,.int .i64 0,A]=true:=by simp only[eJ,r5.one];rfl
 rw[show iZ 123 3 1 (.agg [.int .i64 0,.int .i64 0,.ec]) [(0,.agg [.int .i64 t,.int .i64 0,A])]=_ from mq rfl rfl aD,fq];obtain⟨aE,h6,q6,_,H6,s6⟩:=P.vF 3 rfl (jr:=40) (zF:=123) (y:=(t,0,l5)) (w:=[.int .i64 t,.int .i64 0,A]) (ro:=false) ⟨A,rfl,r5⟩ (by decide) (by decide) (by simp;omega);rw[show eR 123 3 40 xv (.slice h5.next 0 1) (h5.new (.cells 123 3 true false [.int .i64 t,.int .i64 0,A]))=_ from q6,ef];simp only[iO,kZ]at H6;have aF:(t::vl).length=vl.length+1:=rfl;have aG:=(n3.push ht g n5 a5 ai).le;rw[aF]at aG;refine⟨2*(u.blocks.length-(vl.length+1))+(pre.length+2),by omega,?_⟩;rw[hJ];refine⟨F5,aA,S5,_,_,aE,rfl,by simp,((s3.trans X).trans s5).trans s6,aB,ah,n3.push ht g n5 a5 ai,λf s=>?_,H6.perm [3,0,1,2] 4 (by decide) (by decide) (by simp)⟩;rcases xX.1 s with s|s
 ·rcases xX.1 s with s|s
  ·exact D f (LC _ s)
  ·rw[EB.1 s];exact show l.length<=3000 from D (b,m,l) K
 ·rw[EB.1 s];exact aC
end
