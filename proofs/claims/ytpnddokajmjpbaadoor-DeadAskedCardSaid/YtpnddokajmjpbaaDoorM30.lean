/- Parts. -/
import Derived.Test.YtpnddokajmjpbaaDoorM29
namespace Go.Proofs.YtpnddokajmjpbaaDoor.Hx
open Go.Proofs.YtpnddokajmjpbaaDoor.Un Go.Proofs.YtpnddokajmjpbaaDoor.Dm
def mapP (l:Nat)(S:Int->Option V):Pc where
 foot:=λm=>m=l
 ok F h:=(∃a c,h.get l=some (.map a c)/\(∀e∈a,∃k:Int,e.1 = .int .i64 k/\S k=some e.2.1)/\∀k v,S k=some v->∃e∈a,e.1 = .int .i64 k)/\l<h.next/\¬F l
 inn:=λh _ e=>by subst e;exact h.2
 keep:=λ⟨⟨a,c,f,g⟩,d⟩ _ b i=>⟨⟨a,c,(b l rfl).trans f,g⟩,wAO d.1 i,d.2⟩
 mono:=λh _ b=>⟨h.1,h.2.1,b l rfl⟩
theorem zI (k:Int):∀(a:List (V×V×Nat))(i:Nat),(∀e∈a,∃k:Int,e.1 = .int .i64 k)->
  (findV tyInt none (.int .i64 k) a i=some none/\∀e∈a,e.1≠ .int .i64 k)\/∃j e,findV tyInt none (.int .i64 k) a i=some (some (i+j,e.2.1))/\a[j]? =some e/\e.1 = .int .i64 k
 |[],i,_=> .inl ⟨rfl,λ_ h=>by cases h⟩
 | e ::a,i,h=>by
   obtain ⟨k',d⟩:=h e (wA9 ..);have b:findV tyInt none (.int .i64 k) (e::a) i=if k=k' then some (some (i,e.2.1)) else findV tyInt none (.int .i64 k) a (i+1):=by
     show oB (keyEq tyInt none (.int .i64 k) e.1) _=_;rw[d,show keyEq tyInt none (V.int .i64 k) (V.int .i64 k')=some (k == k') from EI _ _];by_cases hk:k=k'
     ·rw[if_pos hk,wAt.2 hk];rfl
     ·rw[if_neg hk,wAz.2 hk];rfl
   by_cases hk:k=k'
   ·subst hk
    rw[if_pos rfl]at b;exact .inr ⟨0,e,b,rfl,d⟩
   ·rw[if_neg hk]at b
    rcases zI k a (i+1) λe c=>h e (wA0 _ c)with⟨f,g⟩|⟨j,l,f,g,m⟩
    ·refine .inl ⟨b.trans f,λl c=>?_⟩
     rcases wAr.1 c with rfl|c
     ·rw[d];intro n;cases n;exact hk rfl
     ·exact g l c
    ·exact .inr ⟨j+1,l,by rw[b,f];congr 3;omega,g,m⟩
section
variable{F F':Nat->Prop}{h h':Hp}{cs ds:List Pc}{Q:QP1}{l:Nat}{S:Int->Option V}
theorem Hold.lookP (H:Hold F h cs)(i:Nat)(hi:cs[i]? =some (mapP l S))(k:Int)(z:V):pLook tyInt none z true (.map l) (.int .i64 k) h=some (.tuple (match S k with|some v=>[v,.bool true]|none=>[z,.bool false])):=by
 obtain ⟨⟨m,c,p,n,q⟩,_⟩:=H.ok i _ hi;have o:∀r,findV tyInt none (.int .i64 k) m 0=some r->pLook tyInt none z true (.map l) (.int .i64 k) h=some (found z true r):=λr s=>by
  unfold pLook mapAt;simp only[p,en];rw[s];rfl
 rcases zI k m 0 λe d=>let⟨k,a,_⟩:=n e d;⟨k,a⟩ with⟨f,g⟩|⟨j,e,f,g,t⟩
 ·rw[o _ f]
  cases hS:S k with
  |none=>rfl
  | some v=>
    obtain⟨e,d,u⟩:=q k v hS;exact absurd u (g e d)
 ·rw[o _ f];obtain⟨k',a,b⟩:=n e (wAI g);rw[t]at a;cases a;rw[b];rfl
theorem Hold.putP (H:Hold F h cs)(i:Nat)(hi:cs[i]? =some (mapP l S)){k:Int}(q:S k=none)(v:V):∃h',hput tyInt none (.map l) (.int .i64 k) v h=some (.val .undef h')/\h.next<=h'.next/\Hold F h' (cs.set i (mapP l (up S k (some v))))/\Sn F h F h':=by
 obtain⟨⟨f,c,t,m,u⟩,n,x⟩:=H.ok i _ hi;rcases zI k f 0 λe d=>let⟨k,a,_⟩:=m e d;⟨k,a⟩ with⟨r,s⟩|⟨j,e,r,s,y⟩
 ·have z:mapPut tyInt none f c (.int .i64 k) v=some (.map (f++[(.int .i64 k,v,c)]) (c+1)):=by unfold mapPut;rw[r];rfl
  refine⟨h.put l (.map (f++[(.int .i64 k,v,c)]) (c+1)),?_,wAF _,H.turn' (p:=mapP l (up S k (some v))) hi (Chg.put _ rfl n) ⟨⟨_,_,fd _ n,λe d=>?_,λk' w g=>?_⟩,n,x⟩ λ_ h=> .inl h⟩
  ·unfold hput mapAt;simp only[t,en,z];rfl
  ·rcases wAV.1 d with h|h
   ·obtain⟨k',a,b⟩:=m e h;refine⟨k',a,?_⟩;rw[fP _ _ λo=>by subst o;rw[q]at b;cases b];exact b
   ·obtain rfl:=wAW.1 h;exact⟨k,rfl,fS _ _ _⟩
  ·by_cases e:k' = k
   ·subst e;exact⟨_,wBc _ (wAW.2 rfl),rfl⟩
   ·rw[fP _ _ e]at g;obtain⟨e,d,g⟩:=u k' w g;exact⟨e,wAu _ d,g⟩
 ·obtain⟨k',a,b⟩:=m e (wAI s);rw[y]at a;cases a;rw[q]at b;cases b
theorem Hold.newP (H:Hold F h cs):Hold F (h.new (.map [] 0)) (mapP h.next (λ_=>none)::cs)/\Sn F h F (h.new (.map [] 0)):=
 H.new (p:=mapP h.next λ_=>none) _ ⟨⟨[],0,ef _ _,And.intro (λe a=>nomatch a) (λk v b=>nomatch b)⟩,wAk _,H.fresh⟩ λ_ e=>e
end
abbrev Nx (l1 T1 l4 T4 lt Tt:Nat) (num:V) (ns:List Nat) (tc:List V) (asv:V) (az:List Int) (ds:List Pc):List Pc:=
 cellP l1 T1 [.ptr lt 0]::cellP l4 T4 [num]::cellP lt Tt (tc++[asv])::rowP eN tyInt ns num::rowP eZ tyInt az asv::ds
def nmL (ns:List Nat)(az:List Int)(v:Nat):Nat:=ns.getD (realN (asF az) (az.length+1) v) 0
section
variable{F F':Nat->Prop}{h h':Hp}{cs ds:List Pc}{Q:QP1}{u:U}{l1 T1 l4 T4 lt Tt:Nat}{num asv:V}{ns:List Nat}{tc:List V}{az:List Int}
theorem zb (b:Hold F h (Nx l1 T1 l4 T4 lt Tt num ns tc asv az ds))(c:tc.length=5)(e:az.length<=3000)(f:ns.length=az.length)(d:∀(v:Nat)(a:Int),az[v]? =some a->a<az.length){v:Nat}(g:v<az.length)
  (H:∀w q,pIx 1 num (.int .i64 (w:Nat))=some q->pLd q h=some (.int .i64 (nmL ns az v:Nat))->Q (.int .i64 (w:Nat)) h):cP CS fX [.ptr lt 0,.int .i64 v] h Q:=by
 have i:pLd (.ptr lt 5) h=some asv:=b.ld 2 rfl (by rw[wAn (by omega),c];rfl);refine IC i (b.row 4 rfl).read e d g λn=>?_;have j:ns[realN (asF az) (az.length+1) v]? =some (nmL ns az v):=by
  unfold nmL;rw[wAL,wAA (by omega)];rfl
 obtain⟨l,o,k,m⟩:=b.natR 3 rfl j .i64;exact H _ _ k m
theorem zL {ι:Type} [DecidableEq ι] {f:ι->Option (List Nat×V)}{i:ι}{xs:List Nat}{w:V}(n:Nat)(I:Hold F h (Nx l1 T1 l4 T4 lt Tt num ns tc asv az ds))(t:ds[n]? =some (rowsP tyInt f))(hi:f i=some (xs,w))(u:tc.length=5)(N:az.length<=3000)(y:ns.length=az.length)(z:∀(v:Nat)(a:Int),az[v]? =some a->a<az.length)
  (A:∀x∈xs,x<az.length) (O:xs.length<1000000)
  (H:∀h',Sn F h F h'->Hold F h' (Nx l1 T1 l4 T4 lt Tt num ns tc asv az (ds.set n (rowsP tyInt (up f i (some (xs.map (nmL ns az),w))))))->Q (.tuple []) h') :
  cP CS fH [w,.ptr l4 0,.ptr l1 0] h Q:=by
 refine uz rfl rfl ?_;unfold oK;refine d9 (I.rows (n+5) t hi).len ?_
 refine sh (λk l h'=>∃(j:Nat) (c:ι->Option (List Nat×V)),l=[w,.ptr l4 0,.ptr l1 0,w,.int .i64 xs.length,.int .i64 j]/\j+k=xs.length/\Sn F h F h'/\c=up f i (some ((xs.take j).map (nmL ns az)++xs.drop j,w))/\Hold F h' (Nx l1 T1 l4 T4 lt Tt num ns tc asv az (ds.set n (rowsP tyInt c)))) ?_ (k:=xs.length)
  ⟨0,_,rfl,by omega,Sn.refl _ _,rfl,?_⟩
 rotate_left
 ·have e:up f i (some ((xs.take 0).map (nmL ns az)++xs.drop 0,w))=f:=funext λa=>by
   by_cases e:a=i
   ·subst e;rw[fS,hi];rfl
   ·rw[fP _ _ e]
  rw [e];have:ds.set n (rowsP tyInt f)=ds:=by
   obtain⟨J,B⟩:=wAB.1 t;rw[<-B,List.set_getElem_self]
  rw[this];exact I
 rintro k _ _ _ _ _ _ J ⟨j,c,⟨⟩,hk,K,b,g⟩;unfold kH;have C:=(wAB.1 t).1;have m:(ds.set n (rowsP tyInt c))[n]? =some (rowsP tyInt c):=wAK C;have o:c i=some ((xs.take j).map (nmL ns az)++xs.drop j,w):=by rw[b,fS]
 by_cases hj:j<xs.length
 ·refine ltYes ?_;have P:=wAA hj;have L:((xs.take j).map (nmL ns az)).length=j:=by rw[wAb,wAc];omega
  have d:((xs.take j).map (nmL ns az)++xs.drop j)[j]? =some xs[j]:=by
   rw[wAn (by omega),L,Nat.sub_self,wBE hj];rfl
  have p:((xs.take j).map (nmL ns az)++xs.drop j).set j (nmL ns az xs[j])=(xs.take (j+1)).map (nmL ns az)++xs.drop (j+1):=by
   rw[rQ P,wAx,wAU,wBE hj,List.set_append_right _ _ (by omega),L,Nat.sub_self];rfl
  have D:j<((xs.take j).map (nmL ns az)++xs.drop j).length:=(wAB.1 d).1;have E:=A _ (wAR hj);generalize xs[j]=x at*;obtain⟨la,R,_,G,S⟩:=(g.rows (n+5) m o).read.nat d .i64;refine d9 G (d9 S (d9 (g.ld 1 rfl rfl) (d9 (g.ld 0 rfl rfl) ?_)));refine zb g u N y z E λr q T U=>⟨wAF _,d9 T (d9 U (d9 G ⟨g.ld 1 rfl rfl,?_⟩))⟩
  obtain⟨l3,W,B,M,X,Y,s,Z⟩:=g.rowsSt (n+5) m o D (nmL ns az x);rw[G]at M;obtain⟨rfl,rfl⟩:la=l3/\R=W:=by cases M;exact⟨rfl,rfl⟩
  rw [X,ec];refine⟨Y,addOne ⟨k-1,by omega,j+1,_,rfl,by omega,K.trans Z,rfl,?_⟩⟩;have s:Hold F B (Nx l1 T1 l4 T4 lt Tt num ns tc asv az ((ds.set n (rowsP tyInt c)).set n (rowsP tyInt (up c i (some (((xs.take j).map (nmL ns az)++xs.drop j).set j (nmL ns az x),w)))))):=s;rw[List.set_set,p,b]at s;have e:up (up f i (some ((xs.take j).map (nmL ns az)++xs.drop j,w))) i (some ((xs.take (j+1)).map (nmL ns az)++xs.drop (j+1),w))=up f i (some ((xs.take (j+1)).map (nmL ns az)++xs.drop (j+1),w)):=funext λa=>by
   by_cases e:a=i
   ·subst e;rw[fS,fS]
   ·rw[fP _ _ e,fP _ _ e,fP _ _ e]
  rw[e]at s;exact s
 refine ltNo ?_;obtain rfl:j=xs.length:=by omega
 rw[wAg,List.drop_length,wAa]at b;subst b;exact H J K g
end
open Go.Proofs.YtpnddokajmjpbaaDoor.Un Go.Proofs.YtpnddokajmjpbaaDoor.Dm
structure StS (ss:List (List (Fm×V×V))) (nm:Nat->Nat) (b:List Nat) (S:Int->Option V) (fl:KF->Option (List Nat×V)) (c:List (List (Fm×V×V))):Prop where
 map:∀s:Nat,S s=if s∈b then some (.int .i64 (b.idxOf s:Nat)) else none
 out:c=b.map λs=>ss.getD s []
 rows:∀s l k x a w,ss[s]? =some l->l[k]? =some (x,a,w)->fl (s,k,false)=some (if s∈b then x.locals.map nm else x.locals,a)/\fl (s,k,true)=some (if s∈b then x.stack.map nm else x.stack,w)
 nd:b.Nodup
 lt:∀s∈b,s<ss.length
def addS (a:List Nat)(s:Nat):List Nat:=if s∈a then a else a++[s]
section
variable {F F':Nat->Prop} {h h':Hp} {cs ds:List Pc} {Q:QP1} {u:U} {l1 T1 l4 T4 lt Tt lm lb Tb lr Tr lo To:Nat} {num asv a0 a1 a2 a3 b0 b1 b2 b3 ws wso:V} {ns:List Nat} {az:List Int} {S:Int->Option V}
 {fl:KF->Option (List Nat×V)} {ss sos:List (List (Fm×V×V))} {sl:List Nat}
abbrev Sx (fl:KF->Option (List Nat×V)) (ss:List (List (Fm×V×V))) (ws:V) (lm:Nat) (S:Int->Option V) (lb Tb lr Tr l4 l1 lo To:Nat) (b0 b1 b2 b3 wso:V) (a:List (List (Fm×V×V))) (ds:List Pc):List Pc:=
 rowsP tyInt fl::rowP (eL eFx) tyState ss ws::mapP lm S::cellP lb Tb [.map lm]::cellP lr Tr [.func fH [] [.ptr l4 0,.ptr l1 0]]::cellP lo To [b0,b1,b2,b3,wso]::rowP (eL eFx) tyState a wso::ds
theorem Hold.toTail {p:Pc}(H:Hold F h (p::cs))(n:Nat)(g:n<=cs.length):Hold F h (cs.take n++p::cs.drop n):=by
 have f:(cs.take n).length=n:=by rw[wAc];omega
 refine H.re (λi=>if i<n then i+1 else if i=n then 0 else i) (λi c hc=>?_) λi j _ _ e=>?_
 ·by_cases a:i<n
  ·rw[wAd (by omega),wBA a]at hc;rw[if_pos a];exact hc
  ·rw [wAn (by omega),f]at hc;rw[if_neg a];by_cases b:i=n
   ·subst b;rw[Nat.sub_self]at hc;rw[if_pos rfl];exact hc
   ·rw[if_neg b];obtain⟨d,rfl⟩:∃d,i=n+d+1:=⟨i-n-1,by omega⟩
    rw[show n+d+1-n=d+1 by omega,wAj,wBI]at hc;exact hc
 ·repeat' split at e
  all_goals omega
theorem Hold.fromTail (H:Hold F h cs)(n:Nat)(d:n<=cs.length):Hold F h (cs.take n++cs.drop (n+1)):=by
 have b:(cs.take n).length=n:=by rw[wAc];omega
 refine H.re (λi=>if i<n then i else i+1) (λi c hc=>?_) λi j _ _ e=>?_
 ·by_cases a:i<n
  ·rw[wAd (by omega),wBA a]at hc;rw[if_pos a];exact hc
  ·rw[wAn (by omega),b,wBI]at hc;rw[if_neg a,<-hc];congr 1;omega
 ·repeat' split at e
  all_goals omega
theorem Hold.ixlt {α:Type}{E:Enc α}{ty:Nat}{xs:List α}{v:V}(H:Hold F h cs)(i:Nat)(hi:cs[i]? =some (rowP E ty xs v)){k n l o:Nat}{kd:IntKind}(a:k<xs.length)(e:pIx n v (.int kd (k:Nat))=some (.ptr l o)):l<h.next:=by
 rcases H.row i hi with⟨_,rfl⟩|⟨t,ws,rfl,b,_⟩
 ·exact absurd a (Nat.not_lt_zero _)
 ·rw[uD _ _ _ _ _ _ a]at e;cases e;exact b
theorem Cu (D:Hold F h (Nx l1 T1 l4 T4 lt Tt num ns [a0,a1,a2,a3,ws] asv az (Sx fl ss ws lm S lb Tb lr Tr l4 l1 lo To b0 b1 b2 b3 wso sos ds)))(c:StS ss (nmL ns az) sl S fl sos)(hn:az.length<=3000)(R:ns.length=az.length)(T:∀(v:Nat)(a:Int),az[v]? =some a->a<az.length)
  {s:Nat} {l:List (Fm×V×V)} (hs:ss[s]? =some l) (ax:ss.length<=1000) (ay:l.length<=1000) (ai:∀y∈l,y.1.locals.length<=1000/\y.1.stack.length<=1000/\(∀v∈y.1.locals,v<az.length)/\∀v∈y.1.stack,v<az.length)
  (H:∀h' d S' A f,Sn F h F h'->StS ss (nmL ns az) (addS sl s) S' d A->Hold F h' (Nx l1 T1 l4 T4 lt Tt num ns [a0,a1,a2,a3,ws] asv az (Sx d ss ws lm S' lb Tb lr Tr l4 l1 lo To b0 b1 b2 b3 f A ds))->Q (.int .i64 ((addS sl s).idxOf s:Nat)) h') :
  cP CS ex [.int .i64 s,.ptr lb 0,.ptr lo 0,.ptr l1 0,.ptr lr 0] h Q:=by
 refine uM rfl rfl ?_;unfold nW;refine d9 (D.ld 8 rfl rfl) (d9 (D.lookP 7 rfl s _) ?_);rw[c.map s];have U:s<ss.length:=(wAB.1 hs).1;by_cases hm:s∈sl
 ·rw[if_pos hm];refine d9 (vJ 0 _) (d9 (vJ 1 _) (jE (if_t rfl ?_)));refine lh ?_;unfold iG;have ha:addS sl s=sl:=if_pos hm;rw[ha]at H;exact H h fl S sos wso (Sn.refl _ _) c D
 rw [if_neg hm];have ha:addS sl s=sl++[s]:=if_neg hm;rw[ha]at H;have B:(sl++[s]).idxOf s=sl.length:=by
  rw[wB9,if_neg hm];simp
 rw[B]at H;have W:sos.length=sl.length:=by rw[c.out,wAb]
 have aw:sl.length<=ss.length:=iy _ _ c.nd c.lt;refine d9 (vJ 0 _) (d9 (vJ 1 _) (jE (if_f (by simp) ?_)));refine oF (D.ld 10 rfl rfl) (d9 (D.len 11 rfl) (d9 (D.ld 8 rfl rfl) ?_));rw[W];obtain⟨m,e1,_,M,s1⟩:=D.putP 7 rfl (k:=(s:Int)) (by rw[c.map s,if_neg hm]) (.int .i64 sl.length);have aj:hput 3 none (.map lm) (.int .i64 s) (.int .i64 sl.length) h=some (.val .undef m):=e1;rw[aj,ec];simp only[wAC,wAE]at M;obtain⟨lx,X,wx,q,Y,⟨wf,rfl,xf⟩,Z⟩:=M.ixF 6 rfl hs .i64;have q:pIx 1 ws (.int .i64 s)=some (.ptr lx X):=q;have Z:pLd (.ptr lx (X+0)) m=some wf:=Z 0 wf rfl;refine d9 (M.ld 0 rfl rfl) (d9 (fc _ _) (d9 (ed _ _ _) (oF (M.ld 2 rfl rfl) (d9 q (oF Z (d9 xf.len ?_))))))
 refine sy (λk l' h'=>∃(j:Nat) (d:KF->Option (List Nat×V)),l' = [.int .i64 s,.ptr lo 0,.ptr l1 0,.ptr lr 0,.int .i64 sl.length,wf,.int .i64 l.length,.int .i64 j]/\j+k=l.length/\Sn F m F h'/\
  (∀t k b,t≠s->d (t,k,b)=fl (t,k,b))/\(∀k x a w,l[k]? =some (x,a,w)->d (s,k,false)=some (if k<j then x.locals.map (nmL ns az) else x.locals,a)/\d (s,k,true)=some (if k<j then x.stack.map (nmL ns az) else x.stack,w))/\
  Hold F h' (Nx l1 T1 l4 T4 lt Tt num ns [a0,a1,a2,a3,ws] asv az (Sx d ss ws lm (up S s (some (.int .i64 sl.length))) lb Tb lr Tr l4 l1 lo To b0 b1 b2 b3 wso sos ds))) ?_ (k:=l.length)
  ⟨0,fl,rfl,by omega,Sn.refl _ _,λ_ _ _ _=>rfl,λk x a w B=>?_,M⟩
 rotate_left
 ·have:=c.rows s l k x a w hs B;rw[if_neg hm,if_neg hm]at this;rw[if_neg (by omega),if_neg (by omega)];exact this
 clear M q Z;rintro k _ _ _ _ _ _ _ _ E ⟨j,d,⟨⟩,aA,s2,G,I,C⟩;unfold kT;have al:=xf.since s2;by_cases hj:j<l.length
 ·refine ltYes ?_;have hy:=wAA hj;obtain⟨aa,ab,J,K⟩:=ai _ (wAR hj);obtain⟨ly,oy,wy,_,y1,y2,y3,_⟩:=al.ix hj .i64;obtain⟨⟨x,a,w⟩,am⟩:∃y,l[j]=y:=⟨_,rfl⟩
  rw[am]at hy y3 aa ab J K;dsimp only at aa ab J K;obtain⟨rfl,y4,y5⟩:=y3;have y1:pIx 4 wf (.int .i64 j)=some (.ptr ly oy):=y1;refine d9 y1 (d9 y2 ?_);refine fU C rfl rfl (by simp only[fmC,ee,y4,y5];rfl) λh3 n s3=>?_;generalize E.next=lf at*;have n:Hold F h3 (Nx l1 T1 l4 T4 lt Tt num ns [a0,a1,a2,a3,ws] asv az (Sx d ss ws lm (up S s (some (.int .i64 sl.length))) lb Tb lr Tr l4 l1 lo To b0 b1 b2 b3 wso sos (cellP lf 40 (fmC x a w)::ds))):=n.toTail 12 (by simp);obtain⟨ac,ae⟩:=I j x a w hy;rw[if_neg (by omega)]at ac ae;refine d9 (n.ld 9 rfl rfl) (oF (n.ld 12 rfl rfl) ?_);show cP CS fH [a,.ptr l4 0,.ptr l1 0] h3 _;refine zL 0 n rfl ac rfl hn R T J (by omega) λN s4 p=>?_;simp only[wAC]at p;have p:Hold F N (Nx l1 T1 l4 T4 lt Tt num ns [a0,a1,a2,a3,ws] asv az (Sx (up d (s,j,false) (some (x.locals.map (nmL ns az),a))) ss ws lm (up S s (some (.int .i64 sl.length))) lb Tb lr Tr l4 l1 lo To b0 b1 b2 b3 wso sos (cellP lf 40 (fmC x a w)::ds))):=p;refine d9 (p.ld 9 rfl rfl) (oF (p.ld 12 rfl rfl) ?_);show cP CS fH [w,.ptr l4 0,.ptr l1 0] N _;refine zL 0 p rfl (i:=(s,j,true)) (by rw[fP _ _ (by simp)];exact ae) rfl hn R T K (by omega) λh5 s5 H5=>?_;simp only[wAC]at H5;refine addOne ⟨k-1,by omega,j+1,_,rfl,by omega,((s2.trans s3).trans s4).trans s5,λt k b r=>?_,λk z b c B=>?_,H5.fromTail 12 (by simp)⟩
  ·rw[fP _ _ (by simp[r]),fP _ _ (by simp[r])];exact G t k b r
  ·by_cases e:k=j
   ·subst e;rw[hy]at B;cases B;rw[if_pos (by omega),if_pos (by omega)];exact⟨by rw[fP _ _ (by simp),fS],fS _ _ _⟩
   ·rw[fP _ _ (by simp),fP _ _ (by simp[e]),fP _ _ (by simp[e]),fP _ _ (by simp)];have:=I k z b c B;by_cases P:k<j
    ·rw[if_pos P,if_pos P]at this;rw[if_pos (by omega),if_pos (by omega)];exact this
    ·rw[if_neg P,if_neg P]at this;rw[if_neg (by omega),if_neg (by omega)];exact this
 refine ltNo ?_;obtain rfl:j=l.length:=by omega
 obtain⟨lx,X,wx,q,Y,⟨g,rfl,ag⟩,Z⟩:=C.ixF 6 rfl hs .i64;have q:pIx 1 ws (.int .i64 s)=some (.ptr lx X):=q;have Y:pLdA 1 (.ptr lx X) E=some (.agg [g]):=Y;refine oF (C.ld 10 rfl rfl) (d9 (C.ld 0 rfl rfl) (d9 (fc _ _) (d9 (ed _ _ _) (oF (C.ld 2 rfl rfl) (d9 q (d9 Y ?_))))));have bq:∀{e sz:Nat} {a b:Bool} {cs:List V},O.beq (.cells e sz a b cs) (.cells e sz a b cs)=true:=O.beq_cells _ _ _ _ _;rw[lD (sz:=1) (w:=[g]) rfl rfl (by simp only[ee,ag.one];rfl),fD];have n:Hold F (E.new (.cells 38 1 true false [g])) (cellP E.next 38 [g]::_):=(C.newC tyState [g]).1;obtain⟨f,N,e4,n4,p,s4⟩:=C.app1 11 rfl (by_:=24) (ety:=38) (y:=l) (w:=[g]) (ro:=false) ⟨g,rfl,ag⟩ (by decide) (by decide) (by omega);have an:happend 38 1 24 wso (.slice E.next 0 1) (E.new (.cells 38 1 true false [g]))=some (.val f N):=e4;have ao:=C.ixlt 6 rfl U q;have ap:=zZ Y (er (.cells 38 1 true false [g]) ao);refine⟨⟨n.get 0 rfl,bq⟩,ap,n.ld 3 rfl rfl,n.ld 1 rfl rfl,n.ld 11 rfl rfl,?_⟩;rw[an,ec];simp only[wAC,wAE]at p;obtain⟨h5,e5,n5,H5,s5⟩:=p.st 10 (o:=4) (u:=f) rfl (by simp) (p.one 11 rfl);refine⟨by show E.next+1<=N.next;exact n4,d9 (ed _ _ _) ?_⟩;have aq:pSt 1 (.ptr lo (0+4)) f N=some (.val .undef h5):=by rw[wAY];exact e5
 rw[aq,ec];simp only[wAC,wAE]at H5;refine⟨n5,lh ?_⟩;unfold iG;have ar:ss.getD s []=l:=by rw[wAL,hs];rfl
 refine H h5 d (up S s (some (.int .i64 sl.length))) (sos++[l]) f (((s1.trans s2).trans s4).trans s5) ⟨λt=>?_,by rw[c.out,wAx,wBO,wBa,ar],λt l' k x a w r L=>?_,?_,λt r=>?_⟩ H5
 ·by_cases e:t=s
  ·subst e;rw[fS,if_pos (by simp),B]
  ·rw[fP _ _ (by omega),c.map t];by_cases m:t∈sl
   ·rw[if_pos m,if_pos (wAu _ m),wB9,if_pos m]
   ·rw[if_neg m,if_neg (by simp[m,e])]
 ·by_cases e:t=s
  ·subst e;rw[hs]at r;cases r;have:=I k x a w L;have ah:=(wAB.1 L).1;rw[if_pos ah,if_pos ah]at this;rw[if_pos (by simp),if_pos (by simp)];exact this
  ·rw[G t k false e,G t k true e];have:=c.rows t l' k x a w r L;have P:(t∈sl++[s])=(t∈sl):=by simp[e]
   simp only[P];exact this
 ·rw [wBM];exact⟨c.nd,by simp,λa au b hb=>by
   rw[wAW]at hb;subst hb;exact λe=>hm (e▸au)⟩
 ·rcases wAV.1 r with m|m
  ·exact c.lt t m
  ·obtain rfl:=wAW.1 m;exact U
end
open Go.Proofs.YtpnddokajmjpbaaDoor.Un Go.Proofs.YtpnddokajmjpbaaDoor.Dm
section
variable{F F':Nat->Prop}{h h':Hp}{cs ds:List Pc}{Q:QP1}{u:U}
theorem JA (cs:List Pc):∀(a:List Nat),(∀m∈a,m<cs.length)->(a.filterMap λm=>cs[m]?).length=a.length/\∀i:Nat,(a.filterMap λm=>cs[m]?)[i]? = (a[i]?).bind λm=>cs[m]?
 |[],_=>⟨rfl,λ_=>by simp⟩
 | m::a,hm=>by
   obtain⟨b,c⟩:=JA cs a λk d=>hm k (wA0 _ d);have e:=wAA (hm m (wA9 ..));rw[List.filterMap_cons_some e];refine⟨by rw[wAX,wAX,b],λi=>?_⟩
   cases i with
   |zero=>exact e.symm
   |succ i=>rw[wAj,wAj];exact c i
theorem Hold.perm (H:Hold F h cs)(b:List Nat)(k:Nat)(d:∀m∈b,m<k)(f:b.Nodup)(l:k<=cs.length):Hold F h ((b.filterMap λm=>cs[m]?)++cs.drop k):=by
 obtain⟨n,o⟩:=JA cs b λm h=>wAO (d m h) l;refine H.re (λi=>if i<b.length then b.getD i 0 else k+(i-b.length)) (λi c hc=>?_) λi j _ _ e=>?_
 ·by_cases hi:i<b.length
  ·rw[wAd (by omega),o,wAA hi]at hc;rw[if_pos hi,wAL,wAA hi];exact hc
  ·rw[wAn (by omega),n,wBI]at hc;rw[if_neg hi];exact hc
 ·have g:∀i,i<b.length->b.getD i 0<k/\b[i]? =some (b.getD i 0):=λi hi=>by
   rw[wAL,wAA hi];exact⟨d _ (wAR hi),rfl⟩
  by_cases hi:i<b.length
  ·rw[if_pos hi]at e;by_cases hj:j<b.length
   ·rw[if_pos hj]at e;have a:=(g i hi).2;rw[e]at a;exact qm f a (g j hj).2
   ·rw[if_neg hj]at e;have:=(g i hi).1;omega
  ·rw[if_neg hi]at e;by_cases hj:j<b.length
   ·rw[if_pos hj]at e;have:=(g j hj).1;omega
   ·rw[if_neg hj]at e;omega
end
structure Numable (u:U) (az:List Int):Prop where
 nv:u.vals.length<=3000
 nb:u.blocks.length<=300
 ns:u.states.length<=1000
 once:Once u
 atlt:∀(v b k:Nat),At u v b k->v<u.vals.length
 len:az.length=u.vals.length
 sub:∀(v:Nat) (a:Int),az[v]? =some a->a<az.length
 parts:∀(v:Nat) (x:Vl),u.vals[v]? =some x->x.args.length<=700/\(oneP x.op=true\/two x.op=true->x.a<u.vals.length)/\(two x.op=true->x.b<u.vals.length)/\(x.op=21\/x.op=20->∀w∈x.args,w<u.vals.length)/\(leaves x.op=true->x.state<u.states.length)
 ends:∀(b:Nat) (B:Bk),u.blocks[b]? =some B->(B.fin=2->B.cond<u.vals.length)/\(B.fin=3->B.state<u.states.length)
 st:∀(s:Nat) (fs:List Fm),u.states[s]? =some fs->fs.length<=1000/\∀f∈fs,f.locals.length<=1000/\f.stack.length<=1000/\(∀v∈f.locals,v<u.vals.length)/\∀v∈f.stack,v<u.vals.length
structure NbB (u:U) (az:List Int) (i:Nat) (bs a:List (Bk×V)):Prop where
 len:a.length=bs.length
 row:∀(b:Nat) (B:Bk) (w:V),bs[b]? =some (B,w)->a[b]? =some (if b<i then{B with vals:=(B.vals.filter (stays (asF az))).map (stayL u (asF az)).idxOf} else B,w)
section
variable{F F':Nat->Prop}{h h':Hp}{cs ds:List Pc}{Q:QP1}{u:U}{wv wb ws asv:V}{lt Tt:Nat}{az:List Int}{xs:List (Vl×V)}{bs:List (Bk×V)}{fa fn:Nat->Option (List Nat×V)}{ss:List (List (Fm×V×V))}{fl:KF->Option (List Nat×V)}
theorem Ir {T l o:Nat}{K:QP1}(H:Hold F h ds)(b:∀a,Hold F a (cellP h.next T [.ptr l o]::ds)->Sn F h F a->K (.ptr h.next 0) a):alP (hbox T (.ptr l o)) h K:=by
 rw[show hbox T (.ptr l o)=some (.cells T 1 true false [.ptr l o],λl=> .ptr l 0) from rfl,ev];exact b _ (H.newC T _).1 (H.newC T [.ptr l o]).2
theorem uG {T:Nat}{ws:List V}{K:QP1}(H:Hold F h ds)(b:∀a,Hold F a (cellP h.next T ws::ds)->Sn F h F a->K (.ptr h.next 0) a):alP (some (O.cells T 1 true false ws,λl=>V.ptr l 0)) h K:=by
 rw[ev];exact b _ (H.newC T _).1 (H.newC T ws).2
theorem Gu {T:Nat}{ws:List V}{K:O->QP1}(H:Hold F h ds)(b:∀a,Hold F a (cellP h.next T ws::ds)->Sn F h F a->K (.cells T 1 true false ws) (.ptr h.next 0) a):alO (some (O.cells T 1 true false ws,λl=>V.ptr l 0)) h K:=by
 rw[fD];exact b _ (H.newC T _).1 (H.newC T ws).2
theorem uy {T:Nat}{z w:V}{K:QP1}(H:Hold F h ds)(c:w.one=true)(d:∀a,Hold F a (cellP h.next T [w]::ds)->Sn F h F a->K (.ptr h.next 0) a):alP (some (O.cells T 1 true false [z],λl=>V.ptr l 0)) h λv b=>valP (pSt 1 v w b) λ_ a=>K v a:=by
 refine uG H λb e f=>?_;obtain⟨a,g,_,i,j⟩:=e.st 0 (o:=0) rfl (by simp) c;rw[g,ec];exact d a i (f.trans j)
theorem JG {K:QP1}(H:Hold F h ds)(b:∀a,Hold F a (mapP h.next (λ_=>none)::ds)->Sn F h F a->K (.map h.next) a):alP (some (O.map [] 0,λl=>V.map l)) h K:=by
 rw[ev];exact b _ H.newP.1 H.newP.2
theorem DQ (g:Numable u az)(hc:CpV u.vals xs fa)(hb:CpB u.blocks bs fn)
  (H0:Hold F h (rowP eVx tyVal xs wv::rowP eKx tyBlock bs wb::rowsP tyInt fa::rowsP tyInt fn::rowP eZ tyInt az asv::cellP lt Tt [.int .i64 u.func,.int .i64 u.pc,wv,wb,ws,asv]::rowP (eL eFx) tyState ss ws::rowsP tyInt fl::cs))
  (H:∀F' h' l1 T1 l2 l3 l4 T4 lm lb Tb lr Tr num ns aa c,Sn F h F' h'->NbB u az u.blocks.length bs c->ns.length=u.vals.length->(∀v,v<u.vals.length->ns[v]? =some (if v∈stayL u (asF az) then(stayL u (asF az)).idxOf v else 0))->
   Hold F' h' (Nx l1 T1 l4 T4 lt Tt num ns [.int .i64 u.func,.int .i64 u.pc,wv,wb,ws] asv az (Sx fl ss ws lm (λ_=>none) lb Tb lr Tr l4 l1 l3 tyUnit (.int .i64 u.func) (.int .i64 u.pc) .nilSlice .nilSlice .nilSlice []
    (rowP eVx tyVal xs wv::rowP eKx tyBlock c wb::rowsP tyInt fa::rowsP tyInt fn::rowP eVx tyVal [] .nilSlice::rowP eKx tyBlock [] .nilSlice::cellP l2 tyUnit [.int .i64 0,.int .i64 0,.nilSlice,.nilSlice,.nilSlice]::rowP eN tyInt (stayL u (asF az)) aa::cs)))->
   hH CS Q [.ptr l1 0,.ptr l2 0,.ptr l3 0,.ptr l4 0,.ptr lr 0,.func ex [] [.ptr lb 0,.ptr l3 0,.ptr l1 0,.ptr lr 0],aa,.int .i64 ((stayL u (asF az)).length:Nat),.int .i64 0] h') :
  cP CS gR [.ptr lt 0] h Q:=by
 refine we rfl rfl ?_;unfold qf;have nv:=g.nv;have nb:=g.nb;have aj:bs.length=u.blocks.length:=by rw[<-hb.fst,wAb]
 have al:xs.length=u.vals.length:=by rw[<-hc.fst,wAb]
 have bq:∀{e sz:Nat} {a b:Bool} {cs:List V},O.beq (.cells e sz a b cs) (.cells e sz a b cs)=true:=O.beq_cells _ _ _ _ _;have Y:∀{l o:Nat},pNil (.ptr l o)=some (.ptr l o):=fc _ _;have R:∀{l o k:Nat},pFA k (.ptr l o)=some (.ptr l (o+k)):=ed _ _ _;refine Ir H0 λh1 H1 s1=>uG H1 λh2 Z s2=>?_;generalize h.next=l1 at*;generalize h1.next=l2 at*;refine d9 (Z.ld 1 rfl rfl) (d9 Y (d9 R (oF (Z.ld 7 rfl rfl) (d9 (Z.ld 1 rfl rfl) (d9 Y (d9 R (oF (Z.ld 7 rfl rfl) ?_)))))));refine d9 (show _=some (V.agg [.int .i64 u.func,.int .i64 u.pc,.nilSlice,.nilSlice,.nilSlice]) from rfl) ?_;refine Gu Z λh3 S s3=>?_;generalize h2.next=l3 at*;refine⟨⟨S.get 0 rfl,bq⟩,S.ld 8 rfl rfl,S.ld 2 rfl rfl,S.ld 8 rfl rfl,S.ld 2 rfl rfl,?_⟩;obtain⟨h4,e4,n4,H4,s4⟩:=S.stA 0 (ws:=[.int .i64 u.func,.int .i64 u.pc,.nilSlice,.nilSlice,.nilSlice]) (n:=5) rfl rfl rfl rfl;rw[e4,ec];simp only[wAC]at H4;refine⟨n4,d9 (H4.ld 2 rfl rfl) (d9 Y (d9 R (oF (H4.ld 8 rfl rfl) (d9 (H4.len 3 rfl) ?_))))⟩;rw[al,gh (z:=V.int .i64 0) rfl (by decide) (by omega),ev];obtain⟨H5,s5⟩:=H4.make (E:=eN) (ty:=tyInt) (y:=0) (u:=V.int .i64 0) u.vals.length rfl rfl;generalize h4.new (.cells tyInt 1 true false (List.replicate u.vals.length (V.int .i64 0)))=h5 at*;generalize h4.next=ln at*;refine uy H5 rfl λh6 T s6=>?_;generalize h5.next=l4 at*;refine d9 (T.ld 4 rfl rfl) (d9 Y (d9 R (oF (T.ld 10 rfl rfl) (d9 (T.len 6 rfl) ?_))));rw[aj];have ab:=((((s1.trans s2).trans s3).trans s4).trans s5).trans s6;clear H0 H1 Z S H4 H5 s1 s2 s3 s4 s5 s6 e4 n4;have T:=T.add (p:=rowP eN tyInt [] .nilSlice) .nil λ_ h=>h;obtain⟨A,hA⟩:∃A,asF az=A:=⟨_,rfl⟩
 rw[hA]at H
 refine uo (λk l h'=>∃(F':Nat->Prop) (i:Nat) (ns:List Nat) (c:List (Bk×V)) (D:V),l=[.ptr l1 0,.ptr l2 0,.ptr l3 0,.ptr l4 0,D,.int .i64 u.blocks.length,.int .i64 i]/\i+k=u.blocks.length/\Sn F h F' h'/\NbB u az i bs c/\
  ns.length=u.vals.length/\(∀v,v<u.vals.length->ns[v]? =some (if v∈stayTo u A i 0 then(stayL u A).idxOf v else 0))/\
  Hold F' h' (rowP eN tyInt (stayTo u A i 0) D::cellP l4 _ [.slice ln 0 u.vals.length]::rowP eN tyInt ns (.slice ln 0 u.vals.length)::cellP l3 tyUnit [.int .i64 u.func,.int .i64 u.pc,.nilSlice,.nilSlice,.nilSlice]::cellP l2 tyUnit [.int .i64 0,.int .i64 0,.nilSlice,.nilSlice,.nilSlice]::cellP l1 _ [.ptr lt 0]::rowP eVx tyVal xs wv::rowP eKx tyBlock c wb::rowsP tyInt fa::rowsP tyInt fn::rowP eZ tyInt az asv::cellP lt Tt [.int .i64 u.func,.int .i64 u.pc,wv,wb,ws,asv]::rowP (eL eFx) tyState ss ws::rowsP tyInt fl::cs)) ?_ (k:=u.blocks.length)
  ⟨F,0,_,bs,.nilSlice,rfl,by omega,ab,⟨rfl,λb B w G=>by rw[G,if_neg (by omega)]⟩,wAi,λv hv=>by rw[wA4,if_pos hv,Aj,if_neg (by simp)],by rw[Aj];exact T⟩
 clear T ab;rintro k _ _ _ _ D _ _ h7 ⟨F7,i,ns,c,_,⟨⟩,hk,s7,J,q,d,K⟩;unfold na;by_cases hi:i<u.blocks.length
 ·refine ltYes ?_;obtain⟨⟨B,wn⟩,U⟩:∃y,bs[i]? =some y:=⟨_,wAA (by omega)⟩
  have N:u.blocks[i]? =some B:=by rw[<-hb.fst,wAQ,U];rfl
  have aw:B.vals.length<=u.vals.length:=iy _ _ (yQ g.once N) λv hv=>by
   obtain⟨k,hk⟩:=wAD.1 hv;exact g.atlt v i k ⟨B,N,hk⟩
  have P:c[i]? =some (B,wn):=by have:=J.row i B wn U;rwa [if_neg (by omega)]at this
  obtain⟨l8,o8,w8,x1,_,⟨bv,bp,rfl,iv,ip,ax⟩,x3⟩:=K.ixF 7 rfl P .i64;have x1:pIx 6 wb (.int .i64 i)=some (.ptr l8 o8):=x1;refine d9 (K.ld 5 rfl rfl) (d9 Y (d9 R (oF (K.ld 11 rfl rfl) (d9 x1 (oF (x3 0 _ rfl) (d9 iv.len ?_))))));have K:=K.add (p:=rowP eN tyInt [] .nilSlice) .nil λ_ h=>h
  refine un (λk' l h'=>∃(j:Nat) (ns:List Nat) (D L:V),l=[.ptr l1 0,.ptr l2 0,.ptr l3 0,.ptr l4 0,D,.int .i64 i,L,.int .i64 u.blocks.length,.int .i64 i,bv,.int .i64 B.vals.length,.int .i64 j]/\j+k' = B.vals.length/\Sn F h F7 h'/\Sn F7 h7 F7 h'/\
   ns.length=u.vals.length/\(∀v,v<u.vals.length->ns[v]? =some (if v∈stayTo u A i j then(stayL u A).idxOf v else 0))/\
   Hold F7 h' (rowP eN tyInt (((B.vals.take j).filter (stays A)).map (stayL u A).idxOf) L::rowP eN tyInt (stayTo u A i j) D::cellP l4 _ [.slice ln 0 u.vals.length]::rowP eN tyInt ns (.slice ln 0 u.vals.length)::cellP l3 tyUnit [.int .i64 u.func,.int .i64 u.pc,.nilSlice,.nilSlice,.nilSlice]::cellP l2 tyUnit [.int .i64 0,.int .i64 0,.nilSlice,.nilSlice,.nilSlice]::cellP l1 _ [.ptr lt 0]::rowP eVx tyVal xs wv::rowP eKx tyBlock c wb::rowsP tyInt fa::rowsP tyInt fn::rowP eZ tyInt az asv::cellP lt Tt [.int .i64 u.func,.int .i64 u.pc,wv,wb,ws,asv]::rowP (eL eFx) tyState ss ws::rowsP tyInt fl::cs)) ?_ (k:=B.vals.length)
   ⟨0,ns,D,.nilSlice,rfl,by omega,s7,Sn.refl _ _,q,d,K⟩
  clear K q d x1 x3;rintro k' _ _ _ _ D _ L _ _ _ _ _ h8 ⟨j,ns,_,_,⟨⟩,ay,s8,W,q,d,t⟩;unfold mS;have aA:(stayTo u A i j).length<=u.vals.length:=by
   have h1:=(yo («as»:=A) (j:=j) N).length_le;have h2:=iy u.vals.length (stayL u A) (rN g.once) λv hv=>xy g.atlt hv;omega
  have aB:((B.vals.take j).filter (stays A)).length<=(stayTo u A i j).length:=by
   unfold stayTo;rw[N,wAM];exact Nat.le_add_left _ _
  by_cases hj:j<B.vals.length
  ·refine ltYes ?_;have hx:=wAA hj;have ac:=rQ hx;generalize B.vals[j]=v at*;have am:=g.atlt v i j ⟨B,N,hx⟩;obtain⟨la,oa,_,x1,x2⟩:=(iv.since W).nat hx .i64;obtain⟨a,ha⟩:∃a,az[v]? =some a:=⟨_,wAA (by rw[g.len];exact am)⟩
   obtain⟨lb,ob,y1,y2⟩:=t.intR 11 rfl ha .i64;have ae:A v=a:=by rw[<-hA];exact CR ha
   have f:=Ar («as»:=A) N hx;refine d9 x1 (d9 x2 (d9 (t.ld 6 rfl rfl) (oN (t.ld 12 rfl rfl) (d9 y1 (d9 y2 (fk ?_))))));by_cases e:a=(v:Int)
   ·refine if_t e ?_;have s:stays A v=true:=by unfold stays;rw[ae,e];exact beq_self_eq_true _
    rw[if_pos s]at f;obtain⟨ag,aC⟩:=JP («as»:=A) g.once N hx s;refine d9 (t.ld 2 rfl rfl) (d9 (t.len 1 rfl) ?_);obtain⟨lc,oc,h9,e1,e2,_,x,s9⟩:=t.stR 3 rfl (k:=v) (y:=(stayTo u A i j).length) (u:=V.int .i64 ((stayTo u A i j).length:Nat)) (by omega) rfl rfl rfl;refine d9 e1 ?_;rw[e2,ec];simp only[wAC,wAE]at x;refine d9 (x.len 1 rfl) ?_;rw[iY,ev];obtain⟨va,r,an,_,m,I⟩:=x.app1 0 rfl (by_:=8) (ety:=3) (y:=(stayTo u A i j).length) (w:=nats [(stayTo u A i j).length]) (ro:=false) rfl (by decide) (by decide) (by simp;omega);have ah:happend 3 1 8 L (.slice h9.next 0 1) (h9.new (.cells 3 1 true false (nats [(stayTo u A i j).length])))=some (.val va r):=an;rw[ah,ec];simp only[wAC,wAE]at m;rw[iY,ev];obtain⟨vc,ao,ap,_,M,aq⟩:=m.app1 1 rfl (by_:=8) (ety:=3) (y:=v) (w:=nats [v]) (ro:=false) rfl (by decide) (by decide) (by omega);have ai:happend 3 1 8 D (.slice r.next 0 1) (r.new (.cells 3 1 true false (nats [v])))=some (.val vc ao):=ap;rw[ai,ec];simp only[wAC,wAE]at M;refine mm ?_;unfold iQ;have sA:=(s9.trans I).trans aq;refine addOne ⟨k'-1,by omega,j+1,ns.set v (stayTo u A i j).length,vc,va,rfl,by omega,s8.trans sA,W.trans sA,by simp[q],λw hw=>?_,?_⟩
    ·rw[f];by_cases e3:w=v
     ·subst e3;rw[wAK (by omega),if_pos (by simp),ag]
     ·rw[wAN λh=>e3 h.symm,d w hw];simp[e3]
    ·rw[f,ac,wBb,wBh,if_pos s,List.filter_nil,wAx,wBO,wBa,ag];exact M
   ·refine if_f e (mm ?_);unfold iQ;have s:stays A v=false:=by unfold stays;rw[ae];exact wAz.2 e
    rw[s]at f;have f:stayTo u A i (j+1)=stayTo u A i j:=f;refine addOne ⟨k'-1,by omega,j+1,ns,D,L,rfl,by omega,s8,W,q,by rw[f];exact d,?_⟩;rw[f,ac,wBb,wBh,s];simpa using t
  refine ltNo ?_;obtain rfl:j=B.vals.length:=by omega
  rw [wAg]at t;rw[Ek N]at d t;obtain⟨x,s9,r9⟩:=t.freezeR 0 rfl;simp only[wAC]at x;have x:=x.tail;generalize (λl=>F7 l\/Loc L l)=F9 at*;have X:=wAB.1 P;obtain⟨lq,r,e1,e2,_,m,I⟩:=x.stF 7 rfl (k:=i) (j:=0) (y:=({B with vals:=(B.vals.filter (stays A)).map (stayL u A).idxOf},wn)) (a:=L) X.1 (by decide) r9.one (λw' hw=>by
   rw[X.2]at hw;obtain⟨pv,pp,rfl,_,q2,q3⟩:=hw;exact⟨L,pp,rfl,r9,q2,q3⟩)
  have e1:pIx 6 wb (.int .i64 i)=some (.ptr lq (i*6)):=e1;refine d9 (x.ld 5 rfl rfl) (d9 Y (d9 R (oF (x.ld 11 rfl rfl) (d9 e1 (d9 R ?_)))));have ar:pSt 1 (.ptr lq (i*6+0)) L h8=some (.val .undef r):=e2;rw[ar,ec];simp only[wAC,wAE]at m;refine addOne ⟨k-1,by omega,F9,i+1,ns,_,D,rfl,by omega,(s8.trans s9).trans I,⟨by rw[wA6,J.len],λb C w G=>?_⟩,q,d,m⟩;by_cases e:b=i
  ·subst e;rw[U]at G;cases G;rw[wAK X.1,if_pos (by omega),hA]
  ·rw[wAN λh=>e h.symm,J.row b C w G];by_cases e3:b<i
   ·rw[if_pos e3,if_pos (by omega)]
   ·rw[if_neg e3,if_neg (by omega)]
 refine ltNo ?_;obtain rfl:i=u.blocks.length:=by omega
 rw[Fe]at d K;refine JG K λh8 t s8=>uy t rfl λh9 x s9=>uy x rfl λr m I=>?_;generalize h7.next=lm at*;generalize h8.next=lb at*;generalize h9.next=lr at*;refine d9 (m.len 3 rfl) ?_;have M:=((m.add (p:=rowP (eL eFx) tyState [] .nilSlice) .nil λ_ h=>h).add (p:=rowP eVx tyVal [] .nilSlice) .nil λ_ h=>h).add (p:=rowP eKx tyBlock [] .nilSlice) .nil λ_ h=>h;have au:=M.perm [11,7,17,8,16,19,18,5,4,3,9,2,12,13,14,15,1,0,10,6] 20 (by decide) (by decide) (by simp);exact H _ r l1 _ l2 l3 l4 _ lm lb _ lr _ _ ns _ c (((s7.trans s8).trans s9).trans I) J q d au
end
