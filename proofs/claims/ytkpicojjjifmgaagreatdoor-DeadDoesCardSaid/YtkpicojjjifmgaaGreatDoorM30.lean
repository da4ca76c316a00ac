/- Parts. -/
import Derived.Test.YtkpicojjjifmgaaGreatDoorM29
namespace Go.Proofs.YtkpicojjjifmgaaGreatDoor.Hx
open Un Dm
def Qg(l:Nat)(S:Int->Option V):Pc where
 mw:=λm=>m=l
 ok F h:=(∃a c,h.get l=some (.map a c)/\(∀e∈a,∃k:Int,e.1 = .I k/\S k=some e.2.1)/\∀k v,S k=some v->∃e∈a,e.1 = .I k)/\l<h.next/\¬F l
 Nz:=λh _ e=>by subst e;exact h.2
 fm:=λ⟨⟨a,c,f,g⟩,d⟩ _ b i=>⟨⟨a,c,(b l rfl).trans f,g⟩,Cb d.1 i,d.2⟩
 mono:=λh _ b=>⟨h.1,h.2.1,b l rfl⟩
theorem JQ(k:Int):∀(a:List (V×V×Nat))(i:Nat),(∀e∈a,∃k:Int,e.1 = .I k)->
  (xI eJ none (.I k) a i=some none/\∀e∈a,e.1≠ .I k)\/∃j e,xI eJ none (.I k) a i=some (some (i+j,e.2.1))/\a[j]? =some e/\e.1 = .I k
 |[],i,_=> .inl ⟨rfl,λ_ h=>by cases h⟩
 | e ::a,i,h=>by
   obtain ⟨k',d⟩:=h e (WD ..);have b:xI eJ none (.I k) (e::a) i=if k=k' then some (some (i,e.2.1)) else xI eJ none (.I k) a (i+1):=by
     show oB (Rf eJ none (.I k) e.1) _=_;rw[d,show Rf eJ none (V.I k) (V.I k')=some (k == k') from Tw _ _];by_cases hk:k=k'
     ·rw[if_pos hk,C9.2 hk];rfl
     ·rw[if_neg hk,Nj.2 hk];rfl
   by_cases hk:k=k'
   ·subst hk
    rw[if_pos rfl]at b;exact .inr ⟨0,e,b,rfl,d⟩
   ·rw[if_neg hk]at b
    rcases JQ k a (i+1) λe c=>h e (wBy _ c)with⟨f,g⟩|⟨j,l,f,g,m⟩
    ·refine .inl ⟨b.trans f,λl c=>?_⟩
     rcases Ng.1 c with rfl|c
     ·rw[d];intro n;cases n;exact hk rfl
     ·exact g l c
    ·exact .inr ⟨j+1,l,by rw[b,f];congr 3;omega,g,m⟩
section
variable{F F':Nat->Prop}{h h':Hp}{cs ds:List Pc}{Q:fy}{l:Nat}{S:Int->Option V}
theorem eo.zcv(H:eo F h cs)(i:Nat)(hi:cs[i]? =some (Qg l S))(k:Int)(z:V):Uk eJ none z true (.map l) (.I k) h=some (.tuple (match S k with|some v=>[v,.bool true]|none=>[z,.bool false])):=by
 obtain ⟨⟨m,c,p,n,q⟩,_⟩:=H.ok i _ hi;have o:∀r,xI eJ none (.I k) m 0=some r->Uk eJ none z true (.map l) (.I k) h=some (found z true r):=λr s=>by
  unfold Uk Ej;simp only[p,fi];rw[s];rfl
 rcases JQ k m 0 λe d=>let⟨k,a,_⟩:=n e d;⟨k,a⟩ with⟨f,g⟩|⟨j,e,f,g,t⟩
 ·rw[o _ f]
  cases hS:S k with
  |none=>rfl
  | some v=>
    obtain⟨e,d,u⟩:=q k v hS;exact absurd u (g e d)
 ·rw[o _ f];obtain⟨k',a,b⟩:=n e (Ik g);rw[t]at a;cases a;rw[b];rfl
theorem eo.zeh(H:eo F h cs)(i:Nat)(hi:cs[i]? =some (Qg l S)){k:Int}(q:S k=none)(v:V):∃h',NB eJ none (.map l) (.I k) v h=some (.val .undef h')/\h.next<=h'.next/\eo F h' (cs.set i (Qg l (up S k (some v))))/\Sn F h F h':=by
 obtain⟨⟨f,c,t,m,u⟩,n,x⟩:=H.ok i _ hi;rcases JQ k f 0 λe d=>let⟨k,a,_⟩:=m e d;⟨k,a⟩ with⟨r,s⟩|⟨j,e,r,s,y⟩
 ·have z:O4 eJ none f c (.I k) v=some (.map (f++[(.I k,v,c)]) (c+1)):=by unfold O4;rw[r];rfl
  refine⟨h.put l (.map (f++[(.I k,v,c)]) (c+1)),?_,jK _,H.Hu (p:=Qg l (up S k (some v))) hi (mA.put _ rfl n) ⟨⟨_,_,gq _ n,λe d=>?_,λk' w g=>?_⟩,n,x⟩ λ_ h=> .inl h⟩
  ·unfold NB Ej;simp only[t,fi,z];rfl
  ·rcases Hi.1 d with h|h
   ·obtain⟨k',a,b⟩:=m e h;refine⟨k',a,?_⟩;rw[jt _ _ λo=>by subst o;rw[q]at b;cases b];exact b
   ·obtain rfl:=Nf.1 h;exact⟨k,rfl,jx _ _ _⟩
  ·by_cases e:k' = k
   ·subst e;exact⟨_,wBR _ (Nf.2 rfl),rfl⟩
   ·rw[jt _ _ e]at g;obtain⟨e,d,g⟩:=u k' w g;exact⟨e,TX _ d,g⟩
 ·obtain⟨k',a,b⟩:=m e (Ik s);rw[y]at a;cases a;rw[q]at b;cases b
theorem eo.zcJ(H:eo F h cs):eo F (h.new (.map [] 0)) (Qg h.next (λ_=>none)::cs)/\Sn F h F (h.new (.map [] 0)):=
 H.new (p:=Qg h.next λ_=>none) _ ⟨⟨[],0,fj _ _,And.intro (λe a=>nomatch a) (λk v b=>nomatch b)⟩,Mm _,H.fresh⟩ λ_ e=>e
end
abbrev Nx(l1 T1 l4 T4 lt Tt:Nat) (num:V) (ns:List Nat) (tc:List V) (pP:V) (az:List Int) (ds:List Pc):List Pc:=
 ez l1 T1 [.ptr lt 0]::ez l4 T4 [num]::ez lt Tt (tc++[pP])::eR eN eJ ns num::eR eZ eJ az pP::ds
def Bq(ns:List Nat)(az:List Int)(v:Nat):Nat:=ns.getD (xR (qZ az) (az.length+1) v) 0
section
variable{F F':Nat->Prop}{h h':Hp}{cs ds:List Pc}{Q:fy}{u:U}{l1 T1 l4 T4 lt Tt:Nat}{num pP:V}{ns:List Nat}{tc:List V}{az:List Int}
theorem IQ(b:eo F h (Nx l1 T1 l4 T4 lt Tt num ns tc pP az ds))(c:tc.length=5)(e:az.length<=3000)(f:ns.length=az.length)(d:∀(v:Nat)(a:Int),az[v]? =some a->a<az.length){v:Nat}(hv:v<az.length)
  (H:∀w q,gJ 1 num (.I (w:Nat))=some q->eQ q h=some (.I (Bq ns az v:Nat))->Q (.I (w:Nat)) h):cP CS jE [.ptr lt 0,.I v] h Q:=by
 have g:eQ (.ptr lt 5) h=some pP:=b.ld 2 rfl (by rw[SQ (by omega),c];rfl);refine Y0 g (b.row 4 rfl).read e d hv λm=>?_;have i:ns[xR (qZ az) (az.length+1) v]? =some (Bq ns az v):=by
  unfold Bq;rw[G2,hO (by omega)];rfl
 obtain⟨l,o,j,k⟩:=b.K7 3 rfl i .i64;exact H _ _ j k
theorem J0{ι:Type} [DecidableEq ι] {f:ι->Option (List Nat×V)}{i:ι}{xs:List Nat}{w:V}(n:Nat)(I:eo F h (Nx l1 T1 l4 T4 lt Tt num ns tc pP az ds))(t:ds[n]? =some (fS eJ f))(hi:f i=some (xs,w))(u:tc.length=5)(N:az.length<=3000)(y:ns.length=az.length)(z:∀(v:Nat)(a:Int),az[v]? =some a->a<az.length)
  (A:∀x∈xs,x<az.length) (O:xs.length<1000000)
  (H:∀h',Sn F h F h'->eo F h' (Nx l1 T1 l4 T4 lt Tt num ns tc pP az (ds.set n (fS eJ (up f i (some (xs.map (Bq ns az),w))))))->Q (.tuple []) h') :
  cP CS iE [w,.ptr l4 0,.ptr l1 0] h Q:=by
 refine CQ rfl rfl ?_;unfold uH;refine ee (I.rows (n+5) t hi).len ?_
 refine Ac (λk l h'=>∃(j:Nat) (c:ι->Option (List Nat×V)),l=[w,.ptr l4 0,.ptr l1 0,w,.I xs.length,.I j]/\j+k=xs.length/\Sn F h F h'/\c=up f i (some ((xs.take j).map (Bq ns az)++xs.drop j,w))/\eo F h' (Nx l1 T1 l4 T4 lt Tt num ns tc pP az (ds.set n (fS eJ c)))) ?_ (k:=xs.length)
  ⟨0,_,rfl,by omega,Sn.refl _ _,rfl,?_⟩
 rotate_left
 ·have e:up f i (some ((xs.take 0).map (Bq ns az)++xs.drop 0,w))=f:=funext λa=>by
   by_cases e:a=i
   ·subst e;rw[jx,hi];rfl
   ·rw[jt _ _ e]
  rw [e];have:ds.set n (fS eJ f)=ds:=by
   obtain⟨J,B⟩:=jR.1 t;rw[<-B,List.set_getElem_self]
  rw[this];exact I
 rintro k _ _ _ _ _ _ J ⟨j,c,⟨⟩,hk,K,b,g⟩;unfold qC;have C:=(jR.1 t).1;have m:(ds.set n (fS eJ c))[n]? =some (fS eJ c):=Hf C;have o:c i=some ((xs.take j).map (Bq ns az)++xs.drop j,w):=by rw[b,jx]
 by_cases hj:j<xs.length
 ·refine gB ?_;have P:=hO hj;have L:((xs.take j).map (Bq ns az)).length=j:=by rw[GM,Ip];omega
  have d:((xs.take j).map (Bq ns az)++xs.drop j)[j]? =some xs[j]:=by
   rw[SQ (by omega),L,Nat.sub_self,Ys hj];rfl
  have p:((xs.take j).map (Bq ns az)++xs.drop j).set j (Bq ns az xs[j])=(xs.take (j+1)).map (Bq ns az)++xs.drop (j+1):=by
   rw[zE P,Nh,Ii,Ys hj,List.set_append_right _ _ (by omega),L,Nat.sub_self];rfl
  have D:j<((xs.take j).map (Bq ns az)++xs.drop j).length:=(jR.1 d).1;have E:=A _ (zd hj);generalize xs[j]=x at*;obtain⟨la,R,_,G,S⟩:=(g.rows (n+5) m o).read.nat d .i64;refine ee G (ee S (ee (g.ld 1 rfl rfl) (ee (g.ld 0 rfl rfl) ?_)));refine IQ g u N y z E λr q T U=>⟨jK _,ee T (ee U (ee G ⟨g.ld 1 rfl rfl,?_⟩))⟩
  obtain⟨l3,W,B,M,X,Y,s,Z⟩:=g.Wq (n+5) m o D (Bq ns az x);rw[G]at M;obtain⟨rfl,rfl⟩:la=l3/\R=W:=by cases M;exact⟨rfl,rfl⟩
  rw [X,ei];refine⟨Y,fM ⟨k-1,by omega,j+1,_,rfl,by omega,K.trans Z,rfl,?_⟩⟩;have s:eo F B (Nx l1 T1 l4 T4 lt Tt num ns tc pP az ((ds.set n (fS eJ c)).set n (fS eJ (up c i (some (((xs.take j).map (Bq ns az)++xs.drop j).set j (Bq ns az x),w)))))):=s;rw[List.set_set,p,b]at s;have e:up (up f i (some ((xs.take j).map (Bq ns az)++xs.drop j,w))) i (some ((xs.take (j+1)).map (Bq ns az)++xs.drop (j+1),w))=up f i (some ((xs.take (j+1)).map (Bq ns az)++xs.drop (j+1),w)):=funext λa=>by
   by_cases e:a=i
   ·subst e;rw[jx,jx]
   ·rw[jt _ _ e,jt _ _ e,jt _ _ e]
  rw[e]at s;exact s
 refine iJ ?_;obtain rfl:j=xs.length:=by omega
 rw[JF,List.drop_length,GP]at b;subst b;exact H J K g
end
open Un Dm
structure Z1 (ss:List (List (Fm×V×V))) (nm:Nat->Nat) (b:List Nat) (S:Int->Option V) (fl:KF->Option (List Nat×V)) (c:List (List (Fm×V×V))):Prop where
 map:∀s:Nat,S s=if s∈b then some (.I (b.idxOf s:Nat)) else none
 out:c=b.map λs=>ss.getD s []
 rows:∀s l k x a w,ss[s]? =some l->l[k]? =some (x,a,w)->fl (s,k,false)=some (if s∈b then x.locals.map nm else x.locals,a)/\fl (s,k,true)=some (if s∈b then x.stack.map nm else x.stack,w)
 nd:b.Nodup
 lt:∀s∈b,s<ss.length
def U9(a:List Nat)(s:Nat):List Nat:=if s∈a then a else a++[s]
section
variable {F F':Nat->Prop} {h h':Hp} {cs ds:List Pc} {Q:fy} {u:U} {l1 T1 l4 T4 lt Tt lm lb Tb lr Tr lo To:Nat} {num pP a0 a1 a2 a3 b0 b1 b2 b3 ws EO:V} {ns:List Nat} {az:List Int} {S:Int->Option V}
 {fl:KF->Option (List Nat×V)} {ss sos:List (List (Fm×V×V))} {sl:List Nat}
abbrev Sx(fl:KF->Option (List Nat×V)) (ss:List (List (Fm×V×V))) (ws:V) (lm:Nat) (S:Int->Option V) (lb Tb lr Tr l4 l1 lo To:Nat) (b0 b1 b2 b3 EO:V) (a:List (List (Fm×V×V))) (ds:List Pc):List Pc:=
 fS eJ fl::eR (eL PY) me ss ws::Qg lm S::ez lb Tb [.map lm]::ez lr Tr [.func iE [] [.ptr l4 0,.ptr l1 0]]::ez lo To [b0,b1,b2,b3,EO]::eR (eL PY) me a EO::ds
theorem eo.JK{p:Pc}(H:eo F h (p::cs))(n:Nat)(g:n<=cs.length):eo F h (cs.take n++p::cs.drop n):=by
 have f:(cs.take n).length=n:=by rw[Ip];omega
 refine H.re (λi=>if i<n then i+1 else if i=n then 0 else i) (λi c hc=>?_) λi j _ _ e=>?_
 ·by_cases a:i<n
  ·rw[PX (by omega),wBI a]at hc;rw[if_pos a];exact hc
  ·rw [SQ (by omega),f]at hc;rw[if_neg a];by_cases b:i=n
   ·subst b;rw[Nat.sub_self]at hc;rw[if_pos rfl];exact hc
   ·rw[if_neg b];obtain⟨d,rfl⟩:∃d,i=n+d+1:=⟨i-n-1,by omega⟩
    rw[show n+d+1-n=d+1 by omega,X3,wBN]at hc;exact hc
 ·repeat' split at e
  all_goals omega
theorem eo.CZ(H:eo F h cs)(n:Nat)(d:n<=cs.length):eo F h (cs.take n++cs.drop (n+1)):=by
 have b:(cs.take n).length=n:=by rw[Ip];omega
 refine H.re (λi=>if i<n then i else i+1) (λi c hc=>?_) λi j _ _ e=>?_
 ·by_cases a:i<n
  ·rw[PX (by omega),wBI a]at hc;rw[if_pos a];exact hc
  ·rw[SQ (by omega),b,wBN]at hc;rw[if_neg a,<-hc];congr 1;omega
 ·repeat' split at e
  all_goals omega
theorem eo.zdw{α:Type}{E:ri α}{ty:Nat}{xs:List α}{v:V}(H:eo F h cs)(i:Nat)(hi:cs[i]? =some (eR E ty xs v)){k n l o:Nat}{kd:IntKind}(a:k<xs.length)(e:gJ n v (.int kd (k:Nat))=some (.ptr l o)):l<h.next:=by
 rcases H.row i hi with⟨_,rfl⟩|⟨t,ws,rfl,b,_⟩
 ·exact absurd a (Nat.not_lt_zero _)
 ·rw[Ci _ _ _ _ _ _ a]at e;cases e;exact b
theorem NZ(D:eo F h (Nx l1 T1 l4 T4 lt Tt num ns [a0,a1,a2,a3,ws] pP az (Sx fl ss ws lm S lb Tb lr Tr l4 l1 lo To b0 b1 b2 b3 EO sos ds)))(c:Z1 ss (Bq ns az) sl S fl sos)(hn:az.length<=3000)(P:ns.length=az.length)(R:∀(v:Nat)(a:Int),az[v]? =some a->a<az.length)
  {s:Nat} {l:List (Fm×V×V)} (hs:ss[s]? =some l) (ar:ss.length<=1000) (au:l.length<=1000) (ag:∀y∈l,y.1.locals.length<=1000/\y.1.stack.length<=1000/\(∀v∈y.1.locals,v<az.length)/\∀v∈y.1.stack,v<az.length)
  (H:∀h' d S' A f,Sn F h F h'->Z1 ss (Bq ns az) (U9 sl s) S' d A->eo F h' (Nx l1 T1 l4 T4 lt Tt num ns [a0,a1,a2,a3,ws] pP az (Sx d ss ws lm S' lb Tb lr Tr l4 l1 lo To b0 b1 b2 b3 f A ds))->Q (.I ((U9 sl s).idxOf s:Nat)) h') :
  cP CS fQ [.I s,.ptr lb 0,.ptr lo 0,.ptr l1 0,.ptr lr 0] h Q:=by
 refine CX rfl rfl ?_;unfold vy;refine ee (D.ld 8 rfl rfl) (ee (D.zcv 7 rfl s _) ?_);rw[c.map s];have mM:s<ss.length:=(jR.1 hs).1;by_cases hm:s∈sl
 ·rw[if_pos hm];refine ee (Ee 0 _) (ee (Ee 1 _) (qt (gv rfl ?_)));refine qO ?_;unfold nj;have ha:U9 sl s=sl:=if_pos hm;rw[ha]at H;exact H h fl S sos EO (Sn.refl _ _) c D
 rw [if_neg hm];have ha:U9 sl s=sl++[s]:=if_neg hm;rw[ha]at H;have B:(sl++[s]).idxOf s=sl.length:=by
  rw[List.idxOf_append,if_neg hm];simp
 rw[B]at H;have T:sos.length=sl.length:=by rw[c.out,GM]
 have aq:sl.length<=ss.length:=kj _ _ c.nd c.lt;refine ee (Ee 0 _) (ee (Ee 1 _) (qt (gg (by simp) ?_)));refine oF (D.ld 10 rfl rfl) (ee (D.len 11 rfl) (ee (D.ld 8 rfl rfl) ?_));rw[T];obtain⟨m,e1,_,M,s1⟩:=D.zeh 7 rfl (k:=(s:Int)) (by rw[c.map s,if_neg hm]) (.I sl.length);have ah:NB 3 none (.map lm) (.I s) (.I sl.length) h=some (.val .undef m):=e1;rw[ah,ei];simp only[jo,l0]at M;obtain⟨lx,U,wx,q,W,⟨wf,rfl,xf⟩,X⟩:=M.X1 6 rfl hs .i64;have q:gJ 1 ws (.I s)=some (.ptr lx U):=q;have X:eQ (.ptr lx (U+0)) m=some wf:=X 0 wf rfl;refine ee (M.ld 0 rfl rfl) (ee (gj _ _) (ee (fe _ _ _) (oF (M.ld 2 rfl rfl) (ee q (oF X (ee xf.len ?_))))))
 refine Ab (λk l' h'=>∃(j:Nat) (d:KF->Option (List Nat×V)),l' = [.I s,.ptr lo 0,.ptr l1 0,.ptr lr 0,.I sl.length,wf,.I l.length,.I j]/\j+k=l.length/\Sn F m F h'/\
  (∀t k b,t≠s->d (t,k,b)=fl (t,k,b))/\(∀k x a w,l[k]? =some (x,a,w)->d (s,k,false)=some (if k<j then x.locals.map (Bq ns az) else x.locals,a)/\d (s,k,true)=some (if k<j then x.stack.map (Bq ns az) else x.stack,w))/\
  eo F h' (Nx l1 T1 l4 T4 lt Tt num ns [a0,a1,a2,a3,ws] pP az (Sx d ss ws lm (up S s (some (.I sl.length))) lb Tb lr Tr l4 l1 lo To b0 b1 b2 b3 EO sos ds))) ?_ (k:=l.length)
  ⟨0,fl,rfl,by omega,Sn.refl _ _,λ_ _ _ _=>rfl,λk x a w B=>?_,M⟩
 rotate_left
 ·have:=c.rows s l k x a w hs B;rw[if_neg hm,if_neg hm]at this;rw[if_neg (by omega),if_neg (by omega)];exact this
 clear M q X;rintro k _ _ _ _ _ _ _ _ E ⟨j,d,⟨⟩,aw,s2,G,I,C⟩;unfold qH;have ai:=xf.since s2;by_cases hj:j<l.length
 ·refine gB ?_;have hy:=hO hj;obtain⟨Y,Z,J,K⟩:=ag _ (zd hj);obtain⟨ly,oy,wy,_,y1,y2,y3,_⟩:=ai.ix hj .i64;obtain⟨⟨x,a,w⟩,aj⟩:∃y,l[j]=y:=⟨_,rfl⟩
  rw[aj]at hy y3 Y Z J K;dsimp only at Y Z J K;obtain⟨rfl,y4,y5⟩:=y3;have y1:gJ 4 wf (.I j)=some (.ptr ly oy):=y1;refine ee y1 (ee y2 ?_);refine gY C rfl rfl (by simp only[JD,ey,y4,y5];rfl) λh3 n s3=>?_;generalize E.next=lf at*;have n:eo F h3 (Nx l1 T1 l4 T4 lt Tt num ns [a0,a1,a2,a3,ws] pP az (Sx d ss ws lm (up S s (some (.I sl.length))) lb Tb lr Tr l4 l1 lo To b0 b1 b2 b3 EO sos (ez lf 49 (JD x a w)::ds))):=n.JK 12 (by simp);obtain⟨aa,ab⟩:=I j x a w hy;rw[if_neg (by omega)]at aa ab;refine ee (n.ld 9 rfl rfl) (oF (n.ld 12 rfl rfl) ?_);show cP CS iE [a,.ptr l4 0,.ptr l1 0] h3 _;refine J0 0 n rfl aa rfl hn P R J (by omega) λN s4 p=>?_;simp only[jo]at p;have p:eo F N (Nx l1 T1 l4 T4 lt Tt num ns [a0,a1,a2,a3,ws] pP az (Sx (up d (s,j,false) (some (x.locals.map (Bq ns az),a))) ss ws lm (up S s (some (.I sl.length))) lb Tb lr Tr l4 l1 lo To b0 b1 b2 b3 EO sos (ez lf 49 (JD x a w)::ds))):=p;refine ee (p.ld 9 rfl rfl) (oF (p.ld 12 rfl rfl) ?_);show cP CS iE [w,.ptr l4 0,.ptr l1 0] N _;refine J0 0 p rfl (i:=(s,j,true)) (by rw[jt _ _ (by simp)];exact ab) rfl hn P R K (by omega) λh5 s5 H5=>?_;simp only[jo]at H5;refine fM ⟨k-1,by omega,j+1,_,rfl,by omega,((s2.trans s3).trans s4).trans s5,λt k b r=>?_,λk z b c B=>?_,H5.CZ 12 (by simp)⟩
  ·rw[jt _ _ (by simp[r]),jt _ _ (by simp[r])];exact G t k b r
  ·by_cases e:k=j
   ·subst e;rw[hy]at B;cases B;rw[if_pos (by omega),if_pos (by omega)];exact⟨by rw[jt _ _ (by simp),jx],jx _ _ _⟩
   ·rw[jt _ _ (by simp),jt _ _ (by simp[e]),jt _ _ (by simp[e]),jt _ _ (by simp)];have:=I k z b c B;by_cases O:k<j
    ·rw[if_pos O,if_pos O]at this;rw[if_pos (by omega),if_pos (by omega)];exact this
    ·rw[if_neg O,if_neg O]at this;rw[if_neg (by omega),if_neg (by omega)];exact this
 refine iJ ?_;obtain rfl:j=l.length:=by omega
 obtain⟨lx,U,wx,q,W,⟨g,rfl,ac⟩,X⟩:=C.X1 6 rfl hs .i64;have q:gJ 1 ws (.I s)=some (.ptr lx U):=q;have W:fY 1 (.ptr lx U) E=some (.agg [g]):=W;refine oF (C.ld 10 rfl rfl) (ee (C.ld 0 rfl rfl) (ee (gj _ _) (ee (fe _ _ _) (oF (C.ld 2 rfl rfl) (ee q (ee W ?_))))));rw[qa (sz:=1) (w:=[g]) rfl rfl (by simp only[ey,ac.one];rfl),hV];have n:eo F (E.new (.cells 52 1 true false [g])) (ez E.next 52 [g]::_):=(C.zI me [g]).1;obtain⟨f,N,e4,n4,p,s4⟩:=C.uD 11 rfl (j7:=24) (Ca:=52) (y:=l) (w:=[g]) (ro:=false) ⟨g,rfl,ac⟩ (by decide) (by decide) (by omega);have ak:fg 52 1 24 EO (.slice E.next 0 1) (E.new (.cells 52 1 true false [g]))=some (.val f N):=e4;have al:=C.zdw 6 rfl mM q;have am:=Gc W (fo (.cells 52 1 true false [g]) al);refine⟨⟨n.get 0 rfl,bq⟩,am,n.ld 3 rfl rfl,n.ld 1 rfl rfl,n.ld 11 rfl rfl,?_⟩;rw[ak,ei];simp only[jo,l0]at p;obtain⟨h5,e5,n5,H5,s5⟩:=p.st 10 (o:=4) (u:=f) rfl (by simp) (p.one 11 rfl);refine⟨by show E.next+1<=N.next;exact n4,ee (fe _ _ _) ?_⟩;have an:gM 1 (.ptr lo (0+4)) f N=some (.val .undef h5):=by rw[zA];exact e5
 rw[an,ei];simp only[jo,l0]at H5;refine⟨n5,qO ?_⟩;unfold nj;have ao:ss.getD s []=l:=by rw[G2,hs];rfl
 refine H h5 d (up S s (some (.I sl.length))) (sos++[l]) f (((s1.trans s2).trans s4).trans s5) ⟨λt=>?_,by rw[c.out,Nh,wCC,Yp,ao],λt l' k x a w r L=>?_,?_,λt r=>?_⟩ H5
 ·by_cases e:t=s
  ·subst e;rw[jx,if_pos (by simp),B]
  ·rw[jt _ _ (by omega),c.map t];by_cases m:t∈sl
   ·rw[if_pos m,if_pos (TX _ m),List.idxOf_append,if_pos m]
   ·rw[if_neg m,if_neg (by simp[m,e])]
 ·by_cases e:t=s
  ·subst e;rw[hs]at r;cases r;have:=I k x a w L;have ae:=(jR.1 L).1;rw[if_pos ae,if_pos ae]at this;rw[if_pos (by simp),if_pos (by simp)];exact this
  ·rw[G t k false e,G t k true e];have:=c.rows t l' k x a w r L;have O:(t∈sl++[s])=(t∈sl):=by simp[e]
   simp only[O];exact this
 ·rw [wBj];exact⟨c.nd,by simp,λa ap b hb=>by
   rw[Nf]at hb;subst hb;exact λe=>hm (e▸ap)⟩
 ·rcases Hi.1 r with m|m
  ·exact c.lt t m
  ·obtain rfl:=Nf.1 m;exact mM
end
open Un Dm
section
variable{F F':Nat->Prop}{h h':Hp}{cs ds:List Pc}{Q:fy}{u:U}
theorem zaV(cs:List Pc):∀(a:List Nat),(∀m∈a,m<cs.length)->(a.filterMap λm=>cs[m]?).length=a.length/\∀i:Nat,(a.filterMap λm=>cs[m]?)[i]? = (a[i]?).bind λm=>cs[m]?
 |[],_=>⟨rfl,λ_=>by simp⟩
 | m::a,hm=>by
   obtain⟨b,c⟩:=zaV cs a λk d=>hm k (wBy _ d);have e:=hO (hm m (WD ..));rw[List.filterMap_cons_some e];refine⟨by rw[KB,KB,b],λi=>?_⟩
   cases i with
   |zero=>exact e.symm
   |succ i=>rw[X3,X3];exact c i
theorem eo.perm(H:eo F h cs)(b:List Nat)(k:Nat)(d:∀m∈b,m<k)(f:b.Nodup)(l:k<=cs.length):eo F h ((b.filterMap λm=>cs[m]?)++cs.drop k):=by
 obtain⟨n,o⟩:=zaV cs b λm h=>Cb (d m h) l;refine H.re (λi=>if i<b.length then b.getD i 0 else k+(i-b.length)) (λi c hc=>?_) λi j _ _ e=>?_
 ·by_cases hi:i<b.length
  ·rw[PX (by omega),o,hO hi]at hc;rw[if_pos hi,G2,hO hi];exact hc
  ·rw[SQ (by omega),n,wBN]at hc;rw[if_neg hi];exact hc
 ·have g:∀i,i<b.length->b.getD i 0<k/\b[i]? =some (b.getD i 0):=λi hi=>by
   rw[G2,hO hi];exact⟨d _ (zd hi),rfl⟩
  by_cases hi:i<b.length
  ·rw[if_pos hi]at e;by_cases hj:j<b.length
   ·rw[if_pos hj]at e;have a:=(g i hi).2;rw[e]at a;exact zS f a (g j hj).2
   ·rw[if_neg hj]at e;have:=(g i hi).1;omega
  ·rw[if_neg hi]at e;by_cases hj:j<b.length
   ·rw[if_pos hj]at e;have:=(g j hj).1;omega
   ·rw[if_neg hj]at e;omega
end
structure Dc (u:U) (az:List Int):Prop where
 nv:u.eh.length<=3000
 nb:u.blocks.length<=300
 ns:u.en.length<=1000
 once:Zn u
 mH:∀(v b k:Nat),At u v b k->v<u.eh.length
 len:az.length=u.eh.length
 sub:∀(v:Nat) (a:Int),az[v]? =some a->a<az.length
 parts:∀(v:Nat) (x:Vl),u.eh[v]? =some x->x.args.length<=700/\(pY x.op=true\/two x.op=true->x.a<u.eh.length)/\(two x.op=true->x.b<u.eh.length)/\(x.op=21\/x.op=20->∀w∈x.args,w<u.eh.length)/\(leaves x.op=true->x.state<u.en.length)
 ends:∀(b:Nat) (B:Bk),u.blocks[b]? =some B->(B.fin=2->B.cond<u.eh.length)/\(B.fin=3->B.state<u.en.length)
 st:∀(s:Nat) (fs:List Fm),u.en[s]? =some fs->fs.length<=1000/\∀f∈fs,f.locals.length<=1000/\f.stack.length<=1000/\(∀v∈f.locals,v<u.eh.length)/\∀v∈f.stack,v<u.eh.length
structure NbB (u:U) (az:List Int) (i:Nat) (bs a:List (Bk×V)):Prop where
 len:a.length=bs.length
 row:∀(b:Nat) (B:Bk) (w:V),bs[b]? =some (B,w)->a[b]? =some (if b<i then{B with eh:=(B.eh.filter (stays (qZ az))).map (fL u (qZ az)).idxOf} else B,w)
section
variable{F F':Nat->Prop}{h h':Hp}{cs ds:List Pc}{Q:fy}{u:U}{wv wb ws pP:V}{lt Tt:Nat}{az:List Int}{xs:List (Vl×V)}{bs:List (Bk×V)}{fa fn:Nat->Option (List Nat×V)}{ss:List (List (Fm×V×V))}{fl:KF->Option (List Nat×V)}
theorem Zj{T l o:Nat}{K:fy}(H:eo F h ds)(b:∀a,eo F a (ez h.next T [.ptr l o]::ds)->Sn F h F a->K (.ptr h.next 0) a):hX (lX T (.ptr l o)) h K:=by
 rw[show lX T (.ptr l o)=some (.cells T 1 true false [.ptr l o],λl=> .ptr l 0) from rfl,fG];exact b _ (H.zI T _).1 (H.zI T [.ptr l o]).2
theorem Aa{T:Nat}{ws:List V}{K:fy}(H:eo F h ds)(b:∀a,eo F a (ez h.next T ws::ds)->Sn F h F a->K (.ptr h.next 0) a):hX (some (O.cells T 1 true false ws,λl=>V.ptr l 0)) h K:=by
 rw[fG];exact b _ (H.zI T _).1 (H.zI T ws).2
theorem Vu{T:Nat}{ws:List V}{K:O->fy}(H:eo F h ds)(b:∀a,eo F a (ez h.next T ws::ds)->Sn F h F a->K (.cells T 1 true false ws) (.ptr h.next 0) a):xE (some (O.cells T 1 true false ws,λl=>V.ptr l 0)) h K:=by
 rw[hV];exact b _ (H.zI T _).1 (H.zI T ws).2
theorem Up{T:Nat}{ws:List V}{K:O->fy}(H:eo F h ds)(a:gG ws=true)(b:eo F (h.new (.cells T 1 true false ws)) (ez h.next T ws::ds)->Sn F h F (h.new (.cells T 1 true false ws))->K (.cells T 1 true false ws) (.ptr h.next 0) (h.new (.cells T 1 true false ws))):xE (lX T (.agg ws)) h K:=by
 rw[Dz a,hV];exact b (H.zI T _).1 (H.zI T ws).2
theorem L0{T:Nat}{z w:V}{K:fy}(H:eo F h ds)(c:w.one=true)(d:∀a,eo F a (ez h.next T [w]::ds)->Sn F h F a->K (.ptr h.next 0) a):hX (some (O.cells T 1 true false [z],λl=>V.ptr l 0)) h λv b=>fk (gM 1 v w b) λ_ a=>K v a:=by
 refine Aa H λb e f=>?_;obtain⟨a,g,_,i,j⟩:=e.st 0 (o:=0) rfl (by simp) c;rw[g,ei];exact d a i (f.trans j)
theorem zbi{K:fy}(H:eo F h ds)(b:∀a,eo F a (Qg h.next (λ_=>none)::ds)->Sn F h F a->K (.map h.next) a):hX (some (O.map [] 0,λl=>V.map l)) h K:=by
 rw[fG];exact b _ H.zcJ.1 H.zcJ.2
theorem Q7(g:Dc u az)(hc:XW u.eh xs fa)(hb:V1 u.blocks bs fn)
  (H0:eo F h (eR yh hK xs wv::eR vP fR bs wb::fS eJ fa::fS eJ fn::eR eZ eJ az pP::ez lt Tt [.I u.func,.I u.pc,wv,wb,ws,pP]::eR (eL PY) me ss ws::fS eJ fl::cs))
  (H:∀F' h' l1 T1 l2 l3 l4 T4 lm lb Tb lr Tr num ns Z c,Sn F h F' h'->NbB u az u.blocks.length bs c->ns.length=u.eh.length->(∀v,v<u.eh.length->ns[v]? =some (if v∈fL u (qZ az) then(fL u (qZ az)).idxOf v else 0))->
   eo F' h' (Nx l1 T1 l4 T4 lt Tt num ns [.I u.func,.I u.pc,wv,wb,ws] pP az (Sx fl ss ws lm (λ_=>none) lb Tb lr Tr l4 l1 l3 gZ (.I u.func) (.I u.pc) .ef .ef .ef []
    (eR yh hK xs wv::eR vP fR c wb::fS eJ fa::fS eJ fn::eR yh hK [] .ef::eR vP fR [] .ef::ez l2 gZ [.I 0,.I 0,.ef,.ef,.ef]::eR eN eJ (fL u (qZ az)) Z::cs)))->
   lM CS Q [.ptr l1 0,.ptr l2 0,.ptr l3 0,.ptr l4 0,.ptr lr 0,.func fQ [] [.ptr lb 0,.ptr l3 0,.ptr l1 0,.ptr lr 0],Z,.I ((fL u (qZ az)).length:Nat),.I 0] h') :
  cP CS lD [.ptr lt 0] h Q:=by
 refine EF rfl rfl ?_;unfold xC;have nv:=g.nv;have nb:=g.nb;have ai:bs.length=u.blocks.length:=by rw[<-hb.fst,GM]
 have aj:xs.length=u.eh.length:=by rw[<-hc.fst,GM]
 refine Zj H0 λh1 H1 s1=>Aa H1 λh2 U s2=>?_;generalize h.next=l1 at*;generalize h1.next=l2 at*;refine ee (U.ld 1 rfl rfl) (ee pn (ee pf (oF (U.ld 7 rfl rfl) (ee (U.ld 1 rfl rfl) (ee pn (ee pf (oF (U.ld 7 rfl rfl) ?_)))))));refine ee (show _=some (V.agg [.I u.func,.I u.pc,.ef,.ef,.ef]) from rfl) ?_;refine Vu U λh3 O s3=>?_;generalize h2.next=l3 at*;refine⟨⟨O.get 0 rfl,bq⟩,O.ld 8 rfl rfl,O.ld 2 rfl rfl,O.ld 8 rfl rfl,O.ld 2 rfl rfl,?_⟩;obtain⟨h4,e4,n4,W,s4⟩:=O.WS 0 (ws:=[.I u.func,.I u.pc,.ef,.ef,.ef]) (n:=5) rfl rfl rfl rfl;rw[e4,ei];simp only[jo]at W;refine⟨n4,ee (W.ld 2 rfl rfl) (ee pn (ee pf (oF (W.ld 8 rfl rfl) (ee (W.len 3 rfl) ?_))))⟩;rw[aj,ka (z:=V.I 0) rfl (by decide) (by omega),fG];obtain⟨H5,s5⟩:=W.make (E:=eN) (ty:=eJ) (y:=0) (u:=V.I 0) u.eh.length rfl rfl;generalize h4.new (.cells eJ 1 true false (List.replicate u.eh.length (V.I 0)))=h5 at*;generalize h4.next=ln at*;refine L0 H5 rfl λh6 P s6=>?_;generalize h5.next=l4 at*;refine ee (P.ld 4 rfl rfl) (ee pn (ee pf (oF (P.ld 10 rfl rfl) (ee (P.len 6 rfl) ?_))));rw[ai];have aa:=((((s1.trans s2).trans s3).trans s4).trans s5).trans s6;clear H0 H1 U O W H5 s1 s2 s3 s4 s5 s6 e4 n4;have P:=P.add (p:=eR eN eJ [] .ef) .nil λ_ h=>h;obtain⟨A,hA⟩:∃A,qZ az=A:=⟨_,rfl⟩
 rw[hA]at H
 refine BX (λk l h'=>∃(F':Nat->Prop) (i:Nat) (ns:List Nat) (c:List (Bk×V)) (x:V),l=[.ptr l1 0,.ptr l2 0,.ptr l3 0,.ptr l4 0,x,.I u.blocks.length,.I i]/\i+k=u.blocks.length/\Sn F h F' h'/\NbB u az i bs c/\
  ns.length=u.eh.length/\(∀v,v<u.eh.length->ns[v]? =some (if v∈ko u A i 0 then(fL u A).idxOf v else 0))/\
  eo F' h' (eR eN eJ (ko u A i 0) x::ez l4 _ [.slice ln 0 u.eh.length]::eR eN eJ ns (.slice ln 0 u.eh.length)::ez l3 gZ [.I u.func,.I u.pc,.ef,.ef,.ef]::ez l2 gZ [.I 0,.I 0,.ef,.ef,.ef]::ez l1 _ [.ptr lt 0]::eR yh hK xs wv::eR vP fR c wb::fS eJ fa::fS eJ fn::eR eZ eJ az pP::ez lt Tt [.I u.func,.I u.pc,wv,wb,ws,pP]::eR (eL PY) me ss ws::fS eJ fl::cs)) ?_ (k:=u.blocks.length)
  ⟨F,0,_,bs,.ef,rfl,by omega,aa,⟨rfl,λb B w D=>by rw[D,if_neg (by omega)]⟩,PV,λv hv=>by rw[wBM,if_pos hv,KD,if_neg (by simp)],by rw[KD];exact P⟩
 clear P aa;rintro k _ _ _ _ x _ _ h7 ⟨F7,i,ns,c,_,⟨⟩,hk,s7,I,o,d,J⟩;unfold uj;by_cases hi:i<u.blocks.length
 ·refine gB ?_;obtain⟨⟨B,wn⟩,R⟩:∃y,bs[i]? =some y:=⟨_,hO (by omega)⟩
  have M:u.blocks[i]? =some B:=by rw[<-hb.fst,Cq,R];rfl
  have aq:B.eh.length<=u.eh.length:=kj _ _ (HV g.once M) λv hv=>by
   obtain⟨k,hk⟩:=oD.1 hv;exact g.mH v i k ⟨B,M,hk⟩
  have N:c[i]? =some (B,wn):=by have:=I.row i B wn R;rwa [if_neg (by omega)]at this
  obtain⟨l8,o8,w8,X,_,⟨bv,bp,rfl,iv,ip,ar⟩,x3⟩:=J.X1 7 rfl N .i64;have X:gJ 6 wb (.I i)=some (.ptr l8 o8):=X;refine ee (J.ld 5 rfl rfl) (ee pn (ee pf (oF (J.ld 11 rfl rfl) (ee X (oF (x3 0 _ rfl) (ee iv.len ?_))))));have J:=J.add (p:=eR eN eJ [] .ef) .nil λ_ h=>h
  refine BN (λk' l h'=>∃(j:Nat) (ns:List Nat) (x K:V),l=[.ptr l1 0,.ptr l2 0,.ptr l3 0,.ptr l4 0,x,.I i,K,.I u.blocks.length,.I i,bv,.I B.eh.length,.I j]/\j+k' = B.eh.length/\Sn F h F7 h'/\Sn F7 h7 F7 h'/\
   ns.length=u.eh.length/\(∀v,v<u.eh.length->ns[v]? =some (if v∈ko u A i j then(fL u A).idxOf v else 0))/\
   eo F7 h' (eR eN eJ (((B.eh.take j).filter (stays A)).map (fL u A).idxOf) K::eR eN eJ (ko u A i j) x::ez l4 _ [.slice ln 0 u.eh.length]::eR eN eJ ns (.slice ln 0 u.eh.length)::ez l3 gZ [.I u.func,.I u.pc,.ef,.ef,.ef]::ez l2 gZ [.I 0,.I 0,.ef,.ef,.ef]::ez l1 _ [.ptr lt 0]::eR yh hK xs wv::eR vP fR c wb::fS eJ fa::fS eJ fn::eR eZ eJ az pP::ez lt Tt [.I u.func,.I u.pc,wv,wb,ws,pP]::eR (eL PY) me ss ws::fS eJ fl::cs)) ?_ (k:=B.eh.length)
   ⟨0,ns,x,.ef,rfl,by omega,s7,Sn.refl _ _,o,d,J⟩
  clear J o d X x3;rintro k' _ _ _ _ x _ K _ _ _ _ _ h8 ⟨j,ns,_,_,⟨⟩,au,s8,S,o,d,s⟩;unfold ui;have mM:(ko u A i j).length<=u.eh.length:=by
   have h1:=(Hn («as»:=A) (j:=j) M).length_le;have h2:=kj u.eh.length (fL u A) (zK g.once) λv hv=>Gl g.mH hv;omega
  have aw:((B.eh.take j).filter (stays A)).length<=(ko u A i j).length:=by
   unfold ko;rw[M,Ec];exact Nat.le_add_left _ _
  by_cases hj:j<B.eh.length
  ·refine gB ?_;have hx:=hO hj;have ab:=zE hx;generalize B.eh[j]=v at*;have ak:=g.mH v i j ⟨B,M,hx⟩;obtain⟨la,oa,_,X,x2⟩:=(iv.since S).nat hx .i64;obtain⟨a,ha⟩:∃a,az[v]? =some a:=⟨_,hO (by rw[g.len];exact ak)⟩
   obtain⟨lb,ob,y1,y2⟩:=s.SJ 11 rfl ha .i64;have ac:A v=a:=by rw[<-hA];exact PR ha
   have f:=Kw («as»:=A) M hx;refine ee X (ee x2 (ee (s.ld 6 rfl rfl) (oN (s.ld 12 rfl rfl) (ee y1 (ee y2 (gi ?_))))));by_cases e:a=(v:Int)
   ·refine gv e ?_;have r:stays A v=true:=by unfold stays;rw[ac,e];exact beq_self_eq_true _
    rw[if_pos r]at f;obtain⟨ae,ax⟩:=zby («as»:=A) g.once M hx r;refine ee (s.ld 2 rfl rfl) (ee (s.len 1 rfl) ?_);obtain⟨lc,oc,h9,e1,e2,_,t,s9⟩:=s.IG 3 rfl (k:=v) (y:=(ko u A i j).length) (u:=V.I ((ko u A i j).length:Nat)) (by omega) rfl rfl rfl;refine ee e1 ?_;rw[e2,ei];simp only[jo,l0]at t;refine ee (t.len 1 rfl) ?_;rw[oV,fG];obtain⟨va,q,K6,_,m,G⟩:=t.uD 0 rfl (j7:=8) (Ca:=3) (y:=(ko u A i j).length) (w:=hZ [(ko u A i j).length]) (ro:=false) rfl (by decide) (by decide) (by simp;omega);have ag:fg 3 1 8 K (.slice h9.next 0 1) (h9.new (.cells 3 1 true false (hZ [(ko u A i j).length])))=some (.val va q):=K6;rw[ag,ei];simp only[jo,l0]at m;rw[oV,fG];obtain⟨vc,al,am,_,L,an⟩:=m.uD 1 rfl (j7:=8) (Ca:=3) (y:=v) (w:=hZ [v]) (ro:=false) rfl (by decide) (by decide) (by omega);have ah:fg 3 1 8 x (.slice q.next 0 1) (q.new (.cells 3 1 true false (hZ [v])))=some (.val vc al):=am;rw[ah,ei];simp only[jo,l0]at L;refine tn ?_;unfold nJ;have sA:=(s9.trans G).trans an;refine fM ⟨k'-1,by omega,j+1,ns.set v (ko u A i j).length,vc,va,rfl,by omega,s8.trans sA,S.trans sA,by simp[o],λw hw=>?_,?_⟩
    ·rw[f];by_cases Y:w=v
     ·subst Y;rw[Hf (by omega),if_pos (by simp),ae]
     ·rw[ES λh=>Y h.symm,d w hw];simp[Y]
    ·rw[f,ab,wBu,wBp,if_pos r,List.filter_nil,Nh,wCC,Yp,ae];exact L
   ·refine gg e (tn ?_);unfold nJ;have r:stays A v=false:=by unfold stays;rw[ac];exact Nj.2 e
    rw[r]at f;have f:ko u A i (j+1)=ko u A i j:=f;refine fM ⟨k'-1,by omega,j+1,ns,x,K,rfl,by omega,s8,S,o,by rw[f];exact d,?_⟩;rw[f,ab,wBu,wBp,r];simpa using s
  refine iJ ?_;obtain rfl:j=B.eh.length:=by omega
  rw [JF]at s;rw[RS M]at d s;obtain⟨t,s9,r9⟩:=s.ma 0 rfl;simp only[jo]at t;have t:=t.tail;generalize (λl=>F7 l\/Loc K l)=F9 at*;have T:=jR.1 N;obtain⟨lq,q,e1,e2,_,m,G⟩:=t.stF 7 rfl (k:=i) (j:=0) (y:=({B with eh:=(B.eh.filter (stays A)).map (fL u A).idxOf},wn)) (a:=K) T.1 (by decide) r9.one (λw' hw=>by
   rw[T.2]at hw;obtain⟨pv,pp,rfl,_,q2,q3⟩:=hw;exact⟨K,pp,rfl,r9,q2,q3⟩)
  have e1:gJ 6 wb (.I i)=some (.ptr lq (i*6)):=e1;refine ee (t.ld 5 rfl rfl) (ee pn (ee pf (oF (t.ld 11 rfl rfl) (ee e1 (ee pf ?_)))));have ao:gM 1 (.ptr lq (i*6+0)) K h8=some (.val .undef q):=e2;rw[ao,ei];simp only[jo,l0]at m;refine fM ⟨k-1,by omega,F9,i+1,ns,_,x,rfl,by omega,(s8.trans s9).trans G,⟨by rw[Nd,I.len],λb C w D=>?_⟩,o,d,m⟩;by_cases e:b=i
  ·subst e;rw[R]at D;cases D;rw[Hf T.1,if_pos (by omega),hA]
  ·rw[ES λh=>e h.symm,I.row b C w D];by_cases Y:b<i
   ·rw[if_pos Y,if_pos (by omega)]
   ·rw[if_neg Y,if_neg (by omega)]
 refine iJ ?_;obtain rfl:i=u.blocks.length:=by omega
 rw[SC]at d J;refine zbi J λh8 s s8=>L0 s rfl λh9 t s9=>L0 t rfl λq m G=>?_;generalize h7.next=lm at*;generalize h8.next=lb at*;generalize h9.next=lr at*;refine ee (m.len 3 rfl) ?_;have L:=((m.add (p:=eR (eL PY) me [] .ef) .nil λ_ h=>h).add (p:=eR yh hK [] .ef) .nil λ_ h=>h).add (p:=eR vP fR [] .ef) .nil λ_ h=>h;have ap:=L.perm [11,7,17,8,16,19,18,5,4,3,9,2,12,13,14,15,1,0,10,6] 20 (by decide) (by decide) (by simp);exact H _ q l1 _ l2 l3 l4 _ lm lb _ lr _ _ ns _ c (((s7.trans s8).trans s9).trans G) I o d ap
end
