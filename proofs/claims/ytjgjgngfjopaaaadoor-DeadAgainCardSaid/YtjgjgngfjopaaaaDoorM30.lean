/- Parts. -/
import Derived.Test.YtjgjgngfjopaaaaDoorM29
namespace Go.Proofs.YtjgjgngfjopaaaaDoor.Hx
open Un Dm
def Qd(l:Nat)(S:Int->Option V):Pc where
 lX:=λm=>m=l
 ok F h:=(∃a c,h.get l=some (.map a c)/\(∀e∈a,∃k:Int,e.1 = .I k/\S k=some e.2.1)/\∀k v,S k=some v->∃e∈a,e.1 = .I k)/\l<h.next/\¬F l
 JC:=λh _ e=>by subst e;exact h.2
 fk:=λ⟨⟨a,c,f,g⟩,d⟩ _ b i=>⟨⟨a,c,(b l rfl).trans f,g⟩,BL d.1 i,d.2⟩
 mono:=λh _ b=>⟨h.1,h.2.1,b l rfl⟩
theorem JN(k:Int):∀(a:List (V×V×Nat))(i:Nat),(∀e∈a,∃k:Int,e.1 = .I k)->
  (vO ey none (.I k) a i=some none/\∀e∈a,e.1≠ .I k)\/∃j e,vO ey none (.I k) a i=some (some (i+j,e.2.1))/\a[j]? =some e/\e.1 = .I k
 |[],i,_=> .inl ⟨rfl,λ_ h=>by cases h⟩
 | e ::a,i,h=>by
   obtain ⟨k',d⟩:=h e (US ..);have b:vO ey none (.I k) (e::a) i=if k=k' then some (some (i,e.2.1)) else vO ey none (.I k) a (i+1):=by
     show oB (P9 ey none (.I k) e.1) _=_;rw[d,show P9 ey none (V.I k) (V.I k')=some (k == k') from RI _ _];by_cases hk:k=k'
     ·rw[if_pos hk,z8.2 hk];rfl
     ·rw[if_neg hk,MU.2 hk];rfl
   by_cases hk:k=k'
   ·subst hk
    rw[if_pos rfl]at b;exact .inr ⟨0,e,b,rfl,d⟩
   ·rw[if_neg hk]at b
    rcases JN k a (i+1) λe c=>h e (Ud _ c)with⟨f,g⟩|⟨j,l,f,g,m⟩
    ·refine .inl ⟨b.trans f,λl c=>?_⟩
     rcases Jq.1 c with rfl|c
     ·rw[d];intro n;cases n;exact hk rfl
     ·exact g l c
    ·exact .inr ⟨j+1,l,by rw[b,f];congr 3;omega,g,m⟩
section
variable{F F':Nat->Prop}{h h':Hp}{cs ds:List Pc}{Q:fy}{l:Nat}{S:Int->Option V}
theorem en.zb3(H:en F h cs)(i:Nat)(hi:cs[i]? =some (Qd l S))(k:Int)(z:V):Ty ey none z true (.map l) (.I k) h=some (.tuple (match S k with|some v=>[v,.bool true]|none=>[z,.bool false])):=by
 obtain ⟨⟨m,c,p,n,q⟩,_⟩:=H.ok i _ hi;have o:∀r,vO ey none (.I k) m 0=some r->Ty ey none z true (.map l) (.I k) h=some (found z true r):=λr s=>by
  unfold Ty D2;simp only[p,fj];rw[s];rfl
 rcases JN k m 0 λe d=>let⟨k,a,_⟩:=n e d;⟨k,a⟩ with⟨f,g⟩|⟨j,e,f,g,t⟩
 ·rw[o _ f]
  cases hS:S k with
  |none=>rfl
  | some v=>
    obtain⟨e,d,u⟩:=q k v hS;exact absurd u (g e d)
 ·rw[o _ f];obtain⟨k',a,b⟩:=n e (A7 g);rw[t]at a;cases a;rw[b];rfl
theorem en.zdx(H:en F h cs)(i:Nat)(hi:cs[i]? =some (Qd l S)){k:Int}(q:S k=none)(v:V):∃h',Nf ey none (.map l) (.I k) v h=some (.val .undef h')/\h.next<=h'.next/\en F h' (cs.set i (Qd l (up S k (some v))))/\Sn F h F h':=by
 obtain⟨⟨f,c,t,m,u⟩,n,x⟩:=H.ok i _ hi;rcases JN k f 0 λe d=>let⟨k,a,_⟩:=m e d;⟨k,a⟩ with⟨r,s⟩|⟨j,e,r,s,y⟩
 ·have z:Oi ey none f c (.I k) v=some (.map (f++[(.I k,v,c)]) (c+1)):=by unfold Oi;rw[r];rfl
  refine⟨h.put l (.map (f++[(.I k,v,c)]) (c+1)),?_,jj _,H.G9 (p:=Qd l (up S k (some v))) hi (lV.put _ rfl n) ⟨⟨_,_,gq _ n,λe d=>?_,λk' w g=>?_⟩,n,x⟩ λ_ h=> .inl h⟩
  ·unfold Nf D2;simp only[t,fj,z];rfl
  ·rcases BK.1 d with h|h
   ·obtain⟨k',a,b⟩:=m e h;refine⟨k',a,?_⟩;rw[iZ _ _ λo=>by subst o;rw[q]at b;cases b];exact b
   ·obtain rfl:=Jd.1 h;exact⟨k,rfl,ji _ _ _⟩
  ·by_cases e:k' = k
   ·subst e;exact⟨_,wBW _ (Jd.2 rfl),rfl⟩
   ·rw[iZ _ _ e]at g;obtain⟨e,d,g⟩:=u k' w g;exact⟨e,Rh _ d,g⟩
 ·obtain⟨k',a,b⟩:=m e (A7 s);rw[y]at a;cases a;rw[q]at b;cases b
theorem en.zbS(H:en F h cs):en F (h.new (.map [] 0)) (Qd h.next (λ_=>none)::cs)/\Sn F h F (h.new (.map [] 0)):=
 H.new (p:=Qd h.next λ_=>none) _ ⟨⟨[],0,fi _ _,And.intro (λe a=>nomatch a) (λk v b=>nomatch b)⟩,KX _,H.fresh⟩ λ_ e=>e
end
abbrev Nx(l1 T1 l4 T4 lt Tt:Nat) (num:V) (ns:List Nat) (tc:List V) (oT:V) (az:List Int) (ds:List Pc):List Pc:=
 ev l1 T1 [.ptr lt 0]::ev l4 T4 [num]::ev lt Tt (tc++[oT])::eR eN ey ns num::eR eZ ey az oT::ds
def AZ(ns:List Nat)(az:List Int)(v:Nat):Nat:=ns.getD (xj (pC az) (az.length+1) v) 0
section
variable{F F':Nat->Prop}{h h':Hp}{cs ds:List Pc}{Q:fy}{u:U}{l1 T1 l4 T4 lt Tt:Nat}{num oT:V}{ns:List Nat}{tc:List V}{az:List Int}
theorem Ix(b:en F h (Nx l1 T1 l4 T4 lt Tt num ns tc oT az ds))(c:tc.length=5)(e:az.length<=3000)(f:ns.length=az.length)(d:∀(v:Nat)(a:Int),az[v]? =some a->a<az.length){v:Nat}(hv:v<az.length)
  (H:∀w q,gD 1 num (.I (w:Nat))=some q->ez q h=some (.I (AZ ns az v:Nat))->Q (.I (w:Nat)) h):cP CS jo [.ptr lt 0,.I v] h Q:=by
 have g:ez (.ptr lt 5) h=some oT:=b.ld 2 rfl (by rw[Rf (by omega),c];rfl);refine Y6 g (b.row 4 rfl).read e d hv λm=>?_;have i:ns[xj (pC az) (az.length+1) v]? =some (AZ ns az v):=by
  unfold AZ;rw[BO,gP (by omega)];rfl
 obtain⟨l,o,j,k⟩:=b.KO 3 rfl i .i64;exact H _ _ j k
theorem Jm{ι:Type} [DecidableEq ι] {f:ι->Option (List Nat×V)}{i:ι}{xs:List Nat}{w:V}(n:Nat)(I:en F h (Nx l1 T1 l4 T4 lt Tt num ns tc oT az ds))(t:ds[n]? =some (fT ey f))(hi:f i=some (xs,w))(u:tc.length=5)(M:az.length<=3000)(y:ns.length=az.length)(z:∀(v:Nat)(a:Int),az[v]? =some a->a<az.length)
  (A:∀x∈xs,x<az.length) (N:xs.length<1000000)
  (H:∀h',Sn F h F h'->en F h' (Nx l1 T1 l4 T4 lt Tt num ns tc oT az (ds.set n (fT ey (up f i (some (xs.map (AZ ns az),w))))))->Q (.tuple []) h') :
  cP CS iA [w,.ptr l4 0,.ptr l1 0] h Q:=by
 refine BX rfl rfl ?_;unfold uy;refine ed (I.rows (n+5) t hi).len ?_
 refine z7 (λk l h'=>∃(j:Nat) (c:ι->Option (List Nat×V)),l=[w,.ptr l4 0,.ptr l1 0,w,.I xs.length,.I j]/\j+k=xs.length/\Sn F h F h'/\c=up f i (some ((xs.take j).map (AZ ns az)++xs.drop j,w))/\en F h' (Nx l1 T1 l4 T4 lt Tt num ns tc oT az (ds.set n (fT ey c)))) ?_ (k:=xs.length)
  ⟨0,_,rfl,by omega,Sn.refl _ _,rfl,?_⟩
 rotate_left
 ·have e:up f i (some ((xs.take 0).map (AZ ns az)++xs.drop 0,w))=f:=funext λa=>by
   by_cases e:a=i
   ·subst e;rw[ji,hi];rfl
   ·rw[iZ _ _ e]
  rw [e];have:ds.set n (fT ey f)=ds:=by
   obtain⟨J,B⟩:=iR.1 t;rw[<-B,List.set_getElem_self]
  rw[this];exact I
 rintro k _ _ _ _ _ _ J ⟨j,c,⟨⟩,Z,K,b,g⟩;unfold qx;have C:=(iR.1 t).1;have m:(ds.set n (fT ey c))[n]? =some (fT ey c):=EK C;have o:c i=some ((xs.take j).map (AZ ns az)++xs.drop j,w):=by rw[b,ji]
 by_cases hj:j<xs.length
 ·refine gG ?_;have O:=gP hj;have L:((xs.take j).map (AZ ns az)).length=j:=by rw[CD,GX];omega
  have d:((xs.take j).map (AZ ns az)++xs.drop j)[j]? =some xs[j]:=by
   rw[Rf (by omega),L,Nat.sub_self,XU hj];rfl
  have p:((xs.take j).map (AZ ns az)++xs.drop j).set j (AZ ns az xs[j])=(xs.take (j+1)).map (AZ ns az)++xs.drop (j+1):=by
   rw[zd O,Ji,Ek,XU hj,List.set_append_right _ _ (by omega),L,Nat.sub_self];rfl
  have D:j<((xs.take j).map (AZ ns az)++xs.drop j).length:=(iR.1 d).1;have E:=A _ (zq hj);generalize xs[j]=x at*;obtain⟨la,P,_,G,R⟩:=(g.rows (n+5) m o).read.nat d .i64;refine ed G (ed R (ed (g.ld 1 rfl rfl) (ed (g.ld 0 rfl rfl) ?_)));refine Ix g u M y z E λr q S T=>⟨jj _,ed S (ed T (ed G ⟨g.ld 1 rfl rfl,?_⟩))⟩
  obtain⟨l3,U,B,e3,W,X,s,Y⟩:=g.V6 (n+5) m o D (AZ ns az x);rw[G]at e3;obtain⟨rfl,rfl⟩:la=l3/\P=U:=by cases e3;exact⟨rfl,rfl⟩
  rw [W,ei];refine⟨X,fN ⟨k-1,by omega,j+1,_,rfl,by omega,K.trans Y,rfl,?_⟩⟩;have s:en F B (Nx l1 T1 l4 T4 lt Tt num ns tc oT az ((ds.set n (fT ey c)).set n (fT ey (up c i (some (((xs.take j).map (AZ ns az)++xs.drop j).set j (AZ ns az x),w)))))):=s;rw[List.set_set,p,b]at s;have e:up (up f i (some ((xs.take j).map (AZ ns az)++xs.drop j,w))) i (some ((xs.take (j+1)).map (AZ ns az)++xs.drop (j+1),w))=up f i (some ((xs.take (j+1)).map (AZ ns az)++xs.drop (j+1),w)):=funext λa=>by
   by_cases e:a=i
   ·subst e;rw[ji,ji]
   ·rw[iZ _ _ e,iZ _ _ e,iZ _ _ e]
  rw[e]at s;exact s
 refine iI ?_;obtain rfl:j=xs.length:=by omega
 rw[Jh,List.drop_length,Eo]at b;subst b;exact H J K g
end
open Un Dm
structure Yk (ss:List (List (Fm×V×V))) (nm:Nat->Nat) (b:List Nat) (S:Int->Option V) (fl:KF->Option (List Nat×V)) (c:List (List (Fm×V×V))):Prop where
 map:∀s:Nat,S s=if s∈b then some (.I (b.idxOf s:Nat)) else none
 out:c=b.map λs=>ss.getD s []
 rows:∀s l k x a w,ss[s]? =some l->l[k]? =some (x,a,w)->fl (s,k,false)=some (if s∈b then x.locals.map nm else x.locals,a)/\fl (s,k,true)=some (if s∈b then x.stack.map nm else x.stack,w)
 nd:b.Nodup
 lt:∀s∈b,s<ss.length
def U1(a:List Nat)(s:Nat):List Nat:=if s∈a then a else a++[s]
section
variable {F F':Nat->Prop} {h h':Hp} {cs ds:List Pc} {Q:fy} {u:U} {l1 T1 l4 T4 lt Tt lm lb Tb lr Tr lo To:Nat} {num oT a0 a1 a2 a3 b0 b1 b2 b3 ws Ew:V} {ns:List Nat} {az:List Int} {S:Int->Option V}
 {fl:KF->Option (List Nat×V)} {ss sos:List (List (Fm×V×V))} {sl:List Nat}
abbrev Sx(fl:KF->Option (List Nat×V)) (ss:List (List (Fm×V×V))) (ws:V) (lm:Nat) (S:Int->Option V) (lb Tb lr Tr l4 l1 lo To:Nat) (b0 b1 b2 b3 Ew:V) (a:List (List (Fm×V×V))) (ds:List Pc):List Pc:=
 fT ey fl::eR (eL PO) ml ss ws::Qd lm S::ev lb Tb [.map lm]::ev lr Tr [.func iA [] [.ptr l4 0,.ptr l1 0]]::ev lo To [b0,b1,b2,b3,Ew]::eR (eL PO) ml a Ew::ds
theorem en.J8{p:Pc}(H:en F h (p::cs))(n:Nat)(g:n<=cs.length):en F h (cs.take n++p::cs.drop n):=by
 have f:(cs.take n).length=n:=by rw[GX];omega
 refine H.re (λi=>if i<n then i+1 else if i=n then 0 else i) (λi c hc=>?_) λi j _ _ e=>?_
 ·by_cases a:i<n
  ·rw[Ot (by omega),Y0 a]at hc;rw[if_pos a];exact hc
  ·rw [Rf (by omega),f]at hc;rw[if_neg a];by_cases b:i=n
   ·subst b;rw[Nat.sub_self]at hc;rw[if_pos rfl];exact hc
   ·rw[if_neg b];obtain⟨d,rfl⟩:∃d,i=n+d+1:=⟨i-n-1,by omega⟩
    rw[show n+d+1-n=d+1 by omega,QB,Vr]at hc;exact hc
 ·repeat' split at e
  all_goals omega
theorem en.B1(H:en F h cs)(n:Nat)(d:n<=cs.length):en F h (cs.take n++cs.drop (n+1)):=by
 have b:(cs.take n).length=n:=by rw[GX];omega
 refine H.re (λi=>if i<n then i else i+1) (λi c hc=>?_) λi j _ _ e=>?_
 ·by_cases a:i<n
  ·rw[Ot (by omega),Y0 a]at hc;rw[if_pos a];exact hc
  ·rw[Rf (by omega),b,Vr]at hc;rw[if_neg a,<-hc];congr 1;omega
 ·repeat' split at e
  all_goals omega
theorem en.zdf{α:Type}{E:qA α}{ty:Nat}{xs:List α}{v:V}(H:en F h cs)(i:Nat)(hi:cs[i]? =some (eR E ty xs v)){k n l o:Nat}{kd:IntKind}(a:k<xs.length)(e:gD n v (.int kd (k:Nat))=some (.ptr l o)):l<h.next:=by
 rcases H.row i hi with⟨_,rfl⟩|⟨t,ws,rfl,b,_⟩
 ·exact absurd a (Nat.not_lt_zero _)
 ·rw[BT _ _ _ _ _ _ a]at e;cases e;exact b
theorem NH(D:en F h (Nx l1 T1 l4 T4 lt Tt num ns [a0,a1,a2,a3,ws] oT az (Sx fl ss ws lm S lb Tb lr Tr l4 l1 lo To b0 b1 b2 b3 Ew sos ds)))(c:Yk ss (AZ ns az) sl S fl sos)(hn:az.length<=3000)(R:ns.length=az.length)(T:∀(v:Nat)(a:Int),az[v]? =some a->a<az.length)
  {s:Nat} {l:List (Fm×V×V)} (hs:ss[s]? =some l) (au:ss.length<=1000) (aw:l.length<=1000) (ah:∀y∈l,y.1.locals.length<=1000/\y.1.stack.length<=1000/\(∀v∈y.1.locals,v<az.length)/\∀v∈y.1.stack,v<az.length)
  (H:∀h' d S' A f,Sn F h F h'->Yk ss (AZ ns az) (U1 sl s) S' d A->en F h' (Nx l1 T1 l4 T4 lt Tt num ns [a0,a1,a2,a3,ws] oT az (Sx d ss ws lm S' lb Tb lr Tr l4 l1 lo To b0 b1 b2 b3 f A ds))->Q (.I ((U1 sl s).idxOf s:Nat)) h') :
  cP CS fO [.I s,.ptr lb 0,.ptr lo 0,.ptr l1 0,.ptr lr 0] h Q:=by
 refine Cg rfl rfl ?_;unfold uB;refine ed (D.ld 8 rfl rfl) (ed (D.zb3 7 rfl s _) ?_);rw[c.map s];have lT:s<ss.length:=(iR.1 hs).1;by_cases hm:s∈sl
 ·rw[if_pos hm];refine ed (CT 0 _) (ed (CT 1 _) (qi (gw rfl ?_)));refine qo ?_;unfold mG;have ha:U1 sl s=sl:=if_pos hm;rw[ha]at H;exact H h fl S sos Ew (Sn.refl _ _) c D
 rw [if_neg hm];have ha:U1 sl s=sl++[s]:=if_neg hm;rw[ha]at H;have B:(sl++[s]).idxOf s=sl.length:=by
  rw[wCD,if_neg hm];simp
 rw[B]at H;have U:sos.length=sl.length:=by rw[c.out,CD]
 have ar:sl.length<=ss.length:=jK _ _ c.nd c.lt;refine ed (CT 0 _) (ed (CT 1 _) (qi (gi (by simp) ?_)));refine oF (D.ld 10 rfl rfl) (ed (D.len 11 rfl) (ed (D.ld 8 rfl rfl) ?_));rw[U];obtain⟨m,e1,_,M,s1⟩:=D.zdx 7 rfl (k:=(s:Int)) (by rw[c.map s,if_neg hm]) (.I sl.length);have ai:Nf 3 none (.map lm) (.I s) (.I sl.length) h=some (.val .undef m):=e1;rw[ai,ei];simp only[iY,lj]at M;obtain⟨lx,W,wx,q,X,⟨wf,rfl,xf⟩,Y⟩:=M.WJ 6 rfl hs .i64;have q:gD 1 ws (.I s)=some (.ptr lx W):=q;have Y:ez (.ptr lx (W+0)) m=some wf:=Y 0 wf rfl;refine ed (M.ld 0 rfl rfl) (ed (fX _ _) (ed (eJ _ _ _) (oF (M.ld 2 rfl rfl) (ed q (oF Y (ed xf.len ?_))))))
 refine zH (λk l' h'=>∃(j:Nat) (d:KF->Option (List Nat×V)),l' = [.I s,.ptr lo 0,.ptr l1 0,.ptr lr 0,.I sl.length,wf,.I l.length,.I j]/\j+k=l.length/\Sn F m F h'/\
  (∀t k b,t≠s->d (t,k,b)=fl (t,k,b))/\(∀k x a w,l[k]? =some (x,a,w)->d (s,k,false)=some (if k<j then x.locals.map (AZ ns az) else x.locals,a)/\d (s,k,true)=some (if k<j then x.stack.map (AZ ns az) else x.stack,w))/\
  en F h' (Nx l1 T1 l4 T4 lt Tt num ns [a0,a1,a2,a3,ws] oT az (Sx d ss ws lm (up S s (some (.I sl.length))) lb Tb lr Tr l4 l1 lo To b0 b1 b2 b3 Ew sos ds))) ?_ (k:=l.length)
  ⟨0,fl,rfl,by omega,Sn.refl _ _,λ_ _ _ _=>rfl,λk x a w B=>?_,M⟩
 rotate_left
 ·have:=c.rows s l k x a w hs B;rw[if_neg hm,if_neg hm]at this;rw[if_neg (by omega),if_neg (by omega)];exact this
 clear M q Y;rintro k _ _ _ _ _ _ _ _ E ⟨j,d,⟨⟩,ax,s2,G,I,C⟩;unfold ql;have aj:=xf.since s2;by_cases hj:j<l.length
 ·refine gG ?_;have hy:=gP hj;obtain⟨Z,aa,J,K⟩:=ah _ (zq hj);obtain⟨ly,oy,wy,_,y1,y2,y3,_⟩:=aj.ix hj .i64;obtain⟨⟨x,a,w⟩,ak⟩:∃y,l[j]=y:=⟨_,rfl⟩
  rw[ak]at hy y3 Z aa J K;dsimp only at Z aa J K;obtain⟨rfl,y4,y5⟩:=y3;have y1:gD 4 wf (.I j)=some (.ptr ly oy):=y1;refine ed y1 (ed y2 ?_);refine iG C rfl rfl (by simp only[MH,eQ,y4,y5];rfl) λh3 n s3=>?_;generalize E.next=lf at*;have n:en F h3 (Nx l1 T1 l4 T4 lt Tt num ns [a0,a1,a2,a3,ws] oT az (Sx d ss ws lm (up S s (some (.I sl.length))) lb Tb lr Tr l4 l1 lo To b0 b1 b2 b3 Ew sos (ev lf 57 (MH x a w)::ds))):=n.J8 12 (by simp);obtain⟨ab,ac⟩:=I j x a w hy;rw[if_neg (by omega)]at ab ac;refine ed (n.ld 9 rfl rfl) (oF (n.ld 12 rfl rfl) ?_);show cP CS iA [a,.ptr l4 0,.ptr l1 0] h3 _;refine Jm 0 n rfl ab rfl hn R T J (by omega) λN s4 p=>?_;simp only[iY]at p;have p:en F N (Nx l1 T1 l4 T4 lt Tt num ns [a0,a1,a2,a3,ws] oT az (Sx (up d (s,j,false) (some (x.locals.map (AZ ns az),a))) ss ws lm (up S s (some (.I sl.length))) lb Tb lr Tr l4 l1 lo To b0 b1 b2 b3 Ew sos (ev lf 57 (MH x a w)::ds))):=p;refine ed (p.ld 9 rfl rfl) (oF (p.ld 12 rfl rfl) ?_);show cP CS iA [w,.ptr l4 0,.ptr l1 0] N _;refine Jm 0 p rfl (i:=(s,j,true)) (by rw[iZ _ _ (by simp)];exact ac) rfl hn R T K (by omega) λh5 s5 H5=>?_;simp only[iY]at H5;refine fN ⟨k-1,by omega,j+1,_,rfl,by omega,((s2.trans s3).trans s4).trans s5,λt k b r=>?_,λk z b c B=>?_,H5.B1 12 (by simp)⟩
  ·rw[iZ _ _ (by simp[r]),iZ _ _ (by simp[r])];exact G t k b r
  ·by_cases e:k=j
   ·subst e;rw[hy]at B;cases B;rw[if_pos (by omega),if_pos (by omega)];exact⟨by rw[iZ _ _ (by simp),ji],ji _ _ _⟩
   ·rw[iZ _ _ (by simp),iZ _ _ (by simp[e]),iZ _ _ (by simp[e]),iZ _ _ (by simp)];have:=I k z b c B;by_cases P:k<j
    ·rw[if_pos P,if_pos P]at this;rw[if_pos (by omega),if_pos (by omega)];exact this
    ·rw[if_neg P,if_neg P]at this;rw[if_neg (by omega),if_neg (by omega)];exact this
 refine iI ?_;obtain rfl:j=l.length:=by omega
 obtain⟨lx,W,wx,q,X,⟨g,rfl,ae⟩,Y⟩:=C.WJ 6 rfl hs .i64;have q:gD 1 ws (.I s)=some (.ptr lx W):=q;have X:gg 1 (.ptr lx W) E=some (.agg [g]):=X;refine oF (C.ld 10 rfl rfl) (ed (C.ld 0 rfl rfl) (ed (fX _ _) (ed (eJ _ _ _) (oF (C.ld 2 rfl rfl) (ed q (ed X ?_))))));have bq:∀{e sz:Nat} {a b:Bool} {cs:List V},O.beq (.cells e sz a b cs) (.cells e sz a b cs)=true:=O.gO _ _ _ _ _;rw[pP (sz:=1) (w:=[g]) rfl rfl (by simp only[eQ,ae.one];rfl),hK];have n:en F (E.new (.cells 60 1 true false [g])) (ev E.next 60 [g]::_):=(C.zf ml [g]).1;obtain⟨f,N,e4,n4,p,s4⟩:=C.tU 11 rfl (jM:=24) (BN:=60) (y:=l) (w:=[g]) (ro:=false) ⟨g,rfl,ae⟩ (by decide) (by decide) (by omega);have al:fe 60 1 24 Ew (.slice E.next 0 1) (E.new (.cells 60 1 true false [g]))=some (.val f N):=e4;have am:=C.zdf 6 rfl lT q;have an:=FI X (fo (.cells 60 1 true false [g]) am);refine⟨⟨n.get 0 rfl,bq⟩,an,n.ld 3 rfl rfl,n.ld 1 rfl rfl,n.ld 11 rfl rfl,?_⟩;rw[al,ei];simp only[iY,lj]at p;obtain⟨h5,e5,n5,H5,s5⟩:=p.st 10 (o:=4) (u:=f) rfl (by simp) (p.one 11 rfl);refine⟨by show E.next+1<=N.next;exact n4,ed (eJ _ _ _) ?_⟩;have ao:gK 1 (.ptr lo (0+4)) f N=some (.val .undef h5):=by rw[yC];exact e5
 rw[ao,ei];simp only[iY,lj]at H5;refine⟨n5,qo ?_⟩;unfold mG;have ap:ss.getD s []=l:=by rw[BO,hs];rfl
 refine H h5 d (up S s (some (.I sl.length))) (sos++[l]) f (((s1.trans s2).trans s4).trans s5) ⟨λt=>?_,by rw[c.out,Ji,Sp,SM,ap],λt l' k x a w r L=>?_,?_,λt r=>?_⟩ H5
 ·by_cases e:t=s
  ·subst e;rw[ji,if_pos (by simp),B]
  ·rw[iZ _ _ (by omega),c.map t];by_cases m:t∈sl
   ·rw[if_pos m,if_pos (Rh _ m),wCD,if_pos m]
   ·rw[if_neg m,if_neg (by simp[m,e])]
 ·by_cases e:t=s
  ·subst e;rw[hs]at r;cases r;have:=I k x a w L;have ag:=(iR.1 L).1;rw[if_pos ag,if_pos ag]at this;rw[if_pos (by simp),if_pos (by simp)];exact this
  ·rw[G t k false e,G t k true e];have:=c.rows t l' k x a w r L;have P:(t∈sl++[s])=(t∈sl):=by simp[e]
   simp only[P];exact this
 ·rw [WO];exact⟨c.nd,by simp,λa aq b hb=>by
   rw[Jd]at hb;subst hb;exact λe=>hm (e▸aq)⟩
 ·rcases BK.1 r with m|m
  ·exact c.lt t m
  ·obtain rfl:=Jd.1 m;exact lT
end
open Un Dm
section
variable{F F':Nat->Prop}{h h':Hp}{cs ds:List Pc}{Q:fy}{u:U}
theorem zam(cs:List Pc):∀(a:List Nat),(∀m∈a,m<cs.length)->(a.filterMap λm=>cs[m]?).length=a.length/\∀i:Nat,(a.filterMap λm=>cs[m]?)[i]? = (a[i]?).bind λm=>cs[m]?
 |[],_=>⟨rfl,λ_=>by simp⟩
 | m::a,hm=>by
   obtain⟨b,c⟩:=zam cs a λk d=>hm k (Ud _ d);have e:=gP (hm m (US ..));rw[List.filterMap_cons_some e];refine⟨by rw[Dz,Dz,b],λi=>?_⟩
   cases i with
   |zero=>exact e.symm
   |succ i=>rw[QB,QB];exact c i
theorem en.perm(H:en F h cs)(b:List Nat)(k:Nat)(d:∀m∈b,m<k)(f:b.Nodup)(l:k<=cs.length):en F h ((b.filterMap λm=>cs[m]?)++cs.drop k):=by
 obtain⟨n,o⟩:=zam cs b λm h=>BL (d m h) l;refine H.re (λi=>if i<b.length then b.getD i 0 else k+(i-b.length)) (λi c hc=>?_) λi j _ _ e=>?_
 ·by_cases hi:i<b.length
  ·rw[Ot (by omega),o,gP hi]at hc;rw[if_pos hi,BO,gP hi];exact hc
  ·rw[Rf (by omega),n,Vr]at hc;rw[if_neg hi];exact hc
 ·have g:∀i,i<b.length->b.getD i 0<k/\b[i]? =some (b.getD i 0):=λi hi=>by
   rw[BO,gP hi];exact⟨d _ (zq hi),rfl⟩
  by_cases hi:i<b.length
  ·rw[if_pos hi]at e;by_cases hj:j<b.length
   ·rw[if_pos hj]at e;have a:=(g i hi).2;rw[e]at a;exact xA f a (g j hj).2
   ·rw[if_neg hj]at e;have:=(g i hi).1;omega
  ·rw[if_neg hi]at e;by_cases hj:j<b.length
   ·rw[if_pos hj]at e;have:=(g j hj).1;omega
   ·rw[if_neg hj]at e;omega
end
structure CH (u:U) (az:List Int):Prop where
 nv:u.ef.length<=3000
 nb:u.blocks.length<=300
 ns:u.eh.length<=1000
 once:YB u
 mb:∀(v b k:Nat),At u v b k->v<u.ef.length
 len:az.length=u.ef.length
 sub:∀(v:Nat) (a:Int),az[v]? =some a->a<az.length
 parts:∀(v:Nat) (x:Vl),u.ef[v]? =some x->x.args.length<=700/\(pg x.op=true\/two x.op=true->x.a<u.ef.length)/\(two x.op=true->x.b<u.ef.length)/\(x.op=21\/x.op=20->∀w∈x.args,w<u.ef.length)/\(leaves x.op=true->x.state<u.eh.length)
 ends:∀(b:Nat) (B:Bk),u.blocks[b]? =some B->(B.fin=2->B.cond<u.ef.length)/\(B.fin=3->B.state<u.eh.length)
 st:∀(s:Nat) (fs:List Fm),u.eh[s]? =some fs->fs.length<=1000/\∀f∈fs,f.locals.length<=1000/\f.stack.length<=1000/\(∀v∈f.locals,v<u.ef.length)/\∀v∈f.stack,v<u.ef.length
structure NbB (u:U) (az:List Int) (i:Nat) (bs a:List (Bk×V)):Prop where
 len:a.length=bs.length
 row:∀(b:Nat) (B:Bk) (w:V),bs[b]? =some (B,w)->a[b]? =some (if b<i then{B with ef:=(B.ef.filter (stays (pC az))).map (fI u (pC az)).idxOf} else B,w)
section
variable{F F':Nat->Prop}{h h':Hp}{cs ds:List Pc}{Q:fy}{u:U}{wv wb ws oT:V}{lt Tt:Nat}{az:List Int}{xs:List (Vl×V)}{bs:List (Bk×V)}{fa fn:Nat->Option (List Nat×V)}{ss:List (List (Fm×V×V))}{fl:KF->Option (List Nat×V)}
theorem Y4{T l o:Nat}{K:fy}(H:en F h ds)(b:∀a,en F a (ev h.next T [.ptr l o]::ds)->Sn F h F a->K (.ptr h.next 0) a):ik (m0 T (.ptr l o)) h K:=by
 rw[show m0 T (.ptr l o)=some (.cells T 1 true false [.ptr l o],λl=> .ptr l 0) from rfl,fE];exact b _ (H.zf T _).1 (H.zf T [.ptr l o]).2
theorem zO{T:Nat}{ws:List V}{K:fy}(H:en F h ds)(b:∀a,en F a (ev h.next T ws::ds)->Sn F h F a->K (.ptr h.next 0) a):ik (some (O.cells T 1 true false ws,λl=>V.ptr l 0)) h K:=by
 rw[fE];exact b _ (H.zf T _).1 (H.zf T ws).2
theorem Vg{T:Nat}{ws:List V}{K:O->fy}(H:en F h ds)(b:∀a,en F a (ev h.next T ws::ds)->Sn F h F a->K (.cells T 1 true false ws) (.ptr h.next 0) a):wU (some (O.cells T 1 true false ws,λl=>V.ptr l 0)) h K:=by
 rw[hK];exact b _ (H.zf T _).1 (H.zf T ws).2
theorem TZ{T:Nat}{ws:List V}{K:O->fy}(H:en F h ds)(a:gv ws=true)(b:en F (h.new (.cells T 1 true false ws)) (ev h.next T ws::ds)->Sn F h F (h.new (.cells T 1 true false ws))->K (.cells T 1 true false ws) (.ptr h.next 0) (h.new (.cells T 1 true false ws))):wU (m0 T (.agg ws)) h K:=by
 rw[Du a,hK];exact b (H.zf T _).1 (H.zf T ws).2
theorem Lq{T:Nat}{z w:V}{K:fy}(H:en F h ds)(c:w.one=true)(d:∀a,en F a (ev h.next T [w]::ds)->Sn F h F a->K (.ptr h.next 0) a):ik (some (O.cells T 1 true false [z],λl=>V.ptr l 0)) h λv b=>fm (gK 1 v w b) λ_ a=>K v a:=by
 refine zO H λb e f=>?_;obtain⟨a,g,_,i,j⟩:=e.st 0 (o:=0) rfl (by simp) c;rw[g,ei];exact d a i (f.trans j)
theorem zaL{K:fy}(H:en F h ds)(b:∀a,en F a (Qd h.next (λ_=>none)::ds)->Sn F h F a->K (.map h.next) a):ik (some (O.map [] 0,λl=>V.map l)) h K:=by
 rw[fE];exact b _ H.zbS.1 H.zbS.2
theorem Qo(g:CH u az)(hc:XW u.ef xs fa)(hb:Xk u.blocks bs fn)
  (H0:en F h (eR yj hH xs wv::eR vf fQ bs wb::fT ey fa::fT ey fn::eR eZ ey az oT::ev lt Tt [.I u.func,.I u.pc,wv,wb,ws,oT]::eR (eL PO) ml ss ws::fT ey fl::cs))
  (H:∀F' h' l1 T1 l2 l3 l4 T4 lm lb Tb lr Tr num ns aa c,Sn F h F' h'->NbB u az u.blocks.length bs c->ns.length=u.ef.length->(∀v,v<u.ef.length->ns[v]? =some (if v∈fI u (pC az) then(fI u (pC az)).idxOf v else 0))->
   en F' h' (Nx l1 T1 l4 T4 lt Tt num ns [.I u.func,.I u.pc,wv,wb,ws] oT az (Sx fl ss ws lm (λ_=>none) lb Tb lr Tr l4 l1 l3 gY (.I u.func) (.I u.pc) .ee .ee .ee []
    (eR yj hH xs wv::eR vf fQ c wb::fT ey fa::fT ey fn::eR yj hH [] .ee::eR vf fQ [] .ee::ev l2 gY [.I 0,.I 0,.ee,.ee,.ee]::eR eN ey (fI u (pC az)) aa::cs)))->
   lg CS Q [.ptr l1 0,.ptr l2 0,.ptr l3 0,.ptr l4 0,.ptr lr 0,.func fO [] [.ptr lb 0,.ptr l3 0,.ptr l1 0,.ptr lr 0],aa,.I ((fI u (pC az)).length:Nat),.I 0] h') :
  cP CS kM [.ptr lt 0] h Q:=by
 refine Eg rfl rfl ?_;unfold w9;have nv:=g.nv;have nb:=g.nb;have aj:bs.length=u.blocks.length:=by rw[<-hb.fst,CD]
 have ak:xs.length=u.ef.length:=by rw[<-hc.fst,CD]
 have bq:∀{e sz:Nat} {a b:Bool} {cs:List V},O.beq (.cells e sz a b cs) (.cells e sz a b cs)=true:=O.gO _ _ _ _ _;have Y:∀{l o:Nat},ij (.ptr l o)=some (.ptr l o):=fX _ _;have R:∀{l o k:Nat},fH k (.ptr l o)=some (.ptr l (o+k)):=eJ _ _ _;refine Y4 H0 λh1 H1 s1=>zO H1 λh2 Z s2=>?_;generalize h.next=l1 at*;generalize h1.next=l2 at*;refine ed (Z.ld 1 rfl rfl) (ed Y (ed R (oF (Z.ld 7 rfl rfl) (ed (Z.ld 1 rfl rfl) (ed Y (ed R (oF (Z.ld 7 rfl rfl) ?_)))))));refine ed (show _=some (V.agg [.I u.func,.I u.pc,.ee,.ee,.ee]) from rfl) ?_;refine Vg Z λh3 S s3=>?_;generalize h2.next=l3 at*;refine⟨⟨S.get 0 rfl,bq⟩,S.ld 8 rfl rfl,S.ld 2 rfl rfl,S.ld 8 rfl rfl,S.ld 2 rfl rfl,?_⟩;obtain⟨h4,e4,n4,H4,s4⟩:=S.XP 0 (ws:=[.I u.func,.I u.pc,.ee,.ee,.ee]) (n:=5) rfl rfl rfl rfl;rw[e4,ei];simp only[iY]at H4;refine⟨n4,ed (H4.ld 2 rfl rfl) (ed Y (ed R (oF (H4.ld 8 rfl rfl) (ed (H4.len 3 rfl) ?_))))⟩;rw[ak,jQ (z:=V.I 0) rfl (by decide) (by omega),fE];obtain⟨H5,s5⟩:=H4.make (E:=eN) (ty:=ey) (y:=0) (u:=V.I 0) u.ef.length rfl rfl;generalize h4.new (.cells ey 1 true false (List.replicate u.ef.length (V.I 0)))=h5 at*;generalize h4.next=ln at*;refine Lq H5 rfl λh6 T s6=>?_;generalize h5.next=l4 at*;refine ed (T.ld 4 rfl rfl) (ed Y (ed R (oF (T.ld 10 rfl rfl) (ed (T.len 6 rfl) ?_))));rw[aj];have ab:=((((s1.trans s2).trans s3).trans s4).trans s5).trans s6;clear H0 H1 Z S H4 H5 s1 s2 s3 s4 s5 s6 e4 n4;have T:=T.add (p:=eR eN ey [] .ee) .nil λ_ h=>h;obtain⟨A,hA⟩:∃A,pC az=A:=⟨_,rfl⟩
 rw[hA]at H
 refine Bp (λk l h'=>∃(F':Nat->Prop) (i:Nat) (ns:List Nat) (c:List (Bk×V)) (D:V),l=[.ptr l1 0,.ptr l2 0,.ptr l3 0,.ptr l4 0,D,.I u.blocks.length,.I i]/\i+k=u.blocks.length/\Sn F h F' h'/\NbB u az i bs c/\
  ns.length=u.ef.length/\(∀v,v<u.ef.length->ns[v]? =some (if v∈jN u A i 0 then(fI u A).idxOf v else 0))/\
  en F' h' (eR eN ey (jN u A i 0) D::ev l4 _ [.slice ln 0 u.ef.length]::eR eN ey ns (.slice ln 0 u.ef.length)::ev l3 gY [.I u.func,.I u.pc,.ee,.ee,.ee]::ev l2 gY [.I 0,.I 0,.ee,.ee,.ee]::ev l1 _ [.ptr lt 0]::eR yj hH xs wv::eR vf fQ c wb::fT ey fa::fT ey fn::eR eZ ey az oT::ev lt Tt [.I u.func,.I u.pc,wv,wb,ws,oT]::eR (eL PO) ml ss ws::fT ey fl::cs)) ?_ (k:=u.blocks.length)
  ⟨F,0,_,bs,.ee,rfl,by omega,ab,⟨rfl,λb B w G=>by rw[G,if_neg (by omega)]⟩,Pl,λv hv=>by rw[Wb,if_pos hv,Kc,if_neg (by simp)],by rw[Kc];exact T⟩
 clear T ab;rintro k _ _ _ _ D _ _ h7 ⟨F7,i,ns,c,_,⟨⟩,hk,s7,J,q,d,K⟩;unfold tC;by_cases hi:i<u.blocks.length
 ·refine gG ?_;obtain⟨⟨B,wn⟩,U⟩:∃y,bs[i]? =some y:=⟨_,gP (by omega)⟩
  have N:u.blocks[i]? =some B:=by rw[<-hb.fst,zG,U];rfl
  have au:B.ef.length<=u.ef.length:=jK _ _ (Hw g.once N) λv hv=>by
   obtain⟨k,hk⟩:=mK.1 hv;exact g.mb v i k ⟨B,N,hk⟩
  have P:c[i]? =some (B,wn):=by have:=J.row i B wn U;rwa [if_neg (by omega)]at this
  obtain⟨l8,o8,w8,x1,_,⟨bv,bp,rfl,iv,ip,aw⟩,x3⟩:=K.WJ 7 rfl P .i64;have x1:gD 6 wb (.I i)=some (.ptr l8 o8):=x1;refine ed (K.ld 5 rfl rfl) (ed Y (ed R (oF (K.ld 11 rfl rfl) (ed x1 (oF (x3 0 _ rfl) (ed iv.len ?_))))));have K:=K.add (p:=eR eN ey [] .ee) .nil λ_ h=>h
  refine BF (λk' l h'=>∃(j:Nat) (ns:List Nat) (D L:V),l=[.ptr l1 0,.ptr l2 0,.ptr l3 0,.ptr l4 0,D,.I i,L,.I u.blocks.length,.I i,bv,.I B.ef.length,.I j]/\j+k' = B.ef.length/\Sn F h F7 h'/\Sn F7 h7 F7 h'/\
   ns.length=u.ef.length/\(∀v,v<u.ef.length->ns[v]? =some (if v∈jN u A i j then(fI u A).idxOf v else 0))/\
   en F7 h' (eR eN ey (((B.ef.take j).filter (stays A)).map (fI u A).idxOf) L::eR eN ey (jN u A i j) D::ev l4 _ [.slice ln 0 u.ef.length]::eR eN ey ns (.slice ln 0 u.ef.length)::ev l3 gY [.I u.func,.I u.pc,.ee,.ee,.ee]::ev l2 gY [.I 0,.I 0,.ee,.ee,.ee]::ev l1 _ [.ptr lt 0]::eR yj hH xs wv::eR vf fQ c wb::fT ey fa::fT ey fn::eR eZ ey az oT::ev lt Tt [.I u.func,.I u.pc,wv,wb,ws,oT]::eR (eL PO) ml ss ws::fT ey fl::cs)) ?_ (k:=B.ef.length)
   ⟨0,ns,D,.ee,rfl,by omega,s7,Sn.refl _ _,q,d,K⟩
  clear K q d x1 x3;rintro k' _ _ _ _ D _ L _ _ _ _ _ h8 ⟨j,ns,_,_,⟨⟩,ax,s8,W,q,d,t⟩;unfold tK;have lT:(jN u A i j).length<=u.ef.length:=by
   have h1:=(GQ («as»:=A) (j:=j) N).length_le;have h2:=jK u.ef.length (fI u A) (zs g.once) λv hv=>FN g.mb hv;omega
  have ay:((B.ef.take j).filter (stays A)).length<=(jN u A i j).length:=by
   unfold jN;rw[N,y6];exact Nat.le_add_left _ _
  by_cases hj:j<B.ef.length
  ·refine gG ?_;have hx:=gP hj;have ac:=zd hx;generalize B.ef[j]=v at*;have al:=g.mb v i j ⟨B,N,hx⟩;obtain⟨la,oa,_,x1,x2⟩:=(iv.since W).nat hx .i64;obtain⟨a,ha⟩:∃a,az[v]? =some a:=⟨_,gP (by rw[g.len];exact al)⟩
   obtain⟨lb,ob,y1,y2⟩:=t.RD 11 rfl ha .i64;have ae:A v=a:=by rw[<-hA];exact OL ha
   have f:=Kd («as»:=A) N hx;refine ed x1 (ed x2 (ed (t.ld 6 rfl rfl) (oN (t.ld 12 rfl rfl) (ed y1 (ed y2 (gj ?_))))));by_cases e:a=(v:Int)
   ·refine gw e ?_;have s:stays A v=true:=by unfold stays;rw[ae,e];exact beq_self_eq_true _
    rw[if_pos s]at f;obtain⟨ag,aA⟩:=za1 («as»:=A) g.once N hx s;refine ed (t.ld 2 rfl rfl) (ed (t.len 1 rfl) ?_);obtain⟨lc,oc,h9,e1,e2,_,x,s9⟩:=t.Ig 3 rfl (k:=v) (y:=(jN u A i j).length) (u:=V.I ((jN u A i j).length:Nat)) (by omega) rfl rfl rfl;refine ed e1 ?_;rw[e2,ei];simp only[iY,lj]at x;refine ed (x.len 1 rfl) ?_;rw[nR,fE];obtain⟨va,r,am,_,m,I⟩:=x.tU 0 rfl (jM:=8) (BN:=3) (y:=(jN u A i j).length) (w:=hO [(jN u A i j).length]) (ro:=false) rfl (by decide) (by decide) (by simp;omega);have ah:fe 3 1 8 L (.slice h9.next 0 1) (h9.new (.cells 3 1 true false (hO [(jN u A i j).length])))=some (.val va r):=am;rw[ah,ei];simp only[iY,lj]at m;rw[nR,fE];obtain⟨vc,an,ao,_,M,ap⟩:=m.tU 1 rfl (jM:=8) (BN:=3) (y:=v) (w:=hO [v]) (ro:=false) rfl (by decide) (by decide) (by omega);have ai:fe 3 1 8 D (.slice r.next 0 1) (r.new (.cells 3 1 true false (hO [v])))=some (.val vc an):=ao;rw[ai,ei];simp only[iY,lj]at M;refine ry ?_;unfold mM;have sA:=(s9.trans I).trans ap;refine fN ⟨k'-1,by omega,j+1,ns.set v (jN u A i j).length,vc,va,rfl,by omega,s8.trans sA,W.trans sA,by simp[q],λw hw=>?_,?_⟩
    ·rw[f];by_cases e3:w=v
     ·subst e3;rw[EK (by omega),if_pos (by simp),ag]
     ·rw[C8 λh=>e3 h.symm,d w hw];simp[e3]
    ·rw[f,ac,ZG,WC,if_pos s,List.filter_nil,Ji,Sp,SM,ag];exact M
   ·refine gi e (ry ?_);unfold mM;have s:stays A v=false:=by unfold stays;rw[ae];exact MU.2 e
    rw[s]at f;have f:jN u A i (j+1)=jN u A i j:=f;refine fN ⟨k'-1,by omega,j+1,ns,D,L,rfl,by omega,s8,W,q,by rw[f];exact d,?_⟩;rw[f,ac,ZG,WC,s];simpa using t
  refine iI ?_;obtain rfl:j=B.ef.length:=by omega
  rw [Jh]at t;rw[QI N]at d t;obtain⟨x,s9,r9⟩:=t.lO 0 rfl;simp only[iY]at x;have x:=x.tail;generalize (λl=>F7 l\/Loc L l)=F9 at*;have X:=iR.1 P;obtain⟨lq,r,e1,e2,_,m,I⟩:=x.stF 7 rfl (k:=i) (j:=0) (y:=({B with ef:=(B.ef.filter (stays A)).map (fI u A).idxOf},wn)) (a:=L) X.1 (by decide) r9.one (λw' hw=>by
   rw[X.2]at hw;obtain⟨pv,pp,rfl,_,q2,q3⟩:=hw;exact⟨L,pp,rfl,r9,q2,q3⟩)
  have e1:gD 6 wb (.I i)=some (.ptr lq (i*6)):=e1;refine ed (x.ld 5 rfl rfl) (ed Y (ed R (oF (x.ld 11 rfl rfl) (ed e1 (ed R ?_)))));have aq:gK 1 (.ptr lq (i*6+0)) L h8=some (.val .undef r):=e2;rw[aq,ei];simp only[iY,lj]at m;refine fN ⟨k-1,by omega,F9,i+1,ns,_,D,rfl,by omega,(s8.trans s9).trans I,⟨by rw[Mi,J.len],λb C w G=>?_⟩,q,d,m⟩;by_cases e:b=i
  ·subst e;rw[U]at G;cases G;rw[EK X.1,if_pos (by omega),hA]
  ·rw[C8 λh=>e h.symm,J.row b C w G];by_cases e3:b<i
   ·rw[if_pos e3,if_pos (by omega)]
   ·rw[if_neg e3,if_neg (by omega)]
 refine iI ?_;obtain rfl:i=u.blocks.length:=by omega
 rw[RV]at d K;refine zaL K λh8 t s8=>Lq t rfl λh9 x s9=>Lq x rfl λr m I=>?_;generalize h7.next=lm at*;generalize h8.next=lb at*;generalize h9.next=lr at*;refine ed (m.len 3 rfl) ?_;have M:=((m.add (p:=eR (eL PO) ml [] .ee) .nil λ_ h=>h).add (p:=eR yj hH [] .ee) .nil λ_ h=>h).add (p:=eR vf fQ [] .ee) .nil λ_ h=>h;have ar:=M.perm [11,7,17,8,16,19,18,5,4,3,9,2,12,13,14,15,1,0,10,6] 20 (by decide) (by decide) (by simp);exact H _ r l1 _ l2 l3 l4 _ lm lb _ lr _ _ ns _ c (((s7.trans s8).trans s9).trans I) J q d ar
end
