/- Parts. -/
import Derived.Test.YtpnddokajmjpbaaDoorM29
namespace Go.Proofs.YtpnddokajmjpbaaDoor.Hx
open Go.Proofs.YtpnddokajmjpbaaDoor.Un Go.Proofs.YtpnddokajmjpbaaDoor.Dm
def OC (l:Nat)(S:Int->Option V):Pc where
 j5:=λm=>m=l
 ok F h:=(∃a c,h.get l=some (.map a c)/\(∀e∈a,∃k:Int,e.1 = .int .i64 k/\S k=some e.2.1)/\∀k v,S k=some v->∃e∈a,e.1 = .int .i64 k)/\l<h.next/\¬F l
 IP:=λh _ e=>by subst e;exact h.2
 fc:=λ⟨⟨a,c,f,g⟩,d⟩ _ b i=>⟨⟨a,c,(b l rfl).trans f,g⟩,Ac d.1 i,d.2⟩
 mono:=λh _ b=>⟨h.1,h.2.1,b l rfl⟩
theorem HQ (k:Int):∀(a:List (V×V×Nat))(i:Nat),(∀e∈a,∃k:Int,e.1 = .int .i64 k)->
  (oJ en none (.int .i64 k) a i=some none/\∀e∈a,e.1≠ .int .i64 k)\/∃j e,oJ en none (.int .i64 k) a i=some (some (i+j,e.2.1))/\a[j]? =some e/\e.1 = .int .i64 k
 |[],i,_=> .inl ⟨rfl,λ_ h=>by cases h⟩
 | e ::a,i,h=>by
   obtain ⟨k',d⟩:=h e (Sk ..);have b:oJ en none (.int .i64 k) (e::a) i=if k=k' then some (some (i,e.2.1)) else oJ en none (.int .i64 k) a (i+1):=by
     show oB (Jt en none (.int .i64 k) e.1) _=_;rw[d,show Jt en none (V.int .i64 k) (V.int .i64 k')=some (k == k') from Qf _ _];by_cases hk:k=k'
     ·rw[if_pos hk,CN.2 hk];rfl
     ·rw[if_neg hk,Tw.2 hk];rfl
   by_cases hk:k=k'
   ·subst hk
    rw[if_pos rfl]at b;exact .inr ⟨0,e,b,rfl,d⟩
   ·rw[if_neg hk]at b
    rcases HQ k a (i+1) λe c=>h e (Mh _ c)with⟨f,g⟩|⟨j,l,f,g,m⟩
    ·refine .inl ⟨b.trans f,λl c=>?_⟩
     rcases CL.1 c with rfl|c
     ·rw[d];intro n;cases n;exact hk rfl
     ·exact g l c
    ·exact .inr ⟨j+1,l,by rw[b,f];congr 3;omega,g,m⟩
section
variable{F F':Nat->Prop}{h h':Hp}{cs ds:List Pc}{Q:fx}{l:Nat}{S:Int->Option V}
theorem ei.Z9 (H:ei F h cs)(i:Nat)(hi:cs[i]? =some (OC l S))(k:Int)(z:V):Iq en none z true (.map l) (.int .i64 k) h=some (.tuple (match S k with|some v=>[v,.bool true]|none=>[z,.bool false])):=by
 obtain ⟨⟨m,c,p,n,q⟩,_⟩:=H.ok i _ hi;have o:∀r,oJ en none (.int .i64 k) m 0=some r->Iq en none z true (.map l) (.int .i64 k) h=some (found z true r):=λr s=>by
  unfold Iq xh;simp only[p,fh];rw[s];rfl
 rcases HQ k m 0 λe d=>let⟨k,a,_⟩:=n e d;⟨k,a⟩ with⟨f,g⟩|⟨j,e,f,g,t⟩
 ·rw[o _ f]
  cases hS:S k with
  |none=>rfl
  | some v=>
    obtain⟨e,d,u⟩:=q k v hS;exact absurd u (g e d)
 ·rw[o _ f];obtain⟨k',a,b⟩:=n e (xQ g);rw[t]at a;cases a;rw[b];rfl
theorem ei.zbj (H:ei F h cs)(i:Nat)(hi:cs[i]? =some (OC l S)){k:Int}(q:S k=none)(v:V):∃h',GD en none (.map l) (.int .i64 k) v h=some (.val .undef h')/\h.next<=h'.next/\ei F h' (cs.set i (OC l (up S k (some v))))/\Sn F h F h':=by
 obtain⟨⟨f,c,t,m,u⟩,n,x⟩:=H.ok i _ hi;rcases HQ k f 0 λe d=>let⟨k,a,_⟩:=m e d;⟨k,a⟩ with⟨r,s⟩|⟨j,e,r,s,y⟩
 ·have z:Hu en none f c (.int .i64 k) v=some (.map (f++[(.int .i64 k,v,c)]) (c+1)):=by unfold Hu;rw[r];rfl
  refine⟨h.put l (.map (f++[(.int .i64 k,v,c)]) (c+1)),?_,iW _,H.Ad (p:=OC l (up S k (some v))) hi (jZ.put _ rfl n) ⟨⟨_,_,fP _ n,λe d=>?_,λk' w g=>?_⟩,n,x⟩ λ_ h=> .inl h⟩
  ·unfold GD xh;simp only[t,fh,z];rfl
  ·rcases xX.1 d with h|h
   ·obtain⟨k',a,b⟩:=m e h;refine⟨k',a,?_⟩;rw[iz _ _ λo=>by subst o;rw[q]at b;cases b];exact b
   ·obtain rfl:=EB.1 h;exact⟨k,rfl,im _ _ _⟩
  ·by_cases e:k' = k
   ·subst e;exact⟨_,XU _ (EB.2 rfl),rfl⟩
   ·rw[iz _ _ e]at g;obtain⟨e,d,g⟩:=u k' w g;exact⟨e,LC _ d,g⟩
 ·obtain⟨k',a,b⟩:=m e (xQ s);rw[y]at a;cases a;rw[q]at b;cases b
theorem ei.zan (H:ei F h cs):ei F (h.new (.map [] 0)) (OC h.next (λ_=>none)::cs)/\Sn F h F (h.new (.map [] 0)):=
 H.new (p:=OC h.next λ_=>none) _ ⟨⟨[],0,fg _ _,And.intro (λe a=>nomatch a) (λk v b=>nomatch b)⟩,IS _,H.fresh⟩ λ_ e=>e
end
abbrev Nx (l1 T1 l4 T4 lt Tt:Nat) (num:V) (ns:List Nat) (tc:List V) (kU:V) (az:List Int) (ds:List Pc):List Pc:=
 eo l1 T1 [.ptr lt 0]::eo l4 T4 [num]::eo lt Tt (tc++[kU])::eQ eN en ns num::eQ eZ en az kU::ds
def zZ (ns:List Nat)(az:List Int)(v:Nat):Nat:=ns.getD (vm (jQ az) (az.length+1) v) 0
section
variable{F F':Nat->Prop}{h h':Hp}{cs ds:List Pc}{Q:fx}{u:U}{l1 T1 l4 T4 lt Tt:Nat}{num kU:V}{ns:List Nat}{tc:List V}{az:List Int}
theorem F0 (b:ei F h (Nx l1 T1 l4 T4 lt Tt num ns tc kU az ds))(c:tc.length=5)(e:az.length<=3000)(f:ns.length=az.length)(d:∀(v:Nat)(a:Int),az[v]? =some a->a<az.length){v:Nat}(hv:v<az.length)
  (H:∀w q,gD 1 num (.int .i64 (w:Nat))=some q->ev q h=some (.int .i64 (zZ ns az v:Nat))->Q (.int .i64 (w:Nat)) h):cP CS iS [.ptr lt 0,.int .i64 v] h Q:=by
 have g:ev (.ptr lt 5) h=some kU:=b.ld 2 rfl (by rw[Rr (by omega),c];rfl);refine Wh g (b.row 4 rfl).read e d hv λk=>?_;have hx:ns[vm (jQ az) (az.length+1) v]? =some (zZ ns az v):=by
  unfold zZ;rw[E3,gQ (by omega)];rfl
 obtain⟨l,o,i,j⟩:=b.HX 3 rfl hx .i64;exact H _ _ i j
theorem Hs {ι:Type} [DecidableEq ι] {f:ι->Option (List Nat×V)}{i:ι}{xs:List Nat}{w:V}(n:Nat)(I:ei F h (Nx l1 T1 l4 T4 lt Tt num ns tc kU az ds))(t:ds[n]? =some (fJ en f))(hi:f i=some (xs,w))(u:tc.length=5)(N:az.length<=3000)(y:ns.length=az.length)(z:∀(v:Nat)(a:Int),az[v]? =some a->a<az.length)
  (A:∀x∈xs,x<az.length) (O:xs.length<1000000)
  (H:∀h',Sn F h F h'->ei F h' (Nx l1 T1 l4 T4 lt Tt num ns tc kU az (ds.set n (fJ en (up f i (some (xs.map (zZ ns az),w))))))->Q (.tuple []) h') :
  cP CS hY [w,.ptr l4 0,.ptr l1 0] h Q:=by
 refine Bf rfl rfl ?_;unfold sQ;refine ed (I.rows (n+5) t hi).len ?_
 refine yK (λk l h'=>∃(j:Nat) (c:ι->Option (List Nat×V)),l=[w,.ptr l4 0,.ptr l1 0,w,.int .i64 xs.length,.int .i64 j]/\j+k=xs.length/\Sn F h F h'/\c=up f i (some ((xs.take j).map (zZ ns az)++xs.drop j,w))/\ei F h' (Nx l1 T1 l4 T4 lt Tt num ns tc kU az (ds.set n (fJ en c)))) ?_ (k:=xs.length)
  ⟨0,_,rfl,by omega,Sn.refl _ _,rfl,?_⟩
 rotate_left
 ·have e:up f i (some ((xs.take 0).map (zZ ns az)++xs.drop 0,w))=f:=funext λa=>by
   by_cases e:a=i
   ·subst e;rw[im,hi];rfl
   ·rw[iz _ _ e]
  rw [e];have:ds.set n (fJ en f)=ds:=by
   obtain⟨J,B⟩:=iB.1 t;rw[<-B,List.set_getElem_self]
  rw[this];exact I
 rintro k _ _ _ _ _ _ J ⟨j,c,⟨⟩,Z,K,b,g⟩;unfold pA;have C:=(iB.1 t).1;have m:(ds.set n (fJ en c))[n]? =some (fJ en c):=Ct C;have o:c i=some ((xs.take j).map (zZ ns az)++xs.drop j,w):=by rw[b,im]
 by_cases hj:j<xs.length
 ·refine gw ?_;have hx:=gQ hj;have L:((xs.take j).map (zZ ns az)).length=j:=by rw[Fk,FY];omega
  have d:((xs.take j).map (zZ ns az)++xs.drop j)[j]? =some xs[j]:=by
   rw[Rr (by omega),L,Nat.sub_self,Yh hj];rfl
  have p:((xs.take j).map (zZ ns az)++xs.drop j).set j (zZ ns az xs[j])=(xs.take (j+1)).map (zZ ns az)++xs.drop (j+1):=by
   rw[BB hx,EV,Cy,Yh hj,List.set_append_right _ _ (by omega),L,Nat.sub_self];rfl
  have D:j<((xs.take j).map (zZ ns az)++xs.drop j).length:=(iB.1 d).1;have E:=A _ (AO hj);generalize xs[j]=x at*;obtain⟨la,P,_,G,R⟩:=(g.rows (n+5) m o).read.nat d .i64;refine ed G (ed R (ed (g.ld 1 rfl rfl) (ed (g.ld 0 rfl rfl) ?_)));refine F0 g u N y z E λr q S T=>⟨iW _,ed S (ed T (ed G ⟨g.ld 1 rfl rfl,?_⟩))⟩
  obtain⟨l3,U,B,M,W,X,s,Y⟩:=g.VC (n+5) m o D (zZ ns az x);rw[G]at M;obtain⟨rfl,rfl⟩:la=l3/\P=U:=by cases M;exact⟨rfl,rfl⟩
  rw [W,ef];refine⟨X,fM ⟨k-1,by omega,j+1,_,rfl,by omega,K.trans Y,rfl,?_⟩⟩;have s:ei F B (Nx l1 T1 l4 T4 lt Tt num ns tc kU az ((ds.set n (fJ en c)).set n (fJ en (up c i (some (((xs.take j).map (zZ ns az)++xs.drop j).set j (zZ ns az x),w)))))):=s;rw[List.set_set,p,b]at s;have e:up (up f i (some ((xs.take j).map (zZ ns az)++xs.drop j,w))) i (some ((xs.take (j+1)).map (zZ ns az)++xs.drop (j+1),w))=up f i (some ((xs.take (j+1)).map (zZ ns az)++xs.drop (j+1),w)):=funext λa=>by
   by_cases e:a=i
   ·subst e;rw[im,im]
   ·rw[iz _ _ e,iz _ _ e,iz _ _ e]
  rw[e]at s;exact s
 refine iC ?_;obtain rfl:j=xs.length:=by omega
 rw[IT,List.drop_length,Co]at b;subst b;exact H J K g
end
open Go.Proofs.YtpnddokajmjpbaaDoor.Un Go.Proofs.YtpnddokajmjpbaaDoor.Dm
structure WQ (ss:List (List (Fm×V×V))) (nm:Nat->Nat) (b:List Nat) (S:Int->Option V) (fl:KF->Option (List Nat×V)) (c:List (List (Fm×V×V))):Prop where
 map:∀s:Nat,S s=if s∈b then some (.int .i64 (b.idxOf s:Nat)) else none
 out:c=b.map λs=>ss.getD s []
 rows:∀s l k x a w,ss[s]? =some l->l[k]? =some (x,a,w)->fl (s,k,false)=some (if s∈b then x.locals.map nm else x.locals,a)/\fl (s,k,true)=some (if s∈b then x.stack.map nm else x.stack,w)
 nd:b.Nodup
 lt:∀s∈b,s<ss.length
def SY (a:List Nat)(s:Nat):List Nat:=if s∈a then a else a++[s]
section
variable {F F':Nat->Prop} {h h':Hp} {cs ds:List Pc} {Q:fx} {u:U} {l1 T1 l4 T4 lt Tt lm lb Tb lr Tr lo To:Nat} {num kU a0 a1 a2 a3 b0 b1 b2 b3 ws CO:V} {ns:List Nat} {az:List Int} {S:Int->Option V}
 {fl:KF->Option (List Nat×V)} {ss Ym:List (List (Fm×V×V))} {sl:List Nat}
abbrev Sx (fl:KF->Option (List Nat×V)) (ss:List (List (Fm×V×V))) (ws:V) (lm:Nat) (S:Int->Option V) (lb Tb lr Tr l4 l1 lo To:Nat) (b0 b1 b2 b3 CO:V) (a:List (List (Fm×V×V))) (ds:List Pc):List Pc:=
 fJ en fl::eQ (eL Ny) kQ ss ws::OC lm S::eo lb Tb [.map lm]::eo lr Tr [.func hY [] [.ptr l4 0,.ptr l1 0]]::eo lo To [b0,b1,b2,b3,CO]::eQ (eL Ny) kQ a CO::ds
theorem ei.Nj {p:Pc}(H:ei F h (p::cs))(n:Nat)(g:n<=cs.length):ei F h (cs.take n++p::cs.drop n):=by
 have f:(cs.take n).length=n:=by rw[FY];omega
 refine H.re (λi=>if i<n then i+1 else if i=n then 0 else i) (λi c hc=>?_) λi j _ _ e=>?_
 ·by_cases a:i<n
  ·rw[Ns (by omega),VF a]at hc;rw[if_pos a];exact hc
  ·rw [Rr (by omega),f]at hc;rw[if_neg a];by_cases b:i=n
   ·subst b;rw[Nat.sub_self]at hc;rw[if_pos rfl];exact hc
   ·rw[if_neg b];obtain⟨d,rfl⟩:∃d,i=n+d+1:=⟨i-n-1,by omega⟩
    rw[show n+d+1-n=d+1 by omega,O8,Tj]at hc;exact hc
 ·repeat' split at e
  all_goals omega
theorem ei.Ka (H:ei F h cs)(n:Nat)(d:n<=cs.length):ei F h (cs.take n++cs.drop (n+1)):=by
 have b:(cs.take n).length=n:=by rw[FY];omega
 refine H.re (λi=>if i<n then i else i+1) (λi c hc=>?_) λi j _ _ e=>?_
 ·by_cases a:i<n
  ·rw[Ns (by omega),VF a]at hc;rw[if_pos a];exact hc
  ·rw[Rr (by omega),b,Tj]at hc;rw[if_neg a,<-hc];congr 1;omega
 ·repeat' split at e
  all_goals omega
theorem ei.zbu {α:Type}{E:nQ α}{ty:Nat}{xs:List α}{v:V}(H:ei F h cs)(i:Nat)(hi:cs[i]? =some (eQ E ty xs v)){k n l o:Nat}{kd:IntKind}(a:k<xs.length)(e:gD n v (.int kd (k:Nat))=some (.ptr l o)):l<h.next:=by
 rcases H.row i hi with⟨_,rfl⟩|⟨t,ws,rfl,b,_⟩
 ·exact absurd a (Y5 _)
 ·rw[vL _ _ _ _ _ _ a]at e;cases e;exact b
theorem L8 (C:ei F h (Nx l1 T1 l4 T4 lt Tt num ns [a0,a1,a2,a3,ws] kU az (Sx fl ss ws lm S lb Tb lr Tr l4 l1 lo To b0 b1 b2 b3 CO Ym ds)))(c:WQ ss (zZ ns az) sl S fl Ym)(hn:az.length<=3000)(P:ns.length=az.length)(R:∀(v:Nat)(a:Int),az[v]? =some a->a<az.length)
  {s:Nat} {l:List (Fm×V×V)} (hs:ss[s]? =some l) (au:ss.length<=1000) (aw:l.length<=1000) (ah:∀y∈l,y.1.locals.length<=1000/\y.1.stack.length<=1000/\(∀v∈y.1.locals,v<az.length)/\∀v∈y.1.stack,v<az.length)
  (H:∀h' d S' r f,Sn F h F h'->WQ ss (zZ ns az) (SY sl s) S' d r->ei F h' (Nx l1 T1 l4 T4 lt Tt num ns [a0,a1,a2,a3,ws] kU az (Sx d ss ws lm S' lb Tb lr Tr l4 l1 lo To b0 b1 b2 b3 f r ds))->Q (.int .i64 ((SY sl s).idxOf s:Nat)) h') :
  cP CS fF [.int .i64 s,.ptr lb 0,.ptr lo 0,.ptr l1 0,.ptr lr 0] h Q:=by
 refine A8 rfl rfl ?_;unfold tF;refine ed (C.ld 8 rfl rfl) (ed (C.Z9 7 rfl s _) ?_);rw[c.map s];have T:s<ss.length:=(iB.1 hs).1;by_cases hm:s∈sl
 ·rw[if_pos hm];refine ed (BJ 0 _) (ed (BJ 1 _) (pj (ig rfl ?_)));refine pQ ?_;unfold lT;have ha:SY sl s=sl:=if_pos hm;rw[ha]at H;exact H h fl S Ym CO (Sn.refl _ _) c C
 rw [if_neg hm];have ha:SY sl s=sl++[s]:=if_neg hm;rw[ha]at H;have A:(sl++[s]).idxOf s=sl.length:=by
  rw[ZJ,if_neg hm];simp
 rw[A]at H;have U:Ym.length=sl.length:=by rw[c.out,Fk]
 have ar:sl.length<=ss.length:=jy _ _ c.nd c.lt;refine ed (BJ 0 _) (ed (BJ 1 _) (pj (gG (by simp) ?_)));refine oF (C.ld 10 rfl rfl) (ed (C.len 11 rfl) (ed (C.ld 8 rfl rfl) ?_));rw[U];obtain⟨m,e1,_,L,s1⟩:=C.zbj 7 rfl (k:=(s:Int)) (by rw[c.map s,if_neg hm]) (.int .i64 sl.length);have ai:GD 3 none (.map lm) (.int .i64 s) (.int .i64 sl.length) h=some (.val .undef m):=e1;rw[ai,ef];simp only[iO,kZ]at L;obtain⟨lx,W,wx,q,X,⟨wf,rfl,xf⟩,Y⟩:=L.Vw 6 rfl hs .i64;have q:gD 1 ws (.int .i64 s)=some (.ptr lx W):=q;have Y:ev (.ptr lx (W+0)) m=some wf:=Y 0 wf rfl;refine ed (L.ld 0 rfl rfl) (ed (fT _ _) (ed (ez _ _ _) (oF (L.ld 2 rfl rfl) (ed q (oF Y (ed xf.len ?_))))))
 refine yC (λk l' h'=>∃(j:Nat) (d:KF->Option (List Nat×V)),l' = [.int .i64 s,.ptr lo 0,.ptr l1 0,.ptr lr 0,.int .i64 sl.length,wf,.int .i64 l.length,.int .i64 j]/\j+k=l.length/\Sn F m F h'/\
  (∀t k b,t≠s->d (t,k,b)=fl (t,k,b))/\(∀k x a w,l[k]? =some (x,a,w)->d (s,k,false)=some (if k<j then x.locals.map (zZ ns az) else x.locals,a)/\d (s,k,true)=some (if k<j then x.stack.map (zZ ns az) else x.stack,w))/\
  ei F h' (Nx l1 T1 l4 T4 lt Tt num ns [a0,a1,a2,a3,ws] kU az (Sx d ss ws lm (up S s (some (.int .i64 sl.length))) lb Tb lr Tr l4 l1 lo To b0 b1 b2 b3 CO Ym ds))) ?_ (k:=l.length)
  ⟨0,fl,rfl,by omega,Sn.refl _ _,λ_ _ _ _=>rfl,λk x a w A=>?_,L⟩
 rotate_left
 ·have:=c.rows s l k x a w hs A;rw[if_neg hm,if_neg hm]at this;rw[if_neg (by omega),if_neg (by omega)];exact this
 clear L q Y;rintro k _ _ _ _ _ _ _ _ D ⟨j,d,⟨⟩,ax,s2,E,G,B⟩;unfold pD;have aj:=xf.since s2;by_cases hj:j<l.length
 ·refine gw ?_;have hy:=gQ hj;obtain⟨Z,aa,I,J⟩:=ah _ (AO hj);obtain⟨ly,oy,wy,_,y1,y2,y3,_⟩:=aj.ix hj .i64;obtain⟨⟨x,a,w⟩,ak⟩:∃y,l[j]=y:=⟨_,rfl⟩
  rw[ak]at hy y3 Z aa I J;dsimp only at Z aa I J;obtain⟨rfl,y4,y5⟩:=y3;have y1:gD 4 wf (.int .i64 j)=some (.ptr ly oy):=y1;refine ed y1 (ed y2 ?_);refine iK B rfl rfl (by simp only[Nr,eJ,y4,y5];rfl) λh3 n s3=>?_;generalize D.next=lf at*;have n:ei F h3 (Nx l1 T1 l4 T4 lt Tt num ns [a0,a1,a2,a3,ws] kU az (Sx d ss ws lm (up S s (some (.int .i64 sl.length))) lb Tb lr Tr l4 l1 lo To b0 b1 b2 b3 CO Ym (eo lf 40 (Nr x a w)::ds))):=n.Nj 12 (by simp);obtain⟨ab,ac⟩:=G j x a w hy;rw[if_neg (by omega)]at ab ac;refine ed (n.ld 9 rfl rfl) (oF (n.ld 12 rfl rfl) ?_);show cP CS hY [a,.ptr l4 0,.ptr l1 0] h3 _;refine Hs 0 n rfl ab rfl hn P R I (by omega) λM s4 p=>?_;simp only[iO]at p;have p:ei F M (Nx l1 T1 l4 T4 lt Tt num ns [a0,a1,a2,a3,ws] kU az (Sx (up d (s,j,false) (some (x.locals.map (zZ ns az),a))) ss ws lm (up S s (some (.int .i64 sl.length))) lb Tb lr Tr l4 l1 lo To b0 b1 b2 b3 CO Ym (eo lf 40 (Nr x a w)::ds))):=p;refine ed (p.ld 9 rfl rfl) (oF (p.ld 12 rfl rfl) ?_);show cP CS hY [w,.ptr l4 0,.ptr l1 0] M _;refine Hs 0 p rfl (i:=(s,j,true)) (by rw[iz _ _ (by simp)];exact ac) rfl hn P R J (by omega) λh5 s5 H5=>?_;simp only[iO]at H5;refine fM ⟨k-1,by omega,j+1,_,rfl,by omega,((s2.trans s3).trans s4).trans s5,λt k b ht=>?_,λk z b c A=>?_,H5.Ka 12 (by simp)⟩
  ·rw[iz _ _ (by simp[ht]),iz _ _ (by simp[ht])];exact E t k b ht
  ·by_cases e:k=j
   ·subst e;rw[hy]at A;cases A;rw[if_pos (by omega),if_pos (by omega)];exact⟨by rw[iz _ _ (by simp),im],im _ _ _⟩
   ·rw[iz _ _ (by simp),iz _ _ (by simp[e]),iz _ _ (by simp[e]),iz _ _ (by simp)];have:=G k z b c A;by_cases N:k<j
    ·rw[if_pos N,if_pos N]at this;rw[if_pos (by omega),if_pos (by omega)];exact this
    ·rw[if_neg N,if_neg N]at this;rw[if_neg (by omega),if_neg (by omega)];exact this
 refine iC ?_;obtain rfl:j=l.length:=by omega
 obtain⟨lx,W,wx,q,X,⟨g,rfl,ae⟩,Y⟩:=B.Vw 6 rfl hs .i64;have q:gD 1 ws (.int .i64 s)=some (.ptr lx W):=q;have X:gg 1 (.ptr lx W) D=some (.agg [g]):=X;refine oF (B.ld 10 rfl rfl) (ed (B.ld 0 rfl rfl) (ed (fT _ _) (ed (ez _ _ _) (oF (B.ld 2 rfl rfl) (ed q (ed X ?_))))));have bq:∀{e sz:Nat} {a b:Bool} {cs:List V},O.beq (.cells e sz a b cs) (.cells e sz a b cs)=true:=O.gL _ _ _ _ _;rw[mq (sz:=1) (w:=[g]) rfl rfl (by simp only[eJ,ae.one];rfl),gY];have n:ei F (D.new (.cells 38 1 true false [g])) (eo D.next 38 [g]::_):=(B.yP kQ [g]).1;obtain⟨f,M,e4,n4,p,s4⟩:=B.vF 11 rfl (jr:=24) (zF:=38) (y:=l) (w:=[g]) (ro:=false) ⟨g,rfl,ae⟩ (by decide) (by decide) (by omega);have al:eR 38 1 24 CO (.slice D.next 0 1) (D.new (.cells 38 1 true false [g]))=some (.val f M):=e4;have am:=B.zbu 6 rfl T q;have an:=HT X (fk (.cells 38 1 true false [g]) am);refine⟨⟨n.get 0 rfl,bq⟩,an,n.ld 3 rfl rfl,n.ld 1 rfl rfl,n.ld 11 rfl rfl,?_⟩;rw[al,ef];simp only[iO,kZ]at p;obtain⟨h5,e5,n5,H5,s5⟩:=p.st 10 (o:=4) (u:=f) rfl (by simp) (p.one 11 rfl);refine⟨by show D.next+1<=M.next;exact n4,ed (ez _ _ _) ?_⟩;have ao:gB 1 (.ptr lo (0+4)) f M=some (.val .undef h5):=by rw[vI];exact e5
 rw[ao,ef];simp only[iO,kZ]at H5;refine⟨n5,pQ ?_⟩;unfold lT;have ap:ss.getD s []=l:=by rw[E3,hs];rfl
 refine H h5 d (up S s (some (.int .i64 sl.length))) (Ym++[l]) f (((s1.trans s2).trans s4).trans s5) ⟨λt=>?_,by rw[c.out,EV,PW,Qz,ap],λt l' k x a w ht K=>?_,?_,λt ht=>?_⟩ H5
 ·by_cases e:t=s
  ·subst e;rw[im,if_pos (by simp),A]
  ·rw[iz _ _ (by omega),c.map t];by_cases m:t∈sl
   ·rw[if_pos m,if_pos (LC _ m),ZJ,if_pos m]
   ·rw[if_neg m,if_neg (by simp[m,e])]
 ·by_cases e:t=s
  ·subst e;rw[hs]at ht;cases ht;have:=G k x a w K;have ag:=(iB.1 K).1;rw[if_pos ag,if_pos ag]at this;rw[if_pos (by simp),if_pos (by simp)];exact this
  ·rw[E t k false e,E t k true e];have:=c.rows t l' k x a w ht K;have N:(t∈sl++[s])=(t∈sl):=by simp[e]
   simp only[N];exact this
 ·rw [Qh];exact⟨c.nd,by simp,λa aq b hb=>by
   rw[EB]at hb;subst hb;exact λe=>hm (e▸aq)⟩
 ·rcases xX.1 ht with m|m
  ·exact c.lt t m
  ·obtain rfl:=EB.1 m;exact T
end
open Go.Proofs.YtpnddokajmjpbaaDoor.Un Go.Proofs.YtpnddokajmjpbaaDoor.Dm
section
variable{F F':Nat->Prop}{h h':Hp}{cs ds:List Pc}{Q:fx}{u:U}
theorem X0 (cs:List Pc):∀(a:List Nat),(∀m∈a,m<cs.length)->(a.filterMap λm=>cs[m]?).length=a.length/\∀i:Nat,(a.filterMap λm=>cs[m]?)[i]? = (a[i]?).bind λm=>cs[m]?
 |[],_=>⟨rfl,λ_=>by simp⟩
 | m::a,hm=>by
   obtain⟨b,c⟩:=X0 cs a λk d=>hm k (Mh _ d);have e:=gQ (hm m (Sk ..));rw[List.filterMap_cons_some e];refine⟨by rw[CM,CM,b],λi=>?_⟩
   cases i with
   |zero=>exact e.symm
   |succ i=>rw[O8,O8];exact c i
theorem ei.perm (H:ei F h cs)(b:List Nat)(k:Nat)(d:∀m∈b,m<k)(f:b.Nodup)(l:k<=cs.length):ei F h ((b.filterMap λm=>cs[m]?)++cs.drop k):=by
 obtain⟨n,o⟩:=X0 cs b λm h=>Ac (d m h) l;refine H.re (λi=>if i<b.length then b.getD i 0 else k+(i-b.length)) (λi c hc=>?_) λi j _ _ e=>?_
 ·by_cases hi:i<b.length
  ·rw[Ns (by omega),o,gQ hi]at hc;rw[if_pos hi,E3,gQ hi];exact hc
  ·rw[Rr (by omega),n,Tj]at hc;rw[if_neg hi];exact hc
 ·have g:∀i,i<b.length->b.getD i 0<k/\b[i]? =some (b.getD i 0):=λi hi=>by
   rw[E3,gQ hi];exact⟨d _ (AO hi),rfl⟩
  by_cases hi:i<b.length
  ·rw[if_pos hi]at e;by_cases hj:j<b.length
   ·rw[if_pos hj]at e;have a:=(g i hi).2;rw[e]at a;exact p7 f a (g j hj).2
   ·rw[if_neg hj]at e;have:=(g i hi).1;omega
  ·rw[if_neg hi]at e;by_cases hj:j<b.length
   ·rw[if_pos hj]at e;have:=(g j hj).1;omega
   ·rw[if_neg hj]at e;omega
end
structure Ca (u:U) (az:List Int):Prop where
 nv:u.ee.length<=3000
 nb:u.blocks.length<=300
 ns:u.eh.length<=1000
 once:XC u
 l0:∀(v b k:Nat),At u v b k->v<u.ee.length
 len:az.length=u.ee.length
 sub:∀(v:Nat) (a:Int),az[v]? =some a->a<az.length
 parts:∀(v:Nat) (x:Vl),u.ee[v]? =some x->x.args.length<=700/\(uD x.op=true\/two x.op=true->x.a<u.ee.length)/\(two x.op=true->x.b<u.ee.length)/\(x.op=21\/x.op=20->∀w∈x.args,w<u.ee.length)/\(leaves x.op=true->x.state<u.eh.length)
 ends:∀(b:Nat) (B:Bk),u.blocks[b]? =some B->(B.fin=2->B.cond<u.ee.length)/\(B.fin=3->B.state<u.eh.length)
 st:∀(s:Nat) (fs:List Fm),u.eh[s]? =some fs->fs.length<=1000/\∀f∈fs,f.locals.length<=1000/\f.stack.length<=1000/\(∀v∈f.locals,v<u.ee.length)/\∀v∈f.stack,v<u.ee.length
structure NbB (u:U) (az:List Int) (i:Nat) (bs a:List (Bk×V)):Prop where
 len:a.length=bs.length
 row:∀(b:Nat) (B:Bk) (w:V),bs[b]? =some (B,w)->a[b]? =some (if b<i then{B with ee:=(B.ee.filter (stays (jQ az))).map (fR u (jQ az)).idxOf} else B,w)
section
variable{F F':Nat->Prop}{h h':Hp}{cs ds:List Pc}{Q:fx}{u:U}{wv wb ws kU:V}{lt Tt:Nat}{az:List Int}{xs:List (Vl×V)}{bs:List (Bk×V)}{fa fn:Nat->Option (List Nat×V)}{ss:List (List (Fm×V×V))}{fl:KF->Option (List Nat×V)}
theorem V4 {T l o:Nat}{K:fx}(H:ei F h ds)(b:∀a,ei F a (eo h.next T [.ptr l o]::ds)->Sn F h F a->K (.ptr h.next 0) a):ij (nP T (.ptr l o)) h K:=by
 rw[show nP T (.ptr l o)=some (.cells T 1 true false [.ptr l o],λl=> .ptr l 0) from rfl,fq];exact b _ (H.yP T _).1 (H.yP T [.ptr l o]).2
theorem yV {T:Nat}{ws:List V}{K:fx}(H:ei F h ds)(b:∀a,ei F a (eo h.next T ws::ds)->Sn F h F a->K (.ptr h.next 0) a):ij (some (O.cells T 1 true false ws,λl=>V.ptr l 0)) h K:=by
 rw[fq];exact b _ (H.yP T _).1 (H.yP T ws).2
theorem SS {T:Nat}{ws:List V}{K:O->fx}(H:ei F h ds)(b:∀a,ei F a (eo h.next T ws::ds)->Sn F h F a->K (.cells T 1 true false ws) (.ptr h.next 0) a):wS (some (O.cells T 1 true false ws,λl=>V.ptr l 0)) h K:=by
 rw[gY];exact b _ (H.yP T _).1 (H.yP T ws).2
theorem Xh {T:Nat}{ws:List V}{K:O->fx}(H:ei F h ds)(a:fV ws=true)(b:ei F (h.new (.cells T 1 true false ws)) (eo h.next T ws::ds)->Sn F h F (h.new (.cells T 1 true false ws))->K (.cells T 1 true false ws) (.ptr h.next 0) (h.new (.cells T 1 true false ws))):wS (nP T (.agg ws)) h K:=by
 rw[Cc a,gY];exact b (H.yP T _).1 (H.yP T ws).2
theorem KN {T:Nat}{z w:V}{K:fx}(H:ei F h ds)(c:w.one=true)(d:∀a,ei F a (eo h.next T [w]::ds)->Sn F h F a->K (.ptr h.next 0) a):ij (some (O.cells T 1 true false [z],λl=>V.ptr l 0)) h λv b=>fm (gB 1 v w b) λ_ a=>K v a:=by
 refine yV H λb e f=>?_;obtain⟨a,g,_,i,j⟩:=e.st 0 (o:=0) rfl (by simp) c;rw[g,ef];exact d a i (f.trans j)
theorem YK {K:fx}(H:ei F h ds)(b:∀a,ei F a (OC h.next (λ_=>none)::ds)->Sn F h F a->K (.map h.next) a):ij (some (O.map [] 0,λl=>V.map l)) h K:=by
 rw[fq];exact b _ H.zan.1 H.zan.2
theorem OV (g:Ca u az)(hc:TK u.ee xs fa)(hb:Tq u.blocks bs fn)
  (H0:ei F h (eQ vW gy xs wv::eQ tO fE bs wb::fJ en fa::fJ en fn::eQ eZ en az kU::eo lt Tt [.int .i64 u.func,.int .i64 u.pc,wv,wb,ws,kU]::eQ (eL Ny) kQ ss ws::fJ en fl::cs))
  (H:∀F' h' l1 T1 l2 l3 l4 T4 lm lb Tb lr Tr num ns aa c,Sn F h F' h'->NbB u az u.blocks.length bs c->ns.length=u.ee.length->(∀v,v<u.ee.length->ns[v]? =some (if v∈fR u (jQ az) then(fR u (jQ az)).idxOf v else 0))->
   ei F' h' (Nx l1 T1 l4 T4 lt Tt num ns [.int .i64 u.func,.int .i64 u.pc,wv,wb,ws] kU az (Sx fl ss ws lm (λ_=>none) lb Tb lr Tr l4 l1 l3 gj (.int .i64 u.func) (.int .i64 u.pc) .ec .ec .ec []
    (eQ vW gy xs wv::eQ tO fE c wb::fJ en fa::fJ en fn::eQ vW gy [] .ec::eQ tO fE [] .ec::eo l2 gj [.int .i64 0,.int .i64 0,.ec,.ec,.ec]::eQ eN en (fR u (jQ az)) aa::cs)))->
   kF CS Q [.ptr l1 0,.ptr l2 0,.ptr l3 0,.ptr l4 0,.ptr lr 0,.func fF [] [.ptr lb 0,.ptr l3 0,.ptr l1 0,.ptr lr 0],aa,.int .i64 ((fR u (jQ az)).length:Nat),.int .i64 0] h') :
  cP CS jY [.ptr lt 0] h Q:=by
 refine Cw rfl rfl ?_;unfold vf;have nv:=g.nv;have nb:=g.nb;have aj:bs.length=u.blocks.length:=by rw[<-hb.fst,Fk]
 have ak:xs.length=u.ee.length:=by rw[<-hc.fst,Fk]
 have bq:∀{e sz:Nat} {a b:Bool} {cs:List V},O.beq (.cells e sz a b cs) (.cells e sz a b cs)=true:=O.gL _ _ _ _ _;have Y:∀{l o:Nat},iq (.ptr l o)=some (.ptr l o):=fT _ _;have R:∀{l o k:Nat},fH k (.ptr l o)=some (.ptr l (o+k)):=ez _ _ _;refine V4 H0 λh1 H1 s1=>yV H1 λh2 Z s2=>?_;generalize h.next=l1 at*;generalize h1.next=l2 at*;refine ed (Z.ld 1 rfl rfl) (ed Y (ed R (oF (Z.ld 7 rfl rfl) (ed (Z.ld 1 rfl rfl) (ed Y (ed R (oF (Z.ld 7 rfl rfl) ?_)))))));refine ed (show _=some (V.agg [.int .i64 u.func,.int .i64 u.pc,.ec,.ec,.ec]) from rfl) ?_;refine SS Z λh3 S s3=>?_;generalize h2.next=l3 at*;refine⟨⟨S.get 0 rfl,bq⟩,S.ld 8 rfl rfl,S.ld 2 rfl rfl,S.ld 8 rfl rfl,S.ld 2 rfl rfl,?_⟩;obtain⟨h4,e4,n4,H4,s4⟩:=S.VI 0 (ws:=[.int .i64 u.func,.int .i64 u.pc,.ec,.ec,.ec]) (n:=5) rfl rfl rfl rfl;rw[e4,ef];simp only[iO]at H4;refine⟨n4,ed (H4.ld 2 rfl rfl) (ed Y (ed R (oF (H4.ld 8 rfl rfl) (ed (H4.len 3 rfl) ?_))))⟩;rw[ak,jk (z:=V.int .i64 0) rfl (by decide) (by omega),fq];obtain⟨H5,s5⟩:=H4.make (E:=eN) (ty:=en) (y:=0) (u:=V.int .i64 0) u.ee.length rfl rfl;generalize h4.new (.cells en 1 true false (List.replicate u.ee.length (V.int .i64 0)))=h5 at*;generalize h4.next=ln at*;refine KN H5 rfl λh6 T s6=>?_;generalize h5.next=l4 at*;refine ed (T.ld 4 rfl rfl) (ed Y (ed R (oF (T.ld 10 rfl rfl) (ed (T.len 6 rfl) ?_))));rw[aj];have ab:=((((s1.trans s2).trans s3).trans s4).trans s5).trans s6;clear H0 H1 Z S H4 H5 s1 s2 s3 s4 s5 s6 e4 n4;have T:=T.add (p:=eQ eN en [] .ec) .nil λ_ h=>h;obtain⟨A,hA⟩:∃A,jQ az=A:=⟨_,rfl⟩
 rw[hA]at H
 refine AI (λk l h'=>∃(F':Nat->Prop) (i:Nat) (ns:List Nat) (c:List (Bk×V)) (D:V),l=[.ptr l1 0,.ptr l2 0,.ptr l3 0,.ptr l4 0,D,.int .i64 u.blocks.length,.int .i64 i]/\i+k=u.blocks.length/\Sn F h F' h'/\NbB u az i bs c/\
  ns.length=u.ee.length/\(∀v,v<u.ee.length->ns[v]? =some (if v∈ju u A i 0 then(fR u A).idxOf v else 0))/\
  ei F' h' (eQ eN en (ju u A i 0) D::eo l4 _ [.slice ln 0 u.ee.length]::eQ eN en ns (.slice ln 0 u.ee.length)::eo l3 gj [.int .i64 u.func,.int .i64 u.pc,.ec,.ec,.ec]::eo l2 gj [.int .i64 0,.int .i64 0,.ec,.ec,.ec]::eo l1 _ [.ptr lt 0]::eQ vW gy xs wv::eQ tO fE c wb::fJ en fa::fJ en fn::eQ eZ en az kU::eo lt Tt [.int .i64 u.func,.int .i64 u.pc,wv,wb,ws,kU]::eQ (eL Ny) kQ ss ws::fJ en fl::cs)) ?_ (k:=u.blocks.length)
  ⟨F,0,_,bs,.ec,rfl,by omega,ab,⟨rfl,λb B w G=>by rw[G,if_neg (by omega)]⟩,Nt,λv hv=>by rw[VX,if_pos hv,IK,if_neg (by simp)],by rw[IK];exact T⟩
 clear T ab;rintro k _ _ _ _ D _ _ h7 ⟨F7,i,ns,c,_,⟨⟩,hk,s7,J,q,d,K⟩;unfold rS;by_cases hi:i<u.blocks.length
 ·refine gw ?_;obtain⟨⟨B,wn⟩,U⟩:∃y,bs[i]? =some y:=⟨_,gQ (by omega)⟩
  have N:u.blocks[i]? =some B:=by rw[<-hb.fst,wq,U];rfl
  have au:B.ee.length<=u.ee.length:=jy _ _ (Fz g.once N) λv hv=>by
   obtain⟨k,hk⟩:=mA.1 hv;exact g.l0 v i k ⟨B,N,hk⟩
  have P:c[i]? =some (B,wn):=by have:=J.row i B wn U;rwa [if_neg (by omega)]at this
  obtain⟨l8,o8,w8,x1,_,⟨bv,bp,rfl,iv,ip,aw⟩,x3⟩:=K.Vw 7 rfl P .i64;have x1:gD 6 wb (.int .i64 i)=some (.ptr l8 o8):=x1;refine ed (K.ld 5 rfl rfl) (ed Y (ed R (oF (K.ld 11 rfl rfl) (ed x1 (oF (x3 0 _ rfl) (ed iv.len ?_))))));have K:=K.add (p:=eQ eN en [] .ec) .nil λ_ h=>h
  refine Al (λk' l h'=>∃(j:Nat) (ns:List Nat) (D L:V),l=[.ptr l1 0,.ptr l2 0,.ptr l3 0,.ptr l4 0,D,.int .i64 i,L,.int .i64 u.blocks.length,.int .i64 i,bv,.int .i64 B.ee.length,.int .i64 j]/\j+k' = B.ee.length/\Sn F h F7 h'/\Sn F7 h7 F7 h'/\
   ns.length=u.ee.length/\(∀v,v<u.ee.length->ns[v]? =some (if v∈ju u A i j then(fR u A).idxOf v else 0))/\
   ei F7 h' (eQ eN en (((B.ee.take j).filter (stays A)).map (fR u A).idxOf) L::eQ eN en (ju u A i j) D::eo l4 _ [.slice ln 0 u.ee.length]::eQ eN en ns (.slice ln 0 u.ee.length)::eo l3 gj [.int .i64 u.func,.int .i64 u.pc,.ec,.ec,.ec]::eo l2 gj [.int .i64 0,.int .i64 0,.ec,.ec,.ec]::eo l1 _ [.ptr lt 0]::eQ vW gy xs wv::eQ tO fE c wb::fJ en fa::fJ en fn::eQ eZ en az kU::eo lt Tt [.int .i64 u.func,.int .i64 u.pc,wv,wb,ws,kU]::eQ (eL Ny) kQ ss ws::fJ en fl::cs)) ?_ (k:=B.ee.length)
   ⟨0,ns,D,.ec,rfl,by omega,s7,Sn.refl _ _,q,d,K⟩
  clear K q d x1 x3;rintro k' _ _ _ _ D _ L _ _ _ _ _ h8 ⟨j,ns,_,_,⟨⟩,ax,s8,W,q,d,t⟩;unfold se;have ay:(ju u A i j).length<=u.ee.length:=by
   have h1:=(EK («as»:=A) (j:=j) N).length_le;have h2:=jy u.ee.length (fR u A) (yg g.once) λv hv=>En g.l0 hv;omega
  have aA:((B.ee.take j).filter (stays A)).length<=(ju u A i j).length:=by
   unfold ju;rw[N,zL];exact Nat.le_add_left _ _
  by_cases hj:j<B.ee.length
  ·refine gw ?_;have hx:=gQ hj;have ac:=BB hx;generalize B.ee[j]=v at*;have al:=g.l0 v i j ⟨B,N,hx⟩;obtain⟨la,oa,_,x1,x2⟩:=(iv.since W).nat hx .i64;obtain⟨a,ha⟩:∃a,az[v]? =some a:=⟨_,gQ (by rw[g.len];exact al)⟩
   obtain⟨lb,ob,y1,y2⟩:=t.M9 11 rfl ha .i64;have ae:A v=a:=by rw[<-hA];exact Fb ha
   have f:=IJ («as»:=A) N hx;refine ed x1 (ed x2 (ed (t.ld 6 rfl rfl) (oN (t.ld 12 rfl rfl) (ed y1 (ed y2 (gO ?_))))));by_cases e:a=(v:Int)
   ·refine ig e ?_;have s:stays A v=true:=by unfold stays;rw[ae,e];exact beq_self_eq_true _
    rw[if_pos s]at f;obtain⟨ag,aB⟩:=YC («as»:=A) g.once N hx s;refine ed (t.ld 2 rfl rfl) (ed (t.len 1 rfl) ?_);obtain⟨lc,oc,h9,e1,e2,_,x,s9⟩:=t.G7 3 rfl (k:=v) (y:=(ju u A i j).length) (u:=V.int .i64 ((ju u A i j).length:Nat)) (by omega) rfl rfl rfl;refine ed e1 ?_;rw[e2,ef];simp only[iO,kZ]at x;refine ed (x.len 1 rfl) ?_;rw[oI,fq];obtain⟨va,r,am,_,m,I⟩:=x.vF 0 rfl (jr:=8) (zF:=3) (y:=(ju u A i j).length) (w:=gN [(ju u A i j).length]) (ro:=false) rfl (by decide) (by decide) (by simp;omega);have ah:eR 3 1 8 L (.slice h9.next 0 1) (h9.new (.cells 3 1 true false (gN [(ju u A i j).length])))=some (.val va r):=am;rw[ah,ef];simp only[iO,kZ]at m;rw[oI,fq];obtain⟨vc,an,ao,_,M,ap⟩:=m.vF 1 rfl (jr:=8) (zF:=3) (y:=v) (w:=gN [v]) (ro:=false) rfl (by decide) (by decide) (by omega);have ai:eR 3 1 8 D (.slice r.next 0 1) (r.new (.cells 3 1 true false (gN [v])))=some (.val vc an):=ao;rw[ai,ef];simp only[iO,kZ]at M;refine qx ?_;unfold me;have sA:=(s9.trans I).trans ap;refine fM ⟨k'-1,by omega,j+1,ns.set v (ju u A i j).length,vc,va,rfl,by omega,s8.trans sA,W.trans sA,by simp[q],λw hw=>?_,?_⟩
    ·rw[f];by_cases e3:w=v
     ·subst e3;rw[Ct (by omega),if_pos (by simp),ag]
     ·rw[AR λh=>e3 h.symm,d w hw];simp[e3]
    ·rw[f,ac,Ws,T7,if_pos s,List.filter_nil,EV,PW,Qz,ag];exact M
   ·refine gG e (qx ?_);unfold me;have s:stays A v=false:=by unfold stays;rw[ae];exact Tw.2 e
    rw[s]at f;have f:ju u A i (j+1)=ju u A i j:=f;refine fM ⟨k'-1,by omega,j+1,ns,D,L,rfl,by omega,s8,W,q,by rw[f];exact d,?_⟩;rw[f,ac,Ws,T7,s];simpa using t
  refine iC ?_;obtain rfl:j=B.ee.length:=by omega
  rw [IT]at t;rw[OY N]at d t;obtain⟨x,s9,r9⟩:=t.kE 0 rfl;simp only[iO]at x;have x:=x.tail;generalize (λl=>F7 l\/Loc L l)=F9 at*;have X:=iB.1 P;obtain⟨lq,r,e1,e2,_,m,I⟩:=x.stF 7 rfl (k:=i) (j:=0) (y:=({B with ee:=(B.ee.filter (stays A)).map (fR u A).idxOf},wn)) (a:=L) X.1 (by decide) r9.one (λw' hw=>by
   rw[X.2]at hw;obtain⟨pv,pp,rfl,_,q2,q3⟩:=hw;exact⟨L,pp,rfl,r9,q2,q3⟩)
  have e1:gD 6 wb (.int .i64 i)=some (.ptr lq (i*6)):=e1;refine ed (x.ld 5 rfl rfl) (ed Y (ed R (oF (x.ld 11 rfl rfl) (ed e1 (ed R ?_)))));have aq:gB 1 (.ptr lq (i*6+0)) L h8=some (.val .undef r):=e2;rw[aq,ef];simp only[iO,kZ]at m;refine fM ⟨k-1,by omega,F9,i+1,ns,_,D,rfl,by omega,(s8.trans s9).trans I,⟨by rw[Nu,J.len],λb C w G=>?_⟩,q,d,m⟩;by_cases e:b=i
  ·subst e;rw[U]at G;cases G;rw[Ct X.1,if_pos (by omega),hA]
  ·rw[AR λh=>e h.symm,J.row b C w G];by_cases e3:b<i
   ·rw[if_pos e3,if_pos (by omega)]
   ·rw[if_neg e3,if_neg (by omega)]
 refine iC ?_;obtain rfl:i=u.blocks.length:=by omega
 rw[PY]at d K;refine YK K λh8 t s8=>KN t rfl λh9 x s9=>KN x rfl λr m I=>?_;generalize h7.next=lm at*;generalize h8.next=lb at*;generalize h9.next=lr at*;refine ed (m.len 3 rfl) ?_;have M:=((m.add (p:=eQ (eL Ny) kQ [] .ec) .nil λ_ h=>h).add (p:=eQ vW gy [] .ec) .nil λ_ h=>h).add (p:=eQ tO fE [] .ec) .nil λ_ h=>h;have ar:=M.perm [11,7,17,8,16,19,18,5,4,3,9,2,12,13,14,15,1,0,10,6] 20 (by decide) (by decide) (by simp);exact H _ r l1 _ l2 l3 l4 _ lm lb _ lr _ _ ns _ c (((s7.trans s8).trans s9).trans I) J q d ar
end
