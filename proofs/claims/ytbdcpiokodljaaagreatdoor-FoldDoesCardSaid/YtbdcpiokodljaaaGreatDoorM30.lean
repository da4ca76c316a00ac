/- Parts. -/
import Derived.Test.YtbdcpiokodljaaaGreatDoorM29
set_option maxHeartbeats 4000000
namespace Go.Proofs.YtbdcpiokodljaaaGreatDoor.Hx
open Un Dm
def TP(l:Nat)(S:Int->Option V):Pc where
 mM:=λm=>m=l
 ok F h:=(∃a c,h.get l=some (.map a c)/\(∀e∈a,∃k:Int,e.1 = .I k/\S k=some e.2.1)/\∀k v,S k=some v->∃e∈a,e.1 = .I k)/\l<h.next/\¬F l
 Pl:=by simp_all
 fi:=by grind
 mono:=by simp_all
theorem Lj(k:Int):∀(a:List (V×V×Nat))(i:Nat),(∀e∈a,∃k:Int,e.1 = .I k)->
  (yN ev none (.I k) a i=some none/\∀e∈a,e.1≠ .I k)\/∃j e,yN ev none (.I k) a i=some (some (i+j,e.2.1))/\a[j]? =some e/\e.1 = .I k
 |[],i,_=> .inl ⟨rfl,by simp_all⟩
 | e ::a,i,h=>by
   obtain ⟨k',c⟩:=h e (wBM ..);have b:yN ev none (.I k) (e::a) i=if k=k' then some (some (i,e.2.1)) else yN ev none (.I k) a (i+1):=by
     show oB (Tl ev none (.I k) e.1) _=_;rw[c,show Tl ev none (V.I k) (V.I k')=some (k == k') from U8 _ _];by_cases hk:k=k'
     ·simp_all
     ·rw[if_neg hk,Uf.2 hk];rfl
   by_cases hk:k=k'
   ·subst hk
    rw[if_pos rfl]at b;exact .inr ⟨0,e,b,rfl,c⟩
   ·rw[if_neg hk]at b
    rcases Lj k a (i+1) (by grind)with⟨f,d⟩|⟨j,e',f,d,g⟩
    ·grind
    ·exact .inr ⟨j+1,e',by grind,d,g⟩
section
variable{F F':Nat->Prop}{h h':Hp}{cs ds:List Pc}{Q:fo}{l:Nat}{S:Int->Option V}
theorem ej.zel(H:ej F h cs)(i:Nat)(hi:cs[i]? =some (TP l S))(k:Int)(z:V):VI ev none z true (.map l) (.I k) h=some (.tuple (match S k with|some v=>[v,.bool true]|none=>[z,.bool false])):=by
 obtain ⟨⟨f,c,n,o,s⟩,_⟩:=H.ok i _ hi;have g:∀r,yN ev none (.I k) f 0=some r->VI ev none z true (.map l) (.I k) h=some (found z true r):=λr p=>by
  unfold VI Gc;simp only[n,fe];rw[p];rfl
 rcases Lj k f 0 (by grind)with⟨d,m⟩|⟨j,e,d,m,q⟩
 ·rw[g _ d]
  cases hS:S k with
  |none=>rfl
  | some v=>
    grind
 ·rw[g _ d];obtain⟨k',a,b⟩:=o e (DQ m);rw[q]at a;cases a;rw[b];rfl
theorem ej.zf8(H:ej F h cs)(i:Nat)(hi:cs[i]? =some (TP l S)){k:Int}(t:S k=none)(v:V):∃h',Pk ev none (.map l) (.I k) v h=some (.val .undef h')/\h.next<=h'.next/\ej F h' (cs.set i (TP l (up S k (some v))))/\Sn F h F h':=by
 obtain⟨⟨d,c,n,o,u⟩,f,q⟩:=H.ok i _ hi;rcases Lj k d 0 (by grind)with⟨g,m⟩|⟨j,e,g,m,x⟩
 ·have r:QV ev none d c (.I k) v=some (.map (d++[(.I k,v,c)]) (c+1)):=by unfold QV;rw[g];rfl
  refine⟨h.put l (.map (d++[(.I k,v,c)]) (c+1)),?_,ju _,H.DV (p:=TP l (up S k (some v))) hi (mw.put _ rfl f) ⟨⟨_,_,gq _ f,λe s=>?_,λk' w hk=>?_⟩,f,q⟩ λ_ h=> .inl h⟩
  ·unfold Pk Gc;simp only[n,fe,r];rfl
  ·rcases JT.1 s with h|h
   ·grind[jL]
   simp_all
  ·by_cases e:k' = k
   ·simp_all
   simp_all[jL,Yj]
 ·obtain⟨k',a,b⟩:=o e (DQ m)
  simp_all
theorem ej.zeF(H:ej F h cs):ej F (h.new (.map [] 0)) (TP h.next (λ_=>none)::cs)/\Sn F h F (h.new (.map [] 0)):=
 H.new (p:=TP h.next λ_=>none) _ ⟨by simp_all[fh],Pv _,H.fresh⟩ λ_ e=>e
end
abbrev Nx(l1 T1 l4 T4 lt Tt:Nat) (num:V) (ns:List Nat) (tc:List V) (mf:V) (az:List Int) (ds:List Pc):List Pc:=
 ey l1 T1 [.ptr lt 0]::ey l4 T4 [num]::ey lt Tt (tc++[mf])::eJ eN ev ns num::eJ eZ ev az mf::ds
def Cw(ns:List Nat)(az:List Int)(v:Nat):Nat:=ns.getD (yu (oD az) (az.length+1) v) 0
section
variable{F F':Nat->Prop}{h h':Hp}{cs ds:List Pc}{Q:fo}{u:U}{l1 T1 l4 T4 lt Tt:Nat}{num mf:V}{ns:List Nat}{tc:List V}{az:List Int}
theorem Ka(b:ej F h (Nx l1 T1 l4 T4 lt Tt num ns tc mf az ds))(d:tc.length=5)(e:az.length<=3000)(f:ns.length=az.length)(c:∀(v:Nat)(a:Int),az[v]? =some a->a<az.length){v:Nat}(hv:v<az.length)
  (H:∀w q,gG 1 num (.I (w:Nat))=some q->ez q h=some (.I (Cw ns az v:Nat))->Q (.I (w:Nat)) h):cP CS jF [.ptr lt 0,.I v] h Q:=by
 have g:ez (.ptr lt 5) h=some mf:=b.ld 2 rfl (by simp_all);refine zbj g (b.row 4 rfl).read e c hv λj=>?_;have i:ns[yu (oD az) (az.length+1) v]? =some (Cw ns az v):=by
  unfold Cw;rw[ED,hO (by omega)];rfl
 obtain⟨l,o,k,m⟩:=b.MK 3 rfl i .i64
 simp_all
theorem LK{ι:Type} [DecidableEq ι] {f:ι->Option (List Nat×V)}{i:ι}{xs:List Nat}{w:V}(n:Nat)(I:ej F h (Nx l1 T1 l4 T4 lt Tt num ns tc mf az ds))(s:ds[n]? =some (fT ev f))(hi:f i=some (xs,w))(t:tc.length=5)(J:az.length<=3000)(u:ns.length=az.length)(y:∀(v:Nat)(a:Int),az[v]? =some a->a<az.length)
  (z:∀x∈xs,x<az.length) (K:xs.length<1000000)
  (H:∀h',Sn F h F h'->ej F h' (Nx l1 T1 l4 T4 lt Tt num ns tc mf az (ds.set n (fT ev (up f i (some (xs.map (Cw ns az),w))))))->Q (.tuple []) h') :
  cP CS iG [w,.ptr l4 0,.ptr l1 0] h Q:=by
 refine Ep rfl rfl ?_;unfold wq;refine ed (I.rows (n+5) s hi).len ?_
 refine Bx (λk l h'=>∃(j:Nat) (b:ι->Option (List Nat×V)),l=[w,.ptr l4 0,.ptr l1 0,w,.I xs.length,.I j]/\j+k=xs.length/\Sn F h F h'/\b=up f i (some ((xs.take j).map (Cw ns az)++xs.drop j,w))/\ej F h' (Nx l1 T1 l4 T4 lt Tt num ns tc mf az (ds.set n (fT ev b)))) ?_ (k:=xs.length)
  ⟨0,_,rfl,by omega,Sn.refl _ _,rfl,?_⟩
 rotate_left
 ·have e:up f i (some ((xs.take 0).map (Cw ns az)++xs.drop 0,w))=f:=funext (by grind[lZ,jL]);rw[e];have:ds.set n (fT ev f)=ds:=by
   obtain⟨L,A⟩:=kj.1 s;rw[<-A,List.set_getElem_self]
  simp_all
 rintro k _ _ _ _ _ _ L ⟨j,b,⟨⟩,hk,M,d,c⟩;unfold rD;have N:=(kj.1 s).1;have g:(ds.set n (fT ev b))[n]? =some (fT ev b):=by simp_all
 have m:b i=some ((xs.take j).map (Cw ns az)++xs.drop j,w):=by rw[d,lZ]
 by_cases hj:j<xs.length
 ·refine gy ?_;have O:=hO hj;have G:((xs.take j).map (Cw ns az)).length=j:=by rw[EN,NM];omega
  have o:((xs.take j).map (Cw ns az)++xs.drop j)[j]? =some xs[j]:=by
   rw[Zo (by omega),G,Nat.sub_self,Yq hj];rfl
  have p:((xs.take j).map (Cw ns az)++xs.drop j).set j (Cw ns az xs[j])=(xs.take (j+1)).map (Cw ns az)++xs.drop (j+1):=by
   rw[E3 O,PO,M6,Yq hj,List.set_append_right _ _ (by omega),G,Nat.sub_self];rfl
  have B:j<((xs.take j).map (Cw ns az)++xs.drop j).length:=by grind
  have C:=z _ (AU hj);generalize xs[j]=x at*;obtain⟨la,P,_,D,R⟩:=(c.rows (n+5) g m).read.nat o .i64;refine ed D (ed R (ed (c.ld 1 rfl rfl) (ed (c.ld 0 rfl rfl) ?_)));refine Ka c t J u y C λr q S T=>⟨ju _,ed S (ed T (ed D ⟨c.ld 1 rfl rfl,?_⟩))⟩
  obtain⟨l3,U,A,W,X,Y,E,Z⟩:=c.Y7 (n+5) g m B (Cw ns az x);rw[D]at W;obtain⟨rfl,rfl⟩:la=l3/\P=U:=by simp_all
  rw [X,ei];refine⟨Y,fI ⟨k-1,by omega,j+1,_,rfl,by omega,M.trans Z,rfl,?_⟩⟩;have E:ej F A (Nx l1 T1 l4 T4 lt Tt num ns tc mf az ((ds.set n (fT ev b)).set n (fT ev (up b i (some (((xs.take j).map (Cw ns az)++xs.drop j).set j (Cw ns az x),w)))))):=E;rw[List.set_set,p,d]at E;have e:up (up f i (some ((xs.take j).map (Cw ns az)++xs.drop j,w))) i (some ((xs.take (j+1)).map (Cw ns az)++xs.drop (j+1),w))=up f i (some ((xs.take (j+1)).map (Cw ns az)++xs.drop (j+1),w)):=funext λa=>by
   by_cases e:a=i
   ·simp_all
   grind[jL]
  simp_all
 refine iI ?_;obtain rfl:j=xs.length:=by omega
 simp_all
end
open Un Dm
structure StS (ss:List (List (Fm×V×V))) (nm:Nat->Nat) (b:List Nat) (S:Int->Option V) (fl:KF->Option (List Nat×V)) (c:List (List (Fm×V×V))):Prop where
 map:∀s:Nat,S s=if s∈b then some (.I (b.idxOf s:Nat)) else none
 out:c=b.map λs=>ss.getD s []
 rows:∀s l k x a w,ss[s]? =some l->l[k]? =some (x,a,w)->fl (s,k,false)=some (if s∈b then x.locals.map nm else x.locals,a)/\fl (s,k,true)=some (if s∈b then x.stack.map nm else x.stack,w)
 nd:b.Nodup
 lt:∀s∈b,s<ss.length
def Xk(a:List Nat)(s:Nat):List Nat:=if s∈a then a else a++[s]
section
variable {F F':Nat->Prop} {h h':Hp} {cs ds:List Pc} {Q:fo} {u:U} {l1 T1 l4 T4 lt Tt lm lb Tb lr Tr lo To:Nat} {num mf a0 a1 a2 a3 b0 b1 b2 b3 ws Iv:V} {ns:List Nat} {az:List Int} {S:Int->Option V}
 {fl:KF->Option (List Nat×V)} {ss sos:List (List (Fm×V×V))} {sl:List Nat}
abbrev Sx(fl:KF->Option (List Nat×V)) (ss:List (List (Fm×V×V))) (ws:V) (lm:Nat) (S:Int->Option V) (lb Tb lr Tr l4 l1 lo To:Nat) (b0 b1 b2 b3 Iv:V) (a:List (List (Fm×V×V))) (ds:List Pc):List Pc:=
 fT ev fl::eJ (eL QC) mb ss ws::TP lm S::ey lb Tb [.map lm]::ey lr Tr [.func iG [] [.ptr l4 0,.ptr l1 0]]::ey lo To [b0,b1,b2,b3,Iv]::eJ (eL QC) mb a Iv::ds
theorem ej.U4{p:Pc}(H:ej F h (p::cs))(n:Nat)(a:n<=cs.length):ej F h (cs.take n++p::cs.drop n):=by
 have b:(cs.take n).length=n:=by rw[NM];omega
 refine H.re (λi=>if i<n then i+1 else if i=n then 0 else i) (λi c hc=>?_) λi j _ _ e=>?_
 ·grind
 grind
theorem ej.NR(H:ej F h cs)(n:Nat)(a:n<=cs.length):ej F h (cs.take n++cs.drop (n+1)):=by
 have b:(cs.take n).length=n:=by rw[NM];omega
 refine H.re (λi=>if i<n then i else i+1) (λi c hc=>?_) λi j _ _ e=>?_
 ·grind
 grind
theorem ej.zeg{α:Type}{E:qH α}{ty:Nat}{xs:List α}{v:V}(H:ej F h cs)(i:Nat)(hi:cs[i]? =some (eJ E ty xs v)){k n l o:Nat}{kd:IntKind}(hk:k<xs.length)(e:gG n v (.int kd (k:Nat))=some (.ptr l o)):l<h.next:=by
 rcases H.row i hi with⟨_,rfl⟩|⟨t,ws,rfl,a,_⟩
 ·simp_all
 grind[za]
theorem Qh(C:ej F h (Nx l1 T1 l4 T4 lt Tt num ns [a0,a1,a2,a3,ws] mf az (Sx fl ss ws lm S lb Tb lr Tr l4 l1 lo To b0 b1 b2 b3 Iv sos ds)))(c:StS ss (Cw ns az) sl S fl sos)(hn:az.length<=3000)(J:ns.length=az.length)(K:∀(v:Nat)(a:Int),az[v]? =some a->a<az.length)
  {s:Nat} {l:List (Fm×V×V)} (hs:ss[s]? =some l) (ap:ss.length<=1000) (aq:l.length<=1000) (aa:∀y∈l,y.1.locals.length<=1000/\y.1.stack.length<=1000/\(∀v∈y.1.locals,v<az.length)/\∀v∈y.1.stack,v<az.length)
  (H:∀h' d S' q f,Sn F h F h'->StS ss (Cw ns az) (Xk sl s) S' d q->ej F h' (Nx l1 T1 l4 T4 lt Tt num ns [a0,a1,a2,a3,ws] mf az (Sx d ss ws lm S' lb Tb lr Tr l4 l1 lo To b0 b1 b2 b3 f q ds))->Q (.I ((Xk sl s).idxOf s:Nat)) h') :
  cP CS fQ [.I s,.ptr lb 0,.ptr lo 0,.ptr l1 0,.ptr lr 0] h Q:=by
 refine DT rfl rfl ?_;unfold vO;refine ed (C.ld 8 rfl rfl) (ed (C.zel 7 rfl s _) ?_);rw[c.map s];have oV:s<ss.length:=by grind
 by_cases hm:s∈sl
 ·rw[if_pos hm];refine ed (Fp 0 _) (ed (Fp 1 _) (xM (gj rfl ?_)));refine rE ?_;unfold nK;have ha:Xk sl s=sl:=if_pos hm
  grind[Sn.refl]
 rw [if_neg hm];have ha:Xk sl s=sl++[s]:=if_neg hm;rw[ha]at H;have hk:(sl++[s]).idxOf s=sl.length:=by
  rw[List.idxOf_append,if_neg hm];simp
 rw[hk]at H;have L:sos.length=sl.length:=by rw[c.out,EN]
 have ao:sl.length<=ss.length:=jA _ _ c.nd c.lt;refine ed (Fp 0 _) (ed (Fp 1 _) (xM (fU (by simp) ?_)));refine ed (by rfl) (ed (C.ld 10 rfl rfl) (ed (C.len 11 rfl) (ed (C.ld 8 rfl rfl) ?_)));rw[L];obtain⟨D,e1,_,E,s1⟩:=C.zf8 7 rfl (k:=(s:Int)) (by rw[c.map s,if_neg hm]) (.I sl.length);have ab:Pk 3 none (.map lm) (.I s) (.I sl.length) h=some (.val .undef D):=e1;rw[ab,ei];simp only[mP,rV]at E;obtain⟨lx,M,wx,p,N,⟨Z,rfl,xf⟩,O⟩:=E.Z8 6 rfl hs .i64;have p:gG 1 ws (.I s)=some (.ptr lx M):=p;have O:ez (.ptr lx (M+0)) D=some Z:=O 0 Z rfl;refine ed (E.ld 0 rfl rfl) (ed (fP _ _) (ed (by rfl) (ed (by rfl) (ed (E.ld 2 rfl rfl) (ed p (ed (by rfl) (ed O (ed xf.len ?_))))))))
 refine Bw (λk l' h'=>∃(j:Nat) (d:KF->Option (List Nat×V)),l' = [.I s,.ptr lo 0,.ptr l1 0,.ptr lr 0,.I sl.length,Z,.I l.length,.I j]/\j+k=l.length/\Sn F D F h'/\
  (∀t k b,t≠s->d (t,k,b)=fl (t,k,b))/\(∀k x a w,l[k]? =some (x,a,w)->d (s,k,false)=some (if k<j then x.locals.map (Cw ns az) else x.locals,a)/\d (s,k,true)=some (if k<j then x.stack.map (Cw ns az) else x.stack,w))/\
  ej F h' (Nx l1 T1 l4 T4 lt Tt num ns [a0,a1,a2,a3,ws] mf az (Sx d ss ws lm (up S s (some (.I sl.length))) lb Tb lr Tr l4 l1 lo To b0 b1 b2 b3 Iv sos ds))) ?_ (k:=l.length)
  ⟨0,fl,rfl,by omega,Sn.refl _ _,by simp_all,λk x a w hk=>?_,E⟩
 rotate_left
 ·have:=c.rows s l k x a w hs hk
  simp_all
 clear E p O;rintro k _ _ _ _ _ _ _ _ G ⟨j,d,⟨⟩,ar,s2,P,ac,r⟩;unfold rL;have ae:=xf.since s2;by_cases hj:j<l.length
 ·refine gy ?_;have hy:=hO hj;obtain⟨R,T,A,B⟩:=aa _ (AU hj);obtain⟨ly,oy,wy,_,y1,y2,y3,_⟩:=ae.ix hj .i64;obtain⟨⟨x,a,w⟩,ag⟩:∃y,l[j]=y:=⟨_,rfl⟩
  rw[ag]at hy y3 R T A B;dsimp only at R T A B;obtain⟨rfl,y4,y5⟩:=y3;have y1:gG 4 Z (.I j)=some (.ptr ly oy):=y1;refine ed y1 (ed y2 ?_);refine gW r rfl rfl (by simp only[LL,eo,y4,y5];rfl) λh3 m s3=>?_;generalize G.next=lf at*;have m:ej F h3 (Nx l1 T1 l4 T4 lt Tt num ns [a0,a1,a2,a3,ws] mf az (Sx d ss ws lm (up S s (some (.I sl.length))) lb Tb lr Tr l4 l1 lo To b0 b1 b2 b3 Iv sos (ey lf 49 (LL x a w)::ds))):=m.U4 12 (by simp);obtain⟨U,ah⟩:=ac j x a w hy;rw[if_neg (by omega)]at U ah;refine ed (m.ld 9 rfl rfl) (ed (by rfl) (ed (m.ld 12 rfl rfl) ?_));show cP CS iG [a,.ptr l4 0,.ptr l1 0] h3 _;refine LK 0 m rfl U rfl hn J K A (by omega) λW s4 n=>?_;simp only[mP]at n;have n:ej F W (Nx l1 T1 l4 T4 lt Tt num ns [a0,a1,a2,a3,ws] mf az (Sx (up d (s,j,false) (some (x.locals.map (Cw ns az),a))) ss ws lm (up S s (some (.I sl.length))) lb Tb lr Tr l4 l1 lo To b0 b1 b2 b3 Iv sos (ey lf 49 (LL x a w)::ds))):=n;refine ed (n.ld 9 rfl rfl) (ed (by rfl) (ed (n.ld 12 rfl rfl) ?_));show cP CS iG [w,.ptr l4 0,.ptr l1 0] W _;refine LK 0 n rfl (i:=(s,j,true)) (by grind[jL]) rfl hn J K B (by omega) λh5 s5 X=>?_;simp only[mP]at X;refine fI ⟨k-1,by omega,j+1,_,rfl,by omega,((s2.trans s3).trans s4).trans s5,λt k b I=>?_,λk z b c hk=>?_,X.NR 12 (by simp)⟩
  ·rw[jL _ _ (by simp[I]),jL _ _ (by simp[I])]
   grind
  ·by_cases e:k=j
   ·simp_all[if_pos,jL,lZ]
   ·rw[jL _ _ (by simp),jL _ _ (by simp[e]),jL _ _ (by simp[e]),jL _ _ (by simp)]
    grind
 refine iI ?_;obtain rfl:j=l.length:=by omega
 obtain⟨lx,M,wx,p,N,⟨g,rfl,Y⟩,O⟩:=r.Z8 6 rfl hs .i64;have p:gG 1 ws (.I s)=some (.ptr lx M):=p;have N:fX 1 (.ptr lx M) G=some (.agg [g]):=N;refine ed (by rfl) (ed (r.ld 10 rfl rfl) (ed (r.ld 0 rfl rfl) (ed (fP _ _) (ed (by rfl) (ed (by rfl) (ed (r.ld 2 rfl rfl) (ed p (ed N ?_))))))));rw[rW (sz:=1) (w:=[g]) rfl rfl (by simp only[eo,Y.one];rfl),g0];have m:ej F (G.new (.cells 52 1 true false [g])) (ey G.next 52 [g]::_):=(r.zT mb [g]).1;obtain⟨f,W,e4,n4,n,s4⟩:=r.wR 11 rfl (kL:=24) (K9:=52) (y:=l) (w:=[g]) (ro:=false) ⟨g,rfl,Y⟩ (by decide) (by decide) (by omega);have ai:eR 52 1 24 Iv (.slice G.next 0 1) (G.new (.cells 52 1 true false [g]))=some (.val f W):=e4;have aj:=r.zeg 6 rfl oV p;have ak:=HO N (fj (.cells 52 1 true false [g]) aj);refine⟨⟨m.get 0 rfl,bq⟩,ak,m.ld 3 rfl rfl,m.ld 1 rfl rfl,m.ld 11 rfl rfl,?_⟩;rw[ai,ei];simp only[mP,rV]at n;obtain⟨h5,e5,n5,X,s5⟩:=n.st 10 (o:=4) (u:=f) rfl (by simp) (n.one 11 rfl);refine⟨by simp_all,ed (by rfl) ?_⟩;have al:gJ 1 (.ptr lo (0+4)) f W=some (.val .undef h5):=by rw[zO];exact e5
 rw[al,ei];simp only[mP,rV]at X;refine⟨n5,rE ?_⟩;unfold nK;have am:ss.getD s []=l:=by rw[ED,hs];rfl
 refine H h5 d (up S s (some (.I sl.length))) (sos++[l]) f (((s1.trans s2).trans s4).trans s5) ⟨λt=>?_,by rw[c.out,PO,wBe,YE,am],λt l' k x a w I an=>?_,?_,λt I=>?_⟩ X
 ·by_cases e:t=s
  ·simp_all
  ·rw[jL _ _ (by omega),c.map t]
   grind
 ·by_cases e:t=s
  ·grind
  ·rw[P t k false e,P t k true e];have:=c.rows t l' k x a w I an
   simp_all
 ·rw[wBu];exact⟨c.nd,by simp,by grind⟩
 ·rcases JT.1 I with D|D
  ·exact c.lt t D
  simp_all
end
open Un Dm
section
variable{F F':Nat->Prop}{h h':Hp}{cs ds:List Pc}{Q:fo}{u:U}
theorem zcO(cs:List Pc):∀(a:List Nat),(∀m∈a,m<cs.length)->(a.filterMap λm=>cs[m]?).length=a.length/\∀i:Nat,(a.filterMap λm=>cs[m]?)[i]? = (a[i]?).bind λm=>cs[m]?
 |[],_=>by simp_all
 | m::a,hm=>by
   let⟨b,c⟩:=zcO cs a (by simp_all)
   grind
theorem ej.perm(H:ej F h cs)(a:List Nat)(k:Nat)(b:∀m∈a,m<k)(d:a.Nodup)(hk:k<=cs.length):ej F h ((a.filterMap λm=>cs[m]?)++cs.drop k):=by
 let⟨f,l⟩:=zcO cs a (by grind)
 refine H.re (λi=>if i<a.length then a.getD i 0 else k+(i-a.length)) (λi c hc=>?_) λi j _ _ e=>?_
 ·grind
 ·have g:∀i,i<a.length->a.getD i 0<k/\a[i]? =some (a.getD i 0):=by simp_all
  by_cases hi:i<a.length
  ·rw [if_pos hi]at e;by_cases hj:j<a.length
   ·rw[if_pos hj]at e
    grind[vY]
   grind
  grind
end
structure Aw (u:U) (az:List Int):Prop where
 nv:u.ef.length<=3000
 nb:u.blocks.length<=300
 ns:u.eh.length<=1000
 once:zbf u
 jW:∀v b k,At u v b k->v<u.ef.length
 len:az.length=u.ef.length
 sub:∀(v:Nat) a,az[v]? =some a->a<az.length
 parts:∀(v:Nat) x,u.ef[v]? =some x->x.args.length<=700/\(nW x.op=true\/two x.op=true->x.a<u.ef.length)/\(two x.op=true->x.b<u.ef.length)/\(x.op=21\/x.op=20->∀w∈x.args,w<u.ef.length)/\(leaves x.op=true->x.state<u.eh.length)
 ends:∀(b:Nat) B,u.blocks[b]? =some B->(B.fin=2->B.cond<u.ef.length)/\(B.fin=3->B.state<u.eh.length)
 st:∀(s:Nat) fs,u.eh[s]? =some fs->fs.length<=1000/\∀f∈fs,f.locals.length<=1000/\f.stack.length<=1000/\(∀v∈f.locals,v<u.ef.length)/\∀v∈f.stack,v<u.ef.length
structure NbB (u:U) (az:List Int) (i:Nat) (bs a:List (Bk×V)):Prop where
 len:a.length=bs.length
 row:∀b B w,bs[b]? =some (B,w)->a[b]? =some (if b<i then{B with ef:=(B.ef.filter (stays (oD az))).map (fK u (oD az)).idxOf} else B,w)
section
variable{F F':Nat->Prop}{h h':Hp}{cs ds:List Pc}{Q:fo}{u:U}{wv wb ws mf:V}{lt Tt:Nat}{az:List Int}{xs:List (Vl×V)}{bs:List (Bk×V)}{fa fn:Nat->Option (List Nat×V)}{ss:List (List (Fm×V×V))}{fl:KF->Option (List Nat×V)}
theorem zbv{T l o:Nat}{K:fo}(H:ej F h ds)(b:∀a,ej F a (ey h.next T [.ptr l o]::ds)->Sn F h F a->K (.ptr h.next 0) a):hH (mn T (.ptr l o)) h K:=by
 rw[show mn T (.ptr l o)=some (.cells T 1 true false [.ptr l o],λl=> .ptr l 0) from rfl,fE];exact b _ (H.zT T _).1 (H.zT T [.ptr l o]).2
theorem Be{T:Nat}{ws:List V}{K:fo}(H:ej F h ds)(b:∀a,ej F a (ey h.next T ws::ds)->Sn F h F a->K (.ptr h.next 0) a):hH (some (O.cells T 1 true false ws,λl=>V.ptr l 0)) h K:=by
 rw[fE];exact b _ (H.zT T _).1 (H.zT T ws).2
theorem Xo{T:Nat}{ws:List V}{K:O->fo}(H:ej F h ds)(b:∀a,ej F a (ey h.next T ws::ds)->Sn F h F a->K (.cells T 1 true false ws) (.ptr h.next 0) a):yU (some (O.cells T 1 true false ws,λl=>V.ptr l 0)) h K:=by
 rw[g0];exact b _ (H.zT T _).1 (H.zT T ws).2
theorem zbL{T:Nat}{ws:List V}{K:O->fo}(H:ej F h ds)(a:gv ws=true)(b:ej F (h.new (.cells T 1 true false ws)) (ey h.next T ws::ds)->Sn F h F (h.new (.cells T 1 true false ws))->K (.cells T 1 true false ws) (.ptr h.next 0) (h.new (.cells T 1 true false ws))):yU (mn T (.agg ws)) h K:=by
 rw[FH a,g0];exact b (H.zT T _).1 (H.zT T ws).2
theorem OW{T:Nat}{z w:V}{K:fo}(H:ej F h ds)(c:w.one=true)(d:∀a,ej F a (ey h.next T [w]::ds)->Sn F h F a->K (.ptr h.next 0) a):hH (some (O.cells T 1 true false [z],λl=>V.ptr l 0)) h λv b=>fg (gJ 1 v w b) λ_ a=>K v a:=by
 refine Be H λb e f=>?_
 let⟨a,g,_,i,j⟩:=e.st 0 (o:=0) rfl (by simp) c
 rw[g,ei];exact d a i (f.trans j)
theorem zdc{K:fo}(H:ej F h ds)(b:∀a,ej F a (TP h.next (λ_=>none)::ds)->Sn F h F a->K (.map h.next) a):hH (some (O.map [] 0,λl=>V.map l)) h K:=by
 rw[fE];exact b _ H.zeF.1 H.zeF.2
theorem SI(g:Aw u az)(hc:Yn u.ef xs fa)(hb:Xp u.blocks bs fn)
  (H0:ej F h (eJ yV gP xs wv::eJ wC fJ bs wb::fT ev fa::fT ev fn::eJ eZ ev az mf::ey lt Tt [.I u.func,.I u.pc,wv,wb,ws,mf]::eJ (eL QC) mb ss ws::fT ev fl::cs))
  (H:∀F' h' l1 T1 l2 l3 l4 T4 lm lb Tb lr Tr num ns N c,Sn F h F' h'->NbB u az u.blocks.length bs c->ns.length=u.ef.length->(∀v,v<u.ef.length->ns[v]? =some (if v∈fK u (oD az) then(fK u (oD az)).idxOf v else 0))->
   ej F' h' (Nx l1 T1 l4 T4 lt Tt num ns [.I u.func,.I u.pc,wv,wb,ws] mf az (Sx fl ss ws lm (λ_=>none) lb Tb lr Tr l4 l1 l3 im (.I u.func) (.I u.pc) .ee .ee .ee []
    (eJ yV gP xs wv::eJ wC fJ c wb::fT ev fa::fT ev fn::eJ yV gP [] .ee::eJ wC fJ [] .ee::ey l2 im [.I 0,.I 0,.ee,.ee,.ee]::eJ eN ev (fK u (oD az)) N::cs)))->
   mh CS Q [.ptr l1 0,.ptr l2 0,.ptr l3 0,.ptr l4 0,.ptr lr 0,.func fQ [] [.ptr lb 0,.ptr l3 0,.ptr l1 0,.ptr lr 0],N,.I ((fK u (oD az)).length:Nat),.I 0] h') :
  cP CS lO [.ptr lt 0] h Q:=by
 refine Ge rfl rfl ?_;unfold yz;have nv:=g.nv;have nb:=g.nb;have ag:bs.length=u.blocks.length:=by rw[<-hb.fst,EN]
 have ah:xs.length=u.ef.length:=by rw[<-hc.fst,EN]
 refine zbv H0 λh1 H1 s1=>Be H1 λh2 O s2=>?_;generalize h.next=l1 at*;generalize h1.next=l2 at*;refine ed (O.ld 1 rfl rfl) (ed pn (ed pf (oF (O.ld 7 rfl rfl) (ed (O.ld 1 rfl rfl) (ed pn (ed pf (oF (O.ld 7 rfl rfl) ?_)))))));refine ed (by rfl) ?_;refine Xo O λh3 L s3=>?_;generalize h2.next=l3 at*;refine⟨⟨L.get 0 rfl,bq⟩,L.ld 8 rfl rfl,L.ld 2 rfl rfl,L.ld 8 rfl rfl,L.ld 2 rfl rfl,?_⟩
 let⟨h4,e4,n4,H4,s4⟩:=L.stA 0 (ws:=[.I u.func,.I u.pc,.ee,.ee,.ee]) (n:=5) rfl rfl rfl rfl
 rw[e4,ei];refine⟨n4,ed (H4.ld 2 rfl rfl) (ed pn (ed pf (oF (H4.ld 8 rfl rfl) (ed (H4.len 3 rfl) ?_))))⟩;rw[ah,kW rfl (by decide) (by omega),fE]
 let⟨H5,s5⟩:=H4.make (E:=eN) (ty:=ev) (u:=V.I 0) u.ef.length rfl rfl
 generalize h4.new (.cells ev 1 true false (List.replicate u.ef.length (V.I 0)))=h5 at*;generalize h4.next=ln at*;refine OW H5 rfl λh6 M s6=>?_;generalize h5.next=l4 at*;refine ed (M.ld 4 rfl rfl) (ed pn (ed pf (oF (M.ld 10 rfl rfl) (ed (M.len 6 rfl) ?_))));rw[ag];have ai:=((((s1.trans s2).trans s3).trans s4).trans s5).trans s6;have M:=M.add (p:=eJ eN ev [] .ee) .nil λ_ h=>h;obtain⟨A,hA⟩:∃A,oD az=A:=⟨_,rfl⟩
 rw[hA]at H
 refine CW (λk l h'=>∃F' i ns c o,l=[.ptr l1 0,.ptr l2 0,.ptr l3 0,.ptr l4 0,o,.I u.blocks.length,.I (i:Nat)]/\i+k=u.blocks.length/\Sn F h F' h'/\NbB u az i bs c/\
  ns.length=u.ef.length/\(∀v,v<u.ef.length->ns[v]? =some (if v∈lC u A i 0 then(fK u A).idxOf v else 0))/\
  ej F' h' (eJ eN ev (lC u A i 0) o::ey l4 _ [.slice ln 0 u.ef.length]::eJ eN ev ns (.slice ln 0 u.ef.length)::ey l3 im [.I u.func,.I u.pc,.ee,.ee,.ee]::ey l2 im [.I 0,.I 0,.ee,.ee,.ee]::ey l1 _ [.ptr lt 0]::eJ yV gP xs wv::eJ wC fJ c wb::fT ev fa::fT ev fn::eJ eZ ev az mf::ey lt Tt [.I u.func,.I u.pc,wv,wb,ws,mf]::eJ (eL QC) mb ss ws::fT ev fl::cs)) ?_ (k:=u.blocks.length)
  ⟨F,0,_,bs,.ee,rfl,by omega,ai,⟨rfl,by simp_all⟩,Xh,λv hv=>by rw[wBz,if_pos hv,Ms,if_neg (by simp)],by rw[Ms];exact M⟩
 rintro k _ _ _ _ o _ _ h7 ⟨P,i,ns,c,_,⟨⟩,hk,s7,x,q,d,D⟩;unfold uI;by_cases hi:i<u.blocks.length
 ·refine gy ?_;obtain⟨⟨B,wn⟩,R⟩:∃y,bs[i]? =some y:=by simp_all
  have G:u.blocks[i]? =some B:=by rw[<-hb.fst,AX,R];rfl
  have aq:=jA _ _ (JC g.once G) λv hv=>by
   let⟨k,hk⟩:=nT.1 hv
   exact g.jW v i k ⟨B,G,hk⟩
  have I:c[i]? =some (B,wn):=by have:=x.row i B wn R;rwa [if_neg (by omega)]at this
  obtain⟨l8,o8,w8,S,_,⟨bv,bp,rfl,iv,ip,ar⟩,x3⟩:=D.Z8 7 rfl I .i64;have S:=S;refine ed (D.ld 5 rfl rfl) (ed pn (ed pf (oF (D.ld 11 rfl rfl) (ed S (oF (x3 0 _ rfl) (ed iv.len ?_))))));have D:=D.add (p:=eJ eN ev [] .ee) .nil λ_ h=>h
  refine Dg (λk' l h'=>∃j ns o J,l=[.ptr l1 0,.ptr l2 0,.ptr l3 0,.ptr l4 0,o,.I i,J,.I u.blocks.length,.I i,bv,.I B.ef.length,.I (j:Nat)]/\j+k' = B.ef.length/\Sn F h P h'/\Sn P h7 P h'/\
   ns.length=u.ef.length/\(∀v,v<u.ef.length->ns[v]? =some (if v∈lC u A i j then(fK u A).idxOf v else 0))/\
   ej P h' (eJ eN ev (((B.ef.take j).filter (stays A)).map (fK u A).idxOf) J::eJ eN ev (lC u A i j) o::ey l4 _ [.slice ln 0 u.ef.length]::eJ eN ev ns (.slice ln 0 u.ef.length)::ey l3 im [.I u.func,.I u.pc,.ee,.ee,.ee]::ey l2 im [.I 0,.I 0,.ee,.ee,.ee]::ey l1 _ [.ptr lt 0]::eJ yV gP xs wv::eJ wC fJ c wb::fT ev fa::fT ev fn::eJ eZ ev az mf::ey lt Tt [.I u.func,.I u.pc,wv,wb,ws,mf]::eJ (eL QC) mb ss ws::fT ev fl::cs)) ?_ (k:=B.ef.length)
   ⟨0,ns,o,.ee,rfl,by omega,s7,Sn.refl _ _,q,d,D⟩
  rintro k' _ _ _ _ o _ J _ _ _ _ _ h8 ⟨j,ns,_,_,⟨⟩,au,T,K,q,d,r⟩;unfold uK;have oV:(lC u A i j).length<=u.ef.length:=by
   have h1:=(Jc («as»:=A) (j:=j) G).length_le;have h2:=jA u.ef.length (fK u A) (AA g.once) λv hv=>Iq g.jW hv;omega
  have aw:((B.ef.take j).filter (stays A)).length<=(lC u A i j).length:=by
   unfold lC;rw[G,K8];exact Nat.le_add_left _ _
  by_cases hj:j<B.ef.length
  ·refine gy ?_;have U:=hO hj;have ax:=E3 U;generalize B.ef[j]=v at*;have aj:=g.jW v i j ⟨B,G,U⟩
   let⟨la,oa,_,S,x2⟩:=(iv.since K).nat U .i64
   obtain⟨a,ha⟩:∃a,az[v]? =some a:=⟨_,hO (by rw[g.len];exact aj)⟩
   let⟨lb,ob,y1,y2⟩:=r.UT 11 rfl ha .i64
   have W:A v=a:=by rw[<-hA];exact VD ha
   have X:=Mm («as»:=A) G U;refine ed S (ed x2 (ed (r.ld 6 rfl rfl) (oN (r.ld 12 rfl rfl) (ed y1 (ed y2 (fZ ?_))))));by_cases e:a=(v:Int)
   ·refine gj e ?_;have z:stays A v=true:=by unfold stays;rw[W,e];exact beq_self_eq_true _
    rw[if_pos z]at X
    let⟨hix,hnm⟩:=zdu («as»:=A) g.once G U z
    refine ed (r.ld 2 rfl rfl) (ed (r.len 1 rfl) ?_)
    let⟨lc,oc,h9,Y,e2,_,t,Z⟩:=r.JZ 3 rfl (k:=v) (y:=(lC u A i j).length) (u:=V.I ((lC u A i j).length:Nat)) (by omega) rfl rfl rfl
    refine ed Y ?_;rw[e2,ei];refine ed (t.len 1 rfl) ?_;rw[rS,fE]
    let⟨va,f,Nj,_,m,s⟩:=t.wR 0 rfl (kL:=8) (K9:=3) (y:=(lC u A i j).length) (w:=gZ [(lC u A i j).length]) (ro:=false) rfl (by decide) (by decide) (by simp;omega)
    have aa:eR 3 1 8 J (.slice h9.next 0 1) (h9.new (.cells 3 1 true false (gZ [(lC u A i j).length])))=some (.val va f):=Nj;rw[aa,ei];rw[rS,fE]
    let⟨vc,ak,al,_,ab,am⟩:=m.wR 1 rfl (kL:=8) (K9:=3) (y:=v) (w:=gZ [v]) (ro:=false) rfl (by decide) (by decide) (by omega)
    have ac:eR 3 1 8 o (.slice f.next 0 1) (f.new (.cells 3 1 true false (gZ [v])))=some (.val vc ak):=al;rw[ac,ei];refine sN ?_;unfold oh;have sA:=(Z.trans s).trans am;refine fI ⟨k'-1,by omega,j+1,ns.set v (lC u A i j).length,vc,va,rfl,by omega,T.trans sA,K.trans sA,by simp_all,λw hw=>?_,?_⟩
    ·grind
    simp_all
   ·refine fU e (sN ?_);unfold oh;have z:stays A v=false:=by unfold stays;rw[W];exact Uf.2 e
    rw[z]at X;refine fI ⟨k'-1,by omega,j+1,ns,o,J,rfl,by omega,T,K,q,by simp_all,?_⟩
    simp_all
  refine iI ?_;obtain rfl:j=B.ef.length:=by omega
  rw[Lp]at r;rw[Tf G]at d r
  let⟨t,Z,r9⟩:=r.jZ 0 rfl
  have t:=t.tail;generalize (λl=>P l\/Loc J l)=F9 at*;have ae:=kj.1 I
  let ⟨lq,f,Y,e2,_,m,s⟩:=t.stF 7 rfl (k:=i) (j:=0) (y:=({B with ef:=(B.ef.filter (stays A)).map (fK u A).idxOf},wn)) (a:=J) ae.1 (by decide) r9.one (λw' hw=>by
   rw[ae.2]at hw;obtain⟨pv,pp,rfl,_,q2,q3⟩:=hw;exact⟨J,pp,rfl,r9,q2,q3⟩)
  have Y:=Y;refine ed (t.ld 5 rfl rfl) (ed pn (ed pf (oF (t.ld 11 rfl rfl) (ed Y (ed pf ?_)))));have an:=e2;rw[an,ei];refine fI ⟨k-1,by omega,F9,i+1,ns,_,o,rfl,by omega,(T.trans Z).trans s,⟨by rw[MC,x.len],λb C w ao=>?_⟩,q,d,m⟩;by_cases e:b=i
  ·grind
  ·rw[K6 (by omega),x.row b C w ao]
   grind
 refine iI ?_;obtain rfl:i=u.blocks.length:=by omega
 rw[UY]at d D;refine zdc D λh8 r T=>OW r rfl λh9 t Z=>OW t rfl λf m s=>?_;generalize h7.next=lm at*;generalize h8.next=lb at*;generalize h9.next=lr at*;refine ed (m.len 3 rfl) ?_;have ab:=((m.add (p:=eJ (eL QC) mb [] .ee) .nil λ_ h=>h).add (p:=eJ yV gP [] .ee) .nil λ_ h=>h).add (p:=eJ wC fJ [] .ee) .nil λ_ h=>h;have ap:=ab.perm [11,7,17,8,16,19,18,5,4,3,9,2,12,13,14,15,1,0,10,6] 20 (by decide) (by decide) (by simp);exact H _ f l1 _ l2 l3 l4 _ lm lb _ lr _ _ ns _ c (((s7.trans T).trans Z).trans s) x q d ap
end
