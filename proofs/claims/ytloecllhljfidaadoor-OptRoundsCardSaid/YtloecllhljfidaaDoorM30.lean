/- Parts. -/
import Derived.Test.YtloecllhljfidaaDoorM29
set_option maxHeartbeats 4000000
namespace Go.Proofs.YtloecllhljfidaaDoor.Hx
open Un Dm
def QM(l:Nat)(S:Int->Option V):Pc where
 lh:=λm=>m=l
 ok F h:=(∃a c,h.get l=some (.map a c)/\(∀e∈a,∃k:Int,e.1 = .I k/\S k=some e.2.1)/\∀k v,S k=some v->∃e∈a,e.1 = .I k)/\l<h.next/\¬F l
 LR:=by simp_all
 fe:=by grind
 mono:=by simp_all
theorem IG(k:Int):∀(a:List (V×V×Nat))(i:Nat),(∀e∈a,∃k:Int,e.1 = .I k)->
  (po en none (.I k) a i=some none/\∀e∈a,e.1≠ .I k)\/∃j e,po en none (.I k) a i=some (some (i+j,e.2.1))/\a[j]? =some e/\e.1 = .I k
 |[],i,_=> .inl ⟨rfl,by simp_all⟩
 | e ::a,i,h=>by
   obtain ⟨k',c⟩:=h e (Y4 ..);have b:po en none (.I k) (e::a) i=if k=k' then some (some (i,e.2.1)) else po en none (.I k) a (i+1):=by
     show oB (L3 en none (.I k) e.1) _=_;rw[c,show L3 en none (V.I k) (V.I k')=some (k == k') from RV _ _];by_cases hk:k=k'
     ·simp_all
     ·rw[if_neg hk,SJ.2 hk];rfl
   by_cases hk:k=k'
   ·subst hk
    rw[if_pos rfl]at b;exact .inr ⟨0,e,b,rfl,c⟩
   ·rw[if_neg hk]at b
    rcases IG k a (i+1) (by grind)with⟨f,d⟩|⟨j,e',f,d,g⟩
    ·grind
    ·exact .inr ⟨j+1,e',by grind,d,g⟩
section
variable{F F':Nat->Prop}{h h':Hp}{cs ds:List Pc}{Q:fq}{l:Nat}{S:Int->Option V}
theorem ej.zbW(H:ej F h cs)(i:Nat)(hi:cs[i]? =some (QM l S))(k:Int)(z:V):I4 en none z true (.map l) (.I k) h=some (.tuple (match S k with|some v=>[v,.bool true]|none=>[z,.bool false])):=by
 obtain ⟨⟨f,c,n,o,s⟩,_⟩:=H.ok i _ hi;have g:∀r,po en none (.I k) f 0=some r->I4 en none z true (.map l) (.I k) h=some (found z true r):=λr p=>by
  unfold I4 xH;simp only[n,fy];rw[p];rfl
 rcases IG k f 0 (by grind)with⟨d,m⟩|⟨j,e,d,m,q⟩
 ·rw[g _ d]
  cases hS:S k with
  |none=>rfl
  | some v=>
    grind
 ·rw[g _ d];obtain⟨k',a,b⟩:=o e (yC m);rw[q]at a;cases a;rw[b];rfl
theorem ej.zdh(H:ej F h cs)(i:Nat)(hi:cs[i]? =some (QM l S)){k:Int}(t:S k=none)(v:V):∃h',G2 en none (.map l) (.I k) v h=some (.val .undef h')/\h.next<=h'.next/\ej F h' (cs.set i (QM l (up S k (some v))))/\Sn F h F h':=by
 obtain⟨⟨d,c,n,o,u⟩,f,q⟩:=H.ok i _ hi;rcases IG k d 0 (by grind)with⟨g,m⟩|⟨j,e,g,m,x⟩
 ·have r:Ih en none d c (.I k) v=some (.map (d++[(.I k,v,c)]) (c+1)):=by unfold Ih;rw[g];rfl
  refine⟨h.put l (.map (d++[(.I k,v,c)]) (c+1)),?_,jb _,H.zL (p:=QM l (up S k (some v))) hi (lO.put _ rfl f) ⟨⟨_,_,fP _ f,λe s=>?_,λk' w hk=>?_⟩,f,q⟩ λ_ h=> .inl h⟩
  ·unfold G2 xH;simp only[n,fy,r];rfl
  ·rcases Bm.1 s with h|h
   ·grind[iI]
   simp_all
  ·by_cases e:k' = k
   ·simp_all
   simp_all[iI,My]
 ·obtain⟨k',a,b⟩:=o e (yC m)
  simp_all
theorem ej.zcn(H:ej F h cs):ej F (h.new (.map [] 0)) (QM h.next (λ_=>none)::cs)/\Sn F h F (h.new (.map [] 0)):=
 H.new (p:=QM h.next λ_=>none) _ ⟨by simp_all[fi],Pd _,H.fresh⟩ λ_ e=>e
end
abbrev Nx(l1 T1 l4 T4 lt Tt:Nat) (num:V) (ns:List Nat) (tc:List V) (iQ:V) (az:List Int) (ds:List Pc):List Pc:=
 er l1 T1 [.ptr lt 0]::er l4 T4 [num]::er lt Tt (tc++[iQ])::ev eN en ns num::ev eZ en az iQ::ds
def zI(ns:List Nat)(az:List Int)(v:Nat):Nat:=ns.getD (vy (iL az) (az.length+1) v) 0
section
variable{F F':Nat->Prop}{h h':Hp}{cs ds:List Pc}{Q:fq}{u:U}{l1 T1 l4 T4 lt Tt:Nat}{num iQ:V}{ns:List Nat}{tc:List V}{az:List Int}
theorem GU(b:ej F h (Nx l1 T1 l4 T4 lt Tt num ns tc iQ az ds))(d:tc.length=5)(e:az.length<=3000)(f:ns.length=az.length)(c:∀(v:Nat)(a:Int),az[v]? =some a->a<az.length){v:Nat}(hv:v<az.length)
  (H:∀w q,hV 1 num (.I (w:Nat))=some q->eQ q h=some (.I (zI ns az v:Nat))->Q (.I (w:Nat)) h):cP CS iW [.ptr lt 0,.I v] h Q:=by
 have g:eQ (.ptr lt 5) h=some iQ:=b.ld 2 rfl (by simp_all);refine Y2 g (b.row 4 rfl).read e c hv λi=>?_;have hx:ns[vy (iL az) (az.length+1) v]? =some (zI ns az v):=by
  unfold zI;rw[CM,g0 (by omega)];rfl
 obtain⟨l,o,j,k⟩:=b.Ia 3 rfl hx .i64
 simp_all
theorem IZ{ι:Type} [DecidableEq ι] {f:ι->Option (List Nat×V)}{i:ι}{xs:List Nat}{w:V}(n:Nat)(I:ej F h (Nx l1 T1 l4 T4 lt Tt num ns tc iQ az ds))(s:ds[n]? =some (fH en f))(hi:f i=some (xs,w))(t:tc.length=5)(J:az.length<=3000)(u:ns.length=az.length)(y:∀(v:Nat)(a:Int),az[v]? =some a->a<az.length)
  (z:∀x∈xs,x<az.length) (K:xs.length<1000000)
  (H:∀h',Sn F h F h'->ej F h' (Nx l1 T1 l4 T4 lt Tt num ns tc iQ az (ds.set n (fH en (up f i (some (xs.map (zI ns az),w))))))->Q (.tuple []) h') :
  cP CS hX [w,.ptr l4 0,.ptr l1 0] h Q:=by
 refine AD rfl rfl ?_;unfold ti;refine ed (I.rows (n+5) s hi).len ?_
 refine yF (λk l h'=>∃(j:Nat) (b:ι->Option (List Nat×V)),l=[w,.ptr l4 0,.ptr l1 0,w,.I xs.length,.I j]/\j+k=xs.length/\Sn F h F h'/\b=up f i (some ((xs.take j).map (zI ns az)++xs.drop j,w))/\ej F h' (Nx l1 T1 l4 T4 lt Tt num ns tc iQ az (ds.set n (fH en b)))) ?_ (k:=xs.length)
  ⟨0,_,rfl,by omega,Sn.refl _ _,rfl,?_⟩
 rotate_left
 ·have e:up f i (some ((xs.take 0).map (zI ns az)++xs.drop 0,w))=f:=funext (by grind[jo,iI]);rw[e];have:ds.set n (fH en f)=ds:=by
   obtain⟨L,A⟩:=jk.1 s;rw[<-A,List.set_getElem_self]
  simp_all
 rintro k _ _ _ _ _ _ L ⟨j,b,⟨⟩,hk,M,d,c⟩;unfold pH;have N:=(jk.1 s).1;have g:(ds.set n (fH en b))[n]? =some (fH en b):=by simp_all
 have m:b i=some ((xs.take j).map (zI ns az)++xs.drop j,w):=by rw[d,jo]
 by_cases hj:j<xs.length
 ·refine gR ?_;have hx:=g0 hj;have G:((xs.take j).map (zI ns az)).length=j:=by rw[B5,JT];omega
  have o:((xs.take j).map (zI ns az)++xs.drop j)[j]? =some xs[j]:=by
   rw[Ya (by omega),G,Nat.sub_self,VV hj];rfl
  have p:((xs.take j).map (zI ns az)++xs.drop j).set j (zI ns az xs[j])=(xs.take (j+1)).map (zI ns az)++xs.drop (j+1):=by
   rw[xV hx,MA,Mb,VV hj,List.set_append_right _ _ (by omega),G,Nat.sub_self];rfl
  have B:j<((xs.take j).map (zI ns az)++xs.drop j).length:=by grind
  have C:=z _ (EA hj);generalize xs[j]=x at*;obtain⟨la,O,_,D,P⟩:=(c.rows (n+5) g m).read.nat o .i64;refine ed D (ed P (ed (c.ld 1 rfl rfl) (ed (c.ld 0 rfl rfl) ?_)));refine GU c t J u y C λr q R S=>⟨jb _,ed R (ed S (ed D ⟨c.ld 1 rfl rfl,?_⟩))⟩
  obtain⟨l3,T,A,U,W,X,E,Y⟩:=c.XM (n+5) g m B (zI ns az x);rw[D]at U;obtain⟨rfl,rfl⟩:la=l3/\O=T:=by simp_all
  rw [W,ei];refine⟨X,fS ⟨k-1,by omega,j+1,_,rfl,by omega,M.trans Y,rfl,?_⟩⟩;have E:ej F A (Nx l1 T1 l4 T4 lt Tt num ns tc iQ az ((ds.set n (fH en b)).set n (fH en (up b i (some (((xs.take j).map (zI ns az)++xs.drop j).set j (zI ns az x),w)))))):=E;rw[List.set_set,p,d]at E;have e:up (up f i (some ((xs.take j).map (zI ns az)++xs.drop j,w))) i (some ((xs.take (j+1)).map (zI ns az)++xs.drop (j+1),w))=up f i (some ((xs.take (j+1)).map (zI ns az)++xs.drop (j+1),w)):=funext λa=>by
   by_cases e:a=i
   ·simp_all
   grind[iI]
  simp_all
 refine jf ?_;obtain rfl:j=xs.length:=by omega
 simp_all
end
open Un Dm
structure Y5 (ss:List (List (Fm×V×V))) (nm:Nat->Nat) (b:List Nat) (S:Int->Option V) (fl:KF->Option (List Nat×V)) (c:List (List (Fm×V×V))):Prop where
 map:∀s:Nat,S s=if s∈b then some (.I (b.idxOf s:Nat)) else none
 out:c=b.map λs=>ss.getD s []
 rows:∀s l k x a w,ss[s]? =some l->l[k]? =some (x,a,w)->fl (s,k,false)=some (if s∈b then x.locals.map nm else x.locals,a)/\fl (s,k,true)=some (if s∈b then x.stack.map nm else x.stack,w)
 nd:b.Nodup
 lt:∀s∈b,s<ss.length
def Ve(a:List Nat)(s:Nat):List Nat:=if s∈a then a else a++[s]
section
variable {F F':Nat->Prop} {h h':Hp} {cs ds:List Pc} {Q:fq} {u:U} {l1 T1 l4 T4 lt Tt lm lb Tb lr Tr lo To:Nat} {num iQ a0 a1 a2 a3 b0 b1 b2 b3 ws Ej:V} {ns:List Nat} {az:List Int} {S:Int->Option V}
 {fl:KF->Option (List Nat×V)} {ss sos:List (List (Fm×V×V))} {sl:List Nat}
abbrev Sx(fl:KF->Option (List Nat×V)) (ss:List (List (Fm×V×V))) (ws:V) (lm:Nat) (S:Int->Option V) (lb Tb lr Tr l4 l1 lo To:Nat) (b0 b1 b2 b3 Ej:V) (a:List (List (Fm×V×V))) (ds:List Pc):List Pc:=
 fH en fl::ev (eL OP) kJ ss ws::QM lm S::er lb Tb [.map lm]::er lr Tr [.func hX [] [.ptr l4 0,.ptr l1 0]]::er lo To [b0,b1,b2,b3,Ej]::ev (eL OP) kJ a Ej::ds
theorem ej.FQ{p:Pc}(H:ej F h (p::cs))(n:Nat)(a:n<=cs.length):ej F h (cs.take n++p::cs.drop n):=by
 have b:(cs.take n).length=n:=by rw[JT];omega
 refine H.re (λi=>if i<n then i+1 else if i=n then 0 else i) (λi c hc=>?_) λi j _ _ e=>?_
 ·grind
 grind
theorem ej.AY(H:ej F h cs)(n:Nat)(a:n<=cs.length):ej F h (cs.take n++cs.drop (n+1)):=by
 have b:(cs.take n).length=n:=by rw[JT];omega
 refine H.re (λi=>if i<n then i else i+1) (λi c hc=>?_) λi j _ _ e=>?_
 ·grind
 grind
theorem ej.zc9{α:Type}{E:o0 α}{ty:Nat}{xs:List α}{v:V}(H:ej F h cs)(i:Nat)(hi:cs[i]? =some (ev E ty xs v)){k n l o:Nat}{kd:IntKind}(hk:k<xs.length)(e:hV n v (.int kd (k:Nat))=some (.ptr l o)):l<h.next:=by
 rcases H.row i hi with⟨_,rfl⟩|⟨t,ws,rfl,a,_⟩
 ·simp_all
 grind[vN]
theorem M4(C:ej F h (Nx l1 T1 l4 T4 lt Tt num ns [a0,a1,a2,a3,ws] iQ az (Sx fl ss ws lm S lb Tb lr Tr l4 l1 lo To b0 b1 b2 b3 Ej sos ds)))(c:Y5 ss (zI ns az) sl S fl sos)(hn:az.length<=3000)(I:ns.length=az.length)(J:∀(v:Nat)(a:Int),az[v]? =some a->a<az.length)
  {s:Nat} {l:List (Fm×V×V)} (hs:ss[s]? =some l) (ap:ss.length<=1000) (aq:l.length<=1000) (Z:∀y∈l,y.1.locals.length<=1000/\y.1.stack.length<=1000/\(∀v∈y.1.locals,v<az.length)/\∀v∈y.1.stack,v<az.length)
  (H:∀h' d S' q f,Sn F h F h'->Y5 ss (zI ns az) (Ve sl s) S' d q->ej F h' (Nx l1 T1 l4 T4 lt Tt num ns [a0,a1,a2,a3,ws] iQ az (Sx d ss ws lm S' lb Tb lr Tr l4 l1 lo To b0 b1 b2 b3 f q ds))->Q (.I ((Ve sl s).idxOf s:Nat)) h') :
  cP CS fE [.I s,.ptr lb 0,.ptr lo 0,.ptr l1 0,.ptr lr 0] h Q:=by
 refine AW rfl rfl ?_;unfold sr;refine ed (C.ld 8 rfl rfl) (ed (C.zbW 7 rfl s _) ?_);rw[c.map s];have aa:s<ss.length:=by grind
 by_cases hm:s∈sl
 ·rw[if_pos hm];refine ed (A9 0 _) (ed (A9 1 _) (wW (gI rfl ?_)));refine px ?_;unfold mh;have ha:Ve sl s=sl:=if_pos hm
  grind[Sn.refl]
 rw [if_neg hm];have ha:Ve sl s=sl++[s]:=if_neg hm;rw[ha]at H;have hk:(sl++[s]).idxOf s=sl.length:=by
  rw[List.idxOf_append,if_neg hm];simp
 rw[hk]at H;have K:sos.length=sl.length:=by rw[c.out,B5]
 have ao:sl.length<=ss.length:=jr _ _ c.nd c.lt;refine ed (A9 0 _) (ed (A9 1 _) (wW (gv (by simp) ?_)));refine ed (by rfl) (ed (C.ld 10 rfl rfl) (ed (C.len 11 rfl) (ed (C.ld 8 rfl rfl) ?_)));rw[K];obtain⟨D,e1,_,E,s1⟩:=C.zdh 7 rfl (k:=(s:Int)) (by rw[c.map s,if_neg hm]) (.I sl.length);have ab:G2 3 none (.map lm) (.I s) (.I sl.length) h=some (.val .undef D):=e1;rw[ab,ei];simp only[jx,lU]at E;obtain⟨lx,L,wx,p,M,⟨Y,rfl,xf⟩,N⟩:=E.WG 6 rfl hs .i64;have p:hV 1 ws (.I s)=some (.ptr lx L):=p;have N:eQ (.ptr lx (L+0)) D=some Y:=N 0 Y rfl;refine ed (E.ld 0 rfl rfl) (ed (fI _ _) (ed (by rfl) (ed (by rfl) (ed (E.ld 2 rfl rfl) (ed p (ed (by rfl) (ed N (ed xf.len ?_))))))))
 refine yT (λk l' h'=>∃(j:Nat) (d:KF->Option (List Nat×V)),l' = [.I s,.ptr lo 0,.ptr l1 0,.ptr lr 0,.I sl.length,Y,.I l.length,.I j]/\j+k=l.length/\Sn F D F h'/\
  (∀t k b,t≠s->d (t,k,b)=fl (t,k,b))/\(∀k x a w,l[k]? =some (x,a,w)->d (s,k,false)=some (if k<j then x.locals.map (zI ns az) else x.locals,a)/\d (s,k,true)=some (if k<j then x.stack.map (zI ns az) else x.stack,w))/\
  ej F h' (Nx l1 T1 l4 T4 lt Tt num ns [a0,a1,a2,a3,ws] iQ az (Sx d ss ws lm (up S s (some (.I sl.length))) lb Tb lr Tr l4 l1 lo To b0 b1 b2 b3 Ej sos ds))) ?_ (k:=l.length)
  ⟨0,fl,rfl,by omega,Sn.refl _ _,by simp_all,λk x a w hk=>?_,E⟩
 rotate_left
 ·have:=c.rows s l k x a w hs hk
  simp_all
 clear E p N;rintro k _ _ _ _ _ _ _ _ G ⟨j,d,⟨⟩,ar,s2,O,ac,r⟩;unfold pw;have ae:=xf.since s2;by_cases hj:j<l.length
 ·refine gR ?_;have hy:=g0 hj;obtain⟨P,R,A,B⟩:=Z _ (EA hj);obtain⟨ly,oy,wy,_,y1,y2,y3,_⟩:=ae.ix hj .i64;obtain⟨⟨x,a,w⟩,ag⟩:∃y,l[j]=y:=⟨_,rfl⟩
  rw[ag]at hy y3 P R A B;dsimp only at P R A B;obtain⟨rfl,y4,y5⟩:=y3;have y1:hV 4 Y (.I j)=some (.ptr ly oy):=y1;refine ed y1 (ed y2 ?_);refine gQ r rfl rfl (by simp only[Ji,eo,y4,y5];rfl) λh3 m s3=>?_;generalize G.next=lf at*;have m:ej F h3 (Nx l1 T1 l4 T4 lt Tt num ns [a0,a1,a2,a3,ws] iQ az (Sx d ss ws lm (up S s (some (.I sl.length))) lb Tb lr Tr l4 l1 lo To b0 b1 b2 b3 Ej sos (er lf 44 (Ji x a w)::ds))):=m.FQ 12 (by simp);obtain⟨T,ah⟩:=ac j x a w hy;rw[if_neg (by omega)]at T ah;refine ed (m.ld 9 rfl rfl) (ed (by rfl) (ed (m.ld 12 rfl rfl) ?_));show cP CS hX [a,.ptr l4 0,.ptr l1 0] h3 _;refine IZ 0 m rfl T rfl hn I J A (by omega) λU s4 n=>?_;simp only[jx]at n;have n:ej F U (Nx l1 T1 l4 T4 lt Tt num ns [a0,a1,a2,a3,ws] iQ az (Sx (up d (s,j,false) (some (x.locals.map (zI ns az),a))) ss ws lm (up S s (some (.I sl.length))) lb Tb lr Tr l4 l1 lo To b0 b1 b2 b3 Ej sos (er lf 44 (Ji x a w)::ds))):=n;refine ed (n.ld 9 rfl rfl) (ed (by rfl) (ed (n.ld 12 rfl rfl) ?_));show cP CS hX [w,.ptr l4 0,.ptr l1 0] U _;refine IZ 0 n rfl (i:=(s,j,true)) (by grind[iI]) rfl hn I J B (by omega) λh5 s5 W=>?_;simp only[jx]at W;refine fS ⟨k-1,by omega,j+1,_,rfl,by omega,((s2.trans s3).trans s4).trans s5,λt k b ht=>?_,λk z b c hk=>?_,W.AY 12 (by simp)⟩
  ·rw[iI _ _ (by simp[ht]),iI _ _ (by simp[ht])]
   grind
  ·by_cases e:k=j
   ·simp_all[if_pos,iI,jo]
   ·rw[iI _ _ (by simp),iI _ _ (by simp[e]),iI _ _ (by simp[e]),iI _ _ (by simp)]
    grind
 refine jf ?_;obtain rfl:j=l.length:=by omega
 obtain⟨lx,L,wx,p,M,⟨g,rfl,X⟩,N⟩:=r.WG 6 rfl hs .i64;have p:hV 1 ws (.I s)=some (.ptr lx L):=p;have M:fM 1 (.ptr lx L) G=some (.agg [g]):=M;refine ed (by rfl) (ed (r.ld 10 rfl rfl) (ed (r.ld 0 rfl rfl) (ed (fI _ _) (ed (by rfl) (ed (by rfl) (ed (r.ld 2 rfl rfl) (ed p (ed M ?_))))))));rw[ng (sz:=1) (w:=[g]) rfl rfl (by simp only[eo,X.one];rfl),gZ];have m:ej F (G.new (.cells 47 1 true false [g])) (er G.next 47 [g]::_):=(r.yO kJ [g]).1;obtain⟨f,U,e4,n4,n,s4⟩:=r.uI 11 rfl (kj:=24) (B2:=47) (y:=l) (w:=[g]) (ro:=false) ⟨g,rfl,X⟩ (by decide) (by decide) (by omega);have ai:eR 47 1 24 Ej (.slice G.next 0 1) (G.new (.cells 47 1 true false [g]))=some (.val f U):=e4;have aj:=r.zc9 6 rfl aa p;have ak:=VM M (fh (.cells 47 1 true false [g]) aj);refine⟨⟨m.get 0 rfl,bq⟩,ak,m.ld 3 rfl rfl,m.ld 1 rfl rfl,m.ld 11 rfl rfl,?_⟩;rw[ai,ei];simp only[jx,lU]at n;obtain⟨h5,e5,n5,W,s5⟩:=n.st 10 (o:=4) (u:=f) rfl (by simp) (n.one 11 rfl);refine⟨by simp_all,ed (by rfl) ?_⟩;have al:gh 1 (.ptr lo (0+4)) f U=some (.val .undef h5):=by rw[wO];exact e5
 rw[al,ei];simp only[jx,lU]at W;refine⟨n5,px ?_⟩;unfold mh;have am:ss.getD s []=l:=by rw[CM,hs];rfl
 refine H h5 d (up S s (some (.I sl.length))) (sos++[l]) f (((s1.trans s2).trans s4).trans s5) ⟨λt=>?_,by rw[c.out,MA,Yb,W7,am],λt l' k x a w ht an=>?_,?_,λt ht=>?_⟩ W
 ·by_cases e:t=s
  ·simp_all
  ·rw[iI _ _ (by omega),c.map t]
   grind
 ·by_cases e:t=s
  ·grind
  ·rw[O t k false e,O t k true e];have:=c.rows t l' k x a w ht an
   simp_all
 ·rw[Zq];exact⟨c.nd,by simp,by grind⟩
 ·rcases Bm.1 ht with D|D
  ·exact c.lt t D
  simp_all
end
open Un Dm
section
variable{F F':Nat->Prop}{h h':Hp}{cs ds:List Pc}{Q:fq}{u:U}
theorem Z2(cs:List Pc):∀(a:List Nat),(∀m∈a,m<cs.length)->(a.filterMap λm=>cs[m]?).length=a.length/\∀i:Nat,(a.filterMap λm=>cs[m]?)[i]? = (a[i]?).bind λm=>cs[m]?
 |[],_=>by simp_all
 | m::a,hm=>by
   obtain⟨b,c⟩:=Z2 cs a (by simp_all)
   grind
theorem ej.perm(H:ej F h cs)(a:List Nat)(k:Nat)(b:∀m∈a,m<k)(d:a.Nodup)(hk:k<=cs.length):ej F h ((a.filterMap λm=>cs[m]?)++cs.drop k):=by
 obtain⟨f,l⟩:=Z2 cs a (by grind);refine H.re (λi=>if i<a.length then a.getD i 0 else k+(i-a.length)) (λi c hc=>?_) λi j _ _ e=>?_
 ·grind
 ·have g:∀i,i<a.length->a.getD i 0<k/\a[i]? =some (a.getD i 0):=by simp_all
  by_cases hi:i<a.length
  ·rw [if_pos hi]at e;by_cases hj:j<a.length
   ·rw[if_pos hj]at e
    grind[oG]
   grind
  grind
end
structure xR (u:U) (az:List Int):Prop where
 nv:u.ef.length<=3000
 nb:u.blocks.length<=300
 ns:u.eh.length<=1000
 once:YC u
 jz:∀(v b k:Nat),At u v b k->v<u.ef.length
 len:az.length=u.ef.length
 sub:∀(v:Nat) (a:Int),az[v]? =some a->a<az.length
 parts:∀(v:Nat) (x:Vl),u.ef[v]? =some x->x.args.length<=700/\(pe x.op=true\/two x.op=true->x.a<u.ef.length)/\(two x.op=true->x.b<u.ef.length)/\(x.op=21\/x.op=20->∀w∈x.args,w<u.ef.length)/\(leaves x.op=true->x.state<u.eh.length)
 ends:∀(b:Nat) (B:Bk),u.blocks[b]? =some B->(B.fin=2->B.cond<u.ef.length)/\(B.fin=3->B.state<u.eh.length)
 st:∀(s:Nat) (fs:List Fm),u.eh[s]? =some fs->fs.length<=1000/\∀f∈fs,f.locals.length<=1000/\f.stack.length<=1000/\(∀v∈f.locals,v<u.ef.length)/\∀v∈f.stack,v<u.ef.length
structure NbB (u:U) (az:List Int) (i:Nat) (bs a:List (Bk×V)):Prop where
 len:a.length=bs.length
 row:∀(b:Nat) (B:Bk) (w:V),bs[b]? =some (B,w)->a[b]? =some (if b<i then{B with ef:=(B.ef.filter (stays (iL az))).map (fu u (iL az)).idxOf} else B,w)
section
variable{F F':Nat->Prop}{h h':Hp}{cs ds:List Pc}{Q:fq}{u:U}{wv wb ws iQ:V}{lt Tt:Nat}{az:List Int}{xs:List (Vl×V)}{bs:List (Bk×V)}{fa fn:Nat->Option (List Nat×V)}{ss:List (List (Fm×V×V))}{fl:KF->Option (List Nat×V)}
theorem Za{T l o:Nat}{K:fq}(H:ej F h ds)(b:∀a,ej F a (er h.next T [.ptr l o]::ds)->Sn F h F a->K (.ptr h.next 0) a):gX (mm T (.ptr l o)) h K:=by
 rw[show mm T (.ptr l o)=some (.cells T 1 true false [.ptr l o],λl=> .ptr l 0) from rfl,fF];exact b _ (H.yO T _).1 (H.yO T [.ptr l o]).2
theorem rh{T:Nat}{ws:List V}{K:fq}(H:ej F h ds)(b:∀a,ej F a (er h.next T ws::ds)->Sn F h F a->K (.ptr h.next 0) a):gX (some (O.cells T 1 true false ws,λl=>V.ptr l 0)) h K:=by
 rw[fF];exact b _ (H.yO T _).1 (H.yO T ws).2
theorem U1{T:Nat}{ws:List V}{K:O->fq}(H:ej F h ds)(b:∀a,ej F a (er h.next T ws::ds)->Sn F h F a->K (.cells T 1 true false ws) (.ptr h.next 0) a):wP (some (O.cells T 1 true false ws,λl=>V.ptr l 0)) h K:=by
 rw[gZ];exact b _ (H.yO T _).1 (H.yO T ws).2
theorem Td{T:Nat}{ws:List V}{K:O->fq}(H:ej F h ds)(a:fZ ws=true)(b:ej F (h.new (.cells T 1 true false ws)) (er h.next T ws::ds)->Sn F h F (h.new (.cells T 1 true false ws))->K (.cells T 1 true false ws) (.ptr h.next 0) (h.new (.cells T 1 true false ws))):wP (mm T (.agg ws)) h K:=by
 rw[Ep a,gZ];exact b (H.yO T _).1 (H.yO T ws).2
theorem Lq{T:Nat}{z w:V}{K:fq}(H:ej F h ds)(c:w.one=true)(d:∀a,ej F a (er h.next T [w]::ds)->Sn F h F a->K (.ptr h.next 0) a):gX (some (O.cells T 1 true false [z],λl=>V.ptr l 0)) h λv b=>fc (gh 1 v w b) λ_ a=>K v a:=by
 refine rh H λb e f=>?_;obtain⟨a,g,_,i,j⟩:=e.st 0 (o:=0) rfl (by simp) c;rw[g,ei];exact d a i (f.trans j)
theorem za0{K:fq}(H:ej F h ds)(b:∀a,ej F a (QM h.next (λ_=>none)::ds)->Sn F h F a->K (.map h.next) a):gX (some (O.map [] 0,λl=>V.map l)) h K:=by
 rw[fF];exact b _ H.zcn.1 H.zcn.2
theorem PZ(g:xR u az)(hc:VZ u.ef xs fa)(hb:UX u.blocks bs fn)
  (H0:ej F h (ev vE gi xs wv::ev ta fo bs wb::fH en fa::fH en fn::ev eZ en az iQ::er lt Tt [.I u.func,.I u.pc,wv,wb,ws,iQ]::ev (eL OP) kJ ss ws::fH en fl::cs))
  (H:∀F' h' l1 T1 l2 l3 l4 T4 lm lb Tb lr Tr num ns U c,Sn F h F' h'->NbB u az u.blocks.length bs c->ns.length=u.ef.length->(∀v,v<u.ef.length->ns[v]? =some (if v∈fu u (iL az) then(fu u (iL az)).idxOf v else 0))->
   ej F' h' (Nx l1 T1 l4 T4 lt Tt num ns [.I u.func,.I u.pc,wv,wb,ws] iQ az (Sx fl ss ws lm (λ_=>none) lb Tb lr Tr l4 l1 l3 fT (.I u.func) (.I u.pc) .ee .ee .ee []
    (ev vE gi xs wv::ev ta fo c wb::fH en fa::fH en fn::ev vE gi [] .ee::ev ta fo [] .ee::er l2 fT [.I 0,.I 0,.ee,.ee,.ee]::ev eN en (fu u (iL az)) U::cs)))->
   kM CS Q [.ptr l1 0,.ptr l2 0,.ptr l3 0,.ptr l4 0,.ptr lr 0,.func fE [] [.ptr lb 0,.ptr l3 0,.ptr l1 0,.ptr lr 0],U,.I ((fu u (iL az)).length:Nat),.I 0] h') :
  cP CS j9 [.ptr lt 0] h Q:=by
 refine CB rfl rfl ?_;unfold uV;have nv:=g.nv;have nb:=g.nb;have ag:bs.length=u.blocks.length:=by rw[<-hb.fst,B5]
 have ah:xs.length=u.ef.length:=by rw[<-hc.fst,B5]
 refine Za H0 λh1 H1 s1=>rh H1 λh2 R s2=>?_;generalize h.next=l1 at*;generalize h1.next=l2 at*;refine ed (R.ld 1 rfl rfl) (ed pn (ed pf (oF (R.ld 7 rfl rfl) (ed (R.ld 1 rfl rfl) (ed pn (ed pf (oF (R.ld 7 rfl rfl) ?_)))))));refine ed (by rfl) ?_;refine U1 R λh3 M s3=>?_;generalize h2.next=l3 at*;refine⟨⟨M.get 0 rfl,bq⟩,M.ld 8 rfl rfl,M.ld 2 rfl rfl,M.ld 8 rfl rfl,M.ld 2 rfl rfl,?_⟩;obtain⟨h4,e4,n4,S,s4⟩:=M.Uf 0 (ws:=[.I u.func,.I u.pc,.ee,.ee,.ee]) (n:=5) rfl rfl rfl rfl;rw[e4,ei];simp only[jx]at S;refine⟨n4,ed (S.ld 2 rfl rfl) (ed pn (ed pf (oF (S.ld 8 rfl rfl) (ed (S.len 3 rfl) ?_))))⟩;rw[ah,oC (z:=V.I 0) rfl (by decide) (by omega),fF];obtain⟨H5,s5⟩:=S.make (E:=eN) (ty:=en) (y:=0) (u:=V.I 0) u.ef.length rfl rfl;generalize h4.new (.cells en 1 true false (List.replicate u.ef.length (V.I 0)))=h5 at*;generalize h4.next=ln at*;refine Lq H5 rfl λh6 N s6=>?_;generalize h5.next=l4 at*;refine ed (N.ld 4 rfl rfl) (ed pn (ed pf (oF (N.ld 10 rfl rfl) (ed (N.len 6 rfl) ?_))));rw[ag];have W:=((((s1.trans s2).trans s3).trans s4).trans s5).trans s6;clear H0 H1 R M S H5 s1 s2 s3 s4 s5 s6 e4 n4;have N:=N.add (p:=ev eN en [] .ee) .nil λ_ h=>h;obtain⟨A,hA⟩:∃A,iL az=A:=⟨_,rfl⟩
 rw[hA]at H
 refine z6 (λk l h'=>∃(F':Nat->Prop) (i:Nat) (ns:List Nat) (c:List (Bk×V)) (r:V),l=[.ptr l1 0,.ptr l2 0,.ptr l3 0,.ptr l4 0,r,.I u.blocks.length,.I i]/\i+k=u.blocks.length/\Sn F h F' h'/\NbB u az i bs c/\
  ns.length=u.ef.length/\(∀v,v<u.ef.length->ns[v]? =some (if v∈jK u A i 0 then(fu u A).idxOf v else 0))/\
  ej F' h' (ev eN en (jK u A i 0) r::er l4 _ [.slice ln 0 u.ef.length]::ev eN en ns (.slice ln 0 u.ef.length)::er l3 fT [.I u.func,.I u.pc,.ee,.ee,.ee]::er l2 fT [.I 0,.I 0,.ee,.ee,.ee]::er l1 _ [.ptr lt 0]::ev vE gi xs wv::ev ta fo c wb::fH en fa::fH en fn::ev eZ en az iQ::er lt Tt [.I u.func,.I u.pc,wv,wb,ws,iQ]::ev (eL OP) kJ ss ws::fH en fl::cs)) ?_ (k:=u.blocks.length)
  ⟨F,0,_,bs,.ee,rfl,by omega,W,⟨rfl,by simp_all⟩,wBY,λv hv=>by rw[List.getElem?_replicate,if_pos hv,Jf,if_neg (by simp)],by rw[Jf];exact N⟩
 clear N W;rintro k _ _ _ _ r _ _ h7 ⟨X,i,ns,c,_,⟨⟩,hk,s7,x,o,f,D⟩;unfold rr;by_cases hi:i<u.blocks.length
 ·refine gR ?_;obtain⟨⟨B,wn⟩,Y⟩:∃y,bs[i]? =some y:=by simp_all
  have K:u.blocks[i]? =some B:=by rw[<-hb.fst,xk,Y];rfl
  have aq:B.ef.length<=u.ef.length:=jr _ _ (Gk g.once K) λv hv=>by
   obtain⟨k,hk⟩:=mr.1 hv;exact g.jz v i k ⟨B,K,hk⟩
  have L:c[i]? =some (B,wn):=by have:=x.row i B wn Y;rwa [if_neg (by omega)]at this
  obtain⟨l8,o8,w8,T,_,⟨bv,bp,rfl,iv,ip,ar⟩,x3⟩:=D.WG 7 rfl L .i64;have T:hV 6 wb (.I i)=some (.ptr l8 o8):=T;refine ed (D.ld 5 rfl rfl) (ed pn (ed pf (oF (D.ld 11 rfl rfl) (ed T (oF (x3 0 _ rfl) (ed iv.len ?_))))));have D:=D.add (p:=ev eN en [] .ee) .nil λ_ h=>h
  refine z8 (λk' l h'=>∃(j:Nat) (ns:List Nat) (r G:V),l=[.ptr l1 0,.ptr l2 0,.ptr l3 0,.ptr l4 0,r,.I i,G,.I u.blocks.length,.I i,bv,.I B.ef.length,.I j]/\j+k' = B.ef.length/\Sn F h X h'/\Sn X h7 X h'/\
   ns.length=u.ef.length/\(∀v,v<u.ef.length->ns[v]? =some (if v∈jK u A i j then(fu u A).idxOf v else 0))/\
   ej X h' (ev eN en (((B.ef.take j).filter (stays A)).map (fu u A).idxOf) G::ev eN en (jK u A i j) r::er l4 _ [.slice ln 0 u.ef.length]::ev eN en ns (.slice ln 0 u.ef.length)::er l3 fT [.I u.func,.I u.pc,.ee,.ee,.ee]::er l2 fT [.I 0,.I 0,.ee,.ee,.ee]::er l1 _ [.ptr lt 0]::ev vE gi xs wv::ev ta fo c wb::fH en fa::fH en fn::ev eZ en az iQ::er lt Tt [.I u.func,.I u.pc,wv,wb,ws,iQ]::ev (eL OP) kJ ss ws::fH en fl::cs)) ?_ (k:=B.ef.length)
   ⟨0,ns,r,.ee,rfl,by omega,s7,Sn.refl _ _,o,f,D⟩
  clear D o f T x3;rintro k' _ _ _ _ r _ G _ _ _ _ _ h8 ⟨j,ns,_,_,⟨⟩,au,Z,O,o,f,s⟩;unfold rq;have aw:(jK u A i j).length<=u.ef.length:=by
   have h1:=(Fz («as»:=A) (j:=j) K).length_le;have h2:=jr u.ef.length (fu u A) (xO g.once) λv hv=>EF g.jz hv;omega
  have ax:((B.ef.take j).filter (stays A)).length<=(jK u A i j).length:=by
   unfold jK;rw[K,KC];exact Nat.le_add_left _ _
  by_cases hj:j<B.ef.length
  ·refine gR ?_;have hx:=g0 hj;have ay:=xV hx;generalize B.ef[j]=v at*;have ai:=g.jz v i j ⟨B,K,hx⟩;obtain⟨la,oa,_,T,x2⟩:=(iv.since O).nat hx .i64;obtain⟨a,ha⟩:∃a,az[v]? =some a:=⟨_,g0 (by rw[g.len];exact ai)⟩
   obtain⟨lb,ob,y1,y2⟩:=s.NJ 11 rfl ha .i64;have aa:A v=a:=by rw[<-hA];exact CX ha
   have I:=Jt («as»:=A) K hx;refine ed T (ed x2 (ed (s.ld 6 rfl rfl) (oN (s.ld 12 rfl rfl) (ed y1 (ed y2 (gM ?_))))));by_cases e:a=(v:Int)
   ·refine gI e ?_;have J:stays A v=true:=by unfold stays;rw[aa,e];exact beq_self_eq_true _
    rw[if_pos J]at I;obtain⟨aA,aB⟩:=zaO («as»:=A) g.once K hx J;refine ed (s.ld 2 rfl rfl) (ed (s.len 1 rfl) ?_);obtain⟨lc,oc,h9,e1,e2,_,q,s9⟩:=s.Ma 3 rfl (k:=v) (y:=(jK u A i j).length) (u:=V.I ((jK u A i j).length:Nat)) (by omega) rfl rfl rfl;refine ed e1 ?_;rw[e2,ei];simp only[jx,lU]at q;refine ed (q.len 1 rfl) ?_;rw[mN,fF];obtain⟨va,m,aj,_,d,t⟩:=q.uI 0 rfl (kj:=8) (B2:=3) (y:=(jK u A i j).length) (w:=iT [(jK u A i j).length]) (ro:=false) rfl (by decide) (by decide) (by simp;omega);have ab:eR 3 1 8 G (.slice h9.next 0 1) (h9.new (.cells 3 1 true false (iT [(jK u A i j).length])))=some (.val va m):=aj;rw[ab,ei];simp only[jx,lU]at d;rw[mN,fF];obtain⟨vc,ak,al,_,P,am⟩:=d.uI 1 rfl (kj:=8) (B2:=3) (y:=v) (w:=iT [v]) (ro:=false) rfl (by decide) (by decide) (by omega);have ac:eR 3 1 8 r (.slice m.next 0 1) (m.new (.cells 3 1 true false (iT [v])))=some (.val vc ak):=al;rw[ac,ei];simp only[jx,lU]at P;refine qk ?_;unfold mw;have sA:=(s9.trans t).trans am;refine fS ⟨k'-1,by omega,j+1,ns.set v (jK u A i j).length,vc,va,rfl,by omega,Z.trans sA,O.trans sA,by simp_all,λw hw=>?_,?_⟩
    ·grind
    simp_all
   ·refine gv e (qk ?_);unfold mw;have J:stays A v=false:=by unfold stays;rw[aa];exact SJ.2 e
    rw[J]at I;have I:jK u A i (j+1)=jK u A i j:=I;refine fS ⟨k'-1,by omega,j+1,ns,r,G,rfl,by omega,Z,O,o,by simp_all,?_⟩
    simp_all
  refine jf ?_;obtain rfl:j=B.ef.length:=by omega
  rw [Hj]at s;rw[Ql K]at f s;obtain⟨q,s9,r9⟩:=s.lH 0 rfl;simp only[jx]at q;have q:=q.tail;generalize (λl=>X l\/Loc G l)=F9 at*;have ae:=jk.1 L;obtain⟨lq,m,e1,e2,_,d,t⟩:=q.stF 7 rfl (k:=i) (j:=0) (y:=({B with ef:=(B.ef.filter (stays A)).map (fu u A).idxOf},wn)) (a:=G) ae.1 (by decide) r9.one (λw' hw=>by
   rw[ae.2]at hw;obtain⟨pv,pp,rfl,_,q2,q3⟩:=hw;exact⟨G,pp,rfl,r9,q2,q3⟩)
  have e1:hV 6 wb (.I i)=some (.ptr lq (i*6)):=e1;refine ed (q.ld 5 rfl rfl) (ed pn (ed pf (oF (q.ld 11 rfl rfl) (ed e1 (ed pf ?_)))));have an:gh 1 (.ptr lq (i*6+0)) G h8=some (.val .undef m):=e2;rw[an,ei];simp only[jx,lU]at d;refine fS ⟨k-1,by omega,F9,i+1,ns,_,r,rfl,by omega,(Z.trans s9).trans t,⟨by rw[Lm,x.len],λb C w ao=>?_⟩,o,f,d⟩;by_cases e:b=i
  ·grind
  ·rw[IB (by omega),x.row b C w ao]
   grind
 refine jf ?_;obtain rfl:i=u.blocks.length:=by omega
 rw[SK]at f D;refine za0 D λh8 s Z=>Lq s rfl λh9 q s9=>Lq q rfl λm d t=>?_;generalize h7.next=lm at*;generalize h8.next=lb at*;generalize h9.next=lr at*;refine ed (d.len 3 rfl) ?_;have P:=((d.add (p:=ev (eL OP) kJ [] .ee) .nil λ_ h=>h).add (p:=ev vE gi [] .ee) .nil λ_ h=>h).add (p:=ev ta fo [] .ee) .nil λ_ h=>h;have ap:=P.perm [11,7,17,8,16,19,18,5,4,3,9,2,12,13,14,15,1,0,10,6] 20 (by decide) (by decide) (by simp);exact H _ m l1 _ l2 l3 l4 _ lm lb _ lr _ _ ns _ c (((s7.trans Z).trans s9).trans t) x o f ap
end
