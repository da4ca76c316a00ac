/- Parts. -/
import Derived.Test.YtloecllhljfidaaGreatDoorM29
set_option maxHeartbeats 4000000
namespace Go.Proofs.YtloecllhljfidaaGreatDoor.Hx
open Un Dm
variable{T:Nat}{K:fq}
def X9(l:Nat)(S:Int->Option V):Pc where
 my:=λm=>m=l
 ok F h:=(∃a c,h.get l=some (.map a c)/\(∀e∈a,∃k,e.1 = .I k/\S k=some e.2.1)/\∀k v,S k=some v->∃e∈a,e.1 = .I k)/\l<h.next/\¬F l
 Nn:=by simp_all
 fk:=by grind
 mono:=by simp_all
theorem L1(k:Int):∀a i,(∀e∈a,∃k,e.1 = .I k)->
  (ri eR none (.I k) a i=some none/\∀e∈a,e.1≠ .I k)\/∃j e,ri eR none (.I k) a i=some (some (i+j,e.2.1))/\a[j]? =some e/\e.1 = .I k
 |[],i,_=> .inl ⟨rfl,by simp_all⟩
 | e ::a,i,h=>by
   let⟨k',c⟩:=h e (wBN ..)
   have b:ri eR none (.I k) (e::a) i=if k=k' then some (some (i,e.2.1)) else ri eR none (.I k) a (i+1):=by
     show oB (Oe eR none (.I k) e.1) _=_;rw[c,show Oe eR none (V.I k) (V.I k')=some (k == k') from VO _ _];by_cases hk:k=k'
     ·simp_all
     ·rw[if_neg hk,PG.2 hk];rfl
   by_cases hk:k=k'
   ·subst hk
    rw[if_pos rfl]at b;exact .inr ⟨0,e,b,rfl,c⟩
   ·rw[if_neg hk]at b
    rcases L1 k a (i+1) (by grind)with⟨f,d⟩|⟨j,e',f,d,g⟩
    ·grind
    ·exact .inr ⟨j+1,e',by grind,d,g⟩
section
variable{F F':Nat->Prop}{h h':Hp}{cs ds:List Pc}{Q:fq}{l:Nat}{S:Int->Option V}
theorem ev.zfS(H:ev F h cs)(i:Nat)(hi:cs[i]? =some (X9 l S))(k:Int)(z:V):MG eR none z true (.map l) (.I k) h=some (.tuple (match S k with|some v=>[v,.bool true]|none=>[z,.bool false])):=by
 let⟨⟨es,c,m,n,q⟩,_⟩:=H.ok i _ hi
 have f:∀r,ri eR none (.I k) es 0=some r->MG eR none z true (.map l) (.I k) h=some (found z true r):=λr o=>by
  unfold MG FP;simp[m,ft];rw[o];rfl
 rcases L1 k es 0 (by grind)with⟨d,g⟩|⟨j,e,d,g,p⟩
 ·rw[f _ d]
  cases hS:S k with
  |none=>rfl
  | some v=>
    grind
 ·rw[f _ d]
  let⟨k',a,b⟩:=n e (zD g)
  rw[p]at a;cases a;rw[b];rfl
theorem ev.zgi(H:ev F h cs)(i:Nat)(hi:cs[i]? =some (X9 l S)){k:Int}(r:S k=none)(v:V):∃h',MT eR none (.map l) (.I k) v h=some (.val .undef h')/\h.next<=h'.next/\ev F h' (cs.set i (X9 l (up S k (some v))))/\Sn F h F h':=by
 let⟨⟨es,c,m,n,s⟩,d,o⟩:=H.ok i _ hi
 rcases L1 k es 0 (by grind)with⟨f,g⟩|⟨j,e,f,g,t⟩
 ·have p:LD eR none es c (.I k) v=some (.map (es++[(.I k,v,c)]) (c+1)):=by unfold LD;rw[f];rfl
  refine⟨h.put l (.map (es++[(.I k,v,c)]) (c+1)),?_,iZ _,H.Au hi (lP.put _ rfl d) ⟨⟨_,_,fY _ d,λe q=>?_,λk' w hk=>?_⟩,d,o⟩ λ_ h=> .inl h⟩
  ·unfold MT FP;simp[m,ft,p];rfl
  ·rcases EG.1 q with h|h
   ·grind[iX]
   simp_all
  ·by_cases e:k' = k
   ·simp_all
   simp_all[iX,Ti]
 ·let⟨k',a,b⟩:=n e (zD g)
  simp_all
theorem ev.zfH(H:ev F h cs):ev F (h.new (.map [] 0)) (X9 h.next (λ_=>none)::cs)/\Sn F h F (h.new (.map [] 0)):=
 H.new _ ⟨by simp_all[fm],Pf _,H.fresh⟩ λ_ e=>e
end
abbrev Nx(l1 T1 l4 T4 lt Tt:Nat) (num:V) (ns:List Nat) (tc:List V) (jC:V) (az:List Int) (ds:List Pc):List Pc:=
 eJ l1 T1 [.ptr lt 0]::eJ l4 T4 [num]::eJ lt Tt (tc++[jC])::fg eN eR ns num::fg eZ eR az jC::ds
def Ce(ns:List Nat)(az:List Int)(v:Nat):Nat:=ns.getD (yr (jy az) (az.length+1) v) 0
section
variable{F F':Nat->Prop}{h h':Hp}{cs ds:List Pc}{Q:fq}{u:U}{l1 T1 l4 T4 lt Tt:Nat}{num jC:V}{ns:List Nat}{tc:List V}{az:List Int}
theorem KM(b:ev F h (Nx l1 T1 l4 T4 lt Tt num ns tc jC az ds))(d:tc.length=5)(e:az.length<=3000)(f:ns.length=az.length)(c:∀(v:Nat) a,az[v]? =some a->a<az.length){v:Nat}(hv:v<az.length)
  (H:∀w q,gB 1 num (.I (w:Nat))=some q->fe q h=some (.I (Ce ns az v:Nat))->Q (.I (w:Nat)) h):cP CS jN [.ptr lt 0,.I v] h Q:=by
 have g:fe (.ptr lt 5) h=some jC:=b.ld 2 rfl (by simp_all);refine zbc g (b.row 4 rfl).read e c hv λi=>?_;have hx:ns[yr (jy az) (az.length+1) v]? =some (Ce ns az v):=by
  unfold Ce;rw[CH,gN (by omega)];rfl
 let⟨l,o,j,k⟩:=b.L6 3 rfl hx .i64
 simp_all
theorem Mn{ι:Type} [DecidableEq ι] {f:ι->Option (List Nat×V)}{i:ι}{xs:List Nat}{w:V}(n:Nat)(I:ev F h (Nx l1 T1 l4 T4 lt Tt num ns tc jC az ds))(s:ds[n]? =some (fU eR f))(hi:f i=some (xs,w))(t:tc.length=5)(J:az.length<=3000)(u:ns.length=az.length)(y:∀(v:Nat) a,az[v]? =some a->a<az.length)
  (z:∀x∈xs,x<az.length) (K:xs.length<1000000)
  (H:∀h',Sn F h F h'->ev F h' (Nx l1 T1 l4 T4 lt Tt num ns tc jC az (ds.set n (fU eR (up f i (some (xs.map (Ce ns az),w))))))->Q (.tuple []) h') :
  cP CS iL [w,.ptr l4 0,.ptr l1 0] h Q:=by
 refine De ?_;refine eh (I.rows (n+5) s hi).len ?_
 refine AS (λk l h'=>∃j b,l=[w,.ptr l4 0,.ptr l1 0,w,.I xs.length,.I (j:Nat)]/\j+k=xs.length/\Sn F h F h'/\b=up f i (some ((xs.take j).map (Ce ns az)++xs.drop j,w))/\ev F h' (Nx l1 T1 l4 T4 lt Tt num ns tc jC az (ds.set n (fU eR b)))) ?_ (k:=xs.length)
  ⟨0,_,rfl,by omega,Sn.refl _ _,rfl,?_⟩
 rotate_left
 ·have e:up f i (some ((xs.take 0).map (Ce ns az)++xs.drop 0,w))=f:=funext (by grind[jz,iX]);rw[e];have:ds.set n (fU eR f)=ds:=by
   let⟨L,A⟩:=jo.1 s
   rw[<-A,List.set_getElem_self]
  simp_all
 rintro k _ _ _ _ _ _ L ⟨j,b,⟨⟩,hk,M,d,c⟩;unfold rC;have N:=(jo.1 s).1;have g:(ds.set n (fU eR b))[n]? =some (fU eR b):=by simp_all
 have m:b i=some ((xs.take j).map (Ce ns az)++xs.drop j,w):=by rw[d,jz]
 by_cases hj:j<xs.length
 ·refine gy ?_;have hx:=gN hj;have G:((xs.take j).map (Ce ns az)).length=j:=by rw[Er,Pw];omega
  have o:((xs.take j).map (Ce ns az)++xs.drop j)[j]? =some xs[j]:=by
   rw[wAy (by omega),G,Nat.sub_self,YD hj];rfl
  have p:((xs.take j).map (Ce ns az)++xs.drop j).set j (Ce ns az xs[j])=(xs.take (j+1)).map (Ce ns az)++xs.drop (j+1):=by
   rw[Ad hx,Mw,Pr,YD hj,List.set_append_right _ _ (by omega),G,Nat.sub_self];rfl
  have B:j<((xs.take j).map (Ce ns az)++xs.drop j).length:=by grind
  have C:=z _ (zI hj);generalize xs[j]=x at*
  let⟨la,oa,_,D,O⟩:=(c.rows (n+5) g m).read.nat o .i64
  refine eh D (eh O (eh (c.ld 1 rfl rfl) (eh (c.ld 0 rfl rfl) ?_)));refine KM c t J u y C λr q P R=>⟨iZ _,eh P (eh R (eh D ⟨c.ld 1 rfl rfl,?_⟩))⟩
  let⟨l3,S,A,T,U,W,E,X⟩:=c.Y3 (n+5) g m B (Ce ns az x)
  rw[D]at T;obtain⟨rfl,rfl⟩:la=l3/\oa=S:=by simp_all
  rw [U,en];refine⟨W,fF ⟨k-1,by omega,j+1,_,rfl,by omega,M.trans X,rfl,?_⟩⟩;have E:ev F A (Nx l1 T1 l4 T4 lt Tt num ns tc jC az ((ds.set n (fU eR b)).set n (fU eR (up b i (some (((xs.take j).map (Ce ns az)++xs.drop j).set j (Ce ns az x),w)))))):=E;rw[List.set_set,p,d]at E;have e:up (up f i (some ((xs.take j).map (Ce ns az)++xs.drop j,w))) i (some ((xs.take (j+1)).map (Ce ns az)++xs.drop (j+1),w))=up f i (some ((xs.take (j+1)).map (Ce ns az)++xs.drop (j+1),w)):=funext λa=>by
   by_cases e:a=i
   ·simp_all
   grind[iX]
  simp_all
 refine hY ?_;obtain rfl:j=xs.length:=by omega
 simp_all
end
open Un Dm
structure StS (ss:List (List (Fm×V×V))) (nm:Nat->Nat) (b:List Nat) (S:Int->Option V) (fl:KF->Option (List Nat×V)) (c:List (List (Fm×V×V))):Prop where
 map:∀s:Nat,S s=if s∈b then some (.I (b.idxOf s:Nat)) else none
 out:c=b.map λs=>ss.getD s []
 rows:∀s l k x a w,ss[s]? =some l->l[k]? =some (x,a,w)->fl (s,k,false)=some (if s∈b then x.locals.map nm else x.locals,a)/\fl (s,k,true)=some (if s∈b then x.stack.map nm else x.stack,w)
 nd:b.Nodup
 lt:∀s∈b,s<ss.length
def Xq(a:List Nat)(s:Nat):List Nat:=if s∈a then a else a++[s]
section
variable {F F':Nat->Prop} {h h':Hp} {cs ds:List Pc} {Q:fq} {u:U} {l1 T1 l4 T4 lt Tt lm lb Tb lr Tr lo To:Nat} {num jC a0 a1 a2 a3 b0 b1 b2 b3 ws Jo:V} {ns:List Nat} {az:List Int} {S:Int->Option V}
 {fl:KF->Option (List Nat×V)} {ss sos:List (List (Fm×V×V))} {sl:List Nat}
abbrev Sx(fl:KF->Option (List Nat×V)) (ss:List (List (Fm×V×V))) (ws:V) (lm:Nat) (S:Int->Option V) (lb Tb lr Tr l4 l1 lo To:Nat) (b0 b1 b2 b3 Jo:V) (a:List (List (Fm×V×V))) (ds:List Pc):List Pc:=
 fU eR fl::fg (eL Q0) lC ss ws::X9 lm S::eJ lb Tb [.map lm]::eJ lr Tr [.func iL [] [.ptr l4 0,.ptr l1 0]]::eJ lo To [b0,b1,b2,b3,Jo]::fg (eL Q0) lC a Jo::ds
theorem ev.J0{p:Pc}(H:ev F h (p::cs))(n:Nat)(a:n<=cs.length):ev F h (cs.take n++p::cs.drop n):=by
 have b:(cs.take n).length=n:=by rw[Pw];omega
 refine H.re (λi=>if i<n then i+1 else if i=n then 0 else i) (λi c hc=>?_) λi j _ _ e=>?_
 ·grind
 grind
theorem ev.DO(H:ev F h cs)(n:Nat)(a:n<=cs.length):ev F h (cs.take n++cs.drop (n+1)):=by
 have b:(cs.take n).length=n:=by rw[Pw];omega
 refine H.re (λi=>if i<n then i else i+1) (λi c hc=>?_) λi j _ _ e=>?_
 ·grind
 grind
theorem ev.zfQ{α:Type}{E:qf α}{ty:Nat}{xs:List α}{v:V}(H:ev F h cs)(i:Nat)(hi:cs[i]? =some (fg E ty xs v)){k n l o:Nat}{kd:IntKind}(hk:k<xs.length)(e:gB n v (.int kd (k:Nat))=some (.ptr l o)):l<h.next:=by
 rcases H.row i hi with⟨_,rfl⟩|⟨t,ws,rfl,a,_⟩
 ·simp_all
 grind[yJ]
theorem Qv(u:ev F h (Nx l1 T1 l4 T4 lt Tt num ns [a0,a1,a2,a3,ws] jC az (Sx fl ss ws lm S lb Tb lr Tr l4 l1 lo To b0 b1 b2 b3 Jo sos ds)))(c:StS ss (Ce ns az) sl S fl sos)(hn:az.length<=3000)(A:ns.length=az.length)(B:∀(v:Nat) a,az[v]? =some a->a<az.length)
  {s:Nat} {l:List (Fm×V×V)} (hs:ss[s]? =some l) (ai:ss.length<=1000) (aj:l.length<=1000) (M:∀y∈l,y.1.locals.length<=1000/\y.1.stack.length<=1000/\(∀v∈y.1.locals,v<az.length)/\∀v∈y.1.stack,v<az.length)
  (H:∀h' d S' n f,Sn F h F h'->StS ss (Ce ns az) (Xq sl s) S' d n->ev F h' (Nx l1 T1 l4 T4 lt Tt num ns [a0,a1,a2,a3,ws] jC az (Sx d ss ws lm S' lb Tb lr Tr l4 l1 lo To b0 b1 b2 b3 f n ds))->Q (.I ((Xq sl s).idxOf s:Nat)) h') :
  cP CS fV [.I s,.ptr lb 0,.ptr lo 0,.ptr l1 0,.ptr lr 0] h Q:=by
 refine Dy ?_;refine eh (u.ld 8 rfl rfl) (eh (u.zfS 7 rfl s _) ?_);rw[c.map s];have oS:s<ss.length:=by grind
 by_cases hm:s∈sl
 ·rw[if_pos hm];refine eh (Fz 0 _) (eh (Fz 1 _) (pY (fW rfl ?_)));refine rB ?_;unfold mO;have ha:Xq sl s=sl:=if_pos hm
  grind[Sn.refl]
 rw [if_neg hm];have ha:Xq sl s=sl++[s]:=if_neg hm;rw[ha]at H;have hk:(sl++[s]).idxOf s=sl.length:=by
  rw[List.idxOf_append,if_neg hm];simp
 rw[hk]at H;have C:sos.length=sl.length:=by rw[c.out,Er]
 have ah:=iP _ _ c.nd c.lt;refine eh (Fz 0 _) (eh (Fz 1 _) (pY (fP (by simp) ?_)));refine eh (by rfl) (eh (u.ld 10 rfl rfl) (eh (u.len 11 rfl) (eh (u.ld 8 rfl rfl) ?_)));rw[C]
 let⟨K,e1,_,D,s1⟩:=u.zgi 7 rfl (k:=(s:Int)) (by rw[c.map s,if_neg hm]) (.I sl.length)
 have N:=e1;rw[N,en];simp[ pJ]at D;obtain⟨lx,ox,wx,p,E,⟨wf,rfl,xf⟩,L⟩:=D.YY 6 rfl hs .i64;have p:=p;have L:=L 0 wf rfl;refine eh (D.ld 0 rfl rfl) (eh (fS _ _) (eh (by rfl) (eh (by rfl) (eh (D.ld 2 rfl rfl) (eh p (eh (by rfl) (eh L (eh xf.len ?_))))))))
 refine A2 (λk O h'=>∃j d,O=[.I s,.ptr lo 0,.ptr l1 0,.ptr lr 0,.I sl.length,wf,.I l.length,.I (j:Nat)]/\j+k=l.length/\Sn F K F h'/\
  (∀t k b,t≠s->d (t,k,b)=fl (t,k,b))/\(∀k x a w,l[k]? =some (x,a,w)->d (s,k,false)=some (if k<j then x.locals.map (Ce ns az) else x.locals,a)/\d (s,k,true)=some (if k<j then x.stack.map (Ce ns az) else x.stack,w))/\
  ev F h' (Nx l1 T1 l4 T4 lt Tt num ns [a0,a1,a2,a3,ws] jC az (Sx d ss ws lm (up S s (some (.I sl.length))) lb Tb lr Tr l4 l1 lo To b0 b1 b2 b3 Jo sos ds))) ?_ (k:=l.length)
  ⟨0,fl,rfl,by omega,Sn.refl _ _,by simp_all,λk x a w hk=>?_,D⟩
 rotate_left
 ·have:=c.rows s l k x a w hs hk
  simp_all
 rintro k _ _ _ _ _ _ _ _ P ⟨j,d,⟨⟩,ak,R,G,T,q⟩;unfold ry;have U:=xf.since R;by_cases hj:j<l.length
 ·refine gy ?_;have hy:=gN hj
  let⟨ho1,ho2,ho3,ho4⟩:=M _ (zI hj)
  let⟨ly,oy,wy,_,W,y2,y3,_⟩:=U.ix hj .i64
  obtain⟨⟨x,a,w⟩,X⟩:∃y,l[j]=y:=⟨_,rfl⟩
  rw[X]at hy y3 ho1 ho2 ho3 ho4;dsimp only at ho1 ho2 ho3 ho4;obtain⟨rfl,y4,y5⟩:=y3;have W:=W;refine eh W (eh y2 ?_);refine gQ q rfl rfl (by simp only[Pj,eQ,y4,y5];rfl) λh3 g s3=>?_;generalize P.next=lf at*;have g:=g.J0 12 (by simp)
  let⟨hf1,hf2⟩:=T j x a w hy
  rw[if_neg (by omega)]at hf1 hf2;refine eh (g.ld 9 rfl rfl) (eh (by rfl) (eh (g.ld 12 rfl rfl) ?_));show cP CS iL [a,.ptr l4 0,.ptr l1 0] h3 _;refine Mn 0 g rfl hf1 rfl hn A B ho3 (by omega) λI s4 r=>?_;have r:ev F I (Nx l1 T1 l4 T4 lt Tt num ns [a0,a1,a2,a3,ws] jC az (Sx (up d (s,j,false) (some (x.locals.map (Ce ns az),a))) ss ws lm (up S s (some (.I sl.length))) lb Tb lr Tr l4 l1 lo To b0 b1 b2 b3 Jo sos (eJ lf 49 (Pj x a w)::ds))):=r;refine eh (r.ld 9 rfl rfl) (eh (by rfl) (eh (r.ld 12 rfl rfl) ?_));show cP CS iL [w,.ptr l4 0,.ptr l1 0] I _;refine Mn 0 r rfl (i:=(s,j,true)) (by grind[iX]) rfl hn A B ho4 (by omega) λY Z H5=>?_;refine fF ⟨k-1,by omega,j+1,_,rfl,by omega,((R.trans s3).trans s4).trans Z,λt k b ht=>?_,λk z b c hk=>?_,H5.DO 12 (by simp)⟩
  ·rw[iX _ _ (by simp[ht]),iX _ _ (by simp[ht])]
   grind
  ·by_cases e:k=j
   ·simp_all[if_pos,iX,jz]
   ·rw[iX _ _ (by simp),iX _ _ (by simp[e]),iX _ _ (by simp[e]),iX _ _ (by simp)]
    grind
 refine hY ?_;obtain rfl:j=l.length:=by omega
 obtain⟨lx,ox,wx,p,E,⟨m,rfl,J⟩,L⟩:=q.YY 6 rfl hs .i64;have p:=p;have E:=E;refine eh (by rfl) (eh (q.ld 10 rfl rfl) (eh (q.ld 0 rfl rfl) (eh (fS _ _) (eh (by rfl) (eh (by rfl) (eh (q.ld 2 rfl rfl) (eh p (eh E ?_))))))));rw[nM (sz:=1) rfl rfl (by simp only[eQ,J.one];rfl),gO];have g:=(q.yP lC [m]).1
 let⟨f,I,e4,n4,r,s4⟩:=q.rZ 11 rfl (jL:=24) (GA:=52) (ro:=false) ⟨m,rfl,J⟩ (by decide) (by decide) (by omega)
 have aa:fi 52 1 24 Jo (.slice P.next 0 1) (P.new (.cells 52 1 true false [m]))=some (.val f I):=e4;have ab:=q.zfQ 6 rfl oS p;have ac:=Iv E (fo (.cells 52 1 true false [m]) ab);refine⟨⟨g.get 0 rfl,bq⟩,ac,g.ld 3 rfl rfl,g.ld 1 rfl rfl,g.ld 11 rfl rfl,?_⟩;rw[aa,en]
 let⟨Y,e5,n5,H5,Z⟩:=r.st 10 (o:=4) rfl (by simp) (r.one 11 rfl)
 refine⟨by simp_all,eh (by rfl) ?_⟩;have ad:gq 1 (.ptr lo (0+4)) f I=some (.val .undef Y):=by rw[C7];exact e5
 rw[ad,en];refine⟨n5,rB ?_⟩;unfold mO;have ae:ss.getD s []=l:=by rw[CH,hs];rfl
 refine H Y d (up S s (some (.I sl.length))) (sos++[l]) f (((s1.trans R).trans s4).trans Z) ⟨λt=>?_,by rw[c.out,Mw,wBe,wBq,ae],λt O k x a w ht ag=>?_,?_,λt ht=>?_⟩ H5
 ·by_cases e:t=s
  ·simp_all
  ·rw[iX _ _ (by omega),c.map t]
   grind
 ·by_cases e:t=s
  ·grind
  ·rw[G t k false e,G t k true e];have:=c.rows t O k x a w ht ag
   simp_all
 ·rw[wBO];exact⟨c.nd,by simp,by grind⟩
 ·rcases EG.1 ht with K|K
  ·exact c.lt t K
  simp_all
end
open Un Dm
section
variable{F F':Nat->Prop}{h h':Hp}{cs ds:List Pc}{Q:fq}{u:U}
theorem zcJ(cs:List Pc):∀(a:List Nat),(∀m∈a,m<cs.length)->(a.filterMap λm=>cs[m]?).length=a.length/\∀i:Nat,(a.filterMap λm=>cs[m]?)[i]? = (a[i]?).bind λm=>cs[m]?
 |[],_=>by simp_all
 | m::a,hm=>by
   let⟨b,c⟩:=zcJ cs a (by simp_all)
   grind
theorem ev.perm(H:ev F h cs)(a:List Nat)(k:Nat)(b:∀m∈a,m<k)(d:a.Nodup)(hk:k<=cs.length):ev F h ((a.filterMap λm=>cs[m]?)++cs.drop k):=by
 let⟨f,l⟩:=zcJ cs a (by grind)
 refine H.re (λi=>if i<a.length then a.getD i 0 else k+(i-a.length)) (λi c hc=>?_) λi j _ _ e=>?_
 ·grind
 ·have g:∀i,i<a.length->a.getD i 0<k/\a[i]? =some (a.getD i 0):=by simp_all
  by_cases hi:i<a.length
  ·rw [if_pos hi]at e;by_cases hj:j<a.length
   ·rw[if_pos hj]at e
    grind[sY]
   grind
  grind
end
structure Ai (u:U) (az:List Int):Prop where
 nv:u.ej.length<=3000
 nb:u.blocks.length<=300
 ns:u.eo.length<=1000
 once:zbA u
 iM:∀v b k,At u v b k->v<u.ej.length
 len:az.length=u.ej.length
 sub:∀(v:Nat) a,az[v]? =some a->a<az.length
 parts:∀(v:Nat) x,u.ej[v]? =some x->x.args.length<=700/\(ml x.op=true\/two x.op=true->x.a<u.ej.length)/\(two x.op=true->x.b<u.ej.length)/\(x.op=21\/x.op=20->∀w∈x.args,w<u.ej.length)/\(leaves x.op=true->x.state<u.eo.length)
 ends:∀(b:Nat) B,u.blocks[b]? =some B->(B.fin=2->B.cond<u.ej.length)/\(B.fin=3->B.state<u.eo.length)
 st:∀(s:Nat) fs,u.eo[s]? =some fs->fs.length<=1000/\∀f∈fs,f.locals.length<=1000/\f.stack.length<=1000/\(∀v∈f.locals,v<u.ej.length)/\∀v∈f.stack,v<u.ej.length
structure NbB (u:U) (az:List Int) (i:Nat) (bs a:List (Bk×V)):Prop where
 len:a.length=bs.length
 row:∀b B w,bs[b]? =some (B,w)->a[b]? =some (if b<i then{B with ej:=(B.ej.filter (stays (jy az))).map (fM u (jy az)).idxOf} else B,w)
section
variable{F F':Nat->Prop}{h h':Hp}{cs ds:List Pc}{Q:fq}{u:U}{wv wb ws jC:V}{lt Tt:Nat}{az:List Int}{xs:List (Vl×V)}{bs:List (Bk×V)}{fa fn:Nat->Option (List Nat×V)}{ss:List (List (Fm×V×V))}{fl:KF->Option (List Nat×V)}
theorem zcj{l o:Nat}(H:ev F h ds)(b:∀a,ev F a (eJ h.next T [.ptr l o]::ds)->Sn F h F a->K (.ptr h.next 0) a):gS (mi T (.ptr l o)) h K:=by
 rw[show mi T (.ptr l o)=some (.cells T 1 true false [.ptr l o],λl=> .ptr l 0) from rfl,fu];exact b _ (H.yP T _).1 (H.yP T [.ptr l o]).2
theorem pz{ws:List V}(H:ev F h ds)(b:∀a,ev F a (eJ h.next T ws::ds)->Sn F h F a->K (.ptr h.next 0) a):gS (some (O.cells T 1 true false ws,λl=>V.ptr l 0)) h K:=by
 rw[fu];exact b _ (H.yP T _).1 (H.yP T ws).2
theorem PK{ws:List V}{K:O->fq}(H:ev F h ds)(b:∀a,ev F a (eJ h.next T ws::ds)->Sn F h F a->K (.cells T 1 true false ws) (.ptr h.next 0) a):xB (some (O.cells T 1 true false ws,λl=>V.ptr l 0)) h K:=by
 rw[gO];exact b _ (H.yP T _).1 (H.yP T ws).2
theorem Sf{ws:List V}{K:O->fq}(H:ev F h ds)(a:gj ws=true)(b:ev F (h.new (.cells T 1 true false ws)) (eJ h.next T ws::ds)->Sn F h F (h.new (.cells T 1 true false ws))->K (.cells T 1 true false ws) (.ptr h.next 0) (h.new (.cells T 1 true false ws))):xB (mi T (.agg ws)) h K:=by
 rw[EY a,gO];exact b (H.yP T _).1 (H.yP T ws).2
theorem ND{z w:V}(H:ev F h ds)(c:w.one=true)(d:∀a,ev F a (eJ h.next T [w]::ds)->Sn F h F a->K (.ptr h.next 0) a):gS (some (O.cells T 1 true false [z],λl=>V.ptr l 0)) h λv b=>fj (gq 1 v w b) λ_ a=>K v a:=by
 refine pz H λb e f=>?_
 let⟨a,g,_,i,j⟩:=e.st 0 (o:=0) rfl (by simp) c
 rw[g,en];exact d a i (f.trans j)
theorem zdE(H:ev F h ds)(b:∀a,ev F a (X9 h.next (λ_=>none)::ds)->Sn F h F a->K (.map h.next) a):gS (some (O.map [] 0,λl=>V.map l)) h K:=by
 rw[fu];exact b _ H.zfH.1 H.zfH.2
theorem T3(g:Ai u az)(hc:YI u.ej xs fa)(hb:Yo u.blocks bs fn)
  (H0:ev F h (fg yL gK xs wv::fg xz fJ bs wb::fU eR fa::fU eR fn::fg eZ eR az jC::eJ lt Tt [.I u.func,.I u.pc,wv,wb,ws,jC]::fg (eL Q0) lC ss ws::fU eR fl::cs))
  (H:∀F' h' l1 T1 l2 l3 l4 T4 lm lb Tb lr Tr num ns N c,Sn F h F' h'->NbB u az u.blocks.length bs c->ns.length=u.ej.length->(∀v,v<u.ej.length->ns[v]? =some (if v∈fM u (jy az) then(fM u (jy az)).idxOf v else 0))->
   ev F' h' (Nx l1 T1 l4 T4 lt Tt num ns [.I u.func,.I u.pc,wv,wb,ws] jC az (Sx fl ss ws lm (λ_=>none) lb Tb lr Tr l4 l1 l3 gJ (.I u.func) (.I u.pc) .ei .ei .ei []
    (fg yL gK xs wv::fg xz fJ c wb::fU eR fa::fU eR fn::fg yL gK [] .ei::fg xz fJ [] .ei::eJ l2 gJ [.I 0,.I 0,.ei,.ei,.ei]::fg eN eR (fM u (jy az)) N::cs)))->
   lD Q [.ptr l1 0,.ptr l2 0,.ptr l3 0,.ptr l4 0,.ptr lr 0,.func fV [] [.ptr lb 0,.ptr l3 0,.ptr l1 0,.ptr lr 0],N,.I ((fM u (jy az)).length:Nat),.I 0] h') :
  cP CS mW [.ptr lt 0] h Q:=by
 refine Ge ?_;have nv:=g.nv;have nb:=g.nb;have ad:bs.length=u.blocks.length:=by rw[<-hb.fst,Er]
 have ae:xs.length=u.ej.length:=by rw[<-hc.fst,Er]
 refine zcj H0 λh1 H1 s1=>pz H1 λh2 O s2=>?_;generalize h.next=l1 at*;generalize h1.next=l2 at*;refine eh (O.ld 1 rfl rfl) (eh pn (eh pf (oF (O.ld 7 rfl rfl) (eh (O.ld 1 rfl rfl) (eh pn (eh pf (oF (O.ld 7 rfl rfl) ?_)))))));refine eh (by rfl) ?_;refine PK O λh3 L s3=>?_;generalize h2.next=l3 at*;refine⟨⟨L.get 0 rfl,bq⟩,L.ld 8 rfl rfl,L.ld 2 rfl rfl,L.ld 8 rfl rfl,L.ld 2 rfl rfl,?_⟩
 let⟨h4,e4,n4,H4,s4⟩:=L.Qy 0 (ws:=[.I u.func,.I u.pc,.ei,.ei,.ei]) (n:=5) rfl rfl rfl rfl
 rw[e4,en];refine⟨n4,eh (H4.ld 2 rfl rfl) (eh pn (eh pf (oF (H4.ld 8 rfl rfl) (eh (H4.len 3 rfl) ?_))))⟩;rw[ae,jE rfl (by decide) (by omega),fu]
 let⟨H5,s5⟩:=H4.make (E:=eN) (ty:=eR) (u:=V.I 0) u.ej.length rfl rfl
 generalize h4.new (.cells eR 1 true false (List.replicate u.ej.length (V.I 0)))=h5 at*;generalize h4.next=ln at*;refine ND H5 rfl λh6 M s6=>?_;generalize h5.next=l4 at*;refine eh (M.ld 4 rfl rfl) (eh pn (eh pf (oF (M.ld 10 rfl rfl) (eh (M.len 6 rfl) ?_))));rw[ad];have ag:=((((s1.trans s2).trans s3).trans s4).trans s5).trans s6;have M:=M.add (p:=fg eN eR [] .ei) .nil λ_ h=>h;obtain⟨A,hA⟩:∃A,jy az=A:=⟨_,rfl⟩
 rw[hA]at H
 refine CR (λk l h'=>∃F' i ns c o,l=[.ptr l1 0,.ptr l2 0,.ptr l3 0,.ptr l4 0,o,.I u.blocks.length,.I (i:Nat)]/\i+k=u.blocks.length/\Sn F h F' h'/\NbB u az i bs c/\
  ns.length=u.ej.length/\(∀v,v<u.ej.length->ns[v]? =some (if v∈kJ u A i 0 then(fM u A).idxOf v else 0))/\
  ev F' h' (fg eN eR (kJ u A i 0) o::eJ l4 _ [.slice ln 0 u.ej.length]::fg eN eR ns (.slice ln 0 u.ej.length)::eJ l3 gJ [.I u.func,.I u.pc,.ei,.ei,.ei]::eJ l2 gJ [.I 0,.I 0,.ei,.ei,.ei]::eJ l1 _ [.ptr lt 0]::fg yL gK xs wv::fg xz fJ c wb::fU eR fa::fU eR fn::fg eZ eR az jC::eJ lt Tt [.I u.func,.I u.pc,wv,wb,ws,jC]::fg (eL Q0) lC ss ws::fU eR fl::cs)) ?_ (k:=u.blocks.length)
  ⟨F,0,_,bs,.ei,rfl,by omega,ag,⟨rfl,by simp_all⟩,Wt,λv hv=>by rw[wBw,if_pos hv,MF,if_neg (by simp)],by rw[MF];exact M⟩
 rintro k _ _ _ _ o _ _ h7 ⟨P,i,ns,c,_,⟨⟩,hk,s7,x,q,d,D⟩;unfold vt;by_cases hi:i<u.blocks.length
 ·refine gy ?_;obtain⟨⟨B,wn⟩,R⟩:∃y,bs[i]? =some y:=by simp_all
  have G:u.blocks[i]? =some B:=by rw[<-hb.fst,zq,R];rfl
  have ao:=iP _ _ (JJ g.once G) λv hv=>by
   let⟨k,hk⟩:=mn.1 hv
   exact g.iM v i k ⟨B,G,hk⟩
  have I:c[i]? =some (B,wn):=by have:=x.row i B wn R;rwa [if_neg (by omega)]at this
  obtain⟨l8,o8,w8,S,_,⟨bv,bp,rfl,iv,ip,ap⟩,x3⟩:=D.YY 7 rfl I .i64;have S:=S;refine eh (D.ld 5 rfl rfl) (eh pn (eh pf (oF (D.ld 11 rfl rfl) (eh S (oF (x3 0 _ rfl) (eh iv.len ?_))))));have D:=D.add (p:=fg eN eR [] .ei) .nil λ_ h=>h
  refine CQ (λk' l h'=>∃j ns o J,l=[.ptr l1 0,.ptr l2 0,.ptr l3 0,.ptr l4 0,o,.I i,J,.I u.blocks.length,.I i,bv,.I B.ej.length,.I (j:Nat)]/\j+k' = B.ej.length/\Sn F h P h'/\Sn P h7 P h'/\
   ns.length=u.ej.length/\(∀v,v<u.ej.length->ns[v]? =some (if v∈kJ u A i j then(fM u A).idxOf v else 0))/\
   ev P h' (fg eN eR (((B.ej.take j).filter (stays A)).map (fM u A).idxOf) J::fg eN eR (kJ u A i j) o::eJ l4 _ [.slice ln 0 u.ej.length]::fg eN eR ns (.slice ln 0 u.ej.length)::eJ l3 gJ [.I u.func,.I u.pc,.ei,.ei,.ei]::eJ l2 gJ [.I 0,.I 0,.ei,.ei,.ei]::eJ l1 _ [.ptr lt 0]::fg yL gK xs wv::fg xz fJ c wb::fU eR fa::fU eR fn::fg eZ eR az jC::eJ lt Tt [.I u.func,.I u.pc,wv,wb,ws,jC]::fg (eL Q0) lC ss ws::fU eR fl::cs)) ?_ (k:=B.ej.length)
   ⟨0,ns,o,.ei,rfl,by omega,s7,Sn.refl _ _,q,d,D⟩
  rintro k' _ _ _ _ o _ J _ _ _ _ _ h8 ⟨j,ns,_,_,⟨⟩,aq,T,K,q,d,r⟩;unfold vC;have oS:(kJ u A i j).length<=u.ej.length:=by
   have h1:=(IT («as»:=A) (j:=j) G).length_le;have h2:=iP u.ej.length (fM u A) (Al g.once) λv hv=>Ic g.iM hv;omega
  have ar:((B.ej.take j).filter (stays A)).length<=(kJ u A i j).length:=by
   unfold kJ;rw[G,Lw];exact Nat.le_add_left _ _
  by_cases hj:j<B.ej.length
  ·refine gy ?_;have hx:=gN hj;have au:=Ad hx;generalize B.ej[j]=v at*;have ah:=g.iM v i j ⟨B,G,hx⟩
   let⟨la,oa,_,S,x2⟩:=(iv.since K).nat hx .i64
   obtain⟨a,ha⟩:∃a,az[v]? =some a:=⟨_,gN (by rw[g.len];exact ah)⟩
   let⟨lb,ob,y1,y2⟩:=r.Sh 11 rfl ha .i64
   have U:A v=a:=by rw[<-hA];exact He ha
   have W:=Mp («as»:=A) G hx;refine eh S (eh x2 (eh (r.ld 6 rfl rfl) (oN (r.ld 12 rfl rfl) (eh y1 (eh y2 (fX ?_))))));by_cases e:a=(v:Int)
   ·refine fW e ?_;have z:stays A v=true:=by unfold stays;rw[U,e];exact beq_self_eq_true _
    rw[if_pos z]at W
    let⟨hix,hnm⟩:=zee («as»:=A) g.once G hx z
    refine eh (r.ld 2 rfl rfl) (eh (r.len 1 rfl) ?_)
    let⟨lc,oc,h9,X,e2,_,t,Y⟩:=r.IH 3 rfl (k:=v) (y:=(kJ u A i j).length) (u:=V.I ((kJ u A i j).length:Nat)) (by omega) rfl rfl rfl
    refine eh X ?_;rw[e2,en];refine eh (t.len 1 rfl) ?_;rw[mH,fu]
    let⟨va,f,ai,_,m,s⟩:=t.rZ 0 rfl (jL:=8) (GA:=3) (y:=(kJ u A i j).length) (w:=ig [(kJ u A i j).length]) (ro:=false) rfl (by decide) (by decide) (by simp;omega)
    have Z:fi 3 1 8 J (.slice h9.next 0 1) (h9.new (.cells 3 1 true false (ig [(kJ u A i j).length])))=some (.val va f):=ai;rw[Z,en];rw[mH,fu]
    let⟨vc,aj,Yr,_,aa,ak⟩:=m.rZ 1 rfl (jL:=8) (GA:=3) (y:=v) (w:=ig [v]) (ro:=false) rfl (by decide) (by decide) (by omega)
    have ab:fi 3 1 8 o (.slice f.next 0 1) (f.new (.cells 3 1 true false (ig [v])))=some (.val vc aj):=Yr;rw[ab,en];refine tZ ?_;unfold nH;have sA:=(Y.trans s).trans ak;refine fF ⟨k'-1,by omega,j+1,ns.set v (kJ u A i j).length,vc,va,rfl,by omega,T.trans sA,K.trans sA,by simp_all,λw hw=>?_,?_⟩
    ·grind
    simp_all
   ·refine fP e (tZ ?_);unfold nH;have z:stays A v=false:=by unfold stays;rw[U];exact PG.2 e
    rw[z]at W;refine fF ⟨k'-1,by omega,j+1,ns,o,J,rfl,by omega,T,K,q,by simp_all,?_⟩
    simp_all
  refine hY ?_;obtain rfl:j=B.ej.length:=by omega
  rw[I2]at r;rw[Tw G]at d r
  let⟨t,Y,r9⟩:=r.jc 0 rfl
  have t:=t.tail;generalize (λl=>P l\/Loc J l)=F9 at*;have ac:=jo.1 I
  let ⟨lq,f,X,e2,_,m,s⟩:=t.stF 7 rfl (k:=i) (j:=0) (y:=({B with ej:=(B.ej.filter (stays A)).map (fM u A).idxOf},wn)) (a:=J) ac.1 (by decide) r9.one (λw' hw=>by
   rw[ac.2]at hw;obtain⟨pv,pp,rfl,_,q2,q3⟩:=hw;exact⟨J,pp,rfl,r9,q2,q3⟩)
  have X:=X;refine eh (t.ld 5 rfl rfl) (eh pn (eh pf (oF (t.ld 11 rfl rfl) (eh X (eh pf ?_)))));have al:=e2;rw[al,en];refine fF ⟨k-1,by omega,F9,i+1,ns,_,o,rfl,by omega,(T.trans Y).trans s,⟨by rw[Lj,x.len],λb C w am=>?_⟩,q,d,m⟩;by_cases e:b=i
  ·grind
  ·rw[I9 (by omega),x.row b C w am]
   grind
 refine hY ?_;obtain rfl:i=u.blocks.length:=by omega
 rw[V6]at d D;refine zdE D λh8 r T=>ND r rfl λh9 t Y=>ND t rfl λf m s=>?_;generalize h7.next=lm at*;generalize h8.next=lb at*;generalize h9.next=lr at*;refine eh (m.len 3 rfl) ?_;have aa:=((m.add (p:=fg (eL Q0) lC [] .ei) .nil λ_ h=>h).add (p:=fg yL gK [] .ei) .nil λ_ h=>h).add (p:=fg xz fJ [] .ei) .nil λ_ h=>h;have an:=aa.perm [11,7,17,8,16,19,18,5,4,3,9,2,12,13,14,15,1,0,10,6] 20 (by decide) (by decide) (by simp);exact H _ f l1 _ l2 l3 l4 _ lm lb _ lr _ _ ns _ c (((s7.trans T).trans Y).trans s) x q d an
end
