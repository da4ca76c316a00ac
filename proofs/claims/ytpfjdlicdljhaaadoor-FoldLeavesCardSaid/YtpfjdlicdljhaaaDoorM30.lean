/- Parts. -/
import Derived.Test.YtpfjdlicdljhaaaDoorM29
set_option maxHeartbeats 4000000
namespace Go.Proofs.YtpfjdlicdljhaaaDoor.Hx
open Un Dm
def Ou(l:Nat)(S:Int->Option V):Pc where
 kX:=λm=>m=l
 ok F h:=(∃a c,h.get l=some (.map a c)/\(∀e∈a,∃k:Int,e.1 = .I k/\S k=some e.2.1)/\∀k v,S k=some v->∃e∈a,e.1 = .I k)/\l<h.next/\¬F l
 L0:=by simp_all
 eR:=by grind
 mono:=by simp_all
theorem HP(k:Int):∀(a:List (V×V×Nat))(i:Nat),(∀e∈a,∃k:Int,e.1 = .I k)->
  (vN en none (.I k) a i=some none/\∀e∈a,e.1≠ .I k)\/∃j e,vN en none (.I k) a i=some (some (i+j,e.2.1))/\a[j]? =some e/\e.1 = .I k
 |[],i,_=> .inl ⟨rfl,by simp_all⟩
 | e ::a,i,h=>by
   obtain ⟨k',c⟩:=h e (Xe ..);have b:vN en none (.I k) (e::a) i=if k=k' then some (some (i,e.2.1)) else vN en none (.I k) a (i+1):=by
     show oB (PG en none (.I k) e.1) _=_;rw[c,show PG en none (V.I k) (V.I k')=some (k == k') from Rh _ _];by_cases hk:k=k'
     ·simp_all
     ·rw[if_neg hk,UT.2 hk];rfl
   by_cases hk:k=k'
   ·subst hk
    rw[if_pos rfl]at b;exact .inr ⟨0,e,b,rfl,c⟩
   ·rw[if_neg hk]at b
    rcases HP k a (i+1) (by grind)with⟨f,d⟩|⟨j,e',f,d,g⟩
    ·grind
    ·exact .inr ⟨j+1,e',by grind,d,g⟩
section
variable{F F':Nat->Prop}{h h':Hp}{cs ds:List Pc}{Q:fo}{l:Nat}{S:Int->Option V}
theorem ei.zbD(H:ei F h cs)(i:Nat)(hi:cs[i]? =some (Ou l S))(k:Int)(z:V):RU en none z true (.map l) (.I k) h=some (.tuple (match S k with|some v=>[v,.bool true]|none=>[z,.bool false])):=by
 obtain ⟨⟨f,c,n,o,s⟩,_⟩:=H.ok i _ hi;have g:∀r,vN en none (.I k) f 0=some r->RU en none z true (.map l) (.I k) h=some (found z true r):=λr p=>by
  unfold RU CG;simp only[n,fe];rw[p];rfl
 rcases HP k f 0 (by grind)with⟨d,m⟩|⟨j,e,d,m,q⟩
 ·rw[g _ d]
  cases hS:S k with
  |none=>rfl
  | some v=>
    grind
 ·rw[g _ d];obtain⟨k',a,b⟩:=o e (AI m);rw[q]at a;cases a;rw[b];rfl
theorem ei.zcg(H:ei F h cs)(i:Nat)(hi:cs[i]? =some (Ou l S)){k:Int}(t:S k=none)(v:V):∃h',LY en none (.map l) (.I k) v h=some (.val .undef h')/\h.next<=h'.next/\ei F h' (cs.set i (Ou l (up S k (some v))))/\Sn F h F h':=by
 obtain⟨⟨d,c,n,o,u⟩,f,q⟩:=H.ok i _ hi;rcases HP k d 0 (by grind)with⟨g,m⟩|⟨j,e,g,m,x⟩
 ·have r:NZ en none d c (.I k) v=some (.map (d++[(.I k,v,c)]) (c+1)):=by unfold NZ;rw[g];rfl
  refine⟨h.put l (.map (d++[(.I k,v,c)]) (c+1)),?_,iZ _,H.AS (p:=Ou l (up S k (some v))) hi (kM.put _ rfl f) ⟨⟨_,_,fS _ f,λe s=>?_,λk' w hk=>?_⟩,f,q⟩ λ_ h=> .inl h⟩
  ·unfold LY CG;simp only[n,fe,r];rfl
  ·rcases FM.1 s with h|h
   ·grind[iT]
   simp_all
  ·by_cases e:k' = k
   ·simp_all
   simp_all[iT,Wn]
 ·obtain⟨k',a,b⟩:=o e (AI m)
  simp_all
theorem ei.zbR(H:ei F h cs):ei F (h.new (.map [] 0)) (Ou h.next (λ_=>none)::cs)/\Sn F h F (h.new (.map [] 0)):=
 H.new (p:=Ou h.next λ_=>none) _ ⟨by simp_all[fg],MC _,H.fresh⟩ λ_ e=>e
end
abbrev Nx(l1 T1 l4 T4 lt Tt:Nat) (num:V) (ns:List Nat) (tc:List V) (jM:V) (az:List Int) (ds:List Pc):List Pc:=
 er l1 T1 [.ptr lt 0]::er l4 T4 [num]::er lt Tt (tc++[jM])::eJ eN en ns num::eJ eZ en az jM::ds
def zQ(ns:List Nat)(az:List Int)(v:Nat):Nat:=ns.getD (sV (kV az) (az.length+1) v) 0
section
variable{F F':Nat->Prop}{h h':Hp}{cs ds:List Pc}{Q:fo}{u:U}{l1 T1 l4 T4 lt Tt:Nat}{num jM:V}{ns:List Nat}{tc:List V}{az:List Int}
theorem HC(b:ei F h (Nx l1 T1 l4 T4 lt Tt num ns tc jM az ds))(d:tc.length=5)(e:az.length<=3000)(f:ns.length=az.length)(c:∀(v:Nat)(a:Int),az[v]? =some a->a<az.length){v:Nat}(g:v<az.length)
  (H:∀w q,gI 1 num (.I (w:Nat))=some q->ey q h=some (.I (zQ ns az v:Nat))->Q (.I (w:Nat)) h):cP CS iM [.ptr lt 0,.I v] h Q:=by
 have i:ey (.ptr lt 5) h=some jM:=b.ld 2 rfl (by simp_all);refine Yx i (b.row 4 rfl).read e c g λk=>?_;have j:ns[sV (kV az) (az.length+1) v]? =some (zQ ns az v):=by
  unfold zQ;rw[EN,ig (by omega)];rfl
 obtain⟨l,o,m,n⟩:=b.Jv 3 rfl j .i64
 simp_all
theorem IT{ι:Type} [DecidableEq ι] {f:ι->Option (List Nat×V)}{i:ι}{xs:List Nat}{w:V}(n:Nat)(I:ei F h (Nx l1 T1 l4 T4 lt Tt num ns tc jM az ds))(s:ds[n]? =some (fG en f))(hi:f i=some (xs,w))(t:tc.length=5)(J:az.length<=3000)(u:ns.length=az.length)(y:∀(v:Nat)(a:Int),az[v]? =some a->a<az.length)
  (z:∀x∈xs,x<az.length) (K:xs.length<1000000)
  (H:∀h',Sn F h F h'->ei F h' (Nx l1 T1 l4 T4 lt Tt num ns tc jM az (ds.set n (fG en (up f i (some (xs.map (zQ ns az),w))))))->Q (.tuple []) h') :
  cP CS hX [w,.ptr l4 0,.ptr l1 0] h Q:=by
 refine A9 rfl rfl ?_;unfold th;refine ed (I.rows (n+5) s hi).len ?_
 refine yK (λk l h'=>∃(j:Nat) (b:ι->Option (List Nat×V)),l=[w,.ptr l4 0,.ptr l1 0,w,.I xs.length,.I j]/\j+k=xs.length/\Sn F h F h'/\b=up f i (some ((xs.take j).map (zQ ns az)++xs.drop j,w))/\ei F h' (Nx l1 T1 l4 T4 lt Tt num ns tc jM az (ds.set n (fG en b)))) ?_ (k:=xs.length)
  ⟨0,_,rfl,by omega,Sn.refl _ _,rfl,?_⟩
 rotate_left
 ·have e:up f i (some ((xs.take 0).map (zQ ns az)++xs.drop 0,w))=f:=funext (by grind[ko,iT]);rw[e];have:ds.set n (fG en f)=ds:=by
   obtain⟨L,A⟩:=jq.1 s;rw[<-A,List.set_getElem_self]
  simp_all
 rintro k _ _ _ _ _ _ L ⟨j,b,⟨⟩,hk,M,d,c⟩;unfold pQ;have N:=(jq.1 s).1;have g:(ds.set n (fG en b))[n]? =some (fG en b):=by simp_all
 have m:b i=some ((xs.take j).map (zQ ns az)++xs.drop j,w):=by rw[d,ko]
 by_cases hj:j<xs.length
 ·refine gv ?_;have O:=ig hj;have G:((xs.take j).map (zQ ns az)).length=j:=by rw[BW,KN];omega
  have o:((xs.take j).map (zQ ns az)++xs.drop j)[j]? =some xs[j]:=by
   rw[WK (by omega),G,Nat.sub_self,V9 hj];rfl
  have p:((xs.take j).map (zQ ns az)++xs.drop j).set j (zQ ns az xs[j])=(xs.take (j+1)).map (zQ ns az)++xs.drop (j+1):=by
   rw[BI O,Qi,Jx,V9 hj,List.set_append_right _ _ (by omega),G,Nat.sub_self];rfl
  have B:j<((xs.take j).map (zQ ns az)++xs.drop j).length:=by grind
  have C:=z _ (BG hj);generalize xs[j]=x at*;obtain⟨la,P,_,D,R⟩:=(c.rows (n+5) g m).read.nat o .i64;refine ed D (ed R (ed (c.ld 1 rfl rfl) (ed (c.ld 0 rfl rfl) ?_)));refine HC c t J u y C λr q S T=>⟨iZ _,ed S (ed T (ed D ⟨c.ld 1 rfl rfl,?_⟩))⟩
  obtain⟨l3,U,A,W,X,Y,E,Z⟩:=c.Wu (n+5) g m B (zQ ns az x);rw[D]at W;obtain⟨rfl,rfl⟩:la=l3/\P=U:=by simp_all
  rw [X,ej];refine⟨Y,fM ⟨k-1,by omega,j+1,_,rfl,by omega,M.trans Z,rfl,?_⟩⟩;have E:ei F A (Nx l1 T1 l4 T4 lt Tt num ns tc jM az ((ds.set n (fG en b)).set n (fG en (up b i (some (((xs.take j).map (zQ ns az)++xs.drop j).set j (zQ ns az x),w)))))):=E;rw[List.set_set,p,d]at E;have e:up (up f i (some ((xs.take j).map (zQ ns az)++xs.drop j,w))) i (some ((xs.take (j+1)).map (zQ ns az)++xs.drop (j+1),w))=up f i (some ((xs.take (j+1)).map (zQ ns az)++xs.drop (j+1),w)):=funext λa=>by
   by_cases e:a=i
   ·simp_all
   grind[iT]
  simp_all
 refine ir ?_;obtain rfl:j=xs.length:=by omega
 simp_all
end
open Un Dm
structure YA (ss:List (List (Fm×V×V))) (nm:Nat->Nat) (b:List Nat) (S:Int->Option V) (fl:KF->Option (List Nat×V)) (c:List (List (Fm×V×V))):Prop where
 map:∀s:Nat,S s=if s∈b then some (.I (b.idxOf s:Nat)) else none
 out:c=b.map λs=>ss.getD s []
 rows:∀s l k x a w,ss[s]? =some l->l[k]? =some (x,a,w)->fl (s,k,false)=some (if s∈b then x.locals.map nm else x.locals,a)/\fl (s,k,true)=some (if s∈b then x.stack.map nm else x.stack,w)
 nd:b.Nodup
 lt:∀s∈b,s<ss.length
def T5(a:List Nat)(s:Nat):List Nat:=if s∈a then a else a++[s]
section
variable {F F':Nat->Prop} {h h':Hp} {cs ds:List Pc} {Q:fo} {u:U} {l1 T1 l4 T4 lt Tt lm lb Tb lr Tr lo To:Nat} {num jM a0 a1 a2 a3 b0 b1 b2 b3 ws Eo:V} {ns:List Nat} {az:List Int} {S:Int->Option V}
 {fl:KF->Option (List Nat×V)} {ss ZV:List (List (Fm×V×V))} {sl:List Nat}
abbrev Sx(fl:KF->Option (List Nat×V)) (ss:List (List (Fm×V×V))) (ws:V) (lm:Nat) (S:Int->Option V) (lb Tb lr Tr l4 l1 lo To:Nat) (b0 b1 b2 b3 Eo:V) (a:List (List (Fm×V×V))) (ds:List Pc):List Pc:=
 fG en fl::eJ (eL Oi) kS ss ws::Ou lm S::er lb Tb [.map lm]::er lr Tr [.func hX [] [.ptr l4 0,.ptr l1 0]]::er lo To [b0,b1,b2,b3,Eo]::eJ (eL Oi) kS a Eo::ds
theorem ei.Rz{p:Pc}(H:ei F h (p::cs))(n:Nat)(a:n<=cs.length):ei F h (cs.take n++p::cs.drop n):=by
 have b:(cs.take n).length=n:=by rw[KN];omega
 refine H.re (λi=>if i<n then i+1 else if i=n then 0 else i) (λi c hc=>?_) λi j _ _ e=>?_
 ·grind
 grind
theorem ei.KC(H:ei F h cs)(n:Nat)(a:n<=cs.length):ei F h (cs.take n++cs.drop (n+1)):=by
 have b:(cs.take n).length=n:=by rw[KN];omega
 refine H.re (λi=>if i<n then i else i+1) (λi c hc=>?_) λi j _ _ e=>?_
 ·grind
 grind
theorem ei.zcr{α:Type}{E:pG α}{ty:Nat}{xs:List α}{v:V}(H:ei F h cs)(i:Nat)(hi:cs[i]? =some (eJ E ty xs v)){k n l o:Nat}{kd:IntKind}(hk:k<xs.length)(e:gI n v (.int kd (k:Nat))=some (.ptr l o)):l<h.next:=by
 rcases H.row i hi with⟨_,rfl⟩|⟨t,ws,rfl,a,_⟩
 ·simp_all
 grind[vU]
theorem ML(C:ei F h (Nx l1 T1 l4 T4 lt Tt num ns [a0,a1,a2,a3,ws] jM az (Sx fl ss ws lm S lb Tb lr Tr l4 l1 lo To b0 b1 b2 b3 Eo ZV ds)))(c:YA ss (zQ ns az) sl S fl ZV)(hn:az.length<=3000)(J:ns.length=az.length)(K:∀(v:Nat)(a:Int),az[v]? =some a->a<az.length)
  {s:Nat} {l:List (Fm×V×V)} (hs:ss[s]? =some l) (aq:ss.length<=1000) (ar:l.length<=1000) (aa:∀y∈l,y.1.locals.length<=1000/\y.1.stack.length<=1000/\(∀v∈y.1.locals,v<az.length)/\∀v∈y.1.stack,v<az.length)
  (H:∀h' d S' q f,Sn F h F h'->YA ss (zQ ns az) (T5 sl s) S' d q->ei F h' (Nx l1 T1 l4 T4 lt Tt num ns [a0,a1,a2,a3,ws] jM az (Sx d ss ws lm S' lb Tb lr Tr l4 l1 lo To b0 b1 b2 b3 f q ds))->Q (.I ((T5 sl s).idxOf s:Nat)) h') :
  cP CS fE [.I s,.ptr lb 0,.ptr lo 0,.ptr l1 0,.ptr lr 0] h Q:=by
 refine AN rfl rfl ?_;unfold tB;refine ed (C.ld 8 rfl rfl) (ed (C.zbD 7 rfl s _) ?_);rw[c.map s];have ab:s<ss.length:=by grind
 by_cases hm:s∈sl
 ·rw[if_pos hm];refine ed (Cq 0 _) (ed (Cq 1 _) (ue (gw rfl ?_)));refine pz ?_;unfold lU;have ha:T5 sl s=sl:=if_pos hm
  grind[Sn.refl]
 rw [if_neg hm];have ha:T5 sl s=sl++[s]:=if_neg hm;rw[ha]at H;have hk:(sl++[s]).idxOf s=sl.length:=by
  rw[List.idxOf_append,if_neg hm];simp
 rw[hk]at H;have L:ZV.length=sl.length:=by rw[c.out,BW]
 have ap:sl.length<=ss.length:=jD _ _ c.nd c.lt;refine ed (Cq 0 _) (ed (Cq 1 _) (ue (fT (by simp) ?_)));refine ed (by rfl) (ed (C.ld 10 rfl rfl) (ed (C.len 11 rfl) (ed (C.ld 8 rfl rfl) ?_)));rw[L];obtain⟨D,e1,_,E,s1⟩:=C.zcg 7 rfl (k:=(s:Int)) (by rw[c.map s,if_neg hm]) (.I sl.length);have ac:LY 3 none (.map lm) (.I s) (.I sl.length) h=some (.val .undef D):=e1;rw[ac,ej];simp only[jx,mZ]at E;obtain⟨lx,M,wx,p,N,⟨Z,rfl,xf⟩,O⟩:=E.VF 6 rfl hs .i64;have p:gI 1 ws (.I s)=some (.ptr lx M):=p;have O:ey (.ptr lx (M+0)) D=some Z:=O 0 Z rfl;refine ed (E.ld 0 rfl rfl) (ed (fI _ _) (ed (by rfl) (ed (by rfl) (ed (E.ld 2 rfl rfl) (ed p (ed (by rfl) (ed O (ed xf.len ?_))))))))
 refine yq (λk l' h'=>∃(j:Nat) (d:KF->Option (List Nat×V)),l' = [.I s,.ptr lo 0,.ptr l1 0,.ptr lr 0,.I sl.length,Z,.I l.length,.I j]/\j+k=l.length/\Sn F D F h'/\
  (∀t k b,t≠s->d (t,k,b)=fl (t,k,b))/\(∀k x a w,l[k]? =some (x,a,w)->d (s,k,false)=some (if k<j then x.locals.map (zQ ns az) else x.locals,a)/\d (s,k,true)=some (if k<j then x.stack.map (zQ ns az) else x.stack,w))/\
  ei F h' (Nx l1 T1 l4 T4 lt Tt num ns [a0,a1,a2,a3,ws] jM az (Sx d ss ws lm (up S s (some (.I sl.length))) lb Tb lr Tr l4 l1 lo To b0 b1 b2 b3 Eo ZV ds))) ?_ (k:=l.length)
  ⟨0,fl,rfl,by omega,Sn.refl _ _,by simp_all,λk x a w hk=>?_,E⟩
 rotate_left
 ·have:=c.rows s l k x a w hs hk
  simp_all
 clear E p O;rintro k _ _ _ _ _ _ _ _ G ⟨j,d,⟨⟩,au,s2,P,ae,r⟩;unfold pA;have ag:=xf.since s2;by_cases hj:j<l.length
 ·refine gv ?_;have hy:=ig hj;obtain⟨R,T,A,B⟩:=aa _ (BG hj);obtain⟨ly,oy,wy,_,y1,y2,y3,_⟩:=ag.ix hj .i64;obtain⟨⟨x,a,w⟩,ah⟩:∃y,l[j]=y:=⟨_,rfl⟩
  rw[ah]at hy y3 R T A B;dsimp only at R T A B;obtain⟨rfl,y4,y5⟩:=y3;have y1:gI 4 Z (.I j)=some (.ptr ly oy):=y1;refine ed y1 (ed y2 ?_);refine iH r rfl rfl (by simp only[Ol,ev,y4,y5];rfl) λh3 m s3=>?_;generalize G.next=lf at*;have m:ei F h3 (Nx l1 T1 l4 T4 lt Tt num ns [a0,a1,a2,a3,ws] jM az (Sx d ss ws lm (up S s (some (.I sl.length))) lb Tb lr Tr l4 l1 lo To b0 b1 b2 b3 Eo ZV (er lf 47 (Ol x a w)::ds))):=m.Rz 12 (by simp);obtain⟨U,ai⟩:=ae j x a w hy;rw[if_neg (by omega)]at U ai;refine ed (m.ld 9 rfl rfl) (ed (by rfl) (ed (m.ld 12 rfl rfl) ?_));show cP CS hX [a,.ptr l4 0,.ptr l1 0] h3 _;refine IT 0 m rfl U rfl hn J K A (by omega) λW s4 n=>?_;simp only[jx]at n;have n:ei F W (Nx l1 T1 l4 T4 lt Tt num ns [a0,a1,a2,a3,ws] jM az (Sx (up d (s,j,false) (some (x.locals.map (zQ ns az),a))) ss ws lm (up S s (some (.I sl.length))) lb Tb lr Tr l4 l1 lo To b0 b1 b2 b3 Eo ZV (er lf 47 (Ol x a w)::ds))):=n;refine ed (n.ld 9 rfl rfl) (ed (by rfl) (ed (n.ld 12 rfl rfl) ?_));show cP CS hX [w,.ptr l4 0,.ptr l1 0] W _;refine IT 0 n rfl (i:=(s,j,true)) (by grind[iT]) rfl hn J K B (by omega) λh5 s5 X=>?_;simp only[jx]at X;refine fM ⟨k-1,by omega,j+1,_,rfl,by omega,((s2.trans s3).trans s4).trans s5,λt k b I=>?_,λk z b c hk=>?_,X.KC 12 (by simp)⟩
  ·rw[iT _ _ (by simp[I]),iT _ _ (by simp[I])]
   grind
  ·by_cases e:k=j
   ·simp_all[if_pos,iT,ko]
   ·rw[iT _ _ (by simp),iT _ _ (by simp[e]),iT _ _ (by simp[e]),iT _ _ (by simp)]
    grind
 refine ir ?_;obtain rfl:j=l.length:=by omega
 obtain⟨lx,M,wx,p,N,⟨g,rfl,Y⟩,O⟩:=r.VF 6 rfl hs .i64;have p:gI 1 ws (.I s)=some (.ptr lx M):=p;have N:gy 1 (.ptr lx M) G=some (.agg [g]):=N;refine ed (by rfl) (ed (r.ld 10 rfl rfl) (ed (r.ld 0 rfl rfl) (ed (fI _ _) (ed (by rfl) (ed (by rfl) (ed (r.ld 2 rfl rfl) (ed p (ed N ?_))))))));rw[se (sz:=1) (w:=[g]) rfl rfl (by simp only[ev,Y.one];rfl),ic];have m:ei F (G.new (.cells 50 1 true false [g])) (er G.next 50 [g]::_):=(r.zt kS [g]).1;obtain⟨f,W,e4,n4,n,s4⟩:=r.yI 11 rfl (kE:=24) (EI:=50) (y:=l) (w:=[g]) (ro:=false) ⟨g,rfl,Y⟩ (by decide) (by decide) (by omega);have aj:eQ 50 1 24 Eo (.slice G.next 0 1) (G.new (.cells 50 1 true false [g]))=some (.val f W):=e4;have ak:=r.zcr 6 rfl ab p;have al:=HW N (fm (.cells 50 1 true false [g]) ak);refine⟨⟨m.get 0 rfl,bq⟩,al,m.ld 3 rfl rfl,m.ld 1 rfl rfl,m.ld 11 rfl rfl,?_⟩;rw[aj,ej];simp only[jx,mZ]at n;obtain⟨h5,e5,n5,X,s5⟩:=n.st 10 (o:=4) (u:=f) rfl (by simp) (n.one 11 rfl);refine⟨by simp_all,ed (by rfl) ?_⟩;have am:gG 1 (.ptr lo (0+4)) f W=some (.val .undef h5):=by rw[wX];exact e5
 rw[am,ej];simp only[jx,mZ]at X;refine⟨n5,pz ?_⟩;unfold lU;have an:ss.getD s []=l:=by rw[EN,hs];rfl
 refine H h5 d (up S s (some (.I sl.length))) (ZV++[l]) f (((s1.trans s2).trans s4).trans s5) ⟨λt=>?_,by rw[c.out,Qi,Xb,Vy,an],λt l' k x a w I ao=>?_,?_,λt I=>?_⟩ X
 ·by_cases e:t=s
  ·simp_all
  ·rw[iT _ _ (by omega),c.map t]
   grind
 ·by_cases e:t=s
  ·grind
  ·rw[P t k false e,P t k true e];have:=c.rows t l' k x a w I ao
   simp_all
 ·rw[wBt];exact⟨c.nd,by simp,by grind⟩
 ·rcases FM.1 I with D|D
  ·exact c.lt t D
  simp_all
end
open Un Dm
section
variable{F F':Nat->Prop}{h h':Hp}{cs ds:List Pc}{Q:fo}{u:U}
theorem ZG(cs:List Pc):∀(a:List Nat),(∀m∈a,m<cs.length)->(a.filterMap λm=>cs[m]?).length=a.length/\∀i:Nat,(a.filterMap λm=>cs[m]?)[i]? = (a[i]?).bind λm=>cs[m]?
 |[],_=>by simp_all
 | m::a,hm=>by
   obtain⟨b,c⟩:=ZG cs a (by simp_all)
   grind
theorem ei.perm(H:ei F h cs)(a:List Nat)(k:Nat)(b:∀m∈a,m<k)(d:a.Nodup)(hk:k<=cs.length):ei F h ((a.filterMap λm=>cs[m]?)++cs.drop k):=by
 obtain⟨f,l⟩:=ZG cs a (by grind);refine H.re (λi=>if i<a.length then a.getD i 0 else k+(i-a.length)) (λi c hc=>?_) λi j _ _ e=>?_
 ·grind
 ·have g:∀i,i<a.length->a.getD i 0<k/\a[i]? =some (a.getD i 0):=by simp_all
  by_cases hi:i<a.length
  ·rw [if_pos hi]at e;by_cases hj:j<a.length
   ·rw[if_pos hj]at e
    grind[pV]
   grind
  grind
end
structure xV (u:U) (az:List Int):Prop where
 nv:u.ef.length<=3000
 nb:u.blocks.length<=300
 ns:u.eh.length<=1000
 once:XY u
 jA:∀(v b k:Nat),At u v b k->v<u.ef.length
 len:az.length=u.ef.length
 sub:∀(v:Nat) (a:Int),az[v]? =some a->a<az.length
 parts:∀(v:Nat) (x:Vl),u.ef[v]? =some x->x.args.length<=700/\(nP x.op=true\/two x.op=true->x.a<u.ef.length)/\(two x.op=true->x.b<u.ef.length)/\(x.op=21\/x.op=20->∀w∈x.args,w<u.ef.length)/\(leaves x.op=true->x.state<u.eh.length)
 ends:∀(b:Nat) (B:Bk),u.blocks[b]? =some B->(B.fin=2->B.cond<u.ef.length)/\(B.fin=3->B.state<u.eh.length)
 st:∀(s:Nat) (fs:List Fm),u.eh[s]? =some fs->fs.length<=1000/\∀f∈fs,f.locals.length<=1000/\f.stack.length<=1000/\(∀v∈f.locals,v<u.ef.length)/\∀v∈f.stack,v<u.ef.length
structure NbB (u:U) (az:List Int) (i:Nat) (bs a:List (Bk×V)):Prop where
 len:a.length=bs.length
 row:∀(b:Nat) (B:Bk) (w:V),bs[b]? =some (B,w)->a[b]? =some (if b<i then{B with ef:=(B.ef.filter (stays (kV az))).map (fq u (kV az)).idxOf} else B,w)
section
variable{F F':Nat->Prop}{h h':Hp}{cs ds:List Pc}{Q:fo}{u:U}{wv wb ws jM:V}{lt Tt:Nat}{az:List Int}{xs:List (Vl×V)}{bs:List (Bk×V)}{fa fn:Nat->Option (List Nat×V)}{ss:List (List (Fm×V×V))}{fl:KF->Option (List Nat×V)}
theorem Xq{T l o:Nat}{K:fo}(H:ei F h ds)(b:∀a,ei F a (er h.next T [.ptr l o]::ds)->Sn F h F a->K (.ptr h.next 0) a):im (pU T (.ptr l o)) h K:=by
 rw[show pU T (.ptr l o)=some (.cells T 1 true false [.ptr l o],λl=> .ptr l 0) from rfl,fw];exact b _ (H.zt T _).1 (H.zt T [.ptr l o]).2
theorem Ec{T:Nat}{ws:List V}{K:fo}(H:ei F h ds)(b:∀a,ei F a (er h.next T ws::ds)->Sn F h F a->K (.ptr h.next 0) a):im (some (O.cells T 1 true false ws,λl=>V.ptr l 0)) h K:=by
 rw[fw];exact b _ (H.zt T _).1 (H.zt T ws).2
theorem TO{T:Nat}{ws:List V}{K:O->fo}(H:ei F h ds)(b:∀a,ei F a (er h.next T ws::ds)->Sn F h F a->K (.cells T 1 true false ws) (.ptr h.next 0) a):xR (some (O.cells T 1 true false ws,λl=>V.ptr l 0)) h K:=by
 rw[ic];exact b _ (H.zt T _).1 (H.zt T ws).2
theorem Lr{T:Nat}{z w:V}{K:fo}(H:ei F h ds)(c:w.one=true)(d:∀a,ei F a (er h.next T [w]::ds)->Sn F h F a->K (.ptr h.next 0) a):im (some (O.cells T 1 true false [z],λl=>V.ptr l 0)) h λv b=>fi (gG 1 v w b) λ_ a=>K v a:=by
 refine Ec H λb e f=>?_;obtain⟨a,g,_,i,j⟩:=e.st 0 (o:=0) rfl (by simp) c;rw[g,ej];exact d a i (f.trans j)
theorem zab{K:fo}(H:ei F h ds)(b:∀a,ei F a (Ou h.next (λ_=>none)::ds)->Sn F h F a->K (.map h.next) a):im (some (O.map [] 0,λl=>V.map l)) h K:=by
 rw[fw];exact b _ H.zbR.1 H.zbR.2
theorem Ph(g:xV u az)(hc:WJ u.ef xs fa)(hb:UP u.blocks bs fn)
  (H0:ei F h (eJ wk gi xs wv::eJ tM fu bs wb::fG en fa::fG en fn::eJ eZ en az jM::er lt Tt [.I u.func,.I u.pc,wv,wb,ws,jM]::eJ (eL Oi) kS ss ws::fG en fl::cs))
  (H:∀F' h' l1 T1 l2 l3 l4 T4 lm lb Tb lr Tr num ns U c,Sn F h F' h'->NbB u az u.blocks.length bs c->ns.length=u.ef.length->(∀v,v<u.ef.length->ns[v]? =some (if v∈fq u (kV az) then(fq u (kV az)).idxOf v else 0))->
   ei F' h' (Nx l1 T1 l4 T4 lt Tt num ns [.I u.func,.I u.pc,wv,wb,ws] jM az (Sx fl ss ws lm (λ_=>none) lb Tb lr Tr l4 l1 l3 gS (.I u.func) (.I u.pc) .ee .ee .ee []
    (eJ wk gi xs wv::eJ tM fu c wb::fG en fa::fG en fn::eJ wk gi [] .ee::eJ tM fu [] .ee::er l2 gS [.I 0,.I 0,.ee,.ee,.ee]::eJ eN en (fq u (kV az)) U::cs)))->
   ku CS Q [.ptr l1 0,.ptr l2 0,.ptr l3 0,.ptr l4 0,.ptr lr 0,.func fE [] [.ptr lb 0,.ptr l3 0,.ptr l1 0,.ptr lr 0],U,.I ((fq u (kV az)).length:Nat),.I 0] h') :
  cP CS j7 [.ptr lt 0] h Q:=by
 refine CZ rfl rfl ?_;unfold vO;have nv:=g.nv;have nb:=g.nb;have ag:bs.length=u.blocks.length:=by rw[<-hb.fst,BW]
 have ah:xs.length=u.ef.length:=by rw[<-hc.fst,BW]
 refine Xq H0 λh1 H1 s1=>Ec H1 λh2 R s2=>?_;generalize h.next=l1 at*;generalize h1.next=l2 at*;refine ed (R.ld 1 rfl rfl) (ed pn (ed pf (oF (R.ld 7 rfl rfl) (ed (R.ld 1 rfl rfl) (ed pn (ed pf (oF (R.ld 7 rfl rfl) ?_)))))));refine ed (by rfl) ?_;refine TO R λh3 M s3=>?_;generalize h2.next=l3 at*;refine⟨⟨M.get 0 rfl,bq⟩,M.ld 8 rfl rfl,M.ld 2 rfl rfl,M.ld 8 rfl rfl,M.ld 2 rfl rfl,?_⟩;obtain⟨h4,e4,n4,S,s4⟩:=M.Y0 0 (ws:=[.I u.func,.I u.pc,.ee,.ee,.ee]) (n:=5) rfl rfl rfl rfl;rw[e4,ej];simp only[jx]at S;refine⟨n4,ed (S.ld 2 rfl rfl) (ed pn (ed pf (oF (S.ld 8 rfl rfl) (ed (S.len 3 rfl) ?_))))⟩;rw[ah,jY (z:=V.I 0) rfl (by decide) (by omega),fw];obtain⟨H5,s5⟩:=S.make (E:=eN) (ty:=en) (y:=0) (u:=V.I 0) u.ef.length rfl rfl;generalize h4.new (.cells en 1 true false (List.replicate u.ef.length (V.I 0)))=h5 at*;generalize h4.next=ln at*;refine Lr H5 rfl λh6 N s6=>?_;generalize h5.next=l4 at*;refine ed (N.ld 4 rfl rfl) (ed pn (ed pf (oF (N.ld 10 rfl rfl) (ed (N.len 6 rfl) ?_))));rw[ag];have W:=((((s1.trans s2).trans s3).trans s4).trans s5).trans s6;clear H0 H1 R M S H5 s1 s2 s3 s4 s5 s6 e4 n4;have N:=N.add (p:=eJ eN en [] .ee) .nil λ_ h=>h;obtain⟨A,hA⟩:∃A,kV az=A:=⟨_,rfl⟩
 rw[hA]at H
 refine Av (λk l h'=>∃(F':Nat->Prop) (i:Nat) (ns:List Nat) (c:List (Bk×V)) (r:V),l=[.ptr l1 0,.ptr l2 0,.ptr l3 0,.ptr l4 0,r,.I u.blocks.length,.I i]/\i+k=u.blocks.length/\Sn F h F' h'/\NbB u az i bs c/\
  ns.length=u.ef.length/\(∀v,v<u.ef.length->ns[v]? =some (if v∈jw u A i 0 then(fq u A).idxOf v else 0))/\
  ei F' h' (eJ eN en (jw u A i 0) r::er l4 _ [.slice ln 0 u.ef.length]::eJ eN en ns (.slice ln 0 u.ef.length)::er l3 gS [.I u.func,.I u.pc,.ee,.ee,.ee]::er l2 gS [.I 0,.I 0,.ee,.ee,.ee]::er l1 _ [.ptr lt 0]::eJ wk gi xs wv::eJ tM fu c wb::fG en fa::fG en fn::eJ eZ en az jM::er lt Tt [.I u.func,.I u.pc,wv,wb,ws,jM]::eJ (eL Oi) kS ss ws::fG en fl::cs)) ?_ (k:=u.blocks.length)
  ⟨F,0,_,bs,.ee,rfl,by omega,W,⟨rfl,by simp_all⟩,UO,λv X=>by rw[wBx,if_pos X,Jp,if_neg (by simp)],by rw[Jp];exact N⟩
 clear N W;rintro k _ _ _ _ r _ _ h7 ⟨Y,i,ns,c,_,⟨⟩,hk,s7,x,o,f,D⟩;unfold rL;by_cases hi:i<u.blocks.length
 ·refine gv ?_;obtain⟨⟨B,wn⟩,Z⟩:∃y,bs[i]? =some y:=by simp_all
  have K:u.blocks[i]? =some B:=by rw[<-hb.fst,AJ,Z];rfl
  have aq:B.ef.length<=u.ef.length:=jD _ _ (Gl g.once K) λv X=>by
   obtain⟨k,hk⟩:=mm.1 X;exact g.jA v i k ⟨B,K,hk⟩
  have L:c[i]? =some (B,wn):=by have:=x.row i B wn Z;rwa [if_neg (by omega)]at this
  obtain⟨l8,o8,w8,T,_,⟨bv,bp,rfl,iv,ip,ar⟩,x3⟩:=D.VF 7 rfl L .i64;have T:gI 6 wb (.I i)=some (.ptr l8 o8):=T;refine ed (D.ld 5 rfl rfl) (ed pn (ed pf (oF (D.ld 11 rfl rfl) (ed T (oF (x3 0 _ rfl) (ed iv.len ?_))))));have D:=D.add (p:=eJ eN en [] .ee) .nil λ_ h=>h
  refine Af (λk' l h'=>∃(j:Nat) (ns:List Nat) (r G:V),l=[.ptr l1 0,.ptr l2 0,.ptr l3 0,.ptr l4 0,r,.I i,G,.I u.blocks.length,.I i,bv,.I B.ef.length,.I j]/\j+k' = B.ef.length/\Sn F h Y h'/\Sn Y h7 Y h'/\
   ns.length=u.ef.length/\(∀v,v<u.ef.length->ns[v]? =some (if v∈jw u A i j then(fq u A).idxOf v else 0))/\
   ei Y h' (eJ eN en (((B.ef.take j).filter (stays A)).map (fq u A).idxOf) G::eJ eN en (jw u A i j) r::er l4 _ [.slice ln 0 u.ef.length]::eJ eN en ns (.slice ln 0 u.ef.length)::er l3 gS [.I u.func,.I u.pc,.ee,.ee,.ee]::er l2 gS [.I 0,.I 0,.ee,.ee,.ee]::er l1 _ [.ptr lt 0]::eJ wk gi xs wv::eJ tM fu c wb::fG en fa::fG en fn::eJ eZ en az jM::er lt Tt [.I u.func,.I u.pc,wv,wb,ws,jM]::eJ (eL Oi) kS ss ws::fG en fl::cs)) ?_ (k:=B.ef.length)
   ⟨0,ns,r,.ee,rfl,by omega,s7,Sn.refl _ _,o,f,D⟩
  clear D o f T x3;rintro k' _ _ _ _ r _ G _ _ _ _ _ h8 ⟨j,ns,_,_,⟨⟩,au,s8,O,o,f,s⟩;unfold rB;have aw:(jw u A i j).length<=u.ef.length:=by
   have h1:=(Fj («as»:=A) (j:=j) K).length_le;have h2:=jD u.ef.length (fq u A) (yh g.once) λv X=>Ez g.jA X;omega
  have ax:((B.ef.take j).filter (stays A)).length<=(jw u A i j).length:=by
   unfold jw;rw[K,I9];exact Nat.le_add_left _ _
  by_cases hj:j<B.ef.length
  ·refine gv ?_;have hx:=ig hj;have ay:=BI hx;generalize B.ef[j]=v at*;have ai:=g.jA v i j ⟨B,K,hx⟩;obtain⟨la,oa,_,T,x2⟩:=(iv.since O).nat hx .i64;obtain⟨a,ha⟩:∃a,az[v]? =some a:=⟨_,ig (by rw[g.len];exact ai)⟩
   obtain⟨lb,ob,y1,y2⟩:=s.Qx 11 rfl ha .i64;have aa:A v=a:=by rw[<-hA];exact QW ha
   have I:=Jj («as»:=A) K hx;refine ed T (ed x2 (ed (s.ld 6 rfl rfl) (oN (s.ld 12 rfl rfl) (ed y1 (ed y2 (fP ?_))))));by_cases e:a=(v:Int)
   ·refine gw e ?_;have J:stays A v=true:=by unfold stays;rw[aa,e];exact beq_self_eq_true _
    rw[if_pos J]at I;obtain⟨aA,aB⟩:=ZI («as»:=A) g.once K hx J;refine ed (s.ld 2 rfl rfl) (ed (s.len 1 rfl) ?_);obtain⟨lc,oc,h9,e1,e2,_,q,s9⟩:=s.Ir 3 rfl (k:=v) (y:=(jw u A i j).length) (u:=V.I ((jw u A i j).length:Nat)) (by omega) rfl rfl rfl;refine ed e1 ?_;rw[e2,ej];simp only[jx,mZ]at q;refine ed (q.len 1 rfl) ?_;rw[pY,fw];obtain⟨va,m,aj,_,d,t⟩:=q.yI 0 rfl (kE:=8) (EI:=3) (y:=(jw u A i j).length) (w:=gJ [(jw u A i j).length]) (ro:=false) rfl (by decide) (by decide) (by simp;omega);have ab:eQ 3 1 8 G (.slice h9.next 0 1) (h9.new (.cells 3 1 true false (gJ [(jw u A i j).length])))=some (.val va m):=aj;rw[ab,ej];simp only[jx,mZ]at d;rw[pY,fw];obtain⟨vc,ak,al,_,P,am⟩:=d.yI 1 rfl (kE:=8) (EI:=3) (y:=v) (w:=gJ [v]) (ro:=false) rfl (by decide) (by decide) (by omega);have ac:eQ 3 1 8 r (.slice m.next 0 1) (m.new (.cells 3 1 true false (gJ [v])))=some (.val vc ak):=al;rw[ac,ej];simp only[jx,mZ]at P;refine qL ?_;unfold me;have sA:=(s9.trans t).trans am;refine fM ⟨k'-1,by omega,j+1,ns.set v (jw u A i j).length,vc,va,rfl,by omega,s8.trans sA,O.trans sA,by simp_all,λw hw=>?_,?_⟩
    ·grind
    simp_all
   ·refine fT e (qL ?_);unfold me;have J:stays A v=false:=by unfold stays;rw[aa];exact UT.2 e
    rw[J]at I;have I:jw u A i (j+1)=jw u A i j:=I;refine fM ⟨k'-1,by omega,j+1,ns,r,G,rfl,by omega,s8,O,o,by simp_all,?_⟩
    simp_all
  refine ir ?_;obtain rfl:j=B.ef.length:=by omega
  rw [Js]at s;rw[OJ K]at f s;obtain⟨q,s9,r9⟩:=s.jQ 0 rfl;simp only[jx]at q;have q:=q.tail;generalize (λl=>Y l\/Loc G l)=F9 at*;have ae:=jq.1 L;obtain⟨lq,m,e1,e2,_,d,t⟩:=q.stF 7 rfl (k:=i) (j:=0) (y:=({B with ef:=(B.ef.filter (stays A)).map (fq u A).idxOf},wn)) (a:=G) ae.1 (by decide) r9.one (λw' hw=>by
   rw[ae.2]at hw;obtain⟨pv,pp,rfl,_,q2,q3⟩:=hw;exact⟨G,pp,rfl,r9,q2,q3⟩)
  have e1:gI 6 wb (.I i)=some (.ptr lq (i*6)):=e1;refine ed (q.ld 5 rfl rfl) (ed pn (ed pf (oF (q.ld 11 rfl rfl) (ed e1 (ed pf ?_)))));have an:gG 1 (.ptr lq (i*6+0)) G h8=some (.val .undef m):=e2;rw[an,ej];simp only[jx,mZ]at d;refine fM ⟨k-1,by omega,F9,i+1,ns,_,r,rfl,by omega,(s8.trans s9).trans t,⟨by rw[KD,x.len],λb C w ao=>?_⟩,o,f,d⟩;by_cases e:b=i
  ·grind
  ·rw[HO (by omega),x.row b C w ao]
   grind
 refine ir ?_;obtain rfl:i=u.blocks.length:=by omega
 rw[Qu]at f D;refine zab D λh8 s s8=>Lr s rfl λh9 q s9=>Lr q rfl λm d t=>?_;generalize h7.next=lm at*;generalize h8.next=lb at*;generalize h9.next=lr at*;refine ed (d.len 3 rfl) ?_;have P:=((d.add (p:=eJ (eL Oi) kS [] .ee) .nil λ_ h=>h).add (p:=eJ wk gi [] .ee) .nil λ_ h=>h).add (p:=eJ tM fu [] .ee) .nil λ_ h=>h;have ap:=P.perm [11,7,17,8,16,19,18,5,4,3,9,2,12,13,14,15,1,0,10,6] 20 (by decide) (by decide) (by simp);exact H _ m l1 _ l2 l3 l4 _ lm lb _ lr _ _ ns _ c (((s7.trans s8).trans s9).trans t) x o f ap
end
