/- Parts. -/
import Derived.Test.YtpfjdlicdljhaaaDoorM29
set_option maxHeartbeats 4000000
namespace Go.Proofs.YtpfjdlicdljhaaaDoor.Hx
open Un Dm
def KB(l:Nat)(S:Int->Option V):Pc where
 ki:=λm=>m=l
 ok F h:=(∃a c,h.get l=some (.map a c)/\(∀e∈a,∃k:Int,e.1 = .I k/\S k=some e.2.1)/\∀k v,S k=some v->∃e∈a,e.1 = .I k)/\l<h.next/\¬F l
 IS:=by simp_all
 dO:=by grind
 mono:=by simp_all
theorem El(k:Int):∀(a:List (V×V×Nat))(i:Nat),(∀e∈a,∃k:Int,e.1 = .I k)->
  (rG cT none (.I k) a i=some none/\∀e∈a,e.1≠ .I k)\/∃j e,rG cT none (.I k) a i=some (some (i+j,e.2.1))/\a[j]? =some e/\e.1 = .I k
 |[],i,_=> .inl ⟨rfl,by simp_all⟩
 | e ::a,i,h=>by
   obtain ⟨k',c⟩:=h e (Si ..);have b:rG cT none (.I k) (e::a) i=if k=k' then some (some (i,e.2.1)) else rG cT none (.I k) a (i+1):=by
     show oB (Lj cT none (.I k) e.1) _=_;rw[c,show Lj cT none (V.I k) (V.I k')=some (k == k') from M7 _ _];by_cases hk:k=k'
     ·simp_all
     ·rw[if_neg hk,QO.2 hk];rfl
   by_cases hk:k=k'
   ·subst hk
    rw[if_pos rfl]at b;exact .inr ⟨0,e,b,rfl,c⟩
   ·rw[if_neg hk]at b
    rcases El k a (i+1) (by grind)with⟨f,d⟩|⟨j,e',f,d,g⟩
    ·grind
    ·exact .inr ⟨j+1,e',by grind,d,g⟩
section
variable{F F':Nat->Prop}{h h':Hp}{cs ds:List Pc}{Q:dg}{l:Nat}{S:Int->Option V}
theorem cS.Wz(H:cS F h cs)(i:Nat)(hi:cs[i]? =some (KB l S))(k:Int)(z:V):N5 cT none z true (.map l) (.I k) h=some (.tuple (match S k with|some v=>[v,.bool true]|none=>[z,.bool false])):=by
 obtain ⟨⟨f,c,n,o,s⟩,_⟩:=H.ok i _ hi;have g:∀r,rG cT none (.I k) f 0=some r->N5 cT none z true (.map l) (.I k) h=some (found z true r):=λr p=>by
  unfold N5 zs;simp only[n,c0];rw[p];rfl
 rcases El k f 0 (by grind)with⟨d,m⟩|⟨j,e,d,m,q⟩
 ·rw[g _ d]
  cases hS:S k with
  |none=>rfl
  | some v=>
    grind
 ·rw[g _ d];obtain⟨k',a,b⟩:=o e (zD m);rw[q]at a;cases a;rw[b];rfl
theorem cS.Zk(H:cS F h cs)(i:Nat)(hi:cs[i]? =some (KB l S)){k:Int}(t:S k=none)(v:V):∃h',Hu cT none (.map l) (.I k) v h=some (.val .undef h')/\h.next<=h'.next/\cS F h' (cs.set i (KB l (up S k (some v))))/\Sn F h F h':=by
 obtain⟨⟨d,c,n,o,u⟩,f,q⟩:=H.ok i _ hi;rcases El k d 0 (by grind)with⟨g,m⟩|⟨j,e,g,m,x⟩
 ·have r:J2 cT none d c (.I k) v=some (.map (d++[(.I k,v,c)]) (c+1)):=by unfold J2;rw[g];rfl
  refine⟨h.put l (.map (d++[(.I k,v,c)]) (c+1)),?_,iC _,H.xS (p:=KB l (up S k (some v))) hi (tm.put _ rfl f) ⟨⟨_,_,ie _ f,λe s=>?_,λk' w hk=>?_⟩,f,q⟩ λ_ h=> .inl h⟩
  ·unfold Hu zs;simp only[n,c0,r];rfl
  ·rcases EC.1 s with h|h
   ·grind[fL]
   simp_all
  ·by_cases e:k' = k
   ·simp_all
   simp_all[fL,PM]
 ·obtain⟨k',a,b⟩:=o e (zD m)
  simp_all
theorem cS.WV(H:cS F h cs):cS F (h.new (.map [] 0)) (KB h.next (λ_=>none)::cs)/\Sn F h F (h.new (.map [] 0)):=
 H.new (p:=KB h.next λ_=>none) _ ⟨by simp_all[dL],Ls _,H.fresh⟩ λ_ e=>e
end
abbrev Nx(l1 T1 l4 T4 lt Tt:Nat) (num:V) (ns:List Nat) (tc:List V) (gS:V) (az:List Int) (ds:List Pc):List Pc:=
 cV l1 T1 [.ptr lt 0]::cV l4 T4 [num]::cV lt Tt (tc++[gS])::cW eN cT ns num::cW eZ cT az gS::ds
def wm(ns:List Nat)(az:List Int)(v:Nat):Nat:=ns.getD (px (iM az) (az.length+1) v) 0
section
variable{F F':Nat->Prop}{h h':Hp}{cs ds:List Pc}{Q:dg}{u:U}{l1 T1 l4 T4 lt Tt:Nat}{num gS:V}{ns:List Nat}{tc:List V}{az:List Int}
theorem CT(b:cS F h (Nx l1 T1 l4 T4 lt Tt num ns tc gS az ds))(d:tc.length=5)(e:az.length<=3000)(f:ns.length=az.length)(c:∀(v:Nat)(a:Int),az[v]? =some a->a<az.length){v:Nat}(g:v<az.length)
  (H:∀w q,eX 1 num (.I (w:Nat))=some q->df q h=some (.I (wm ns az v:Nat))->Q (.I (w:Nat)) h):cP CS fI [.ptr lt 0,.I v] h Q:=by
 have i:df (.ptr lt 5) h=some gS:=b.ld 2 rfl (by simp_all);refine TG i (b.row 4 rfl).read e c g λk=>?_;have j:ns[px (iM az) (az.length+1) v]? =some (wm ns az v):=by
  unfold wm;rw[Au,fg (by omega)];rfl
 obtain⟨l,o,m,n⟩:=b.E2 3 rfl j .i64
 simp_all
theorem DH{ι:Type} [DecidableEq ι] {f:ι->Option (List Nat×V)}{i:ι}{xs:List Nat}{w:V}(n:Nat)(I:cS F h (Nx l1 T1 l4 T4 lt Tt num ns tc gS az ds))(s:ds[n]? =some (dk cT f))(hi:f i=some (xs,w))(t:tc.length=5)(J:az.length<=3000)(u:ns.length=az.length)(y:∀(v:Nat)(a:Int),az[v]? =some a->a<az.length)
  (z:∀x∈xs,x<az.length) (K:xs.length<1000000)
  (H:∀h',Sn F h F h'->cS F h' (Nx l1 T1 l4 T4 lt Tt num ns tc gS az (ds.set n (dk cT (up f i (some (xs.map (wm ns az),w))))))->Q (.tuple []) h') :
  cP CS eU [w,.ptr l4 0,.ptr l1 0] h Q:=by
 refine yj rfl rfl ?_;unfold p6;refine cO (I.rows (n+5) s hi).len ?_
 refine vn (λk l h'=>∃(j:Nat) (b:ι->Option (List Nat×V)),l=[w,.ptr l4 0,.ptr l1 0,w,.I xs.length,.I j]/\j+k=xs.length/\Sn F h F h'/\b=up f i (some ((xs.take j).map (wm ns az)++xs.drop j,w))/\cS F h' (Nx l1 T1 l4 T4 lt Tt num ns tc gS az (ds.set n (dk cT b)))) ?_ (k:=xs.length)
  ⟨0,_,rfl,by omega,Sn.refl _ _,rfl,?_⟩
 rotate_left
 ·have e:up f i (some ((xs.take 0).map (wm ns az)++xs.drop 0,w))=f:=funext (by grind[im,fL]);rw[e];have:ds.set n (dk cT f)=ds:=by
   obtain⟨L,A⟩:=gL.1 s;rw[<-A,List.set_getElem_self]
  simp_all
 rintro k _ _ _ _ _ _ L ⟨j,b,⟨⟩,hk,M,d,c⟩;unfold lR;have N:=(gL.1 s).1;have g:(ds.set n (dk cT b))[n]? =some (dk cT b):=by simp_all
 have m:b i=some ((xs.take j).map (wm ns az)++xs.drop j,w):=by rw[d,im]
 by_cases hj:j<xs.length
 ·refine dZ ?_;have O:=fg hj;have G:((xs.take j).map (wm ns az)).length=j:=by rw[yn,JQ];omega
  have o:((xs.take j).map (wm ns az)++xs.drop j)[j]? =some xs[j]:=by
   rw[Se (by omega),G,Nat.sub_self,SE hj];rfl
  have p:((xs.take j).map (wm ns az)++xs.drop j).set j (wm ns az xs[j])=(xs.take (j+1)).map (wm ns az)++xs.drop (j+1):=by
   rw[zi O,LX,Hq,SE hj,List.set_append_right _ _ (by omega),G,Nat.sub_self];rfl
  have B:j<((xs.take j).map (wm ns az)++xs.drop j).length:=by grind
  have C:=z _ (ym hj);generalize xs[j]=x at*;obtain⟨la,P,_,D,R⟩:=(c.rows (n+5) g m).read.nat o .i64;refine cO D (cO R (cO (c.ld 1 rfl rfl) (cO (c.ld 0 rfl rfl) ?_)));refine CT c t J u y C λr q S T=>⟨iC _,cO S (cO T (cO D ⟨c.ld 1 rfl rfl,?_⟩))⟩
  obtain⟨l3,U,A,W,X,Y,E,Z⟩:=c.RU (n+5) g m B (wm ns az x);rw[D]at W;obtain⟨rfl,rfl⟩:la=l3/\P=U:=by simp_all
  rw [X,cU];refine⟨Y,du ⟨k-1,by omega,j+1,_,rfl,by omega,M.trans Z,rfl,?_⟩⟩;have E:cS F A (Nx l1 T1 l4 T4 lt Tt num ns tc gS az ((ds.set n (dk cT b)).set n (dk cT (up b i (some (((xs.take j).map (wm ns az)++xs.drop j).set j (wm ns az x),w)))))):=E;rw[List.set_set,p,d]at E;have e:up (up f i (some ((xs.take j).map (wm ns az)++xs.drop j,w))) i (some ((xs.take (j+1)).map (wm ns az)++xs.drop (j+1),w))=up f i (some ((xs.take (j+1)).map (wm ns az)++xs.drop (j+1),w)):=funext λa=>by
   by_cases e:a=i
   ·simp_all
   grind[fL]
  simp_all
 refine fq ?_;obtain rfl:j=xs.length:=by omega
 simp_all
end
open Un Dm
structure Sl (ss:List (List (Fm×V×V))) (nm:Nat->Nat) (b:List Nat) (S:Int->Option V) (fl:KF->Option (List Nat×V)) (c:List (List (Fm×V×V))):Prop where
 map:∀s:Nat,S s=if s∈b then some (.I (b.idxOf s:Nat)) else none
 out:c=b.map λs=>ss.getD s []
 rows:∀s l k x a w,ss[s]? =some l->l[k]? =some (x,a,w)->fl (s,k,false)=some (if s∈b then x.locals.map nm else x.locals,a)/\fl (s,k,true)=some (if s∈b then x.stack.map nm else x.stack,w)
 nd:b.Nodup
 lt:∀s∈b,s<ss.length
def Po(a:List Nat)(s:Nat):List Nat:=if s∈a then a else a++[s]
section
variable {F F':Nat->Prop} {h h':Hp} {cs ds:List Pc} {Q:dg} {u:U} {l1 T1 l4 T4 lt Tt lm lb Tb lr Tr lo To:Nat} {num gS a0 a1 a2 a3 b0 b1 b2 b3 ws A7:V} {ns:List Nat} {az:List Int} {S:Int->Option V}
 {fl:KF->Option (List Nat×V)} {ss UT:List (List (Fm×V×V))} {sl:List Nat}
abbrev Sx(fl:KF->Option (List Nat×V)) (ss:List (List (Fm×V×V))) (ws:V) (lm:Nat) (S:Int->Option V) (lb Tb lr Tr l4 l1 lo To:Nat) (b0 b1 b2 b3 A7:V) (a:List (List (Fm×V×V))) (ds:List Pc):List Pc:=
 dk cT fl::cW (eL Kb) jJ ss ws::KB lm S::cV lb Tb [.map lm]::cV lr Tr [.func eU [] [.ptr l4 0,.ptr l1 0]]::cV lo To [b0,b1,b2,b3,A7]::cW (eL Kb) jJ a A7::ds
theorem cS.Mc{p:Pc}(H:cS F h (p::cs))(n:Nat)(a:n<=cs.length):cS F h (cs.take n++p::cs.drop n):=by
 have b:(cs.take n).length=n:=by rw[JQ];omega
 refine H.re (λi=>if i<n then i+1 else if i=n then 0 else i) (λi c hc=>?_) λi j _ _ e=>?_
 ·grind
 grind
theorem cS.FD(H:cS F h cs)(n:Nat)(a:n<=cs.length):cS F h (cs.take n++cs.drop (n+1)):=by
 have b:(cs.take n).length=n:=by rw[JQ];omega
 refine H.re (λi=>if i<n then i else i+1) (λi c hc=>?_) λi j _ _ e=>?_
 ·grind
 grind
theorem cS.Zh{α:Type}{E:oY α}{ty:Nat}{xs:List α}{v:V}(H:cS F h cs)(i:Nat)(hi:cs[i]? =some (cW E ty xs v)){k n l o:Nat}{kd:IntKind}(hk:k<xs.length)(e:eX n v (.int kd (k:Nat))=some (.ptr l o)):l<h.next:=by
 rcases H.row i hi with⟨_,rfl⟩|⟨t,ws,rfl,a,_⟩
 ·simp_all
 grind[se]
theorem IH(C:cS F h (Nx l1 T1 l4 T4 lt Tt num ns [a0,a1,a2,a3,ws] gS az (Sx fl ss ws lm S lb Tb lr Tr l4 l1 lo To b0 b1 b2 b3 A7 UT ds)))(c:Sl ss (wm ns az) sl S fl UT)(hn:az.length<=3000)(J:ns.length=az.length)(K:∀(v:Nat)(a:Int),az[v]? =some a->a<az.length)
  {s:Nat} {l:List (Fm×V×V)} (hs:ss[s]? =some l) (aq:ss.length<=1000) (ar:l.length<=1000) (aa:∀y∈l,y.1.locals.length<=1000/\y.1.stack.length<=1000/\(∀v∈y.1.locals,v<az.length)/\∀v∈y.1.stack,v<az.length)
  (H:∀h' d S' q f,Sn F h F h'->Sl ss (wm ns az) (Po sl s) S' d q->cS F h' (Nx l1 T1 l4 T4 lt Tt num ns [a0,a1,a2,a3,ws] gS az (Sx d ss ws lm S' lb Tb lr Tr l4 l1 lo To b0 b1 b2 b3 f q ds))->Q (.I ((Po sl s).idxOf s:Nat)) h') :
  cP CS dh [.I s,.ptr lb 0,.ptr lo 0,.ptr l1 0,.ptr lr 0] h Q:=by
 refine yk rfl rfl ?_;unfold pw;refine cO (C.ld 8 rfl rfl) (cO (C.Wz 7 rfl s _) ?_);rw[c.map s];have ab:s<ss.length:=by grind
 by_cases hm:s∈sl
 ·rw[if_pos hm];refine cO (yz 0 _) (cO (yz 1 _) (qI (ei rfl ?_)));refine lY ?_;unfold jf;have ha:Po sl s=sl:=if_pos hm
  grind[Sn.refl]
 rw [if_neg hm];have ha:Po sl s=sl++[s]:=if_neg hm;rw[ha]at H;have hk:(sl++[s]).idxOf s=sl.length:=by
  rw[List.idxOf_append,if_neg hm];simp
 rw[hk]at H;have L:UT.length=sl.length:=by rw[c.out,yn]
 have ap:sl.length<=ss.length:=gq _ _ c.nd c.lt;refine cO (yz 0 _) (cO (yz 1 _) (qI (dM (by simp) ?_)));refine cO (by rfl) (cO (C.ld 10 rfl rfl) (cO (C.len 11 rfl) (cO (C.ld 8 rfl rfl) ?_)));rw[L];obtain⟨D,e1,_,E,s1⟩:=C.Zk 7 rfl (k:=(s:Int)) (by rw[c.map s,if_neg hm]) (.I sl.length);have ac:Hu 3 none (.map lm) (.I s) (.I sl.length) h=some (.val .undef D):=e1;rw[ac,cU];simp only[fY,jq]at E;obtain⟨lx,M,wx,p,N,⟨Z,rfl,xf⟩,O⟩:=E.RC 6 rfl hs .i64;have p:eX 1 ws (.I s)=some (.ptr lx M):=p;have O:df (.ptr lx (M+0)) D=some Z:=O 0 Z rfl;refine cO (E.ld 0 rfl rfl) (cO (dq _ _) (cO (by rfl) (cO (by rfl) (cO (E.ld 2 rfl rfl) (cO p (cO (by rfl) (cO O (cO xf.len ?_))))))))
 refine vf (λk l' h'=>∃(j:Nat) (d:KF->Option (List Nat×V)),l' = [.I s,.ptr lo 0,.ptr l1 0,.ptr lr 0,.I sl.length,Z,.I l.length,.I j]/\j+k=l.length/\Sn F D F h'/\
  (∀t k b,t≠s->d (t,k,b)=fl (t,k,b))/\(∀k x a w,l[k]? =some (x,a,w)->d (s,k,false)=some (if k<j then x.locals.map (wm ns az) else x.locals,a)/\d (s,k,true)=some (if k<j then x.stack.map (wm ns az) else x.stack,w))/\
  cS F h' (Nx l1 T1 l4 T4 lt Tt num ns [a0,a1,a2,a3,ws] gS az (Sx d ss ws lm (up S s (some (.I sl.length))) lb Tb lr Tr l4 l1 lo To b0 b1 b2 b3 A7 UT ds))) ?_ (k:=l.length)
  ⟨0,fl,rfl,by omega,Sn.refl _ _,by simp_all,λk x a w hk=>?_,E⟩
 rotate_left
 ·have:=c.rows s l k x a w hs hk
  simp_all
 clear E p O;rintro k _ _ _ _ _ _ _ _ G ⟨j,d,⟨⟩,au,s2,P,ae,r⟩;unfold lG;have ag:=xf.since s2;by_cases hj:j<l.length
 ·refine dZ ?_;have hy:=fg hj;obtain⟨R,T,A,B⟩:=aa _ (ym hj);obtain⟨ly,oy,wy,_,y1,y2,y3,_⟩:=ag.ix hj .i64;obtain⟨⟨x,a,w⟩,ah⟩:∃y,l[j]=y:=⟨_,rfl⟩
  rw[ah]at hy y3 R T A B;dsimp only at R T A B;obtain⟨rfl,y4,y5⟩:=y3;have y1:eX 4 Z (.I j)=some (.ptr ly oy):=y1;refine cO y1 (cO y2 ?_);refine fo r rfl rfl (by simp only[Jo,cY,y4,y5];rfl) λh3 m s3=>?_;generalize G.next=lf at*;have m:cS F h3 (Nx l1 T1 l4 T4 lt Tt num ns [a0,a1,a2,a3,ws] gS az (Sx d ss ws lm (up S s (some (.I sl.length))) lb Tb lr Tr l4 l1 lo To b0 b1 b2 b3 A7 UT (cV lf 47 (Jo x a w)::ds))):=m.Mc 12 (by simp);obtain⟨U,ai⟩:=ae j x a w hy;rw[if_neg (by omega)]at U ai;refine cO (m.ld 9 rfl rfl) (cO (by rfl) (cO (m.ld 12 rfl rfl) ?_));show cP CS eU [a,.ptr l4 0,.ptr l1 0] h3 _;refine DH 0 m rfl U rfl hn J K A (by omega) λW s4 n=>?_;simp only[fY]at n;have n:cS F W (Nx l1 T1 l4 T4 lt Tt num ns [a0,a1,a2,a3,ws] gS az (Sx (up d (s,j,false) (some (x.locals.map (wm ns az),a))) ss ws lm (up S s (some (.I sl.length))) lb Tb lr Tr l4 l1 lo To b0 b1 b2 b3 A7 UT (cV lf 47 (Jo x a w)::ds))):=n;refine cO (n.ld 9 rfl rfl) (cO (by rfl) (cO (n.ld 12 rfl rfl) ?_));show cP CS eU [w,.ptr l4 0,.ptr l1 0] W _;refine DH 0 n rfl (i:=(s,j,true)) (by grind[fL]) rfl hn J K B (by omega) λh5 s5 X=>?_;simp only[fY]at X;refine du ⟨k-1,by omega,j+1,_,rfl,by omega,((s2.trans s3).trans s4).trans s5,λt k b I=>?_,λk z b c hk=>?_,X.FD 12 (by simp)⟩
  ·rw[fL _ _ (by simp[I]),fL _ _ (by simp[I])]
   grind
  ·by_cases e:k=j
   ·simp_all[if_pos,fL,im]
   ·rw[fL _ _ (by simp),fL _ _ (by simp[e]),fL _ _ (by simp[e]),fL _ _ (by simp)]
    grind
 refine fq ?_;obtain rfl:j=l.length:=by omega
 obtain⟨lx,M,wx,p,N,⟨g,rfl,Y⟩,O⟩:=r.RC 6 rfl hs .i64;have p:eX 1 ws (.I s)=some (.ptr lx M):=p;have N:eg 1 (.ptr lx M) G=some (.agg [g]):=N;refine cO (by rfl) (cO (r.ld 10 rfl rfl) (cO (r.ld 0 rfl rfl) (cO (dq _ _) (cO (by rfl) (cO (by rfl) (cO (r.ld 2 rfl rfl) (cO p (cO N ?_))))))));rw[qv (sz:=1) (w:=[g]) rfl rfl (by simp only[cY,Y.one];rfl),fQ];have m:cS F (G.new (.cells 50 1 true false [g])) (cV G.next 50 [g]::_):=(r.vW jJ [g]).1;obtain⟨f,W,e4,n4,n,s4⟩:=r.Cq 11 rfl (ic:=24) (wF:=50) (y:=l) (w:=[g]) (ro:=false) ⟨g,rfl,Y⟩ (by decide) (by decide) (by omega);have aj:c9 50 1 24 A7 (.slice G.next 0 1) (G.new (.cells 50 1 true false [g]))=some (.val f W):=e4;have ak:=r.Zh 6 rfl ab p;have al:=DQ N (ez (.cells 50 1 true false [g]) ak);refine⟨⟨m.get 0 rfl,bq⟩,al,m.ld 3 rfl rfl,m.ld 1 rfl rfl,m.ld 11 rfl rfl,?_⟩;rw[aj,cU];simp only[fY,jq]at n;obtain⟨h5,e5,n5,X,s5⟩:=n.st 10 (o:=4) (u:=f) rfl (by simp) (n.one 11 rfl);refine⟨by simp_all,cO (by rfl) ?_⟩;have am:fk 1 (.ptr lo (0+4)) f W=some (.val .undef h5):=by rw[yD];exact e5
 rw[am,cU];simp only[fY,jq]at X;refine⟨n5,lY ?_⟩;unfold jf;have an:ss.getD s []=l:=by rw[Au,hs];rfl
 refine H h5 d (up S s (some (.I sl.length))) (UT++[l]) f (((s1.trans s2).trans s4).trans s5) ⟨λt=>?_,by rw[c.out,LX,PR,OG,an],λt l' k x a w I ao=>?_,?_,λt I=>?_⟩ X
 ·by_cases e:t=s
  ·simp_all
  ·rw[fL _ _ (by omega),c.map t]
   grind
 ·by_cases e:t=s
  ·grind
  ·rw[P t k false e,P t k true e];have:=c.rows t l' k x a w I ao
   simp_all
 ·rw[Wh];exact⟨c.nd,by simp,by grind⟩
 ·rcases EC.1 I with D|D
  ·exact c.lt t D
  simp_all
end
open Un Dm
section
variable{F F':Nat->Prop}{h h':Hp}{cs ds:List Pc}{Q:dg}{u:U}
theorem UD(cs:List Pc):∀(a:List Nat),(∀m∈a,m<cs.length)->(a.filterMap λm=>cs[m]?).length=a.length/\∀i:Nat,(a.filterMap λm=>cs[m]?)[i]? = (a[i]?).bind λm=>cs[m]?
 |[],_=>by simp_all
 | m::a,hm=>by
   obtain⟨b,c⟩:=UD cs a (by simp_all)
   grind
theorem cS.perm(H:cS F h cs)(a:List Nat)(k:Nat)(b:∀m∈a,m<k)(d:a.Nodup)(hk:k<=cs.length):cS F h ((a.filterMap λm=>cs[m]?)++cs.drop k):=by
 obtain⟨f,l⟩:=UD cs a (by grind);refine H.re (λi=>if i<a.length then a.getD i 0 else k+(i-a.length)) (λi c hc=>?_) λi j _ _ e=>?_
 ·grind
 ·have g:∀i,i<a.length->a.getD i 0<k/\a[i]? =some (a.getD i 0):=by simp_all
  by_cases hi:i<a.length
  ·rw [if_pos hi]at e;by_cases hj:j<a.length
   ·rw[if_pos hj]at e
    grind[my]
   grind
  grind
end
structure ug (u:U) (az:List Int):Prop where
 nv:u.cR.length<=3000
 nb:u.blocks.length<=300
 ns:u.cZ.length<=1000
 once:TS u
 gz:∀(v b k:Nat),At u v b k->v<u.cR.length
 len:az.length=u.cR.length
 sub:∀(v:Nat) (a:Int),az[v]? =some a->a<az.length
 parts:∀(v:Nat) (x:Vl),u.cR[v]? =some x->x.args.length<=700/\(om x.op=true\/two x.op=true->x.a<u.cR.length)/\(two x.op=true->x.b<u.cR.length)/\(x.op=21\/x.op=20->∀w∈x.args,w<u.cR.length)/\(leaves x.op=true->x.state<u.cZ.length)
 ends:∀(b:Nat) (B:Bk),u.blocks[b]? =some B->(B.fin=2->B.cond<u.cR.length)/\(B.fin=3->B.state<u.cZ.length)
 st:∀(s:Nat) (fs:List Fm),u.cZ[s]? =some fs->fs.length<=1000/\∀f∈fs,f.locals.length<=1000/\f.stack.length<=1000/\(∀v∈f.locals,v<u.cR.length)/\∀v∈f.stack,v<u.cR.length
structure YN (u:U) (az:List Int) (i:Nat) (bs a:List (Bk×V)):Prop where
 len:a.length=bs.length
 row:∀(b:Nat) (B:Bk) (w:V),bs[b]? =some (B,w)->a[b]? =some (if b<i then{B with cR:=(B.cR.filter (stays (iM az))).map (de u (iM az)).idxOf} else B,w)
section
variable{F F':Nat->Prop}{h h':Hp}{cs ds:List Pc}{Q:dg}{u:U}{wv wb ws gS:V}{lt Tt:Nat}{az:List Int}{xs:List (Vl×V)}{bs:List (Bk×V)}{fa fn:Nat->Option (List Nat×V)}{ss:List (List (Fm×V×V))}{fl:KF->Option (List Nat×V)}
theorem TB{T l o:Nat}{K:dg}(H:cS F h ds)(b:∀a,cS F a (cV h.next T [.ptr l o]::ds)->Sn F h F a->K (.ptr h.next 0) a):gJ (qd T (.ptr l o)) h K:=by
 rw[show qd T (.ptr l o)=some (.cells T 1 true false [.ptr l o],λl=> .ptr l 0) from rfl,dC];exact b _ (H.vW T _).1 (H.vW T [.ptr l o]).2
theorem AJ{T:Nat}{ws:List V}{K:dg}(H:cS F h ds)(b:∀a,cS F a (cV h.next T ws::ds)->Sn F h F a->K (.ptr h.next 0) a):gJ (some (O.cells T 1 true false ws,λl=>V.ptr l 0)) h K:=by
 rw[dC];exact b _ (H.vW T _).1 (H.vW T ws).2
theorem OJ{T:Nat}{ws:List V}{K:O->dg}(H:cS F h ds)(b:∀a,cS F a (cV h.next T ws::ds)->Sn F h F a->K (.cells T 1 true false ws) (.ptr h.next 0) a):E0 (some (O.cells T 1 true false ws,λl=>V.ptr l 0)) h K:=by
 rw[fQ];exact b _ (H.vW T _).1 (H.vW T ws).2
theorem GC{T:Nat}{z w:V}{K:dg}(H:cS F h ds)(c:w.one=true)(d:∀a,cS F a (cV h.next T [w]::ds)->Sn F h F a->K (.ptr h.next 0) a):gJ (some (O.cells T 1 true false [z],λl=>V.ptr l 0)) h λv b=>dz (fk 1 v w b) λ_ a=>K v a:=by
 refine AJ H λb e f=>?_;obtain⟨a,g,_,i,j⟩:=e.st 0 (o:=0) rfl (by simp) c;rw[g,cU];exact d a i (f.trans j)
theorem VG{K:dg}(H:cS F h ds)(b:∀a,cS F a (KB h.next (λ_=>none)::ds)->Sn F h F a->K (.map h.next) a):gJ (some (O.map [] 0,λl=>V.map l)) h K:=by
 rw[dC];exact b _ H.WV.1 H.WV.2
theorem K9(g:ug u az)(hc:Rt u.cR xs fa)(hb:PT u.blocks bs fn)
  (H0:cS F h (cW sr dP xs wv::cW qe dm bs wb::dk cT fa::dk cT fn::cW eZ cT az gS::cV lt Tt [.I u.func,.I u.pc,wv,wb,ws,gS]::cW (eL Kb) jJ ss ws::dk cT fl::cs))
  (H:∀F' h' l1 T1 l2 l3 l4 T4 lm lb Tb lr Tr num ns U c,Sn F h F' h'->YN u az u.blocks.length bs c->ns.length=u.cR.length->(∀v,v<u.cR.length->ns[v]? =some (if v∈de u (iM az) then(de u (iM az)).idxOf v else 0))->
   cS F' h' (Nx l1 T1 l4 T4 lt Tt num ns [.I u.func,.I u.pc,wv,wb,ws] gS az (Sx fl ss ws lm (λ_=>none) lb Tb lr Tr l4 l1 l3 fA (.I u.func) (.I u.pc) .cQ .cQ .cQ []
    (cW sr dP xs wv::cW qe dm c wb::dk cT fa::dk cT fn::cW sr dP [] .cQ::cW qe dm [] .cQ::cV l2 fA [.I 0,.I 0,.cQ,.cQ,.cQ]::cW eN cT (de u (iM az)) U::cs)))->
   ik CS Q [.ptr l1 0,.ptr l2 0,.ptr l3 0,.ptr l4 0,.ptr lr 0,.func dh [] [.ptr lb 0,.ptr l3 0,.ptr l1 0,.ptr lr 0],U,.I ((de u (iM az)).length:Nat),.I 0] h') :
  cP CS hH [.ptr lt 0] h Q:=by
 refine zF rfl rfl ?_;unfold rV;have nv:=g.nv;have nb:=g.nb;have ag:bs.length=u.blocks.length:=by rw[<-hb.fst,yn]
 have ah:xs.length=u.cR.length:=by rw[<-hc.fst,yn]
 refine TB H0 λh1 H1 s1=>AJ H1 λh2 R s2=>?_;generalize h.next=l1 at*;generalize h1.next=l2 at*;refine cO (R.ld 1 rfl rfl) (cO pn (cO pf (oF (R.ld 7 rfl rfl) (cO (R.ld 1 rfl rfl) (cO pn (cO pf (oF (R.ld 7 rfl rfl) ?_)))))));refine cO (by rfl) ?_;refine OJ R λh3 M s3=>?_;generalize h2.next=l3 at*;refine⟨⟨M.get 0 rfl,bq⟩,M.ld 8 rfl rfl,M.ld 2 rfl rfl,M.ld 8 rfl rfl,M.ld 2 rfl rfl,?_⟩;obtain⟨h4,e4,n4,S,s4⟩:=M.T7 0 (ws:=[.I u.func,.I u.pc,.cQ,.cQ,.cQ]) (n:=5) rfl rfl rfl rfl;rw[e4,cU];simp only[fY]at S;refine⟨n4,cO (S.ld 2 rfl rfl) (cO pn (cO pf (oF (S.ld 8 rfl rfl) (cO (S.len 3 rfl) ?_))))⟩;rw[ah,hV (z:=V.I 0) rfl (by decide) (by omega),dC];obtain⟨H5,s5⟩:=S.make (E:=eN) (ty:=cT) (y:=0) (u:=V.I 0) u.cR.length rfl rfl;generalize h4.new (.cells cT 1 true false (List.replicate u.cR.length (V.I 0)))=h5 at*;generalize h4.next=ln at*;refine GC H5 rfl λh6 N s6=>?_;generalize h5.next=l4 at*;refine cO (N.ld 4 rfl rfl) (cO pn (cO pf (oF (N.ld 10 rfl rfl) (cO (N.len 6 rfl) ?_))));rw[ag];have W:=((((s1.trans s2).trans s3).trans s4).trans s5).trans s6;clear H0 H1 R M S H5 s1 s2 s3 s4 s5 s6 e4 n4;have N:=N.add (p:=cW eN cT [] .cQ) .nil λ_ h=>h;obtain⟨A,hA⟩:∃A,iM az=A:=⟨_,rfl⟩
 rw[hA]at H
 refine w9 (λk l h'=>∃(F':Nat->Prop) (i:Nat) (ns:List Nat) (c:List (Bk×V)) (r:V),l=[.ptr l1 0,.ptr l2 0,.ptr l3 0,.ptr l4 0,r,.I u.blocks.length,.I i]/\i+k=u.blocks.length/\Sn F h F' h'/\YN u az i bs c/\
  ns.length=u.cR.length/\(∀v,v<u.cR.length->ns[v]? =some (if v∈gI u A i 0 then(de u A).idxOf v else 0))/\
  cS F' h' (cW eN cT (gI u A i 0) r::cV l4 _ [.slice ln 0 u.cR.length]::cW eN cT ns (.slice ln 0 u.cR.length)::cV l3 fA [.I u.func,.I u.pc,.cQ,.cQ,.cQ]::cV l2 fA [.I 0,.I 0,.cQ,.cQ,.cQ]::cV l1 _ [.ptr lt 0]::cW sr dP xs wv::cW qe dm c wb::dk cT fa::dk cT fn::cW eZ cT az gS::cV lt Tt [.I u.func,.I u.pc,wv,wb,ws,gS]::cW (eL Kb) jJ ss ws::dk cT fl::cs)) ?_ (k:=u.blocks.length)
  ⟨F,0,_,bs,.cQ,rfl,by omega,W,⟨rfl,by simp_all⟩,PU,λv X=>by rw[Yr,if_pos X,EG,if_neg (by simp)],by rw[EG];exact N⟩
 clear N W;rintro k _ _ _ _ r _ _ h7 ⟨Y,i,ns,c,_,⟨⟩,hk,s7,x,o,f,D⟩;unfold nU;by_cases hi:i<u.blocks.length
 ·refine dZ ?_;obtain⟨⟨B,wn⟩,Z⟩:∃y,bs[i]? =some y:=by simp_all
  have K:u.blocks[i]? =some B:=by rw[<-hb.fst,w5,Z];rfl
  have aq:B.cR.length<=u.cR.length:=gq _ _ (BZ g.once K) λv X=>by
   obtain⟨k,hk⟩:=kh.1 X;exact g.gz v i k ⟨B,K,hk⟩
  have L:c[i]? =some (B,wn):=by have:=x.row i B wn Z;rwa [if_neg (by omega)]at this
  obtain⟨l8,o8,w8,T,_,⟨bv,bp,rfl,iv,ip,ar⟩,x3⟩:=D.RC 7 rfl L .i64;have T:eX 6 wb (.I i)=some (.ptr l8 o8):=T;refine cO (D.ld 5 rfl rfl) (cO pn (cO pf (oF (D.ld 11 rfl rfl) (cO T (oF (x3 0 _ rfl) (cO iv.len ?_))))));have D:=D.add (p:=cW eN cT [] .cQ) .nil λ_ h=>h
  refine wT (λk' l h'=>∃(j:Nat) (ns:List Nat) (r G:V),l=[.ptr l1 0,.ptr l2 0,.ptr l3 0,.ptr l4 0,r,.I i,G,.I u.blocks.length,.I i,bv,.I B.cR.length,.I j]/\j+k' = B.cR.length/\Sn F h Y h'/\Sn Y h7 Y h'/\
   ns.length=u.cR.length/\(∀v,v<u.cR.length->ns[v]? =some (if v∈gI u A i j then(de u A).idxOf v else 0))/\
   cS Y h' (cW eN cT (((B.cR.take j).filter (stays A)).map (de u A).idxOf) G::cW eN cT (gI u A i j) r::cV l4 _ [.slice ln 0 u.cR.length]::cW eN cT ns (.slice ln 0 u.cR.length)::cV l3 fA [.I u.func,.I u.pc,.cQ,.cQ,.cQ]::cV l2 fA [.I 0,.I 0,.cQ,.cQ,.cQ]::cV l1 _ [.ptr lt 0]::cW sr dP xs wv::cW qe dm c wb::dk cT fa::dk cT fn::cW eZ cT az gS::cV lt Tt [.I u.func,.I u.pc,wv,wb,ws,gS]::cW (eL Kb) jJ ss ws::dk cT fl::cs)) ?_ (k:=B.cR.length)
   ⟨0,ns,r,.cQ,rfl,by omega,s7,Sn.refl _ _,o,f,D⟩
  clear D o f T x3;rintro k' _ _ _ _ r _ G _ _ _ _ _ h8 ⟨j,ns,_,_,⟨⟩,au,s8,O,o,f,s⟩;unfold og;have aw:(gI u A i j).length<=u.cR.length:=by
   have h1:=(Bw («as»:=A) (j:=j) K).length_le;have h2:=gq u.cR.length (de u A) (uc g.once) λv X=>AV g.gz X;omega
  have ax:((B.cR.take j).filter (stays A)).length<=(gI u A i j).length:=by
   unfold gI;rw[K,Ht];exact Nat.le_add_left _ _
  by_cases hj:j<B.cR.length
  ·refine dZ ?_;have hx:=fg hj;have ay:=zi hx;generalize B.cR[j]=v at*;have ai:=g.gz v i j ⟨B,K,hx⟩;obtain⟨la,oa,_,T,x2⟩:=(iv.since O).nat hx .i64;obtain⟨a,ha⟩:∃a,az[v]? =some a:=⟨_,fg (by rw[g.len];exact ai)⟩
   obtain⟨lb,ob,y1,y2⟩:=s.L9 11 rfl ha .i64;have aa:A v=a:=by rw[<-hA];exact Nf ha
   have I:=ET («as»:=A) K hx;refine cO T (cO x2 (cO (s.ld 6 rfl rfl) (oN (s.ld 12 rfl rfl) (cO y1 (cO y2 (eh ?_))))));by_cases e:a=(v:Int)
   ·refine ei e ?_;have J:stays A v=true:=by unfold stays;rw[aa,e];exact beq_self_eq_true _
    rw[if_pos J]at I;obtain⟨aA,aB⟩:=VP («as»:=A) g.once K hx J;refine cO (s.ld 2 rfl rfl) (cO (s.len 1 rfl) ?_);obtain⟨lc,oc,h9,e1,e2,_,q,s9⟩:=s.D7 3 rfl (k:=v) (y:=(gI u A i j).length) (u:=V.I ((gI u A i j).length:Nat)) (by omega) rfl rfl rfl;refine cO e1 ?_;rw[e2,cU];simp only[fY,jq]at q;refine cO (q.len 1 rfl) ?_;rw[kH,dC];obtain⟨va,m,aj,_,d,t⟩:=q.Cq 0 rfl (ic:=8) (wF:=3) (y:=(gI u A i j).length) (w:=fi [(gI u A i j).length]) (ro:=false) rfl (by decide) (by decide) (by simp;omega);have ab:c9 3 1 8 G (.slice h9.next 0 1) (h9.new (.cells 3 1 true false (fi [(gI u A i j).length])))=some (.val va m):=aj;rw[ab,cU];simp only[fY,jq]at d;rw[kH,dC];obtain⟨vc,ak,al,_,P,am⟩:=d.Cq 1 rfl (ic:=8) (wF:=3) (y:=v) (w:=fi [v]) (ro:=false) rfl (by decide) (by decide) (by omega);have ac:c9 3 1 8 r (.slice m.next 0 1) (m.new (.cells 3 1 true false (fi [v])))=some (.val vc ak):=al;rw[ac,cU];simp only[fY,jq]at P;refine mP ?_;unfold ju;have sA:=(s9.trans t).trans am;refine du ⟨k'-1,by omega,j+1,ns.set v (gI u A i j).length,vc,va,rfl,by omega,s8.trans sA,O.trans sA,by simp_all,λw hw=>?_,?_⟩
    ·grind
    simp_all
   ·refine dM e (mP ?_);unfold ju;have J:stays A v=false:=by unfold stays;rw[aa];exact QO.2 e
    rw[J]at I;have I:gI u A i (j+1)=gI u A i j:=I;refine du ⟨k'-1,by omega,j+1,ns,r,G,rfl,by omega,s8,O,o,by simp_all,?_⟩
    simp_all
  refine fq ?_;obtain rfl:j=B.cR.length:=by omega
  rw [E5]at s;rw[LO K]at f s;obtain⟨q,s9,r9⟩:=s.gh 0 rfl;simp only[fY]at q;have q:=q.tail;generalize (λl=>Y l\/Loc G l)=F9 at*;have ae:=gL.1 L;obtain⟨lq,m,e1,e2,_,d,t⟩:=q.YV 7 rfl (k:=i) (j:=0) (y:=({B with cR:=(B.cR.filter (stays A)).map (de u A).idxOf},wn)) (a:=G) ae.1 (by decide) r9.one (λw' hw=>by
   rw[ae.2]at hw;obtain⟨pv,pp,rfl,_,q2,q3⟩:=hw;exact⟨G,pp,rfl,r9,q2,q3⟩)
  have e1:eX 6 wb (.I i)=some (.ptr lq (i*6)):=e1;refine cO (q.ld 5 rfl rfl) (cO pn (cO pf (oF (q.ld 11 rfl rfl) (cO e1 (cO pf ?_)))));have an:fk 1 (.ptr lq (i*6+0)) G h8=some (.val .undef m):=e2;rw[an,cU];simp only[fY,jq]at d;refine du ⟨k-1,by omega,F9,i+1,ns,_,r,rfl,by omega,(s8.trans s9).trans t,⟨by rw[Hb,x.len],λb C w ao=>?_⟩,o,f,d⟩;by_cases e:b=i
  ·grind
  ·rw[CL (by omega),x.row b C w ao]
   grind
 refine fq ?_;obtain rfl:i=u.blocks.length:=by omega
 rw[Md]at f D;refine VG D λh8 s s8=>GC s rfl λh9 q s9=>GC q rfl λm d t=>?_;generalize h7.next=lm at*;generalize h8.next=lb at*;generalize h9.next=lr at*;refine cO (d.len 3 rfl) ?_;have P:=((d.add (p:=cW (eL Kb) jJ [] .cQ) .nil λ_ h=>h).add (p:=cW sr dP [] .cQ) .nil λ_ h=>h).add (p:=cW qe dm [] .cQ) .nil λ_ h=>h;have ap:=P.perm [11,7,17,8,16,19,18,5,4,3,9,2,12,13,14,15,1,0,10,6] 20 (by decide) (by decide) (by simp);exact H _ m l1 _ l2 l3 l4 _ lm lb _ lr _ _ ns _ c (((s7.trans s8).trans s9).trans t) x o f ap
end
