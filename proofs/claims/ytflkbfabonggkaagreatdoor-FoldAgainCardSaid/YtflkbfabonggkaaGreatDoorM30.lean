/- Parts. -/
import Derived.Test.YtflkbfabonggkaaGreatDoorM29
set_option maxHeartbeats 4000000
namespace Go.Proofs.YtflkbfabonggkaaGreatDoor.Hx
open Un Dm
def SU(l:Nat)(S:Int->Option V):Pc where
 ma:=λm=>m=l
 ok F h:=(∃a c,h.get l=some (.map a c)/\(∀e∈a,∃k:Int,e.1 = .I k/\S k=some e.2.1)/\∀k v,S k=some v->∃e∈a,e.1 = .I k)/\l<h.next/\¬F l
 Oa:=by simp_all
 fh:=by grind
 mono:=by simp_all
theorem Lf(k:Int):∀(a:List (V×V×Nat))(i:Nat),(∀e∈a,∃k:Int,e.1 = .I k)->
  (ye eo none (.I k) a i=some none/\∀e∈a,e.1≠ .I k)\/∃j e,ye eo none (.I k) a i=some (some (i+j,e.2.1))/\a[j]? =some e/\e.1 = .I k
 |[],i,_=> .inl ⟨rfl,by simp_all⟩
 | e ::a,i,h=>by
   obtain ⟨k',c⟩:=h e (ZP ..);have b:ye eo none (.I k) (e::a) i=if k=k' then some (some (i,e.2.1)) else ye eo none (.I k) a (i+1):=by
     show oB (SY eo none (.I k) e.1) _=_;rw[c,show SY eo none (V.I k) (V.I k')=some (k == k') from Uo _ _];by_cases hk:k=k'
     ·simp_all
     ·rw[if_neg hk,Ti.2 hk];rfl
   by_cases hk:k=k'
   ·subst hk
    rw[if_pos rfl]at b;exact .inr ⟨0,e,b,rfl,c⟩
   ·rw[if_neg hk]at b
    rcases Lf k a (i+1) (by grind)with⟨f,d⟩|⟨j,e',f,d,g⟩
    ·grind
    ·exact .inr ⟨j+1,e',by grind,d,g⟩
section
variable{F F':Nat->Prop}{h h':Hp}{cs ds:List Pc}{Q:ft}{l:Nat}{S:Int->Option V}
theorem ej.zeK(H:ej F h cs)(i:Nat)(hi:cs[i]? =some (SU l S))(k:Int)(z:V):U1 eo none z true (.map l) (.I k) h=some (.tuple (match S k with|some v=>[v,.bool true]|none=>[z,.bool false])):=by
 obtain ⟨⟨f,c,n,o,s⟩,_⟩:=H.ok i _ hi;have g:∀r,ye eo none (.I k) f 0=some r->U1 eo none z true (.map l) (.I k) h=some (found z true r):=λr p=>by
  unfold U1 Fa;simp only[n,fe];rw[p];rfl
 rcases Lf k f 0 (by grind)with⟨d,m⟩|⟨j,e,d,m,q⟩
 ·rw[g _ d]
  cases hS:S k with
  |none=>rfl
  | some v=>
    grind
 ·rw[g _ d];obtain⟨k',a,b⟩:=o e (Dh m);rw[q]at a;cases a;rw[b];rfl
theorem ej.zfp(H:ej F h cs)(i:Nat)(hi:cs[i]? =some (SU l S)){k:Int}(t:S k=none)(v:V):∃h',Og eo none (.map l) (.I k) v h=some (.val .undef h')/\h.next<=h'.next/\ej F h' (cs.set i (SU l (up S k (some v))))/\Sn F h F h':=by
 obtain⟨⟨d,c,n,o,u⟩,f,q⟩:=H.ok i _ hi;rcases Lf k d 0 (by grind)with⟨g,m⟩|⟨j,e,g,m,x⟩
 ·have r:Qi eo none d c (.I k) v=some (.map (d++[(.I k,v,c)]) (c+1)):=by unfold Qi;rw[g];rfl
  refine⟨h.put l (.map (d++[(.I k,v,c)]) (c+1)),?_,iZ _,H.DG (p:=SU l (up S k (some v))) hi (lN.put _ rfl f) ⟨⟨_,_,gg _ f,λe s=>?_,λk' w hk=>?_⟩,f,q⟩ λ_ h=> .inl h⟩
  ·unfold Og Fa;simp only[n,fe,r];rfl
  ·rcases I8.1 s with h|h
   ·grind[js]
   simp_all
  ·by_cases e:k' = k
   ·simp_all
   simp_all[js,Xu]
 ·obtain⟨k',a,b⟩:=o e (Dh m)
  simp_all
theorem ej.zer(H:ej F h cs):ej F (h.new (.map [] 0)) (SU h.next (λ_=>none)::cs)/\Sn F h F (h.new (.map [] 0)):=
 H.new (p:=SU h.next λ_=>none) _ ⟨by simp_all[fg],Oy _,H.fresh⟩ λ_ e=>e
end
abbrev Nx(l1 T1 l4 T4 lt Tt:Nat) (num:V) (ns:List Nat) (tc:List V) (kG:V) (az:List Int) (ds:List Pc):List Pc:=
 ev l1 T1 [.ptr lt 0]::ev l4 T4 [num]::ev lt Tt (tc++[kG])::eJ eN eo ns num::eJ eZ eo az kG::ds
def BS(ns:List Nat)(az:List Int)(v:Nat):Nat:=ns.getD (xH (mX az) (az.length+1) v) 0
section
variable{F F':Nat->Prop}{h h':Hp}{cs ds:List Pc}{Q:ft}{u:U}{l1 T1 l4 T4 lt Tt:Nat}{num kG:V}{ns:List Nat}{tc:List V}{az:List Int}
theorem Kb(b:ej F h (Nx l1 T1 l4 T4 lt Tt num ns tc kG az ds))(d:tc.length=5)(e:az.length<=3000)(f:ns.length=az.length)(c:∀(v:Nat)(a:Int),az[v]? =some a->a<az.length){v:Nat}(hv:v<az.length)
  (H:∀w q,gz 1 num (.I (w:Nat))=some q->ez q h=some (.I (BS ns az v:Nat))->Q (.I (w:Nat)) h):cP CS jm [.ptr lt 0,.I v] h Q:=by
 have g:ez (.ptr lt 5) h=some kG:=b.ld 2 rfl (by simp_all);refine zaZ g (b.row 4 rfl).read e c hv λj=>?_;have i:ns[xH (mX az) (az.length+1) v]? =some (BS ns az v):=by
  unfold BS;rw[DY,gW (by omega)];rfl
 obtain⟨l,o,k,m⟩:=b.LW 3 rfl i .i64
 simp_all
theorem KU{ι:Type} [DecidableEq ι] {f:ι->Option (List Nat×V)}{i:ι}{xs:List Nat}{w:V}(n:Nat)(I:ej F h (Nx l1 T1 l4 T4 lt Tt num ns tc kG az ds))(s:ds[n]? =some (fS eo f))(hi:f i=some (xs,w))(t:tc.length=5)(J:az.length<=3000)(u:ns.length=az.length)(y:∀(v:Nat)(a:Int),az[v]? =some a->a<az.length)
  (z:∀x∈xs,x<az.length) (K:xs.length<1000000)
  (H:∀h',Sn F h F h'->ej F h' (Nx l1 T1 l4 T4 lt Tt num ns tc kG az (ds.set n (fS eo (up f i (some (xs.map (BS ns az),w))))))->Q (.tuple []) h') :
  cP CS iD [w,.ptr l4 0,.ptr l1 0] h Q:=by
 refine DE rfl rfl ?_;unfold vx;refine ed (I.rows (n+5) s hi).len ?_
 refine Av (λk l h'=>∃(j:Nat) (b:ι->Option (List Nat×V)),l=[w,.ptr l4 0,.ptr l1 0,w,.I xs.length,.I j]/\j+k=xs.length/\Sn F h F h'/\b=up f i (some ((xs.take j).map (BS ns az)++xs.drop j,w))/\ej F h' (Nx l1 T1 l4 T4 lt Tt num ns tc kG az (ds.set n (fS eo b)))) ?_ (k:=xs.length)
  ⟨0,_,rfl,by omega,Sn.refl _ _,rfl,?_⟩
 rotate_left
 ·have e:up f i (some ((xs.take 0).map (BS ns az)++xs.drop 0,w))=f:=funext (by grind[lg,js]);rw[e];have:ds.set n (fS eo f)=ds:=by
   obtain⟨L,A⟩:=jP.1 s;rw[<-A,List.set_getElem_self]
  simp_all
 rintro k _ _ _ _ _ _ L ⟨j,b,⟨⟩,hk,M,d,c⟩;unfold qM;have N:=(jP.1 s).1;have g:(ds.set n (fS eo b))[n]? =some (fS eo b):=by simp_all
 have m:b i=some ((xs.take j).map (BS ns az)++xs.drop j,w):=by rw[d,lg]
 by_cases hj:j<xs.length
 ·refine gG ?_;have O:=gW hj;have G:((xs.take j).map (BS ns az)).length=j:=by rw[DL,Mo];omega
  have o:((xs.take j).map (BS ns az)++xs.drop j)[j]? =some xs[j]:=by
   rw[Yq (by omega),G,Nat.sub_self,Xx hj];rfl
  have p:((xs.take j).map (BS ns az)++xs.drop j).set j (BS ns az xs[j])=(xs.take (j+1)).map (BS ns az)++xs.drop (j+1):=by
   rw[EO O,Ox,LY,Xx hj,List.set_append_right _ _ (by omega),G,Nat.sub_self];rfl
  have B:j<((xs.take j).map (BS ns az)++xs.drop j).length:=by grind
  have C:=z _ (AW hj);generalize xs[j]=x at*;obtain⟨la,P,_,D,R⟩:=(c.rows (n+5) g m).read.nat o .i64;refine ed D (ed R (ed (c.ld 1 rfl rfl) (ed (c.ld 0 rfl rfl) ?_)));refine Kb c t J u y C λr q S T=>⟨iZ _,ed S (ed T (ed D ⟨c.ld 1 rfl rfl,?_⟩))⟩
  obtain⟨l3,U,A,W,X,Y,E,Z⟩:=c.XJ (n+5) g m B (BS ns az x);rw[D]at W;obtain⟨rfl,rfl⟩:la=l3/\P=U:=by simp_all
  rw [X,ei];refine⟨Y,fL ⟨k-1,by omega,j+1,_,rfl,by omega,M.trans Z,rfl,?_⟩⟩;have E:ej F A (Nx l1 T1 l4 T4 lt Tt num ns tc kG az ((ds.set n (fS eo b)).set n (fS eo (up b i (some (((xs.take j).map (BS ns az)++xs.drop j).set j (BS ns az x),w)))))):=E;rw[List.set_set,p,d]at E;have e:up (up f i (some ((xs.take j).map (BS ns az)++xs.drop j,w))) i (some ((xs.take (j+1)).map (BS ns az)++xs.drop (j+1),w))=up f i (some ((xs.take (j+1)).map (BS ns az)++xs.drop (j+1),w)):=funext λa=>by
   by_cases e:a=i
   ·simp_all
   grind[js]
  simp_all
 refine iJ ?_;obtain rfl:j=xs.length:=by omega
 simp_all
end
open Un Dm
structure StS (ss:List (List (Fm×V×V))) (nm:Nat->Nat) (b:List Nat) (S:Int->Option V) (fl:KF->Option (List Nat×V)) (c:List (List (Fm×V×V))):Prop where
 map:∀s:Nat,S s=if s∈b then some (.I (b.idxOf s:Nat)) else none
 out:c=b.map λs=>ss.getD s []
 rows:∀s l k x a w,ss[s]? =some l->l[k]? =some (x,a,w)->fl (s,k,false)=some (if s∈b then x.locals.map nm else x.locals,a)/\fl (s,k,true)=some (if s∈b then x.stack.map nm else x.stack,w)
 nd:b.Nodup
 lt:∀s∈b,s<ss.length
def Wx(a:List Nat)(s:Nat):List Nat:=if s∈a then a else a++[s]
section
variable {F F':Nat->Prop} {h h':Hp} {cs ds:List Pc} {Q:ft} {u:U} {l1 T1 l4 T4 lt Tt lm lb Tb lr Tr lo To:Nat} {num kG a0 a1 a2 a3 b0 b1 b2 b3 ws G4:V} {ns:List Nat} {az:List Int} {S:Int->Option V}
 {fl:KF->Option (List Nat×V)} {ss sos:List (List (Fm×V×V))} {sl:List Nat}
abbrev Sx(fl:KF->Option (List Nat×V)) (ss:List (List (Fm×V×V))) (ws:V) (lm:Nat) (S:Int->Option V) (lb Tb lr Tr l4 l1 lo To:Nat) (b0 b1 b2 b3 G4:V) (a:List (List (Fm×V×V))) (ds:List Pc):List Pc:=
 fS eo fl::eJ (eL QX) lX ss ws::SU lm S::ev lb Tb [.map lm]::ev lr Tr [.func iD [] [.ptr l4 0,.ptr l1 0]]::ev lo To [b0,b1,b2,b3,G4]::eJ (eL QX) lX a G4::ds
theorem ej.Um{p:Pc}(H:ej F h (p::cs))(n:Nat)(a:n<=cs.length):ej F h (cs.take n++p::cs.drop n):=by
 have b:(cs.take n).length=n:=by rw[Mo];omega
 refine H.re (λi=>if i<n then i+1 else if i=n then 0 else i) (λi c hc=>?_) λi j _ _ e=>?_
 ·grind
 grind
theorem ej.N0(H:ej F h cs)(n:Nat)(a:n<=cs.length):ej F h (cs.take n++cs.drop (n+1)):=by
 have b:(cs.take n).length=n:=by rw[Mo];omega
 refine H.re (λi=>if i<n then i else i+1) (λi c hc=>?_) λi j _ _ e=>?_
 ·grind
 grind
theorem ej.zdG{α:Type}{E:p8 α}{ty:Nat}{xs:List α}{v:V}(H:ej F h cs)(i:Nat)(hi:cs[i]? =some (eJ E ty xs v)){k n l o:Nat}{kd:IntKind}(hk:k<xs.length)(e:gz n v (.int kd (k:Nat))=some (.ptr l o)):l<h.next:=by
 rcases H.row i hi with⟨_,rfl⟩|⟨t,ws,rfl,a,_⟩
 ·simp_all
 grind[yl]
theorem Pq(C:ej F h (Nx l1 T1 l4 T4 lt Tt num ns [a0,a1,a2,a3,ws] kG az (Sx fl ss ws lm S lb Tb lr Tr l4 l1 lo To b0 b1 b2 b3 G4 sos ds)))(c:StS ss (BS ns az) sl S fl sos)(hn:az.length<=3000)(J:ns.length=az.length)(K:∀(v:Nat)(a:Int),az[v]? =some a->a<az.length)
  {s:Nat} {l:List (Fm×V×V)} (hs:ss[s]? =some l) (ap:ss.length<=1000) (aq:l.length<=1000) (aa:∀y∈l,y.1.locals.length<=1000/\y.1.stack.length<=1000/\(∀v∈y.1.locals,v<az.length)/\∀v∈y.1.stack,v<az.length)
  (H:∀h' d S' q f,Sn F h F h'->StS ss (BS ns az) (Wx sl s) S' d q->ej F h' (Nx l1 T1 l4 T4 lt Tt num ns [a0,a1,a2,a3,ws] kG az (Sx d ss ws lm S' lb Tb lr Tr l4 l1 lo To b0 b1 b2 b3 f q ds))->Q (.I ((Wx sl s).idxOf s:Nat)) h') :
  cP CS fR [.I s,.ptr lb 0,.ptr lo 0,.ptr l1 0,.ptr lr 0] h Q:=by
 refine DX rfl rfl ?_;unfold vf;refine ed (C.ld 8 rfl rfl) (ed (C.zeK 7 rfl s _) ?_);rw[c.map s];have ng:s<ss.length:=by grind
 by_cases hm:s∈sl
 ·rw[if_pos hm];refine ed (EW 0 _) (ed (EW 1 _) (w5 (gi rfl ?_)));refine qf ?_;unfold mI;have ha:Wx sl s=sl:=if_pos hm
  grind[Sn.refl]
 rw [if_neg hm];have ha:Wx sl s=sl++[s]:=if_neg hm;rw[ha]at H;have hk:(sl++[s]).idxOf s=sl.length:=by
  rw[List.idxOf_append,if_neg hm];simp
 rw[hk]at H;have L:sos.length=sl.length:=by rw[c.out,DL]
 have ao:sl.length<=ss.length:=jj _ _ c.nd c.lt;refine ed (EW 0 _) (ed (EW 1 _) (w5 (fU (by simp) ?_)));refine ed (by rfl) (ed (C.ld 10 rfl rfl) (ed (C.len 11 rfl) (ed (C.ld 8 rfl rfl) ?_)));rw[L];obtain⟨D,e1,_,E,s1⟩:=C.zfp 7 rfl (k:=(s:Int)) (by rw[c.map s,if_neg hm]) (.I sl.length);have ab:Og 3 none (.map lm) (.I s) (.I sl.length) h=some (.val .undef D):=e1;rw[ab,ei];simp only[je,mA]at E;obtain⟨lx,M,wx,p,N,⟨Z,rfl,xf⟩,O⟩:=E.YU 6 rfl hs .i64;have p:gz 1 ws (.I s)=some (.ptr lx M):=p;have O:ez (.ptr lx (M+0)) D=some Z:=O 0 Z rfl;refine ed (E.ld 0 rfl rfl) (ed (fQ _ _) (ed (by rfl) (ed (by rfl) (ed (E.ld 2 rfl rfl) (ed p (ed (by rfl) (ed O (ed xf.len ?_))))))))
 refine Am (λk l' h'=>∃(j:Nat) (d:KF->Option (List Nat×V)),l' = [.I s,.ptr lo 0,.ptr l1 0,.ptr lr 0,.I sl.length,Z,.I l.length,.I j]/\j+k=l.length/\Sn F D F h'/\
  (∀t k b,t≠s->d (t,k,b)=fl (t,k,b))/\(∀k x a w,l[k]? =some (x,a,w)->d (s,k,false)=some (if k<j then x.locals.map (BS ns az) else x.locals,a)/\d (s,k,true)=some (if k<j then x.stack.map (BS ns az) else x.stack,w))/\
  ej F h' (Nx l1 T1 l4 T4 lt Tt num ns [a0,a1,a2,a3,ws] kG az (Sx d ss ws lm (up S s (some (.I sl.length))) lb Tb lr Tr l4 l1 lo To b0 b1 b2 b3 G4 sos ds))) ?_ (k:=l.length)
  ⟨0,fl,rfl,by omega,Sn.refl _ _,by simp_all,λk x a w hk=>?_,E⟩
 rotate_left
 ·have:=c.rows s l k x a w hs hk
  simp_all
 clear E p O;rintro k _ _ _ _ _ _ _ _ G ⟨j,d,⟨⟩,ar,s2,P,ac,r⟩;unfold qx;have ae:=xf.since s2;by_cases hj:j<l.length
 ·refine gG ?_;have hy:=gW hj;obtain⟨R,T,A,B⟩:=aa _ (AW hj);obtain⟨ly,oy,wy,_,y1,y2,y3,_⟩:=ae.ix hj .i64;obtain⟨⟨x,a,w⟩,ag⟩:∃y,l[j]=y:=⟨_,rfl⟩
  rw[ag]at hy y3 R T A B;dsimp only at R T A B;obtain⟨rfl,y4,y5⟩:=y3;have y1:gz 4 Z (.I j)=some (.ptr ly oy):=y1;refine ed y1 (ed y2 ?_);refine ir r rfl rfl (by simp only[Ou,ey,y4,y5];rfl) λh3 m s3=>?_;generalize G.next=lf at*;have m:ej F h3 (Nx l1 T1 l4 T4 lt Tt num ns [a0,a1,a2,a3,ws] kG az (Sx d ss ws lm (up S s (some (.I sl.length))) lb Tb lr Tr l4 l1 lo To b0 b1 b2 b3 G4 sos (ev lf 53 (Ou x a w)::ds))):=m.Um 12 (by simp);obtain⟨U,ah⟩:=ac j x a w hy;rw[if_neg (by omega)]at U ah;refine ed (m.ld 9 rfl rfl) (ed (by rfl) (ed (m.ld 12 rfl rfl) ?_));show cP CS iD [a,.ptr l4 0,.ptr l1 0] h3 _;refine KU 0 m rfl U rfl hn J K A (by omega) λW s4 n=>?_;simp only[je]at n;have n:ej F W (Nx l1 T1 l4 T4 lt Tt num ns [a0,a1,a2,a3,ws] kG az (Sx (up d (s,j,false) (some (x.locals.map (BS ns az),a))) ss ws lm (up S s (some (.I sl.length))) lb Tb lr Tr l4 l1 lo To b0 b1 b2 b3 G4 sos (ev lf 53 (Ou x a w)::ds))):=n;refine ed (n.ld 9 rfl rfl) (ed (by rfl) (ed (n.ld 12 rfl rfl) ?_));show cP CS iD [w,.ptr l4 0,.ptr l1 0] W _;refine KU 0 n rfl (i:=(s,j,true)) (by grind[js]) rfl hn J K B (by omega) λh5 s5 X=>?_;simp only[je]at X;refine fL ⟨k-1,by omega,j+1,_,rfl,by omega,((s2.trans s3).trans s4).trans s5,λt k b I=>?_,λk z b c hk=>?_,X.N0 12 (by simp)⟩
  ·rw[js _ _ (by simp[I]),js _ _ (by simp[I])]
   grind
  ·by_cases e:k=j
   ·simp_all[if_pos,js,lg]
   ·rw[js _ _ (by simp),js _ _ (by simp[e]),js _ _ (by simp[e]),js _ _ (by simp)]
    grind
 refine iJ ?_;obtain rfl:j=l.length:=by omega
 obtain⟨lx,M,wx,p,N,⟨g,rfl,Y⟩,O⟩:=r.YU 6 rfl hs .i64;have p:gz 1 ws (.I s)=some (.ptr lx M):=p;have N:gv 1 (.ptr lx M) G=some (.agg [g]):=N;refine ed (by rfl) (ed (r.ld 10 rfl rfl) (ed (r.ld 0 rfl rfl) (ed (fQ _ _) (ed (by rfl) (ed (by rfl) (ed (r.ld 2 rfl rfl) (ed p (ed N ?_))))))));rw[qY (sz:=1) (w:=[g]) rfl rfl (by simp only[ey,Y.one];rfl),gR];have m:ej F (G.new (.cells 56 1 true false [g])) (ev G.next 56 [g]::_):=(r.zo lX [g]).1;obtain⟨f,W,e4,n4,n,s4⟩:=r.vR 11 rfl (jW:=24) (DP:=56) (y:=l) (w:=[g]) (ro:=false) ⟨g,rfl,Y⟩ (by decide) (by decide) (by omega);have ai:eR 56 1 24 G4 (.slice G.next 0 1) (G.new (.cells 56 1 true false [g]))=some (.val f W):=e4;have aj:=r.zdG 6 rfl ng p;have ak:=G0 N (fj (.cells 56 1 true false [g]) aj);refine⟨⟨m.get 0 rfl,bq⟩,ak,m.ld 3 rfl rfl,m.ld 1 rfl rfl,m.ld 11 rfl rfl,?_⟩;rw[ai,ei];simp only[je,mA]at n;obtain⟨h5,e5,n5,X,s5⟩:=n.st 10 (o:=4) (u:=f) rfl (by simp) (n.one 11 rfl);refine⟨by simp_all,ed (by rfl) ?_⟩;have al:gI 1 (.ptr lo (0+4)) f W=some (.val .undef h5):=by rw[zj];exact e5
 rw[al,ei];simp only[je,mA]at X;refine⟨n5,qf ?_⟩;unfold mI;have am:ss.getD s []=l:=by rw[DY,hs];rfl
 refine H h5 d (up S s (some (.I sl.length))) (sos++[l]) f (((s1.trans s2).trans s4).trans s5) ⟨λt=>?_,by rw[c.out,Ox,ZQ,Y1,am],λt l' k x a w I an=>?_,?_,λt I=>?_⟩ X
 ·by_cases e:t=s
  ·simp_all
  ·rw[js _ _ (by omega),c.map t]
   grind
 ·by_cases e:t=s
  ·grind
  ·rw[P t k false e,P t k true e];have:=c.rows t l' k x a w I an
   simp_all
 ·rw[wBv];exact⟨c.nd,by simp,by grind⟩
 ·rcases I8.1 I with D|D
  ·exact c.lt t D
  simp_all
end
open Un Dm
section
variable{F F':Nat->Prop}{h h':Hp}{cs ds:List Pc}{Q:ft}{u:U}
theorem zbQ(cs:List Pc):∀(a:List Nat),(∀m∈a,m<cs.length)->(a.filterMap λm=>cs[m]?).length=a.length/\∀i:Nat,(a.filterMap λm=>cs[m]?)[i]? = (a[i]?).bind λm=>cs[m]?
 |[],_=>by simp_all
 | m::a,hm=>by
   obtain⟨b,c⟩:=zbQ cs a (by simp_all)
   grind
theorem ej.perm(H:ej F h cs)(a:List Nat)(k:Nat)(b:∀m∈a,m<k)(d:a.Nodup)(hk:k<=cs.length):ej F h ((a.filterMap λm=>cs[m]?)++cs.drop k):=by
 obtain⟨f,l⟩:=zbQ cs a (by grind);refine H.re (λi=>if i<a.length then a.getD i 0 else k+(i-a.length)) (λi c hc=>?_) λi j _ _ e=>?_
 ·grind
 ·have g:∀i,i<a.length->a.getD i 0<k/\a[i]? =some (a.getD i 0):=by simp_all
  by_cases hi:i<a.length
  ·rw [if_pos hi]at e;by_cases hj:j<a.length
   ·rw[if_pos hj]at e
    grind[qX]
   grind
  grind
end
structure zU (u:U) (az:List Int):Prop where
 nv:u.ef.length<=3000
 nb:u.blocks.length<=300
 ns:u.eh.length<=1000
 once:zaq u
 jE:∀(v b k:Nat),At u v b k->v<u.ef.length
 len:az.length=u.ef.length
 sub:∀(v:Nat) (a:Int),az[v]? =some a->a<az.length
 parts:∀(v:Nat) (x:Vl),u.ef[v]? =some x->x.args.length<=700/\(na x.op=true\/two x.op=true->x.a<u.ef.length)/\(two x.op=true->x.b<u.ef.length)/\(x.op=21\/x.op=20->∀w∈x.args,w<u.ef.length)/\(leaves x.op=true->x.state<u.eh.length)
 ends:∀(b:Nat) (B:Bk),u.blocks[b]? =some B->(B.fin=2->B.cond<u.ef.length)/\(B.fin=3->B.state<u.eh.length)
 st:∀(s:Nat) (fs:List Fm),u.eh[s]? =some fs->fs.length<=1000/\∀f∈fs,f.locals.length<=1000/\f.stack.length<=1000/\(∀v∈f.locals,v<u.ef.length)/\∀v∈f.stack,v<u.ef.length
structure NbB (u:U) (az:List Int) (i:Nat) (bs a:List (Bk×V)):Prop where
 len:a.length=bs.length
 row:∀(b:Nat) (B:Bk) (w:V),bs[b]? =some (B,w)->a[b]? =some (if b<i then{B with ef:=(B.ef.filter (stays (mX az))).map (fG u (mX az)).idxOf} else B,w)
section
variable{F F':Nat->Prop}{h h':Hp}{cs ds:List Pc}{Q:ft}{u:U}{wv wb ws kG:V}{lt Tt:Nat}{az:List Int}{xs:List (Vl×V)}{bs:List (Bk×V)}{fa fn:Nat->Option (List Nat×V)}{ss:List (List (Fm×V×V))}{fl:KF->Option (List Nat×V)}
theorem Z1{T l o:Nat}{K:ft}(H:ej F h ds)(b:∀a,ej F a (ev h.next T [.ptr l o]::ds)->Sn F h F a->K (.ptr h.next 0) a):ig (om T (.ptr l o)) h K:=by
 rw[show om T (.ptr l o)=some (.cells T 1 true false [.ptr l o],λl=> .ptr l 0) from rfl,fx];exact b _ (H.zo T _).1 (H.zo T [.ptr l o]).2
theorem AU{T:Nat}{ws:List V}{K:ft}(H:ej F h ds)(b:∀a,ej F a (ev h.next T ws::ds)->Sn F h F a->K (.ptr h.next 0) a):ig (some (O.cells T 1 true false ws,λl=>V.ptr l 0)) h K:=by
 rw[fx];exact b _ (H.zo T _).1 (H.zo T ws).2
theorem Wk{T:Nat}{ws:List V}{K:O->ft}(H:ej F h ds)(b:∀a,ej F a (ev h.next T ws::ds)->Sn F h F a->K (.cells T 1 true false ws) (.ptr h.next 0) a):yn (some (O.cells T 1 true false ws,λl=>V.ptr l 0)) h K:=by
 rw[gR];exact b _ (H.zo T _).1 (H.zo T ws).2
theorem zaF{T:Nat}{ws:List V}{K:O->ft}(H:ej F h ds)(a:gj ws=true)(b:ej F (h.new (.cells T 1 true false ws)) (ev h.next T ws::ds)->Sn F h F (h.new (.cells T 1 true false ws))->K (.cells T 1 true false ws) (.ptr h.next 0) (h.new (.cells T 1 true false ws))):yn (om T (.agg ws)) h K:=by
 rw[E7 a,gR];exact b (H.zo T _).1 (H.zo T ws).2
theorem NH{T:Nat}{z w:V}{K:ft}(H:ej F h ds)(c:w.one=true)(d:∀a,ej F a (ev h.next T [w]::ds)->Sn F h F a->K (.ptr h.next 0) a):ig (some (O.cells T 1 true false [z],λl=>V.ptr l 0)) h λv b=>fi (gI 1 v w b) λ_ a=>K v a:=by
 refine AU H λb e f=>?_;obtain⟨a,g,_,i,j⟩:=e.st 0 (o:=0) rfl (by simp) c;rw[g,ei];exact d a i (f.trans j)
theorem zc5{K:ft}(H:ej F h ds)(b:∀a,ej F a (SU h.next (λ_=>none)::ds)->Sn F h F a->K (.map h.next) a):ig (some (O.map [] 0,λl=>V.map l)) h K:=by
 rw[fx];exact b _ H.zer.1 H.zer.2
theorem RQ(g:zU u az)(hc:ZG u.ef xs fa)(hb:Xs u.blocks bs fn)
  (H0:ej F h (eJ yA gL xs wv::eJ vS fI bs wb::fS eo fa::fS eo fn::eJ eZ eo az kG::ev lt Tt [.I u.func,.I u.pc,wv,wb,ws,kG]::eJ (eL QX) lX ss ws::fS eo fl::cs))
  (H:∀F' h' l1 T1 l2 l3 l4 T4 lm lb Tb lr Tr num ns U c,Sn F h F' h'->NbB u az u.blocks.length bs c->ns.length=u.ef.length->(∀v,v<u.ef.length->ns[v]? =some (if v∈fG u (mX az) then(fG u (mX az)).idxOf v else 0))->
   ej F' h' (Nx l1 T1 l4 T4 lt Tt num ns [.I u.func,.I u.pc,wv,wb,ws] kG az (Sx fl ss ws lm (λ_=>none) lb Tb lr Tr l4 l1 l3 hV (.I u.func) (.I u.pc) .ee .ee .ee []
    (eJ yA gL xs wv::eJ vS fI c wb::fS eo fa::fS eo fn::eJ yA gL [] .ee::eJ vS fI [] .ee::ev l2 hV [.I 0,.I 0,.ee,.ee,.ee]::eJ eN eo (fG u (mX az)) U::cs)))->
   lF CS Q [.ptr l1 0,.ptr l2 0,.ptr l3 0,.ptr l4 0,.ptr lr 0,.func fR [] [.ptr lb 0,.ptr l3 0,.ptr l1 0,.ptr lr 0],U,.I ((fG u (mX az)).length:Nat),.I 0] h') :
  cP CS kT [.ptr lt 0] h Q:=by
 refine FE rfl rfl ?_;unfold xQ;have nv:=g.nv;have nb:=g.nb;have ag:bs.length=u.blocks.length:=by rw[<-hb.fst,DL]
 have ah:xs.length=u.ef.length:=by rw[<-hc.fst,DL]
 refine Z1 H0 λh1 H1 s1=>AU H1 λh2 R s2=>?_;generalize h.next=l1 at*;generalize h1.next=l2 at*;refine ed (R.ld 1 rfl rfl) (ed pn (ed pf (oF (R.ld 7 rfl rfl) (ed (R.ld 1 rfl rfl) (ed pn (ed pf (oF (R.ld 7 rfl rfl) ?_)))))));refine ed (by rfl) ?_;refine Wk R λh3 M s3=>?_;generalize h2.next=l3 at*;refine⟨⟨M.get 0 rfl,bq⟩,M.ld 8 rfl rfl,M.ld 2 rfl rfl,M.ld 8 rfl rfl,M.ld 2 rfl rfl,?_⟩;obtain⟨h4,e4,n4,S,s4⟩:=M.Zx 0 (ws:=[.I u.func,.I u.pc,.ee,.ee,.ee]) (n:=5) rfl rfl rfl rfl;rw[e4,ei];simp only[je]at S;refine⟨n4,ed (S.ld 2 rfl rfl) (ed pn (ed pf (oF (S.ld 8 rfl rfl) (ed (S.len 3 rfl) ?_))))⟩;rw[ah,kr (z:=V.I 0) rfl (by decide) (by omega),fx];obtain⟨H5,s5⟩:=S.make (E:=eN) (ty:=eo) (y:=0) (u:=V.I 0) u.ef.length rfl rfl;generalize h4.new (.cells eo 1 true false (List.replicate u.ef.length (V.I 0)))=h5 at*;generalize h4.next=ln at*;refine NH H5 rfl λh6 N s6=>?_;generalize h5.next=l4 at*;refine ed (N.ld 4 rfl rfl) (ed pn (ed pf (oF (N.ld 10 rfl rfl) (ed (N.len 6 rfl) ?_))));rw[ag];have W:=((((s1.trans s2).trans s3).trans s4).trans s5).trans s6;clear H0 H1 R M S H5 s1 s2 s3 s4 s5 s6 e4 n4;have N:=N.add (p:=eJ eN eo [] .ee) .nil λ_ h=>h;obtain⟨A,hA⟩:∃A,mX az=A:=⟨_,rfl⟩
 rw[hA]at H
 refine Cy (λk l h'=>∃(F':Nat->Prop) (i:Nat) (ns:List Nat) (c:List (Bk×V)) (r:V),l=[.ptr l1 0,.ptr l2 0,.ptr l3 0,.ptr l4 0,r,.I u.blocks.length,.I i]/\i+k=u.blocks.length/\Sn F h F' h'/\NbB u az i bs c/\
  ns.length=u.ef.length/\(∀v,v<u.ef.length->ns[v]? =some (if v∈j6 u A i 0 then(fG u A).idxOf v else 0))/\
  ej F' h' (eJ eN eo (j6 u A i 0) r::ev l4 _ [.slice ln 0 u.ef.length]::eJ eN eo ns (.slice ln 0 u.ef.length)::ev l3 hV [.I u.func,.I u.pc,.ee,.ee,.ee]::ev l2 hV [.I 0,.I 0,.ee,.ee,.ee]::ev l1 _ [.ptr lt 0]::eJ yA gL xs wv::eJ vS fI c wb::fS eo fa::fS eo fn::eJ eZ eo az kG::ev lt Tt [.I u.func,.I u.pc,wv,wb,ws,kG]::eJ (eL QX) lX ss ws::fS eo fl::cs)) ?_ (k:=u.blocks.length)
  ⟨F,0,_,bs,.ee,rfl,by omega,W,⟨rfl,by simp_all⟩,W9,λv hv=>by rw[wBz,if_pos hv,Lj,if_neg (by simp)],by rw[Lj];exact N⟩
 clear N W;rintro k _ _ _ _ r _ _ h7 ⟨X,i,ns,c,_,⟨⟩,hk,s7,x,o,f,D⟩;unfold tI;by_cases hi:i<u.blocks.length
 ·refine gG ?_;obtain⟨⟨B,wn⟩,Y⟩:∃y,bs[i]? =some y:=by simp_all
  have K:u.blocks[i]? =some B:=by rw[<-hb.fst,CH,Y];rfl
  have aq:B.ef.length<=u.ef.length:=jj _ _ (IY g.once K) λv hv=>by
   obtain⟨k,hk⟩:=mQ.1 hv;exact g.jE v i k ⟨B,K,hk⟩
  have L:c[i]? =some (B,wn):=by have:=x.row i B wn Y;rwa [if_neg (by omega)]at this
  obtain⟨l8,o8,w8,T,_,⟨bv,bp,rfl,iv,ip,ar⟩,x3⟩:=D.YU 7 rfl L .i64;have T:gz 6 wb (.I i)=some (.ptr l8 o8):=T;refine ed (D.ld 5 rfl rfl) (ed pn (ed pf (oF (D.ld 11 rfl rfl) (ed T (oF (x3 0 _ rfl) (ed iv.len ?_))))));have D:=D.add (p:=eJ eN eo [] .ee) .nil λ_ h=>h
  refine Ca (λk' l h'=>∃(j:Nat) (ns:List Nat) (r G:V),l=[.ptr l1 0,.ptr l2 0,.ptr l3 0,.ptr l4 0,r,.I i,G,.I u.blocks.length,.I i,bv,.I B.ef.length,.I j]/\j+k' = B.ef.length/\Sn F h X h'/\Sn X h7 X h'/\
   ns.length=u.ef.length/\(∀v,v<u.ef.length->ns[v]? =some (if v∈j6 u A i j then(fG u A).idxOf v else 0))/\
   ej X h' (eJ eN eo (((B.ef.take j).filter (stays A)).map (fG u A).idxOf) G::eJ eN eo (j6 u A i j) r::ev l4 _ [.slice ln 0 u.ef.length]::eJ eN eo ns (.slice ln 0 u.ef.length)::ev l3 hV [.I u.func,.I u.pc,.ee,.ee,.ee]::ev l2 hV [.I 0,.I 0,.ee,.ee,.ee]::ev l1 _ [.ptr lt 0]::eJ yA gL xs wv::eJ vS fI c wb::fS eo fa::fS eo fn::eJ eZ eo az kG::ev lt Tt [.I u.func,.I u.pc,wv,wb,ws,kG]::eJ (eL QX) lX ss ws::fS eo fl::cs)) ?_ (k:=B.ef.length)
   ⟨0,ns,r,.ee,rfl,by omega,s7,Sn.refl _ _,o,f,D⟩
  clear D o f T x3;rintro k' _ _ _ _ r _ G _ _ _ _ _ h8 ⟨j,ns,_,_,⟨⟩,au,Z,O,o,f,s⟩;unfold tx;have ng:(j6 u A i j).length<=u.ef.length:=by
   have h1:=(HY («as»:=A) (j:=j) K).length_le;have h2:=jj u.ef.length (fG u A) (zV g.once) λv hv=>GZ g.jE hv;omega
  have aw:((B.ef.take j).filter (stays A)).length<=(j6 u A i j).length:=by
   unfold j6;rw[K,Ji];exact Nat.le_add_left _ _
  by_cases hj:j<B.ef.length
  ·refine gG ?_;have hx:=gW hj;have ax:=EO hx;generalize B.ef[j]=v at*;have ai:=g.jE v i j ⟨B,K,hx⟩;obtain⟨la,oa,_,T,x2⟩:=(iv.since O).nat hx .i64;obtain⟨a,ha⟩:∃a,az[v]? =some a:=⟨_,gW (by rw[g.len];exact ai)⟩
   obtain⟨lb,ob,y1,y2⟩:=s.Uh 11 rfl ha .i64;have aa:A v=a:=by rw[<-hA];exact Ue ha
   have I:=LD («as»:=A) K hx;refine ed T (ed x2 (ed (s.ld 6 rfl rfl) (oN (s.ld 12 rfl rfl) (ed y1 (ed y2 (fX ?_))))));by_cases e:a=(v:Int)
   ·refine gi e ?_;have J:stays A v=true:=by unfold stays;rw[aa,e];exact beq_self_eq_true _
    rw[if_pos J]at I;obtain⟨ay,aA⟩:=zde («as»:=A) g.once K hx J;refine ed (s.ld 2 rfl rfl) (ed (s.len 1 rfl) ?_);obtain⟨lc,oc,h9,e1,e2,_,q,s9⟩:=s.Jj 3 rfl (k:=v) (y:=(j6 u A i j).length) (u:=V.I ((j6 u A i j).length:Nat)) (by omega) rfl rfl rfl;refine ed e1 ?_;rw[e2,ei];simp only[je,mA]at q;refine ed (q.len 1 rfl) ?_;rw[qZ,fx];obtain⟨va,m,aj,_,d,t⟩:=q.vR 0 rfl (jW:=8) (DP:=3) (y:=(j6 u A i j).length) (w:=gP [(j6 u A i j).length]) (ro:=false) rfl (by decide) (by decide) (by simp;omega);have ab:eR 3 1 8 G (.slice h9.next 0 1) (h9.new (.cells 3 1 true false (gP [(j6 u A i j).length])))=some (.val va m):=aj;rw[ab,ei];simp only[je,mA]at d;rw[qZ,fx];obtain⟨vc,ak,al,_,P,am⟩:=d.vR 1 rfl (jW:=8) (DP:=3) (y:=v) (w:=gP [v]) (ro:=false) rfl (by decide) (by decide) (by omega);have ac:eR 3 1 8 r (.slice m.next 0 1) (m.new (.cells 3 1 true false (gP [v])))=some (.val vc ak):=al;rw[ac,ei];simp only[je,mA]at P;refine rj ?_;unfold mW;have sA:=(s9.trans t).trans am;refine fL ⟨k'-1,by omega,j+1,ns.set v (j6 u A i j).length,vc,va,rfl,by omega,Z.trans sA,O.trans sA,by simp_all,λw hw=>?_,?_⟩
    ·grind
    simp_all
   ·refine fU e (rj ?_);unfold mW;have J:stays A v=false:=by unfold stays;rw[aa];exact Ti.2 e
    rw[J]at I;have I:j6 u A i (j+1)=j6 u A i j:=I;refine fL ⟨k'-1,by omega,j+1,ns,r,G,rfl,by omega,Z,O,o,by simp_all,?_⟩
    simp_all
  refine iJ ?_;obtain rfl:j=B.ef.length:=by omega
  rw [JC]at s;rw[SB K]at f s;obtain⟨q,s9,r9⟩:=s.jI 0 rfl;simp only[je]at q;have q:=q.tail;generalize (λl=>X l\/Loc G l)=F9 at*;have ae:=jP.1 L;obtain⟨lq,m,e1,e2,_,d,t⟩:=q.stF 7 rfl (k:=i) (j:=0) (y:=({B with ef:=(B.ef.filter (stays A)).map (fG u A).idxOf},wn)) (a:=G) ae.1 (by decide) r9.one (λw' hw=>by
   rw[ae.2]at hw;obtain⟨pv,pp,rfl,_,q2,q3⟩:=hw;exact⟨G,pp,rfl,r9,q2,q3⟩)
  have e1:gz 6 wb (.I i)=some (.ptr lq (i*6)):=e1;refine ed (q.ld 5 rfl rfl) (ed pn (ed pf (oF (q.ld 11 rfl rfl) (ed e1 (ed pf ?_)))));have an:gI 1 (.ptr lq (i*6+0)) G h8=some (.val .undef m):=e2;rw[an,ei];simp only[je,mA]at d;refine fL ⟨k-1,by omega,F9,i+1,ns,_,r,rfl,by omega,(Z.trans s9).trans t,⟨by rw[LU,x.len],λb C w ao=>?_⟩,o,f,d⟩;by_cases e:b=i
  ·grind
  ·rw[Kk (by omega),x.row b C w ao]
   grind
 refine iJ ?_;obtain rfl:i=u.blocks.length:=by omega
 rw[Uk]at f D;refine zc5 D λh8 s Z=>NH s rfl λh9 q s9=>NH q rfl λm d t=>?_;generalize h7.next=lm at*;generalize h8.next=lb at*;generalize h9.next=lr at*;refine ed (d.len 3 rfl) ?_;have P:=((d.add (p:=eJ (eL QX) lX [] .ee) .nil λ_ h=>h).add (p:=eJ yA gL [] .ee) .nil λ_ h=>h).add (p:=eJ vS fI [] .ee) .nil λ_ h=>h;have ap:=P.perm [11,7,17,8,16,19,18,5,4,3,9,2,12,13,14,15,1,0,10,6] 20 (by decide) (by decide) (by simp);exact H _ m l1 _ l2 l3 l4 _ lm lb _ lr _ _ ns _ c (((s7.trans Z).trans s9).trans t) x o f ap
end
