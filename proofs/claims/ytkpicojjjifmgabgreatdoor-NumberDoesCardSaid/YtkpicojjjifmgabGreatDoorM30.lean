/- Parts. -/
import Derived.Test.YtkpicojjjifmgabGreatDoorM29
set_option maxHeartbeats 4000000
namespace Go.Proofs.YtkpicojjjifmgabGreatDoor.Hx
open Un Dm
def Rz(l:Nat)(S:Int->Option V):Pc where
 mn:=λm=>m=l
 ok F h:=(∃a c,h.get l=some (.map a c)/\(∀e∈a,∃k:Int,e.1 = .I k/\S k=some e.2.1)/\∀k v,S k=some v->∃e∈a,e.1 = .I k)/\l<h.next/\¬F l
 MB:=λh _ e=>by subst e;exact h.2
 fj:=λ⟨⟨a,c,f,g⟩,d⟩ _ b i=>⟨⟨a,c,(b l rfl).trans f,g⟩,EK d.1 i,d.2⟩
 mono:=λh _ b=>⟨h.1,h.2.1,b l rfl⟩
theorem K5(k:Int):∀(a:List (V×V×Nat))(i:Nat),(∀e∈a,∃k:Int,e.1 = .I k)->
  (rQ eR none (.I k) a i=some none/\∀e∈a,e.1≠ .I k)\/∃j e,rQ eR none (.I k) a i=some (some (i+j,e.2.1))/\a[j]? =some e/\e.1 = .I k
 |[],i,_=> .inl ⟨rfl,λ_ h=>by cases h⟩
 | e ::a,i,h=>by
   obtain ⟨k',d⟩:=h e (ZP ..);have b:rQ eR none (.I k) (e::a) i=if k=k' then some (some (i,e.2.1)) else rQ eR none (.I k) a (i+1):=by
     show oB (Ny eR none (.I k) e.1) _=_;rw[d,show Ny eR none (V.I k) (V.I k')=some (k == k') from UU _ _];by_cases hk:k=k'
     ·rw[if_pos hk,Cw.2 hk];rfl
     ·rw[if_neg hk,Wc.2 hk];rfl
   by_cases hk:k=k'
   ·subst hk
    rw[if_pos rfl]at b;exact .inr ⟨0,e,b,rfl,d⟩
   ·rw[if_neg hk]at b
    rcases K5 k a (i+1) λe c=>h e (wBX _ c)with⟨f,g⟩|⟨j,l,f,g,m⟩
    ·refine .inl ⟨b.trans f,λl c=>?_⟩
     rcases IS.1 c with rfl|c
     ·rw[d];intro n;cases n;exact hk rfl
     ·exact g l c
    ·exact .inr ⟨j+1,l,by rw[b,f];congr 3;omega,g,m⟩
section
variable{F F':Nat->Prop}{h h':Hp}{cs ds:List Pc}{Q:fD}{l:Nat}{S:Int->Option V}
theorem eo.zer(H:eo F h cs)(i:Nat)(hi:cs[i]? =some (Rz l S))(k:Int)(z:V):LU eR none z true (.map l) (.I k) h=some (.tuple (match S k with|some v=>[v,.bool true]|none=>[z,.bool false])):=by
 obtain ⟨⟨m,c,p,n,q⟩,_⟩:=H.ok i _ hi;have o:∀r,rQ eR none (.I k) m 0=some r->LU eR none z true (.map l) (.I k) h=some (found z true r):=λr s=>by
  unfold LU Ac;simp only[p,fo];rw[s];rfl
 rcases K5 k m 0 λe d=>let⟨k,a,_⟩:=n e d;⟨k,a⟩ with⟨f,g⟩|⟨j,e,f,g,t⟩
 ·rw[o _ f]
  cases hS:S k with
  |none=>rfl
  | some v=>
    obtain⟨e,d,u⟩:=q k v hS;exact absurd u (g e d)
 ·rw[o _ f];obtain⟨k',a,b⟩:=n e (DG g);rw[t]at a;cases a;rw[b];rfl
theorem eo.zfz(H:eo F h cs)(i:Nat)(hi:cs[i]? =some (Rz l S)){k:Int}(q:S k=none)(v:V):∃h',J4 eR none (.map l) (.I k) v h=some (.val .undef h')/\h.next<=h'.next/\eo F h' (cs.set i (Rz l (up S k (some v))))/\Sn F h F h':=by
 obtain⟨⟨f,c,t,m,u⟩,n,x⟩:=H.ok i _ hi;rcases K5 k f 0 λe d=>let⟨k,a,_⟩:=m e d;⟨k,a⟩ with⟨r,s⟩|⟨j,e,r,s,y⟩
 ·have z:Lf eR none f c (.I k) v=some (.map (f++[(.I k,v,c)]) (c+1)):=by unfold Lf;rw[r];rfl
  refine⟨h.put l (.map (f++[(.I k,v,c)]) (c+1)),?_,jO _,H.Cq (p:=Rz l (up S k (some v))) hi (mA.put _ rfl n) ⟨⟨_,_,gj _ n,λe d=>?_,λk' w g=>?_⟩,n,x⟩ λ_ h=> .inl h⟩
  ·unfold J4 Ac;simp only[t,fo,z];rfl
  ·rcases He.1 d with h|h
   ·obtain⟨k',a,b⟩:=m e h;refine⟨k',a,?_⟩;rw[jk _ _ λo=>by subst o;rw[q]at b;cases b];exact b
   ·obtain rfl:=QJ.1 h;exact⟨k,rfl,jn _ _ _⟩
  ·by_cases e:k' = k
   ·subst e;exact⟨_,wBR _ (QJ.2 rfl),rfl⟩
   ·rw[jk _ _ e]at g;obtain⟨e,d,g⟩:=u k' w g;exact⟨e,SN _ d,g⟩
 ·obtain⟨k',a,b⟩:=m e (DG s);rw[y]at a;cases a;rw[q]at b;cases b
theorem eo.ze6(H:eo F h cs):eo F (h.new (.map [] 0)) (Rz h.next (λ_=>none)::cs)/\Sn F h F (h.new (.map [] 0)):=
 H.new (p:=Rz h.next λ_=>none) _ ⟨⟨[],0,fq _ _,And.intro (λe a=>nomatch a) (λk v b=>nomatch b)⟩,OF _,H.fresh⟩ λ_ e=>e
end
abbrev Nx(l1 T1 l4 T4 lt Tt:Nat) (num:V) (ns:List Nat) (tc:List V) (mQ:V) (az:List Int) (ds:List Pc):List Pc:=
 eQ l1 T1 [.ptr lt 0]::eQ l4 T4 [num]::eQ lt Tt (tc++[mQ])::fg eN eR ns num::fg eZ eR az mQ::ds
def Cl(ns:List Nat)(az:List Int)(v:Nat):Nat:=ns.getD (yI (mm az) (az.length+1) v) 0
section
variable{F F':Nat->Prop}{h h':Hp}{cs ds:List Pc}{Q:fD}{u:U}{l1 T1 l4 T4 lt Tt:Nat}{num mQ:V}{ns:List Nat}{tc:List V}{az:List Int}
theorem JQ(b:eo F h (Nx l1 T1 l4 T4 lt Tt num ns tc mQ az ds))(c:tc.length=5)(e:az.length<=3000)(f:ns.length=az.length)(d:∀(v:Nat)(a:Int),az[v]? =some a->a<az.length){v:Nat}(hv:v<az.length)
  (H:∀w q,gB 1 num (.I (w:Nat))=some q->fe q h=some (.I (Cl ns az v:Nat))->Q (.I (w:Nat)) h):cP CS jL [.ptr lt 0,.I v] h Q:=by
 have g:fe (.ptr lt 5) h=some mQ:=b.ld 2 rfl (by rw[VG (by omega),c];rfl);refine zaH g (b.row 4 rfl).read e d hv λk=>?_;have hx:ns[yI (mm az) (az.length+1) v]? =some (Cl ns az v):=by
  unfold Cl;rw[Je,iy (by omega)];rfl
 obtain⟨l,o,i,j⟩:=b.Ng 3 rfl hx .i64;exact H _ _ i j
theorem KW{ι:Type} [DecidableEq ι] {f:ι->Option (List Nat×V)}{i:ι}{xs:List Nat}{w:V}(n:Nat)(I:eo F h (Nx l1 T1 l4 T4 lt Tt num ns tc mQ az ds))(t:ds[n]? =some (fX eR f))(hi:f i=some (xs,w))(u:tc.length=5)(N:az.length<=3000)(y:ns.length=az.length)(z:∀(v:Nat)(a:Int),az[v]? =some a->a<az.length)
  (A:∀x∈xs,x<az.length) (O:xs.length<1000000)
  (H:∀h',Sn F h F h'->eo F h' (Nx l1 T1 l4 T4 lt Tt num ns tc mQ az (ds.set n (fX eR (up f i (some (xs.map (Cl ns az),w))))))->Q (.tuple []) h') :
  cP CS iK [w,.ptr l4 0,.ptr l1 0] h Q:=by
 refine DX rfl rfl ?_;unfold wC;refine eh (I.rows (n+5) t hi).len ?_
 refine Bc (λk l h'=>∃(j:Nat) (c:ι->Option (List Nat×V)),l=[w,.ptr l4 0,.ptr l1 0,w,.I xs.length,.I j]/\j+k=xs.length/\Sn F h F h'/\c=up f i (some ((xs.take j).map (Cl ns az)++xs.drop j,w))/\eo F h' (Nx l1 T1 l4 T4 lt Tt num ns tc mQ az (ds.set n (fX eR c)))) ?_ (k:=xs.length)
  ⟨0,_,rfl,by omega,Sn.refl _ _,rfl,?_⟩
 rotate_left
 ·have e:up f i (some ((xs.take 0).map (Cl ns az)++xs.drop 0,w))=f:=funext λa=>by
   by_cases e:a=i
   ·subst e;rw[jn,hi];rfl
   ·rw[jk _ _ e]
  rw [e];have:ds.set n (fX eR f)=ds:=by
   obtain⟨J,B⟩:=ki.1 t;rw[<-B,List.set_getElem_self]
  rw[this];exact I
 rintro k _ _ _ _ _ _ J ⟨j,c,⟨⟩,Z,K,b,g⟩;unfold rD;have C:=(ki.1 t).1;have m:(ds.set n (fX eR c))[n]? =some (fX eR c):=NZ C;have o:c i=some ((xs.take j).map (Cl ns az)++xs.drop j,w):=by rw[b,jn]
 by_cases hj:j<xs.length
 ·refine gK ?_;have hx:=iy hj;have L:((xs.take j).map (Cl ns az)).length=j:=by rw[Ik,Mq];omega
  have d:((xs.take j).map (Cl ns az)++xs.drop j)[j]? =some xs[j]:=by
   rw[VG (by omega),L,Nat.sub_self,ZH hj];rfl
  have p:((xs.take j).map (Cl ns az)++xs.drop j).set j (Cl ns az xs[j])=(xs.take (j+1)).map (Cl ns az)++xs.drop (j+1):=by
   rw[Fz hx,Lj,Lb,ZH hj,List.set_append_right _ _ (by omega),L,Nat.sub_self];rfl
  have D:j<((xs.take j).map (Cl ns az)++xs.drop j).length:=(ki.1 d).1;have E:=A _ (AY hj);generalize xs[j]=x at*;obtain⟨la,P,_,G,R⟩:=(g.rows (n+5) m o).read.nat d .i64;refine eh G (eh R (eh (g.ld 1 rfl rfl) (eh (g.ld 0 rfl rfl) ?_)));refine JQ g u N y z E λr q S T=>⟨jO _,eh S (eh T (eh G ⟨g.ld 1 rfl rfl,?_⟩))⟩
  obtain⟨l3,U,B,M,W,X,s,Y⟩:=g.XZ (n+5) m o D (Cl ns az x);rw[G]at M;obtain⟨rfl,rfl⟩:la=l3/\P=U:=by cases M;exact⟨rfl,rfl⟩
  rw [W,en];refine⟨X,fL ⟨k-1,by omega,j+1,_,rfl,by omega,K.trans Y,rfl,?_⟩⟩;have s:eo F B (Nx l1 T1 l4 T4 lt Tt num ns tc mQ az ((ds.set n (fX eR c)).set n (fX eR (up c i (some (((xs.take j).map (Cl ns az)++xs.drop j).set j (Cl ns az x),w)))))):=s;rw[List.set_set,p,b]at s;have e:up (up f i (some ((xs.take j).map (Cl ns az)++xs.drop j,w))) i (some ((xs.take (j+1)).map (Cl ns az)++xs.drop (j+1),w))=up f i (some ((xs.take (j+1)).map (Cl ns az)++xs.drop (j+1),w)):=funext λa=>by
   by_cases e:a=i
   ·subst e;rw[jn,jn]
   ·rw[jk _ _ e,jk _ _ e,jk _ _ e]
  rw[e]at s;exact s
 refine iQ ?_;obtain rfl:j=xs.length:=by omega
 rw[Ki,List.drop_length,JL]at b;subst b;exact H J K g
end
open Un Dm
structure StS (ss:List (List (Fm×V×V))) (nm:Nat->Nat) (b:List Nat) (S:Int->Option V) (fl:KF->Option (List Nat×V)) (c:List (List (Fm×V×V))):Prop where
 map:∀s:Nat,S s=if s∈b then some (.I (b.idxOf s:Nat)) else none
 out:c=b.map λs=>ss.getD s []
 rows:∀s l k x a w,ss[s]? =some l->l[k]? =some (x,a,w)->fl (s,k,false)=some (if s∈b then x.locals.map nm else x.locals,a)/\fl (s,k,true)=some (if s∈b then x.stack.map nm else x.stack,w)
 nd:b.Nodup
 lt:∀s∈b,s<ss.length
def Xg(a:List Nat)(s:Nat):List Nat:=if s∈a then a else a++[s]
section
variable {F F':Nat->Prop} {h h':Hp} {cs ds:List Pc} {Q:fD} {u:U} {l1 T1 l4 T4 lt Tt lm lb Tb lr Tr lo To:Nat} {num mQ a0 a1 a2 a3 b0 b1 b2 b3 ws Gy:V} {ns:List Nat} {az:List Int} {S:Int->Option V}
 {fl:KF->Option (List Nat×V)} {ss sos:List (List (Fm×V×V))} {sl:List Nat}
abbrev Sx(fl:KF->Option (List Nat×V)) (ss:List (List (Fm×V×V))) (ws:V) (lm:Nat) (S:Int->Option V) (lb Tb lr Tr l4 l1 lo To:Nat) (b0 b1 b2 b3 Gy:V) (a:List (List (Fm×V×V))) (ds:List Pc):List Pc:=
 fX eR fl::fg (eL Rr) mO ss ws::Rz lm S::eQ lb Tb [.map lm]::eQ lr Tr [.func iK [] [.ptr l4 0,.ptr l1 0]]::eQ lo To [b0,b1,b2,b3,Gy]::fg (eL Rr) mO a Gy::ds
theorem eo.Qw{p:Pc}(H:eo F h (p::cs))(n:Nat)(g:n<=cs.length):eo F h (cs.take n++p::cs.drop n):=by
 have f:(cs.take n).length=n:=by rw[Mq];omega
 refine H.re (λi=>if i<n then i+1 else if i=n then 0 else i) (λi c hc=>?_) λi j _ _ e=>?_
 ·by_cases a:i<n
  ·rw[Rk (by omega),wBB a]at hc;rw[if_pos a];exact hc
  ·rw [VG (by omega),f]at hc;rw[if_neg a];by_cases b:i=n
   ·subst b;rw[Nat.sub_self]at hc;rw[if_pos rfl];exact hc
   ·rw[if_neg b];obtain⟨d,rfl⟩:∃d,i=n+d+1:=⟨i-n-1,by omega⟩
    rw[show n+d+1-n=d+1 by omega,wBU,wBL]at hc;exact hc
 ·repeat' split at e
  all_goals omega
theorem eo.Ns(H:eo F h cs)(n:Nat)(d:n<=cs.length):eo F h (cs.take n++cs.drop (n+1)):=by
 have b:(cs.take n).length=n:=by rw[Mq];omega
 refine H.re (λi=>if i<n then i else i+1) (λi c hc=>?_) λi j _ _ e=>?_
 ·by_cases a:i<n
  ·rw[Rk (by omega),wBB a]at hc;rw[if_pos a];exact hc
  ·rw[VG (by omega),b,wBL]at hc;rw[if_neg a,<-hc];congr 1;omega
 ·repeat' split at e
  all_goals omega
theorem eo.zev{α:Type}{E:qp α}{ty:Nat}{xs:List α}{v:V}(H:eo F h cs)(i:Nat)(hi:cs[i]? =some (fg E ty xs v)){k n l o:Nat}{kd:IntKind}(a:k<xs.length)(e:gB n v (.int kd (k:Nat))=some (.ptr l o)):l<h.next:=by
 rcases H.row i hi with⟨_,rfl⟩|⟨t,ws,rfl,b,_⟩
 ·exact absurd a (Nat.not_lt_zero _)
 ·rw[AN _ _ _ _ _ _ a]at e;cases e;exact b
theorem PK(C:eo F h (Nx l1 T1 l4 T4 lt Tt num ns [a0,a1,a2,a3,ws] mQ az (Sx fl ss ws lm S lb Tb lr Tr l4 l1 lo To b0 b1 b2 b3 Gy sos ds)))(c:StS ss (Cl ns az) sl S fl sos)(hn:az.length<=3000)(O:ns.length=az.length)(P:∀(v:Nat)(a:Int),az[v]? =some a->a<az.length)
  {s:Nat} {l:List (Fm×V×V)} (hs:ss[s]? =some l) (aq:ss.length<=1000) (ar:l.length<=1000) (ae:∀y∈l,y.1.locals.length<=1000/\y.1.stack.length<=1000/\(∀v∈y.1.locals,v<az.length)/\∀v∈y.1.stack,v<az.length)
  (H:∀h' d S' r f,Sn F h F h'->StS ss (Cl ns az) (Xg sl s) S' d r->eo F h' (Nx l1 T1 l4 T4 lt Tt num ns [a0,a1,a2,a3,ws] mQ az (Sx d ss ws lm S' lb Tb lr Tr l4 l1 lo To b0 b1 b2 b3 f r ds))->Q (.I ((Xg sl s).idxOf s:Nat)) h') :
  cP CS fT [.I s,.ptr lb 0,.ptr lo 0,.ptr l1 0,.ptr lr 0] h Q:=by
 refine DE rfl rfl ?_;unfold vK;refine eh (C.ld 8 rfl rfl) (eh (C.zer 7 rfl s _) ?_);rw[c.map s];have oh:s<ss.length:=(ki.1 hs).1;by_cases hm:s∈sl
 ·rw[if_pos hm];refine eh (Fx 0 _) (eh (Fx 1 _) (rP (gz rfl ?_)));refine qU ?_;unfold nT;have ha:Xg sl s=sl:=if_pos hm;rw[ha]at H;exact H h fl S sos Gy (Sn.refl _ _) c C
 rw [if_neg hm];have ha:Xg sl s=sl++[s]:=if_neg hm;rw[ha]at H;have A:(sl++[s]).idxOf s=sl.length:=by
  rw[List.idxOf_append,if_neg hm];simp
 rw[A]at H;have R:sos.length=sl.length:=by rw[c.out,Ik]
 have ap:sl.length<=ss.length:=jM _ _ c.nd c.lt;refine eh (Fx 0 _) (eh (Fx 1 _) (rP (gh (by simp) ?_)));refine oF (C.ld 10 rfl rfl) (eh (C.len 11 rfl) (eh (C.ld 8 rfl rfl) ?_));rw[R];obtain⟨m,e1,_,L,s1⟩:=C.zfz 7 rfl (k:=(s:Int)) (by rw[c.map s,if_neg hm]) (.I sl.length);have ag:J4 3 none (.map lm) (.I s) (.I sl.length) h=some (.val .undef m):=e1;rw[ag,en];simp only[ji,lO]at L;obtain⟨lx,T,wx,q,U,⟨wf,rfl,xf⟩,W⟩:=L.YC 6 rfl hs .i64;have q:gB 1 ws (.I s)=some (.ptr lx T):=q;have W:fe (.ptr lx (T+0)) m=some wf:=W 0 wf rfl;refine eh (L.ld 0 rfl rfl) (eh (fZ _ _) (eh (fM _ _ _) (oF (L.ld 2 rfl rfl) (eh q (oF W (eh xf.len ?_))))))
 refine Br (λk l' h'=>∃(j:Nat) (d:KF->Option (List Nat×V)),l' = [.I s,.ptr lo 0,.ptr l1 0,.ptr lr 0,.I sl.length,wf,.I l.length,.I j]/\j+k=l.length/\Sn F m F h'/\
  (∀t k b,t≠s->d (t,k,b)=fl (t,k,b))/\(∀k x a w,l[k]? =some (x,a,w)->d (s,k,false)=some (if k<j then x.locals.map (Cl ns az) else x.locals,a)/\d (s,k,true)=some (if k<j then x.stack.map (Cl ns az) else x.stack,w))/\
  eo F h' (Nx l1 T1 l4 T4 lt Tt num ns [a0,a1,a2,a3,ws] mQ az (Sx d ss ws lm (up S s (some (.I sl.length))) lb Tb lr Tr l4 l1 lo To b0 b1 b2 b3 Gy sos ds))) ?_ (k:=l.length)
  ⟨0,fl,rfl,by omega,Sn.refl _ _,λ_ _ _ _=>rfl,λk x a w A=>?_,L⟩
 rotate_left
 ·have:=c.rows s l k x a w hs A;rw[if_neg hm,if_neg hm]at this;rw[if_neg (by omega),if_neg (by omega)];exact this
 clear L q W;rintro k _ _ _ _ _ _ _ _ D ⟨j,d,⟨⟩,au,s2,E,G,B⟩;unfold qV;have ah:=xf.since s2;by_cases hj:j<l.length
 ·refine gK ?_;have hy:=iy hj;obtain⟨X,Y,I,J⟩:=ae _ (AY hj);obtain⟨ly,oy,wy,_,y1,y2,y3,_⟩:=ah.ix hj .i64;obtain⟨⟨x,a,w⟩,ai⟩:∃y,l[j]=y:=⟨_,rfl⟩
  rw[ai]at hy y3 X Y I J;dsimp only at X Y I J;obtain⟨rfl,y4,y5⟩:=y3;have y1:gB 4 wf (.I j)=some (.ptr ly oy):=y1;refine eh y1 (eh y2 ?_);refine gZ B rfl rfl (by simp only[Ll,eJ,y4,y5];rfl) λh3 n s3=>?_;generalize D.next=lf at*;have n:eo F h3 (Nx l1 T1 l4 T4 lt Tt num ns [a0,a1,a2,a3,ws] mQ az (Sx d ss ws lm (up S s (some (.I sl.length))) lb Tb lr Tr l4 l1 lo To b0 b1 b2 b3 Gy sos (eQ lf 49 (Ll x a w)::ds))):=n.Qw 12 (by simp);obtain⟨Z,aa⟩:=G j x a w hy;rw[if_neg (by omega)]at Z aa;refine eh (n.ld 9 rfl rfl) (oF (n.ld 12 rfl rfl) ?_);show cP CS iK [a,.ptr l4 0,.ptr l1 0] h3 _;refine KW 0 n rfl Z rfl hn O P I (by omega) λM s4 p=>?_;simp only[ji]at p;have p:eo F M (Nx l1 T1 l4 T4 lt Tt num ns [a0,a1,a2,a3,ws] mQ az (Sx (up d (s,j,false) (some (x.locals.map (Cl ns az),a))) ss ws lm (up S s (some (.I sl.length))) lb Tb lr Tr l4 l1 lo To b0 b1 b2 b3 Gy sos (eQ lf 49 (Ll x a w)::ds))):=p;refine eh (p.ld 9 rfl rfl) (oF (p.ld 12 rfl rfl) ?_);show cP CS iK [w,.ptr l4 0,.ptr l1 0] M _;refine KW 0 p rfl (i:=(s,j,true)) (by rw[jk _ _ (by simp)];exact aa) rfl hn O P J (by omega) λh5 s5 H5=>?_;simp only[ji]at H5;refine fL ⟨k-1,by omega,j+1,_,rfl,by omega,((s2.trans s3).trans s4).trans s5,λt k b ht=>?_,λk z b c A=>?_,H5.Ns 12 (by simp)⟩
  ·rw[jk _ _ (by simp[ht]),jk _ _ (by simp[ht])];exact E t k b ht
  ·by_cases e:k=j
   ·subst e;rw[hy]at A;cases A;rw[if_pos (by omega),if_pos (by omega)];exact⟨by rw[jk _ _ (by simp),jn],jn _ _ _⟩
   ·rw[jk _ _ (by simp),jk _ _ (by simp[e]),jk _ _ (by simp[e]),jk _ _ (by simp)];have:=G k z b c A;by_cases N:k<j
    ·rw[if_pos N,if_pos N]at this;rw[if_pos (by omega),if_pos (by omega)];exact this
    ·rw[if_neg N,if_neg N]at this;rw[if_neg (by omega),if_neg (by omega)];exact this
 refine iQ ?_;obtain rfl:j=l.length:=by omega
 obtain⟨lx,T,wx,q,U,⟨g,rfl,ab⟩,W⟩:=B.YC 6 rfl hs .i64;have q:gB 1 ws (.I s)=some (.ptr lx T):=q;have U:fW 1 (.ptr lx T) D=some (.agg [g]):=U;refine oF (B.ld 10 rfl rfl) (eh (B.ld 0 rfl rfl) (eh (fZ _ _) (eh (fM _ _ _) (oF (B.ld 2 rfl rfl) (eh q (eh U ?_))))));rw[nW (sz:=1) (w:=[g]) rfl rfl (by simp only[eJ,ab.one];rfl),hX];have n:eo F (D.new (.cells 52 1 true false [g])) (eQ D.next 52 [g]::_):=(B.Aw mO [g]).1;obtain⟨f,M,e4,n4,p,s4⟩:=B.rU 11 rfl (jP:=24) (zL:=52) (y:=l) (w:=[g]) (ro:=false) ⟨g,rfl,ab⟩ (by decide) (by decide) (by omega);have aj:fh 52 1 24 Gy (.slice D.next 0 1) (D.new (.cells 52 1 true false [g]))=some (.val f M):=e4;have ak:=B.zev 6 rfl oh q;have al:=HX U (fk (.cells 52 1 true false [g]) ak);refine⟨⟨n.get 0 rfl,bq⟩,al,n.ld 3 rfl rfl,n.ld 1 rfl rfl,n.ld 11 rfl rfl,?_⟩;rw[aj,en];simp only[ji,lO]at p;obtain⟨h5,e5,n5,H5,s5⟩:=p.st 10 (o:=4) (u:=f) rfl (by simp) (p.one 11 rfl);refine⟨by show D.next+1<=M.next;exact n4,eh (fM _ _ _) ?_⟩;have am:gJ 1 (.ptr lo (0+4)) f M=some (.val .undef h5):=by rw[zO];exact e5
 rw[am,en];simp only[ji,lO]at H5;refine⟨n5,qU ?_⟩;unfold nT;have an:ss.getD s []=l:=by rw[Je,hs];rfl
 refine H h5 d (up S s (some (.I sl.length))) (sos++[l]) f (((s1.trans s2).trans s4).trans s5) ⟨λt=>?_,by rw[c.out,Lj,wB7,wB2,an],λt l' k x a w ht K=>?_,?_,λt ht=>?_⟩ H5
 ·by_cases e:t=s
  ·subst e;rw[jn,if_pos (by simp),A]
  ·rw[jk _ _ (by omega),c.map t];by_cases m:t∈sl
   ·rw[if_pos m,if_pos (SN _ m),List.idxOf_append,if_pos m]
   ·rw[if_neg m,if_neg (by simp[m,e])]
 ·by_cases e:t=s
  ·subst e;rw[hs]at ht;cases ht;have:=G k x a w K;have ac:=(ki.1 K).1;rw[if_pos ac,if_pos ac]at this;rw[if_pos (by simp),if_pos (by simp)];exact this
  ·rw[E t k false e,E t k true e];have:=c.rows t l' k x a w ht K;have N:(t∈sl++[s])=(t∈sl):=by simp[e]
   simp only[N];exact this
 ·rw [ZL];exact⟨c.nd,by simp,λa ao b hb=>by
   rw[QJ]at hb;subst hb;exact λe=>hm (e▸ao)⟩
 ·rcases He.1 ht with m|m
  ·exact c.lt t m
  ·obtain rfl:=QJ.1 m;exact oh
end
open Un Dm
section
variable{F F':Nat->Prop}{h h':Hp}{cs ds:List Pc}{Q:fD}{u:U}
theorem zbx(cs:List Pc):∀(a:List Nat),(∀m∈a,m<cs.length)->(a.filterMap λm=>cs[m]?).length=a.length/\∀i:Nat,(a.filterMap λm=>cs[m]?)[i]? = (a[i]?).bind λm=>cs[m]?
 |[],_=>by simp_all
 | m::a,hm=>by
   obtain⟨b,c⟩:=zbx cs a (by simp_all)
   grind
theorem eo.perm(H:eo F h cs)(a:List Nat)(k:Nat)(b:∀m∈a,m<k)(d:a.Nodup)(f:k<=cs.length):eo F h ((a.filterMap λm=>cs[m]?)++cs.drop k):=by
 obtain⟨l,n⟩:=zbx cs a (by grind);refine H.re (λi=>if i<a.length then a.getD i 0 else k+(i-a.length)) (λi c hc=>?_) λi j _ _ e=>?_
 ·grind
 ·have g:∀i,i<a.length->a.getD i 0<k/\a[i]? =some (a.getD i 0):=by simp_all
  by_cases hi:i<a.length
  ·rw [if_pos hi]at e;by_cases hj:j<a.length
   ·rw[if_pos hj]at e
    grind[yZ]
   grind
  grind
end
structure E5 (u:U) (az:List Int):Prop where
 nv:u.ej.length<=3000
 nb:u.blocks.length<=300
 ns:u.ev.length<=1000
 once:zac u
 ko:∀(v b k:Nat),At u v b k->v<u.ej.length
 len:az.length=u.ej.length
 sub:∀(v:Nat) (a:Int),az[v]? =some a->a<az.length
 parts:∀(v:Nat) (x:Vl),u.ej[v]? =some x->x.args.length<=700/\(nq x.op=true\/two x.op=true->x.a<u.ej.length)/\(two x.op=true->x.b<u.ej.length)/\(x.op=21\/x.op=20->∀w∈x.args,w<u.ej.length)/\(leaves x.op=true->x.state<u.ev.length)
 ends:∀(b:Nat) (B:Bk),u.blocks[b]? =some B->(B.fin=2->B.cond<u.ej.length)/\(B.fin=3->B.state<u.ev.length)
 st:∀(s:Nat) (fs:List Fm),u.ev[s]? =some fs->fs.length<=1000/\∀f∈fs,f.locals.length<=1000/\f.stack.length<=1000/\(∀v∈f.locals,v<u.ej.length)/\∀v∈f.stack,v<u.ej.length
structure NbB (u:U) (az:List Int) (i:Nat) (bs a:List (Bk×V)):Prop where
 len:a.length=bs.length
 row:∀(b:Nat) (B:Bk) (w:V),bs[b]? =some (B,w)->a[b]? =some (if b<i then{B with ej:=(B.ej.filter (stays (mm az))).map (fN u (mm az)).idxOf} else B,w)
section
variable{F F':Nat->Prop}{h h':Hp}{cs ds:List Pc}{Q:fD}{u:U}{wv wb ws mQ:V}{lt Tt:Nat}{az:List Int}{xs:List (Vl×V)}{bs:List (Bk×V)}{fa fn:Nat->Option (List Nat×V)}{ss:List (List (Fm×V×V))}{fl:KF->Option (List Nat×V)}
theorem Z2{T l o:Nat}{K:fD}(H:eo F h ds)(b:∀a,eo F a (eQ h.next T [.ptr l o]::ds)->Sn F h F a->K (.ptr h.next 0) a):hV (lR T (.ptr l o)) h K:=by
 rw[show lR T (.ptr l o)=some (.cells T 1 true false [.ptr l o],λl=> .ptr l 0) from rfl,fE];exact b _ (H.Aw T _).1 (H.Aw T [.ptr l o]).2
theorem xz{T:Nat}{ws:List V}{K:fD}(H:eo F h ds)(b:∀a,eo F a (eQ h.next T ws::ds)->Sn F h F a->K (.ptr h.next 0) a):hV (some (O.cells T 1 true false ws,λl=>V.ptr l 0)) h K:=by
 rw[fE];exact b _ (H.Aw T _).1 (H.Aw T ws).2
theorem Wa{T:Nat}{ws:List V}{K:O->fD}(H:eo F h ds)(b:∀a,eo F a (eQ h.next T ws::ds)->Sn F h F a->K (.cells T 1 true false ws) (.ptr h.next 0) a):yp (some (O.cells T 1 true false ws,λl=>V.ptr l 0)) h K:=by
 rw[hX];exact b _ (H.Aw T _).1 (H.Aw T ws).2
theorem Vq{T:Nat}{ws:List V}{K:O->fD}(H:eo F h ds)(a:gw ws=true)(b:eo F (h.new (.cells T 1 true false ws)) (eQ h.next T ws::ds)->Sn F h F (h.new (.cells T 1 true false ws))->K (.cells T 1 true false ws) (.ptr h.next 0) (h.new (.cells T 1 true false ws))):yp (lR T (.agg ws)) h K:=by
 rw[Fg a,hX];exact b (H.Aw T _).1 (H.Aw T ws).2
theorem Nz{T:Nat}{z w:V}{K:fD}(H:eo F h ds)(c:w.one=true)(d:∀a,eo F a (eQ h.next T [w]::ds)->Sn F h F a->K (.ptr h.next 0) a):hV (some (O.cells T 1 true false [z],λl=>V.ptr l 0)) h λv b=>fm (gJ 1 v w b) λ_ a=>K v a:=by
 refine xz H λb e f=>?_;obtain⟨a,g,_,i,j⟩:=e.st 0 (o:=0) rfl (by simp) c;rw[g,en];exact d a i (f.trans j)
theorem zdg{K:fD}(H:eo F h ds)(b:∀a,eo F a (Rz h.next (λ_=>none)::ds)->Sn F h F a->K (.map h.next) a):hV (some (O.map [] 0,λl=>V.map l)) h K:=by
 rw[fE];exact b _ H.ze6.1 H.ze6.2
theorem SY(g:E5 u az)(hc:X7 u.ej xs fa)(hb:Xu u.blocks bs fn)
  (H0:eo F h (fg zh hH xs wv::fg wU fS bs wb::fX eR fa::fX eR fn::fg eZ eR az mQ::eQ lt Tt [.I u.func,.I u.pc,wv,wb,ws,mQ]::fg (eL Rr) mO ss ws::fX eR fl::cs))
  (H:∀F' h' l1 T1 l2 l3 l4 T4 lm lb Tb lr Tr num ns U c,Sn F h F' h'->NbB u az u.blocks.length bs c->ns.length=u.ej.length->(∀v,v<u.ej.length->ns[v]? =some (if v∈fN u (mm az) then(fN u (mm az)).idxOf v else 0))->
   eo F' h' (Nx l1 T1 l4 T4 lt Tt num ns [.I u.func,.I u.pc,wv,wb,ws] mQ az (Sx fl ss ws lm (λ_=>none) lb Tb lr Tr l4 l1 l3 gR (.I u.func) (.I u.pc) .ei .ei .ei []
    (fg zh hH xs wv::fg wU fS c wb::fX eR fa::fX eR fn::fg zh hH [] .ei::fg wU fS [] .ei::eQ l2 gR [.I 0,.I 0,.ei,.ei,.ei]::fg eN eR (fN u (mm az)) U::cs)))->
   mf CS Q [.ptr l1 0,.ptr l2 0,.ptr l3 0,.ptr l4 0,.ptr lr 0,.func fT [] [.ptr lb 0,.ptr l3 0,.ptr l1 0,.ptr lr 0],U,.I ((fN u (mm az)).length:Nat),.I 0] h') :
  cP CS lM [.ptr lt 0] h Q:=by
 refine Ga rfl rfl ?_;unfold yC;have nv:=g.nv;have nb:=g.nb;have ag:bs.length=u.blocks.length:=by rw[<-hb.fst,Ik]
 have ah:xs.length=u.ej.length:=by rw[<-hc.fst,Ik]
 refine Z2 H0 λh1 H1 s1=>xz H1 λh2 R s2=>?_;generalize h.next=l1 at*;generalize h1.next=l2 at*;refine eh (R.ld 1 rfl rfl) (eh pn (eh pf (oF (R.ld 7 rfl rfl) (eh (R.ld 1 rfl rfl) (eh pn (eh pf (oF (R.ld 7 rfl rfl) ?_)))))));refine eh (by rfl) ?_;refine Wa R λh3 M s3=>?_;generalize h2.next=l3 at*;refine⟨⟨M.get 0 rfl,bq⟩,M.ld 8 rfl rfl,M.ld 2 rfl rfl,M.ld 8 rfl rfl,M.ld 2 rfl rfl,?_⟩;obtain⟨h4,e4,n4,S,s4⟩:=M.U1 0 (ws:=[.I u.func,.I u.pc,.ei,.ei,.ei]) (n:=5) rfl rfl rfl rfl;rw[e4,en];simp only[ji]at S;refine⟨n4,eh (S.ld 2 rfl rfl) (eh pn (eh pf (oF (S.ld 8 rfl rfl) (eh (S.len 3 rfl) ?_))))⟩;rw[ah,ku (z:=V.I 0) rfl (by decide) (by omega),fE];obtain⟨H5,s5⟩:=S.make (E:=eN) (ty:=eR) (y:=0) (u:=V.I 0) u.ej.length rfl rfl;generalize h4.new (.cells eR 1 true false (List.replicate u.ej.length (V.I 0)))=h5 at*;generalize h4.next=ln at*;refine Nz H5 rfl λh6 N s6=>?_;generalize h5.next=l4 at*;refine eh (N.ld 4 rfl rfl) (eh pn (eh pf (oF (N.ld 10 rfl rfl) (eh (N.len 6 rfl) ?_))));rw[ag];have W:=((((s1.trans s2).trans s3).trans s4).trans s5).trans s6;clear H0 H1 R M S H5 s1 s2 s3 s4 s5 s6 e4 n4;have N:=N.add (p:=fg eN eR [] .ei) .nil λ_ h=>h;obtain⟨A,hA⟩:∃A,mm az=A:=⟨_,rfl⟩
 rw[hA]at H
 refine CG (λk l h'=>∃(F':Nat->Prop) (i:Nat) (ns:List Nat) (c:List (Bk×V)) (r:V),l=[.ptr l1 0,.ptr l2 0,.ptr l3 0,.ptr l4 0,r,.I u.blocks.length,.I i]/\i+k=u.blocks.length/\Sn F h F' h'/\NbB u az i bs c/\
  ns.length=u.ej.length/\(∀v,v<u.ej.length->ns[v]? =some (if v∈kM u A i 0 then(fN u A).idxOf v else 0))/\
  eo F' h' (fg eN eR (kM u A i 0) r::eQ l4 _ [.slice ln 0 u.ej.length]::fg eN eR ns (.slice ln 0 u.ej.length)::eQ l3 gR [.I u.func,.I u.pc,.ei,.ei,.ei]::eQ l2 gR [.I 0,.I 0,.ei,.ei,.ei]::eQ l1 _ [.ptr lt 0]::fg zh hH xs wv::fg wU fS c wb::fX eR fa::fX eR fn::fg eZ eR az mQ::eQ lt Tt [.I u.func,.I u.pc,wv,wb,ws,mQ]::fg (eL Rr) mO ss ws::fX eR fl::cs)) ?_ (k:=u.blocks.length)
  ⟨F,0,_,bs,.ei,rfl,by omega,W,⟨rfl,by simp_all⟩,WI,λv hv=>by rw[wBx,if_pos hv,LQ,if_neg (by simp)],by rw[LQ];exact N⟩
 clear N W;rintro k _ _ _ _ r _ _ h7 ⟨X,i,ns,c,_,⟨⟩,hk,s7,x,o,f,D⟩;unfold uE;by_cases hi:i<u.blocks.length
 ·refine gK ?_;obtain⟨⟨B,wn⟩,Y⟩:∃y,bs[i]? =some y:=by simp_all
  have K:u.blocks[i]? =some B:=by rw[<-hb.fst,Dn,Y];rfl
  have ap:B.ej.length<=u.ej.length:=jM _ _ (Js g.once K) λv hv=>by
   obtain⟨k,hk⟩:=oY.1 hv;exact g.ko v i k ⟨B,K,hk⟩
  have L:c[i]? =some (B,wn):=by have:=x.row i B wn Y;rwa [if_neg (by omega)]at this
  obtain⟨l8,o8,w8,T,_,⟨bv,bp,rfl,iv,ip,aq⟩,x3⟩:=D.YC 7 rfl L .i64;have T:gB 6 wb (.I i)=some (.ptr l8 o8):=T;refine eh (D.ld 5 rfl rfl) (eh pn (eh pf (oF (D.ld 11 rfl rfl) (eh T (oF (x3 0 _ rfl) (eh iv.len ?_))))));have D:=D.add (p:=fg eN eR [] .ei) .nil λ_ h=>h
  refine CL (λk' l h'=>∃(j:Nat) (ns:List Nat) (r G:V),l=[.ptr l1 0,.ptr l2 0,.ptr l3 0,.ptr l4 0,r,.I i,G,.I u.blocks.length,.I i,bv,.I B.ej.length,.I j]/\j+k' = B.ej.length/\Sn F h X h'/\Sn X h7 X h'/\
   ns.length=u.ej.length/\(∀v,v<u.ej.length->ns[v]? =some (if v∈kM u A i j then(fN u A).idxOf v else 0))/\
   eo X h' (fg eN eR (((B.ej.take j).filter (stays A)).map (fN u A).idxOf) G::fg eN eR (kM u A i j) r::eQ l4 _ [.slice ln 0 u.ej.length]::fg eN eR ns (.slice ln 0 u.ej.length)::eQ l3 gR [.I u.func,.I u.pc,.ei,.ei,.ei]::eQ l2 gR [.I 0,.I 0,.ei,.ei,.ei]::eQ l1 _ [.ptr lt 0]::fg zh hH xs wv::fg wU fS c wb::fX eR fa::fX eR fn::fg eZ eR az mQ::eQ lt Tt [.I u.func,.I u.pc,wv,wb,ws,mQ]::fg (eL Rr) mO ss ws::fX eR fl::cs)) ?_ (k:=B.ej.length)
   ⟨0,ns,r,.ei,rfl,by omega,s7,Sn.refl _ _,o,f,D⟩
  clear D o f T x3;rintro k' _ _ _ _ r _ G _ _ _ _ _ h8 ⟨j,ns,_,_,⟨⟩,ar,Z,O,o,f,s⟩;unfold uD;have oh:(kM u A i j).length<=u.ej.length:=by
   have h1:=(IT («as»:=A) (j:=j) K).length_le;have h2:=jM u.ej.length (fN u A) (AB g.once) λv hv=>Hs g.ko hv;omega
  have au:((B.ej.take j).filter (stays A)).length<=(kM u A i j).length:=by
   unfold kM;rw[K,KC];exact Nat.le_add_left _ _
  by_cases hj:j<B.ej.length
  ·refine gK ?_;have hx:=iy hj;have aw:=Fz hx;generalize B.ej[j]=v at*;have ai:=g.ko v i j ⟨B,K,hx⟩;obtain⟨la,oa,_,T,x2⟩:=(iv.since O).nat hx .i64;obtain⟨a,ha⟩:∃a,az[v]? =some a:=⟨_,iy (by rw[g.len];exact ai)⟩
   obtain⟨lb,ob,y1,y2⟩:=s.Qd 11 rfl ha .i64;have aa:A v=a:=by rw[<-hA];exact JG ha
   have I:=L9 («as»:=A) K hx;refine eh T (eh x2 (eh (s.ld 6 rfl rfl) (oN (s.ld 12 rfl rfl) (eh y1 (eh y2 (gy ?_))))));by_cases e:a=(v:Int)
   ·refine gz e ?_;have J:stays A v=true:=by unfold stays;rw[aa,e];exact beq_self_eq_true _
    rw[if_pos J]at I;obtain⟨ax,ay⟩:=zc8 («as»:=A) g.once K hx J;refine eh (s.ld 2 rfl rfl) (eh (s.len 1 rfl) ?_);obtain⟨lc,oc,h9,e1,e2,_,q,s9⟩:=s.Kh 3 rfl (k:=v) (y:=(kM u A i j).length) (u:=V.I ((kM u A i j).length:Nat)) (by omega) rfl rfl rfl;refine eh e1 ?_;rw[e2,en];simp only[ji,lO]at q;refine eh (q.len 1 rfl) ?_;rw[qB,fE];obtain⟨va,m,aj,_,d,t⟩:=q.rU 0 rfl (jP:=8) (zL:=3) (y:=(kM u A i j).length) (w:=ic [(kM u A i j).length]) (ro:=false) rfl (by decide) (by decide) (by simp;omega);have ab:fh 3 1 8 G (.slice h9.next 0 1) (h9.new (.cells 3 1 true false (ic [(kM u A i j).length])))=some (.val va m):=aj;rw[ab,en];simp only[ji,lO]at d;rw[qB,fE];obtain⟨vc,ak,Wh,_,P,al⟩:=d.rU 1 rfl (jP:=8) (zL:=3) (y:=v) (w:=ic [v]) (ro:=false) rfl (by decide) (by decide) (by omega);have ac:fh 3 1 8 r (.slice m.next 0 1) (m.new (.cells 3 1 true false (ic [v])))=some (.val vc ak):=Wh;rw[ac,en];simp only[ji,lO]at P;refine tK ?_;unfold oA;have sA:=(s9.trans t).trans al;refine fL ⟨k'-1,by omega,j+1,ns.set v (kM u A i j).length,vc,va,rfl,by omega,Z.trans sA,O.trans sA,by simp_all,λw hw=>?_,?_⟩
    ·grind
    simp_all
   ·refine gh e (tK ?_);unfold oA;have J:stays A v=false:=by unfold stays;rw[aa];exact Wc.2 e
    rw[J]at I;have I:kM u A i (j+1)=kM u A i j:=I;refine fL ⟨k'-1,by omega,j+1,ns,r,G,rfl,by omega,Z,O,o,by simp_all,?_⟩
    simp_all
  refine iQ ?_;obtain rfl:j=B.ej.length:=by omega
  rw [Ki]at s;rw[Ss K]at f s;obtain⟨q,s9,r9⟩:=s.kL 0 rfl;simp only[ji]at q;have q:=q.tail;generalize (λl=>X l\/Loc G l)=F9 at*;have ae:=ki.1 L;obtain⟨lq,m,e1,e2,_,d,t⟩:=q.stF 7 rfl (k:=i) (j:=0) (y:=({B with ej:=(B.ej.filter (stays A)).map (fN u A).idxOf},wn)) (a:=G) ae.1 (by decide) r9.one (λw' hw=>by
   rw[ae.2]at hw;obtain⟨pv,pp,rfl,_,q2,q3⟩:=hw;exact⟨G,pp,rfl,r9,q2,q3⟩)
  have e1:gB 6 wb (.I i)=some (.ptr lq (i*6)):=e1;refine eh (q.ld 5 rfl rfl) (eh pn (eh pf (oF (q.ld 11 rfl rfl) (eh e1 (eh pf ?_)))));have am:gJ 1 (.ptr lq (i*6+0)) G h8=some (.val .undef m):=e2;rw[am,en];simp only[ji,lO]at d;refine fL ⟨k-1,by omega,F9,i+1,ns,_,r,rfl,by omega,(Z.trans s9).trans t,⟨by rw[TH,x.len],λb C w an=>?_⟩,o,f,d⟩;by_cases e:b=i
  ·grind
  ·rw[KP (by omega),x.row b C w an]
   grind
 refine iQ ?_;obtain rfl:i=u.blocks.length:=by omega
 rw[UL]at f D;refine zdg D λh8 s Z=>Nz s rfl λh9 q s9=>Nz q rfl λm d t=>?_;generalize h7.next=lm at*;generalize h8.next=lb at*;generalize h9.next=lr at*;refine eh (d.len 3 rfl) ?_;have P:=((d.add (p:=fg (eL Rr) mO [] .ei) .nil λ_ h=>h).add (p:=fg zh hH [] .ei) .nil λ_ h=>h).add (p:=fg wU fS [] .ei) .nil λ_ h=>h;have ao:=P.perm [11,7,17,8,16,19,18,5,4,3,9,2,12,13,14,15,1,0,10,6] 20 (by decide) (by decide) (by simp);exact H _ m l1 _ l2 l3 l4 _ lm lb _ lr _ _ ns _ c (((s7.trans Z).trans s9).trans t) x o f ao
end
