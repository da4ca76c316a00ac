/- Parts. -/
import Derived.Test.YtkpicojjjifmgabGreatDoorM43
import Derived.Test.YtkpicojjjifmgabGreatDoorM40
import Derived.Test.YtkpicojjjifmgabGreatDoorM45
set_option maxHeartbeats 4000000
namespace Go.Proofs.YtkpicojjjifmgabGreatDoor.Hx
open Un Dm
structure RdW (h:Hp) (xs:List Int) (v:V):Prop where
 len:fI v=some (.I xs.length)
 at_:∀(k:Nat) (x:Int),xs[k]? =some x->∃l o,gB 1 v (.I k)=some (.ptr l o)/\fe (.ptr l o) h=some (.int .u64 x)
section
variable{F F':Nat->Prop}{h h':Hp}{cs ds:List Pc}{Q:fD}{u w:U}{vv vb vs wv wb ws rZ rm oh:V}{hp locals xs:List Int}{lh Th:Nat}{gY:Int}{fuel:Nat}
theorem im.rdW{v:V}(a:im (eI .u64) F h xs v):RdW h xs v:=⟨a.len,λk x hx=>let⟨l,o,_,b,c,_⟩:=a.word hx .i64;⟨l,o,b,c⟩⟩
theorem eo.rdW{ty:Nat}{v:V}(H:eo F h cs)(i:Nat)(hi:cs[i]? =some (fg (eI .u64) ty xs v)):RdW h xs v:=⟨H.len i hi,λk x hx=>let⟨l,o,a,b,_⟩:=H.L5 i hi hx .i64;⟨l,o,a,b⟩⟩
theorem Sq{a b:V}(c:RdW h xs a)(d:RdW h xs b)(g:xs.length<1000000000)(H:Q (.bool true) h):cP CS jl [a,b] h Q:=by
 refine Fy rfl rfl ?_;unfold xA;refine eh c.len (eh d.len (yj (gz rfl ?_)));refine B1 (λk l h'=>∃i:Nat,l=[a,b,.I (i:Nat)]/\i+k=xs.length/\h' = h) ?_ (k:=xs.length) ⟨0,rfl,by omega,rfl⟩;rintro k _ _ _ h ⟨i,⟨⟩,j,rfl⟩;unfold tF;refine eh c.len ?_;by_cases hi:i<xs.length
 ·obtain⟨l1,m,p1,p2⟩:=c.at_ i _ (iy hi);obtain⟨l2,n,e,f⟩:=d.at_ i _ (iy hi);refine gK (eh p1 (eh p2 (eh e (eh f (yj (gz rfl ?_))))));exact fL ⟨k-1,by omega,i+1,rfl,by omega,rfl⟩
 ·exact iQ H
theorem Qn{a b:V}(c:RdW h xs a)(d:RdW h xs b)(g:xs.length<1000000000)(H:Q (.bool true) h):cP CS jX [a,b] h Q:=by
 refine BO rfl rfl ?_;unfold tJ;refine eh c.len (eh d.len (yj (gz rfl ?_)));refine zN (λk l h'=>∃i:Nat,l=[a,b,.I (i:Nat)]/\i+k=xs.length/\h' = h) ?_ (k:=xs.length) ⟨0,rfl,by omega,rfl⟩;rintro k _ _ _ h ⟨i,⟨⟩,j,rfl⟩;unfold qk;refine eh c.len ?_;by_cases hi:i<xs.length
 ·obtain⟨l1,m,p1,p2⟩:=c.at_ i _ (iy hi);obtain⟨l2,n,e,f⟩:=d.at_ i _ (iy hi);refine gK (eh p1 (eh p2 (eh e (eh f (yj (gz rfl ?_))))));exact fL ⟨k-1,by omega,i+1,rfl,by omega,rfl⟩
 ·exact iQ H
theorem im.fw{fs:List Fw}{f:V}(a:im eFw F h fs f){i:Nat}{x:Fw}(hx:fs[i]? =some x) :
  ∃l o a b,gB 4 f (.I i)=some (.ptr l o)/\fe (.ptr l (o+0)) h=some (.I x.func)/\fe (.ptr l (o+1)) h=some (.I x.pc)/\fe (.ptr l (o+2)) h=some a/\fe (.ptr l (o+3)) h=some b/\im (eI .u64) F h x.locals a/\im (eI .u64) F h x.stack b:=by
 obtain⟨hi,rfl⟩:=ki.1 hx;obtain⟨l,o,w,_,d,_,⟨a,b,rfl,e,g⟩,c⟩:=a.ix hi .i64;exact⟨l,o,a,b,d,c 0 _ rfl,c 1 _ rfl,c 2 _ rfl,c 3 _ rfl,e,g⟩
theorem Wv{fr:List Fw}{a b:V}(d:im eFw F h fr a)(e:im eFw F h fr b)(z:fr.length<1000000000)(g:∀f∈fr,f.locals.length<1000000000/\f.stack.length<1000000000)(H:Q (.bool true) h):cP CS jy [a,b] h Q:=by
 refine FU rfl rfl ?_;unfold qw;refine eh d.len (eh e.len (yj (gz rfl ?_)));refine De (λk j l m h'=>∃i:Nat,j=a/\l=b/\m = .I (i:Nat)/\i+k=fr.length/\h' = h) ?_ (k:=fr.length) ⟨0,rfl,rfl,rfl,by omega,rfl⟩;rintro k _ _ _ h ⟨i,rfl,rfl,rfl,A,rfl⟩;unfold pq;refine eh d.len ?_;by_cases hi:i<fr.length;rotate_left
 ·exact iQ H
 have hx:=iy hi;obtain⟨n,o⟩:=g _ (AY hi);generalize fr[i]=x at*;obtain⟨l1,B,la,sa,p1,p2,p3,p4,p,q,r⟩:=d.fw hx;obtain⟨l2,C,lb,sb,c,s,t,u,v,w,y⟩:=e.fw hx;refine gK (eh p1 (oF p2 (eh c (oF s (eh (rN ..) ?_)))));rw[show(x.func != x.func)=false by simp];refine fG (eh rfl (fG (eh rfl (fG (eh p1 (fG (eh pf (fG (eh p3 (fG (eh rfl (fG (eh rfl (fG (eh c (fG (eh pf (fG (eh t ?_)))))))))))))))))));refine nf (by rw[rN,show(x.pc != x.pc)=false by simp]) ?_;refine fG (eh rfl (fG (eh rfl (fG (eh p1 (fG (eh pf (fG (eh p4 (fG (eh rfl (fG (eh rfl (fG (eh c (fG (eh pf (fG (eh u (pW ?_))))))))))))))))))));refine Sq q.rdW w.rdW n ⟨jO _,nf rfl ?_⟩;refine fG (eh rfl (fG (eh rfl (fG (eh p1 (fG (eh pf (fG (eh p (fG (eh rfl (fG (eh rfl (fG (eh c (fG (eh pf (fG (eh v (pW ?_))))))))))))))))))));refine Sq r.rdW y.rdW o ⟨jO _,nf rfl ?_⟩;refine jj (gh (by simp) (fL ⟨k-1,by omega,i+1,rfl,rfl,rfl,by omega,rfl⟩))
theorem Tx(l:eo F h cs){i j:Nat}(hi:cs[i]? =some (eQ lh Th [.I 100,oh]))(o:cs[j]? =some (fg (eI .u64) AI hp oh))(x:hp.length<1000000)
  (H:∀h' v lx,Sn F h F h'->eo F h' (eQ lx 87 [.I 100,v]::fg (eI .u64) AI hp v::cs)->Q (.ptr lx 0) h') :
  cP CS iR [.ptr lh 0] h Q:=by
 refine BN rfl rfl ?_;unfold tw;have p:fe (.ptr lh (0+0)) h=some (.I 100):=l.ld i hi rfl;refine oN p ?_;rw[DI,hX];obtain⟨b,e⟩:=l.SB (E:=eI .u64) (xs:=[]) AI (ws:=[]) (n:=0) rfl trivial rfl;have b:eo F (h.new (.cells 89 1 true false [])) (fg (eI .u64) AI [] (.slice h.next 0 0)::cs):=b;have e:Sn F h F (h.new (.cells 89 1 true false [])):=e;have c:∀{a:Pc},(a::cs)[i+1]? =some (eQ lh Th [.I 100,oh]):=λ{_}=>by simpa using hi
 have f:∀{a:Pc},(a::cs)[j+1]? =some (fg (eI .u64) AI hp oh):=λ{_}=>by simpa using o
 refine oN (b.ld (i+1) c rfl) ⟨⟨fq _ _,bq⟩,b.ld (i+1) c rfl,?_⟩;obtain⟨v,y,q,r,d,s⟩:=b.zad 0 (j+1) rfl f (jP:=8) (by decide) (by decide) (by simp;omega);rw[show fh 89 1 8 (.slice h.next 0 0) oh (h.new (.cells 89 1 true false []))=_ from q,en];simp only[ji,OG]at d;have g:=d.one 0 rfl;have k:fV [.I 0,.ei] [(0,1),(1,1)] [(0,.I 100),(1,v)]=some (.agg [.I 100,v]):=by
  rcases d.row 0 rfl with⟨rfl,_⟩|⟨t,u,rfl,_⟩ <;> rfl
 refine⟨r,eh k ?_⟩;refine Vq d (by simp only[eJ,g];rfl) λm w=>⟨⟨fq _ _,bq⟩,m.ld (i+2) (by simpa using hi) rfl,?_⟩
 exact H _ v _ ((e.trans s).trans w) m
theorem zaZ{e b:Ex}{n:Nat}{fr:List Fw}{hq:List Int}(h:e.As b)(c:e = .left n fr hq):∃a,b = .left a fr hq/\a<=n:=by
 subst c
 cases b with
 |AX=>exact h.elim
 |left a d f=>obtain⟨g,rfl,rfl⟩:=h;exact⟨a,rfl,g⟩
 |stuck=>exact h.elim
end
open Un Dm
section
variable{F F':Nat->Prop}{h h':Hp}{cs ds:List Pc}{Q:fD}{u w:U}{vv vb vs wv wb ws rZ oh:V}{hp locals xs:List Int}{lh Th:Nat}{gY:Int}{fuel:Nat}
theorem zaA(g:Good u) (Y:Good w)(Z:eo F h (eQ lh Th [.I 100,oh]::fg (eI .u64) AI hp oh::ds))(J:wW F h u vv vb vs)(K:wW F h w wv wb ws)(o:im (eI .u64) F h locals rZ)(L:locals.length<1000000000)(M:hp.length<1000000)(r:fuel<=1000000)
  (hR:(runM u locals gY fuel (fuel+1) none 0 (yT u hp)).As (runM w locals gY fuel (fuel+1) none 0 (yT w hp)))
  (H:∀F' h',Sn F h F' h'->eo F' h' (eQ lh Th [.I 100,oh]::fg (eI .u64) AI hp oh::ds)->Q (.bool true) h') :
  cP CS kJ [.agg (uC u vv vb vs),.agg (uC w wv wb ws),.ptr lh 0,rZ,.I gY,.I fuel] h Q:=by
 refine GG rfl rfl ?_;unfold qT;refine jH Z J.one λh1 H1 s1=>jH H1 K.one λh2 H2 s2=>?_;generalize h.next=l6 at*;generalize h1.next=l7 at*;refine Tx H2 (i:=2) (j:=3) rfl rfl M λh3 xv lx s3 H3=>Tx H3 (i:=4) (j:=5) rfl rfl M λN yv ly s4 O=>?_;have p:=((s1.trans s2).trans s3).trans s4;have k:∀{G:Nat->Prop} {hh:Hp} {e:Ex} {q:List Int} {a d:Int} {x:V} (b c:Int),ExR G hh e q a d x->gw [V.I a,.I b,.I c,x,.I d]=true:=λb c y=>by
  rcases y with⟨_,_,rfl⟩|⟨_,_,_,_,_,N,_⟩
  ·rfl
  ·simp only[eJ,N.one];rfl
 refine eh (O.pC 5 rfl rfl) ?_;refine XR g (O.perm [2,3,0,1,4,5,6,7] 8 (by decide) (by decide) (by simp)) (J.since p) (o.since p) L (by omega) r λF5 h5 aa a b c d fw s5 H5 ab y=>?_;have A:=p.trans s5;refine gZ H5 rfl rfl (k b c y) λh6 z P=>?_;generalize h5.next=R at*;have m:=A.trans P;refine oF (z.ld 0 rfl rfl) (eh (rN ..) ?_);rcases y with⟨_,rfl,_⟩|⟨n,fr,e1,rfl,rfl,r1,S⟩
 ·refine jj (gz rfl ?_);exact H F5 h6 m (z.perm [7,8] 9 (by decide) (by decide) (by simp))
 refine jj (gh (by simp) (eh (z.pC 5 rfl rfl) ?_));refine XR Y (z.perm [3,4,0,1,2,5,6,7,8] 9 (by decide) (by decide) (by simp)) (K.since m) (o.since m) L (by omega) r λF7 h7 ac a' b' c' d' B T H7 ae s=>?_;have C:=m.trans T;refine gZ H7 rfl rfl (k b' c' s) λt l D=>?_;generalize h7.next=U at*;have E:=C.trans D;obtain⟨W,X,hn⟩:=zaZ hR e1;rcases s with⟨v,_,_⟩|⟨n2,ag,v,rfl,rfl,r2,k2⟩
 ·rw[X]at v;cases v
 rw[X]at v;cases v;have I:(W:Int)<=(n:Int):=by omega
 have p4:fe (.ptr R (0+4)) t=some (.I n):=l.ld 3 rfl rfl;have q4:fe (.ptr U (0+4)) t=some (.I (W:Nat)):=l.ld 0 rfl rfl;have p3:fe (.ptr R (0+3)) t=some fw:=l.ld 3 rfl rfl;have q3:fe (.ptr U (0+3)) t=some B:=l.ld 0 rfl rfl;refine oF (l.ld 0 rfl rfl) (eh (g0 ..) ?_);rw[show((1:Int) == 1)=true from rfl];refine fY (eh pf (fY (eh q4 (fY (eh pf (fY (eh p4 (eh (a:= .bool true) (by rw[mH,Kc,JM I]) ?_))))))));refine fY (eh pf (fY (eh p3 (fY (eh pf (fY (eh q3 (vS ?_))))))));have r1:=((r1.since P).since T).since D;have r2:=r2.since D;refine Wv r1 r2 (by have:=S.1;omega) (λf hf=>by have:=S.2 f hf;omega) ⟨jO _,eh (vx ..) ?_⟩;rw[if_pos rfl];refine fY (eh rfl (fY (eh pn (fY (eh pf (fY (eh (l.ld 4 rfl rfl) (fY (eh rfl (fY (eh pn (fY (eh pf (fY (eh (l.ld 1 rfl rfl) (vS ?_))))))))))))))));refine Qn (l.rdW 5 rfl) (l.rdW 2 rfl) (by omega) ⟨jO _,eh (vx ..) ?_⟩;rw[if_pos rfl];exact H F7 t E (l.perm [8,9] 10 (by decide) (by decide) (by simp))
end
open Un Dm
theorem zdR{C:fu}{f:Nat}{a:List V}{h:Hp}{K:fD}(H:K .undef h):oP (fF false (.bool true)) λb=>oP (gC b (some (f,a))) λy=>qP C y h K:=H
section
variable{F F':Nat->Prop}{h h':Hp}{cs ds:List Pc}{Q:fD}{oh lv:V}{hp ls:List Int}{lh Th:Nat}
theorem TX(c:eo F h cs)(H:∀h' v lx,Sn F h F h'->eo F h' (eQ lx 87 [.I 100,v]::fg (eI .u64) AI [0] v::cs)->Q (.ptr lx 0) h'):cP CS mB [.I 100] h Q:=by
 refine Eh rfl rfl ?_;unfold vR;rw[Bp,fE];obtain⟨a,b⟩:=c.SB (E:=eI .u64) (xs:=[0]) AI (ws:=[.int .u64 0]) (n:=1) rfl ⟨_,[],rfl,⟨rfl,AA⟩,trivial⟩ rfl;have a:eo F (h.new (.cells 89 1 true false [.int .u64 0])) (fg (eI .u64) AI [0] (.slice h.next 0 1)::cs):=a;have b:Sn F h F (h.new (.cells 89 1 true false [.int .u64 0])):=b;refine eh (show _=some (.agg [.I 100,.slice h.next 0 1]) from rfl) ?_;refine jH a rfl λd e f=>H d _ _ (b.trans f) e
theorem Yb(e:eo F h (eQ lh Th [.I 100,oh]::fg (eI .u64) AI hp oh::ds))(I:hp.length<=100){t n:Nat}(ht:t<=7)(U:n<=4)
  (H:∀h' b d r ok,Sn F h F h'->eo F h' (eQ lh Th [.I 100,b]::fg (eI .u64) AI d b::ds)->d.length<=100->uO .u64 r->Q (.tuple [.int .u64 r,.bool ok]) h') :
  cP CS kR [.ptr lh 0,.I t,.I n] h Q:=by
 refine A3 rfl rfl ?_;unfold ru;have K:fe (.ptr lh (0+0)) h=some (.I 100):=e.ld 0 rfl rfl;have p:fe (.ptr lh (0+1)) h=some oh:=e.ld 0 rfl rfl;have cl:=e.len 1 rfl;have f:mI .i64 (100-((hp.length:Nat):Int))=100-((hp.length:Nat):Int):=qj (by simp only[uO];omega);refine eh (kX ..) ?_;rw[KM (show ¬((t:Nat):Int)<0 by omega)];refine nf (by rw[fo,qn,KM (by omega)]) (nf (by rw[fo,kX,KM (by omega)]) (nf (by rw[fo,qn,KM (by omega)]) ?_));refine eh (a:= .bool (decide (100-((hp.length:Nat):Int)<((n+1:Nat):Int)))) ?_ (jj ?_)
 ·simp only[oH,fo,fZ,fM,K,p,cl,nJ,zdY (n:=n) (by omega),qh,f,qn]
 by_cases c:100-((hp.length:Nat):Int)<((n+1:Nat):Int)
 ·exact gz (JM c) (H h oh hp 0 false (Sn.refl _ _) e I AA)
 refine gh (by rw[CU];exact c) ?_;have g:uO .u64 ((hp.length:Nat):Int):=by simp only[uO];omega
 refine oN p (eh cl (eh (by rw[jC,lB,LK g]) (oN p (eh (by rw[jC,lB]) (eh (show ez .shl 89 (.int .u64 (Dl (t:Nat))) (.int .u64 32)=some (.int .u64 _) from rfl) (eh (by rw[jC,lB]) (eh (by rw[nJ,lB]) ?_)))))));generalize j:Dl (IntKind.wrap .u64 (Dl (t:Nat)*2 ^ min 32 IntKind.u64.bits)+Dl (n:Nat))=m;have q:uO .u64 m:=j▸G3 _;clear j;rw[Bp,fE];obtain⟨B,W,L,_,s,M⟩:=e.rU 1 rfl (jP:=8) (zL:=89) (y:=m) (w:=[.int .u64 m]) (ro:=false) ⟨rfl,q⟩ (by decide) (by decide) (by omega);rw[show fh 89 1 8 oh (.slice h.next 0 1) (h.new (.cells 89 1 true false [.int .u64 m]))=_ from L,en];simp only[ji,lO]at s;obtain⟨X,N,_,C,O⟩:=s.st 0 (o:=0+1) (u:=B) rfl (by simp) (s.one 1 rfl);refine eh (fZ _ _) (eh pf ?_);rw[N,en];simp only[ji,lO]at C
 obtain ⟨J,v⟩:∃J:Nat->LP,J=λk l h'=>∃(i:Nat) (b:V) (d:List Int),l=[.ptr lh 0,.I n,.int .u64 ((hp.length:Nat):Int),.I i]/\i+k=n/\Sn F h F h'/\d.length=hp.length+1+i/\
   eo F h' (eQ lh Th [.I 100,b]::fg (eI .u64) AI d b::ds):=⟨_,rfl⟩
 refine zm J (λk Y Z x8 x9 x hi=>?_) (k:=n) ?_;rotate_left
 ·rw[v];exact⟨0,B,_,rfl,by omega,M.trans O,by simp,C⟩
 rw[v]at hi;obtain⟨i,b,d,⟨⟩,hk,D,P,z⟩:=hi;unfold pV;by_cases hi:i<n;rotate_left
 ·exact iQ (H x b d _ true D z (by omega) g)
 refine gK (oN (z.ld 0 rfl rfl) ?_);rw[Bp,fE];obtain⟨E,h4,R,_,A,s4⟩:=z.rU 1 rfl (jP:=8) (zL:=89) (y:=0) (w:=[.int .u64 0]) (ro:=false) ⟨rfl,AA⟩ (by decide) (by decide) (by omega);rw[show fh 89 1 8 b (.slice x.next 0 1) (x.new (.cells 89 1 true false [.int .u64 0]))=_ from R,en];simp only[ji,lO]at A;obtain⟨h5,S,_,G,T⟩:=A.st 0 (o:=0+1) (u:=E) rfl (by simp) (A.one 1 rfl);refine eh (fZ _ _) (eh pf ?_);rw[S,en];simp only[ji,lO]at G;refine fL ⟨k-1,by omega,?_⟩;rw[v];exact⟨i+1,E,_,rfl,by omega,(D.trans s4).trans T,by rw[KC,List.length_singleton];omega,G⟩
theorem zdb(b:eo F h (eQ lh Th [.I 100,oh]::fg (eI .u64) AI hp oh::ds))(d:hp.length<=100){r x:Int}{k:Nat}(e:uO .u64 r)(hx:uO .u64 x)(m:k<=1000)
  (H:∀h' a ok,Sn F h F h'->eo F h' (eQ lh Th [.I 100,oh]::fg (eI .u64) AI a oh::ds)->a.length<=100->Q (.bool ok) h') :
  cP CS mh [.ptr lh 0,.int .u64 r,.I k,.int .u64 x] h Q:=by
 refine Dc rfl rfl ?_;unfold uL;refine eh (g0 ..) ?_;by_cases z:r=0
 ·rw[show(r == 0)=true from Cw.2 z];refine eh (show og (.bool true) _=some (.bool true) from rfl) (O3 (O3 (O3 (zdR (eh (show og (.bool true) _=some (.bool true) from rfl) (jj (gz rfl (H h hp false (Sn.refl _ _) b d))))))))
 rw[show(r == 0)=false from Wc.2 z];refine nf (by rw[fo,kX,KM (by omega)]) (fG (eh rfl (fG (eh rfl (fG (eh rfl (pW (Y7 b (i:=0) (j:=1) rfl rfl (by omega) e λ_=>?_))))))));refine eh (by rw[oH,pP]) (jj ?_);by_cases c:uA hp r % 4294967296<=((k:Nat):Int)
 ·exact gz (JM c) (H h hp false (Sn.refl _ _) b d)
 refine gh (by rw[CU];exact c) (eh (by rw[nJ,lB]) (eh (by rw[jC,lB]) (eh (by rw[nJ,lB]) (Ue b (i:=0) (j:=1) rfl rfl (by omega) (G3 _) hx λf ok g l=>?_))));exact H f _ ok g l (by rw[M4];exact d)
theorem zc3{x:Int}(hx:uO .u64 x)(m:Nat):uO .u64 (x.fdiv (2 ^ m)):=by
 simp only[uO]at*;have a:(0:Int)<2 ^ m:=Int.pow_pos (by decide);rw[Int.fdiv_eq_ediv_of_nonneg _ (Int.le_of_lt a)];exact⟨Int.ediv_nonneg hx.1 (Int.le_of_lt a),Int.le_trans (Int.ediv_le_self _ hx.1) hx.2⟩
theorem TQ(E:eo F h cs)(e:im (eI .u64) F h ls lv)(H:∀h' lx v hp,Sn F h F h'->eo F h' (eQ lx 87 [.I 100,v]::fg (eI .u64) AI hp v::cs)->hp.length<=100->Q (.ptr lx 0) h') :
  cP CS mD [lv] h Q:=by
 refine DU rfl rfl ?_;unfold wE;refine TX E λh1 G lx I K=>?_;obtain⟨J,m⟩:∃J:Nat->LP,J=λk l h'=>∃(i:Nat) (v:V) (hp:List Int),l=[lv,.ptr lx 0,.I i]/\i+k=8/\Sn F h F h'/\hp.length<=100/\eo F h' (eQ lx 87 [.I 100,v]::fg (eI .u64) AI hp v::cs):=⟨_,rfl⟩
 refine A1 J (λk L M N O hi=>?_) (k:=8) ?_;rotate_left
 ·rw[m];exact⟨0,G,_,rfl,rfl,I,by simp,K⟩
 rw[m]at hi;obtain⟨i,P,o,⟨⟩,hk,p,f,C⟩:=hi;unfold rS;have r2:=e.since p;refine eh r2.len (eh (kX ..) (eh (a:= .bool (decide (i<ls.length/\i<8))) ?_ (jj ?_)))
 ·by_cases c:i<ls.length
  ·rw[JM (show((i:Nat):Int)<(ls.length:Nat) by omega),mH,fo,kX];congr 2;exact decide_eq_decide.2 (by omega)
  ·rw[KM (show ¬((i:Nat):Int)<(ls.length:Nat) by omega),Fo,KM λh=>c h.1]
 by_cases c:i<ls.length/\i<8;rotate_left
 ·exact gh (by rw[CU];exact c) (H O lx P o p C f)
 have hx:=iy c.1;generalize ls[i]=x at*;obtain⟨l1,o1,_,p1,p2,p3⟩:=r2.word hx .i64;have b:=p3;simp only[uO]at b;have R:0<=x.tmod 5/\x.tmod 5<=4:=by rw[Int.tmod_eq_emod_of_nonneg b.1];omega
 have S:0<=x.tmod 3/\x.tmod 3<=2:=by rw[Int.tmod_eq_emod_of_nonneg b.1];omega
 obtain⟨n,T⟩:=wBG R.1;obtain⟨t,ht⟩:=wBG S.1;refine gz (JM c) (eh p1 (eh p2 (eh (show ez .rem 89 (.int .u64 x) (.int .u64 5)=some (.int .u64 (x.tmod 5)) from rfl) (eh (show _=some (.I n) by rw[jC,T,Hr (by omega)]) (eh p1 (eh p2 (eh (show ez .rem 89 (.int .u64 x) (.int .u64 3)=some (.int .u64 (x.tmod 3)) from rfl) (eh (show _=some (.I t) by rw[jC,ht,Hr (by omega)]) (eh (show ez .add 3 (.I 5) (.I t)=some (.I ((5+t:Nat):Int)) by rw[nJ,show(5:Int)+(t:Nat)=((5+t:Nat):Int) by omega,Hr (by omega)]) ?_)))))))));refine Yb C f (by omega) (by omega) λh3 q s r ok U W u X=>?_;refine eh (show CN 0 (.tuple [_,_])=_ from rfl) (eh (show CN 1 (.tuple [_,_])=_ from rfl) ?_);have w:=p.trans U;obtain⟨y,d⟩:∃y:Nat->LP,y=λk l h'=>∃(j:Nat) (hp:List Int),l=[lv,.ptr lx 0,.I i,.I n,.int .u64 r,.bool ok,.I j]/\j+k=n/\Sn F h F h'/\hp.length<=100/\eo F h' (eQ lx 87 [.I 100,q]::fg (eI .u64) AI hp q::cs):=⟨_,rfl⟩
 refine Be y (λY L M N x5 x6 x7 x8 Z hi=>?_) (k:=n) ?_;rotate_left
 ·rw[d];exact⟨0,s,rfl,by omega,w,u,W⟩
 rw [d]at hi;obtain⟨j,z,⟨⟩,aa,s4,g,D⟩:=hi;unfold ri;have out:J (k-1) [lv,.ptr lx 0,.I ((i+1:Nat):Int)] Z:=by
  rw[m];exact⟨i+1,q,z,rfl,by omega,s4,g,D⟩
 refine eh (a:= .bool (ok&&decide (j<n))) ?_ (jj ?_)
 ·cases ok
  ·rfl
  ·rw[mH,fo,fo,kX,wBr];congr 2;exact decide_eq_decide.2 (by omega)
 by_cases cj:ok=true/\j<n;rotate_left
 ·refine gh (by rw[vH,CU];exact cj) (fL ⟨k-1,by omega,out⟩)
 obtain⟨l2,o2,_,q1,q2,_⟩:=(e.since s4).word hx .i64;refine gz (by rw[vH,CU];exact cj) (eh q1 (eh q2 (eh (show ez .mul 3 (.I j) (.I 9)=some (.I ((j*9:Nat):Int)) by rw[St,show((j:Nat):Int)*9=((j*9:Nat):Int) by omega,Hr (by omega)]) (eh (show _=some (.int .u64 ((j*9:Nat):Int)) by rw[jC,lB,LK (by simp only[uO];omega)]) (eh (show ez .shr 89 (.int .u64 x) (.int .u64 ((j*9:Nat):Int))=some (.int .u64 (x.fdiv (2 ^ min (j*9) 64))) from rfl) ?_)))));refine zdb D g X (zc3 p3 _) (by omega) λh5 A _ s5 H5 B=>?_;refine fL ⟨Y-1,by omega,?_⟩;rw[d];exact⟨j+1,A,rfl,by omega,s4.trans s5,B,H5⟩
theorem W3(o:eo F h cs)(b:im (eI .u64) F h ls lv)(H:∀F' h' v xs,Sn F h F' h'->eo F' h' cs->im (eI .u64) F' h' xs v->xs.length<=6->Q v h'):cP CS mX [lv] h Q:=by
 refine EE rfl rfl ?_;unfold xV;obtain⟨J,d⟩:∃J:Nat->LP,J=λk l h'=>∃(i:Nat) (v:V) (xs:List Int),l=[lv,v,.I i]/\i+k=6/\Sn F h F h'/\xs.length=i/\eo F h' (fg (eI .u64) AI xs v::cs):=⟨_,rfl⟩
 refine B7 J (λk s v t e hi=>?_) (k:=6) ?_;rotate_left
 ·rw[d];exact⟨0,.ei,[],rfl,rfl,Sn.refl _ _,rfl,o.add (p:=fg (eI .u64) AI [] .ei) .nil λ_ h=>h⟩
 rw[d]at hi;obtain⟨i,_,xs,⟨⟩,u,f,g,n⟩:=hi;unfold sj;have r2:=b.since f;refine eh r2.len (eh (kX ..) (eh (a:= .bool (decide (i<ls.length/\i<6))) ?_ (jj ?_)))
 ·by_cases c:i<ls.length
  ·rw[JM (show((i:Nat):Int)<(ls.length:Nat) by omega),mH,fo,kX];congr 2;exact decide_eq_decide.2 (by omega)
  ·rw[KM (show ¬((i:Nat):Int)<(ls.length:Nat) by omega),Fo,KM λh=>c h.1]
 by_cases c:i<ls.length/\i<6;rotate_left
 ·obtain⟨j,m,r3⟩:=n.kL 0 rfl;exact gh (by rw[CU];exact c) (H _ e v xs (f.trans m) j.tail r3 (by omega))
 have hx:=iy c.1;generalize ls[i]=x at*;obtain⟨l1,z,_,p1,p2,p3⟩:=r2.word hx .i64;refine gz (JM c) (eh p1 (eh p2 ?_));rw[Bp,fE];obtain⟨q,A,r,_,j,m⟩:=n.rU 0 rfl (jP:=8) (zL:=89) (y:=x) (w:=[.int .u64 x]) (ro:=false) ⟨rfl,p3⟩ (by decide) (by decide) (by omega);rw[show fh 89 1 8 v (.slice e.next 0 1) (e.new (.cells 89 1 true false [.int .u64 x]))=_ from r,en];refine fL ⟨k-1,by omega,?_⟩;rw[d];exact⟨i+1,q,_,rfl,by omega,f.trans m,by rw[KC,List.length_singleton,g],j⟩
end
open Un Dm
theorem VT{X:Option V}{K:Bool->V->Prop}(h:oP X (K true)):oP (fF false (.bool false)) λb=>oP (gV b X) (K b):=h
section
variable{u:U}
theorem Zb{n:Nat}(h:n<1000000000):ez .sub 3 (.I n) (.I 1)=some (.I ((n:Nat)-1:Int)):=by
 rw[qh,qj (by simp only[uO];omega)]
theorem zaF{az:List Int}{n:Nat}(a:az.length=n)(v:Nat)(hv:n<=v):mm az v = -1:=by
 unfold mm;rw[Je,OE (by omega)];rfl
end
open Un Dm
section
variable{F F':Nat->Prop}{h h':Hp}{cs ds:List Pc}{Q:fD}{u:U}{vv vb vs wv wb ws:V}
theorem RH{op:Nat}(H:∀b,Q (.bool b) h):cP CS xi [.I op] h Q:=by
 refine M5 rfl rfl ?_;unfold Hj;simp only[fo,g0,VQ,pS];exact H _
theorem UI(o:eo F h cs){x:Vl}{i j:V}(hx:im eN F h x.args i)(k:im eN F h x.args j)(l:x.args.length<=1000000)(H:∀F' h',Sn F h F' h'->eo F' h' cs->Q (.bool true) h'):cP CS qu [.agg (mF x i),.agg (mF x j)] h Q:=by
 refine O0 rfl rfl ?_;unfold Iy;refine jH o (by simp only[mF,eJ,hx.one];rfl) λp q r=>jH q (by simp only[mF,eJ,k.one];rfl) λv d s=>?_;have a:=r.trans s;generalize h.next=l1 at*;generalize p.next=l2 at*;refine oF (d.ld 1 rfl rfl) (oF (d.ld 0 rfl rfl) (eh (rN ..) ?_));rw[show(((x.op:Nat):Int) != ((x.op:Nat):Int))=false by simp];refine fG (eh (d.pC 1 rfl rfl) (VT (eh (d.pC 0 rfl rfl) (pW ?_))));refine KA d (hx.since a) (λ_=>l) λw y xv e m r3=>⟨e.next,m.pC 0 rfl rfl,pW ?_⟩
 refine KA m ((k.since a).since e) (λ_=>l) λt n z s4 c u=>⟨s4.next,pW ?_⟩
 have f:(hK x).length<1000000000:=by
  unfold hK;split
  ·omega
  ·split
   ·simp only[Rt,Mq];omega
   ·split
    ·simp
    ·split <;> simp
 refine A5 (r3.since s4) u f ⟨jO _,nf rfl ?_⟩;have g:=(a.trans e).trans s4;have out:∀b:Bool,b=true->Q (.bool b) n:=λb hb=>hb▸H t n g c.tail.tail;refine jj (gh (by simp) (oF (c.ld 1 rfl rfl) (RH λb=>jj ?_)))
 cases b with
 |true=>exact gz rfl (oF (c.ld 1 rfl rfl) (oF (c.ld 0 rfl rfl) (eh (g0 ..) (out _ (by simp)))))
 | false=>
   refine gh (by simp) (oF (c.ld 1 rfl rfl) (Hm (jj ?_)))
   cases leaves x.op with
   |true=>exact gz rfl (oF (c.ld 1 rfl rfl) (oF (c.ld 0 rfl rfl) (eh (g0 ..) (out _ (by simp)))))
   |false=>exact gh (by simp) (out true rfl)
theorem Rg(o:eo F h cs){x:Bk}{xv i j k l m:V}(hv:im eN F h x.ej xv)(n:im eN F h x.next i)(hp:im eN F h x.fi j) (e:im eN F h x.ej k) (f:im eN F h x.next l) (g:im eN F h x.fi m)(l1:x.ej.length<1000000000)(l2:x.next.length<1000000000)(l3:x.fi.length<1000000000)
  (H:∀F' h',Sn F h F' h'->eo F' h' cs->Q (.bool true) h'):cP CS oG [.agg (km x xv i j),.agg (km x k l m)] h Q:=by
 refine Ms rfl rfl ?_;unfold FL;refine jH o (by simp only[km,eJ,hv.one,n.one,hp.one];rfl) λp q r=>jH q (by simp only[km,eJ,e.one,f.one,g.one];rfl) λd c s=>?_;have b:=r.trans s;generalize h.next=la at*;generalize p.next=lb at*;have a1:fe (.ptr la (0+1)) d=some (.I x.fin):=c.ld 1 rfl rfl;have a2:fe (.ptr la (0+2)) d=some (.I x.cond):=c.ld 1 rfl rfl;have t:fe (.ptr la (0+5)) d=some (.I x.state):=c.ld 1 rfl rfl;have b1:fe (.ptr lb (0+1)) d=some (.I x.fin):=c.ld 0 rfl rfl;have b2:fe (.ptr lb (0+2)) d=some (.I x.cond):=c.ld 0 rfl rfl;have u:fe (.ptr lb (0+5)) d=some (.I x.state):=c.ld 0 rfl rfl;refine oF a1 (oF b1 (eh (rN ..) ?_));rw[show(((x.fin:Nat):Int) != ((x.fin:Nat):Int))=false by simp];refine fG (eh pf (fG (eh (c.ld 1 rfl rfl) (fG (eh pf (fG (eh (c.ld 0 rfl rfl) (pW ?_))))))));refine A5 (hv.since b) (e.since b) l1 (nf rfl ?_);refine fG (eh pf (fG (eh (c.ld 1 rfl rfl) (fG (eh pf (fG (eh (c.ld 0 rfl rfl) (pW ?_))))))));refine A5 (n.since b) (f.since b) l2 (nf rfl ?_);refine fG (eh pf (fG (eh (c.ld 1 rfl rfl) (fG (eh pf (fG (eh (c.ld 0 rfl rfl) (pW ?_))))))));refine A5 (hp.since b) (g.since b) l3 (nf rfl ?_);refine jj (gh (by simp) (oF a1 (eh (rN ..) (eh (a:= .bool true) ?_ (eh (a:= .bool true) ?_ (H F d b c.tail.tail))))))
 ·simp only[pS,fo,fM,a2,b2,g0,beq_self_eq_true,Bool.or_true]
 ·simp only[mH,pS,fo,fM,a1,t,u,rN,g0,beq_self_eq_true,Bool.or_true]
theorem QY(m:eo F h cs){x:Fm}{g i j k:V}(l:im eN F h x.locals g)(hs:im eN F h x.stack i) (d:im eN F h x.locals j) (e:im eN F h x.stack k)(l1:x.locals.length<1000000000)(l2:x.stack.length<1000000000)
  (H:∀F' h',Sn F h F' h'->eo F' h' cs->Q (.bool true) h'):cP CS mL [.agg (Ll x g i),.agg (Ll x j k)] h Q:=by
 refine Kd rfl rfl ?_;unfold CA;refine jH m (by simp only[Ll,eJ,l.one,hs.one];rfl) λn o p=>jH o (by simp only[Ll,eJ,d.one,e.one];rfl) λf c q=>?_;have b:=p.trans q;generalize h.next=la at*;generalize n.next=lb at*;have a1:fe (.ptr la (0+1)) f=some (.I x.pc):=c.ld 1 rfl rfl;have b1:fe (.ptr lb (0+1)) f=some (.I x.pc):=c.ld 0 rfl rfl;refine oF (c.ld 1 rfl rfl) (oF (c.ld 0 rfl rfl) (eh (g0 ..) (eh (a:= .bool true) ?_ ?_)))
 ·rw[beq_self_eq_true,mH];simp only[fo,fM,a1,b1,g0,beq_self_eq_true]
 refine fY (eh pf (fY (eh (c.ld 1 rfl rfl) (fY (eh pf (fY (eh (c.ld 0 rfl rfl) (vS ?_))))))));refine A5 (l.since b) (d.since b) l1 (eh (vx ..) ?_);rw[if_pos rfl];refine fY (eh pf (fY (eh (c.ld 1 rfl rfl) (fY (eh pf (fY (eh (c.ld 0 rfl rfl) (vS ?_))))))));refine A5 (hs.since b) (e.since b) l2 (eh (vx ..) ?_);rw[if_pos rfl];exact H F f b c.tail.tail
theorem V3(g:U4 u)(q:eo F h cs)(b:wW F h u vv vb vs)(m:wW F h u wv wb ws)(H:∀F' h',Sn F h F' h'->eo F' h' cs->Q (.bool true) h') :
  cP CS gS [vv,wv,.func qu [] []] h Q:=by
 refine nH rfl rfl ?_;unfold jJ;have nv:=g.nv;refine eh b.v.len (eh m.v.len (yj (gz rfl (eh b.v.len ?_))));obtain⟨I,c⟩:∃I:Nat->LP,I=λk l h'=>∃(F':Nat->Prop) (i:Nat),l=[wv,.func qu [] [],vv,.I u.ej.length,.I i]/\i+k=u.ej.length/\Sn F h F' h'/\eo F' h' cs:=⟨_,rfl⟩
 refine mU I (λk E G r s t w hi=>?_) (k:=u.ej.length) ?_;rotate_left
 ·rw[c];exact⟨F,0,rfl,by omega,Sn.refl _ _,q⟩
 rw[c]at hi;obtain⟨y,i,⟨⟩,J,a,n⟩:=hi;unfold jt;by_cases hi:i<u.ej.length;rotate_left
 ·exact iQ (H y w a n)
 have hx:=iy hi;generalize u.ej[i]=x at*;have d:x.args.length<=1000000:=KG (g.args i x hx) (by decide);obtain⟨l1,K,L,_,p1,p2,o,_⟩:=(b.since a).val hx;refine gK (eh p1 (eh p2 ?_));refine gZ n rfl rfl (by simp only[mF,eJ,o.one];rfl) λM z e=>?_;obtain⟨l2,N,O,_,A,B,p,_⟩:=((m.since a).since e).val hx;refine eh A (eh B ?_);refine gZ z rfl rfl (by simp only[mF,eJ,p.one];rfl) λP f j=>?_;refine eh (f.pC 1 rfl rfl) (eh (f.pC 0 rfl rfl) ?_);simp only[yN,AP,OG,wBo];refine UI f ((o.since e).since j) (p.since j) d λC R s4 D=>?_;refine eh rfl (jj (gh (by simp) (fL ⟨k-1,by omega,?_⟩)));rw[c];exact⟨C,i+1,rfl,by omega,((a.trans e).trans j).trans s4,D.tail.tail⟩
theorem SG(g:Good u)(r:eo F h cs)(f:wW F h u vv vb vs)(n:wW F h u wv wb ws)(H:∀F' h',Sn F h F' h'->eo F' h' cs->Q (.bool true) h') :
  cP CS gG [vb,wb,.func oG [] []] h Q:=by
 refine lV rfl rfl ?_;unfold jh;have nb:=g.nb;refine eh f.b.len (eh n.b.len (yj (gz rfl (eh f.b.len ?_))));obtain⟨I,j⟩:∃I:Nat->LP,I=λk l h'=>∃(F':Nat->Prop) (i:Nat),l=[wb,.func oG [] [],vb,.I u.blocks.length,.I i]/\i+k=u.blocks.length/\Sn F h F' h'/\eo F' h' cs:=⟨_,rfl⟩
 refine lg I (λk E G s t v w hi=>?_) (k:=u.blocks.length) ?_;rotate_left
 ·rw[j];exact⟨F,0,rfl,by omega,Sn.refl _ _,r⟩
 rw[j]at hi;obtain⟨x,i,⟨⟩,J,e,o⟩:=hi;unfold iY;by_cases hi:i<u.blocks.length;rotate_left
 ·exact iQ (H x w e o)
 have c:=iy hi;generalize u.blocks[i]=B at*;have K:=AK g c;have L:=Ei g c;have M:=AU g c;obtain⟨l1,N,xv,O,P,_,p1,p2,r1,r2,r3,_⟩:=(f.since e).pE c;refine gK (eh p1 (eh p2 ?_));refine gZ o rfl rfl (by simp only[km,eJ,r1.one,r2.one,r3.one];rfl) λR y d=>?_;obtain⟨l2,S,T,U,V,_,z,A,p,q,t3,_⟩:=((n.since e).since d).pE c;refine eh z (eh A ?_);refine gZ y rfl rfl (by simp only[km,eJ,p.one,q.one,t3.one];rfl) λW m a=>?_;refine eh (m.pC 1 rfl rfl) (eh (m.pC 0 rfl rfl) ?_);simp only[yN,AP,OG,wBo];refine Rg m ((r1.since d).since a) ((r2.since d).since a) ((r3.since d).since a) (p.since a) (q.since a) (t3.since a) (by omega) (by omega) (by omega) λC X s4 D=>?_;refine eh rfl (jj (gh (by simp) (fL ⟨k-1,by omega,?_⟩)));rw[j];exact⟨C,i+1,rfl,by omega,((e.trans d).trans a).trans s4,D.tail.tail⟩
theorem RA(r:eo F h cs){fs:List Fm}{a b:V}(g:im eF F h fs a)(n:im eF F h fs b)(E:fs.length<=1000000)(s:∀f∈fs,f.locals.length<=1000/\f.stack.length<=1000)(H:∀F' h',Sn F h F' h'->eo F' h' cs->Q (.bool true) h') :
  cP CS gD [a,b,.func mL [] []] h Q:=by
 refine lW rfl rfl ?_;unfold je;refine eh g.len (eh n.len (yj (gz rfl (eh g.len ?_))));obtain⟨I,j⟩:∃I:Nat->LP,I=λk l h'=>∃(F':Nat->Prop) (i:Nat),l=[b,.func mL [] [],a,.I fs.length,.I i]/\i+k=fs.length/\Sn F h F' h'/\eo F' h' cs:=⟨_,rfl⟩
 refine kY I (λk G J t u v w hi=>?_) (k:=fs.length) ?_;rotate_left
 ·rw[j];exact⟨F,0,rfl,by omega,Sn.refl _ _,r⟩
 rw[j]at hi;obtain⟨y,i,⟨⟩,K,d,o⟩:=hi;unfold iT;by_cases hi:i<fs.length;rotate_left
 ·exact iQ (H y w d o)
 have hx:=iy hi;obtain⟨L,M⟩:=s _ (AY hi);generalize fs[i]=x at*;obtain⟨l1,N,O,P,_,p1,p2,r1,r2⟩:=(g.since d).pG hx;refine gK (eh p1 (eh p2 ?_));refine gZ o rfl rfl (by simp only[Ll,eJ,r1.one,r2.one];rfl) λR z e=>?_;obtain⟨l2,S,T,U,_,A,B,p,q⟩:=((n.since d).since e).pG hx;refine eh A (eh B ?_);refine gZ z rfl rfl (by simp only[Ll,eJ,p.one,q.one];rfl) λW m c=>?_;refine eh (m.pC 1 rfl rfl) (eh (m.pC 0 rfl rfl) ?_);simp only[yN,AP,OG,wBo];refine QY m ((r1.since e).since c) ((r2.since e).since c) (p.since c) (q.since c) (by omega) (by omega) λC X s4 D=>?_;refine eh rfl (jj (gh (by simp) (fL ⟨k-1,by omega,?_⟩)));rw[j];exact⟨C,i+1,rfl,by omega,((d.trans e).trans c).trans s4,D.tail.tail⟩
theorem RG(g:Good u)(w:eo F h cs)(e:wW F h u vv vb vs)(r:wW F h u wv wb ws)(H:∀F' h',Sn F h F' h'->eo F' h' cs->Q (.bool true) h') :
  cP CS gI [vs,ws,.func qc [] []] h Q:=by
 refine lY rfl rfl ?_;unfold jf;have ns:=g.ns;refine eh e.s.len (eh r.s.len (yj (gz rfl (eh e.s.len ?_))));obtain⟨I,j⟩:∃I:Nat->LP,I=λk l h'=>∃(F':Nat->Prop) (i:Nat),l=[ws,.func qc [] [],vs,.I u.ev.length,.I i]/\i+k=u.ev.length/\Sn F h F' h'/\eo F' h' cs:=⟨_,rfl⟩
 refine kZ I (λk P R x y z A hi=>?_) (k:=u.ev.length) ?_;rotate_left
 ·rw[j];exact⟨F,0,rfl,by omega,Sn.refl _ _,w⟩
 rw[j]at hi;obtain⟨B,i,⟨⟩,S,d,t⟩:=hi;unfold iX;by_cases hi:i<u.ev.length;rotate_left
 ·exact iQ (H B A d t)
 have c:=iy hi;generalize u.ev[i]=fs at*;obtain⟨_,C,D⟩:=g.st i fs c;obtain⟨l1,T,U,_,p1,p2,_,r1⟩:=(e.since d).st c;refine gK (eh p1 (eh p2 ?_));refine gZ t rfl rfl (by simp only[eJ,r1.one];rfl) λV E m=>?_;obtain⟨l2,W,X,_,G,J,_,v⟩:=((r.since d).since m).st c;refine eh G (eh J ?_);refine gZ E rfl rfl (by simp only[eJ,v.one];rfl) λY n o=>?_;refine eh (n.pC 1 rfl rfl) (eh (n.pC 0 rfl rfl) ?_);simp only[yN,AP,OG,wBo];refine Mo rfl rfl ?_;unfold FP;have r3:=(r1.since m).since o;have t3:=v.since o;refine jH n (by simp only[eJ,r3.one];rfl) λZ K s4=>jH K (by simp only[eJ,t3.one];rfl) λh5 p q=>?_;refine oF (p.ld 1 rfl rfl) (oF (p.ld 0 rfl rfl) ?_);refine RA p ((r3.since s4).since q) ((t3.since s4).since q) (by omega) (λf L=>by obtain⟨a,b,_⟩:=D f L;omega) λM h6 N O=>?_;refine eh rfl (jj (gh (by simp) (fL ⟨k-1,by omega,?_⟩)));rw[j];exact⟨M,i+1,rfl,by omega,((((d.trans m).trans o).trans s4).trans q).trans N,O.tail.tail.tail.tail⟩
theorem zbj(g:Good u)(m:OV u)(n:eo F h cs)(f:wW F h u vv vb vs)(i:wW F h u wv wb ws)(H:∀F' h',Sn F h F' h'->eo F' h' cs->Q (.bool true) h') :
  cP CS E2 [.agg (uC u vv vb vs),.agg (uC u wv wb ws)] h Q:=by
 refine TP rfl rfl ?_;unfold NT;refine jH n f.one λo p q=>jH p i.one λl b r=>?_;have c:=q.trans r;generalize h.next=la at*;generalize o.next=lb at*;have a1:fe (.ptr la (0+1)) l=some (.I u.pc):=b.ld 1 rfl rfl;have b1:fe (.ptr lb (0+1)) l=some (.I u.pc):=b.ld 0 rfl rfl;refine oF (b.ld 1 rfl rfl) (oF (b.ld 0 rfl rfl) (eh (g0 ..) (eh (a:= .bool true) ?_ ?_)))
 ·rw[beq_self_eq_true,mH];simp only[fo,fM,a1,b1,g0,beq_self_eq_true]
 refine fY (eh pf (fY (eh (b.ld 1 rfl rfl) (fY (eh pf (fY (eh (b.ld 0 rfl rfl) (vS ?_))))))));refine V3 (Fe g m) b (f.since c) (i.since c) λy z s j=>eh (vx ..) ?_;rw[if_pos rfl];have d:=c.trans s;refine fY (eh pf (fY (eh (j.ld 1 rfl rfl) (fY (eh pf (fY (eh (j.ld 0 rfl rfl) (vS ?_))))))));refine SG g j (f.since d) (i.since d) λA B s4 k=>eh (vx ..) ?_;rw[if_pos rfl];have e:=d.trans s4;refine fY (eh pf (fY (eh (k.ld 1 rfl rfl) (fY (eh pf (fY (eh (k.ld 0 rfl rfl) (vS ?_))))))));refine RG g k (f.since e) (i.since e) λt v w x=>eh (vx ..) ?_;rw[if_pos rfl];exact H t v (e.trans w) x.tail.tail
end
open Un Dm
section
variable{F F':Nat->Prop}{h h':Hp}{cs ds:List Pc}{Q:fD}{u:U}{vv vb vs:V}
theorem M0(H:Q (.bool true) h):cP CS nj [] h Q:=by
 obtain⟨fn,c,a,hb⟩:=NH;exact cP.known a hb (show CS.K nj [] h=some (.bool true) from rfl) rfl rfl H
theorem Vd{ls t:List Int}{gY:Int}{lv rZ:V}{b:Bool}{lu:Nat}(g:Good u)(a0:OV u)(hb:b=false->∀(v:Nat)(x:Vl),u.ej[v]? =some x->x.op≠19/\x.op≠20)(C:eo F h (eQ lu 30 (uC u vv vb vs)::cs))(D:wW F h u vv vb vs)(J:im (eI .u64) F h ls lv)(K:im (eI .u64) F h t rZ)(H:∀h',Q (.bool true) h') :
  jQ CS Q [lv,rZ,.I gY,.bool b,.ptr lu 0] h:=by
 refine yP ?_;unfold pO;have nv:=g.nv;obtain⟨I,L⟩:∃I:Nat->LP,I=λk l h'=>h' = h/\∃i:Nat,l=[lv,rZ,.I gY,.bool b,.ptr lu 0,.I (i:Nat)]/\i+k=u.ej.length/\∀(v:Nat) (x:Vl),v<i->u.ej[v]? =some x->x.op≠19/\x.op≠20:=⟨_,rfl⟩
 refine yR I (λk x1 x2 x3 x4 aa ab h1 hi=>?_) (k:=u.ej.length) ?_;rotate_left
 ·rw[L];exact⟨rfl,0,rfl,by omega,λv x hv=>by omega⟩
 rw[L]at hi;obtain⟨rfl,i,⟨⟩,hk,z⟩:=hi;unfold pK;refine oF (C.ld 0 rfl rfl) (eh D.v.len (eh (kX ..) ?_));by_cases hi:i<u.ej.length/\b=true
 ·obtain⟨hi,rfl⟩:=hi;refine eh (a:= .bool true) (by rw[j8,JM (by omega)];rfl) (jj (gz rfl ?_));have hx:=iy hi;generalize u.ej[i]=x at*;obtain⟨l1,o1,xa,_,p1,p2,r1,pa⟩:=D.val hx;have pop:=pa.op;have a1:fe (.ptr lu (0+2)) h1=some vv:=C.ld 0 rfl rfl;refine oF a1 (eh p1 (oF pop (eh (g0 ..) ?_)));refine eh (a:= .bool (((x.op:Nat):Int) == 19 ||((x.op:Nat):Int) == 20)) (by simp only[fo,fM,a1,p1,pop,g0,pS]) (jj ?_);by_cases c:x.op=19\/x.op=20
  ·exact gz (by simp only[KO,Cw];omega) (M0 (H _))
  refine gh (by simp only[KO,Cw];omega) (fL ⟨k-1,by omega,?_⟩);rw[L];refine⟨rfl,i+1,rfl,by omega,λv y hv M=>?_⟩;by_cases e:v=i
  ·subst e;rw[hx]at M;cases M;exact⟨λe=>c (.inl e),λe=>c (.inr e)⟩
  ·exact z v y (by omega) M
 ·refine eh (a:= .bool false) ?_ (jj (gh (by simp) ?_))
  ·by_cases c:i<u.ej.length
   ·cases b with
    |true=>exact absurd ⟨c,rfl⟩ hi
    |false=>rw[j8];simp
   ·rw[j8,KM (by omega)];rfl
  have N:∀(v:Nat) (x:Vl),u.ej[v]? =some x->x.op≠19/\x.op≠20:=λv x hx=>by
   cases b with
   |false=>exact hb rfl v x hx
   |true=>exact z v x (by have:=(ki.1 hx).1;have:¬i<u.ej.length:=λc=>hi ⟨c,rfl⟩;omega) hx
  refine eh (C.pC 0 rfl rfl) ?_;refine Qf (Fe g a0) C D λF4 h4 wv wb ws xs bs ss fa fn fl s4 hc hb hs H4=>?_;obtain⟨G,H5,s5,Z⟩:=H4.SC hc hb hs;refine gZ H5 rfl rfl Z.one λh6 H6 s6=>?_;generalize h4.next=lc at*;refine eh (H6.pC 1 rfl rfl) ?_;have A:=(s4.trans s5).trans s6;have u6:=D.since A;refine Wd g a0 H6 u6 λF7 h7 az xv xb ac O H7 d P R=>?_;have n:=zaF P;have g2:=Wr g (d.fit g n);have hR:=λlocals gY heap=>Yu g d n N locals gY 1500 1501 heap;generalize jo u (mm az)=w at*;refine gZ H7 rfl rfl R.one λh8 S B=>?_;generalize h7.next=lw at*;have T:=(A.trans O).trans B;have u8:=(u6.since O).since B;have c8:=((Z.since s6).since O).since B;refine M0 (VX (VT (eh (S.pC 2 rfl rfl) (VT (eh (S.pC 1 rfl rfl) (pW ?_))))));refine zbj g a0 S u8 c8 λF9 h9 E H9=>nf rfl (VT (eh (H9.pC 0 rfl rfl) (pW ?_)));refine SI g2 H9 ((R.since B).since E) λae ag p q=>nf rfl ?_;have o:=(T.trans E).trans p;have U:=(u8.since E).since p;have W:=((R.since B).since E).since p;refine jj (gh (by simp) (eh (q.pC 2 rfl rfl) (eh (q.pC 0 rfl rfl) ?_)));refine TQ q (J.since o) λah lx oh hp j r ai=>⟨j.next,r.pC 2 rfl rfl,r.pC 4 rfl rfl,?_⟩
  refine W3 r ((K.since o).since j) λaj ak yv ys s f r12 al=>⟨s.next,f.pC 2 rfl rfl,f.pC 4 rfl rfl,?_⟩
  refine Mt (m:=9) (by decide) (by decide) ⟨jO _,eh (Zb (by have:=Ha gY (m:=9) (by decide);omega)) ⟨f.pC 2 rfl rfl,f.pC 4 rfl rfl,?_⟩⟩;refine zaA (fuel:=1500) g g2 f ((U.since j).since s) ((W.since j).since s) r12 (by omega) (by omega) (by decide) (hR _ _ _) λam X Y an=>⟨Y.next,?_⟩
  exact H X
theorem OW{ops a ls f:List Int}{np gY:Int}{vo i lv rZ:V}{b:Bool}(C:eo F h cs)(j:im (eI .i64) F h ops vo)(k:im (eI .i64) F h a i)(l:im (eI .u64) F h ls lv)(m:im (eI .u64) F h f rZ)(D:ops.length<9223372036854775808)(H:∀h',Q (.bool true) h') :
  cP CS ni [.agg [vo,i,.I np],lv,rZ,.I gY,.bool b] h Q:=by
 refine Ax rfl rfl ?_;unfold qI;refine jH C (by simp only[eJ,j.one,k.one];rfl) λS t p=>?_;refine eh (t.pC 0 rfl rfl) ?_;refine zaR t (j.since p) (k.since p) D λE w z G I J=>?_;have g:Good (IB ops a np):=Wg ops a np;have a0:OV (IB ops a np):=λv x hx=>KG (zaU ops a np x (DG hx)) (by decide);generalize IB ops a np=u at*;obtain⟨vv,vb,vs,rfl,K,z,L⟩:=J;have q:wW E w u vv vb vs:=⟨K,z,L⟩
 refine gZ I.tail rfl rfl q.one λT r s=>?_;generalize w.next=lu at*;have d:=(p.trans G).trans s;refine rP ?_
 cases b with
 |true=>exact gz rfl (Vd g a0 (λe=>nomatch e) r (q.since s) (l.since d) (m.since d) H)
 | false=>
   refine gh (by simp) (eh (r.pC 0 rfl rfl) ?_);refine zbl g r (q.since s) λU W xv M s4 N A=>?_;obtain⟨X,O,_,P,B⟩:=N.U1 0 (n:=5) (ws:=uC (Ce u) xv M vs) rfl rfl rfl A.one;rw[O,en];have o:=(d.trans s4).trans B;have a1:OV (Ce u):=λv x hx=>by
     rcases qD hx with hx|rfl
     ·exact a0 v x hx
     ·exact Mj _
   refine Vd (WC g) a1 (λ_ v y R=>?_) P (A.since B) (l.since o) (m.since o) H;obtain⟨x,hx,rfl⟩:=Nj R;by_cases c:x.op=19\/x.op=20
   ·rw[Lh c];exact⟨(by decide:(2:Nat)≠19),(by decide:(2:Nat)≠20)⟩
   ·rw[G6 c];exact⟨λe=>c (.inl e),λe=>c (.inr e)⟩
end
