/- Parts. -/
import Derived.Test.YtflkbfabonggkaaGreatDoorM43
import Derived.Test.YtflkbfabonggkaaGreatDoorM40
import Derived.Test.YtflkbfabonggkaaGreatDoorM51
import Derived.Test.YtflkbfabonggkaaGreatDoorM46
set_option maxHeartbeats 4000000
namespace Go.Proofs.YtflkbfabonggkaaGreatDoor.Hx
open Un Dm
structure RdW (h:Hp) (xs:List Int) (v:V):Prop where
 len:fE v=some (.I xs.length)
 at_:∀(k:Nat) (x:Int),xs[k]? =some x->∃l o,gz 1 v (.I k)=some (.ptr l o)/\ez (.ptr l o) h=some (.int .u64 x)
section
variable{F F':Nat->Prop}{h h':Hp}{cs ds:List Pc}{Q:ft}{u w:U}{vv vb vs wv wb ws vQ rm ng:V}{hp locals xs:List Int}{lh Th:Nat}{gw:Int}{fuel:Nat}
theorem iy.rdW{v:V}(a:iy (eI .u64) F h xs v):RdW h xs v:=⟨a.len,λk x b=>let⟨l,o,_,c,d,_⟩:=a.word b .i64;⟨l,o,c,d⟩⟩
theorem ej.rdW{ty:Nat}{v:V}(H:ej F h cs)(i:Nat)(hi:cs[i]? =some (eJ (eI .u64) ty xs v)):RdW h xs v:=⟨H.len i hi,λk x a=>let⟨l,o,b,c,_⟩:=H.Lw i hi a .i64;⟨l,o,b,c⟩⟩
theorem Sc{a b:V}(c:RdW h xs a)(d:RdW h xs b)(g:xs.length<1000000000)(H:Q (.bool true) h):cP CS iR [a,b] h Q:=by
 refine D1 rfl rfl ?_;unfold wH;refine ed c.len (ed d.len (yg (gi rfl ?_)));refine Be (λk l h'=>∃i:Nat,l=[a,b,.I (i:Nat)]/\i+k=xs.length/\h' = h) ?_ (k:=xs.length) ⟨0,rfl,by omega,rfl⟩;rintro k _ _ _ h ⟨i,⟨⟩,hk,rfl⟩;unfold rq;refine ed c.len ?_;by_cases hi:i<xs.length
 ·obtain⟨l1,j,p1,p2⟩:=c.at_ i _ (gW hi);obtain⟨l2,m,e,f⟩:=d.at_ i _ (gW hi);refine gG (ed p1 (ed p2 (ed e (ed f (yg (gi rfl ?_))))));exact fL ⟨k-1,by omega,i+1,rfl,by omega,rfl⟩
 ·exact iJ H
theorem PK{a b:V}(c:RdW h xs a)(d:RdW h xs b)(g:xs.length<1000000000)(H:Q (.bool true) h):cP CS jz [a,b] h Q:=by
 refine Bb rfl rfl ?_;unfold tf;refine ed c.len (ed d.len (yg (gi rfl ?_)));refine zh (λk l h'=>∃i:Nat,l=[a,b,.I (i:Nat)]/\i+k=xs.length/\h' = h) ?_ (k:=xs.length) ⟨0,rfl,by omega,rfl⟩;rintro k _ _ _ h ⟨i,⟨⟩,hk,rfl⟩;unfold pA;refine ed c.len ?_;by_cases hi:i<xs.length
 ·obtain⟨l1,j,p1,p2⟩:=c.at_ i _ (gW hi);obtain⟨l2,m,e,f⟩:=d.at_ i _ (gW hi);refine gG (ed p1 (ed p2 (ed e (ed f (yg (gi rfl ?_))))));exact fL ⟨k-1,by omega,i+1,rfl,by omega,rfl⟩
 ·exact iJ H
theorem iy.fw{fs:List Fw}{f:V}(a:iy eFw F h fs f){i:Nat}{x:Fw}(d:fs[i]? =some x) :
  ∃l o a b,gz 4 f (.I i)=some (.ptr l o)/\ez (.ptr l (o+0)) h=some (.I x.func)/\ez (.ptr l (o+1)) h=some (.I x.pc)/\ez (.ptr l (o+2)) h=some a/\ez (.ptr l (o+3)) h=some b/\iy (eI .u64) F h x.locals a/\iy (eI .u64) F h x.stack b:=by
 obtain⟨hi,rfl⟩:=jP.1 d;obtain⟨l,o,w,_,e,_,⟨a,b,rfl,g,j⟩,c⟩:=a.ix hi .i64;exact⟨l,o,a,b,e,c 0 _ rfl,c 1 _ rfl,c 2 _ rfl,c 3 _ rfl,g,j⟩
theorem WI{fr:List Fw}{a b:V}(d:iy eFw F h fr a)(e:iy eFw F h fr b)(B:fr.length<1000000000)(j:∀f∈fr,f.locals.length<1000000000/\f.stack.length<1000000000)(H:Q (.bool true) h):cP CS iY [a,b] h Q:=by
 refine Fy rfl rfl ?_;unfold pP;refine ed d.len (ed e.len (yg (gi rfl ?_)));refine Cb (λk l m n h'=>∃i:Nat,l=a/\m=b/\n = .I (i:Nat)/\i+k=fr.length/\h' = h) ?_ (k:=fr.length) ⟨0,rfl,rfl,rfl,by omega,rfl⟩;rintro k _ _ _ h ⟨i,rfl,rfl,rfl,hk,rfl⟩;unfold nW;refine ed d.len ?_;by_cases hi:i<fr.length;rotate_left
 ·exact iJ H
 have g:=gW hi;obtain⟨o,p⟩:=j _ (AW hi);generalize fr[i]=x at*;obtain⟨l1,C,la,sa,p1,p2,p3,q,r,s,t⟩:=d.fw g;obtain⟨l2,D,lb,sb,c,u,v,w,y,z,A⟩:=e.fw g;refine gG (ed p1 (oF p2 (ed c (oF u (ed (tP ..) ?_)))));rw[show(x.func != x.func)=false by simp];refine fD (ed rfl (fD (ed rfl (fD (ed p1 (fD (ed pf (fD (ed p3 (fD (ed rfl (fD (ed rfl (fD (ed c (fD (ed pf (fD (ed v ?_)))))))))))))))))));refine pQ (by rw[tP,show(x.pc != x.pc)=false by simp]) ?_;refine fD (ed rfl (fD (ed rfl (fD (ed p1 (fD (ed pf (fD (ed q (fD (ed rfl (fD (ed rfl (fD (ed c (fD (ed pf (fD (ed w (yd ?_))))))))))))))))))));refine Sc s.rdW z.rdW o ⟨iZ _,pQ rfl ?_⟩;refine fD (ed rfl (fD (ed rfl (fD (ed p1 (fD (ed pf (fD (ed r (fD (ed rfl (fD (ed rfl (fD (ed c (fD (ed pf (fD (ed y (yd ?_))))))))))))))))))));refine Sc t.rdW A.rdW p ⟨iZ _,pQ rfl ?_⟩;refine iO (fU (by simp) (fL ⟨k-1,by omega,i+1,rfl,rfl,rfl,by omega,rfl⟩))
theorem SX(l:ej F h cs){i j:Nat}(hi:cs[i]? =some (ev lh Th [.I 100,ng]))(o:cs[j]? =some (eJ (eI .u64) Ac hp ng))(x:hp.length<1000000)
  (H:∀h' v lx,Sn F h F h'->ej F h' (ev lx 82 [.I 100,v]::eJ (eI .u64) Ac hp v::cs)->Q (.ptr lx 0) h') :
  cP CS iF [.ptr lh 0] h Q:=by
 refine A9 rfl rfl ?_;unfold tj;have p:ez (.ptr lh (0+0)) h=some (.I 100):=l.ld i hi rfl;refine oN p ?_;rw[Gv,gR];obtain⟨b,e⟩:=l.V6 (E:=eI .u64) (xs:=[]) Ac (ws:=[]) (n:=0) rfl trivial rfl;have b:ej F (h.new (.cells 59 1 true false [])) (eJ (eI .u64) Ac [] (.slice h.next 0 0)::cs):=b;have e:Sn F h F (h.new (.cells 59 1 true false [])):=e;have c:∀{a:Pc},(a::cs)[i+1]? =some (ev lh Th [.I 100,ng]):=λ{_}=>by simpa using hi
 have f:∀{a:Pc},(a::cs)[j+1]? =some (eJ (eI .u64) Ac hp ng):=λ{_}=>by simpa using o
 refine oN (b.ld (i+1) c rfl) ⟨⟨fg _ _,bq⟩,b.ld (i+1) c rfl,?_⟩;obtain⟨v,y,q,r,d,s⟩:=b.zaU 0 (j+1) rfl f (jW:=8) (by decide) (by decide) (by simp;omega);rw[show eR 59 1 8 (.slice h.next 0 0) ng (h.new (.cells 59 1 true false []))=_ from q,ei];simp only[je,SO]at d;have g:=d.one 0 rfl;have k:fV [.I 0,.ee] [(0,1),(1,1)] [(0,.I 100),(1,v)]=some (.agg [.I 100,v]):=by
  rcases d.row 0 rfl with⟨rfl,_⟩|⟨t,u,rfl,_⟩ <;> rfl
 refine⟨r,ed k ?_⟩;refine zaF d (by simp only[ey,g];rfl) λm w=>⟨⟨fg _ _,bq⟩,m.ld (i+2) (by simpa using hi) rfl,?_⟩
 exact H _ v _ ((e.trans s).trans w) m
theorem Z7{e e':Ex}{n:Nat}{fr:List Fw}{hq:List Int}(h:e.As e')(b:e = .left n fr hq):∃a,e' = .left a fr hq/\a<=n:=by
 subst b
 cases e' with
 |zB=>exact h.elim
 |left a c d=>obtain⟨f,rfl,rfl⟩:=h;exact⟨a,rfl,f⟩
 |stuck=>exact h.elim
end
open Un Dm
section
variable{F F':Nat->Prop}{h h':Hp}{cs ds:List Pc}{Q:ft}{u w:U}{vv vb vs wv wb ws vQ ng:V}{hp locals xs:List Int}{lh Th:Nat}{gw:Int}{fuel:Nat}
theorem zbi(g:Good u) (Y:Good w)(Z:ej F h (ev lh Th [.I 100,ng]::eJ (eI .u64) Ac hp ng::ds))(K:DA F h u vv vb vs)(L:DA F h w wv wb ws)(o:iy (eI .u64) F h locals vQ)(M:locals.length<1000000000)(N:hp.length<1000000)(r:fuel<=1000000)
  (hR:(runM u locals gw fuel (fuel+1) none 0 (pK u hp)).As (runM w locals gw fuel (fuel+1) none 0 (pK w hp)))
  (H:∀F' h',Sn F h F' h'->ej F' h' (ev lh Th [.I 100,ng]::eJ (eI .u64) Ac hp ng::ds)->Q (.bool true) h') :
  cP CS j4 [.agg (uC u vv vb vs),.agg (uC w wv wb ws),.ptr lh 0,vQ,.I gw,.I fuel] h Q:=by
 refine GX rfl rfl ?_;unfold qH;refine ml Z K.one λh1 H1 s1=>ml H1 L.one λh2 H2 s2=>?_;generalize h.next=l6 at*;generalize h1.next=l7 at*;refine SX H2 (i:=2) (j:=3) rfl rfl N λh3 xv lx s3 H3=>SX H3 (i:=4) (j:=5) rfl rfl N λO yv ly s4 P=>?_;have p:=((s1.trans s2).trans s3).trans s4;have k:∀{G:Nat->Prop} {hh:Hp} {e:Ex} {q:List Int} {a d:Int} {x:V} (b c:Int),ExR G hh e q a d x->gj [V.I a,.I b,.I c,x,.I d]=true:=λb c y=>by
  rcases y with⟨_,_,rfl⟩|⟨_,_,_,_,_,O,_⟩
  ·rfl
  ·simp only[ey,O.one];rfl
 refine ed (P.zb 5 rfl rfl) ?_;refine XD g (P.perm [2,3,0,1,4,5,6,7] 8 (by decide) (by decide) (by simp)) (K.since p) (o.since p) M (by omega) r λF5 h5 aa a b c d fw s5 H5 ab y=>?_;have A:=p.trans s5;refine ir H5 rfl rfl (k b c y) λh6 z R=>?_;generalize h5.next=S at*;have m:=A.trans R;refine oF (z.ld 0 rfl rfl) (ed (tP ..) ?_);rcases y with⟨_,rfl,_⟩|⟨n,fr,e1,rfl,rfl,r1,T⟩
 ·refine iO (gi rfl ?_);exact H F5 h6 m (z.perm [7,8] 9 (by decide) (by decide) (by simp))
 refine iO (fU (by simp) (ed (z.zb 5 rfl rfl) ?_));refine XD Y (z.perm [3,4,0,1,2,5,6,7,8] 9 (by decide) (by decide) (by simp)) (L.since m) (o.since m) M (by omega) r λF7 h7 ac a' b' c' d' B U H7 ae s=>?_;have C:=m.trans U;refine ir H7 rfl rfl (k b' c' s) λt l D=>?_;generalize h7.next=W at*;have E:=C.trans D;obtain⟨X,e',hn⟩:=Z7 hR e1;rcases s with⟨v,_,_⟩|⟨n2,ag,v,rfl,rfl,I,k2⟩
 ·rw[e']at v;cases v
 rw[e']at v;cases v;have J:(X:Int)<=(n:Int):=by omega
 have p4:ez (.ptr S (0+4)) t=some (.I n):=l.ld 3 rfl rfl;have q4:ez (.ptr W (0+4)) t=some (.I (X:Nat)):=l.ld 0 rfl rfl;have p3:ez (.ptr S (0+3)) t=some fw:=l.ld 3 rfl rfl;have q3:ez (.ptr W (0+3)) t=some B:=l.ld 0 rfl rfl;refine oF (l.ld 0 rfl rfl) (ed (ik ..) ?_);rw[show((1:Int) == 1)=true from rfl];refine gq (ed pf (gq (ed q4 (gq (ed pf (gq (ed p4 (ed (a:= .bool true) (by rw[oS,Ki,Kt J]) ?_))))))));refine gq (ed pf (gq (ed p3 (gq (ed pf (gq (ed q3 (wS ?_))))))));have r1:=((r1.since R).since U).since D;have I:=I.since D;refine WI r1 I (by have:=T.1;omega) (λf hf=>by have:=T.2 f hf;omega) ⟨iZ _,ed (Eb ..) ?_⟩;rw[if_pos rfl];refine gq (ed rfl (gq (ed pn (gq (ed pf (gq (ed (l.ld 4 rfl rfl) (gq (ed rfl (gq (ed pn (gq (ed pf (gq (ed (l.ld 1 rfl rfl) (wS ?_))))))))))))))));refine PK (l.rdW 5 rfl) (l.rdW 2 rfl) (by omega) ⟨iZ _,ed (Eb ..) ?_⟩;rw[if_pos rfl];exact H F7 t E (l.perm [8,9] 10 (by decide) (by decide) (by simp))
end
open Un Dm
theorem zen{C:fm}{f:Nat}{a:List V}{h:Hp}{K:ft}(H:K .undef h):oP (fy false (.bool true)) λb=>oP (gC b (some (f,a))) λy=>uj C y h K:=H
section
variable{F F':Nat->Prop}{h h':Hp}{cs ds:List Pc}{Q:ft}{ng lv:V}{hp ls:List Int}{lh Th:Nat}
theorem TC(c:ej F h cs)(H:∀h' v lx,Sn F h F h'->ej F h' (ev lx 82 [.I 100,v]::eJ (eI .u64) Ac [0] v::cs)->Q (.ptr lx 0) h'):cP CS lT [.I 100] h Q:=by
 refine CX rfl rfl ?_;unfold uH;rw[AB,fx];obtain⟨a,b⟩:=c.V6 (E:=eI .u64) (xs:=[0]) Ac (ws:=[.int .u64 0]) (n:=1) rfl ⟨_,[],rfl,⟨rfl,zR⟩,trivial⟩ rfl;have a:ej F (h.new (.cells 59 1 true false [.int .u64 0])) (eJ (eI .u64) Ac [0] (.slice h.next 0 1)::cs):=a;have b:Sn F h F (h.new (.cells 59 1 true false [.int .u64 0])):=b;refine ed (show _=some (.agg [.I 100,.slice h.next 0 1]) from rfl) ?_;refine ml a rfl λd e f=>H d _ _ (b.trans f) e
theorem Zi(e:ej F h (ev lh Th [.I 100,ng]::eJ (eI .u64) Ac hp ng::ds))(K:hp.length<=100){t n:Nat}(W:t<=7)(X:n<=4)
  (H:∀h' b d r ok,Sn F h F h'->ej F h' (ev lh Th [.I 100,b]::eJ (eI .u64) Ac d b::ds)->d.length<=100->qc .u64 r->Q (.tuple [.int .u64 r,.bool ok]) h') :
  cP CS kj [.ptr lh 0,.I t,.I n] h Q:=by
 refine A1 rfl rfl ?_;unfold qQ;have L:ez (.ptr lh (0+0)) h=some (.I 100):=e.ld 0 rfl rfl;have p:ez (.ptr lh (0+1)) h=some ng:=e.ld 0 rfl rfl;have B:=e.len 1 rfl;have f:lH .i64 (100-((hp.length:Nat):Int))=100-((hp.length:Nat):Int):=pD (by simp only[qc];omega);refine ed (jB ..) ?_;rw[N5 (show ¬((t:Nat):Int)<0 by omega)];refine pQ (by rw[fe,nw,N5 (by omega)]) (pQ (by rw[fe,jB,N5 (by omega)]) (pQ (by rw[fe,nw,N5 (by omega)]) ?_));refine ed (a:= .bool (decide (100-((hp.length:Nat):Int)<((n+1:Nat):Int)))) ?_ (iO ?_)
 ·simp only[mF,fe,fQ,fT,L,p,B,mj,zdH (n:=n) (by omega),oR,f,nw]
 by_cases c:100-((hp.length:Nat):Int)<((n+1:Nat):Int)
 ·exact gi (Kt c) (H h ng hp 0 false (Sn.refl _ _) e K zR)
 refine fU (by rw[AQ];exact c) ?_;have g:qc .u64 ((hp.length:Nat):Int):=by simp only[qc];omega
 refine oN p (ed B (ed (by rw[iC,jk,KL g]) (oN p (ed (by rw[iC,jk]) (ed (show en .shl 59 (.int .u64 (pz (t:Nat))) (.int .u64 32)=some (.int .u64 _) from rfl) (ed (by rw[iC,jk]) (ed (by rw[mj,jk]) ?_)))))));generalize j:pz (IntKind.wrap .u64 (pz (t:Nat)*2 ^ min 32 IntKind.u64.bits)+pz (n:Nat))=m;have q:qc .u64 m:=j▸Cw _;clear j;rw[AB,fx];obtain⟨C,Y,M,_,s,N⟩:=e.vR 1 rfl (jW:=8) (DP:=59) (y:=m) (w:=[.int .u64 m]) (ro:=false) ⟨rfl,q⟩ (by decide) (by decide) (by omega);rw[show eR 59 1 8 ng (.slice h.next 0 1) (h.new (.cells 59 1 true false [.int .u64 m]))=_ from M,ei];simp only[je,mA]at s;obtain⟨Z,O,_,D,P⟩:=s.st 0 (o:=0+1) (u:=C) rfl (by simp) (s.one 1 rfl);refine ed (fQ _ _) (ed pf ?_);rw[O,ei];simp only[je,mA]at D
 obtain ⟨J,v⟩:∃J:Nat->LP,J=λk l h'=>∃(i:Nat) (b:V) (d:List Int),l=[.ptr lh 0,.I n,.int .u64 ((hp.length:Nat):Int),.I i]/\i+k=n/\Sn F h F h'/\d.length=hp.length+1+i/\
   ej F h' (ev lh Th [.I 100,b]::eJ (eI .u64) Ac d b::ds):=⟨_,rfl⟩
 refine yZ J (λk x0 x2 x8 x9 x hi=>?_) (k:=n) ?_;rotate_left
 ·rw[v];exact⟨0,C,_,rfl,by omega,N.trans P,by simp,D⟩
 rw[v]at hi;obtain⟨i,b,d,⟨⟩,hk,E,R,z⟩:=hi;unfold o0;by_cases hi:i<n;rotate_left
 ·exact iJ (H x b d _ true E z (by omega) g)
 refine gG (oN (z.ld 0 rfl rfl) ?_);rw[AB,fx];obtain⟨G,h4,S,_,A,s4⟩:=z.vR 1 rfl (jW:=8) (DP:=59) (y:=0) (w:=[.int .u64 0]) (ro:=false) ⟨rfl,zR⟩ (by decide) (by decide) (by omega);rw[show eR 59 1 8 b (.slice x.next 0 1) (x.new (.cells 59 1 true false [.int .u64 0]))=_ from S,ei];simp only[je,mA]at A;obtain⟨h5,T,_,I,U⟩:=A.st 0 (o:=0+1) (u:=G) rfl (by simp) (A.one 1 rfl);refine ed (fQ _ _) (ed pf ?_);rw[T,ei];simp only[je,mA]at I;refine fL ⟨k-1,by omega,?_⟩;rw[v];exact⟨i+1,G,_,rfl,by omega,(E.trans s4).trans U,by rw[Ji,List.length_singleton];omega,I⟩
theorem zc1(b:ej F h (ev lh Th [.I 100,ng]::eJ (eI .u64) Ac hp ng::ds))(d:hp.length<=100){r x:Int}{k:Nat}(e:qc .u64 r)(f:qc .u64 x)(hk:k<=1000)
  (H:∀h' a ok,Sn F h F h'->ej F h' (ev lh Th [.I 100,ng]::eJ (eI .u64) Ac a ng::ds)->a.length<=100->Q (.bool ok) h') :
  cP CS lB [.ptr lh 0,.int .u64 r,.I k,.int .u64 x] h Q:=by
 refine CI rfl rfl ?_;unfold tX;refine ed (ik ..) ?_;by_cases z:r=0
 ·rw[show(r == 0)=true from HR.2 z];refine ed (show nP (.bool true) _=some (.bool true) from rfl) (OT (OT (OT (zen (ed (show nP (.bool true) _=some (.bool true) from rfl) (iO (gi rfl (H h hp false (Sn.refl _ _) b d))))))))
 rw[show(r == 0)=false from Ti.2 z];refine pQ (by rw[fe,jB,N5 (by omega)]) (fD (ed rfl (fD (ed rfl (fD (ed rfl (yd (XB b (i:=0) (j:=1) rfl rfl (by omega) e λ_=>?_))))))));refine ed (by rw[mF,nM]) (iO ?_);by_cases c:tw hp r % 4294967296<=((k:Nat):Int)
 ·exact gi (Kt c) (H h hp false (Sn.refl _ _) b d)
 refine fU (by rw[AQ];exact c) (ed (by rw[mj,jk]) (ed (by rw[iC,jk]) (ed (by rw[mj,jk]) (Ud b (i:=0) (j:=1) rfl rfl (by omega) (Cw _) f λg ok l m=>?_))));exact H g _ ok l m (by rw[NM];exact d)
theorem zcJ{x:Int}(a:qc .u64 x)(m:Nat):qc .u64 (x.fdiv (2 ^ m)):=by
 simp only[qc]at*;have b:(0:Int)<2 ^ m:=Int.pow_pos (by decide);rw[Int.fdiv_eq_ediv_of_nonneg _ (Int.le_of_lt b)];exact⟨Int.ediv_nonneg a.1 (Int.le_of_lt b),Int.le_trans (Int.ediv_le_self _ a.1) a.2⟩
theorem TF(I:ej F h cs)(e:iy (eI .u64) F h ls lv)(H:∀h' lx v hp,Sn F h F h'->ej F h' (ev lx 82 [.I 100,v]::eJ (eI .u64) Ac hp v::cs)->hp.length<=100->Q (.ptr lx 0) h') :
  cP CS lW [lv] h Q:=by
 refine CU rfl rfl ?_;unfold uK;refine TC I λh1 K lx L M=>?_;obtain⟨J,m⟩:∃J:Nat->LP,J=λk l h'=>∃(i:Nat) (v:V) (hp:List Int),l=[lv,.ptr lx 0,.I i]/\i+k=8/\Sn F h F h'/\hp.length<=100/\ej F h' (ev lx 82 [.I 100,v]::eJ (eI .u64) Ac hp v::cs):=⟨_,rfl⟩
 refine Ao J (λk N O P R hi=>?_) (k:=8) ?_;rotate_left
 ·rw[m];exact⟨0,K,_,rfl,rfl,L,by simp,M⟩
 rw[m]at hi;obtain⟨i,S,o,⟨⟩,hk,p,f,C⟩:=hi;unfold qA;have D:=e.since p;refine ed D.len (ed (jB ..) (ed (a:= .bool (decide (i<ls.length/\i<8))) ?_ (iO ?_)))
 ·by_cases c:i<ls.length
  ·rw[Kt (show((i:Nat):Int)<(ls.length:Nat) by omega),oS,fe,jB];congr 2;exact decide_eq_decide.2 (by omega)
  ·rw[N5 (show ¬((i:Nat):Int)<(ls.length:Nat) by omega),Ew,N5 λh=>c h.1]
 by_cases c:i<ls.length/\i<8;rotate_left
 ·exact fU (by rw[AQ];exact c) (H R lx S o p C f)
 have E:=gW c.1;generalize ls[i]=x at*;obtain⟨l1,o1,_,p1,p2,p3⟩:=D.word E .i64;have b:=p3;simp only[qc]at b;have T:0<=x.tmod 5/\x.tmod 5<=4:=by rw[Int.tmod_eq_emod_of_nonneg b.1];omega
 have U:0<=x.tmod 3/\x.tmod 3<=2:=by rw[Int.tmod_eq_emod_of_nonneg b.1];omega
 obtain⟨n,W⟩:=wBG T.1;obtain⟨t,X⟩:=wBG U.1;refine gi (Kt c) (ed p1 (ed p2 (ed (show en .rem 59 (.int .u64 x) (.int .u64 5)=some (.int .u64 (x.tmod 5)) from rfl) (ed (show _=some (.I n) by rw[iC,W,G7 (by omega)]) (ed p1 (ed p2 (ed (show en .rem 59 (.int .u64 x) (.int .u64 3)=some (.int .u64 (x.tmod 3)) from rfl) (ed (show _=some (.I t) by rw[iC,X,G7 (by omega)]) (ed (show en .add 3 (.I 5) (.I t)=some (.I ((5+t:Nat):Int)) by rw[mj,show(5:Int)+(t:Nat)=((5+t:Nat):Int) by omega,G7 (by omega)]) ?_)))))))));refine Zi C f (by omega) (by omega) λh3 q s r ok Y Z u hr=>?_;refine ed (show zk 0 (.tuple [_,_])=_ from rfl) (ed (show zk 1 (.tuple [_,_])=_ from rfl) ?_);have w:=p.trans Y;obtain⟨y,d⟩:∃y:Nat->LP,y=λk l h'=>∃(j:Nat) (hp:List Int),l=[lv,.ptr lx 0,.I i,.I n,.int .u64 r,.bool ok,.I j]/\j+k=n/\Sn F h F h'/\hp.length<=100/\ej F h' (ev lx 82 [.I 100,q]::eJ (eI .u64) Ac hp q::cs):=⟨_,rfl⟩
 refine Ak y (λk1 N O P x5 x6 x7 x8 h4 hi=>?_) (k:=n) ?_;rotate_left
 ·rw[d];exact⟨0,s,rfl,by omega,w,u,Z⟩
 rw [d]at hi;obtain⟨j,z,⟨⟩,aa,s4,g,G⟩:=hi;unfold qK;have out:J (k-1) [lv,.ptr lx 0,.I ((i+1:Nat):Int)] h4:=by
  rw[m];exact⟨i+1,q,z,rfl,by omega,s4,g,G⟩
 refine ed (a:= .bool (ok&&decide (j<n))) ?_ (iO ?_)
 ·cases ok
  ·rfl
  ·rw[oS,fe,fe,jB,ZR];congr 2;exact decide_eq_decide.2 (by omega)
 by_cases cj:ok=true/\j<n;rotate_left
 ·refine fU (by rw[xg,AQ];exact cj) (fL ⟨k-1,by omega,out⟩)
 obtain⟨l2,o2,_,q1,q2,_⟩:=(e.since s4).word E .i64;refine gi (by rw[xg,AQ];exact cj) (ed q1 (ed q2 (ed (show en .mul 3 (.I j) (.I 9)=some (.I ((j*9:Nat):Int)) by rw[Nv,show((j:Nat):Int)*9=((j*9:Nat):Int) by omega,G7 (by omega)]) (ed (show _=some (.int .u64 ((j*9:Nat):Int)) by rw[iC,jk,KL (by simp only[qc];omega)]) (ed (show en .shr 59 (.int .u64 x) (.int .u64 ((j*9:Nat):Int))=some (.int .u64 (x.fdiv (2 ^ min (j*9) 64))) from rfl) ?_)))));refine zc1 G g hr (zcJ p3 _) (by omega) λh5 A _ s5 H5 B=>?_;refine fL ⟨k1-1,by omega,?_⟩;rw[d];exact⟨j+1,A,rfl,by omega,s4.trans s5,B,H5⟩
theorem WM(q:ej F h cs)(b:iy (eI .u64) F h ls lv)(H:∀F' h' v xs,Sn F h F' h'->ej F' h' cs->iy (eI .u64) F' h' xs v->xs.length<=6->Q v h'):cP CS mn [lv] h Q:=by
 refine EK rfl rfl ?_;unfold wX;obtain⟨J,d⟩:∃J:Nat->LP,J=λk l h'=>∃(i:Nat) (v:V) (xs:List Int),l=[lv,v,.I i]/\i+k=6/\Sn F h F h'/\xs.length=i/\ej F h' (eJ (eI .u64) Ac xs v::cs):=⟨_,rfl⟩
 refine Bj J (λk u v z e hi=>?_) (k:=6) ?_;rotate_left
 ·rw[d];exact⟨0,.ee,[],rfl,rfl,Sn.refl _ _,rfl,q.add (p:=eJ (eI .u64) Ac [] .ee) .nil λ_ h=>h⟩
 rw[d]at hi;obtain⟨i,_,xs,⟨⟩,hk,f,g,n⟩:=hi;unfold rG;have o:=b.since f;refine ed o.len (ed (jB ..) (ed (a:= .bool (decide (i<ls.length/\i<6))) ?_ (iO ?_)))
 ·by_cases c:i<ls.length
  ·rw[Kt (show((i:Nat):Int)<(ls.length:Nat) by omega),oS,fe,jB];congr 2;exact decide_eq_decide.2 (by omega)
  ·rw[N5 (show ¬((i:Nat):Int)<(ls.length:Nat) by omega),Ew,N5 λh=>c h.1]
 by_cases c:i<ls.length/\i<6;rotate_left
 ·obtain⟨j,m,r3⟩:=n.jI 0 rfl;exact fU (by rw[AQ];exact c) (H _ e v xs (f.trans m) j.tail r3 (by omega))
 have r:=gW c.1;generalize ls[i]=x at*;obtain⟨l1,A,_,p1,p2,p3⟩:=o.word r .i64;refine gi (Kt c) (ed p1 (ed p2 ?_));rw[AB,fx];obtain⟨s,B,t,_,j,m⟩:=n.vR 0 rfl (jW:=8) (DP:=59) (y:=x) (w:=[.int .u64 x]) (ro:=false) ⟨rfl,p3⟩ (by decide) (by decide) (by omega);rw[show eR 59 1 8 v (.slice e.next 0 1) (e.new (.cells 59 1 true false [.int .u64 x]))=_ from t,ei];refine fL ⟨k-1,by omega,?_⟩;rw[d];exact⟨i+1,s,_,rfl,by omega,f.trans m,by rw[Ji,List.length_singleton,g],j⟩
end
open Un Dm
theorem zbM{X:Option V}{K:Bool->V->Prop}(h:oP X (K true)):oP (fy true (.bool true)) λb=>oP (gV b X) (K b):=h
section
variable{u:U}
theorem YX{n:Nat}(h:n<1000000000):en .sub 3 (.I n) (.I 1)=some (.I ((n:Nat)-1:Int)):=by
 rw[oR,pD (by simp only[qc];omega)]
end
open Un Dm
section
variable{F F':Nat->Prop}{h h':Hp}{cs ds:List Pc}{Q:ft}{u:U}{vv vb vs:V}
theorem Ua(H:Q (.bool true) h):cP CS pe [] h Q:=by
 obtain⟨fn,c,a,b⟩:=MZ;exact cP.known a b (show CS.K pe [] h=some (.bool true) from rfl) rfl rfl H
theorem QP{ops a ls b:List Int}{np gw:Int}{vo c lv vQ:V}(M:ej F h cs)(d:iy (eI .i64) F h ops vo)(e:iy (eI .i64) F h a c)(k:iy (eI .u64) F h ls lv)(l:iy (eI .u64) F h b vQ)(N:ops.length<9223372036854775808)(H:∀h',Q (.bool true) h') :
  cP CS mM [.agg [vo,c,.I np],lv,vQ,.I gw] h Q:=by
 refine AY rfl rfl ?_;unfold qO;refine ml M (by simp only[ey,d.one,e.one];rfl) λh1 C n=>?_;refine ed (C.zb 0 rfl rfl) ?_;refine zar C (d.since n) (e.since n) N λF2 h2 D O P S=>?_;have T:Good (Is ops a np):=WS ops a np;have a0:AN (Is ops a np):=λv x U=>Ie (zbn ops a np x (Dh U)) (by decide);generalize Is ops a np=u0 at*;obtain⟨W,X,Y,rfl,Z,D,w3⟩:=S;refine Vh T a0 P.tail ⟨Z,D,w3⟩ λF3 h3 u vv vb vs s3 H3 o R=>?_;have p:=(n.trans O).trans s3;refine ir H3 rfl rfl o.one λh4 E s4=>?_;generalize h3.next=lu at*;refine ed (E.zb 0 rfl rfl) ?_;refine Vh R.DW R.args E (o.since s4) λF5 h5 w wv wb ws G H5 I R2=>?_;have g:=R.DW;have J:=R2.DW;have hR:=λlocals gw heap=>R2.Jy locals gw 1500 1501 heap;refine ir H5 rfl rfl I.one λh6 K q=>?_;generalize h5.next=lw at*;have r:=((p.trans s4).trans G).trans q;have u6:=((o.since s4).since G).since q;have L:=I.since q;refine Ml (m:=9) (by decide) (by decide) (ed (YX (by have:=FT gw (m:=9) (by decide);omega)) ?_);refine Ua ⟨iZ _,gq (ed (K.zb 0 rfl rfl) (wS ?_))⟩;refine Rm J K L λF7 h7 i s=>⟨i.next,ed (Eb ..) ?_⟩
 rw[if_pos rfl];have f:=r.trans i;have u7:=u6.since i;have w7:=L.since i;refine zbM (ed (s.zb 1 rfl rfl) (zbM (ed (s.zb 0 rfl rfl) (gq (ed rfl (gq (ed rfl (gq (ed rfl (wS ?_))))))))));refine TF s (k.since f) λh8 lx ng hp j t aa=>⟨j.next,t.zb 2 rfl rfl,t.zb 3 rfl rfl,wS ?_⟩
 refine WM t ((l.since f).since j) λF9 h9 xv xs y z r9 ab=>⟨y.next,z.zb 2 rfl rfl,z.zb 3 rfl rfl,wS ?_⟩
 refine zbi (fuel:=1500) g J z ((u7.since j).since y) ((w7.since j).since y) r9 (by omega) (by omega) (by decide) (hR _ _ _) λac A B ae=>⟨B.next,ed (Eb ..) ?_⟩
 rw[if_pos rfl];exact H A
end
