/- Parts. -/
import Derived.Test.YtjgjgngfjopaaaaDoorM43
import Derived.Test.YtjgjgngfjopaaaaDoorM40
import Derived.Test.YtjgjgngfjopaaaaDoorM38
namespace Go.Proofs.YtjgjgngfjopaaaaDoor.Hx
open Un Dm
structure RdW (h:Hp) (xs:List Int) (v:V):Prop where
 len:fF v=some (.I xs.length)
 at_:∀(k:Nat) (x:Int),xs[k]? =some x->∃l o,gD 1 v (.I k)=some (.ptr l o)/\ez (.ptr l o) h=some (.int .u64 x)
section
variable{F F':Nat->Prop}{h h':Hp}{cs ds:List Pc}{Q:fy}{u w:U}{vv vb vs wv wb ws u0 rm lT:V}{hp locals xs:List Int}{lh Th:Nat}{gS:Int}{fuel:Nat}
theorem iC.rdW{v:V}(a:iC (eI .u64) F h xs v):RdW h xs v:=⟨a.len,λk x b=>let⟨l,o,_,c,d,_⟩:=a.word b .i64;⟨l,o,c,d⟩⟩
theorem en.rdW{ty:Nat}{v:V}(H:en F h cs)(i:Nat)(hi:cs[i]? =some (eR (eI .u64) ty xs v)):RdW h xs v:=⟨H.len i hi,λk x a=>let⟨l,o,b,c,_⟩:=H.Kj i hi a .i64;⟨l,o,b,c⟩⟩
theorem Ql{a b:V}(c:RdW h xs a)(d:RdW h xs b)(g:xs.length<1000000000)(H:Q (.bool true) h):cP CS iU [a,b] h Q:=by
 refine Dr rfl rfl ?_;unfold wm;refine ed c.len (ed d.len (zN (gw rfl ?_)));refine AI (λk l h'=>∃i:Nat,l=[a,b,.I (i:Nat)]/\i+k=xs.length/\h' = h) ?_ (k:=xs.length) ⟨0,rfl,by omega,rfl⟩;rintro k _ _ _ h ⟨i,⟨⟩,j,rfl⟩;unfold qQ;refine ed c.len ?_;by_cases hi:i<xs.length
 ·obtain⟨l1,m,p1,p2⟩:=c.at_ i _ (gP hi);obtain⟨l2,n,e,f⟩:=d.at_ i _ (gP hi);refine gG (ed p1 (ed p2 (ed e (ed f (zN (gw rfl ?_))))));exact fN ⟨k-1,by omega,i+1,rfl,by omega,rfl⟩
 ·exact iI H
theorem Oo{a b:V}(c:RdW h xs a)(d:RdW h xs b)(g:xs.length<1000000000)(H:Q (.bool true) h):cP CS jC [a,b] h Q:=by
 refine Ap rfl rfl ?_;unfold rX;refine ed c.len (ed d.len (zN (gw rfl ?_)));refine yp (λk l h'=>∃i:Nat,l=[a,b,.I (i:Nat)]/\i+k=xs.length/\h' = h) ?_ (k:=xs.length) ⟨0,rfl,by omega,rfl⟩;rintro k _ _ _ h ⟨i,⟨⟩,j,rfl⟩;unfold pd;refine ed c.len ?_;by_cases hi:i<xs.length
 ·obtain⟨l1,m,p1,p2⟩:=c.at_ i _ (gP hi);obtain⟨l2,n,e,f⟩:=d.at_ i _ (gP hi);refine gG (ed p1 (ed p2 (ed e (ed f (zN (gw rfl ?_))))));exact fN ⟨k-1,by omega,i+1,rfl,by omega,rfl⟩
 ·exact iI H
theorem iC.fw{fs:List Fw}{f:V}(a:iC Yd F h fs f){i:Nat}{x:Fw}(d:fs[i]? =some x) :
  ∃l o a b,gD 4 f (.I i)=some (.ptr l o)/\ez (.ptr l (o+0)) h=some (.I x.func)/\ez (.ptr l (o+1)) h=some (.I x.pc)/\ez (.ptr l (o+2)) h=some a/\ez (.ptr l (o+3)) h=some b/\iC (eI .u64) F h x.locals a/\iC (eI .u64) F h x.stack b:=by
 obtain⟨hi,rfl⟩:=iR.1 d;obtain⟨l,o,w,_,e,_,⟨a,b,rfl,g,j⟩,c⟩:=a.ix hi .i64;exact⟨l,o,a,b,e,c 0 _ rfl,c 1 _ rfl,c 2 _ rfl,c 3 _ rfl,g,j⟩
theorem UL{fr:List Fw}{a b:V}(e:iC Yd F h fr a)(g:iC Yd F h fr b)(E:fr.length<1000000000)(m:∀f∈fr,f.locals.length<1000000000/\f.stack.length<1000000000)(H:Q (.bool true) h):cP CS jf [a,b] h Q:=by
 refine Ei rfl rfl ?_;unfold pq;have c:∀{l o k:Nat},fH k (.ptr l o)=some (.ptr l (o+k)):=eJ _ _ _;refine ed e.len (ed g.len (zN (gw rfl ?_)));refine Bu (λk n p q h'=>∃i:Nat,n=a/\p=b/\q = .I (i:Nat)/\i+k=fr.length/\h' = h) ?_ (k:=fr.length) ⟨0,rfl,rfl,rfl,by omega,rfl⟩;rintro k _ _ _ h ⟨i,rfl,rfl,rfl,G,rfl⟩;unfold nt;refine ed e.len ?_;by_cases hi:i<fr.length;rotate_left
 ·exact iI H
 have j:=gP hi;obtain⟨r,s⟩:=m _ (zq hi);generalize fr[i]=x at*;obtain⟨l1,I,la,sa,p1,p2,p3,t,u,v,w⟩:=e.fw j;obtain⟨l2,J,lb,sb,d,y,z,A,B,C,D⟩:=g.fw j;refine gG (ed p1 (oF p2 (ed d (oF y (ed (tu ..) ?_)))));rw[show(x.func != x.func)=false by simp];refine fG (ed rfl (fG (ed rfl (fG (ed p1 (fG (ed c (fG (ed p3 (fG (ed rfl (fG (ed rfl (fG (ed d (fG (ed c (fG (ed z ?_)))))))))))))))))));refine pw (by rw[tu,show(x.pc != x.pc)=false by simp]) ?_;refine fG (ed rfl (fG (ed rfl (fG (ed p1 (fG (ed c (fG (ed t (fG (ed rfl (fG (ed rfl (fG (ed d (fG (ed c (fG (ed A (wW ?_))))))))))))))))))));refine Ql v.rdW C.rdW r ⟨jj _,pw rfl ?_⟩;refine fG (ed rfl (fG (ed rfl (fG (ed p1 (fG (ed c (fG (ed u (fG (ed rfl (fG (ed rfl (fG (ed d (fG (ed c (fG (ed B (wW ?_))))))))))))))))))));refine Ql w.rdW D.rdW s ⟨jj _,pw rfl ?_⟩;refine js (gi (by simp) (fN ⟨k-1,by omega,i+1,rfl,rfl,rfl,by omega,rfl⟩))
theorem Pv(r:en F h cs){i j:Nat}(hi:cs[i]? =some (ev lh Th [.I 100,lT]))(w:cs[j]? =some (eR (eI .u64) zu hp lT))(D:hp.length<1000000)
  (H:∀h' v lx,Sn F h F h'->en F h' (ev lx 81 [.I 100,v]::eR (eI .u64) zu hp v::cs)->Q (.ptr lx 0) h') :
  cP CS iE [.ptr lh 0] h Q:=by
 refine Ai rfl rfl ?_;unfold qZ;have G:∀{l o k:Nat},fH k (.ptr l o)=some (.ptr l (o+k)):=eJ _ _ _;have s:∀{e sz:Nat} {a b:Bool} {cs:List V},O.beq (.cells e sz a b cs) (.cells e sz a b cs)=true:=O.gO _ _ _ _ _;have x:ez (.ptr lh (0+0)) h=some (.I 100):=r.ld i hi rfl;refine oN x ?_;rw[EP,hK];obtain⟨c,g⟩:=r.Vp (E:=eI .u64) (xs:=[]) zu (ws:=[]) (n:=0) rfl trivial rfl;have c:en F (h.new (.cells 83 1 true false [])) (eR (eI .u64) zu [] (.slice h.next 0 0)::cs):=c;have g:Sn F h F (h.new (.cells 83 1 true false [])):=g;have d:∀{a:Pc},(a::cs)[i+1]? =some (ev lh Th [.I 100,lT]):=λ{_}=>by simpa using hi
 have m:∀{a:Pc},(a::cs)[j+1]? =some (eR (eI .u64) zu hp lT):=λ{_}=>by simpa using w
 refine oN (c.ld (i+1) d rfl) ⟨⟨fi _ _,s⟩,c.ld (i+1) d rfl,?_⟩;obtain⟨v,I,y,z,f,A⟩:=c.YU 0 (j+1) rfl m (jM:=8) (by decide) (by decide) (by simp;omega);rw[show fe 83 1 8 (.slice h.next 0 0) lT (h.new (.cells 83 1 true false []))=_ from y,ei];simp only[iY,OO]at f;have p:=f.one 0 rfl;have q:fV [.I 0,.ee] [(0,1),(1,1)] [(0,.I 100),(1,v)]=some (.agg [.I 100,v]):=by
  rcases f.row 0 rfl with⟨rfl,_⟩|⟨t,B,rfl,_⟩ <;> rfl
 refine⟨z,ed q ?_⟩;refine TZ f (by simp only[eQ,p];rfl) λu C=>⟨⟨fi _ _,s⟩,u.ld (i+2) (by simpa using hi) rfl,?_⟩
 exact H _ v _ ((g.trans A).trans C) u
theorem Zi{e b:Ex}{n:Nat}{fr:List Fw}{hq:List Int}(h:e.As b)(c:e = .left n fr hq):∃a,b = .left a fr hq/\a<=n:=by
 subst c
 cases b with
 |zK=>exact h.elim
 |left a d f=>obtain⟨g,rfl,rfl⟩:=h;exact⟨a,rfl,g⟩
 |stuck=>exact h.elim
end
open Un Dm
section
variable{F F':Nat->Prop}{h h':Hp}{cs ds:List Pc}{Q:fy}{u w:U}{vv vb vs wv wb ws u0 lT:V}{hp locals xs:List Int}{lh Th:Nat}{gS:Int}{fuel:Nat}
theorem Y3(g:Good u) (g':Good w)(H0:en F h (ev lh Th [.I 100,lT]::eR (eI .u64) zu hp lT::ds))(O:A0 F h u vv vb vs)(P:A0 F h w wv wb ws)(s:iC (eI .u64) F h locals u0)(R:locals.length<1000000000)(S:hp.length<1000000)(y:fuel<=1000000)
  (hR:(runM u locals gS fuel (fuel+1) none 0 (xy u hp)).As (runM w locals gS fuel (fuel+1) none 0 (xy w hp)))
  (H:∀F' h',Sn F h F' h'->en F' h' (ev lh Th [.I 100,lT]::eR (eI .u64) zu hp lT::ds)->Q (.bool true) h') :
  cP CS ju [.agg (uC u vv vb vs),.agg (uC w wv wb ws),.ptr lh 0,u0,.I gS,.I fuel] h Q:=by
 refine Fg rfl rfl ?_;unfold qa;have v:∀{l o k:Nat},fH k (.ptr l o)=some (.ptr l (o+k)):=eJ _ _ _;have T:∀{l o:Nat},ij (.ptr l o)=some (.ptr l o):=fX _ _;refine mH H0 O.one λh1 H1 s1=>mH H1 P.one λh2 H2 s2=>?_;generalize h.next=l6 at*;generalize h1.next=l7 at*;refine Pv H2 (i:=2) (j:=3) rfl rfl S λh3 xv lx s3 H3=>Pv H3 (i:=4) (j:=5) rfl rfl S λU yv ly s4 W=>?_;have t:=((s1.trans s2).trans s3).trans s4;have m:∀{G:Nat->Prop} {hh:Hp} {e:Ex} {q:List Int} {a d:Int} {x:V} (b c:Int),ExR G hh e q a d x->gv [V.I a,.I b,.I c,x,.I d]=true:=λb c C=>by
  rcases C with⟨_,_,rfl⟩|⟨_,_,_,_,_,U,_⟩
  ·rfl
  ·simp only[eQ,U.one];rfl
 refine ed (W.wS 5 rfl rfl) ?_;refine XG g (W.perm [2,3,0,1,4,5,6,7] 8 (by decide) (by decide) (by simp)) (O.since t) (s.since t) R (by omega) y λF5 h5 aa a b c d fw s5 H5 ab C=>?_;have E:=t.trans s5;refine iG H5 rfl rfl (m b c C) λh6 D X=>?_;generalize h5.next=Y at*;have r:=E.trans X;refine oF (D.ld 0 rfl rfl) (ed (tu ..) ?_);rcases C with⟨_,rfl,_⟩|⟨n,fr,e1,rfl,rfl,r1,Z⟩
 ·refine js (gw rfl ?_);exact H F5 h6 r (D.perm [7,8] 9 (by decide) (by decide) (by simp))
 refine js (gi (by simp) (ed (D.wS 5 rfl rfl) ?_));refine XG g' (D.perm [3,4,0,1,2,5,6,7,8] 9 (by decide) (by decide) (by simp)) (P.since r) (s.since r) R (by omega) y λF7 h7 ac a' b' c' d' I s7 H7 ae z=>?_;have J:=r.trans s7;refine iG H7 rfl rfl (m b' c' z) λA p K=>?_;generalize h7.next=lq at*;have L:=J.trans K;obtain⟨n',e',hn⟩:=Zi hR e1;rcases z with⟨B,_,_⟩|⟨n2,ag,B,rfl,rfl,M,k2⟩
 ·rw[e']at B;cases B
 rw[e']at B;cases B;have N:(n':Int)<=(n:Int):=by omega
 have p4:ez (.ptr Y (0+4)) A=some (.I n):=p.ld 3 rfl rfl;have q4:ez (.ptr lq (0+4)) A=some (.I (n':Nat)):=p.ld 0 rfl rfl;have p3:ez (.ptr Y (0+3)) A=some fw:=p.ld 3 rfl rfl;have q3:ez (.ptr lq (0+3)) A=some I:=p.ld 0 rfl rfl;refine oF (p.ld 0 rfl rfl) (ed (gQ ..) ?_);rw[show((1:Int) == 1)=true from rfl];refine fU (ed v (fU (ed q4 (fU (ed v (fU (ed p4 (ed (a:= .bool true) (by rw[mq,MD,J6 N]) ?_))))))));refine fU (ed v (fU (ed p3 (fU (ed v (fU (ed q3 (uS ?_))))))));have r1:=((r1.since X).since s7).since K;have M:=M.since K;refine UL r1 M (by have:=Z.1;omega) (λf hf=>by have:=Z.2 f hf;omega) ⟨jj _,ed (DC ..) ?_⟩;rw[if_pos rfl];refine fU (ed rfl (fU (ed T (fU (ed v (fU (ed (p.ld 4 rfl rfl) (fU (ed rfl (fU (ed T (fU (ed v (fU (ed (p.ld 1 rfl rfl) (uS ?_))))))))))))))));refine Oo (p.rdW 5 rfl) (p.rdW 2 rfl) (by omega) ⟨jj _,ed (DC ..) ?_⟩;rw[if_pos rfl];exact H F7 A L (p.perm [8,9] 10 (by decide) (by decide) (by simp))
end
open Un Dm
theorem zdb{C:fu}{f:Nat}{a:List V}{h:Hp}{K:fy}(H:K .undef h):oP (fx false (.bool true)) λb=>oP (gC b (some (f,a))) λy=>qB C y h K:=H
section
variable{F F':Nat->Prop}{h h':Hp}{cs ds:List Pc}{Q:fy}{lT lv:V}{hp ls:List Int}{lh Th:Nat}
theorem RA(c:en F h cs)(H:∀h' v lx,Sn F h F h'->en F h' (ev lx 81 [.I 100,v]::eR (eI .u64) zu [0] v::cs)->Q (.ptr lx 0) h'):cP CS lL [.I 100] h Q:=by
 refine Cq rfl rfl ?_;unfold tZ;rw[zY,fE];obtain⟨a,b⟩:=c.Vp (E:=eI .u64) (xs:=[0]) zu (ws:=[.int .u64 0]) (n:=1) rfl ⟨_,[],rfl,⟨rfl,za⟩,trivial⟩ rfl;have a:en F (h.new (.cells 83 1 true false [.int .u64 0])) (eR (eI .u64) zu [0] (.slice h.next 0 1)::cs):=a;have b:Sn F h F (h.new (.cells 83 1 true false [.int .u64 0])):=b;refine ed (show _=some (.agg [.I 100,.slice h.next 0 1]) from rfl) ?_;refine mH a rfl λd e f=>H d _ _ (b.trans f) e
theorem V1(e:en F h (ev lh Th [.I 100,lT]::eR (eI .u64) zu hp lT::ds))(L:hp.length<=100){t n:Nat}(X:t<=7)(Y:n<=4)
  (H:∀h' b d r ok,Sn F h F h'->en F h' (ev lh Th [.I 100,b]::eR (eI .u64) zu d b::ds)->d.length<=100->tH .u64 r->Q (.tuple [.int .u64 r,.bool ok]) h') :
  cP CS j4 [.ptr lh 0,.I t,.I n] h Q:=by
 refine z6 rfl rfl ?_;unfold qp;have B:∀{l o k:Nat},fH k (.ptr l o)=some (.ptr l (o+k)):=eJ _ _ _;have M:ez (.ptr lh (0+0)) h=some (.I 100):=e.ld 0 rfl rfl;have p:ez (.ptr lh (0+1)) h=some lT:=e.ld 0 rfl rfl;have C:=e.len 1 rfl;have f:lM .i64 (100-((hp.length:Nat):Int))=100-((hp.length:Nat):Int):=oV (by simp only[tH];omega);refine ed (jD ..) ?_;rw[La (show ¬((t:Nat):Int)<0 by omega)];refine pw (by rw[fj,nf,La (by omega)]) (pw (by rw[fj,jD,La (by omega)]) (pw (by rw[fj,nf,La (by omega)]) ?_));refine ed (a:= .bool (decide (100-((hp.length:Nat):Int)<((n+1:Nat):Int)))) ?_ (js ?_)
 ·simp only[mn,fj,fX,eJ,M,p,C,mC,zcO (n:=n) (by omega),pj,f,nf]
 by_cases c:100-((hp.length:Nat):Int)<((n+1:Nat):Int)
 ·exact gw (J6 c) (H h lT hp 0 false (Sn.refl _ _) e L za)
 refine gi (by rw[AW];exact c) ?_;have g:tH .u64 ((hp.length:Nat):Int):=by simp only[tH];omega
 refine oN p (ed C (ed (by rw[jk,ku,JD g]) (oN p (ed (by rw[jk,ku]) (ed (show eo .shl 83 (.int .u64 (BM (t:Nat))) (.int .u64 32)=some (.int .u64 _) from rfl) (ed (by rw[jk,ku]) (ed (by rw[mC,ku]) ?_)))))));generalize j:BM (IntKind.wrap .u64 (BM (t:Nat)*2 ^ min 32 IntKind.u64.bits)+BM (n:Nat))=m;have q:tH .u64 m:=j▸Fu _;clear j;rw[zY,fE];obtain⟨D,Z,N,_,s,O⟩:=e.tU 1 rfl (jM:=8) (BN:=83) (y:=m) (w:=[.int .u64 m]) (ro:=false) ⟨rfl,q⟩ (by decide) (by decide) (by omega);rw[show fe 83 1 8 lT (.slice h.next 0 1) (h.new (.cells 83 1 true false [.int .u64 m]))=_ from N,ei];simp only[iY,lj]at s;obtain⟨h2,P,_,E,R⟩:=s.st 0 (o:=0+1) (u:=D) rfl (by simp) (s.one 1 rfl);refine ed (fX _ _) (ed B ?_);rw[P,ei];simp only[iY,lj]at E
 obtain ⟨J,v⟩:∃J:Nat->LP,J=λk l h'=>∃(i:Nat) (b:V) (d:List Int),l=[.ptr lh 0,.I n,.int .u64 ((hp.length:Nat):Int),.I i]/\i+k=n/\Sn F h F h'/\d.length=hp.length+1+i/\
   en F h' (ev lh Th [.I 100,b]::eR (eI .u64) zu d b::ds):=⟨_,rfl⟩
 refine yk J (λk x0 x2 x8 x9 x hi=>?_) (k:=n) ?_;rotate_left
 ·rw[v];exact⟨0,D,_,rfl,by omega,O.trans R,by simp,E⟩
 rw[v]at hi;obtain⟨i,b,d,⟨⟩,hk,G,S,z⟩:=hi;unfold oI;by_cases hi:i<n;rotate_left
 ·exact iI (H x b d _ true G z (by omega) g)
 refine gG (oN (z.ld 0 rfl rfl) ?_);rw[zY,fE];obtain⟨I,h4,T,_,A,s4⟩:=z.tU 1 rfl (jM:=8) (BN:=83) (y:=0) (w:=[.int .u64 0]) (ro:=false) ⟨rfl,za⟩ (by decide) (by decide) (by omega);rw[show fe 83 1 8 b (.slice x.next 0 1) (x.new (.cells 83 1 true false [.int .u64 0]))=_ from T,ei];simp only[iY,lj]at A;obtain⟨h5,U,_,K,W⟩:=A.st 0 (o:=0+1) (u:=I) rfl (by simp) (A.one 1 rfl);refine ed (fX _ _) (ed B ?_);rw[U,ei];simp only[iY,lj]at K;refine fN ⟨k-1,by omega,?_⟩;rw[v];exact⟨i+1,I,_,rfl,by omega,(G.trans s4).trans W,by rw[y6,X4];omega,K⟩
theorem zbd(b:en F h (ev lh Th [.I 100,lT]::eR (eI .u64) zu hp lT::ds))(d:hp.length<=100){r x:Int}{k:Nat}(e:tH .u64 r)(f:tH .u64 x)(n:k<=1000)
  (H:∀h' a ok,Sn F h F h'->en F h' (ev lh Th [.I 100,lT]::eR (eI .u64) zu a lT::ds)->a.length<=100->Q (.bool ok) h') :
  cP CS kU [.ptr lh 0,.int .u64 r,.I k,.int .u64 x] h Q:=by
 refine Bq rfl rfl ?_;unfold te;refine ed (gQ ..) ?_;by_cases z:r=0
 ·rw[show(r == 0)=true from z8.2 z];refine ed (show oD (.bool true) _=some (.bool true) from rfl) (N1 (N1 (N1 (zdb (ed (show oD (.bool true) _=some (.bool true) from rfl) (js (gw rfl (H h hp false (Sn.refl _ _) b d))))))))
 rw[show(r == 0)=false from MU.2 z];refine pw (by rw[fj,jD,La (by omega)]) (fG (ed rfl (fG (ed rfl (fG (ed rfl (wW (Wz b (i:=0) (j:=1) rfl rfl (by omega) e λ_=>?_))))))));refine ed (by rw[mn,mW]) (js ?_);by_cases c:sV hp r % 4294967296<=((k:Nat):Int)
 ·exact gw (J6 c) (H h hp false (Sn.refl _ _) b d)
 refine gi (by rw[AW];exact c) (ed (by rw[mC,ku]) (ed (by rw[jk,ku]) (ed (by rw[mC,ku]) (Sr b (i:=0) (j:=1) rfl rfl (by omega) (Fu _) f λg ok l m=>?_))));exact H g _ ok l m (by rw[Mj];exact d)
theorem zbo{x:Int}(a:tH .u64 x)(m:Nat):tH .u64 (x.fdiv (2 ^ m)):=by
 simp only[tH]at*;have b:(0:Int)<2 ^ m:=Int.pow_pos (by decide);rw[Int.fdiv_eq_ediv_of_nonneg _ (Int.le_of_lt b)];exact⟨Int.ediv_nonneg a.1 (Int.le_of_lt b),Int.le_trans (Int.ediv_le_self _ a.1) a.2⟩
theorem Se(I:en F h cs)(e:iC (eI .u64) F h ls lv)(H:∀h' lx v hp,Sn F h F h'->en F h' (ev lx 81 [.I 100,v]::eR (eI .u64) zu hp v::cs)->hp.length<=100->Q (.ptr lx 0) h') :
  cP CS jT [lv] h Q:=by
 refine BZ rfl rfl ?_;unfold uF;refine RA I λh1 K lx L M=>?_;obtain⟨J,m⟩:∃J:Nat->LP,J=λk l h'=>∃(i:Nat) (v:V) (hp:List Int),l=[lv,.ptr lx 0,.I i]/\i+k=8/\Sn F h F h'/\hp.length<=100/\en F h' (ev lx 81 [.I 100,v]::eR (eI .u64) zu hp v::cs):=⟨_,rfl⟩
 refine zJ J (λk N O P R hi=>?_) (k:=8) ?_;rotate_left
 ·rw[m];exact⟨0,K,_,rfl,rfl,L,by simp,M⟩
 rw[m]at hi;obtain⟨i,S,o,⟨⟩,hk,p,f,C⟩:=hi;unfold pU;have D:=e.since p;refine ed D.len (ed (jD ..) (ed (a:= .bool (decide (i<ls.length/\i<8))) ?_ (js ?_)))
 ·by_cases c:i<ls.length
  ·rw[J6 (show((i:Nat):Int)<(ls.length:Nat) by omega),mq,fj,jD];congr 2;exact decide_eq_decide.2 (by omega)
  ·rw[La (show ¬((i:Nat):Int)<(ls.length:Nat) by omega),Dd,La λh=>c h.1]
 by_cases c:i<ls.length/\i<8;rotate_left
 ·exact gi (by rw[AW];exact c) (H R lx S o p C f)
 have E:=gP c.1;generalize ls[i]=x at*;obtain⟨l1,o1,_,p1,p2,p3⟩:=D.word E .i64;have b:=p3;simp only[tH]at b;have T:0<=x.tmod 5/\x.tmod 5<=4:=by rw[Int.tmod_eq_emod_of_nonneg b.1];omega
 have U:0<=x.tmod 3/\x.tmod 3<=2:=by rw[Int.tmod_eq_emod_of_nonneg b.1];omega
 obtain⟨n,W⟩:=Z5 T.1;obtain⟨t,X⟩:=Z5 U.1;refine gw (J6 c) (ed p1 (ed p2 (ed (show eo .rem 83 (.int .u64 x) (.int .u64 5)=some (.int .u64 (x.tmod 5)) from rfl) (ed (show _=some (.I n) by rw[jk,W,F0 (by omega)]) (ed p1 (ed p2 (ed (show eo .rem 83 (.int .u64 x) (.int .u64 3)=some (.int .u64 (x.tmod 3)) from rfl) (ed (show _=some (.I t) by rw[jk,X,F0 (by omega)]) (ed (show eo .add 3 (.I 5) (.I t)=some (.I ((5+t:Nat):Int)) by rw[mC,show(5:Int)+(t:Nat)=((5+t:Nat):Int) by omega,F0 (by omega)]) ?_)))))))));refine V1 C f (by omega) (by omega) λh3 q s r ok Y Z u hr=>?_;refine ed (show Hk 0 (.tuple [_,_])=_ from rfl) (ed (show Hk 1 (.tuple [_,_])=_ from rfl) ?_);have w:=p.trans Y;obtain⟨y,d⟩:∃y:Nat->LP,y=λk l h'=>∃(j:Nat) (hp:List Int),l=[lv,.ptr lx 0,.I i,.I n,.int .u64 r,.bool ok,.I j]/\j+k=n/\Sn F h F h'/\hp.length<=100/\en F h' (ev lx 81 [.I 100,q]::eR (eI .u64) zu hp q::cs):=⟨_,rfl⟩
 refine Af y (λk1 N O P x5 x6 x7 x8 h4 hi=>?_) (k:=n) ?_;rotate_left
 ·rw[d];exact⟨0,s,rfl,by omega,w,u,Z⟩
 rw [d]at hi;obtain⟨j,z,⟨⟩,aa,s4,g,G⟩:=hi;unfold p8;have out:J (k-1) [lv,.ptr lx 0,.I ((i+1:Nat):Int)] h4:=by
  rw[m];exact⟨i+1,q,z,rfl,by omega,s4,g,G⟩
 refine ed (a:= .bool (ok&&decide (j<n))) ?_ (js ?_)
 ·cases ok
  ·rfl
  ·rw[mq,fj,fj,jD,Z1];congr 2;exact decide_eq_decide.2 (by omega)
 by_cases cj:ok=true/\j<n;rotate_left
 ·refine gi (by rw[uZ,AW];exact cj) (fN ⟨k-1,by omega,out⟩)
 obtain⟨l2,o2,_,q1,q2,_⟩:=(e.since s4).word E .i64;refine gw (by rw[uZ,AW];exact cj) (ed q1 (ed q2 (ed (show eo .mul 3 (.I j) (.I 9)=some (.I ((j*9:Nat):Int)) by rw[Qj,show((j:Nat):Int)*9=((j*9:Nat):Int) by omega,F0 (by omega)]) (ed (show _=some (.int .u64 ((j*9:Nat):Int)) by rw[jk,ku,JD (by simp only[tH];omega)]) (ed (show eo .shr 83 (.int .u64 x) (.int .u64 ((j*9:Nat):Int))=some (.int .u64 (x.fdiv (2 ^ min (j*9) 64))) from rfl) ?_)))));refine zbd G g hr (zbo p3 _) (by omega) λh5 A _ s5 H5 B=>?_;refine fN ⟨k1-1,by omega,?_⟩;rw[d];exact⟨j+1,A,rfl,by omega,s4.trans s5,B,H5⟩
theorem UU(q:en F h cs)(b:iC (eI .u64) F h ls lv)(H:∀F' h' v xs,Sn F h F' h'->en F' h' cs->iC (eI .u64) F' h' xs v->xs.length<=6->Q v h'):cP CS j5 [lv] h Q:=by
 refine Di rfl rfl ?_;unfold vH;obtain⟨J,d⟩:∃J:Nat->LP,J=λk l h'=>∃(i:Nat) (v:V) (xs:List Int),l=[lv,v,.I i]/\i+k=6/\Sn F h F h'/\xs.length=i/\en F h' (eR (eI .u64) zu xs v::cs):=⟨_,rfl⟩
 refine AQ J (λk u v z e hi=>?_) (k:=6) ?_;rotate_left
 ·rw[d];exact⟨0,.ee,[],rfl,rfl,Sn.refl _ _,rfl,q.add (p:=eR (eI .u64) zu [] .ee) .nil λ_ h=>h⟩
 rw[d]at hi;obtain⟨i,_,xs,⟨⟩,A,f,g,n⟩:=hi;unfold qM;have o:=b.since f;refine ed o.len (ed (jD ..) (ed (a:= .bool (decide (i<ls.length/\i<6))) ?_ (js ?_)))
 ·by_cases c:i<ls.length
  ·rw[J6 (show((i:Nat):Int)<(ls.length:Nat) by omega),mq,fj,jD];congr 2;exact decide_eq_decide.2 (by omega)
  ·rw[La (show ¬((i:Nat):Int)<(ls.length:Nat) by omega),Dd,La λh=>c h.1]
 by_cases c:i<ls.length/\i<6;rotate_left
 ·obtain⟨j,m,r⟩:=n.lO 0 rfl;exact gi (by rw[AW];exact c) (H _ e v xs (f.trans m) j.tail r (by omega))
 have s:=gP c.1;generalize ls[i]=x at*;obtain⟨l1,B,_,p1,p2,p3⟩:=o.word s .i64;refine gw (J6 c) (ed p1 (ed p2 ?_));rw[zY,fE];obtain⟨t,C,e3,_,j,m⟩:=n.tU 0 rfl (jM:=8) (BN:=83) (y:=x) (w:=[.int .u64 x]) (ro:=false) ⟨rfl,p3⟩ (by decide) (by decide) (by omega);rw[show fe 83 1 8 v (.slice e.next 0 1) (e.new (.cells 83 1 true false [.int .u64 x]))=_ from e3,ei];refine fN ⟨k-1,by omega,?_⟩;rw[d];exact⟨i+1,t,_,rfl,by omega,f.trans m,by rw[y6,X4,g],j⟩
end
open Un Dm
theorem zay{X:Option V}{K:Bool->V->Prop}(h:oP X (K true)):oP (fx true (.bool true)) λb=>oP (gV b X) (K b):=h
section
variable{F F':Nat->Prop}{h h':Hp}{cs ds:List Pc}{Q:fy}{u:U}{vv vb vs:V}
theorem RY(H:Q (.bool true) h):cP CS mj [] h Q:=by
 obtain⟨fn,c,a,b⟩:=N5;exact cP.known a b (show CS.K mj [] h=some (.bool true) from rfl) rfl rfl H
theorem Wv{n:Nat}(h:n<1000000000):eo .sub 3 (.I n) (.I 1)=some (.I ((n:Nat)-1:Int)):=by
 rw[pj,oV (by simp only[tH];omega)]
theorem Td{az:List Int}{n:Nat}(a:az.length=n)(v:Nat)(hv:n<=v):pC az v = -1:=by
 unfold pC;rw[BO,KT (by omega)];rfl
theorem UW(a:M1 u)(g:Good u){r:Nat->Int}:M1 (gZ u r):=λv y b=>by
 obtain⟨n,x,_,c,rfl,_⟩:=EN g b;have:=a n x c;unfold gW;dsimp only;split
 ·rw[CD];exact this
 ·exact this
theorem OX{ops b ls i:List Int}{np gS:Int}{vo j lv u0:V}(H0:en F h cs)(n:iC (eI .i64) F h ops vo)(p:iC (eI .i64) F h b j)(D:iC (eI .u64) F h ls lv)(E:iC (eI .u64) F h i u0)(ho:ops.length<9223372036854775808)(H:∀h',Q (.bool true) h') :
  cP CS jq [.agg [vo,j,.I np],lv,u0,.I gS] h Q:=by
 refine Aa rfl rfl ?_;unfold mE;have A:∀{l o k:Nat},fH k (.ptr l o)=some (.ptr l (o+k)):=eJ _ _ _;refine mH H0 (by simp only[eQ,n.one,p.one];rfl) λh1 Y G=>?_;refine ed (Y.wS 0 rfl rfl) ?_;refine Yg Y (n.since G) (p.since G) ho λF2 h2 Z s2 H2 hw=>?_;have q:Good (G8 ops b np):=UH ops b np;have a0:M1 (G8 ops b np):=λv x hx=>Gt (Zq ops b np x (A7 hx)) (by decide);generalize G8 ops b np=I at*;obtain⟨aa,ab,ac,rfl,w1,Z,w3⟩:=hw;refine T5 q a0 H2.tail ⟨w1,Z,w3⟩ λF3 h3 az vv vb vs s3 H3 d J K=>?_;have e:=Td J;have g:Good (gZ I (pC az)):=N9 q (d.fit q e);have ga:M1 (gZ I (pC az)):=UW a0 q;obtain⟨L,M⟩:=Ut q d e;generalize gZ I (pC az)=u at*;have N:=(G.trans s2).trans s3;refine iG H3 rfl rfl K.one λh4 H4 s4=>?_;generalize h3.next=lu at*;refine ed (H4.wS 0 rfl rfl) ?_;refine T5 g ga H4 (K.since s4) λF5 h5 r wv wb ws s5 H5 d2 t w5=>?_;have c:=Td t;have g2:Good (gZ u (pC r)):=N9 g (d2.fit g c);obtain⟨e1,e2⟩:=St g d2 L M;have hR:=λlocals gS heap=>UX g d2 c locals gS 1500 1501 heap;generalize gZ u (pC r)=w at*;refine iG H5 rfl rfl w5.one λh6 H6 O=>?_;generalize h5.next=lw at*;have P:=((N.trans s4).trans s5).trans O;have u6:=((K.since s4).since s5).since O;have w6:=w5.since O;refine RY ⟨jj _,fU (ed (H6.wS 0 rfl rfl) (uS ?_))⟩;refine QQ g2 H6 w6 λF7 h7 B f=>⟨B.next,ed (DC ..) ?_⟩
 rw[if_pos rfl];have y:=P.trans B;have R:=u6.since B;have S:=w6.since B;refine fU (ed A (fU (ed (f.ld 0 rfl rfl) (fU (ed S.v.len (fU (ed A (fU (ed (f.ld 1 rfl rfl) (fU (ed R.v.len ?_)))))))))));refine ed (a:= .bool true) (by rw[mq,gQ,e1,beq_self_eq_true]) ?_;refine fU (ed A (fU (ed (f.ld 0 rfl rfl) (fU (ed S.s.len (fU (ed A (fU (ed (f.ld 1 rfl rfl) (fU (ed R.s.len ?_)))))))))));refine ed (a:= .bool true) (by rw[mq,gQ,e2,beq_self_eq_true]) ?_;refine zay (ed (f.wS 1 rfl rfl) (zay (ed (f.wS 0 rfl rfl) (fU (ed rfl (fU (ed rfl (fU (ed rfl (uS ?_))))))))));refine Se f (D.since y) λh8 lx lT hp C T ae=>⟨C.next,T.wS 2 rfl rfl,T.wS 3 rfl rfl,uS ?_⟩
 refine UU T ((E.since y).since C) λF9 h9 xv xs U z r9 ag=>⟨U.next,z.wS 2 rfl rfl,z.wS 3 rfl rfl,uS ?_⟩
 refine K3 (m:=9) (by decide) (by decide) ⟨jj _,fU (ed (Wv (by have:=EZ gS (m:=9) (by decide);omega)) ⟨z.wS 2 rfl rfl,z.wS 3 rfl rfl,uS ?_⟩)⟩;refine Y3 (fuel:=1500) g g2 z ((R.since C).since U) ((S.since C).since U) r9 (by omega) (by omega) (by decide) (hR _ _ _) λah W X ai=>⟨X.next,ed (DC ..) ?_⟩
 rw[if_pos rfl];exact H W
end
