/- Parts. -/
import Derived.Test.YtkpicojjjifmgaaGreatDoorM43
import Derived.Test.YtkpicojjjifmgaaGreatDoorM40
import Derived.Test.YtkpicojjjifmgaaGreatDoorM38
namespace Go.Proofs.YtkpicojjjifmgaaGreatDoor.Hx
open Un Dm
structure RdW (h:Hp) (xs:List Int) (v:V):Prop where
 len:fH v=some (.I xs.length)
 at_:∀(k:Nat) (x:Int),xs[k]? =some x->∃l o,gJ 1 v (.I k)=some (.ptr l o)/\eQ (.ptr l o) h=some (.int .u64 x)
section
variable{F F':Nat->Prop}{h h':Hp}{cs ds:List Pc}{Q:fy}{u w:U}{vv vb vs wv wb ws vN rm mM:V}{hp locals xs:List Int}{lh Th:Nat}{gW:Int}{fuel:Nat}
theorem iq.rdW{v:V}(a:iq (eI .u64) F h xs v):RdW h xs v:=⟨a.len,λk x b=>let⟨l,o,_,c,d,_⟩:=a.word b .i64;⟨l,o,c,d⟩⟩
theorem eo.rdW{ty:Nat}{v:V}(H:eo F h cs)(i:Nat)(hi:cs[i]? =some (eR (eI .u64) ty xs v)):RdW h xs v:=⟨H.len i hi,λk x a=>let⟨l,o,b,c,_⟩:=H.KJ i hi a .i64;⟨l,o,b,c⟩⟩
theorem Rr{a b:V}(c:RdW h xs a)(d:RdW h xs b)(g:xs.length<1000000000)(H:Q (.bool true) h):cP CS jf [a,b] h Q:=by
 refine Dh rfl rfl ?_;unfold wz;refine ee c.len (ee d.len (xe (gv rfl ?_)));refine Bc (λk l h'=>∃i:Nat,l=[a,b,.I (i:Nat)]/\i+k=xs.length/\h' = h) ?_ (k:=xs.length) ⟨0,rfl,by omega,rfl⟩;rintro k _ _ _ h ⟨i,⟨⟩,j,rfl⟩;unfold rZ;refine ee c.len ?_;by_cases hi:i<xs.length
 ·obtain⟨l1,m,p1,p2⟩:=c.at_ i _ (hO hi);obtain⟨l2,n,e,f⟩:=d.at_ i _ (hO hi);refine gB (ee p1 (ee p2 (ee e (ee f (xe (gv rfl ?_))))));exact fM ⟨k-1,by omega,i+1,rfl,by omega,rfl⟩
 ·exact iJ H
theorem O3{a b:V}(c:RdW h xs a)(d:RdW h xs b)(g:xs.length<1000000000)(H:Q (.bool true) h):cP CS jQ [a,b] h Q:=by
 refine AT rfl rfl ?_;unfold td;refine ee c.len (ee d.len (xe (gv rfl ?_)));refine yW (λk l h'=>∃i:Nat,l=[a,b,.I (i:Nat)]/\i+k=xs.length/\h' = h) ?_ (k:=xs.length) ⟨0,rfl,by omega,rfl⟩;rintro k _ _ _ h ⟨i,⟨⟩,j,rfl⟩;unfold pM;refine ee c.len ?_;by_cases hi:i<xs.length
 ·obtain⟨l1,m,p1,p2⟩:=c.at_ i _ (hO hi);obtain⟨l2,n,e,f⟩:=d.at_ i _ (hO hi);refine gB (ee p1 (ee p2 (ee e (ee f (xe (gv rfl ?_))))));exact fM ⟨k-1,by omega,i+1,rfl,by omega,rfl⟩
 ·exact iJ H
theorem iq.fw{fs:List Fw}{f:V}(a:iq Zk F h fs f){i:Nat}{x:Fw}(d:fs[i]? =some x) :
  ∃l o a b,gJ 4 f (.I i)=some (.ptr l o)/\eQ (.ptr l (o+0)) h=some (.I x.func)/\eQ (.ptr l (o+1)) h=some (.I x.pc)/\eQ (.ptr l (o+2)) h=some a/\eQ (.ptr l (o+3)) h=some b/\iq (eI .u64) F h x.locals a/\iq (eI .u64) F h x.stack b:=by
 obtain⟨hi,rfl⟩:=jR.1 d;obtain⟨l,o,w,_,e,_,⟨a,b,rfl,g,j⟩,c⟩:=a.ix hi .i64;exact⟨l,o,a,b,e,c 0 _ rfl,c 1 _ rfl,c 2 _ rfl,c 3 _ rfl,g,j⟩
theorem Vm{fr:List Fw}{a b:V}(d:iq Zk F h fr a)(e:iq Zk F h fr b)(B:fr.length<1000000000)(j:∀f∈fr,f.locals.length<1000000000/\f.stack.length<1000000000)(H:Q (.bool true) h):cP CS jw [a,b] h Q:=by
 refine EA rfl rfl ?_;unfold pZ;refine ee d.len (ee e.len (xe (gv rfl ?_)));refine BS (λk l m n h'=>∃i:Nat,l=a/\m=b/\n = .I (i:Nat)/\i+k=fr.length/\h' = h) ?_ (k:=fr.length) ⟨0,rfl,rfl,rfl,by omega,rfl⟩;rintro k _ _ _ h ⟨i,rfl,rfl,rfl,C,rfl⟩;unfold oE;refine ee d.len ?_;by_cases hi:i<fr.length;rotate_left
 ·exact iJ H
 have g:=hO hi;obtain⟨o,p⟩:=j _ (zd hi);generalize fr[i]=x at*;obtain⟨l1,D,la,sa,p1,p2,p3,q,r,s,t⟩:=d.fw g;obtain⟨l2,E,lb,sb,c,u,v,w,y,z,A⟩:=e.fw g;refine gB (ee p1 (oF p2 (ee c (oF u (ee (nP ..) ?_)))));rw[show(x.func != x.func)=false by simp];refine fE (ee rfl (fE (ee rfl (fE (ee p1 (fE (ee pf (fE (ee p3 (fE (ee rfl (fE (ee rfl (fE (ee c (fE (ee pf (fE (ee v ?_)))))))))))))))))));refine mQ (by rw[nP,show(x.pc != x.pc)=false by simp]) ?_;refine fE (ee rfl (fE (ee rfl (fE (ee p1 (fE (ee pf (fE (ee q (fE (ee rfl (fE (ee rfl (fE (ee c (fE (ee pf (fE (ee w (po ?_))))))))))))))))))));refine Rr s.rdW z.rdW o ⟨jK _,mQ rfl ?_⟩;refine fE (ee rfl (fE (ee rfl (fE (ee p1 (fE (ee pf (fE (ee r (fE (ee rfl (fE (ee rfl (fE (ee c (fE (ee pf (fE (ee y (po ?_))))))))))))))))))));refine Rr t.rdW A.rdW p ⟨jK _,mQ rfl ?_⟩;refine jd (gg (by simp) (fM ⟨k-1,by omega,i+1,rfl,rfl,rfl,by omega,rfl⟩))
theorem QP(l:eo F h cs){i j:Nat}(hi:cs[i]? =some (ez lh Th [.I 100,mM]))(o:cs[j]? =some (eR (eI .u64) zT hp mM))(x:hp.length<1000000)
  (H:∀h' v lx,Sn F h F h'->eo F h' (ez lx 88 [.I 100,v]::eR (eI .u64) zT hp v::cs)->Q (.ptr lx 0) h') :
  cP CS iI [.ptr lh 0] h Q:=by
 refine AZ rfl rfl ?_;unfold sS;have p:eQ (.ptr lh (0+0)) h=some (.I 100):=l.ld i hi rfl;refine oN p ?_;rw[Fi,hV];obtain⟨b,e⟩:=l.VC (E:=eI .u64) (xs:=[]) zT (ws:=[]) (n:=0) rfl trivial rfl;have b:eo F (h.new (.cells 90 1 true false [])) (eR (eI .u64) zT [] (.slice h.next 0 0)::cs):=b;have e:Sn F h F (h.new (.cells 90 1 true false [])):=e;have c:∀{a:Pc},(a::cs)[i+1]? =some (ez lh Th [.I 100,mM]):=λ{_}=>by simpa using hi
 have f:∀{a:Pc},(a::cs)[j+1]? =some (eR (eI .u64) zT hp mM):=λ{_}=>by simpa using o
 refine oN (b.ld (i+1) c rfl) ⟨⟨fj _ _,bq⟩,b.ld (i+1) c rfl,?_⟩;obtain⟨v,y,q,r,d,s⟩:=b.ZL 0 (j+1) rfl f (j7:=8) (by decide) (by decide) (by simp;omega);rw[show fg 90 1 8 (.slice h.next 0 0) mM (h.new (.cells 90 1 true false []))=_ from q,ei];simp only[jo,No]at d;have g:=d.one 0 rfl;have k:fV [.I 0,.ef] [(0,1),(1,1)] [(0,.I 100),(1,v)]=some (.agg [.I 100,v]):=by
  rcases d.row 0 rfl with⟨rfl,_⟩|⟨t,u,rfl,_⟩ <;> rfl
 refine⟨r,ee k ?_⟩;refine Up d (by simp only[ey,g];rfl) λm w=>⟨⟨fj _ _,bq⟩,m.ld (i+2) (by simpa using hi) rfl,?_⟩
 exact H _ v _ ((e.trans s).trans w) m
theorem ZB{e b:Ex}{n:Nat}{fr:List Fw}{hq:List Int}(h:e.As b)(c:e = .left n fr hq):∃a,b = .left a fr hq/\a<=n:=by
 subst c
 cases b with
 |zW=>exact h.elim
 |left a d f=>obtain⟨g,rfl,rfl⟩:=h;exact⟨a,rfl,g⟩
 |stuck=>exact h.elim
end
open Un Dm
section
variable{F F':Nat->Prop}{h h':Hp}{cs ds:List Pc}{Q:fy}{u w:U}{vv vb vs wv wb ws vN mM:V}{hp locals xs:List Int}{lh Th:Nat}{gW:Int}{fuel:Nat}
theorem YC(g:Good u) (Z:Good w)(H0:eo F h (ez lh Th [.I 100,mM]::eR (eI .u64) zT hp mM::ds))(K:ym F h u vv vb vs)(L:ym F h w wv wb ws)(o:iq (eI .u64) F h locals vN)(M:locals.length<1000000000)(N:hp.length<1000000)(r:fuel<=1000000)
  (hR:(runM u locals gW fuel (fuel+1) none 0 (xX u hp)).As (runM w locals gW fuel (fuel+1) none 0 (xX w hp)))
  (H:∀F' h',Sn F h F' h'->eo F' h' (ez lh Th [.I 100,mM]::eR (eI .u64) zT hp mM::ds)->Q (.bool true) h') :
  cP CS km [.agg (uC u vv vb vs),.agg (uC w wv wb ws),.ptr lh 0,vN,.I gW,.I fuel] h Q:=by
 refine Fs rfl rfl ?_;unfold qM;refine jS H0 K.one λh1 H1 s1=>jS H1 L.one λh2 H2 s2=>?_;generalize h.next=l6 at*;generalize h1.next=l7 at*;refine QP H2 (i:=2) (j:=3) rfl rfl N λh3 xv lx s3 H3=>QP H3 (i:=4) (j:=5) rfl rfl N λO yv ly s4 P=>?_;have p:=((s1.trans s2).trans s3).trans s4;have k:∀{G:Nat->Prop} {hh:Hp} {e:Ex} {q:List Int} {a d:Int} {x:V} (b c:Int),ExR G hh e q a d x->gG [V.I a,.I b,.I c,x,.I d]=true:=λb c y=>by
  rcases y with⟨_,_,rfl⟩|⟨_,_,_,_,_,O,_⟩
  ·rfl
  ·simp only[ey,O.one];rfl
 refine ee (P.rh 5 rfl rfl) ?_;refine WK g (P.perm [2,3,0,1,4,5,6,7] 8 (by decide) (by decide) (by simp)) (K.since p) (o.since p) M (by omega) r λF5 h5 aa a b c d fw s5 H5 ab y=>?_;have A:=p.trans s5;refine gY H5 rfl rfl (k b c y) λh6 z R=>?_;generalize h5.next=S at*;have m:=A.trans R;refine oF (z.ld 0 rfl rfl) (ee (nP ..) ?_);rcases y with⟨_,rfl,_⟩|⟨n,fr,e1,rfl,rfl,r1,T⟩
 ·refine jd (gv rfl ?_);exact H F5 h6 m (z.perm [7,8] 9 (by decide) (by decide) (by simp))
 refine jd (gg (by simp) (ee (z.rh 5 rfl rfl) ?_));refine WK Z (z.perm [3,4,0,1,2,5,6,7,8] 9 (by decide) (by decide) (by simp)) (L.since m) (o.since m) M (by omega) r λF7 h7 ac a' b' c' d' B U H7 ae s=>?_;have C:=m.trans U;refine gY H7 rfl rfl (k b' c' s) λt l D=>?_;generalize h7.next=W at*;have E:=C.trans D;obtain⟨X,Y,hn⟩:=ZB hR e1;rcases s with⟨v,_,_⟩|⟨n2,ag,v,rfl,rfl,I,k2⟩
 ·rw[Y]at v;cases v
 rw[Y]at v;cases v;have J:(X:Int)<=(n:Int):=by omega
 have p4:eQ (.ptr S (0+4)) t=some (.I n):=l.ld 3 rfl rfl;have q4:eQ (.ptr W (0+4)) t=some (.I (X:Nat)):=l.ld 0 rfl rfl;have p3:eQ (.ptr S (0+3)) t=some fw:=l.ld 3 rfl rfl;have q3:eQ (.ptr W (0+3)) t=some B:=l.ld 0 rfl rfl;refine oF (l.ld 0 rfl rfl) (ee (gI ..) ?_);rw[show((1:Int) == 1)=true from rfl];refine fU (ee pf (fU (ee q4 (fU (ee pf (fU (ee p4 (ee (a:= .bool true) (by rw[mf,LR,Ke J]) ?_))))))));refine fU (ee pf (fU (ee p3 (fU (ee pf (fU (ee q3 (vf ?_))))))));have r1:=((r1.since R).since U).since D;have I:=I.since D;refine Vm r1 I (by have:=T.1;omega) (λf hf=>by have:=T.2 f hf;omega) ⟨jK _,ee (uA ..) ?_⟩;rw[if_pos rfl];refine fU (ee rfl (fU (ee pn (fU (ee pf (fU (ee (l.ld 4 rfl rfl) (fU (ee rfl (fU (ee pn (fU (ee pf (fU (ee (l.ld 1 rfl rfl) (vf ?_))))))))))))))));refine O3 (l.rdW 5 rfl) (l.rdW 2 rfl) (by omega) ⟨jK _,ee (uA ..) ?_⟩;rw[if_pos rfl];exact H F7 t E (l.perm [8,9] 10 (by decide) (by decide) (by simp))
end
open Un Dm
theorem zcw{C:ft}{f:Nat}{a:List V}{h:Hp}{K:fy}(H:K .undef h):oP (fD false (.bool true)) λb=>oP (gC b (some (f,a))) λy=>qo C y h K:=H
section
variable{F F':Nat->Prop}{h h':Hp}{cs ds:List Pc}{Q:fy}{mM lv:V}{hp ls:List Int}{lh Th:Nat}
theorem SP(c:eo F h cs)(H:∀h' v lx,Sn F h F h'->eo F h' (ez lx 88 [.I 100,v]::eR (eI .u64) zT [0] v::cs)->Q (.ptr lx 0) h'):cP CS mn [.I 100] h Q:=by
 refine CI rfl rfl ?_;unfold uZ;rw[An,fG];obtain⟨a,b⟩:=c.VC (E:=eI .u64) (xs:=[0]) zT (ws:=[.int .u64 0]) (n:=1) rfl ⟨_,[],rfl,⟨rfl,zJ⟩,trivial⟩ rfl;have a:eo F (h.new (.cells 90 1 true false [.int .u64 0])) (eR (eI .u64) zT [0] (.slice h.next 0 1)::cs):=a;have b:Sn F h F (h.new (.cells 90 1 true false [.int .u64 0])):=b;refine ee (show _=some (.agg [.I 100,.slice h.next 0 1]) from rfl) ?_;refine jS a rfl λd e f=>H d _ _ (b.trans f) e
theorem WJ(e:eo F h (ez lh Th [.I 100,mM]::eR (eI .u64) zT hp mM::ds))(K:hp.length<=100){t n:Nat}(W:t<=7)(X:n<=4)
  (H:∀h' b d r ok,Sn F h F h'->eo F h' (ez lh Th [.I 100,b]::eR (eI .u64) zT d b::ds)->d.length<=100->tI .u64 r->Q (.tuple [.int .u64 r,.bool ok]) h') :
  cP CS kL [.ptr lh 0,.I t,.I n] h Q:=by
 refine z6 rfl rfl ?_;unfold qw;have L:eQ (.ptr lh (0+0)) h=some (.I 100):=e.ld 0 rfl rfl;have p:eQ (.ptr lh (0+1)) h=some mM:=e.ld 0 rfl rfl;have B:=e.len 1 rfl;have f:mb .i64 (100-((hp.length:Nat):Int))=100-((hp.length:Nat):Int):=pK (by simp only[tI];omega);refine ee (jO ..) ?_;rw[Lh (show ¬((t:Nat):Int)<0 by omega)];refine mQ (by rw[fi,nQ,Lh (by omega)]) (mQ (by rw[fi,jO,Lh (by omega)]) (mQ (by rw[fi,nQ,Lh (by omega)]) ?_));refine ee (a:= .bool (decide (100-((hp.length:Nat):Int)<((n+1:Nat):Int)))) ?_ (jd ?_)
 ·simp only[mU,fi,gj,fe,L,p,B,mZ,zdp (n:=n) (by omega),pS,f,nQ]
 by_cases c:100-((hp.length:Nat):Int)<((n+1:Nat):Int)
 ·exact gv (Ke c) (H h mM hp 0 false (Sn.refl _ _) e K zJ)
 refine gg (by rw[BP];exact c) ?_;have g:tI .u64 ((hp.length:Nat):Int):=by simp only[tI];omega
 refine oN p (ee B (ee (by rw[jz,kU,Ko g]) (oN p (ee (by rw[jz,kU]) (ee (show ev .shl 90 (.int .u64 (Cc (t:Nat))) (.int .u64 32)=some (.int .u64 _) from rfl) (ee (by rw[jz,kU]) (ee (by rw[mZ,kU]) ?_)))))));generalize j:Cc (IntKind.wrap .u64 (Cc (t:Nat)*2 ^ min 32 IntKind.u64.bits)+Cc (n:Nat))=m;have q:tI .u64 m:=j▸E4 _;clear j;rw[An,fG];obtain⟨C,Y,M,_,s,N⟩:=e.uD 1 rfl (j7:=8) (Ca:=90) (y:=m) (w:=[.int .u64 m]) (ro:=false) ⟨rfl,q⟩ (by decide) (by decide) (by omega);rw[show fg 90 1 8 mM (.slice h.next 0 1) (h.new (.cells 90 1 true false [.int .u64 m]))=_ from M,ei];simp only[jo,l0]at s;obtain⟨Z,O,_,D,P⟩:=s.st 0 (o:=0+1) (u:=C) rfl (by simp) (s.one 1 rfl);refine ee (gj _ _) (ee pf ?_);rw[O,ei];simp only[jo,l0]at D
 obtain ⟨J,v⟩:∃J:Nat->LP,J=λk l h'=>∃(i:Nat) (b:V) (d:List Int),l=[.ptr lh 0,.I n,.int .u64 ((hp.length:Nat):Int),.I i]/\i+k=n/\Sn F h F h'/\d.length=hp.length+1+i/\
   eo F h' (ez lh Th [.I 100,b]::eR (eI .u64) zT d b::ds):=⟨_,rfl⟩
 refine yw J (λk x0 x2 x8 x9 x hi=>?_) (k:=n) ?_;rotate_left
 ·rw[v];exact⟨0,C,_,rfl,by omega,N.trans P,by simp,D⟩
 rw[v]at hi;obtain⟨i,b,d,⟨⟩,hk,E,R,z⟩:=hi;unfold pw;by_cases hi:i<n;rotate_left
 ·exact iJ (H x b d _ true E z (by omega) g)
 refine gB (oN (z.ld 0 rfl rfl) ?_);rw[An,fG];obtain⟨G,h4,S,_,A,s4⟩:=z.uD 1 rfl (j7:=8) (Ca:=90) (y:=0) (w:=[.int .u64 0]) (ro:=false) ⟨rfl,zJ⟩ (by decide) (by decide) (by omega);rw[show fg 90 1 8 b (.slice x.next 0 1) (x.new (.cells 90 1 true false [.int .u64 0]))=_ from S,ei];simp only[jo,l0]at A;obtain⟨h5,T,_,I,U⟩:=A.st 0 (o:=0+1) (u:=G) rfl (by simp) (A.one 1 rfl);refine ee (gj _ _) (ee pf ?_);rw[T,ei];simp only[jo,l0]at I;refine fM ⟨k-1,by omega,?_⟩;rw[v];exact⟨i+1,G,_,rfl,by omega,(E.trans s4).trans U,by rw[Ec,wBS];omega,I⟩
theorem zbO(b:eo F h (ez lh Th [.I 100,mM]::eR (eI .u64) zT hp mM::ds))(d:hp.length<=100){r x:Int}{k:Nat}(e:tI .u64 r)(f:tI .u64 x)(n:k<=1000)
  (H:∀h' a ok,Sn F h F h'->eo F h' (ez lh Th [.I 100,mM]::eR (eI .u64) zT a mM::ds)->a.length<=100->Q (.bool ok) h') :
  cP CS lL [.ptr lh 0,.int .u64 r,.I k,.int .u64 x] h Q:=by
 refine BL rfl rfl ?_;unfold tO;refine ee (gI ..) ?_;by_cases z:r=0
 ·rw[show(r == 0)=true from C9.2 z];refine ee (show nt (.bool true) _=some (.bool true) from rfl) (N0 (N0 (N0 (zcw (ee (show nt (.bool true) _=some (.bool true) from rfl) (jd (gv rfl (H h hp false (Sn.refl _ _) b d))))))))
 rw[show(r == 0)=false from Nj.2 z];refine mQ (by rw[fi,jO,Lh (by omega)]) (fE (ee rfl (fE (ee rfl (fE (ee rfl (po (X0 b (i:=0) (j:=1) rfl rfl (by omega) e λ_=>?_))))))));refine ee (by rw[mU,nW]) (jd ?_);by_cases c:ug hp r % 4294967296<=((k:Nat):Int)
 ·exact gv (Ke c) (H h hp false (Sn.refl _ _) b d)
 refine gg (by rw[BP];exact c) (ee (by rw[mZ,kU]) (ee (by rw[jz,kU]) (ee (by rw[mZ,kU]) (SR b (i:=0) (j:=1) rfl rfl (by omega) (E4 _) f λg ok l m=>?_))));exact H g _ ok l m (by rw[LJ];exact d)
theorem za4{x:Int}(a:tI .u64 x)(m:Nat):tI .u64 (x.fdiv (2 ^ m)):=by
 simp only[tI]at*;have b:(0:Int)<2 ^ m:=Int.pow_pos (by decide);rw[Int.fdiv_eq_ediv_of_nonneg _ (Int.le_of_lt b)];exact⟨Int.ediv_nonneg a.1 (Int.le_of_lt b),Int.le_trans (Int.ediv_le_self _ a.1) a.2⟩
theorem SK(I:eo F h cs)(e:iq (eI .u64) F h ls lv)(H:∀h' lx v hp,Sn F h F h'->eo F h' (ez lx 88 [.I 100,v]::eR (eI .u64) zT hp v::cs)->hp.length<=100->Q (.ptr lx 0) h') :
  cP CS mq [lv] h Q:=by
 refine CW rfl rfl ?_;unfold uT;refine SP I λh1 K lx L M=>?_;obtain⟨J,m⟩:∃J:Nat->LP,J=λk l h'=>∃(i:Nat) (v:V) (hp:List Int),l=[lv,.ptr lx 0,.I i]/\i+k=8/\Sn F h F h'/\hp.length<=100/\eo F h' (ez lx 88 [.I 100,v]::eR (eI .u64) zT hp v::cs):=⟨_,rfl⟩
 refine Af J (λk N O P R hi=>?_) (k:=8) ?_;rotate_left
 ·rw[m];exact⟨0,K,_,rfl,rfl,L,by simp,M⟩
 rw[m]at hi;obtain⟨i,S,o,⟨⟩,hk,p,f,C⟩:=hi;unfold qR;have D:=e.since p;refine ee D.len (ee (jO ..) (ee (a:= .bool (decide (i<ls.length/\i<8))) ?_ (jd ?_)))
 ·by_cases c:i<ls.length
  ·rw[Ke (show((i:Nat):Int)<(ls.length:Nat) by omega),mf,fi,jO];congr 2;exact decide_eq_decide.2 (by omega)
  ·rw[Lh (show ¬((i:Nat):Int)<(ls.length:Nat) by omega),Dk,Lh λh=>c h.1]
 by_cases c:i<ls.length/\i<8;rotate_left
 ·exact gg (by rw[BP];exact c) (H R lx S o p C f)
 have E:=hO c.1;generalize ls[i]=x at*;obtain⟨l1,o1,_,p1,p2,p3⟩:=D.word E .i64;have b:=p3;simp only[tI]at b;have T:0<=x.tmod 5/\x.tmod 5<=4:=by rw[Int.tmod_eq_emod_of_nonneg b.1];omega
 have U:0<=x.tmod 3/\x.tmod 3<=2:=by rw[Int.tmod_eq_emod_of_nonneg b.1];omega
 obtain⟨n,W⟩:=wBG T.1;obtain⟨t,X⟩:=wBG U.1;refine gv (Ke c) (ee p1 (ee p2 (ee (show ev .rem 90 (.int .u64 x) (.int .u64 5)=some (.int .u64 (x.tmod 5)) from rfl) (ee (show _=some (.I n) by rw[jz,W,Gv (by omega)]) (ee p1 (ee p2 (ee (show ev .rem 90 (.int .u64 x) (.int .u64 3)=some (.int .u64 (x.tmod 3)) from rfl) (ee (show _=some (.I t) by rw[jz,X,Gv (by omega)]) (ee (show ev .add 3 (.I 5) (.I t)=some (.I ((5+t:Nat):Int)) by rw[mZ,show(5:Int)+(t:Nat)=((5+t:Nat):Int) by omega,Gv (by omega)]) ?_)))))))));refine WJ C f (by omega) (by omega) λh3 q s r ok Y Z u hr=>?_;refine ee (show HO 0 (.tuple [_,_])=_ from rfl) (ee (show HO 1 (.tuple [_,_])=_ from rfl) ?_);have w:=p.trans Y;obtain⟨y,d⟩:∃y:Nat->LP,y=λk l h'=>∃(j:Nat) (hp:List Int),l=[lv,.ptr lx 0,.I i,.I n,.int .u64 r,.bool ok,.I j]/\j+k=n/\Sn F h F h'/\hp.length<=100/\eo F h' (ez lx 88 [.I 100,q]::eR (eI .u64) zT hp q::cs):=⟨_,rfl⟩
 refine Av y (λk1 N O P x5 x6 x7 x8 h4 hi=>?_) (k:=n) ?_;rotate_left
 ·rw[d];exact⟨0,s,rfl,by omega,w,u,Z⟩
 rw [d]at hi;obtain⟨j,z,⟨⟩,aa,s4,g,G⟩:=hi;unfold qx;have out:J (k-1) [lv,.ptr lx 0,.I ((i+1:Nat):Int)] h4:=by
  rw[m];exact⟨i+1,q,z,rfl,by omega,s4,g,G⟩
 refine ee (a:= .bool (ok&&decide (j<n))) ?_ (jd ?_)
 ·cases ok
  ·rfl
  ·rw[mf,fi,fi,jO,wB7];congr 2;exact decide_eq_decide.2 (by omega)
 by_cases cj:ok=true/\j<n;rotate_left
 ·refine gg (by rw[vR,BP];exact cj) (fM ⟨k-1,by omega,out⟩)
 obtain⟨l2,o2,_,q1,q2,_⟩:=(e.since s4).word E .i64;refine gv (by rw[vR,BP];exact cj) (ee q1 (ee q2 (ee (show ev .mul 3 (.I j) (.I 9)=some (.I ((j*9:Nat):Int)) by rw[Rt,show((j:Nat):Int)*9=((j*9:Nat):Int) by omega,Gv (by omega)]) (ee (show _=some (.int .u64 ((j*9:Nat):Int)) by rw[jz,kU,Ko (by simp only[tI];omega)]) (ee (show ev .shr 90 (.int .u64 x) (.int .u64 ((j*9:Nat):Int))=some (.int .u64 (x.fdiv (2 ^ min (j*9) 64))) from rfl) ?_)))));refine zbO G g hr (za4 p3 _) (by omega) λh5 A _ s5 H5 B=>?_;refine fM ⟨k1-1,by omega,?_⟩;rw[d];exact⟨j+1,A,rfl,by omega,s4.trans s5,B,H5⟩
theorem Vy(q:eo F h cs)(b:iq (eI .u64) F h ls lv)(H:∀F' h' v xs,Sn F h F' h'->eo F' h' cs->iq (eI .u64) F' h' xs v->xs.length<=6->Q v h'):cP CS mL [lv] h Q:=by
 refine DV rfl rfl ?_;unfold wI;obtain⟨J,d⟩:∃J:Nat->LP,J=λk l h'=>∃(i:Nat) (v:V) (xs:List Int),l=[lv,v,.I i]/\i+k=6/\Sn F h F h'/\xs.length=i/\eo F h' (eR (eI .u64) zT xs v::cs):=⟨_,rfl⟩
 refine A0 J (λk z v A e hi=>?_) (k:=6) ?_;rotate_left
 ·rw[d];exact⟨0,.ef,[],rfl,rfl,Sn.refl _ _,rfl,q.add (p:=eR (eI .u64) zT [] .ef) .nil λ_ h=>h⟩
 rw[d]at hi;obtain⟨i,_,xs,⟨⟩,B,f,g,n⟩:=hi;unfold sk;have o:=b.since f;refine ee o.len (ee (jO ..) (ee (a:= .bool (decide (i<ls.length/\i<6))) ?_ (jd ?_)))
 ·by_cases c:i<ls.length
  ·rw[Ke (show((i:Nat):Int)<(ls.length:Nat) by omega),mf,fi,jO];congr 2;exact decide_eq_decide.2 (by omega)
  ·rw[Lh (show ¬((i:Nat):Int)<(ls.length:Nat) by omega),Dk,Lh λh=>c h.1]
 by_cases c:i<ls.length/\i<6;rotate_left
 ·obtain⟨j,m,r⟩:=n.ma 0 rfl;exact gg (by rw[BP];exact c) (H _ e v xs (f.trans m) j.tail r (by omega))
 have s:=hO c.1;generalize ls[i]=x at*;obtain⟨l1,C,_,p1,p2,p3⟩:=o.word s .i64;refine gv (Ke c) (ee p1 (ee p2 ?_));rw[An,fG];obtain⟨t,D,u,_,j,m⟩:=n.uD 0 rfl (j7:=8) (Ca:=90) (y:=x) (w:=[.int .u64 x]) (ro:=false) ⟨rfl,p3⟩ (by decide) (by decide) (by omega);rw[show fg 90 1 8 v (.slice e.next 0 1) (e.new (.cells 90 1 true false [.int .u64 x]))=_ from u,ei];refine fM ⟨k-1,by omega,?_⟩;rw[d];exact⟨i+1,t,_,rfl,by omega,f.trans m,by rw[Ec,wBS,g],j⟩
end
open Un Dm
theorem TJ{X:Option V}{K:Bool->V->Prop}(h:oP X (K true)):oP (fD false (.bool false)) λb=>oP (gV b X) (K b):=h
section
variable{u:U}
theorem XK{n:Nat}(h:n<1000000000):ev .sub 3 (.I n) (.I 1)=some (.I ((n:Nat)-1:Int)):=by
 rw[pS,pK (by simp only[tI];omega)]
theorem YE{az:List Int}{n:Nat}(a:az.length=n)(v:Nat)(hv:n<=v):qZ az v = -1:=by
 unfold qZ;rw[G2,NT (by omega)];rfl
end
open Un Dm
section
variable{F F':Nat->Prop}{h h':Hp}{cs ds:List Pc}{Q:fy}{u:U}{vv vb vs wv wb ws:V}
theorem Qc{op:Nat}(H:∀b,Q (.bool b) h):cP CS wT [.I op] h Q:=by
 refine LQ rfl rfl ?_;unfold Fj;simp only[fi,gI,Uo,qK];exact H _
theorem Sj(p:eo F h cs){x:Vl}{i j:V}(k:iq eN F h x.args i)(l:iq eN F h x.args j)(m:x.args.length<=1000000)(H:∀F' h',Sn F h F' h'->eo F' h' cs->Q (.bool true) h'):cP CS pU [.agg (mI x i),.agg (mI x j)] h Q:=by
 refine Np rfl rfl ?_;unfold Hw;refine jS p (by simp only[mI,ey,k.one];rfl) λq r s=>jS r (by simp only[mI,ey,l.one];rfl) λy d t=>?_;have a:=s.trans t;generalize h.next=l1 at*;generalize q.next=l2 at*;refine oF (d.ld 1 rfl rfl) (oF (d.ld 0 rfl rfl) (ee (nP ..) ?_));rw[show(((x.op:Nat):Int) != ((x.op:Nat):Int))=false by simp];refine fE (ee (d.rh 1 rfl rfl) (TJ (ee (d.rh 0 rfl rfl) (po ?_))));refine IT d (k.since a) (λ_=>m) λz A xv e n u=>⟨e.next,n.rh 0 rfl rfl,po ?_⟩
 refine IT n ((l.since a).since e) (λ_=>m) λv o B s4 c r4=>⟨s4.next,po ?_⟩
 have f:(jk x).length<1000000000:=by
  unfold jk;split
  ·omega
  ·split
   ·simp only[KB,Ip];omega
   ·split
    ·simp
    ·split <;> simp
 refine Ax (u.since s4) r4 f ⟨jK _,mQ rfl ?_⟩;have g:=(a.trans e).trans s4;have out:∀b:Bool,b=true->Q (.bool b) o:=λb w=>w▸H v o g c.tail.tail;refine jd (gg (by simp) (oF (c.ld 1 rfl rfl) (Qc λb=>jd ?_)))
 cases b with
 |true=>exact gv rfl (oF (c.ld 1 rfl rfl) (oF (c.ld 0 rfl rfl) (ee (gI ..) (out _ (by simp)))))
 | false=>
   refine gg (by simp) (oF (c.ld 1 rfl rfl) (GJ (jd ?_)))
   cases leaves x.op with
   |true=>exact gv rfl (oF (c.ld 1 rfl rfl) (oF (c.ld 0 rfl rfl) (ee (gI ..) (out _ (by simp)))))
   |false=>exact gg (by simp) (out true rfl)
theorem PI(o:eo F h cs){x:Bk}{xv i j k l m:V}(hv:iq eN F h x.eh xv)(n:iq eN F h x.next i)(hp:iq eN F h x.fh j) (e:iq eN F h x.eh k) (f:iq eN F h x.next l) (g:iq eN F h x.fh m)(l1:x.eh.length<1000000000)(l2:x.next.length<1000000000)(l3:x.fh.length<1000000000)
  (H:∀F' h',Sn F h F' h'->eo F' h' cs->Q (.bool true) h'):cP CS nK [.agg (kE x xv i j),.agg (kE x k l m)] h Q:=by
 refine K3 rfl rfl ?_;unfold Eo;refine jS o (by simp only[kE,ey,hv.one,n.one,hp.one];rfl) λp q r=>jS q (by simp only[kE,ey,e.one,f.one,g.one];rfl) λd c s=>?_;have b:=r.trans s;generalize h.next=la at*;generalize p.next=lb at*;have a1:eQ (.ptr la (0+1)) d=some (.I x.fin):=c.ld 1 rfl rfl;have a2:eQ (.ptr la (0+2)) d=some (.I x.cond):=c.ld 1 rfl rfl;have t:eQ (.ptr la (0+5)) d=some (.I x.state):=c.ld 1 rfl rfl;have b1:eQ (.ptr lb (0+1)) d=some (.I x.fin):=c.ld 0 rfl rfl;have b2:eQ (.ptr lb (0+2)) d=some (.I x.cond):=c.ld 0 rfl rfl;have u:eQ (.ptr lb (0+5)) d=some (.I x.state):=c.ld 0 rfl rfl;refine oF a1 (oF b1 (ee (nP ..) ?_));rw[show(((x.fin:Nat):Int) != ((x.fin:Nat):Int))=false by simp];refine fE (ee pf (fE (ee (c.ld 1 rfl rfl) (fE (ee pf (fE (ee (c.ld 0 rfl rfl) (po ?_))))))));refine Ax (hv.since b) (e.since b) l1 (mQ rfl ?_);refine fE (ee pf (fE (ee (c.ld 1 rfl rfl) (fE (ee pf (fE (ee (c.ld 0 rfl rfl) (po ?_))))))));refine Ax (n.since b) (f.since b) l2 (mQ rfl ?_);refine fE (ee pf (fE (ee (c.ld 1 rfl rfl) (fE (ee pf (fE (ee (c.ld 0 rfl rfl) (po ?_))))))));refine Ax (hp.since b) (g.since b) l3 (mQ rfl ?_);refine jd (gg (by simp) (oF a1 (ee (nP ..) (ee (a:= .bool true) ?_ (ee (a:= .bool true) ?_ (H F d b c.tail.tail))))))
 ·simp only[qK,fi,fe,a2,b2,gI,beq_self_eq_true,Bool.or_true]
 ·simp only[mf,qK,fi,fe,a1,t,u,nP,gI,beq_self_eq_true,Bool.or_true]
theorem OO(m:eo F h cs){x:Fm}{g i j k:V}(l:iq eN F h x.locals g)(hs:iq eN F h x.stack i) (d:iq eN F h x.locals j) (e:iq eN F h x.stack k)(l1:x.locals.length<1000000000)(l2:x.stack.length<1000000000)
  (H:∀F' h',Sn F h F' h'->eo F' h' cs->Q (.bool true) h'):cP CS mr [.agg (JD x g i),.agg (JD x j k)] h Q:=by
 refine Jk rfl rfl ?_;unfold BE;refine jS m (by simp only[JD,ey,l.one,hs.one];rfl) λn o p=>jS o (by simp only[JD,ey,d.one,e.one];rfl) λf c q=>?_;have b:=p.trans q;generalize h.next=la at*;generalize n.next=lb at*;have a1:eQ (.ptr la (0+1)) f=some (.I x.pc):=c.ld 1 rfl rfl;have b1:eQ (.ptr lb (0+1)) f=some (.I x.pc):=c.ld 0 rfl rfl;refine oF (c.ld 1 rfl rfl) (oF (c.ld 0 rfl rfl) (ee (gI ..) (ee (a:= .bool true) ?_ ?_)))
 ·rw[beq_self_eq_true,mf];simp only[fi,fe,a1,b1,gI,beq_self_eq_true]
 refine fU (ee pf (fU (ee (c.ld 1 rfl rfl) (fU (ee pf (fU (ee (c.ld 0 rfl rfl) (vf ?_))))))));refine Ax (l.since b) (d.since b) l1 (ee (uA ..) ?_);rw[if_pos rfl];refine fU (ee pf (fU (ee (c.ld 1 rfl rfl) (fU (ee pf (fU (ee (c.ld 0 rfl rfl) (vf ?_))))))));refine Ax (hs.since b) (e.since b) l2 (ee (uA ..) ?_);rw[if_pos rfl];exact H F f b c.tail.tail
theorem UZ(g:UG u)(r:eo F h cs)(b:ym F h u vv vb vs)(n:ym F h u wv wb ws)(H:∀F' h',Sn F h F' h'->eo F' h' cs->Q (.bool true) h') :
  cP CS gR [vv,wv,.func pU [] []] h Q:=by
 refine m0 rfl rfl ?_;unfold jH;have nv:=g.nv;refine ee b.v.len (ee n.v.len (xe (gv rfl (ee b.v.len ?_))));obtain⟨I,c⟩:∃I:Nat->LP,I=λk l h'=>∃(F':Nat->Prop) (i:Nat),l=[wv,.func pU [] [],vv,.I u.eh.length,.I i]/\i+k=u.eh.length/\Sn F h F' h'/\eo F' h' cs:=⟨_,rfl⟩
 refine mD I (λk G J s t w y hi=>?_) (k:=u.eh.length) ?_;rotate_left
 ·rw[c];exact⟨F,0,rfl,by omega,Sn.refl _ _,r⟩
 rw[c]at hi;obtain⟨z,i,⟨⟩,K,a,o⟩:=hi;unfold jn;by_cases hi:i<u.eh.length;rotate_left
 ·exact iJ (H z y a o)
 have d:=hO hi;generalize u.eh[i]=x at*;have e:x.args.length<=1000000:=II (g.args i x d) (by decide);obtain⟨l1,L,M,_,p1,p2,p,_⟩:=(b.since a).val d;refine gB (ee p1 (ee p2 ?_));refine gY o rfl rfl (by simp only[mI,ey,p.one];rfl) λN A f=>?_;obtain⟨l2,O,P,_,B,C,q,_⟩:=((n.since a).since f).val d;refine ee B (ee C ?_);refine gY A rfl rfl (by simp only[mI,ey,q.one];rfl) λR j m=>?_;refine ee (j.rh 1 rfl rfl) (ee (j.rh 0 rfl rfl) ?_);simp only[xY,zR,No,wBq];refine Sj j ((p.since f).since m) (q.since m) e λD S s4 E=>?_;refine ee rfl (jd (gg (by simp) (fM ⟨k-1,by omega,?_⟩)));rw[c];exact⟨D,i+1,rfl,by omega,((a.trans f).trans m).trans s4,E.tail.tail⟩
theorem QI(g:Good u)(t:eo F h cs)(f:ym F h u vv vb vs)(n:ym F h u wv wb ws)(H:∀F' h',Sn F h F' h'->eo F' h' cs->Q (.bool true) h') :
  cP CS gy [vb,wb,.func nK [] []] h Q:=by
 refine lJ rfl rfl ?_;unfold iY;have nb:=g.nb;refine ee f.b.len (ee n.b.len (xe (gv rfl (ee f.b.len ?_))));obtain⟨I,j⟩:∃I:Nat->LP,I=λk l h'=>∃(F':Nat->Prop) (i:Nat),l=[wb,.func nK [] [],vb,.I u.blocks.length,.I i]/\i+k=u.blocks.length/\Sn F h F' h'/\eo F' h' cs:=⟨_,rfl⟩
 refine kQ I (λk J K v w x y hi=>?_) (k:=u.blocks.length) ?_;rotate_left
 ·rw[j];exact⟨F,0,rfl,by omega,Sn.refl _ _,t⟩
 rw[j]at hi;obtain⟨z,i,⟨⟩,L,e,o⟩:=hi;unfold iO;by_cases hi:i<u.blocks.length;rotate_left
 ·exact iJ (H z y e o)
 have c:=hO hi;generalize u.blocks[i]=B at*;have M:=zQ g c;have N:=CP g c;have O:=Am g c;obtain⟨l1,P,xv,R,S,_,p1,p2,r1,p,q,_⟩:=(f.since e).oW c;refine gB (ee p1 (ee p2 ?_));refine gY o rfl rfl (by simp only[kE,ey,r1.one,p.one,q.one];rfl) λT A d=>?_;obtain⟨l2,U,V,W,X,_,C,D,r,s,t3,_⟩:=((n.since e).since d).oW c;refine ee C (ee D ?_);refine gY A rfl rfl (by simp only[kE,ey,r.one,s.one,t3.one];rfl) λY m a=>?_;refine ee (m.rh 1 rfl rfl) (ee (m.rh 0 rfl rfl) ?_);simp only[xY,zR,No,wBq];refine PI m ((r1.since d).since a) ((p.since d).since a) ((q.since d).since a) (r.since a) (s.since a) (t3.since a) (by omega) (by omega) (by omega) λE Z s4 G=>?_;refine ee rfl (jd (gg (by simp) (fM ⟨k-1,by omega,?_⟩)));rw[j];exact⟨E,i+1,rfl,by omega,((e.trans d).trans a).trans s4,G.tail.tail⟩
theorem Qq(t:eo F h cs){fs:List Fm}{a b:V}(g:iq eF F h fs a)(n:iq eF F h fs b)(J:fs.length<=1000000)(u:∀f∈fs,f.locals.length<=1000/\f.stack.length<=1000)(H:∀F' h',Sn F h F' h'->eo F' h' cs->Q (.bool true) h') :
  cP CS gz [a,b,.func mr [] []] h Q:=by
 refine lI rfl rfl ?_;unfold iZ;refine ee g.len (ee n.len (xe (gv rfl (ee g.len ?_))));obtain⟨I,j⟩:∃I:Nat->LP,I=λk l h'=>∃(F':Nat->Prop) (i:Nat),l=[b,.func mr [] [],a,.I fs.length,.I i]/\i+k=fs.length/\Sn F h F' h'/\eo F' h' cs:=⟨_,rfl⟩
 refine kP I (λk K L v w y z hi=>?_) (k:=fs.length) ?_;rotate_left
 ·rw[j];exact⟨F,0,rfl,by omega,Sn.refl _ _,t⟩
 rw[j]at hi;obtain⟨A,i,⟨⟩,M,d,o⟩:=hi;unfold iR;by_cases hi:i<fs.length;rotate_left
 ·exact iJ (H A z d o)
 have p:=hO hi;obtain⟨N,O⟩:=u _ (zd hi);generalize fs[i]=x at*;obtain⟨l1,P,R,S,_,p1,p2,r1,q⟩:=(g.since d).pg p;refine gB (ee p1 (ee p2 ?_));refine gY o rfl rfl (by simp only[JD,ey,r1.one,q.one];rfl) λT B e=>?_;obtain⟨l2,U,W,X,_,C,D,r,s⟩:=((n.since d).since e).pg p;refine ee C (ee D ?_);refine gY B rfl rfl (by simp only[JD,ey,r.one,s.one];rfl) λY m c=>?_;refine ee (m.rh 1 rfl rfl) (ee (m.rh 0 rfl rfl) ?_);simp only[xY,zR,No,wBq];refine OO m ((r1.since e).since c) ((q.since e).since c) (r.since c) (s.since c) (by omega) (by omega) λE Z s4 G=>?_;refine ee rfl (jd (gg (by simp) (fM ⟨k-1,by omega,?_⟩)));rw[j];exact⟨E,i+1,rfl,by omega,((d.trans e).trans c).trans s4,G.tail.tail⟩
theorem Ro(g:Good u)(x:eo F h cs)(e:ym F h u vv vb vs)(r:ym F h u wv wb ws)(H:∀F' h',Sn F h F' h'->eo F' h' cs->Q (.bool true) h') :
  cP CS gw [vs,ws,.func pG [] []] h Q:=by
 refine lF rfl rfl ?_;unfold iX;have ns:=g.ns;refine ee e.s.len (ee r.s.len (xe (gv rfl (ee e.s.len ?_))));obtain⟨I,j⟩:∃I:Nat->LP,I=λk l h'=>∃(F':Nat->Prop) (i:Nat),l=[ws,.func pG [] [],vs,.I u.en.length,.I i]/\i+k=u.en.length/\Sn F h F' h'/\eo F' h' cs:=⟨_,rfl⟩
 refine kO I (λk R S y z A B hi=>?_) (k:=u.en.length) ?_;rotate_left
 ·rw[j];exact⟨F,0,rfl,by omega,Sn.refl _ _,x⟩
 rw[j]at hi;obtain⟨C,i,⟨⟩,T,d,t⟩:=hi;unfold iQ;by_cases hi:i<u.en.length;rotate_left
 ·exact iJ (H C B d t)
 have c:=hO hi;generalize u.en[i]=fs at*;obtain⟨_,D,E⟩:=g.st i fs c;obtain⟨l1,U,V,_,p1,p2,_,r1⟩:=(e.since d).st c;refine gB (ee p1 (ee p2 ?_));refine gY t rfl rfl (by simp only[ey,r1.one];rfl) λW G m=>?_;obtain⟨l2,X,Y,_,J,K,_,v⟩:=((r.since d).since m).st c;refine ee J (ee K ?_);refine gY G rfl rfl (by simp only[ey,v.one];rfl) λZ n o=>?_;refine ee (n.rh 1 rfl rfl) (ee (n.rh 0 rfl rfl) ?_);simp only[xY,zR,No,wBq];refine K5 rfl rfl ?_;unfold Et;have w:=(r1.since m).since o;have t3:=v.since o;refine jS n (by simp only[ey,w.one];rfl) λh4 L s4=>jS L (by simp only[ey,t3.one];rfl) λh5 p q=>?_;refine oF (p.ld 1 rfl rfl) (oF (p.ld 0 rfl rfl) ?_);refine Qq p ((w.since s4).since q) ((t3.since s4).since q) (by omega) (λf M=>by obtain⟨a,b,_⟩:=E f M;omega) λN h6 O P=>?_;refine ee rfl (jd (gg (by simp) (fM ⟨k-1,by omega,?_⟩)));rw[j];exact⟨N,i+1,rfl,by omega,((((d.trans m).trans o).trans s4).trans q).trans O,P.tail.tail.tail.tail⟩
theorem YT(g:Good u)(m:Qz u)(n:eo F h cs)(f:ym F h u vv vb vs)(i:ym F h u wv wb ws)(H:∀F' h',Sn F h F' h'->eo F' h' cs->Q (.bool true) h') :
  cP CS DN [.agg (uC u vv vb vs),.agg (uC u wv wb ws)] h Q:=by
 refine Sc rfl rfl ?_;unfold LS;refine jS n f.one λo p q=>jS p i.one λl b r=>?_;have c:=q.trans r;generalize h.next=la at*;generalize o.next=lb at*;have a1:eQ (.ptr la (0+1)) l=some (.I u.pc):=b.ld 1 rfl rfl;have b1:eQ (.ptr lb (0+1)) l=some (.I u.pc):=b.ld 0 rfl rfl;refine oF (b.ld 1 rfl rfl) (oF (b.ld 0 rfl rfl) (ee (gI ..) (ee (a:= .bool true) ?_ ?_)))
 ·rw[beq_self_eq_true,mf];simp only[fi,fe,a1,b1,gI,beq_self_eq_true]
 refine fU (ee pf (fU (ee (b.ld 1 rfl rfl) (fU (ee pf (fU (ee (b.ld 0 rfl rfl) (vf ?_))))))));refine UZ (IB g m) b (f.since c) (i.since c) λy z s j=>ee (uA ..) ?_;rw[if_pos rfl];have d:=c.trans s;refine fU (ee pf (fU (ee (j.ld 1 rfl rfl) (fU (ee pf (fU (ee (j.ld 0 rfl rfl) (vf ?_))))))));refine QI g j (f.since d) (i.since d) λA B s4 k=>ee (uA ..) ?_;rw[if_pos rfl];have e:=d.trans s4;refine fU (ee pf (fU (ee (k.ld 1 rfl rfl) (fU (ee pf (fU (ee (k.ld 0 rfl rfl) (vf ?_))))))));refine Ro g k (f.since e) (i.since e) λt v w x=>ee (uA ..) ?_;rw[if_pos rfl];exact H t v (e.trans w) x.tail.tail
end
open Un Dm
section
variable{F F':Nat->Prop}{h h':Hp}{cs ds:List Pc}{Q:fy}{u:U}{vv vb vs:V}
theorem St(H:Q (.bool true) h):cP CS pC [] h Q:=by
 obtain⟨fn,c,a,b⟩:=Oz;exact cP.known a b (show CS.K pC [] h=some (.bool true) from rfl) rfl rfl H
theorem Qv{ops a ls n:List Int}{np gW:Int}{vo o lv vN:V}(H0:eo F h cs)(p:iq (eI .i64) F h ops vo)(q:iq (eI .i64) F h a o)(t:iq (eI .u64) F h ls lv)(y:iq (eI .u64) F h n vN)(ho:ops.length<9223372036854775808)(H:∀h',Q (.bool true) h') :
  cP CS nH [.agg [vo,o,.I np],lv,vN,.I gW] h Q:=by
 refine A1 rfl rfl ?_;unfold sX;refine jS H0 (by simp only[ey,p.one,q.one];rfl) λh1 R z=>?_;refine ee (R.rh 0 rfl rfl) ?_;refine ZE R (p.since z) (q.since z) ho λF2 S T s2 H2 hw=>?_;have g:Good (Hg ops a np):=Vn ops a np;have a0:Qz (Hg ops a np):=λv x hx=>II (ZG ops a np x (Ik hx)) (by decide);generalize Hg ops a np=u at*;obtain⟨vv,vb,vs,rfl,w1,T,w3⟩:=hw;have A:ym F2 S u vv vb vs:=⟨w1,T,w3⟩
 refine gY H2.tail rfl rfl A.one λh3 U B=>?_;generalize S.next=lu at*;refine ee (U.rh 0 rfl rfl) ?_;refine UM (IB g a0) U (A.since B) λF4 h4 wv wb ws xs bs ss fa fn fl s4 hc hb hs H4=>?_;obtain⟨G,H5,W,X⟩:=H4.Wj hc hb hs;refine gY H5 rfl rfl X.one λh6 Y C=>?_;generalize h4.next=lc at*;refine ee (Y.rh 1 rfl rfl) ?_;have D:=((((z.trans s2).trans B).trans s4).trans W).trans C;have Z:=(((A.since B).since s4).since W).since C;refine Y5 g a0 Y Z λF7 h7 az xv xb aa E H7 d I J=>?_;have e:=YE I;have g2:=Vi g (d.fit g e);have hR:=λlocals gW heap=>Vv g d e locals gW 1500 1501 heap;generalize ji u (qZ az)=w at*;refine gY H7 rfl rfl J.one λh8 K r=>?_;generalize h7.next=lw at*;have L:=(D.trans E).trans r;have u8:=(Z.since E).since r;have c8:=((X.since C).since E).since r;refine St (T7 (TJ (ee (K.rh 2 rfl rfl) (TJ (ee (K.rh 1 rfl rfl) (po ?_))))));refine YT g a0 K u8 c8 λF9 h9 s H9=>mQ rfl (TJ (ee (H9.rh 0 rfl rfl) (po ?_)));refine Q0 g2 H9 ((J.since r).since s) λab ac i j=>mQ rfl ?_;have f:=(L.trans s).trans i;have M:=(u8.since s).since i;have N:=((J.since r).since s).since i;refine jd (gg (by simp) (ee (j.rh 2 rfl rfl) (ee (j.rh 0 rfl rfl) ?_)));refine SK j (t.since f) λae lx mM hp c k ag=>⟨c.next,k.rh 2 rfl rfl,k.rh 4 rfl rfl,?_⟩
 refine Vy k ((y.since f).since c) λah ai yv ys l b r12 aj=>⟨l.next,b.rh 2 rfl rfl,b.rh 4 rfl rfl,?_⟩
 refine Lw (m:=9) (by decide) (by decide) ⟨jK _,ee (XK (by have:=FB gW (m:=9) (by decide);omega)) ⟨b.rh 2 rfl rfl,b.rh 4 rfl rfl,?_⟩⟩;refine YC (fuel:=1500) g g2 b ((M.since c).since l) ((N.since c).since l) r12 (by omega) (by omega) (by decide) (hR _ _ _) λak O P al=>⟨P.next,?_⟩
 exact H O
end
