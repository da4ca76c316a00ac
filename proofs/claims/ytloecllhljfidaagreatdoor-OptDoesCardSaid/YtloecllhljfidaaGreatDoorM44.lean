/- Parts. -/
import Derived.Test.YtloecllhljfidaaGreatDoorM43
import Derived.Test.YtloecllhljfidaaGreatDoorM40
import Derived.Test.YtloecllhljfidaaGreatDoorM51
import Derived.Test.YtloecllhljfidaaGreatDoorM54
import Derived.Test.YtloecllhljfidaaGreatDoorM55
set_option maxHeartbeats 4000000
namespace Go.Proofs.YtloecllhljfidaaGreatDoor.Hx
open Un Dm
structure RdW (h:Hp) (xs:List Int) (v:V):Prop where
 len:fE v=some (.I xs.length)
 at_:∀k x,xs[k]? =some x->∃l o,gB 1 v (.I (k:Nat))=some (.ptr l o)/\fe (.ptr l o) h=some (.int .u64 x)
section
variable{F F':Nat->Prop}{h h':Hp}{cs ds:List Pc}{Q:fq}{u w:U}{vv vb vs wv wb ws xA rm oS:V}{hp locals xs:List Int}{lh Th:Nat}{gv:Int}{fuel:Nat}
theorem il.rdW{v:V}(a:il (eI .u64) F h xs v):RdW h xs v:=⟨a.len,λk x hx=>let⟨l,o,_,b,c,_⟩:=a.word hx .i64;⟨l,o,b,c⟩⟩
theorem ev.rdW{ty:Nat}{v:V}(H:ev F h cs)(i:Nat)(hi:cs[i]? =some (fg (eI .u64) ty xs v)):RdW h xs v:=⟨H.len i hi,λk x hx=>let⟨l,o,a,b,_⟩:=H.Mq i hi hx .i64;⟨l,o,a,b⟩⟩
theorem T6{a b:V}(c:RdW h xs a)(d:RdW h xs b)(g:xs.length<1000000000)(H:Q (.bool true) h):cP CS jr [a,b] h Q:=by
 refine Ff ?_;refine eh c.len (eh d.len (yq (fW rfl ?_)));refine Bv (λk l h'=>∃i,l=[a,b,.I (i:Nat)]/\i+k=xs.length/\h' = h) ?_ (k:=xs.length) ⟨0,rfl,by omega,rfl⟩;rintro k _ _ _ h ⟨i,⟨⟩,hk,rfl⟩;unfold tK;refine eh c.len ?_;by_cases hi:i<xs.length
 ·let⟨l1,j,p1,p2⟩:=c.at_ i _ (gN hi)
  let⟨l2,m,e,f⟩:=d.at_ i _ (gN hi)
  refine gy (eh p1 (eh p2 (eh e (eh f (yq (fW rfl ?_))))));exact fF ⟨k-1,by omega,i+1,rfl,by omega,rfl⟩
 ·exact hY H
theorem Ry{a b:V}(c:RdW h xs a)(d:RdW h xs b)(g:xs.length<1000000000)(H:Q (.bool true) h):cP CS kL [a,b] h Q:=by
 refine Bu ?_;refine eh c.len (eh d.len (yq (fW rfl ?_)));refine zw (λk l h'=>∃i,l=[a,b,.I (i:Nat)]/\i+k=xs.length/\h' = h) ?_ (k:=xs.length) ⟨0,rfl,by omega,rfl⟩;rintro k _ _ _ h ⟨i,⟨⟩,hk,rfl⟩;unfold ql;refine eh c.len ?_;by_cases hi:i<xs.length
 ·let⟨l1,j,p1,p2⟩:=c.at_ i _ (gN hi)
  let⟨l2,m,e,f⟩:=d.at_ i _ (gN hi)
  refine gy (eh p1 (eh p2 (eh e (eh f (yq (fW rfl ?_))))));exact fF ⟨k-1,by omega,i+1,rfl,by omega,rfl⟩
 ·exact hY H
theorem il.fw{fs:List Fw}{f:V}(a:il eFw F h fs f){i:Nat}{x:Fw}(hx:fs[i]? =some x) :
  ∃l o a b,gB 4 f (.I i)=some (.ptr l o)/\fe (.ptr l (o+0)) h=some (.I x.func)/\fe (.ptr l (o+1)) h=some (.I x.pc)/\fe (.ptr l (o+2)) h=some a/\fe (.ptr l (o+3)) h=some b/\il (eI .u64) F h x.locals a/\il (eI .u64) F h x.stack b:=by
 obtain⟨hi,rfl⟩:=jo.1 hx;obtain⟨l,o,w,_,d,_,⟨a,b,rfl,e,g⟩,c⟩:=a.ix hi .i64;exact⟨l,o,a,b,d,c 0 _ rfl,c 1 _ rfl,c 2 _ rfl,c 3 _ rfl,e,g⟩
theorem XI{fr:List Fw}{a b:V}(d:il eFw F h fr a)(e:il eFw F h fr b)(z:fr.length<1000000000)(g:∀f∈fr,f.locals.length<1000000000/\f.stack.length<1000000000)(H:Q (.bool true) h):cP CS jh [a,b] h Q:=by
 refine Gp rfl rfl ?_;unfold qF;refine eh d.len (eh e.len (yq (fW rfl ?_)));refine CJ (λk j l m h'=>∃i,j=a/\l=b/\m = .I (i:Nat)/\i+k=fr.length/\h' = h) ?_ (k:=fr.length) ⟨0,rfl,rfl,rfl,by omega,rfl⟩;rintro k _ _ _ h ⟨i,rfl,rfl,rfl,hk,rfl⟩;unfold oD;refine eh d.len ?_;by_cases hi:i<fr.length;rotate_left
 ·exact hY H
 have hx:=gN hi
 let⟨n,o⟩:=g _ (zI hi)
 generalize fr[i]=x at*
 let⟨l1,A,la,sa,p1,p2,p3,p4,p,q,r⟩:=d.fw hx
 let⟨l2,B,lb,sb,c,s,t,u,v,w,y⟩:=e.fw hx
 refine gy (eh p1 (oF p2 (eh c (oF s (eh (vf ..) ?_)))));rw[show(x.func != x.func)=false by simp];refine fG (eh rfl (fG (eh rfl (fG (eh p1 (fG (eh pf (fG (eh p3 (fG (eh rfl (fG (eh rfl (fG (eh c (fG (eh pf (fG (eh t ?_)))))))))))))))))));refine qt (by rw[vf,show(x.pc != x.pc)=false by simp]) ?_;refine fG (eh rfl (fG (eh rfl (fG (eh p1 (fG (eh pf (fG (eh p4 (fG (eh rfl (fG (eh rfl (fG (eh c (fG (eh pf (fG (eh u (xx ?_))))))))))))))))))));refine T6 q.rdW w.rdW n ⟨iZ _,qt rfl ?_⟩;refine fG (eh rfl (fG (eh rfl (fG (eh p1 (fG (eh pf (fG (eh p (fG (eh rfl (fG (eh rfl (fG (eh c (fG (eh pf (fG (eh v (xx ?_))))))))))))))))))));refine T6 r.rdW y.rdW o ⟨iZ _,qt rfl ?_⟩;refine iB (fP (by simp) (fF ⟨k-1,by omega,i+1,rfl,rfl,rfl,by omega,rfl⟩))
theorem TY(l:ev F h cs){i j:Nat}(hi:cs[i]? =some (eJ lh Th [.I 100,oS]))(n:cs[j]? =some (fg (eI .u64) C0 hp oS))(w:hp.length<1000000)
  (H:∀h' v lx,Sn F h F h'->ev F h' (eJ lx 77 [.I 100,v]::fg (eI .u64) C0 hp v::cs)->Q (.ptr lx 0) h') :
  cP CS iR [.ptr lh 0] h Q:=by
 refine Bp ?_;have o:fe (.ptr lh (0+0)) h=some (.I 100):=l.ld i hi rfl;refine oN o ?_;rw[C8,gO]
 let⟨b,e⟩:=l.TC (E:=eI .u64) (xs:=[]) C0 (ws:=[]) rfl trivial rfl
 have b:=b;have e:=e;have c:∀{a:Pc},(a::cs)[i+1]? =some (eJ lh Th [.I 100,oS]):=λ{_}=>by simpa using hi
 have f:∀{a:Pc},(a::cs)[j+1]? =some (fg (eI .u64) C0 hp oS):=λ{_}=>by simpa using n
 refine oN (b.ld (i+1) c rfl) ⟨⟨fm _ _,bq⟩,b.ld (i+1) c rfl,?_⟩
 let⟨v,x,p,q,d,r⟩:=b.zbR 0 (j+1) rfl f (jL:=8) (by decide) (by decide) (by simp;omega)
 rw [show fi 79 1 8 (.slice h.next 0 0) oS (h.new (.cells 79 1 true false []))=_ from p,en];simp[ UA]at d;have g:=d.one 0 rfl;have k:fT [.I 0,.ei] [(0,1),(1,1)] [(0,.I 100),(1,v)]=some (.agg [.I 100,v]):=by
  rcases d.row 0 rfl with⟨rfl,_⟩|⟨t,s,rfl,_⟩ <;> rfl
 refine⟨q,eh k ?_⟩;refine Sf d (by simp[eQ,g];rfl) λm u=>⟨⟨fm _ _,bq⟩,m.ld (i+2) (by simpa using hi) rfl,?_⟩
 exact H _ v _ ((e.trans r).trans u) m
theorem zaM{e e':Ex}{n:Nat}{fr:List Fw}{hq:List Int}(h:e.As e')(b:e = .left n fr hq):∃a,e' = .left a fr hq/\a<=n:=by
 subst b
 cases e' with
 |zQ=>exact h.elim
 |left a c d=>obtain⟨f,rfl,rfl⟩:=h;exact⟨a,rfl,f⟩
 |stuck=>exact h.elim
end
open Un Dm
section
variable{F F':Nat->Prop}{h h':Hp}{cs ds:List Pc}{Q:fq}{u w:U}{vv vb vs wv wb ws xA oS:V}{hp locals xs:List Int}{lh Th:Nat}{gv:Int}{fuel:Nat}
theorem W6(g:Good u) (Z:Good w)(H0:ev F h (eJ lh Th [.I 100,oS]::fg (eI .u64) C0 hp oS::ds))(L:tL F h u vv vb vs)(M:tL F h w wv wb ws)(o:il (eI .u64) F h locals xA)(N:locals.length<1000000000)(O:hp.length<1000000)(r:fuel<=1000000)
  (hR:(runM u locals gv fuel (fuel+1) none 0 (ny u hp)).As (runM w locals gv fuel (fuel+1) none 0 (ny w hp)))
  (H:∀F' h',Sn F h F' h'->ev F' h' (eJ lh Th [.I 100,oS]::fg (eI .u64) C0 hp oS::ds)->Q (.bool true) h') :
  cP CS jm [.agg (uC u vv vb vs),.agg (uC w wv wb ws),.ptr lh 0,xA,.I gv,.I fuel] h Q:=by
 refine GG rfl rfl ?_;unfold si;refine j4 H0 L.one λh1 H1 s1=>j4 H1 M.one λh2 H2 s2=>?_;generalize h.next=l6 at*;generalize h1.next=l7 at*;refine TY H2 (i:=2) (j:=3) rfl rfl O λh3 xv lx s3 H3=>TY H3 (i:=4) (j:=5) rfl rfl O λP yv ly s4 R=>?_;have p:=((s1.trans s2).trans s3).trans s4;have k:∀{G:Nat->Prop} {hh:Hp} {e:Ex} {q:List Int} {a d:Int} {x:V} (b c:Int),ExR G hh e q a d x->gj [V.I a,.I b,.I c,x,.I d]=true:=λb c y=>by
  rcases y with⟨_,_,rfl⟩|⟨_,_,_,_,_,P,_⟩
  ·rfl
  ·simp only[eQ,P.one];rfl
 refine eh (R.mY 5 rfl rfl) ?_;refine YR g (R.perm [2,3,0,1,4,5,6,7] 8 (by decide) (by decide) (by simp)) (L.since p) (o.since p) N (by omega) r λF5 h5 aa a b c d fw s5 H5 ab y=>?_;have A:=p.trans s5;refine gQ H5 rfl rfl (k b c y) λh6 z S=>?_;generalize h5.next=T at*;have m:=A.trans S;refine oF (z.ld 0 rfl rfl) (eh (vf ..) ?_);rcases y with⟨_,rfl,_⟩|⟨n,fr,e1,rfl,rfl,B,U⟩
 ·refine iB (fW rfl ?_);exact H F5 h6 m (z.perm [7,8] 9 (by decide) (by decide) (by simp))
 refine iB (fP (by simp) (eh (z.mY 5 rfl rfl) ?_));refine YR Z (z.perm [3,4,0,1,2,5,6,7,8] 9 (by decide) (by decide) (by simp)) (M.since m) (o.since m) N (by omega) r λF7 h7 ac a' b' c' d' C W H7 ad s=>?_;have D:=m.trans W;refine gQ H7 rfl rfl (k b' c' s) λt l E=>?_;generalize h7.next=X at*;have I:=D.trans E;obtain⟨Y,e',hn⟩:=zaM hR e1;rcases s with⟨v,_,_⟩|⟨n2,ae,v,rfl,rfl,J,k2⟩
 ·rw[e']at v;cases v
 rw[e']at v;cases v;have K:(Y:Int)<=(n:Int):=by omega
 have p4:fe (.ptr T (0+4)) t=some (.I n):=l.ld 3 rfl rfl;have q4:fe (.ptr X (0+4)) t=some (.I (Y:Nat)):=l.ld 0 rfl rfl;have p3:fe (.ptr T (0+3)) t=some fw:=l.ld 3 rfl rfl;have q3:fe (.ptr X (0+3)) t=some C:=l.ld 0 rfl rfl;refine oF (l.ld 0 rfl rfl) (eh (gR ..) ?_);rw[show((1:Int) == 1)=true from rfl];refine gw (eh pf (gw (eh q4 (gw (eh pf (gw (eh p4 (eh (a:= .bool true) (by rw[pt,KA,JO K]) ?_))))))));refine gw (eh pf (gw (eh p3 (gw (eh pf (gw (eh q3 (yF ?_))))))));have B:=((B.since S).since W).since E;have J:=J.since E;refine XI B J (by have:=U.1;omega) (λf hf=>by have:=U.2 f hf;omega) ⟨iZ _,eh (JB ..) ?_⟩;rw[if_pos rfl];refine gw (eh rfl (gw (eh pn (gw (eh pf (gw (eh (l.ld 4 rfl rfl) (gw (eh rfl (gw (eh pn (gw (eh pf (gw (eh (l.ld 1 rfl rfl) (yF ?_))))))))))))))));refine Ry (l.rdW 5 rfl) (l.rdW 2 rfl) (by omega) ⟨iZ _,eh (JB ..) ?_⟩;rw[if_pos rfl];exact H F7 t I (l.perm [8,9] 10 (by decide) (by decide) (by simp))
end
open Un Dm
theorem zey{C:kW}{f:Nat}{a:List V}{h:Hp}{K:fq}(H:K .undef h):oP (fH false (.bool true)) λb=>oP (gC b (some (f,a))) λy=>vB C y h K:=H
section
variable{F F':Nat->Prop}{h h':Hp}{cs ds:List Pc}{Q:fq}{oS lv:V}{hp ls:List Int}{lh Th:Nat}
theorem V1(c:ev F h cs)(H:∀h' v lx,Sn F h F h'->ev F h' (eJ lx 77 [.I 100,v]::fg (eI .u64) C0 [0] v::cs)->Q (.ptr lx 0) h'):cP CS pD [.I 100] h Q:=by
 refine DL ?_;rw[AN,fu]
 let⟨a,b⟩:=c.TC (E:=eI .u64) (xs:=[0]) C0 rfl ⟨_,[],rfl,⟨rfl,zY⟩,trivial⟩ rfl
 have a:=a;have b:=b;refine eh (rfl) ?_;refine j4 a rfl λd e f=>H d _ _ (b.trans f) e
theorem Y4(e:ev F h (eJ lh Th [.I 100,oS]::fg (eI .u64) C0 hp oS::ds))(A:hp.length<=100){t n:Nat}(ht:t<=7)(R:n<=4)
  (H:∀h' b d r ok,Sn F h F h'->ev F h' (eJ lh Th [.I 100,b]::fg (eI .u64) C0 d b::ds)->d.length<=100->sO .u64 r->Q (.tuple [.int .u64 r,.bool ok]) h') :
  cP CS mR [.ptr lh 0,.I t,.I n] h Q:=by
 refine AT ?_;have B:fe (.ptr lh (0+0)) h=some (.I 100):=e.ld 0 rfl rfl;have j:fe (.ptr lh (0+1)) h=some oS:=e.ld 0 rfl rfl;have cl:=e.len 1 rfl;have f:lO .i64 (100-((hp.length:Nat):Int))=100-((hp.length:Nat):Int):=qi (by simp[sO];omega);refine eh (j7 ..) ?_;rw[Li (by omega)];refine qt (by rw[ft,nN,Li (by omega)]) (qt (by rw[ft,j7,Li (by omega)]) (qt (by rw[ft,nN,Li (by omega)]) ?_));refine eh (a:= .bool (decide (100-((hp.length:Nat):Int)<((n+1:Nat):Int)))) ?_ (iB ?_)
 ·simp[mK,ft,fS,gf,B,j,cl,nT,zfo (n:=n) (by omega),pI,f,nN]
 by_cases c:100-((hp.length:Nat):Int)<((n+1:Nat):Int)
 ·exact fW (JO c) (H h oS hp 0 false (Sn.refl _ _) e A zY)
 refine fP (by rw[zX];exact c) ?_;have g:sO .u64 ((hp.length:Nat):Int):=by simp[sO];omega
 refine oN j (eh cl (eh (by rw[iz,jn,LW g]) (oN j (eh (by rw[iz,jn]) (eh (rfl) (eh (by rw[iz,jn]) (eh (by rw[nT,jn]) ?_)))))));generalize m:qq (IntKind.wrap .u64 (qq (t:Nat)*2 ^ min 32 IntKind.u64.bits)+qq (n:Nat))=C;have p:=m▸Cw _;rw[AN,fu];obtain⟨D,S,E,_,q,G⟩:=e.rZ 1 rfl (jL:=8) ⟨rfl,p⟩ (by decide) (by decide) (by omega);rw[show fi 79 1 8 oS (.slice h.next 0 1) (h.new (.cells 79 1 true false [.int .u64 C]))=_ from E,en];simp[oU,pJ]at q
 let⟨T,I,_,x,K⟩:=q.st 0 (o:=0+1) rfl (by simp) (q.one 1 rfl)
 refine eh (fS _ _) (eh pf ?_);rw[I,en];simp[oU,pJ]at x
 obtain ⟨J,s⟩:∃J:Nat->LP,J=λk l h'=>∃(i:Nat) (b:V) (d:List Int),l=[.ptr lh 0,.I n,.int .u64 ((hp.length:Nat):Int),.I i]/\i+k=n/\Sn F h F h'/\d.length=hp.length+1+i/\
   ev F h' (eJ lh Th [.I 100,b]::fg (eI .u64) C0 d b::ds):=⟨_,rfl⟩
 refine zm J (λk U W X Y u hi=>?_) (k:=n) ?_;rotate_left
 ·rw[s];exact⟨0,D,_,rfl,by omega,G.trans K,by simp,x⟩
 rw[s]at hi;obtain⟨i,b,d,⟨⟩,hk,y,L,v⟩:=hi;unfold pO;by_cases hi:i<n;rotate_left
 ·exact hY (H u b d _ true y v (by omega) g)
 refine gy (oN (v.ld 0 rfl rfl) ?_);rw[AN,fu];obtain⟨M,Z,N,_,w,s4⟩:=v.rZ 1 rfl (jL:=8) ⟨rfl,zY⟩ (by decide) (by decide) (by omega);rw[show fi 79 1 8 b (.slice u.next 0 1) (u.new (.cells 79 1 true false [.int .u64 0]))=_ from N,en];simp[oU,pJ]at w
 let⟨h5,O,_,z,P⟩:=w.st 0 (o:=0+1) rfl (by simp) (w.one 1 rfl)
 refine eh (fS _ _) (eh pf ?_);rw[O,en];simp[oU,pJ]at z;refine fF ⟨k-1,by omega,?_⟩;rw[s];exact⟨i+1,M,_,rfl,by omega,(y.trans s4).trans P,by rw[Lw,wBo];omega,z⟩
theorem zdg(b:ev F h (eJ lh Th [.I 100,oS]::fg (eI .u64) C0 hp oS::ds))(d:hp.length<=100){r x:Int}{k:Nat}(e:sO .u64 r)(hx:sO .u64 x)(hk:k<=1000)
  (H:∀h' a ok,Sn F h F h'->ev F h' (eJ lh Th [.I 100,oS]::fg (eI .u64) C0 a oS::ds)->a.length<=100->Q (.bool ok) h') :
  cP CS oI [.ptr lh 0,.int .u64 r,.I k,.int .u64 x] h Q:=by
 refine Cr ?_;refine eh (gR ..) ?_;by_cases z:r=0
 ·rw[show(r == 0)=true from Bg.2 z];refine eh (rfl) (QC (QC (QC (zey (eh (rfl) (iB (fW rfl (H h hp false (Sn.refl _ _) b d))))))))
 rw[show(r == 0)=false from PG.2 z];refine qt (by rw[ft,j7,Li (by omega)]) (fG (eh rfl (fG (eh rfl (fG (eh rfl (xx (zaJ b (i:=0) (j:=1) rfl rfl (by omega) e λ_=>?_))))))));refine eh (by rw[mK,nW]) (iB ?_);by_cases c:vj hp r % 4294967296<=((k:Nat):Int)
 ·exact fW (JO c) (H h hp false (Sn.refl _ _) b d)
 refine fP (by rw[zX];exact c) (eh (by rw[nT,jn]) (eh (by rw[iz,jn]) (eh (by rw[nT,jn]) (UQ b (i:=0) (j:=1) rfl rfl (by omega) (Cw _) hx λf ok g l=>?_))));exact H f _ ok g l (by rw[OB];exact d)
theorem zem{x:Int}(hx:sO .u64 x)(m:Nat):sO .u64 (x.fdiv (2 ^ m)):=by
 have a:(0:Int)<2 ^ m:=Int.pow_pos (by decide);rw[Int.fdiv_eq_ediv_of_nonneg _ (Int.le_of_lt a)];exact⟨Int.ediv_nonneg hx.1 (Int.le_of_lt a),Int.le_trans (Int.ediv_le_self _ hx.1) hx.2⟩
theorem OA(G:ev F h cs)(d:il (eI .u64) F h ls lv)(H:∀h' lx v hp,Sn F h F h'->ev F h' (eJ lx 77 [.I 100,v]::fg (eI .u64) C0 hp v::cs)->hp.length<=100->Q (.ptr lx 0) h') :
  cP CS mf [lv] h Q:=by
 refine Dn ?_;refine V1 G λh1 I lx K L=>?_;obtain⟨J,m⟩:∃J,J=λk l h'=>∃i v hp,l=[lv,.ptr lx 0,.I (i:Nat)]/\i+k=8/\Sn F h F h'/\hp.length<=100/\ev F h' (eJ lx 77 [.I 100,v]::fg (eI .u64) C0 hp v::cs):=⟨_,rfl⟩
 refine A6 J (λk M N O P hi=>?_) (k:=8) ?_;rotate_left
 ·rw[m];exact⟨0,I,_,rfl,rfl,K,by simp,L⟩
 rw[m]at hi;obtain⟨i,R,o,⟨⟩,hk,p,e,C⟩:=hi;unfold rh;have D:=d.since p;refine eh D.len (eh (j7 ..) (eh (a:= .bool (decide (i<ls.length/\i<8))) ?_ (iB ?_)))
 ·by_cases c:i<ls.length
  ·rw[JO (by omega),pt,ft,j7];congr 2;exact decide_eq_decide.2 (by omega)
  ·rw[Li (by omega),Fb,Li λh=>c h.1]
 by_cases c:i<ls.length/\i<8;rotate_left
 ·exact fP (by rw[zX];exact c) (H P lx R o p C e)
 have hx:=gN c.1;generalize ls[i]=x at*
 let⟨l1,o1,_,p1,p2,p3⟩:=D.word hx .i64
 have f:=p3;have S:0<=x.tmod 5/\x.tmod 5<=4:=by rw[Int.tmod_eq_emod_of_nonneg f.1];omega
 have T:0<=x.tmod 3/\x.tmod 3<=2:=by rw[Int.tmod_eq_emod_of_nonneg f.1];omega
 let⟨n,hn⟩:=wBF S.1
 let⟨t,ht⟩:=wBF T.1
 refine fW (JO c) (eh p1 (eh p2 (eh (show ez .rem 79 (.int .u64 x) (.int .u64 5)=some (.int .u64 (x.tmod 5)) from rfl) (eh (by rw[iz,hn,Ip (by omega)]) (eh p1 (eh p2 (eh (show ez .rem 79 (.int .u64 x) (.int .u64 3)=some (.int .u64 (x.tmod 3)) from rfl) (eh (by rw[iz,ht,Ip (by omega)]) (eh (by rw[nT,show(5:Int)+(t:Nat)=((5+t:Nat):Int) by omega,Ip (by omega)]) ?_)))))))));refine Y4 C e (by omega) (by omega) λh3 q s r ok U V u W=>?_;refine eh (rfl) (eh (rfl) ?_);have w:=p.trans U;obtain⟨y,b⟩:∃y,y=λk l h'=>∃j hp,l=[lv,.ptr lx 0,.I i,.I n,.int .u64 r,.bool ok,.I (j:Nat)]/\j+k=n/\Sn F h F h'/\hp.length<=100/\ev F h' (eJ lx 77 [.I 100,q]::fg (eI .u64) C0 hp q::cs):=⟨_,rfl⟩
 refine Aw y (λX M N O x5 x6 x7 x8 Y hi=>?_) (k:=n) ?_;rotate_left
 ·rw[b];exact⟨0,s,rfl,by omega,w,u,V⟩
 rw [b]at hi;obtain⟨j,z,⟨⟩,Z,s4,g,E⟩:=hi;unfold sk;have out:J (k-1) [lv,.ptr lx 0,.I ((i+1:Nat):Int)] Y:=by
  rw[m];exact⟨i+1,q,z,rfl,by omega,s4,g,E⟩
 refine eh (a:= .bool (ok&&decide (j<n))) ?_ (iB ?_)
 ·cases ok
  ·rfl
  ·rw[pt,ft,ft,j7,wBd];congr 2;exact decide_eq_decide.2 (by omega)
 by_cases cj:ok=true/\j<n;rotate_left
 ·refine fP (by rw[vU,zX];exact cj) (fF ⟨k-1,by omega,out⟩)
 let⟨l2,o2,_,q1,q2,_⟩:=(d.since s4).word hx .i64
 refine fW (by rw[vU,zX];exact cj) (eh q1 (eh q2 (eh (by rw[OG,show((j:Nat):Int)*9=((j*9:Nat):Int) by omega,Ip (by omega)]) (eh (by rw[iz,jn,LW (by simp[sO];omega)]) (eh (rfl) ?_)))));refine zdg E g W (zem p3 _) (by omega) λh5 A _ s5 H5 B=>?_;refine fF ⟨X-1,by omega,?_⟩;rw[b];exact⟨j+1,A,rfl,by omega,s4.trans s5,B,H5⟩
theorem PL(p:ev F h cs)(b:il (eI .u64) F h ls lv)(H:∀F' h' v xs,Sn F h F' h'->ev F' h' cs->il (eI .u64) F' h' xs v->xs.length<=6->Q v h'):cP CS mB [lv] h Q:=by
 refine Fl ?_;obtain⟨J,d⟩:∃J,J=λk l h'=>∃i v xs,l=[lv,v,.I (i:Nat)]/\i+k=6/\Sn F h F h'/\xs.length=i/\ev F h' (fg (eI .u64) C0 xs v::cs):=⟨_,rfl⟩
 refine BC J (λk t v u e hi=>?_) (k:=6) ?_;rotate_left
 ·rw[d];exact⟨0,.ei,[],rfl,rfl,Sn.refl _ _,rfl,p.add .nil λ_ h=>h⟩
 rw[d]at hi;obtain⟨i,_,xs,⟨⟩,hk,f,g,n⟩:=hi;unfold ua;have o:=b.since f;refine eh o.len (eh (j7 ..) (eh (a:= .bool (decide (i<ls.length/\i<6))) ?_ (iB ?_)))
 ·by_cases c:i<ls.length
  ·rw[JO (by omega),pt,ft,j7];congr 2;exact decide_eq_decide.2 (by omega)
  ·rw[Li (by omega),Fb,Li λh=>c h.1]
 by_cases c:i<ls.length/\i<6;rotate_left
 ·let⟨j,m,q⟩:=n.jc 0 rfl
  exact fP (by rw[zX];exact c) (H _ e v xs (f.trans m) j.tail q (by omega))
 have hx:=gN c.1;generalize ls[i]=x at*
 let⟨l1,w,_,p1,p2,p3⟩:=o.word hx .i64
 refine fW (JO c) (eh p1 (eh p2 ?_));rw[AN,fu];obtain⟨r,y,s,_,j,m⟩:=n.rZ 0 rfl (jL:=8) ⟨rfl,p3⟩ (by decide) (by decide) (by omega);rw[show fi 79 1 8 v (.slice e.next 0 1) (e.new (.cells 79 1 true false [.int .u64 x]))=_ from s,en];refine fF ⟨k-1,by omega,?_⟩;rw[d];exact⟨i+1,r,_,rfl,by omega,f.trans m,by rw[Lw,wBo,g],j⟩
end
open Un Dm
theorem zcw{X:Option V}{K:Bool->V->Prop}(h:oP X (K true)):oP (fH true (.bool true)) λb=>oP (gV b X) (K b):=h
section
variable{u:U}
theorem zaC{n:Nat}(h:n<1000000000):ez .sub 3 (.I n) (.I 1)=some (.I ((n:Nat)-1:Int)):=by
 rw[pI,qi (by simp only[sO];omega)]
theorem M7{az:List Int}{n:Nat}(a:az.length=n)(v:Nat)(hv:n<=v):jy az v = -1:=by
 unfold jy;rw[CH,Q9 (by omega)];rfl
theorem PS(a:rM u)(g:Good u){r:Nat->Int}:rM (gU u r):=λv y b=>by
 obtain⟨n,x,_,hx,rfl,_⟩:=A0 g b;have:=a n x hx;unfold ir;dsimp only;split
 ·rw[Er];exact this
 ·exact this
end
open Un Dm
def IV(u:U):Prop:=∀(v:Nat) x,u.ej[v]? =some x->x.op≠19/\x.op≠20
structure XV (u u':U):Prop where
 zz:Good u'
 args:rM u'
 np:IV u'
 Fs:vS u u'
theorem XV.trans{u v w:U}(a:XV u v)(b:XV v w):XV u w:=⟨b.zz,b.args,b.np,a.Fs.trans b.Fs⟩
theorem IV.trim{u:U}(g:Good u)(h:IV u){r:Nat->Int}:IV (gU u r):=λv y a=>by
 obtain⟨n,x,_,hx,rfl,_⟩:=A0 g a;exact h n x hx
section
variable{F F':Nat->Prop}{h h':Hp}{cs ds:List Pc}{Q:fq}{u:U}{vv vb vs:V}
theorem Ze(g:Good u)(a:rM u)(hp:IV u)(b:ev F h cs)(c:tL F h u vv vb vs)
  (H:∀F' h' u' wv wb ws,Sn F h F' h'->ev F' h' cs->tL F' h' u' wv wb ws->XV u u'->Q (.agg (uC u' wv wb ws)) h'):cP CS zg [.agg (uC u vv vb vs)] h Q:=
 zbs g a b c λF' h' u' wv wb ws d e u1 R=>H F' h' u' wv wb ws d e u1 ⟨R.zz,R.args,λv y f=>R.ops (λn=>n≠19/\n≠20) (by decide) (λx hx=>by
  let⟨n,hn⟩:=mn.1 hx
  exact hp n x hn) y (zD f),R.Fs⟩
theorem Vq(g:Good u)(b:rM u)(hp:IV u)(c:ev F h cs)(e:tL F h u vv vb vs)
  (H:∀F' h' u' wv wb ws,Sn F h F' h'->ev F' h' cs->tL F' h' u' wv wb ws->XV u u'->Q (.agg (uC u' wv wb ws)) h'):cP CS qh [.agg (uC u vv vb vs)] h Q:=
 XN g b c e λF' h' az wv wb ws i j d a u1=>H F' h' _ wv wb ws i j u1 ⟨LV g (d.fit g (M7 a)),PS b g,hp.trim g,λl w f k p=>zaw g d (M7 a) hp l w f k p⟩
theorem ZF(g:Good u)(b:rM u)(hp:IV u)(c:ev F h cs)(e:tL F h u vv vb vs)
  (H:∀F' h' u' wv wb ws,Sn F h F' h'->ev F' h' cs->tL F' h' u' wv wb ws->XV u u'->Q (.agg (uC u' wv wb ws)) h'):cP CS yW [.agg (uC u vv vb vs)] h Q:=
 zb0 g b c e λF' h' az wv wb ws i j d a u1=>H F' h' _ wv wb ws i j u1 ⟨LV g (d.fit g (M7 a)),PS b g,hp.trim g,λl w f k p=>Ye g d (M7 a) l w f k p⟩
theorem zbd{T a b c:Nat}{K:fq}(H:ev F h cs)(d:∀h',ev F h' (eJ h.next T [.func a [] [],.func b [] [],.func c [] []]::cs)->Sn F h F h'->K (.slice h.next 0 3) h'):gS (iS T 1 3 V.nilFunc [(0,.func a [] []),(1,.func b [] []),(2,.func c [] [])]) h K:=by
 rw[show iS T 1 3 V.nilFunc [(0,.func a [] []),(1,.func b [] []),(2,.func c [] [])]=some (.cells T 1 true false [.func a [] [],.func b [] [],.func c [] []],λl=> .slice l 0 3) from rfl,fu];exact d _ (H.yP T _).1 (H.yP T _).2
theorem QB{n:Int}(g:Good u)(ha:rM u)(hp:IV u)(H0:ev F h cs)(hu:tL F h u vv vb vs)
  (H:∀F' h' u' wv wb ws,Sn F h F' h'->ev F' h' cs->tL F' h' u' wv wb ws->XV u u'->Q (.agg (uC u' wv wb ws)) h'):cP CS Aj [.agg (uC u vv vb vs),.I n] h Q:=by
 refine Q8 ?_;refine j4 H0 hu.one λD H1 s1=>pz H1 λA H2 s2=>?_;generalize h.next=l2 at*;generalize D.next=l4 at*;have u2:=(hu.since s1).since s2;refine eh (H2.mY 1 rfl rfl) ?_;refine Nq (AI g ha) H2 u2 λF3 h3 wv wb ws xs bs ss fa fn fl s3 hc hb hs H3=>?_
 let⟨G,H4,s4,c4⟩:=H3.Tf hc hb hs
 let⟨h5,e5,n5,E,s5⟩:=H4.Qy 1 (n:=5) rfl rfl rfl c4.one
 rw[e5,en];have E:=E.perm [1,0] 2 (by decide) (by decide) (by simp);have J:=(((s1.trans s2).trans s3).trans s4).trans s5;obtain⟨q,w⟩:∃q:List V,q=[.I 0,.I 0,.ei,.ei,.ei]:=⟨_,rfl⟩
 obtain⟨m,L⟩:∃T,T=gJ:=⟨_,rfl⟩
 let I:Nat->LP:=λk l h'=>∃(F':Nat->Prop) (i:Nat) (u':U) (wv wb ws:V),l=[.I n,.ptr l2 0,.ptr l4 0,.I i]/\i+k=10/\Sn F h F' h'/\XV u u'/\tL F' h' u' wv wb ws/\
   ev F' h' (eJ l2 m (uC u' wv wb ws)::eJ l4 m q::cs)
 refine MU I (λk x1 x2 x4 x5 h6 hi=>?_) (k:=10) ?_;rotate_left
 ·subst w L;exact⟨G,0,u,wv,wb,ws,rfl,rfl,J,⟨g,ha,hp,.refl _⟩,c4.since s5,E⟩
 obtain⟨M,i,N,wv,wb,ws,⟨⟩,hk,s6,P6,O,P⟩:=hi;unfold FG;refine eh (a:= .I (min n 10)) (by rw[Ts];rfl) ?_;by_cases hin:(i:Int)<min n 10;rotate_left
 ·refine Uj (fP hin (eh (P.mY 0 rfl rfl) ?_))
  let⟨R,e7,n7,t,x⟩:=P.Qy 1 (n:=5) rfl rfl (by subst w;rfl) O.one
  rw[e7,en];refine eh (t.mY 1 rfl rfl) ?_;exact H M R N wv wb ws (s6.trans x) t.tail.tail (O.since x) P6
 refine Uj (fW hin ?_);refine zbd P λR t x=>?_;generalize h6.next=lf at*;have S:=s6.trans x;refine eh (rfl) ?_;obtain⟨v,t,ld⟩:∃v,ev M R (v::eJ l2 m (uC N wv wb ws)::eJ l4 m q::cs)/\∀F' h' ds,ev F' h' (v::ds)->∀o f,[V.func zg [] [],.func qh [] [],.func yW [] []][o]? =some (.func f [] [])->fe (.ptr lf o) h' = some (.func f [] []):=⟨_,t,λF' h' ds H o f ho=>H.ld 0 rfl ho⟩
 let W:Nat->LP:=λk l h'=>∃F' j u' wv wb ws,l=[.I n,.ptr l2 0,.ptr l4 0,.I i,.slice lf 0 3,.I ((3:Nat):Int),.I (j:Nat)]/\j+k=3/\Sn F h F' h'/\XV u u'/\tL F' h' u' wv wb ws/\
   ev F' h' (v::eJ l2 m (uC u' wv wb ws)::eJ l4 m q::cs)
 refine MZ W (λX x1 x2 x4 x5 ac ad ae B hi=>?_) (k:=3) ?_;rotate_left
 ·exact⟨M,0,N,wv,wb,ws,rfl,rfl,S,P6,O.since x,t⟩
 obtain⟨Y,j,r,wv,wb,ws,⟨⟩,ag,s8,P8,C,p⟩:=hi;unfold FX;by_cases hj:j<3;rotate_left
 ·refine hY (fF ⟨k-1,by omega,?_⟩);exact⟨Y,i+1,r,wv,wb,ws,rfl,by omega,s8,P8,C,p.tail⟩
 refine gy ?_
 have fin:∀F' h' u' b c d,Sn Y B F' h'->ev F' h' (v::eJ l2 m (uC r wv wb ws)::eJ l4 m q::cs)->tL F' h' u' b c d->XV r u'->
   fj (gq 5 (.ptr l2 0) (.agg (uC u' b c d)) h') λ_ A=>oP (ez .add 3 (.I j) (.I 1)) λs=>Es W X [.I n,.ptr l2 0,.ptr l4 0,.I i,.slice lf 0 3,.I ((3:Nat):Int),s] A:=λF' h' u' b c d s9 H9 r9 P9=>by
  let⟨ah,Z,ai,aa,y⟩:=H9.Qy 1 (n:=5) rfl rfl rfl r9.one
  rw[Z,en];refine fF ⟨X-1,by omega,?_⟩;exact⟨F',j+1,u',b,c,d,rfl,by omega,(s8.trans s9).trans y,P8.trans P9,r9.since y,aa⟩
 have e:∀f,(∀K,(∀F' h' u' b c d,Sn Y B F' h'->ev F' h' (v::eJ l2 m (uC r wv wb ws)::eJ l4 m q::cs)->tL F' h' u' b c d->XV r u'->K (.agg (uC u' b c d)) h')->cP CS f [.agg (uC r wv wb ws)] B K)->
   gY CS (gi (.func f [] []) [.agg (uC r wv wb ws)]) B λab D=>fj (gq 5 (.ptr l2 0) ab D) λ_ A=>oP (ez .add 3 (.I j) (.I 1)) λs=>Es W X [.I n,.ptr l2 0,.ptr l4 0,.I i,.slice lf 0 3,.I ((3:Nat):Int),s] A:=λf hf=>by
  rw[JA,Mh];exact hf _ fin
 have lu:=p.mY 1 rfl rfl;obtain rfl|rfl|rfl:j=0\/j=1\/j=2:=by omega
 ·exact eh rfl (eh (ld _ _ _ p 0 _ rfl) (eh lu (e _ λK z=>Ze P8.zz P8.args P8.np p C z)))
 ·exact eh rfl (eh (ld _ _ _ p 1 _ rfl) (eh lu (e _ λK z=>Vq P8.zz P8.args P8.np p C z)))
 ·exact eh rfl (eh (ld _ _ _ p 2 _ rfl) (eh lu (e _ λK z=>ZF P8.zz P8.args P8.np p C z)))
theorem Te(g:Good u)(i:rM u)(hp:IV u)(j:ev F h cs)(a:tL F h u vv vb vs)
  (H:∀F' h' u' wv wb ws,Sn F h F' h'->ev F' h' cs->tL F' h' u' wv wb ws->XV u u'->Q (.agg (uC u' wv wb ws)) h'):cP CS Ax [.agg (uC u vv vb vs)] h Q:=by
 refine OS ?_;refine j4 j a.one λr k b=>pz k λs c d=>?_;refine eh (c.mY 1 rfl rfl) (QB g i hp c ((a.since b).since d) λl t u' wv wb ws m o e P=>?_)
 let⟨p,q,v,f,s4⟩:=o.Qy 0 (n:=5) rfl rfl rfl e.one
 rw[q,en];exact eh (f.mY 0 rfl rfl) (H l p u' wv wb ws (((b.trans d).trans m).trans s4) f.tail.tail (e.since s4) P)
end
open Un Dm
section
variable{F F':Nat->Prop}{h h':Hp}{cs ds:List Pc}{Q:fq}{u:U}{vv vb vs:V}
theorem Vo(H:Q (.bool true) h):cP CS pU [] h Q:=by
 obtain⟨fn,c,a,hb⟩:=N1;exact cP.known a hb (show CS.K pU [] h=some (.bool true) from rfl) rfl rfl H
theorem Vj{ops a ls B:List Int}{np n gv:Int}{vo C lv xA:V}(H0:ev F h cs)(D:il (eI .i64) F h ops vo)(E:il (eI .i64) F h a C)(G:il (eI .u64) F h ls lv)(I:il (eI .u64) F h B xA)(ho:ops.length<9223372036854775808)(H:∀h',Q (.bool true) h') :
  cP CS vz [.agg [vo,C,.I np],.I n,lv,xA,.I gv] h Q:=by
 refine CN ?_;refine j4 H0 (by simp only[eQ,D.one,E.one];rfl) λh1 H1 N=>?_;refine eh (H1.mY 0 rfl rfl) ?_;refine zb3 H1 (D.since N) (E.since N) ho λF2 h2 w2 s2 H2 hw=>?_;have g0:Good (IZ ops a np):=XW ops a np;have a0:rM (IZ ops a np):=λv x hx=>Gq (zb7 ops a np x (zD hx)) (by decide);generalize IZ ops a np=O at*;obtain⟨ak,al,am,rfl,w1,w2,w3⟩:=hw;refine zbF g0 H2.tail ⟨w1,w2,w3⟩ λF3 h3 vv vb s3 H3 u3=>?_;have g:=Yn g0;have ga:rM (B5 O):=λv x hx=>by
  rcases qL hx with hx|rfl
  ·exact a0 v x hx
  ·exact Mr _
 have hp:IV (B5 O):=λv y hy=>by
  obtain⟨x,hx,rfl⟩:=O9 hy;by_cases c:x.op=19\/x.op=20
  ·rw[LX c];exact⟨(by decide:(2:Nat)≠19),(by decide:(2:Nat)≠20)⟩
  ·rw[Hz c];exact⟨λe=>c (.inl e),λe=>c (.inr e)⟩
 generalize B5 O=u at*;have R:=(N.trans s2).trans s3;refine gQ H3 rfl rfl u3.one λh4 H4 s4=>?_;generalize h3.next=lu at*;refine eh (H4.mY 0 rfl rfl) ?_;refine PK H4 λh5 J s5=>?_;generalize h4.next=an at*;refine⟨⟨J.get 0 rfl,rfl⟩,J.mY 1 rfl rfl,?_⟩;refine Kk (m:=6) (by decide) (by decide) ⟨iZ _,⟨J.get 0 rfl,rfl⟩,J.mY 1 rfl rfl,?_⟩;have u5:=(u3.since s4).since s5;refine QB g ga hp J u5 λF6 h6 v av ab ax S H6 r6 P=>⟨S.next,⟨H6.get 0 rfl,rfl⟩,?_⟩
 obtain⟨h7,e7,n7,H7,T⟩:=H6.Qy 0 (ws:=uC v av ab ax) (n:=5) rfl rfl rfl r6.one;rw[e7,en];refine⟨n7,eh (H7.mY 1 rfl rfl) ?_⟩;have u7:=(u5.since S).since T;refine Te g ga hp H7 u7 λF8 h8 w bv bb bs U H8 r8 P2=>?_;refine gQ H8 rfl rfl r8.one λh9 H9 M=>?_;generalize h8.next=lw at*;have W:=((((((R.trans s4).trans s5).trans S).trans T).trans U).trans M)
 have u9:=(u7.since U).since M;have v9:=((r6.since T).since U).since M;have w9:=r8.since M;have g2:=P.zz;have g3:=P2.zz;have hR:=λlocals gv heap=>P.Fs locals gv 1500 1501 heap;have X:=λlocals gv heap=>P2.Fs locals gv 1500 1501 heap;refine Vo (eh rfl (fG (eh (H9.mY 1 rfl rfl) (xx ?_))));refine MJ g2 H9 v9 λao ap f K=>eh rfl (fG (eh (K.mY 0 rfl rfl) (xx ?_)));refine MJ g3 K (w9.since f) λaq ar k q=>eh rfl (iB (fP (by simp) ?_));have i:=(W.trans f).trans k;have L:=(u9.since f).since k;have Y:=(v9.since f).since k;have Z:=(w9.since f).since k;refine Kk (m:=9) (by decide) (by decide) (eh (zaC (by have:=GU gv (m:=9) (by decide);omega)) (eh (q.mY 2 rfl rfl) (eh (q.mY 1 rfl rfl) ?_)));refine OA q (G.since i) λau lx oS hp b r aa=>⟨b.next,r.mY 3 rfl rfl,r.mY 4 rfl rfl,?_⟩
 refine PL r ((I.since i).since b) λaw ay yv ys d s ac ad=>⟨d.next,s.mY 3 rfl rfl,s.mY 4 rfl rfl,?_⟩
 refine W6 (fuel:=1500) g g2 s ((L.since b).since d) ((Y.since b).since d) ac (by omega) (by omega) (by decide) (hR _ _ _) λaA aB l j=>⟨l.next,?_⟩
 have p:=((i.trans b).trans d).trans l;have ae:=((L.since b).since d).since l;have ag:=((Z.since b).since d).since l;have j:=j.tail.tail;refine zcw (eh (j.mY 2 rfl rfl) (zcw (eh (j.mY 0 rfl rfl) (gw (eh rfl (gw (eh rfl (gw (eh rfl (yF ?_))))))))));refine OA j (G.since p) λaC ly oS hp o t aa=>⟨o.next,t.mY 2 rfl rfl,t.mY 4 rfl rfl,yF ?_⟩
 refine PL t ((I.since p).since o) λaD aE xv xs z A ah ad=>⟨z.next,A.mY 2 rfl rfl,A.mY 4 rfl rfl,yF ?_⟩
 refine W6 (fuel:=1500) g g3 A ((ae.since o).since z) ((ag.since o).since z) ah (by omega) (by omega) (by decide) (X _ _ _) λaF ai aj aG=>⟨aj.next,eh (JB ..) ?_⟩
 rw[if_pos rfl];exact H ai
end
