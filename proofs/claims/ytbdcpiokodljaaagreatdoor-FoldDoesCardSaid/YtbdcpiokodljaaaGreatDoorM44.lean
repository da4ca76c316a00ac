/- Parts. -/
import Derived.Test.YtbdcpiokodljaaaGreatDoorM43
import Derived.Test.YtbdcpiokodljaaaGreatDoorM40
import Derived.Test.YtbdcpiokodljaaaGreatDoorM46
import Derived.Test.YtbdcpiokodljaaaGreatDoorM51
set_option maxHeartbeats 4000000
namespace Go.Proofs.YtbdcpiokodljaaaGreatDoor.Hx
open Un Dm
structure RdW (h:Hp) (xs:List Int) (v:V):Prop where
 len:fD v=some (.I xs.length)
 at_:∀k x,xs[k]? =some x->∃l o,gG 1 v (.I (k:Nat))=some (.ptr l o)/\ez (.ptr l o) h=some (.int .u64 x)
section
variable{F F':Nat->Prop}{h h':Hp}{cs ds:List Pc}{Q:fo}{u w:U}{vv vb vs wv wb ws wS rm oV:V}{hp locals xs:List Int}{lh Th:Nat}{gw:Int}{fuel:Nat}
theorem ie.rdW{v:V}(a:ie (eI .u64) F h xs v):RdW h xs v:=⟨a.len,λk x b=>let⟨l,o,_,c,d,_⟩:=a.word b .i64;⟨l,o,c,d⟩⟩
theorem ej.rdW{ty:Nat}{v:V}(H:ej F h cs)(i:Nat)(hi:cs[i]? =some (eJ (eI .u64) ty xs v)):RdW h xs v:=⟨H.len i hi,λk x a=>let⟨l,o,b,c,_⟩:=H.Mg i hi a .i64;⟨l,o,b,c⟩⟩
theorem Tk{a b:V}(c:RdW h xs a)(d:RdW h xs b)(g:xs.length<1000000000)(H:Q (.bool true) h):cP CS ji [a,b] h Q:=by
 refine E0 rfl rfl ?_;unfold xm;refine ed c.len (ed d.len (tI (gj rfl ?_)));refine BJ (λk l h'=>∃i,l=[a,b,.I (i:Nat)]/\i+k=xs.length/\h' = h) ?_ (k:=xs.length) ⟨0,rfl,by omega,rfl⟩;rintro k _ _ _ h ⟨i,⟨⟩,hk,rfl⟩;unfold tX;refine ed c.len ?_;by_cases hi:i<xs.length
 ·let⟨l1,j,p1,p2⟩:=c.at_ i _ (hO hi)
  let⟨l2,m,e,f⟩:=d.at_ i _ (hO hi)
  refine gy (ed p1 (ed p2 (ed e (ed f (tI (gj rfl ?_))))));exact fI ⟨k-1,by omega,i+1,rfl,by omega,rfl⟩
 ·exact iI H
theorem Qx{a b:V}(c:RdW h xs a)(d:RdW h xs b)(g:xs.length<1000000000)(H:Q (.bool true) h):cP CS jQ [a,b] h Q:=by
 refine BR rfl rfl ?_;unfold sP;refine ed c.len (ed d.len (tI (gj rfl ?_)));refine zU (λk l h'=>∃i,l=[a,b,.I (i:Nat)]/\i+k=xs.length/\h' = h) ?_ (k:=xs.length) ⟨0,rfl,by omega,rfl⟩;rintro k _ _ _ h ⟨i,⟨⟩,hk,rfl⟩;unfold qn;refine ed c.len ?_;by_cases hi:i<xs.length
 ·let⟨l1,j,p1,p2⟩:=c.at_ i _ (hO hi)
  let⟨l2,m,e,f⟩:=d.at_ i _ (hO hi)
  refine gy (ed p1 (ed p2 (ed e (ed f (tI (gj rfl ?_))))));exact fI ⟨k-1,by omega,i+1,rfl,by omega,rfl⟩
 ·exact iI H
theorem ie.fw{fs:List Fw}{f:V}(a:ie eFw F h fs f){i:Nat}{x:Fw}(d:fs[i]? =some x) :
  ∃l o a b,gG 4 f (.I i)=some (.ptr l o)/\ez (.ptr l (o+0)) h=some (.I x.func)/\ez (.ptr l (o+1)) h=some (.I x.pc)/\ez (.ptr l (o+2)) h=some a/\ez (.ptr l (o+3)) h=some b/\ie (eI .u64) F h x.locals a/\ie (eI .u64) F h x.stack b:=by
 obtain⟨hi,rfl⟩:=kj.1 d;obtain⟨l,o,w,_,e,_,⟨a,b,rfl,g,j⟩,c⟩:=a.ix hi .i64;exact⟨l,o,a,b,e,c 0 _ rfl,c 1 _ rfl,c 2 _ rfl,c 3 _ rfl,g,j⟩
theorem XY{fr:List Fw}{a b:V}(d:ie eFw F h fr a)(e:ie eFw F h fr b)(B:fr.length<1000000000)(j:∀f∈fr,f.locals.length<1000000000/\f.stack.length<1000000000)(H:Q (.bool true) h):cP CS jt [a,b] h Q:=by
 refine GA rfl rfl ?_;unfold qt;refine ed d.len (ed e.len (tI (gj rfl ?_)));refine CO (λk l m n h'=>∃i,l=a/\m=b/\n = .I (i:Nat)/\i+k=fr.length/\h' = h) ?_ (k:=fr.length) ⟨0,rfl,rfl,rfl,by omega,rfl⟩;rintro k _ _ _ h ⟨i,rfl,rfl,rfl,hk,rfl⟩;unfold po;refine ed d.len ?_;by_cases hi:i<fr.length;rotate_left
 ·exact iI H
 have g:=hO hi
 let⟨o,p⟩:=j _ (AU hi)
 generalize fr[i]=x at*
 let⟨l1,C,la,sa,p1,p2,p3,q,r,s,t⟩:=d.fw g
 let⟨l2,D,lb,sb,c,u,v,w,y,z,A⟩:=e.fw g
 refine gy (ed p1 (oF p2 (ed c (oF u (ed (oU ..) ?_)))));rw[show(x.func != x.func)=false by simp];refine fx (ed rfl (fx (ed rfl (fx (ed p1 (fx (ed pf (fx (ed p3 (fx (ed rfl (fx (ed rfl (fx (ed c (fx (ed pf (fx (ed v ?_)))))))))))))))))));refine mZ (by rw[oU,show(x.pc != x.pc)=false by simp]) ?_;refine fx (ed rfl (fx (ed rfl (fx (ed p1 (fx (ed pf (fx (ed q (fx (ed rfl (fx (ed rfl (fx (ed c (fx (ed pf (fx (ed w (pY ?_))))))))))))))))))));refine Tk s.rdW z.rdW o ⟨ju _,mZ rfl ?_⟩;refine fx (ed rfl (fx (ed rfl (fx (ed p1 (fx (ed pf (fx (ed r (fx (ed rfl (fx (ed rfl (fx (ed c (fx (ed pf (fx (ed y (pY ?_))))))))))))))))))));refine Tk t.rdW A.rdW p ⟨ju _,mZ rfl ?_⟩;refine iJ (fU (by simp) (fI ⟨k-1,by omega,i+1,rfl,rfl,rfl,by omega,rfl⟩))
theorem TX(l:ej F h cs){i j:Nat}(hi:cs[i]? =some (ey lh Th [.I 100,oV]))(n:cs[j]? =some (eJ (eI .u64) Dy hp oV))(w:hp.length<1000000)
  (H:∀h' v lx,Sn F h F h'->ej F h' (ey lx 89 [.I 100,v]::eJ (eI .u64) Dy hp v::cs)->Q (.ptr lx 0) h') :
  cP CS iM [.ptr lh 0] h Q:=by
 refine B0 rfl rfl ?_;unfold tZ;have o:ez (.ptr lh (0+0)) h=some (.I 100):=l.ld i hi rfl;refine oN o ?_;rw[GX,g0]
 let⟨b,e⟩:=l.Xq (E:=eI .u64) (xs:=[]) Dy (ws:=[]) rfl trivial rfl
 have b:=b;have e:=e;have c:∀{a:Pc},(a::cs)[i+1]? =some (ey lh Th [.I 100,oV]):=λ{_}=>by simpa using hi
 have f:∀{a:Pc},(a::cs)[j+1]? =some (eJ (eI .u64) Dy hp oV):=λ{_}=>by simpa using n
 refine oN (b.ld (i+1) c rfl) ⟨⟨fh _ _,bq⟩,b.ld (i+1) c rfl,?_⟩
 let⟨v,x,p,q,d,r⟩:=b.za8 0 (j+1) rfl f (kL:=8) (by decide) (by decide) (by simp;omega)
 rw [show eR 60 1 8 (.slice h.next 0 0) oV (h.new (.cells 60 1 true false []))=_ from p,ei];simp[ O7]at d;have g:=d.one 0 rfl;have k:fW [.I 0,.ee] [(0,1),(1,1)] [(0,.I 100),(1,v)]=some (.agg [.I 100,v]):=by
  rcases d.row 0 rfl with⟨rfl,_⟩|⟨t,s,rfl,_⟩ <;> rfl
 refine⟨q,ed k ?_⟩;refine zbL d (by simp[eo,g];rfl) λm u=>⟨⟨fh _ _,bq⟩,m.ld (i+2) (by simpa using hi) rfl,?_⟩
 exact H _ v _ ((e.trans r).trans u) m
theorem zbs{e e':Ex}{n:Nat}{fr:List Fw}{hq:List Int}(h:e.As e')(b:e = .left n fr hq):∃a,e' = .left a fr hq/\a<=n:=by
 subst b
 cases e' with
 |Ac=>exact h.elim
 |left a c d=>obtain⟨f,rfl,rfl⟩:=h;exact⟨a,rfl,f⟩
 |stuck=>exact h.elim
end
open Un Dm
section
variable{F F':Nat->Prop}{h h':Hp}{cs ds:List Pc}{Q:fo}{u w:U}{vv vb vs wv wb ws wS oV:V}{hp locals xs:List Int}{lh Th:Nat}{gw:Int}{fuel:Nat}
theorem zaD(g:Good u) (Y:Good w)(Z:ej F h (ey lh Th [.I 100,oV]::eJ (eI .u64) Dy hp oV::ds))(K:zQ F h u vv vb vs)(L:zQ F h w wv wb ws)(o:ie (eI .u64) F h locals wS)(M:locals.length<1000000000)(N:hp.length<1000000)(r:fuel<=1000000)
  (hR:(runM u locals gw fuel (fuel+1) none 0 (qx u hp)).As (runM w locals gw fuel (fuel+1) none 0 (qx w hp)))
  (H:∀F' h',Sn F h F' h'->ej F' h' (ey lh Th [.I 100,oV]::eJ (eI .u64) Dy hp oV::ds)->Q (.bool true) h') :
  cP CS kH [.agg (uC u vv vb vs),.agg (uC w wv wb ws),.ptr lh 0,wS,.I gw,.I fuel] h Q:=by
 refine Hy rfl rfl ?_;unfold rj;refine jM Z K.one λh1 H1 s1=>jM H1 L.one λh2 H2 s2=>?_;generalize h.next=l6 at*;generalize h1.next=l7 at*;refine TX H2 (i:=2) (j:=3) rfl rfl N λh3 xv lx s3 H3=>TX H3 (i:=4) (j:=5) rfl rfl N λO yv ly s4 P=>?_;have p:=((s1.trans s2).trans s3).trans s4;have k:∀{G:Nat->Prop} {hh:Hp} {e:Ex} {q:List Int} {a d:Int} {x:V} (b c:Int),ExR G hh e q a d x->gv [V.I a,.I b,.I c,x,.I d]=true:=λb c y=>by
  rcases y with⟨_,_,rfl⟩|⟨_,_,_,_,_,O,_⟩
  ·rfl
  ·simp only[eo,O.one];rfl
 refine ed (P.tK 5 rfl rfl) ?_;refine Y4 g (P.perm [2,3,0,1,4,5,6,7] 8 (by decide) (by decide) (by simp)) (K.since p) (o.since p) M (by omega) r λF5 h5 aa a b c d fw s5 H5 ab y=>?_;have A:=p.trans s5;refine gW H5 rfl rfl (k b c y) λh6 z R=>?_;generalize h5.next=S at*;have m:=A.trans R;refine oF (z.ld 0 rfl rfl) (ed (oU ..) ?_);rcases y with⟨_,rfl,_⟩|⟨n,fr,e1,rfl,rfl,r1,T⟩
 ·refine iJ (gj rfl ?_);exact H F5 h6 m (z.perm [7,8] 9 (by decide) (by decide) (by simp))
 refine iJ (fU (by simp) (ed (z.tK 5 rfl rfl) ?_));refine Y4 Y (z.perm [3,4,0,1,2,5,6,7,8] 9 (by decide) (by decide) (by simp)) (L.since m) (o.since m) M (by omega) r λF7 h7 ac a' b' c' d' B U H7 ae s=>?_;have C:=m.trans U;refine gW H7 rfl rfl (k b' c' s) λt l D=>?_;generalize h7.next=W at*;have E:=C.trans D;obtain⟨X,e',hn⟩:=zbs hR e1;rcases s with⟨v,_,_⟩|⟨n2,ag,v,rfl,rfl,I,k2⟩
 ·rw[e']at v;cases v
 rw[e']at v;cases v;have J:(X:Int)<=(n:Int):=by omega
 have p4:ez (.ptr S (0+4)) t=some (.I n):=l.ld 3 rfl rfl;have q4:ez (.ptr W (0+4)) t=some (.I (X:Nat)):=l.ld 0 rfl rfl;have p3:ez (.ptr S (0+3)) t=some fw:=l.ld 3 rfl rfl;have q3:ez (.ptr W (0+3)) t=some B:=l.ld 0 rfl rfl;refine oF (l.ld 0 rfl rfl) (ed (gO ..) ?_);rw[show((1:Int) == 1)=true from rfl];refine fV (ed pf (fV (ed q4 (fV (ed pf (fV (ed p4 (ed (a:= .bool true) (by rw[mA,KX,Ml J]) ?_))))))));refine fV (ed pf (fV (ed p3 (fV (ed pf (fV (ed q3 (vI ?_))))))));have r1:=((r1.since R).since U).since D;have I:=I.since D;refine XY r1 I (by have:=T.1;omega) (λf hf=>by have:=T.2 f hf;omega) ⟨ju _,ed (vh ..) ?_⟩;rw[if_pos rfl];refine fV (ed rfl (fV (ed pn (fV (ed pf (fV (ed (l.ld 4 rfl rfl) (fV (ed rfl (fV (ed pn (fV (ed pf (fV (ed (l.ld 1 rfl rfl) (vI ?_))))))))))))))));refine Qx (l.rdW 5 rfl) (l.rdW 2 rfl) (by omega) ⟨ju _,ed (vh ..) ?_⟩;rw[if_pos rfl];exact H F7 t E (l.perm [8,9] 10 (by decide) (by decide) (by simp))
end
open Un Dm
theorem zfI{C:fk}{f:Nat}{a:List V}{h:Hp}{K:fo}(H:K .undef h):oP (fu false (.bool true)) λb=>oP (gC b (some (f,a))) λy=>qN C y h K:=H
section
variable{F F':Nat->Prop}{h h':Hp}{cs ds:List Pc}{Q:fo}{oV lv:V}{hp ls:List Int}{lh Th:Nat}
theorem Ul(c:ej F h cs)(H:∀h' v lx,Sn F h F h'->ej F h' (ey lx 89 [.I 100,v]::eJ (eI .u64) Dy [0] v::cs)->Q (.ptr lx 0) h'):cP CS mF [.I 100] h Q:=by
 refine Ew rfl rfl ?_;unfold wk;rw[Ba,fE]
 let⟨a,b⟩:=c.Xq (E:=eI .u64) (xs:=[0]) Dy rfl ⟨_,[],rfl,⟨rfl,AD⟩,trivial⟩ rfl
 have a:=a;have b:=b;refine ed (rfl) ?_;refine jM a rfl λd e f=>H d _ _ (b.trans f) e
theorem Z4(e:ej F h (ey lh Th [.I 100,oV]::eJ (eI .u64) Dy hp oV::ds))(B:hp.length<=100){t n:Nat}(S:t<=7)(T:n<=4)
  (H:∀h' b d r ok,Sn F h F h'->ej F h' (ey lh Th [.I 100,b]::eJ (eI .u64) Dy d b::ds)->d.length<=100->rO .u64 r->Q (.tuple [.int .u64 r,.bool ok]) h') :
  cP CS kN [.ptr lh 0,.I t,.I n] h Q:=by
 refine Bq rfl rfl ?_;unfold rH;have C:ez (.ptr lh (0+0)) h=some (.I 100):=e.ld 0 rfl rfl;have j:ez (.ptr lh (0+1)) h=some oV:=e.ld 0 rfl rfl;have x:=e.len 1 rfl;have f:mq .i64 (100-((hp.length:Nat):Int))=100-((hp.length:Nat):Int):=qh (by simp[rO];omega);refine ed (jT ..) ?_;rw[OZ (by omega)];refine mZ (by rw[fe,oT,OZ (by omega)]) (mZ (by rw[fe,jT,OZ (by omega)]) (mZ (by rw[fe,oT,OZ (by omega)]) ?_));refine ed (a:= .bool (decide (100-((hp.length:Nat):Int)<((n+1:Nat):Int)))) ?_ (iJ ?_)
 ·simp[nr,fe,fP,fS,C,j,x,mQ,zfd (n:=n) (by omega),pI,f,oT]
 by_cases c:100-((hp.length:Nat):Int)<((n+1:Nat):Int)
 ·exact gj (Ml c) (H h oV hp 0 false (Sn.refl _ _) e B AD)
 refine fU (by rw[A4];exact c) ?_;have g:rO .u64 ((hp.length:Nat):Int):=by simp[rO];omega
 refine oN j (ed x (ed (by rw[iH,jB,LH g]) (oN j (ed (by rw[iH,jB]) (ed (rfl) (ed (by rw[iH,jB]) (ed (by rw[mQ,jB]) ?_)))))));generalize m:qo (IntKind.wrap .u64 (qo (t:Nat)*2 ^ min 32 IntKind.u64.bits)+qo (n:Nat))=D;have p:=m▸Dr _;rw[Ba,fE];obtain⟨E,U,G,_,q,I⟩:=e.wR 1 rfl (kL:=8) ⟨rfl,p⟩ (by decide) (by decide) (by omega);rw[show eR 60 1 8 oV (.slice h.next 0 1) (h.new (.cells 60 1 true false [.int .u64 D]))=_ from G,ei];simp[mP,rV]at q
 let⟨W,K,_,y,L⟩:=q.st 0 (o:=0+1) rfl (by simp) (q.one 1 rfl)
 refine ed (fP _ _) (ed pf ?_);rw[K,ei];simp[mP,rV]at y
 obtain ⟨J,s⟩:∃J:Nat->LP,J=λk l h'=>∃(i:Nat) (b:V) (d:List Int),l=[.ptr lh 0,.I n,.int .u64 ((hp.length:Nat):Int),.I i]/\i+k=n/\Sn F h F h'/\d.length=hp.length+1+i/\
   ej F h' (ey lh Th [.I 100,b]::eJ (eI .u64) Dy d b::ds):=⟨_,rfl⟩
 refine zv J (λk X Y Z x9 u hi=>?_) (k:=n) ?_;rotate_left
 ·rw[s];exact⟨0,E,_,rfl,by omega,I.trans L,by simp,y⟩
 rw[s]at hi;obtain⟨i,b,d,⟨⟩,hk,z,M,v⟩:=hi;unfold pW;by_cases hi:i<n;rotate_left
 ·exact iI (H u b d _ true z v (by omega) g)
 refine gy (oN (v.ld 0 rfl rfl) ?_);rw[Ba,fE];obtain⟨N,h4,O,_,w,s4⟩:=v.wR 1 rfl (kL:=8) ⟨rfl,AD⟩ (by decide) (by decide) (by omega);rw[show eR 60 1 8 b (.slice u.next 0 1) (u.new (.cells 60 1 true false [.int .u64 0]))=_ from O,ei];simp[mP,rV]at w
 let⟨h5,P,_,A,R⟩:=w.st 0 (o:=0+1) rfl (by simp) (w.one 1 rfl)
 refine ed (fP _ _) (ed pf ?_);rw[P,ei];simp[mP,rV]at A;refine fI ⟨k-1,by omega,?_⟩;rw[s];exact⟨i+1,N,_,rfl,by omega,(z.trans s4).trans R,by rw[K8,List.length_singleton];omega,A⟩
theorem zc3(b:ej F h (ey lh Th [.I 100,oV]::eJ (eI .u64) Dy hp oV::ds))(d:hp.length<=100){r x:Int}{k:Nat}(e:rO .u64 r)(f:rO .u64 x)(hk:k<=1000)
  (H:∀h' a ok,Sn F h F h'->ej F h' (ey lh Th [.I 100,oV]::eJ (eI .u64) Dy a oV::ds)->a.length<=100->Q (.bool ok) h') :
  cP CS mg [.ptr lh 0,.int .u64 r,.I k,.int .u64 x] h Q:=by
 refine CZ rfl rfl ?_;unfold uz;refine ed (gO ..) ?_;by_cases z:r=0
 ·rw[show(r == 0)=true from IE.2 z];refine ed (rfl) (PB (PB (PB (zfI (ed (rfl) (iJ (gj rfl (H h hp false (Sn.refl _ _) b d))))))))
 rw[show(r == 0)=false from Uf.2 z];refine mZ (by rw[fe,jT,OZ (by omega)]) (fx (ed rfl (fx (ed rfl (fx (ed rfl (pY (ZG b (i:=0) (j:=1) rfl rfl (by omega) e λ_=>?_))))))));refine ed (by rw[nr,oS]) (iJ ?_);by_cases c:uo hp r % 4294967296<=((k:Nat):Int)
 ·exact gj (Ml c) (H h hp false (Sn.refl _ _) b d)
 refine fU (by rw[A4];exact c) (ed (by rw[mQ,jB]) (ed (by rw[iH,jB]) (ed (by rw[mQ,jB]) (UN b (i:=0) (j:=1) rfl rfl (by omega) (Dr _) f λg ok l m=>?_))));exact H g _ ok l m (by rw[Oz];exact d)
theorem zcX{x:Int}(a:rO .u64 x)(m:Nat):rO .u64 (x.fdiv (2 ^ m)):=by
 have b:(0:Int)<2 ^ m:=Int.pow_pos (by decide);rw[Int.fdiv_eq_ediv_of_nonneg _ (Int.le_of_lt b)];exact⟨Int.ediv_nonneg a.1 (Int.le_of_lt b),Int.le_trans (Int.ediv_le_self _ a.1) a.2⟩
theorem U3(I:ej F h cs)(d:ie (eI .u64) F h ls lv)(H:∀h' lx v hp,Sn F h F h'->ej F h' (ey lx 89 [.I 100,v]::eJ (eI .u64) Dy hp v::cs)->hp.length<=100->Q (.ptr lx 0) h') :
  cP CS mE [lv] h Q:=by
 refine Em rfl rfl ?_;unfold wE;refine Ul I λh1 K lx L M=>?_;obtain⟨J,m⟩:∃J,J=λk l h'=>∃i v hp,l=[lv,.ptr lx 0,.I (i:Nat)]/\i+k=8/\Sn F h F h'/\hp.length<=100/\ej F h' (ey lx 89 [.I 100,v]::eJ (eI .u64) Dy hp v::cs):=⟨_,rfl⟩
 refine A5 J (λk N O P R hi=>?_) (k:=8) ?_;rotate_left
 ·rw[m];exact⟨0,K,_,rfl,rfl,L,by simp,M⟩
 rw[m]at hi;obtain⟨i,S,o,⟨⟩,hk,p,e,C⟩:=hi;unfold ri;have D:=d.since p;refine ed D.len (ed (jT ..) (ed (a:= .bool (decide (i<ls.length/\i<8))) ?_ (iJ ?_)))
 ·by_cases c:i<ls.length
  ·rw[Ml (by omega),mA,fe,jT];congr 2;exact decide_eq_decide.2 (by omega)
  ·rw[OZ (by omega),EL,OZ λh=>c h.1]
 by_cases c:i<ls.length/\i<8;rotate_left
 ·exact fU (by rw[A4];exact c) (H R lx S o p C e)
 have E:=hO c.1;generalize ls[i]=x at*
 let⟨l1,o1,_,p1,p2,p3⟩:=D.word E .i64
 have f:=p3;have T:0<=x.tmod 5/\x.tmod 5<=4:=by rw[Int.tmod_eq_emod_of_nonneg f.1];omega
 have U:0<=x.tmod 3/\x.tmod 3<=2:=by rw[Int.tmod_eq_emod_of_nonneg f.1];omega
 let⟨n,hn⟩:=wBG T.1
 let⟨t,ht⟩:=wBG U.1
 refine gj (Ml c) (ed p1 (ed p2 (ed (show en .rem 60 (.int .u64 x) (.int .u64 5)=some (.int .u64 (x.tmod 5)) from rfl) (ed (by rw[iH,hn,Ir (by omega)]) (ed p1 (ed p2 (ed (show en .rem 60 (.int .u64 x) (.int .u64 3)=some (.int .u64 (x.tmod 3)) from rfl) (ed (by rw[iH,ht,Ir (by omega)]) (ed (by rw[mQ,show(5:Int)+(t:Nat)=((5+t:Nat):Int) by omega,Ir (by omega)]) ?_)))))))));refine Z4 C e (by omega) (by omega) λh3 q s r ok V W u X=>?_;refine ed (rfl) (ed (rfl) ?_);have w:=p.trans V;obtain⟨y,b⟩:∃y,y=λk l h'=>∃j hp,l=[lv,.ptr lx 0,.I i,.I n,.int .u64 r,.bool ok,.I (j:Nat)]/\j+k=n/\Sn F h F h'/\hp.length<=100/\ej F h' (ey lx 89 [.I 100,q]::eJ (eI .u64) Dy hp q::cs):=⟨_,rfl⟩
 refine Bh y (λY N O P x5 x6 x7 x8 Z hi=>?_) (k:=n) ?_;rotate_left
 ·rw[b];exact⟨0,s,rfl,by omega,w,u,W⟩
 rw [b]at hi;obtain⟨j,z,⟨⟩,aa,s4,g,G⟩:=hi;unfold rN;have out:J (k-1) [lv,.ptr lx 0,.I ((i+1:Nat):Int)] Z:=by
  rw[m];exact⟨i+1,q,z,rfl,by omega,s4,g,G⟩
 refine ed (a:= .bool (ok&&decide (j<n))) ?_ (iJ ?_)
 ·cases ok
  ·rfl
  ·rw[mA,fe,fe,jT,wBc];congr 2;exact decide_eq_decide.2 (by omega)
 by_cases cj:ok=true/\j<n;rotate_left
 ·refine fU (by rw[yl,A4];exact cj) (fI ⟨k-1,by omega,out⟩)
 let⟨l2,o2,_,q1,q2,_⟩:=(d.since s4).word E .i64
 refine gj (by rw[yl,A4];exact cj) (ed q1 (ed q2 (ed (by rw[NY,show((j:Nat):Int)*9=((j*9:Nat):Int) by omega,Ir (by omega)]) (ed (by rw[iH,jB,LH (by simp[rO];omega)]) (ed (rfl) ?_)))));refine zc3 G g X (zcX p3 _) (by omega) λh5 A _ s5 H5 B=>?_;refine fI ⟨Y-1,by omega,?_⟩;rw[b];exact⟨j+1,A,rfl,by omega,s4.trans s5,B,H5⟩
theorem Xj(p:ej F h cs)(b:ie (eI .u64) F h ls lv)(H:∀F' h' v xs,Sn F h F' h'->ej F' h' cs->ie (eI .u64) F' h' xs v->xs.length<=6->Q v h'):cP CS nf [lv] h Q:=by
 refine EU rfl rfl ?_;unfold xE;obtain⟨J,d⟩:∃J,J=λk l h'=>∃i v xs,l=[lv,v,.I (i:Nat)]/\i+k=6/\Sn F h F h'/\xs.length=i/\ej F h' (eJ (eI .u64) Dy xs v::cs):=⟨_,rfl⟩
 refine Ce J (λk t v u e hi=>?_) (k:=6) ?_;rotate_left
 ·rw[d];exact⟨0,.ee,[],rfl,rfl,Sn.refl _ _,rfl,p.add .nil λ_ h=>h⟩
 rw[d]at hi;obtain⟨i,_,xs,⟨⟩,hk,f,g,n⟩:=hi;unfold tL;have o:=b.since f;refine ed o.len (ed (jT ..) (ed (a:= .bool (decide (i<ls.length/\i<6))) ?_ (iJ ?_)))
 ·by_cases c:i<ls.length
  ·rw[Ml (by omega),mA,fe,jT];congr 2;exact decide_eq_decide.2 (by omega)
  ·rw[OZ (by omega),EL,OZ λh=>c h.1]
 by_cases c:i<ls.length/\i<6;rotate_left
 ·let⟨j,m,r3⟩:=n.jZ 0 rfl
  exact fU (by rw[A4];exact c) (H _ e v xs (f.trans m) j.tail r3 (by omega))
 have q:=hO c.1;generalize ls[i]=x at*
 let⟨l1,w,_,p1,p2,p3⟩:=o.word q .i64
 refine gj (Ml c) (ed p1 (ed p2 ?_));rw[Ba,fE];obtain⟨r,y,s,_,j,m⟩:=n.wR 0 rfl (kL:=8) ⟨rfl,p3⟩ (by decide) (by decide) (by omega);rw[show eR 60 1 8 v (.slice e.next 0 1) (e.new (.cells 60 1 true false [.int .u64 x]))=_ from s,ei];refine fI ⟨k-1,by omega,?_⟩;rw[d];exact⟨i+1,r,_,rfl,by omega,f.trans m,by rw[K8,List.length_singleton,g],j⟩
end
open Un Dm
theorem V7{X:Option V}{K:Bool->V->Prop}(h:oP X (K true)):oP (fu false (.bool false)) λb=>oP (gV b X) (K b):=h
section
variable{u:U}
theorem YK{n:Nat}(h:n<1000000000):en .sub 3 (.I n) (.I 1)=some (.I ((n:Nat)-1:Int)):=by
 rw[pI,qh (by simp only[rO];omega)]
end
open Un Dm
section
variable{F F':Nat->Prop}{h h':Hp}{cs ds:List Pc}{Q:fo}{u:U}{vv vb vs wv wb ws:V}
theorem SP{op:Nat}(H:∀b,Q (.bool b) h):cP CS xY [.I op] h Q:=by
 refine NQ rfl rfl ?_;unfold Hj;simp only[fe,gO,Wf,pK];exact H _
theorem Uu(p:ej F h cs){x:Vl}{i j:V}(k:ie eN F h x.args i)(l:ie eN F h x.args j)(m:x.args.length<=1000000)(H:∀F' h',Sn F h F' h'->ej F' h' cs->Q (.bool true) h'):cP CS qp [.agg (mW x i),.agg (mW x j)] h Q:=by
 refine O3 rfl rfl ?_;unfold Je;refine jM p (by simp only[mW,eo,k.one];rfl) λq r s=>jM r (by simp only[mW,eo,l.one];rfl) λy d t=>?_;have a:=s.trans t;generalize h.next=l1 at*;generalize q.next=l2 at*;refine oF (d.ld 1 rfl rfl) (oF (d.ld 0 rfl rfl) (ed (oU ..) ?_));rw[show(((x.op:Nat):Int) != ((x.op:Nat):Int))=false by simp];refine fx (ed (d.tK 1 rfl rfl) (V7 (ed (d.tK 0 rfl rfl) (pY ?_))));refine KT d (k.since a) (λ_=>m) λz A xv e n r3=>⟨e.next,n.tK 0 rfl rfl,pY ?_⟩
 refine KT n ((l.since a).since e) (λ_=>m) λu o B s4 c v=>⟨s4.next,pY ?_⟩
 have f:(iP x).length<1000000000:=by
  unfold iP;split
  ·omega
  ·split
   ·simp only[Rb,NM];omega
   ·split
    ·simp
    ·split <;> simp
 refine Bs (r3.since s4) v f ⟨ju _,mZ rfl ?_⟩;have g:=(a.trans e).trans s4;have out:∀b:Bool,b=true->Q (.bool b) o:=λb w=>w▸H u o g c.tail.tail;refine iJ (fU (by simp) (oF (c.ld 1 rfl rfl) (SP λb=>iJ ?_)))
 cases b with
 |true=>exact gj rfl (oF (c.ld 1 rfl rfl) (oF (c.ld 0 rfl rfl) (ed (gO ..) (out _ (by simp)))))
 | false=>
   refine fU (by simp) (oF (c.ld 1 rfl rfl) (HV (iJ ?_)))
   cases leaves x.op with
   |true=>exact gj rfl (oF (c.ld 1 rfl rfl) (oF (c.ld 0 rfl rfl) (ed (gO ..) (out _ (by simp)))))
   |false=>exact fU (by simp) (out true rfl)
theorem Rh(o:ej F h cs){x:Bk}{xv i j k l m:V}(hv:ie eN F h x.ef xv)(n:ie eN F h x.next i)(hp:ie eN F h x.eQ j) (e:ie eN F h x.ef k) (f:ie eN F h x.next l) (g:ie eN F h x.eQ m)(l1:x.ef.length<1000000000)(l2:x.next.length<1000000000)(l3:x.eQ.length<1000000000)
  (H:∀F' h',Sn F h F' h'->ej F' h' cs->Q (.bool true) h'):cP CS oC [.agg (lB x xv i j),.agg (lB x k l m)] h Q:=by
 refine MD rfl rfl ?_;unfold F0;refine jM o (by simp only[lB,eo,hv.one,n.one,hp.one];rfl) λp q r=>jM q (by simp only[lB,eo,e.one,f.one,g.one];rfl) λd c s=>?_;have b:=r.trans s;generalize h.next=la at*;generalize p.next=lb at*;have a1:ez (.ptr la (0+1)) d=some (.I x.fin):=c.ld 1 rfl rfl;have a2:ez (.ptr la (0+2)) d=some (.I x.cond):=c.ld 1 rfl rfl;have t:ez (.ptr la (0+5)) d=some (.I x.state):=c.ld 1 rfl rfl;have b1:ez (.ptr lb (0+1)) d=some (.I x.fin):=c.ld 0 rfl rfl;have b2:ez (.ptr lb (0+2)) d=some (.I x.cond):=c.ld 0 rfl rfl;have u:ez (.ptr lb (0+5)) d=some (.I x.state):=c.ld 0 rfl rfl;refine oF a1 (oF b1 (ed (oU ..) ?_));rw[show(((x.fin:Nat):Int) != ((x.fin:Nat):Int))=false by simp];refine fx (ed pf (fx (ed (c.ld 1 rfl rfl) (fx (ed pf (fx (ed (c.ld 0 rfl rfl) (pY ?_))))))));refine Bs (hv.since b) (e.since b) l1 (mZ rfl ?_);refine fx (ed pf (fx (ed (c.ld 1 rfl rfl) (fx (ed pf (fx (ed (c.ld 0 rfl rfl) (pY ?_))))))));refine Bs (n.since b) (f.since b) l2 (mZ rfl ?_);refine fx (ed pf (fx (ed (c.ld 1 rfl rfl) (fx (ed pf (fx (ed (c.ld 0 rfl rfl) (pY ?_))))))));refine Bs (hp.since b) (g.since b) l3 (mZ rfl ?_);refine iJ (fU (by simp) (oF a1 (ed (oU ..) (ed (a:= .bool true) ?_ (ed (a:= .bool true) ?_ (H F d b c.tail.tail))))))
 ·simp only[pK,fe,fS,a2,b2,gO,beq_self_eq_true,Bool.or_true]
 ·simp only[mA,pK,fe,fS,a1,t,u,oU,gO,beq_self_eq_true,Bool.or_true]
theorem Ri(m:ej F h cs){x:Fm}{g i j k:V}(l:ie eN F h x.locals g)(hs:ie eN F h x.stack i) (d:ie eN F h x.locals j) (e:ie eN F h x.stack k)(l1:x.locals.length<1000000000)(l2:x.stack.length<1000000000)
  (H:∀F' h',Sn F h F' h'->ej F' h' cs->Q (.bool true) h'):cP CS mG [.agg (LL x g i),.agg (LL x j k)] h Q:=by
 refine KH rfl rfl ?_;unfold CK;refine jM m (by simp only[LL,eo,l.one,hs.one];rfl) λn o p=>jM o (by simp only[LL,eo,d.one,e.one];rfl) λf c q=>?_;have b:=p.trans q;generalize h.next=la at*;generalize n.next=lb at*;have a1:ez (.ptr la (0+1)) f=some (.I x.pc):=c.ld 1 rfl rfl;have b1:ez (.ptr lb (0+1)) f=some (.I x.pc):=c.ld 0 rfl rfl;refine oF (c.ld 1 rfl rfl) (oF (c.ld 0 rfl rfl) (ed (gO ..) (ed (a:= .bool true) ?_ ?_)))
 ·rw[beq_self_eq_true,mA];simp only[fe,fS,a1,b1,gO,beq_self_eq_true]
 refine fV (ed pf (fV (ed (c.ld 1 rfl rfl) (fV (ed pf (fV (ed (c.ld 0 rfl rfl) (vI ?_))))))));refine Bs (l.since b) (d.since b) l1 (ed (vh ..) ?_);rw[if_pos rfl];refine fV (ed pf (fV (ed (c.ld 1 rfl rfl) (fV (ed pf (fV (ed (c.ld 0 rfl rfl) (vI ?_))))))));refine Bs (hs.since b) (e.since b) l2 (ed (vh ..) ?_);rw[if_pos rfl];exact H F f b c.tail.tail
theorem XJ(g:PV u)(r:ej F h cs)(b:zQ F h u vv vb vs)(n:zQ F h u wv wb ws)(H:∀F' h',Sn F h F' h'->ej F' h' cs->Q (.bool true) h') :
  cP CS gR [vv,wv,.func qp [] []] h Q:=by
 refine ny rfl rfl ?_;unfold jH;have nv:=g.nv;refine ed b.v.len (ed n.v.len (tI (gj rfl (ed b.v.len ?_))));obtain⟨I,c⟩:∃I:Nat->LP,I=λk l h'=>∃(F':Nat->Prop) (i:Nat),l=[wv,.func qp [] [],vv,.I u.ef.length,.I i]/\i+k=u.ef.length/\Sn F h F' h'/\ej F' h' cs:=⟨_,rfl⟩
 refine mU I (λk G J s t w y hi=>?_) (k:=u.ef.length) ?_;rotate_left
 ·rw[c];exact⟨F,0,rfl,by omega,Sn.refl _ _,r⟩
 rw[c]at hi;obtain⟨z,i,⟨⟩,hk,a,o⟩:=hi;unfold jq;by_cases hi:i<u.ef.length;rotate_left
 ·exact iI (H z y a o)
 have d:=hO hi;generalize u.ef[i]=x at*;have e:x.args.length<=1000000:=Ix (g.args i x d) (by decide);obtain⟨l1,K,L,_,p1,p2,p,_⟩:=(b.since a).val d;refine gy (ed p1 (ed p2 ?_));refine gW o rfl rfl (by simp only[mW,eo,p.one];rfl) λM A f=>?_;obtain⟨l2,N,O,_,B,C,q,_⟩:=((n.since a).since f).val d;refine ed B (ed C ?_);refine gW A rfl rfl (by simp only[mW,eo,q.one];rfl) λP j m=>?_;refine ed (j.tK 1 rfl rfl) (ed (j.tK 0 rfl rfl) ?_);simp only[yW,AP,O7,wBo];refine Uu j ((p.since f).since m) (q.since m) e λD R s4 E=>?_;refine ed rfl (iJ (fU (by simp) (fI ⟨k-1,by omega,?_⟩)));rw[c];exact⟨D,i+1,rfl,by omega,((a.trans f).trans m).trans s4,E.tail.tail⟩
theorem SM(g:Good u)(s:ej F h cs)(f:zQ F h u vv vb vs)(n:zQ F h u wv wb ws)(H:∀F' h',Sn F h F' h'->ej F' h' cs->Q (.bool true) h') :
  cP CS gD [vb,wb,.func oC [] []] h Q:=by
 refine lR rfl rfl ?_;unfold je;have nb:=g.nb;refine ed f.b.len (ed n.b.len (tI (gj rfl (ed f.b.len ?_))));obtain⟨I,j⟩:∃I:Nat->LP,I=λk l h'=>∃(F':Nat->Prop) (i:Nat),l=[wb,.func oC [] [],vb,.I u.blocks.length,.I i]/\i+k=u.blocks.length/\Sn F h F' h'/\ej F' h' cs:=⟨_,rfl⟩
 refine kY I (λk G J t v w x hi=>?_) (k:=u.blocks.length) ?_;rotate_left
 ·rw[j];exact⟨F,0,rfl,by omega,Sn.refl _ _,s⟩
 rw[j]at hi;obtain⟨y,i,⟨⟩,hk,e,o⟩:=hi;unfold iW;by_cases hi:i<u.blocks.length;rotate_left
 ·exact iI (H y x e o)
 have c:=hO hi;generalize u.blocks[i]=B at*;have K:=AN g c;have L:=AT g c;have M:=Bj g c;obtain⟨l1,N,xv,O,P,_,p1,p2,r1,p,r3,_⟩:=(f.since e).nV c;refine gy (ed p1 (ed p2 ?_));refine gW o rfl rfl (by simp only[lB,eo,r1.one,p.one,r3.one];rfl) λR z d=>?_;obtain⟨l2,S,T,U,V,_,A,C,q,r,t3,_⟩:=((n.since e).since d).nV c;refine ed A (ed C ?_);refine gW z rfl rfl (by simp only[lB,eo,q.one,r.one,t3.one];rfl) λW m a=>?_;refine ed (m.tK 1 rfl rfl) (ed (m.tK 0 rfl rfl) ?_);simp only[yW,AP,O7,wBo];refine Rh m ((r1.since d).since a) ((p.since d).since a) ((r3.since d).since a) (q.since a) (r.since a) (t3.since a) (by omega) (by omega) (by omega) λD X s4 E=>?_;refine ed rfl (iJ (fU (by simp) (fI ⟨k-1,by omega,?_⟩)));rw[j];exact⟨D,i+1,rfl,by omega,((e.trans d).trans a).trans s4,E.tail.tail⟩
theorem So(t:ej F h cs){fs:List Fm}{a b:V}(g:ie eF F h fs a)(n:ie eF F h fs b)(J:fs.length<=1000000)(u:∀f∈fs,f.locals.length<=1000/\f.stack.length<=1000)(H:∀F' h',Sn F h F' h'->ej F' h' cs->Q (.bool true) h') :
  cP CS gB [a,b,.func mG [] []] h Q:=by
 refine lV rfl rfl ?_;unfold jd;refine ed g.len (ed n.len (tI (gj rfl (ed g.len ?_))));obtain⟨I,j⟩:∃I:Nat->LP,I=λk l h'=>∃(F':Nat->Prop) (i:Nat),l=[b,.func mG [] [],a,.I fs.length,.I i]/\i+k=fs.length/\Sn F h F' h'/\ej F' h' cs:=⟨_,rfl⟩
 refine lg I (λk K L v w y z hi=>?_) (k:=fs.length) ?_;rotate_left
 ·rw[j];exact⟨F,0,rfl,by omega,Sn.refl _ _,t⟩
 rw[j]at hi;obtain⟨A,i,⟨⟩,hk,d,o⟩:=hi;unfold iT;by_cases hi:i<fs.length;rotate_left
 ·exact iI (H A z d o)
 have p:=hO hi;obtain⟨M,N⟩:=u _ (AU hi);generalize fs[i]=x at*;obtain⟨l1,O,P,R,_,p1,p2,r1,q⟩:=(g.since d).mN p;refine gy (ed p1 (ed p2 ?_));refine gW o rfl rfl (by simp only[LL,eo,r1.one,q.one];rfl) λS B e=>?_;obtain⟨l2,T,U,W,_,C,D,r,s⟩:=((n.since d).since e).mN p;refine ed C (ed D ?_);refine gW B rfl rfl (by simp only[LL,eo,r.one,s.one];rfl) λX m c=>?_;refine ed (m.tK 1 rfl rfl) (ed (m.tK 0 rfl rfl) ?_);simp only[yW,AP,O7,wBo];refine Ri m ((r1.since e).since c) ((q.since e).since c) (r.since c) (s.since c) (by omega) (by omega) λE Y s4 G=>?_;refine ed rfl (iJ (fU (by simp) (fI ⟨k-1,by omega,?_⟩)));rw[j];exact⟨E,i+1,rfl,by omega,((d.trans e).trans c).trans s4,G.tail.tail⟩
theorem Tq(g:Good u)(w:ej F h cs)(e:zQ F h u vv vb vs)(r:zQ F h u wv wb ws)(H:∀F' h',Sn F h F' h'->ej F' h' cs->Q (.bool true) h') :
  cP CS gz [vs,ws,.func qi [] []] h Q:=by
 refine lQ rfl rfl ?_;unfold jf;have ns:=g.ns;refine ed e.s.len (ed r.s.len (tI (gj rfl (ed e.s.len ?_))));obtain⟨I,j⟩:∃I:Nat->LP,I=λk l h'=>∃(F':Nat->Prop) (i:Nat),l=[ws,.func qi [] [],vs,.I u.eh.length,.I i]/\i+k=u.eh.length/\Sn F h F' h'/\ej F' h' cs:=⟨_,rfl⟩
 refine kZ I (λk P R x y z A hi=>?_) (k:=u.eh.length) ?_;rotate_left
 ·rw[j];exact⟨F,0,rfl,by omega,Sn.refl _ _,w⟩
 rw[j]at hi;obtain⟨B,i,⟨⟩,hk,d,t⟩:=hi;unfold iV;by_cases hi:i<u.eh.length;rotate_left
 ·exact iI (H B A d t)
 have c:=hO hi;generalize u.eh[i]=fs at*;obtain⟨_,C,D⟩:=g.st i fs c;obtain⟨l1,S,T,_,p1,p2,_,r1⟩:=(e.since d).st c;refine gy (ed p1 (ed p2 ?_));refine gW t rfl rfl (by simp only[eo,r1.one];rfl) λU E m=>?_;obtain⟨l2,V,W,_,G,J,_,v⟩:=((r.since d).since m).st c;refine ed G (ed J ?_);refine gW E rfl rfl (by simp only[eo,v.one];rfl) λX n o=>?_;refine ed (n.tK 1 rfl rfl) (ed (n.tK 0 rfl rfl) ?_);simp only[yW,AP,O7,wBo];refine ME rfl rfl ?_;unfold FV;have r3:=(r1.since m).since o;have t3:=v.since o;refine jM n (by simp only[eo,r3.one];rfl) λY K s4=>jM K (by simp only[eo,t3.one];rfl) λZ p q=>?_;refine oF (p.ld 1 rfl rfl) (oF (p.ld 0 rfl rfl) ?_);refine So p ((r3.since s4).since q) ((t3.since s4).since q) (by omega) (λf L=>by obtain⟨a,b,_⟩:=D f L;omega) λM h6 N O=>?_;refine ed rfl (iJ (fU (by simp) (fI ⟨k-1,by omega,?_⟩)));rw[j];exact⟨M,i+1,rfl,by omega,((((d.trans m).trans o).trans s4).trans q).trans N,O.tail.tail.tail.tail⟩
theorem zaF(g:Good u)(m:AH u)(n:ej F h cs)(f:zQ F h u vv vb vs)(i:zQ F h u wv wb ws)(H:∀F' h',Sn F h F' h'->ej F' h' cs->Q (.bool true) h') :
  cP CS Fc [.agg (uC u vv vb vs),.agg (uC u wv wb ws)] h Q:=by
 refine UF rfl rfl ?_;unfold Nv;refine jM n f.one λo p q=>jM p i.one λl b r=>?_;have c:=q.trans r;generalize h.next=la at*;generalize o.next=lb at*;have a1:ez (.ptr la (0+1)) l=some (.I u.pc):=b.ld 1 rfl rfl;have b1:ez (.ptr lb (0+1)) l=some (.I u.pc):=b.ld 0 rfl rfl;refine oF (b.ld 1 rfl rfl) (oF (b.ld 0 rfl rfl) (ed (gO ..) (ed (a:= .bool true) ?_ ?_)))
 ·rw[beq_self_eq_true,mA];simp only[fe,fS,a1,b1,gO,beq_self_eq_true]
 refine fV (ed pf (fV (ed (b.ld 1 rfl rfl) (fV (ed pf (fV (ed (b.ld 0 rfl rfl) (vI ?_))))))));refine XJ (E4 g m) b (f.since c) (i.since c) λy z s j=>ed (vh ..) ?_;rw[if_pos rfl];have d:=c.trans s;refine fV (ed pf (fV (ed (j.ld 1 rfl rfl) (fV (ed pf (fV (ed (j.ld 0 rfl rfl) (vI ?_))))))));refine SM g j (f.since d) (i.since d) λA B s4 k=>ed (vh ..) ?_;rw[if_pos rfl];have e:=d.trans s4;refine fV (ed pf (fV (ed (k.ld 1 rfl rfl) (fV (ed pf (fV (ed (k.ld 0 rfl rfl) (vI ?_))))))));refine Tq g k (f.since e) (i.since e) λt v w x=>ed (vh ..) ?_;rw[if_pos rfl];exact H t v (e.trans w) x.tail.tail
end
open Un Dm
section
variable{F F':Nat->Prop}{h h':Hp}{cs ds:List Pc}{Q:fo}{u:U}{vv vb vs:V}
theorem UH(H:Q (.bool true) h):cP CS p7 [] h Q:=by
 obtain⟨fn,c,a,b⟩:=Ov;exact cP.known a b (show CS.K p7 [] h=some (.bool true) from rfl) rfl rfl H
theorem Ty{ops a ls k:List Int}{np gw:Int}{vo l lv wS:V}(H0:ej F h cs)(n:ie (eI .i64) F h ops vo)(o:ie (eI .i64) F h a l)(r:ie (eI .u64) F h ls lv)(s:ie (eI .u64) F h k wS)(ho:ops.length<9223372036854775808)(H:∀h',Q (.bool true) h') :
  cP CS ou [.agg [vo,l,.I np],lv,wS,.I gw] h Q:=by
 refine BK rfl rfl ?_;unfold tT;refine jM H0 (by simp only[eo,n.one,o.one];rfl) λh1 M t=>?_;refine ed (M.tK 0 rfl rfl) ?_;refine zaU M (n.since t) (o.since t) ho λF2 N O s2 H2 hw=>?_;have g:Good (Ji ops a np):=W2 ops a np;have a0:AH (Ji ops a np):=λv x hx=>Ix (zbx ops a np x (DQ hx)) (by decide);generalize Ji ops a np=u at*;obtain⟨vv,vb,vs,rfl,w1,O,w3⟩:=hw;have u2:zQ F2 N u vv vb vs:=⟨w1,O,w3⟩
 refine gW H2.tail rfl rfl u2.one λh3 P y=>?_;generalize N.next=lu at*;refine ed (P.tK 0 rfl rfl) ?_;refine QB (E4 g a0) P (u2.since y) λF4 h4 wv wb ws xs bs ss fa fn fl s4 hc hb hs H4=>?_;obtain⟨G,H5,S,T⟩:=H4.Zu hc hb hs;refine gW H5 rfl rfl T.one λh6 U z=>?_;generalize h4.next=lc at*;refine ed (U.tK 1 rfl rfl) ?_;have A:=((((t.trans s2).trans y).trans s4).trans S).trans z;have W:=(((u2.since y).since s4).since S).since z;refine zbe g a0 U W λF7 h7 w xv xb aa B H7 C R=>?_;have X:=R.GD;have hR:=λlocals gw heap=>R.KD locals gw 1500 1501 heap;refine gW H7 rfl rfl C.one λh8 D p=>?_;generalize h7.next=lw at*;have E:=(A.trans B).trans p;have Y:=(W.since B).since p;have c8:=((T.since z).since B).since p;refine UH (Nc (V7 (ed (D.tK 2 rfl rfl) (V7 (ed (D.tK 1 rfl rfl) (pY ?_))))));refine zaF g a0 D Y c8 λF9 h9 q Z=>mZ rfl (V7 (ed (Z.tK 0 rfl rfl) (pY ?_)));refine T3 X Z ((C.since p).since q) λab ac e f=>mZ rfl ?_;have d:=(E.trans q).trans e;have I:=(Y.since q).since e;have J:=((C.since p).since q).since e;refine iJ (fU (by simp) (ed (f.tK 2 rfl rfl) (ed (f.tK 0 rfl rfl) ?_)));refine U3 f (r.since d) λae lx oV hp c i ag=>⟨c.next,i.tK 2 rfl rfl,i.tK 4 rfl rfl,?_⟩
 refine Xj i ((s.since d).since c) λah ai yv ys j b r12 aj=>⟨j.next,b.tK 2 rfl rfl,b.tK 4 rfl rfl,?_⟩
 refine MZ (m:=9) (by decide) (by decide) ⟨ju _,ed (YK (by have:=Hh gw (m:=9) (by decide);omega)) ⟨b.tK 2 rfl rfl,b.tK 4 rfl rfl,?_⟩⟩;refine zaD (fuel:=1500) g X b ((I.since c).since j) ((J.since c).since j) r12 (by omega) (by omega) (by decide) (hR _ _ _) λak K L al=>⟨L.next,?_⟩
 exact H K
end
