/- Parts. -/
import Derived.Test.YtloecllhljfidaaGreatDoorM37
import Derived.Test.YtloecllhljfidaaGreatDoorM47
set_option maxHeartbeats 4000000
namespace Go.Proofs.YtloecllhljfidaaGreatDoor.Hx
open Un Dm
theorem jn(n:Int):lO .u64 n=qq n:=by
 rw[rT];simp only[IntKind.wrap,IntKind.signed,IntKind.bits,Bool.false_and,wBM,if_false,qq];rfl
theorem Cw(n:Int):sO .u64 (qq n):=by simp only[sO,qq];omega
theorem LW{n:Int}(h:sO .u64 n):qq n=n:=by simp only[sO]at h;unfold qq;omega
theorem Om{n:Int}(h:sO .u64 n):lO .i64 n=vQ n:=by
 rw[rT];simp only[sO]at h;have e:n % 18446744073709551616=n:=by omega
 simp only[IntKind.wrap,IntKind.signed,IntKind.bits,wBd,zX,Nat.reduceSub,Int.reducePow,ge_iff_le,e,vQ];by_cases c:n<9223372036854775808
 ·rw[if_neg (by omega),if_pos c]
 ·rw[if_pos (by omega),if_neg c]
theorem zb9{c:Prop} [Decidable c] {x y:Int}(hx:sO .u64 x)(a:sO .u64 y):sO .u64 (if c then x else y):=by
 by_cases h:c
 ·rw[if_pos h];exact hx
 ·rw[if_neg h];exact a
theorem zY:sO .u64 0:=⟨Int.le_refl _,by decide⟩
theorem Zr(b:Bool):sO .u64 (IW b):=by cases b <;> simp[sO,IW]
theorem QW(op:Nat)(a b:Int):sO .u64 (Bh op a b):=by
 unfold Bh
 repeat' first|exact Cw _|exact Zr _|exact zY|refine zb9 ?_ ?_
theorem RT{t:Nat}{k:IntKind}{a b:Int}{K:V->Prop}(H:K (.bool (decide (a=b)))):oP (ez .eql t (.int k a) (.int k b)) K:=hX H
open Un Dm
section
variable{F F':Nat->Prop}{h h':Hp}{cs ds:List Pc}{Q:fq}
theorem Ij{b:Bool}(H:Q (.int .u64 (IW b)) h):cP CS iG [.bool b] h Q:=by
 refine Gk ?_;cases b
 ·exact iB (fP (by simp) H)
 ·exact iB (fW rfl H)
theorem Ui{op:Nat}{a b:Int}(g:sO .u64 a)(hb:sO .u64 b)(i:3<=op/\op<=14)(H:Q (.tuple [.int .u64 (Bh op a b),.bool true]) h):cP CS mw [.I op,.int .u64 a,.int .u64 b] h Q:=by
 refine Fx ?_;refine eh (by rw[iz,Om g]) (eh (by rw[iz,Om hb]) ?_);have d:∀n:Nat,op=n->Bh op a b=Bh n a b:=λn h=>by rw[h]
 refine fX ?_;by_cases c:op=3
 ·rw[d _ c]at H;exact fW (by omega) (eh (by rw[nT,jn];rfl) H)
 refine fP (by omega) (fX ?_);by_cases c:op=4
 ·rw[d _ c]at H;exact fW (by omega) (eh (by rw[pI,jn];rfl) H)
 refine fP (by omega) (fX ?_);by_cases c:op=5
 ·rw[d _ c]at H;exact fW (by omega) (eh (by rw[OG,jn];rfl) H)
 refine fP (by omega) (fX ?_);by_cases c:op=6
 ·rw [d _ c]at H;refine fW (by omega) (fX ?_);by_cases z:vQ b=0
  ·refine fW z ?_;rw[show Bh 6 a b=0 by simp[Bh,z]]at H;exact H
  refine fP z (fX ?_);by_cases z1:vQ b = -1
  ·refine fW z1 (eh (by rw[Se,jn]) ?_);rw[show Bh 6 a b=qq (0-a) by simp[Bh,z1]]at H;exact H
  ·refine fP z1 (eh (a:= .I (lO .i64 ((vQ a).tdiv (vQ b)))) ?_ (eh (by rw[iz]) ?_))
   ·have:∀y:Int,y≠0->ez .quo 2 (.I (vQ a)) (.I y)=some (.I (lO .i64 ((vQ a).tdiv y))):=λy f=>by
     cases y with
     | ofNat n=>cases n with
       |zero=>exact absurd rfl f
       |succ n=>rfl
     |negSucc n=>rfl
    exact this _ z
   ·rw [show Bh 6 a b=qq ((vQ a).tdiv (vQ b)) by simp[Bh,z,z1]]at H;rw[jn,rT];have:qq (IntKind.i64.wrap ((vQ a).tdiv (vQ b)))=qq ((vQ a).tdiv (vQ b)):=by
     simp only[IntKind.wrap,IntKind.signed,IntKind.bits,wBd,zX,Nat.reduceSub,Int.reducePow,qq];split <;> omega
    rw[this];exact H
 refine fP (by omega) (fX ?_);by_cases c:op=7
 ·rw [d _ c]at H;refine fW (by omega) (eh (gR ..) (eh (a:= .bool (decide (vQ b=0\/vQ b = -1))) ?_ (iB ?_)))
  ·simp only[ft,gR,uN];congr 2;rw[Wr,OK,Bg,Bg,zX]
  by_cases z:vQ b=0\/vQ b = -1
  ·refine fW (JO z) ?_;rw[show Bh 7 a b=0 by simp[Bh,z]]at H;exact H
  ·refine fP (by rw[zX];exact z) (eh (a:= .I ((vQ a).tmod (vQ b))) ?_ (eh (by rw[iz,jn]) ?_))
   ·have:∀y:Int,y≠0->ez .rem 2 (.I (vQ a)) (.I y)=some (.I ((vQ a).tmod y)):=λy f=>by
     cases y with
     | ofNat n=>cases n with
       |zero=>exact absurd rfl f
       |succ n=>rfl
     |negSucc n=>rfl
    exact this _ λh=>z (.inl h)
   ·rw[show Bh 7 a b=qq ((vQ a).tmod (vQ b)) by simp[Bh,z]]at H;exact H
 refine fP (by omega) (fX ?_);by_cases c:op=8
 ·rw[d _ c]at H;refine fW (by omega) (eh (by rw[Se,jn]) ?_);rw[show Bh 8 a b=qq (0-a) by simp[Bh]]at H;exact H
 refine fP (by omega) (fX ?_);by_cases c:op=9
 ·rw[d _ c]at H;exact fW (by omega) (RT (Ij H))
 refine fP (by omega) (fX ?_);by_cases c:op=10
 ·rw[d _ c]at H;exact fW (by omega) (RT (Ij H))
 refine fP (by omega) (fX ?_);by_cases c:op=11
 ·rw[d _ c]at H;refine fW (by omega) (eh (vf ..) ?_);rw[show(a != b)=decide (a≠b) by by_cases e:a=b <;> simp[e]];exact Ij H
 refine fP (by omega) (fX ?_);by_cases c:op=12
 ·rw[d _ c]at H;exact fW (by omega) (eh (j7 ..) (Ij H))
 refine fP (by omega) (fX ?_);by_cases c:op=13
 ·rw[d _ c]at H;exact fW (by omega) (eh (KA ..) (Ij H))
 refine fP (by omega) (fX ?_);obtain rfl:op=14:=by omega
 exact fW rfl (eh (j7 ..) (Ij H))
end
open Un Dm
abbrev C0:Nat:=79
section
variable{F F':Nat->Prop}{h h':Hp}{cs ds:List Pc}{Q:fq}{i j lh Th:Nat}{rm hv:V}{hp:List Int}
theorem ev.Mq{ty:Nat}{xs:List Int}{v:V}(H:ev F h cs)(i:Nat)(hi:cs[i]? =some (fg (eI .u64) ty xs v)){k:Nat}{x:Int}(hx:xs[k]? =some x)(kd:IntKind):∃l o,gB 1 v (.int kd (k:Nat))=some (.ptr l o)/\fe (.ptr l o) h=some (.int .u64 x)/\sO .u64 x/\l<h.next:=by
 obtain⟨hk,rfl⟩:=jo.1 hx;obtain⟨l,o,u,a,b,c⟩:=H.Wd i hi hk kd rfl;obtain⟨e,d⟩:=c;cases e;exact⟨l,o,a,b,d,H.zfQ i hi hk a⟩
theorem il.word{xs:List Int}{v:V}(a:il (eI .u64) F h xs v){i:Nat}{x:Int}(hx:xs[i]? =some x)(kd:IntKind):∃l o,F l/\gB 1 v (.int kd (i:Nat))=some (.ptr l o)/\fe (.ptr l o) h=some (.int .u64 x)/\sO .u64 x:=by
 obtain⟨hi,rfl⟩:=jo.1 hx;obtain⟨l,o,w,b,c,d,e,f⟩:=a.Wd hi kd rfl;cases e;exact⟨l,o,b,c,d,f⟩
theorem Zn{a:Int}(h:hp.length<=a.toNat):vj hp a=0:=by
 unfold vj;rw[CH,Q9 h];rfl
theorem Zk{a:Int}{x:Int}(h:hp[a.toNat]? =some x):vj hp a=x:=by
 unfold vj;rw[CH,h];rfl
theorem M8(d:ev F h cs)(hi:cs[i]? =some (eJ lh Th [rm,hv]))(f:cs[j]? =some (fg (eI .u64) C0 hp hv))(r:hp.length<1000000000){a:Int}(m:sO .u64 a)(H:sO .u64 (vj hp a)->Q (.int .u64 (vj hp a)) h) :
  cP CS iT [.ptr lh 0,.int .u64 a] h Q:=by
 refine BT ?_;have g:fe (.ptr lh (0+1)) h=some hv:=d.ld i hi rfl;have e:sO .u64 ((hp.length:Nat):Int):=by simp only[sO];omega
 have b:=m;simp only[sO]at b;refine oN g (eh (d.len j f) (eh (by rw[iz,jn,LW e]) (PO ?_)));by_cases c:((hp.length:Nat):Int)<=a
 ·refine fW c ?_;rw[Zn (by omega)]at H;exact H zY
 ·refine fP c (oN g ?_);obtain⟨k,rfl⟩:=wBF b.1;have hx:=gN (l:=hp) (i:=k) (by omega);obtain⟨l,o,n,p,q,_⟩:=d.Mq j f hx .u64;rw[Zk (a:=(k:Int)) (x:=hp[k]) hx]at H;exact eh n (eh p (H q))
theorem zbC(b:ev F h cs)(hi:cs[i]? =some (eJ lh Th [rm,hv]))(c:cs[j]? =some (fg (eI .u64) C0 hp hv))(d:hp.length<1000000000){a:Int}(f:sO .u64 a)(H:sO .u64 (vj hp a / 4294967296)->Q (.I (vj hp a / 4294967296)) h) :
  cP CS nf [.ptr lh 0,.int .u64 a] h Q:=by
 refine Bq ?_;refine M8 b hi c d f λg=>?_;generalize vj hp a=w at*;simp only[sO]at g;have e:w.fdiv 4294967296=w / 4294967296:=Int.fdiv_eq_ediv_of_nonneg _ (by decide);refine eh (show ez .shr 79 (.int .u64 w) (.int .u64 32)=some (.int .u64 (w.fdiv 4294967296)) from rfl) ?_;rw[e];refine eh (by rw[iz,qi (by simp only[sO];omega)]) (H ?_);simp only[sO];omega
theorem zaJ(c:ev F h cs)(hi:cs[i]? =some (eJ lh Th [rm,hv]))(d:cs[j]? =some (fg (eI .u64) C0 hp hv))(f:hp.length<1000000000){a:Int}(g:sO .u64 a)(H:sO .u64 (vj hp a % 4294967296)->Q (.I (vj hp a % 4294967296)) h) :
  cP CS lK [.ptr lh 0,.int .u64 a] h Q:=by
 refine Cy ?_;refine M8 c hi d f g λb=>?_;generalize vj hp a=w at*;simp only[sO]at b;have e:w.tmod 4294967296=w % 4294967296:=Int.tmod_eq_emod_of_nonneg b.1;refine eh (show ez .rem 79 (.int .u64 w) (.int .u64 4294967296)=some (.int .u64 (w.tmod 4294967296)) from rfl) ?_;rw[e];refine eh (by rw[iz,qi (by simp only[sO];omega)]) (H ?_);simp only[sO];omega
theorem UQ(d:ev F h cs)(hi:cs[i]? =some (eJ lh Th [rm,hv]))(f:cs[j]? =some (fg (eI .u64) C0 hp hv))(w:hp.length<1000000000){a x:Int}(p:sO .u64 a)(hx:sO .u64 x)(H:∀h' r,Sn F h F h'->ev F h' (cs.set j (fg (eI .u64) C0 (Nz hp a x) hv))->Q (.bool r) h') :
  cP CS jF [.ptr lh 0,.int .u64 a,.int .u64 x] h Q:=by
 refine Cu ?_;have n:fe (.ptr lh (0+1)) h=some hv:=d.ld i hi rfl;have g:sO .u64 ((hp.length:Nat):Int):=by simp only[sO];omega
 have b:=p;simp only[sO]at b;have same:cs.set j (fg (eI .u64) C0 hp hv)=cs:=by
  obtain⟨A,m⟩:=jo.1 f;rw[<-m,List.set_getElem_self]
 refine eh (gR ..) (eh (a:= .bool (decide (a=0\/((hp.length:Nat):Int)<=a))) ?_ (iB ?_))
 ·simp only[ft,fS,gf,n,d.len j f,iz,jn,LW g,nW,uN];congr 2;rw[Wr,OK,Bg,zX,zX]
 by_cases c:a=0\/((hp.length:Nat):Int)<=a
 ·refine fW (JO c) (H h false (Sn.refl _ _) ?_);have:Nz hp a x=hp:=by
   unfold Nz;by_cases z:a=0
   ·rw[if_pos z]
   ·rw[if_neg z,List.set_eq_of_length_le (by omega)]
  rw[this,same];exact d
 ·refine fP (by rw[zX];exact c) (oN n ?_);obtain⟨k,rfl⟩:=wBF b.1;obtain⟨l,o,m,q,s,_,t,v⟩:=d.IH j f (k:=k) (y:=x) (u:= .int .u64 x) (by omega) rfl rfl ⟨rfl,hx⟩;refine eh (show gB 1 hv (.int .u64 (k:Nat))=_ from q) ?_;rw[s,en];refine H m true v ?_;have:Nz hp (k:Int) x=hp.set k x:=by
   unfold Nz;rw[if_neg (λe=>c (.inl e))];rfl
  rw[this];exact t
theorem OB{hp:List Int}{a x:Int}:(Nz hp a x).length=hp.length:=by
 unfold Nz;split
 ·rfl
 ·rw[Lj]
end
open Un Dm
abbrev zdZ:Nat:=113
def eFw:qf Fw where
 sz:=4
 rel F h x cs:=∃a b,cs=[.I x.func,.I x.pc,a,b]/\il (eI .u64) F h x.locals a/\il (eI .u64) F h x.stack b
 len:=λ⟨_,_,h,_⟩=>by subst h;rfl
 one:=λ⟨_,_,h,c,d⟩=>by subst h;simp only[eQ,c.one,d.one];rfl
 fk:=λhk ⟨a,b,h,c,d⟩=>⟨a,b,h,c.fk hk,d.fk hk⟩
 mono:=λhb ⟨a,b,h,c,d⟩=>⟨a,b,h,c.mono hb,d.mono hb⟩
def Hh(ej:List Int)(v:Nat):Int:=ej.getD v 0
def Ur(ej:List Int)(f:Fm):Fw:=⟨f.func,f.pc,f.locals.map (Hh ej),f.stack.map (Hh ej)⟩
theorem KC{ej:List Int}{v:Nat}(h:v<ej.length):ej[v]? =some (Hh ej v):=by
 unfold Hh;rw[CH,gN h];rfl
theorem AN(w:Int):iS 79 1 1 (.int .u64 0) [(0,.int .u64 w)]=some (.cells 79 1 true false [.int .u64 w],λl=> .slice l 0 1):=rfl
section
variable{F F':Nat->Prop}{h h':Hp}{cs ds:List Pc}{Q:fq}{u:U}{vv vb vs nK:V}{ej:List Int}{j:Nat}
theorem Pc.Db(H:ev F h cs)(i:Nat){l ty:Nat}{ws:List V}(hi:cs[i]? =some (eJ l ty ws)):l<h.next:=(H.ok i _ hi).2.1
theorem TZ(g:Good u)(H0:ev F h cs)(hu:tL F h u vv vb vs)(hj:cs[j]? =some (fg (eI .u64) C0 ej nK))(hl:ej.length=u.ej.length){st:Nat}{fs:List Fm}(z:u.eo[st]? =some fs){jL steps:Int}
  (H:∀F' h' w,Sn F h F' h'->ev F' h' cs->il eFw F' h' (fs.map (Ur ej)) w->Q (.agg [.I 1,.I st,.I jL,w,.I steps]) h') :
  cP CS jq [.agg (uC u vv vb vs),nK,.I st,.I jL,.I steps] h Q:=by
 refine EM ?_;refine j4 H0 hu.one λh1 H1 s1=>pz H1 λh2 H2 s2=>?_;generalize h.next=lu at*;generalize h1.next=lr at*;refine eh (rfl) ?_;refine gQ H2 rfl rfl rfl λh3 H3 s3=>?_;generalize h2.next=lx at*;have ag:=(s1.trans s2).trans s3;have M:=Ej g z
 obtain ⟨J,hJ⟩:∃J,J=λk l h'=>∃F' i w,l=[nK,.I st,.ptr lu 0,.ptr lr 0,.ptr lx 0,.I (i:Nat)]/\i+k=fs.length/\Sn F h F' h'/\
   ev F' h' (fg eFw zdZ ((fs.take i).map (Ur ej)) w::eJ lx 72 [.I 1,.I st,.I jL,w,.I steps]::eJ lr 72 [.I 0,.I 0,.I 0,.ei,.I 0]::eJ lu 30 (uC u vv vb vs)::cs):=⟨_,rfl⟩
 refine BW J (λk N x2 x5 O P R h4 hi=>?_) (k:=fs.length) ?_;rotate_left
 ·rw[hJ];exact⟨F,0,.ei,rfl,by omega,ag,H3.add .nil λ_ h=>h⟩
 rw[hJ]at hi;obtain⟨G,i,w,⟨⟩,hk,s4,S⟩:=hi;unfold ui;have u4:=hu.since s4
 let⟨l1,o1,f,hF1,N,_,x3,xf⟩:=u4.st z
 have x3:=x3;refine oF (S.ld 3 rfl rfl) (eh N (oF x3 (eh xf.len ?_)));by_cases hi:i<fs.length;rotate_left
 ·refine hY ?_;obtain rfl:i=fs.length:=by omega
  rw[I2]at S
  let⟨I,s5,r5⟩:=S.jc 0 rfl
  have o1:gj [V.I 1,.I st,.I jL,w,.I steps]=true:=by simp only[eQ,r5.one];rfl
  refine eh (I.mY 1 rfl rfl) ?_
  let⟨h6,e6,_,H6,s6⟩:=I.Qy 2 (n:=5) rfl rfl rfl o1
  rw[e6,en];refine eh (H6.mY 2 rfl rfl) ?_;exact H _ h6 w ((s4.trans s5).trans s6) H6.tail.tail.tail.tail (r5.since s6)
 refine gy ?_;have hx:=gN hi;have ah:=M4 hi;have A:=zI hi;generalize fs[i]=x at*;have ai:∀v∈x.locals,v<ej.length:=λv hv=>by rw[hl];exact M v (UE.2 ⟨x,A,Ti _ hv⟩)
 have aj:∀v∈x.stack,v<ej.length:=λv hv=>by rw[hl];exact M v (UE.2 ⟨x,A,wBY _ hv⟩)
 let⟨_,_,hf⟩:=g.st st fs z
 let⟨hl40,hs60,_⟩:=hf x A
 let⟨l2,o2,xa,xb,_,y1,y2,ya,yb⟩:=xf.lV hx
 refine oF (S.ld 3 rfl rfl) (eh N (oF x3 (eh y1 (eh y2 ?_))));refine gQ S rfl rfl (by simp only[Pj,eQ,ya.one,yb.one];rfl) λh5 I s5=>?_;generalize h4.next=lf at*;refine oF (I.ld 0 rfl rfl) (oF (I.ld 0 rfl rfl) ?_);refine eh (rfl) ?_;refine gQ I rfl rfl rfl λh6 H6 s6=>?_;generalize h5.next=K at*;have T:=s5.trans s6;have jv:∀{a b c d e f g:Pc},(a::b::c::d::e::f::g::cs)[j+7]? =some (fg (eI .u64) C0 ej nK):=λ{_ _ _ _ _ _ _}=>by simpa using hj
 have ak:∀{a b c d e f g k:Pc},(a::b::c::d::e::f::g::k::cs)[j+8]? =some (fg (eI .u64) C0 ej nK):=λ{_ _ _ _ _ _ _ _}=>by simpa using hj
 obtain ⟨J1,B⟩:∃J1,J1=λk l h'=>∃n p,l=[nK,.I st,.ptr lu 0,.ptr lr 0,.ptr lx 0,.I i,.ptr lf 0,.ptr K 0,.I (n:Nat)]/\n+k=x.locals.length/\Sn G h6 G h'/\
   ev G h' (fg (eI .u64) C0 ((x.locals.take n).map (Hh ej)) p::eJ K 113 [.I x.func,.I x.pc,p,.ei]::eJ lf 49 (Pj x xa xb)::fg eFw zdZ ((fs.take i).map (Ur ej)) w::eJ lx 72 [.I 1,.I st,.I jL,w,.I steps]::eJ lr 72 [.I 0,.I 0,.I 0,.ei,.I 0]::eJ lu 30 (uC u vv vb vs)::cs):=⟨_,rfl⟩
 refine Bw J1 (λk1 N x2 x5 O P R al am an U W=>?_) (k:=x.locals.length) ?_;rotate_left
 ·rw[B];exact⟨0,.ei,rfl,by omega,Sn.refl _ _,H6.add .nil λ_ h=>h⟩
 rw[B]at W;obtain⟨n,p,⟨⟩,aB,s7,s⟩:=W;have X:=(ya.since T).since s7;unfold uw;refine oF (s.ld 2 rfl rfl) (eh X.len ?_);by_cases hn:n<x.locals.length
 ·refine gy ?_;have hv:=gN hn;have q:=M4 hn;have C:=ai _ (zI hn);generalize x.locals[n]=v at*
  let⟨l3,o3,hF3,p1,p2⟩:=X.nat hv .i64
  let⟨l4,o4,q1,Y,q3,q4⟩:=s.Mq (j+7) jv (KC C) .i64
  have Z:fe (.ptr K (0+2)) U=some p:=s.ld 1 rfl rfl;have c2:fe (.ptr lf (0+2)) U=some xa:=s.ld 2 rfl rfl;refine oF Z (oF c2 (eh p1 (eh p2 (eh q1 (eh Y ?_)))));rw[AN,gO];obtain⟨ao,D,e8,n8,m,s8⟩:=s.rZ 0 rfl (jL:=8) ⟨rfl,q3⟩ (by decide) (by decide) (by simp;omega);refine⟨⟨fm _ _,bq⟩,ij Y (fo _ q4),ij p2 (fo _ (s.fl _ hF3)),ij c2 (fo _ (Pc.Db s 2 rfl)),ij Z (fo _ (Pc.Db s 1 rfl)),?_⟩;rw[show fi 79 1 8 p (.slice U.next 0 1) (U.new (.cells 79 1 true false [.int .u64 (Hh ej v)]))=_ from e8,en]
  let⟨h9,e9,n9,L,s9⟩:=m.st 1 (o:=0+2) rfl (by simp) (m.one 0 rfl)
  refine⟨n8,eh pf ?_⟩;rw[e9,en];refine⟨n9,fF ⟨k1-1,by omega,?_⟩⟩;rw[B];exact⟨n+1,ao,rfl,by omega,(s7.trans s8).trans s9,by rw[q,Mw];exact L⟩
 refine hY ?_;obtain rfl:n=x.locals.length:=by omega
 rw[I2]at s
 obtain ⟨J2,E⟩:∃J2,J2=λk l h'=>∃n sw,l=[nK,.I st,.ptr lu 0,.ptr lr 0,.ptr lx 0,.I i,.ptr lf 0,.ptr K 0,.I (n:Nat)]/\n+k=x.stack.length/\Sn G U G h'/\
   ev G h' (fg (eI .u64) C0 ((x.stack.take n).map (Hh ej)) sw::fg (eI .u64) C0 (x.locals.map (Hh ej)) p::eJ K 113 [.I x.func,.I x.pc,p,sw]::eJ lf 49 (Pj x xa xb)::fg eFw zdZ ((fs.take i).map (Ur ej)) w::eJ lx 72 [.I 1,.I st,.I jL,w,.I steps]::eJ lr 72 [.I 0,.I 0,.I 0,.ei,.I 0]::eJ lu 30 (uC u vv vb vs)::cs):=⟨_,rfl⟩
 refine Bx J2 (λk2 N x2 x5 O P R al am an D aa=>?_) (k:=x.stack.length) ?_;rotate_left
 ·rw[E];exact⟨0,.ei,rfl,by omega,Sn.refl _ _,s.add .nil λ_ h=>h⟩
 rw[E]at aa;obtain⟨n,sw,⟨⟩,aC,s8,m⟩:=aa;have ab:=(T.trans s7).trans s8;have ac:=yb.since ab;unfold uq;refine oF (m.ld 3 rfl rfl) (eh ac.len ?_);by_cases hn:n<x.stack.length
 ·refine gy ?_;have hv:=gN hn;have q:=M4 hn;have C:=aj _ (zI hn);generalize x.stack[n]=v at*
  let⟨l3,o3,hF3,p1,p2⟩:=ac.nat hv .i64
  let⟨l4,o4,q1,Y,q3,q4⟩:=m.Mq (j+8) ak (KC C) .i64
  have Z:fe (.ptr K (0+3)) D=some sw:=m.ld 2 rfl rfl;have c2:fe (.ptr lf (0+3)) D=some xb:=m.ld 3 rfl rfl;refine oF Z (oF c2 (eh p1 (eh p2 (eh q1 (eh Y ?_)))));rw[AN,gO];obtain⟨ap,h9,e9,n9,L,s9⟩:=m.rZ 0 rfl (jL:=8) ⟨rfl,q3⟩ (by decide) (by decide) (by simp;omega);refine⟨⟨fm _ _,bq⟩,ij Y (fo _ q4),ij p2 (fo _ (m.fl _ hF3)),ij c2 (fo _ (Pc.Db m 3 rfl)),ij Z (fo _ (Pc.Db m 2 rfl)),?_⟩;rw[show fi 79 1 8 sw (.slice D.next 0 1) (D.new (.cells 79 1 true false [.int .u64 (Hh ej v)]))=_ from e9,en]
  let⟨aD,aq,ar,r,t⟩:=L.st 2 (o:=0+3) rfl (by simp) (L.one 0 rfl)
  refine⟨n9,eh pf ?_⟩;rw[aq,en];refine⟨ar,fF ⟨k2-1,by omega,?_⟩⟩;rw[E];exact⟨n+1,ap,rfl,by omega,(s8.trans s9).trans t,by rw[q,Mw];exact r⟩
 refine hY ?_;obtain rfl:n=x.stack.length:=by omega
 rw[I2]at m
 let⟨L,s9,r9⟩:=m.jc 0 rfl
 let⟨r,t,ad⟩:=L.jc 1 rfl
 have r9:=r9.since t;have o4:gj [V.I x.func,.I x.pc,p,sw]=true:=by simp only[eQ,r9.one,ad.one];rfl
 refine oF (r.ld 5 rfl rfl) (eh (r.mY 2 rfl rfl) ?_);rw[show iS 113 4 1 (.agg [.I 0,.I 0,.ei,.ei]) [(0,.agg [.I x.func,.I x.pc,p,sw])]=_ from nM rfl rfl o4,fu];obtain⟨au,aE,Yr,_,ae,aw⟩:=r.rZ 4 rfl (jL:=64) (y:=Ur ej x) ⟨p,sw,rfl,ad,r9⟩ (by decide) (by decide) (by simp;omega);rw[show fi 113 4 64 w (.slice D.next 0 1) (D.new (.cells 113 4 true false [.I x.func,.I x.pc,p,sw]))=_ from Yr,en]
 let⟨aF,ax,_,ay,aA⟩:=ae.st 5 (o:=0+3) rfl (by simp) (ae.one 4 rfl)
 refine eh pf ?_;rw[ax,en];refine fF ⟨k-1,by omega,?_⟩;rw[hJ];exact⟨_,i+1,au,rfl,by omega,((((s4.trans ab).trans s9).trans t).trans aw).trans aA,by rw[ah,Mw];exact ay.tail.tail.tail.tail⟩
end
