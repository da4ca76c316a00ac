/- Parts. -/
import Derived.Test.YtbdcpiokodljaaaGreatDoorM37
import Derived.Test.YtbdcpiokodljaaaGreatDoorM47
set_option maxHeartbeats 4000000
namespace Go.Proofs.YtbdcpiokodljaaaGreatDoor.Hx
open Un Dm
theorem jB(n:Int):mq .u64 n=qo n:=by
 rw[qZ];simp only[IntKind.wrap,IntKind.signed,IntKind.bits,Bool.false_and,RY,if_false,qo];rfl
theorem Dr(n:Int):rO .u64 (qo n):=by simp only[rO,qo];omega
theorem LH{n:Int}(h:rO .u64 n):qo n=n:=by simp only[rO]at h;unfold qo;omega
theorem Oj{n:Int}(h:rO .u64 n):mq .i64 n=vg n:=by
 rw[qZ];simp only[rO]at h;have e:n % 18446744073709551616=n:=by omega
 simp only[IntKind.wrap,IntKind.signed,IntKind.bits,wBc,A4,Nat.reduceSub,Int.reducePow,ge_iff_le,e,vg];by_cases c:n<9223372036854775808
 ·rw[if_neg (by omega),if_pos c]
 ·rw[if_pos (by omega),if_neg c]
theorem zbX{c:Prop} [Decidable c] {x y:Int}(a:rO .u64 x)(b:rO .u64 y):rO .u64 (if c then x else y):=by
 by_cases h:c
 ·rw[if_pos h];exact a
 ·rw[if_neg h];exact b
theorem AD:rO .u64 0:=⟨Int.le_refl _,by decide⟩
theorem YN(b:Bool):rO .u64 (Jj b):=by cases b <;> simp[rO,Jj]
theorem QO(op:Nat)(a b:Int):rO .u64 (BC op a b):=by
 unfold BC
 repeat' first|exact Dr _|exact YN _|exact AD|refine zbX ?_ ?_
theorem RN{t:Nat}{k:IntKind}{a b:Int}{K:V->Prop}(H:K (.bool (decide (a=b)))):oP (en .eql t (.int k a) (.int k b)) K:=ij H
open Un Dm
section
variable{F F':Nat->Prop}{h h':Hp}{cs ds:List Pc}{Q:fo}
theorem HL{b:Bool}(H:Q (.int .u64 (Jj b)) h):cP CS iD [.bool b] h Q:=by
 refine Gq rfl rfl ?_;unfold yJ;cases b
 ·exact iJ (fU (by simp) H)
 ·exact iJ (gj rfl H)
theorem Sh{op:Nat}{a b:Int}(f:rO .u64 a)(g:rO .u64 b)(i:3<=op/\op<=14)(H:Q (.tuple [.int .u64 (BC op a b),.bool true]) h):cP CS kS [.I op,.int .u64 a,.int .u64 b] h Q:=by
 refine Fk rfl rfl ?_;unfold xh;refine ed (by rw[iH,Oj f]) (ed (by rw[iH,Oj g]) ?_);have e0:∀n:Nat,op=n->BC op a b=BC n a b:=λn h=>by rw[h]
 refine fZ ?_;by_cases c:op=3
 ·rw[e0 _ c]at H;exact gj (by omega) (ed (by rw[mQ,jB];rfl) H)
 refine fU (by omega) (fZ ?_);by_cases c:op=4
 ·rw[e0 _ c]at H;exact gj (by omega) (ed (by rw[pI,jB];rfl) H)
 refine fU (by omega) (fZ ?_);by_cases c:op=5
 ·rw[e0 _ c]at H;exact gj (by omega) (ed (by rw[NY,jB];rfl) H)
 refine fU (by omega) (fZ ?_);by_cases c:op=6
 ·rw [e0 _ c]at H;refine gj (by omega) (fZ ?_);by_cases z:vg b=0
  ·refine gj z ?_;rw[show BC 6 a b=0 by simp[BC,z]]at H;exact H
  refine fU z (fZ ?_);by_cases z1:vg b = -1
  ·refine gj z1 (ed (by rw[Rx,jB]) ?_);rw[show BC 6 a b=qo (0-a) by simp[BC,z1]]at H;exact H
  ·refine fU z1 (ed (a:= .I (mq .i64 ((vg a).tdiv (vg b)))) ?_ (ed (by rw[iH]) ?_))
   ·have:∀y:Int,y≠0->en .quo 2 (.I (vg a)) (.I y)=some (.I (mq .i64 ((vg a).tdiv y))):=λy d=>by
     cases y with
     | ofNat n=>cases n with
       |zero=>exact absurd rfl d
       |succ n=>rfl
     |negSucc n=>rfl
    exact this _ z
   ·rw [show BC 6 a b=qo ((vg a).tdiv (vg b)) by simp[BC,z,z1]]at H;rw[jB,qZ];have:qo (IntKind.i64.wrap ((vg a).tdiv (vg b)))=qo ((vg a).tdiv (vg b)):=by
     simp only[IntKind.wrap,IntKind.signed,IntKind.bits,wBc,A4,Nat.reduceSub,Int.reducePow,qo];split <;> omega
    rw[this];exact H
 refine fU (by omega) (fZ ?_);by_cases c:op=7
 ·rw [e0 _ c]at H;refine gj (by omega) (ed (gO ..) (ed (a:= .bool (decide (vg b=0\/vg b = -1))) ?_ (iJ ?_)))
  ·simp only[fe,gO,pK];congr 2;rw[Ue,RC,IE,IE,A4]
  by_cases z:vg b=0\/vg b = -1
  ·refine gj (Ml z) ?_;rw[show BC 7 a b=0 by simp[BC,z]]at H;exact H
  ·refine fU (by rw[A4];exact z) (ed (a:= .I ((vg a).tmod (vg b))) ?_ (ed (by rw[iH,jB]) ?_))
   ·have:∀y:Int,y≠0->en .rem 2 (.I (vg a)) (.I y)=some (.I ((vg a).tmod y)):=λy d=>by
     cases y with
     | ofNat n=>cases n with
       |zero=>exact absurd rfl d
       |succ n=>rfl
     |negSucc n=>rfl
    exact this _ λh=>z (.inl h)
   ·rw[show BC 7 a b=qo ((vg a).tmod (vg b)) by simp[BC,z]]at H;exact H
 refine fU (by omega) (fZ ?_);by_cases c:op=8
 ·rw[e0 _ c]at H;refine gj (by omega) (ed (by rw[Rx,jB]) ?_);rw[show BC 8 a b=qo (0-a) by simp[BC]]at H;exact H
 refine fU (by omega) (fZ ?_);by_cases c:op=9
 ·rw[e0 _ c]at H;exact gj (by omega) (RN (HL H))
 refine fU (by omega) (fZ ?_);by_cases c:op=10
 ·rw[e0 _ c]at H;exact gj (by omega) (RN (HL H))
 refine fU (by omega) (fZ ?_);by_cases c:op=11
 ·rw[e0 _ c]at H;refine gj (by omega) (ed (oU ..) ?_);rw[show(a != b)=decide (a≠b) by by_cases e:a=b <;> simp[e]];exact HL H
 refine fU (by omega) (fZ ?_);by_cases c:op=12
 ·rw[e0 _ c]at H;exact gj (by omega) (ed (jT ..) (HL H))
 refine fU (by omega) (fZ ?_);by_cases c:op=13
 ·rw[e0 _ c]at H;exact gj (by omega) (ed (KX ..) (HL H))
 refine fU (by omega) (fZ ?_);obtain rfl:op=14:=by omega
 exact gj rfl (ed (jT ..) (HL H))
end
open Un Dm
abbrev Dy:Nat:=60
section
variable{F F':Nat->Prop}{h h':Hp}{cs ds:List Pc}{Q:fo}{i j lh Th:Nat}{rm hv:V}{hp:List Int}
theorem ej.Mg{ty:Nat}{xs:List Int}{v:V}(H:ej F h cs)(i:Nat)(hi:cs[i]? =some (eJ (eI .u64) ty xs v)){k:Nat}{x:Int}(b:xs[k]? =some x)(kd:IntKind):∃l o,gG 1 v (.int kd (k:Nat))=some (.ptr l o)/\ez (.ptr l o) h=some (.int .u64 x)/\rO .u64 x/\l<h.next:=by
 obtain⟨hk,rfl⟩:=kj.1 b;obtain⟨l,o,u,a,c,d⟩:=H.Wd i hi hk kd rfl;obtain⟨e,f⟩:=d;cases e;exact⟨l,o,a,c,f,H.zeg i hi hk a⟩
theorem ie.word{xs:List Int}{v:V}(a:ie (eI .u64) F h xs v){i:Nat}{x:Int}(b:xs[i]? =some x)(kd:IntKind):∃l o,F l/\gG 1 v (.int kd (i:Nat))=some (.ptr l o)/\ez (.ptr l o) h=some (.int .u64 x)/\rO .u64 x:=by
 obtain⟨hi,rfl⟩:=kj.1 b;obtain⟨l,o,w,c,d,f,e,g⟩:=a.Wd hi kd rfl;cases e;exact⟨l,o,c,d,f,g⟩
theorem zar{a:Int}(h:hp.length<=a.toNat):uo hp a=0:=by
 unfold uo;rw[ED,X8 h];rfl
theorem ZU{a:Int}{x:Int}(h:hp[a.toNat]? =some x):uo hp a=x:=by
 unfold uo;rw[ED,h];rfl
theorem M7(d:ej F h cs)(hi:cs[i]? =some (ey lh Th [rm,hv]))(f:cs[j]? =some (eJ (eI .u64) Dy hp hv))(r:hp.length<1000000000){a:Int}(m:rO .u64 a)(H:rO .u64 (uo hp a)->Q (.int .u64 (uo hp a)) h) :
  cP CS iO [.ptr lh 0,.int .u64 a] h Q:=by
 refine B8 rfl rfl ?_;unfold sR;have e0:ez (.ptr lh (0+1)) h=some hv:=d.ld i hi rfl;have e:rO .u64 ((hp.length:Nat):Int):=by simp only[rO];omega
 have b:=m;simp only[rO]at b;refine oN e0 (ed (d.len j f) (ed (by rw[iH,jB,LH e]) (VT ?_)));by_cases c:((hp.length:Nat):Int)<=a
 ·refine gj c ?_;rw[zar (by omega)]at H;exact H AD
 ·refine fU c (oN e0 ?_);obtain⟨k,rfl⟩:=wBG b.1;have g:=hO (l:=hp) (i:=k) (by omega);obtain⟨l,o,n,p,q,_⟩:=d.Mg j f g .u64;rw[ZU (a:=(k:Int)) (x:=hp[k]) g]at H;exact ed n (ed p (H q))
theorem za2(b:ej F h cs)(hi:cs[i]? =some (ey lh Th [rm,hv]))(c:cs[j]? =some (eJ (eI .u64) Dy hp hv))(d:hp.length<1000000000){a:Int}(f:rO .u64 a)(H:rO .u64 (uo hp a / 4294967296)->Q (.I (uo hp a / 4294967296)) h) :
  cP CS lF [.ptr lh 0,.int .u64 a] h Q:=by
 refine BQ rfl rfl ?_;unfold th;refine M7 b hi c d f λg=>?_;generalize uo hp a=w at*;simp only[rO]at g;have e:w.fdiv 4294967296=w / 4294967296:=Int.fdiv_eq_ediv_of_nonneg _ (by decide);refine ed (show en .shr 60 (.int .u64 w) (.int .u64 32)=some (.int .u64 (w.fdiv 4294967296)) from rfl) ?_;rw[e];refine ed (by rw[iH,qh (by simp only[rO];omega)]) (H ?_);simp only[rO];omega
theorem ZG(c:ej F h cs)(hi:cs[i]? =some (ey lh Th [rm,hv]))(d:cs[j]? =some (eJ (eI .u64) Dy hp hv))(f:hp.length<1000000000){a:Int}(g:rO .u64 a)(H:rO .u64 (uo hp a % 4294967296)->Q (.I (uo hp a % 4294967296)) h) :
  cP CS ka [.ptr lh 0,.int .u64 a] h Q:=by
 refine CR rfl rfl ?_;unfold uy;refine M7 c hi d f g λb=>?_;generalize uo hp a=w at*;simp only[rO]at b;have e:w.tmod 4294967296=w % 4294967296:=Int.tmod_eq_emod_of_nonneg b.1;refine ed (show en .rem 60 (.int .u64 w) (.int .u64 4294967296)=some (.int .u64 (w.tmod 4294967296)) from rfl) ?_;rw[e];refine ed (by rw[iH,qh (by simp only[rO];omega)]) (H ?_);simp only[rO];omega
theorem UN(d:ej F h cs)(hi:cs[i]? =some (ey lh Th [rm,hv]))(f:cs[j]? =some (eJ (eI .u64) Dy hp hv))(w:hp.length<1000000000){a x:Int}(n:rO .u64 a)(p:rO .u64 x)(H:∀h' r,Sn F h F h'->ej F h' (cs.set j (eJ (eI .u64) Dy (NG hp a x) hv))->Q (.bool r) h') :
  cP CS jm [.ptr lh 0,.int .u64 a,.int .u64 x] h Q:=by
 refine CP rfl rfl ?_;unfold uh;have e0:ez (.ptr lh (0+1)) h=some hv:=d.ld i hi rfl;have g:rO .u64 ((hp.length:Nat):Int):=by simp only[rO];omega
 have b:=n;simp only[rO]at b;have same:cs.set j (eJ (eI .u64) Dy hp hv)=cs:=by
  obtain⟨A,m⟩:=kj.1 f;rw[<-m,List.set_getElem_self]
 refine ed (gO ..) (ed (a:= .bool (decide (a=0\/((hp.length:Nat):Int)<=a))) ?_ (iJ ?_))
 ·simp only[fe,fP,fS,e0,d.len j f,iH,jB,LH g,oS,pK];congr 2;rw[Ue,RC,IE,A4,A4]
 by_cases c:a=0\/((hp.length:Nat):Int)<=a
 ·refine gj (Ml c) (H h false (Sn.refl _ _) ?_);have:NG hp a x=hp:=by
   unfold NG;by_cases z:a=0
   ·rw[if_pos z]
   ·rw[if_neg z,List.set_eq_of_length_le (by omega)]
  rw[this,same];exact d
 ·refine fU (by rw[A4];exact c) (oN e0 ?_);obtain⟨k,rfl⟩:=wBG b.1;obtain⟨l,o,m,q,s,_,t,v⟩:=d.JZ j f (k:=k) (y:=x) (u:= .int .u64 x) (by omega) rfl rfl ⟨rfl,p⟩;refine ed (show gG 1 hv (.int .u64 (k:Nat))=_ from q) ?_;rw[s,ei];refine H m true v ?_;have:NG hp (k:Int) x=hp.set k x:=by
   unfold NG;rw[if_neg (λe=>c (.inl e))];rfl
  rw[this];exact t
theorem Oz{hp:List Int}{a x:Int}:(NG hp a x).length=hp.length:=by
 unfold NG;split
 ·rfl
 ·rw[MC]
end
open Un Dm
abbrev zdZ:Nat:=117
def eFw:qH Fw where
 sz:=4
 rel F h x cs:=∃a b,cs=[.I x.func,.I x.pc,a,b]/\ie (eI .u64) F h x.locals a/\ie (eI .u64) F h x.stack b
 len:=λ⟨_,_,h,_⟩=>by subst h;rfl
 one:=λ⟨_,_,h,c,d⟩=>by subst h;simp only[eo,c.one,d.one];rfl
 fi:=λhk ⟨a,b,h,c,d⟩=>⟨a,b,h,c.fi hk,d.fi hk⟩
 mono:=λe ⟨a,b,h,c,d⟩=>⟨a,b,h,c.mono e,d.mono e⟩
def Hq(ef:List Int)(v:Nat):Int:=ef.getD v 0
def Sd(ef:List Int)(f:Fm):Fw:=⟨f.func,f.pc,f.locals.map (Hq ef),f.stack.map (Hq ef)⟩
theorem KN{ef:List Int}{v:Nat}(h:v<ef.length):ef[v]? =some (Hq ef v):=by
 unfold Hq;rw[ED,hO h];rfl
theorem Ba(w:Int):jK 60 1 1 (.int .u64 0) [(0,.int .u64 w)]=some (.cells 60 1 true false [.int .u64 w],λl=> .slice l 0 1):=rfl
section
variable{F F':Nat->Prop}{h h':Hp}{cs ds:List Pc}{Q:fo}{u:U}{vv vb vs oE:V}{ef:List Int}{j:Nat}
theorem Pc.DN(H:ej F h cs)(i:Nat){l ty:Nat}{ws:List V}(hi:cs[i]? =some (ey l ty ws)):l<h.next:=(H.ok i _ hi).2.1
theorem Se(g:Good u)(H0:ej F h cs)(hu:zQ F h u vv vb vs)(hj:cs[j]? =some (eJ (eI .u64) Dy ef oE))(hl:ef.length=u.ef.length){st:Nat}{fs:List Fm}(z:u.eh[st]? =some fs){kL steps:Int}
  (H:∀F' h' w,Sn F h F' h'->ej F' h' cs->ie eFw F' h' (fs.map (Sd ef)) w->Q (.agg [.I 1,.I st,.I kL,w,.I steps]) h') :
  cP CS jj [.agg (uC u vv vb vs),oE,.I st,.I kL,.I steps] h Q:=by
 refine E7 rfl rfl ?_;unfold xI;refine jM H0 hu.one λh1 H1 s1=>Be H1 λh2 H2 s2=>?_;generalize h.next=lu at*;generalize h1.next=lr at*;refine ed (rfl) ?_;refine gW H2 rfl rfl rfl λh3 H3 s3=>?_;generalize h2.next=lx at*;have ag:=(s1.trans s2).trans s3;have M:=P9 g z
 obtain ⟨J,hJ⟩:∃J,J=λk l h'=>∃F' i w,l=[oE,.I st,.ptr lu 0,.ptr lr 0,.ptr lx 0,.I (i:Nat)]/\i+k=fs.length/\Sn F h F' h'/\
   ej F' h' (eJ eFw zdZ ((fs.take i).map (Sd ef)) w::ey lx 84 [.I 1,.I st,.I kL,w,.I steps]::ey lr 84 [.I 0,.I 0,.I 0,.ee,.I 0]::ey lu 30 (uC u vv vb vs)::cs):=⟨_,rfl⟩
 refine Cb J (λk N x2 x5 O P R h4 hi=>?_) (k:=fs.length) ?_;rotate_left
 ·rw[hJ];exact⟨F,0,.ee,rfl,by omega,ag,H3.add .nil λ_ h=>h⟩
 rw[hJ]at hi;obtain⟨G,i,w,⟨⟩,hk,s4,S⟩:=hi;unfold sU;have u4:=hu.since s4
 let⟨l1,o1,f,hF1,N,_,x3,xf⟩:=u4.st z
 have x3:=x3;refine oF (S.ld 3 rfl rfl) (ed N (oF x3 (ed xf.len ?_)));by_cases hi:i<fs.length;rotate_left
 ·refine iI ?_;obtain rfl:i=fs.length:=by omega
  rw[Lp]at S
  let⟨I,s5,r5⟩:=S.jZ 0 rfl
  have o1:gv [V.I 1,.I st,.I kL,w,.I steps]=true:=by simp only[eo,r5.one];rfl
  refine ed (I.tK 1 rfl rfl) ?_
  let⟨h6,e6,_,H6,s6⟩:=I.stA 2 (n:=5) rfl rfl rfl o1
  rw[e6,ei];refine ed (H6.tK 2 rfl rfl) ?_;exact H _ h6 w ((s4.trans s5).trans s6) H6.tail.tail.tail.tail (r5.since s6)
 refine gy ?_;have hx:=hO hi;have ah:=OX hi;have A:=AU hi;generalize fs[i]=x at*;have ai:∀v∈x.locals,v<ef.length:=λv hv=>by rw[hl];exact M v (Yk.2 ⟨x,A,Yj _ hv⟩)
 have aj:∀v∈x.stack,v<ef.length:=λv hv=>by rw[hl];exact M v (Yk.2 ⟨x,A,List.mem_append_right _ hv⟩)
 let⟨_,_,hf⟩:=g.st st fs z
 let⟨hl40,hs60,_⟩:=hf x A
 let⟨l2,o2,xa,xb,_,y1,y2,ya,yb⟩:=xf.mN hx
 refine oF (S.ld 3 rfl rfl) (ed N (oF x3 (ed y1 (ed y2 ?_))));refine gW S rfl rfl (by simp only[LL,eo,ya.one,yb.one];rfl) λh5 I s5=>?_;generalize h4.next=lf at*;refine oF (I.ld 0 rfl rfl) (oF (I.ld 0 rfl rfl) ?_);refine ed (rfl) ?_;refine gW I rfl rfl rfl λh6 H6 s6=>?_;generalize h5.next=K at*;have T:=s5.trans s6;have jv:∀{a b c d e f g:Pc},(a::b::c::d::e::f::g::cs)[j+7]? =some (eJ (eI .u64) Dy ef oE):=λ{_ _ _ _ _ _ _}=>by simpa using hj
 have ak:∀{a b c d e f g k:Pc},(a::b::c::d::e::f::g::k::cs)[j+8]? =some (eJ (eI .u64) Dy ef oE):=λ{_ _ _ _ _ _ _ _}=>by simpa using hj
 obtain ⟨J1,B⟩:∃J1,J1=λk l h'=>∃n p,l=[oE,.I st,.ptr lu 0,.ptr lr 0,.ptr lx 0,.I i,.ptr lf 0,.ptr K 0,.I (n:Nat)]/\n+k=x.locals.length/\Sn G h6 G h'/\
   ej G h' (eJ (eI .u64) Dy ((x.locals.take n).map (Hq ef)) p::ey K 117 [.I x.func,.I x.pc,p,.ee]::ey lf 49 (LL x xa xb)::eJ eFw zdZ ((fs.take i).map (Sd ef)) w::ey lx 84 [.I 1,.I st,.I kL,w,.I steps]::ey lr 84 [.I 0,.I 0,.I 0,.ee,.I 0]::ey lu 30 (uC u vv vb vs)::cs):=⟨_,rfl⟩
 refine B4 J1 (λk1 N x2 x5 O P R al am an U W=>?_) (k:=x.locals.length) ?_;rotate_left
 ·rw[B];exact⟨0,.ee,rfl,by omega,Sn.refl _ _,H6.add .nil λ_ h=>h⟩
 rw[B]at W;obtain⟨n,p,⟨⟩,aB,s7,s⟩:=W;have X:=(ya.since T).since s7;unfold tw;refine oF (s.ld 2 rfl rfl) (ed X.len ?_);by_cases hn:n<x.locals.length
 ·refine gy ?_;have hv:=hO hn;have q:=OX hn;have C:=ai _ (AU hn);generalize x.locals[n]=v at*
  let⟨l3,o3,hF3,p1,p2⟩:=X.nat hv .i64
  let⟨l4,o4,q1,Y,q3,q4⟩:=s.Mg (j+7) jv (KN C) .i64
  have Z:ez (.ptr K (0+2)) U=some p:=s.ld 1 rfl rfl;have c2:ez (.ptr lf (0+2)) U=some xa:=s.ld 2 rfl rfl;refine oF Z (oF c2 (ed p1 (ed p2 (ed q1 (ed Y ?_)))));rw[Ba,g0];obtain⟨ao,D,e8,n8,m,s8⟩:=s.wR 0 rfl (kL:=8) ⟨rfl,q3⟩ (by decide) (by decide) (by simp;omega);refine⟨⟨fh _ _,bq⟩,iR Y (fj _ q4),iR p2 (fj _ (s.fl _ hF3)),iR c2 (fj _ (Pc.DN s 2 rfl)),iR Z (fj _ (Pc.DN s 1 rfl)),?_⟩;rw[show eR 60 1 8 p (.slice U.next 0 1) (U.new (.cells 60 1 true false [.int .u64 (Hq ef v)]))=_ from e8,ei]
  let⟨h9,e9,n9,L,s9⟩:=m.st 1 (o:=0+2) rfl (by simp) (m.one 0 rfl)
  refine⟨n8,ed pf ?_⟩;rw[e9,ei];refine⟨n9,fI ⟨k1-1,by omega,?_⟩⟩;rw[B];exact⟨n+1,ao,rfl,by omega,(s7.trans s8).trans s9,by rw[q,PO];exact L⟩
 refine iI ?_;obtain rfl:n=x.locals.length:=by omega
 rw[Lp]at s
 obtain ⟨J2,E⟩:∃J2,J2=λk l h'=>∃n sw,l=[oE,.I st,.ptr lu 0,.ptr lr 0,.ptr lx 0,.I i,.ptr lf 0,.ptr K 0,.I (n:Nat)]/\n+k=x.stack.length/\Sn G U G h'/\
   ej G h' (eJ (eI .u64) Dy ((x.stack.take n).map (Hq ef)) sw::eJ (eI .u64) Dy (x.locals.map (Hq ef)) p::ey K 117 [.I x.func,.I x.pc,p,sw]::ey lf 49 (LL x xa xb)::eJ eFw zdZ ((fs.take i).map (Sd ef)) w::ey lx 84 [.I 1,.I st,.I kL,w,.I steps]::ey lr 84 [.I 0,.I 0,.I 0,.ee,.I 0]::ey lu 30 (uC u vv vb vs)::cs):=⟨_,rfl⟩
 refine Cj J2 (λk2 N x2 x5 O P R al am an D aa=>?_) (k:=x.stack.length) ?_;rotate_left
 ·rw[E];exact⟨0,.ee,rfl,by omega,Sn.refl _ _,s.add .nil λ_ h=>h⟩
 rw[E]at aa;obtain⟨n,sw,⟨⟩,aC,s8,m⟩:=aa;have ab:=(T.trans s7).trans s8;have ac:=yb.since ab;unfold sQ;refine oF (m.ld 3 rfl rfl) (ed ac.len ?_);by_cases hn:n<x.stack.length
 ·refine gy ?_;have hv:=hO hn;have q:=OX hn;have C:=aj _ (AU hn);generalize x.stack[n]=v at*
  let⟨l3,o3,hF3,p1,p2⟩:=ac.nat hv .i64
  let⟨l4,o4,q1,Y,q3,q4⟩:=m.Mg (j+8) ak (KN C) .i64
  have Z:ez (.ptr K (0+3)) D=some sw:=m.ld 2 rfl rfl;have c2:ez (.ptr lf (0+3)) D=some xb:=m.ld 3 rfl rfl;refine oF Z (oF c2 (ed p1 (ed p2 (ed q1 (ed Y ?_)))));rw[Ba,g0];obtain⟨ap,h9,e9,n9,L,s9⟩:=m.wR 0 rfl (kL:=8) ⟨rfl,q3⟩ (by decide) (by decide) (by simp;omega);refine⟨⟨fh _ _,bq⟩,iR Y (fj _ q4),iR p2 (fj _ (m.fl _ hF3)),iR c2 (fj _ (Pc.DN m 3 rfl)),iR Z (fj _ (Pc.DN m 2 rfl)),?_⟩;rw[show eR 60 1 8 sw (.slice D.next 0 1) (D.new (.cells 60 1 true false [.int .u64 (Hq ef v)]))=_ from e9,ei]
  let⟨aD,Nj,aq,r,t⟩:=L.st 2 (o:=0+3) rfl (by simp) (L.one 0 rfl)
  refine⟨n9,ed pf ?_⟩;rw[Nj,ei];refine⟨aq,fI ⟨k2-1,by omega,?_⟩⟩;rw[E];exact⟨n+1,ap,rfl,by omega,(s8.trans s9).trans t,by rw[q,PO];exact r⟩
 refine iI ?_;obtain rfl:n=x.stack.length:=by omega
 rw[Lp]at m
 let⟨L,s9,r9⟩:=m.jZ 0 rfl
 let⟨r,t,r10⟩:=L.jZ 1 rfl
 have r9:=r9.since t;have o4:gv [V.I x.func,.I x.pc,p,sw]=true:=by simp only[eo,r9.one,r10.one];rfl
 refine oF (r.ld 5 rfl rfl) (ed (r.tK 2 rfl rfl) ?_);rw[show jK 117 4 1 (.agg [.I 0,.I 0,.ee,.ee]) [(0,.agg [.I x.func,.I x.pc,p,sw])]=_ from rW rfl rfl o4,fE];obtain⟨ar,aE,au,_,ae,aw⟩:=r.wR 4 rfl (kL:=64) (y:=Sd ef x) ⟨p,sw,rfl,r10,r9⟩ (by decide) (by decide) (by simp;omega);rw[show eR 117 4 64 w (.slice D.next 0 1) (D.new (.cells 117 4 true false [.I x.func,.I x.pc,p,sw]))=_ from au,ei]
 let⟨aF,ax,_,ay,aA⟩:=ae.st 5 (o:=0+3) rfl (by simp) (ae.one 4 rfl)
 refine ed pf ?_;rw[ax,ei];refine fI ⟨k-1,by omega,?_⟩;rw[hJ];exact⟨_,i+1,ar,rfl,by omega,((((s4.trans ab).trans s9).trans t).trans aw).trans aA,by rw[ah,PO];exact ay.tail.tail.tail.tail⟩
end
