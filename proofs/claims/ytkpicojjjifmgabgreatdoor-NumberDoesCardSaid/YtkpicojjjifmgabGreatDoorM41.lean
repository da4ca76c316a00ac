/- Parts. -/
import Derived.Test.YtkpicojjjifmgabGreatDoorM37
import Derived.Test.YtkpicojjjifmgabGreatDoorM46
set_option maxHeartbeats 4000000
namespace Go.Proofs.YtkpicojjjifmgabGreatDoor.Hx
open Un Dm
theorem lB(n:Int):mI .u64 n=Dl n:=by
 rw[uh];simp only[IntKind.wrap,IntKind.signed,IntKind.bits,Bool.false_and,Rq,if_false,Dl];rfl
theorem G3(n:Int):uO .u64 (Dl n):=by simp only[uO,Dl];omega
theorem LK{n:Int}(h:uO .u64 n):Dl n=n:=by simp only[uO]at h;unfold Dl;omega
theorem Zm{n:Int}(h:uO .u64 n):mI .i64 n=Gi n:=by
 rw[uh];simp only[uO]at h;have e:n % 18446744073709551616=n:=by omega
 simp only[IntKind.wrap,IntKind.signed,IntKind.bits,wBr,CU,Nat.reduceSub,Int.reducePow,ge_iff_le,e,Gi];by_cases c:n<9223372036854775808
 ·rw[if_neg (by omega),if_pos c]
 ·rw[if_pos (by omega),if_neg c]
theorem za1{c:Prop} [Decidable c] {x y:Int}(hx:uO .u64 x)(a:uO .u64 y):uO .u64 (if c then x else y):=by
 by_cases h:c
 ·rw[if_pos h];exact hx
 ·rw[if_neg h];exact a
theorem AA:uO .u64 0:=⟨Int.le_refl _,by decide⟩
theorem YL(b:Bool):uO .u64 (JW b):=by cases b <;> simp[uO,JW]
theorem Yr(op:Nat)(a b:Int):uO .u64 (M1 op a b):=by
 unfold M1
 repeat' first|exact G3 _|exact YL _|exact AA|refine za1 ?_ ?_
section
variable{F F':Nat->Prop}{h h':Hp}{cs ds:List Pc}{Q:fD}
theorem HL{b:Bool}(H:Q (.int .u64 (JW b)) h):cP CS iG [.bool b] h Q:=by
 refine F0 rfl rfl ?_;unfold yA;cases b
 ·exact jj (gh (by simp) H)
 ·exact jj (gz rfl H)
theorem Zd{t:Nat}{k:IntKind}{a b:Int}{K:V->Prop}(H:K (.bool (decide (a=b)))):oP (ez .eql t (.int k a) (.int k b)) K:=ir H
theorem SV{op:Nat}{a b:Int}(f:uO .u64 a)(hb:uO .u64 b)(g:3<=op/\op<=14)(H:Q (.tuple [.int .u64 (M1 op a b),.bool true]) h):cP CS kV [.I op,.int .u64 a,.int .u64 b] h Q:=by
 refine Fp rfl rfl ?_;unfold xu;refine eh (by rw[jC,Zm f]) (eh (by rw[jC,Zm hb]) ?_);have e0:∀n:Nat,op=n->M1 op a b=M1 n a b:=λn h=>by rw[h]
 refine gy ?_;by_cases c:op=3
 ·rw[e0 _ c]at H;exact gz (by omega) (eh (by rw[nJ,lB];rfl) H)
 refine gh (by omega) (gy ?_);by_cases c:op=4
 ·rw[e0 _ c]at H;exact gz (by omega) (eh (by rw[qh,lB];rfl) H)
 refine gh (by omega) (gy ?_);by_cases c:op=5
 ·rw[e0 _ c]at H;exact gz (by omega) (eh (by rw[St,lB];rfl) H)
 refine gh (by omega) (gy ?_);by_cases c:op=6
 ·rw [e0 _ c]at H;refine gz (by omega) (gy ?_);by_cases z:Gi b=0
  ·refine gz z ?_;rw[show M1 6 a b=0 by simp[M1,z]]at H;exact H
  refine gh z (gy ?_);by_cases z1:Gi b = -1
  ·refine gz z1 (eh (by rw[Vs,lB]) ?_);rw[show M1 6 a b=Dl (0-a) by simp[M1,z1]]at H;exact H
  ·refine gh z1 (eh (a:= .I (mI .i64 ((Gi a).tdiv (Gi b)))) ?_ (eh (by rw[jC]) ?_))
   ·have:∀y:Int,y≠0->ez .quo 2 (.I (Gi a)) (.I y)=some (.I (mI .i64 ((Gi a).tdiv y))):=λy d=>by
     cases y with
     | ofNat n=>cases n with
       |zero=>exact absurd rfl d
       |succ n=>rfl
     |negSucc n=>rfl
    exact this _ z
   ·rw [show M1 6 a b=Dl ((Gi a).tdiv (Gi b)) by simp[M1,z,z1]]at H;rw[lB,uh];have:Dl (IntKind.i64.wrap ((Gi a).tdiv (Gi b)))=Dl ((Gi a).tdiv (Gi b)):=by
     simp only[IntKind.wrap,IntKind.signed,IntKind.bits,wBr,CU,Nat.reduceSub,Int.reducePow,Dl];split <;> omega
    rw[this];exact H
 refine gh (by omega) (gy ?_);by_cases c:op=7
 ·rw [e0 _ c]at H;refine gz (by omega) (eh (g0 ..) (eh (a:= .bool (decide (Gi b=0\/Gi b = -1))) ?_ (jj ?_)))
  ·simp only[fo,g0,pS];congr 2;rw[Xz,KO,Cw,Cw,CU]
  by_cases z:Gi b=0\/Gi b = -1
  ·refine gz (JM z) ?_;rw[show M1 7 a b=0 by simp[M1,z]]at H;exact H
  ·refine gh (by rw[CU];exact z) (eh (a:= .I ((Gi a).tmod (Gi b))) ?_ (eh (by rw[jC,lB]) ?_))
   ·have:∀y:Int,y≠0->ez .rem 2 (.I (Gi a)) (.I y)=some (.I ((Gi a).tmod y)):=λy d=>by
     cases y with
     | ofNat n=>cases n with
       |zero=>exact absurd rfl d
       |succ n=>rfl
     |negSucc n=>rfl
    exact this _ λh=>z (.inl h)
   ·rw[show M1 7 a b=Dl ((Gi a).tmod (Gi b)) by simp[M1,z]]at H;exact H
 refine gh (by omega) (gy ?_);by_cases c:op=8
 ·rw[e0 _ c]at H;refine gz (by omega) (eh (by rw[Vs,lB]) ?_);rw[show M1 8 a b=Dl (0-a) by simp[M1]]at H;exact H
 refine gh (by omega) (gy ?_);by_cases c:op=9
 ·rw[e0 _ c]at H;exact gz (by omega) (Zd (HL H))
 refine gh (by omega) (gy ?_);by_cases c:op=10
 ·rw[e0 _ c]at H;exact gz (by omega) (Zd (HL H))
 refine gh (by omega) (gy ?_);by_cases c:op=11
 ·rw[e0 _ c]at H;refine gz (by omega) (eh (rN ..) ?_);rw[show(a != b)=decide (a≠b) by by_cases e:a=b <;> simp[e]];exact HL H
 refine gh (by omega) (gy ?_);by_cases c:op=12
 ·rw[e0 _ c]at H;exact gz (by omega) (eh (kX ..) (HL H))
 refine gh (by omega) (gy ?_);by_cases c:op=13
 ·rw[e0 _ c]at H;exact gz (by omega) (eh (Kc ..) (HL H))
 refine gh (by omega) (gy ?_);obtain rfl:op=14:=by omega
 exact gz rfl (eh (kX ..) (HL H))
end
open Un Dm
abbrev AI:Nat:=89
section
variable{F F':Nat->Prop}{h h':Hp}{cs ds:List Pc}{Q:fD}{i j lh Th:Nat}{rm hv:V}{hp:List Int}
theorem eo.L5{ty:Nat}{xs:List Int}{v:V}(H:eo F h cs)(i:Nat)(hi:cs[i]? =some (fg (eI .u64) ty xs v)){k:Nat}{x:Int}(hx:xs[k]? =some x)(kd:IntKind):∃l o,gB 1 v (.int kd (k:Nat))=some (.ptr l o)/\fe (.ptr l o) h=some (.int .u64 x)/\uO .u64 x/\l<h.next:=by
 obtain⟨a,rfl⟩:=ki.1 hx;obtain⟨l,o,u,b,c,d⟩:=H.U8 i hi a kd rfl;obtain⟨e,f⟩:=d;cases e;exact⟨l,o,b,c,f,H.zev i hi a b⟩
theorem im.word{xs:List Int}{v:V}(a:im (eI .u64) F h xs v){i:Nat}{x:Int}(hx:xs[i]? =some x)(kd:IntKind):∃l o,F l/\gB 1 v (.int kd (i:Nat))=some (.ptr l o)/\fe (.ptr l o) h=some (.int .u64 x)/\uO .u64 x:=by
 obtain⟨hi,rfl⟩:=ki.1 hx;obtain⟨l,o,w,b,c,d,e,f⟩:=a.U8 hi kd rfl;cases e;exact⟨l,o,b,c,d,f⟩
theorem YI{a:Int}(h:hp.length<=a.toNat):uA hp a=0:=by
 unfold uA;rw[Je,OE h];rfl
theorem XE{a:Int}{x:Int}(h:hp[a.toNat]? =some x):uA hp a=x:=by
 unfold uA;rw[Je,h];rfl
theorem MF(d:eo F h cs)(hi:cs[i]? =some (eQ lh Th [rm,hv]))(f:cs[j]? =some (fg (eI .u64) AI hp hv))(q:hp.length<1000000000){a:Int}(g:uO .u64 a)(H:uO .u64 (uA hp a)->Q (.int .u64 (uA hp a)) h) :
  cP CS iP [.ptr lh 0,.int .u64 a] h Q:=by
 refine By rfl rfl ?_;unfold te;have e0:fe (.ptr lh (0+1)) h=some hv:=d.ld i hi rfl;have e:uO .u64 ((hp.length:Nat):Int):=by simp only[uO];omega
 have b:=g;simp only[uO]at b;refine oN e0 (eh (d.len j f) (eh (by rw[jC,lB,LK e]) (Pe ?_)));by_cases c:((hp.length:Nat):Int)<=a
 ·refine gz c ?_;rw[YI (by omega)]at H;exact H AA
 ·refine gh c (oN e0 ?_);obtain⟨k,rfl⟩:=wBG b.1;have hx:=iy (l:=hp) (i:=k) (by omega);obtain⟨l,o,m,n,p,_⟩:=d.L5 j f hx .u64;rw[XE (a:=(k:Int)) (x:=hp[k]) hx]at H;exact eh m (eh n (H p))
theorem zaG(b:eo F h cs)(hi:cs[i]? =some (eQ lh Th [rm,hv]))(c:cs[j]? =some (fg (eI .u64) AI hp hv))(d:hp.length<1000000000){a:Int}(f:uO .u64 a)(H:uO .u64 (uA hp a / 4294967296)->Q (.I (uA hp a / 4294967296)) h) :
  cP CS lH [.ptr lh 0,.int .u64 a] h Q:=by
 refine Bw rfl rfl ?_;unfold tq;refine MF b hi c d f λg=>?_;generalize uA hp a=w at*;simp only[uO]at g;have e:w.fdiv 4294967296=w / 4294967296:=Int.fdiv_eq_ediv_of_nonneg _ (by decide);refine eh (show ez .shr 89 (.int .u64 w) (.int .u64 32)=some (.int .u64 (w.fdiv 4294967296)) from rfl) ?_;rw[e];refine eh (by rw[jC,qj (by simp only[uO];omega)]) (H ?_);simp only[uO];omega
theorem Y7(c:eo F h cs)(hi:cs[i]? =some (eQ lh Th [rm,hv]))(d:cs[j]? =some (fg (eI .u64) AI hp hv))(f:hp.length<1000000000){a:Int}(g:uO .u64 a)(H:uO .u64 (uA hp a % 4294967296)->Q (.I (uA hp a % 4294967296)) h) :
  cP CS j9 [.ptr lh 0,.int .u64 a] h Q:=by
 refine CO rfl rfl ?_;unfold uT;refine MF c hi d f g λb=>?_;generalize uA hp a=w at*;simp only[uO]at b;have e:w.tmod 4294967296=w % 4294967296:=Int.tmod_eq_emod_of_nonneg b.1;refine eh (show ez .rem 89 (.int .u64 w) (.int .u64 4294967296)=some (.int .u64 (w.tmod 4294967296)) from rfl) ?_;rw[e];refine eh (by rw[jC,qj (by simp only[uO];omega)]) (H ?_);simp only[uO];omega
theorem Ue(d:eo F h cs)(hi:cs[i]? =some (eQ lh Th [rm,hv]))(f:cs[j]? =some (fg (eI .u64) AI hp hv))(v:hp.length<1000000000){a x:Int}(n:uO .u64 a)(hx:uO .u64 x)(H:∀h' r,Sn F h F h'->eo F h' (cs.set j (fg (eI .u64) AI (Ox hp a x) hv))->Q (.bool r) h') :
  cP CS js [.ptr lh 0,.int .u64 a,.int .u64 x] h Q:=by
 refine C8 rfl rfl ?_;unfold uP;have e0:fe (.ptr lh (0+1)) h=some hv:=d.ld i hi rfl;have g:uO .u64 ((hp.length:Nat):Int):=by simp only[uO];omega
 have b:=n;simp only[uO]at b;have same:cs.set j (fg (eI .u64) AI hp hv)=cs:=by
  obtain⟨w,m⟩:=ki.1 f;rw[<-m,List.set_getElem_self]
 refine eh (g0 ..) (eh (a:= .bool (decide (a=0\/((hp.length:Nat):Int)<=a))) ?_ (jj ?_))
 ·simp only[fo,fZ,fM,e0,d.len j f,jC,lB,LK g,pP,pS];congr 2;rw[Xz,KO,Cw,CU,CU]
 by_cases c:a=0\/((hp.length:Nat):Int)<=a
 ·refine gz (JM c) (H h false (Sn.refl _ _) ?_);have:Ox hp a x=hp:=by
   unfold Ox;by_cases z:a=0
   ·rw[if_pos z]
   ·rw[if_neg z,List.set_eq_of_length_le (by omega)]
  rw[this,same];exact d
 ·refine gh (by rw[CU];exact c) (oN e0 ?_);obtain⟨k,rfl⟩:=wBG b.1;obtain⟨l,o,m,p,q,_,s,t⟩:=d.Kh j f (k:=k) (y:=x) (u:= .int .u64 x) (by omega) rfl rfl ⟨rfl,hx⟩;refine eh (show gB 1 hv (.int .u64 (k:Nat))=_ from p) ?_;rw[q,en];refine H m true t ?_;have:Ox hp (k:Int) x=hp.set k x:=by
   unfold Ox;rw[if_neg (λe=>c (.inl e))];rfl
  rw[this];exact s
theorem M4{hp:List Int}{a x:Int}:(Ox hp a x).length=hp.length:=by
 unfold Ox;split
 ·rfl
 ·rw[TH]
end
open Un Dm
abbrev zau:Nat:=122
def eFw:qp Fw where
 sz:=4
 rel F h x cs:=∃a b,cs=[.I x.func,.I x.pc,a,b]/\im (eI .u64) F h x.locals a/\im (eI .u64) F h x.stack b
 len:=λ⟨_,_,h,_⟩=>by subst h;rfl
 one:=λ⟨_,_,h,c,d⟩=>by subst h;simp only[eJ,c.one,d.one];rfl
 fj:=λe ⟨a,b,h,c,d⟩=>⟨a,b,h,c.fj e,d.fj e⟩
 mono:=λhb ⟨a,b,h,c,d⟩=>⟨a,b,h,c.mono hb,d.mono hb⟩
def Ec(ej:List Int)(v:Nat):Int:=ej.getD v 0
def Ry(ej:List Int)(f:Fm):Fw:=⟨f.func,f.pc,f.locals.map (Ec ej),f.stack.map (Ec ej)⟩
theorem Kv{ej:List Int}{v:Nat}(h:v<ej.length):ej[v]? =some (Ec ej v):=by
 unfold Ec;rw[Je,iy h];rfl
theorem Bp(w:Int):jz 89 1 1 (.int .u64 0) [(0,.int .u64 w)]=some (.cells 89 1 true false [.int .u64 w],λl=> .slice l 0 1):=rfl
section
variable{F F':Nat->Prop}{h h':Hp}{cs ds:List Pc}{Q:fD}{u:U}{vv vb vs oQ:V}{ej:List Int}{j:Nat}
theorem Pc.DQ(H:eo F h cs)(i:Nat){l ty:Nat}{ws:List V}(hi:cs[i]? =some (eQ l ty ws)):l<h.next:=(H.ok i _ hi).2.1
theorem SR(g:Good u)(H0:eo F h cs)(hu:wW F h u vv vb vs)(hj:cs[j]? =some (fg (eI .u64) AI ej oQ))(hl:ej.length=u.ej.length){st:Nat}{fs:List Fm}(z:u.ev[st]? =some fs){jP steps:Int}
  (H:∀F' h' w,Sn F h F' h'->eo F' h' cs->im eFw F' h' (fs.map (Ry ej)) w->Q (.agg [.I 1,.I st,.I jP,w,.I steps]) h') :
  cP CS jm [.agg (uC u vv vb vs),oQ,.I st,.I jP,.I steps] h Q:=by
 refine Fb rfl rfl ?_;unfold xZ;refine jH H0 hu.one λh1 H1 s1=>xz H1 λh2 H2 s2=>?_;generalize h.next=lu at*;generalize h1.next=lr at*;refine eh (show _=some (.agg [.I 1,.I st,.I jP,.ei,.I steps]) from rfl) ?_;refine gZ H2 rfl rfl rfl λh3 H3 s3=>?_;generalize h2.next=lx at*;have al:=(s1.trans s2).trans s3;have aE:=EN g st fs z;have U:∀v∈ik fs,v<u.ej.length:=O5 g z
 obtain ⟨J,hJ⟩:∃J:Nat->LP,J=λk l h'=>∃(F':Nat->Prop) (i:Nat) (w:V),l=[oQ,.I st,.ptr lu 0,.ptr lr 0,.ptr lx 0,.I i]/\i+k=fs.length/\Sn F h F' h'/\
   eo F' h' (fg eFw zau ((fs.take i).map (Ry ej)) w::eQ lx 82 [.I 1,.I st,.I jP,w,.I steps]::eQ lr 82 [.I 0,.I 0,.I 0,.ei,.I 0]::eQ lu 30 (uC u vv vb vs)::cs):=⟨_,rfl⟩
 refine BD J (λk W x2 x5 X Y Z h4 hi=>?_) (k:=fs.length) ?_;rotate_left
 ·rw[hJ];exact⟨F,0,.ei,rfl,by omega,al,H3.add (p:=fg eFw zau [] .ei) .nil λ_ h=>h⟩
 rw[hJ]at hi;obtain⟨O,i,w,⟨⟩,hk,s4,P⟩:=hi;clear H3 H2 H1;unfold sZ;have u4:=hu.since s4;obtain⟨l1,o1,f,aF,W,_,x3,xf⟩:=u4.st z;have x3:fe (.ptr l1 (o1+0)) h4=some f:=x3;refine oF (P.ld 3 rfl rfl) (eh W (oF x3 (eh xf.len ?_)));by_cases hi:i<fs.length;rotate_left
 ·refine iQ ?_;obtain rfl:i=fs.length:=by omega
  rw[Ki]at P;obtain⟨C,s5,r5⟩:=P.kL 0 rfl;simp only[ji]at C;have o1:gw [V.I 1,.I st,.I jP,w,.I steps]=true:=by simp only[eJ,r5.one];rfl
  refine eh (C.pC 1 rfl rfl) ?_;obtain⟨h6,e6,_,R,s6⟩:=C.U1 2 (n:=5) (ws:=[.I 1,.I st,.I jP,w,.I steps]) rfl rfl rfl o1;rw[e6,en];simp only[ji,lO]at R;refine eh (R.pC 2 rfl rfl) ?_;exact H _ h6 w ((s4.trans s5).trans s6) R.tail.tail.tail.tail (r5.since s6)
 refine gK ?_;have hx:=iy hi;have am:=MU hi;have D:=AY hi;generalize fs[i]=x at*;have an:∀v∈x.locals,v<ej.length:=λv hv=>by rw[hl];exact U v (Xr.2 ⟨x,D,SN _ hv⟩)
 have ao:∀v∈x.stack,v<ej.length:=λv hv=>by rw[hl];exact U v (Xr.2 ⟨x,D,wBR _ hv⟩)
 obtain⟨_,_,hf⟩:=g.st st fs z;obtain⟨aC,aD,_⟩:=hf x D;obtain⟨l2,o2,xa,xb,_,y1,y2,ya,yb⟩:=xf.pG hx;refine oF (P.ld 3 rfl rfl) (eh W (oF x3 (eh y1 (eh y2 ?_))));refine gZ P rfl rfl (by simp only[Ll,eJ,ya.one,yb.one];rfl) λh5 C s5=>?_;generalize h4.next=S at*;refine oF (C.ld 0 rfl rfl) (oF (C.ld 0 rfl rfl) ?_);refine eh (show _=some (.agg [.I x.func,.I x.pc,.ei,.ei]) from rfl) ?_;refine gZ C rfl rfl rfl λh6 R s6=>?_;generalize h5.next=T at*;have aa:=s5.trans s6;have jv:∀{a b c d e f g:Pc},(a::b::c::d::e::f::g::cs)[j+7]? =some (fg (eI .u64) AI ej oQ):=λ{_ _ _ _ _ _ _}=>by simpa using hj
 have ap:∀{a b c d e f g k:Pc},(a::b::c::d::e::f::g::k::cs)[j+8]? =some (fg (eI .u64) AI ej oQ):=λ{_ _ _ _ _ _ _ _}=>by simpa using hj
 obtain ⟨J1,E⟩:∃J1:Nat->LP,J1=λk l h'=>∃(n:Nat) (r:V),l=[oQ,.I st,.ptr lu 0,.ptr lr 0,.ptr lx 0,.I i,.ptr S 0,.ptr T 0,.I n]/\n+k=x.locals.length/\Sn O h6 O h'/\
   eo O h' (fg (eI .u64) AI ((x.locals.take n).map (Ec ej)) r::eQ T 122 [.I x.func,.I x.pc,r,.ei]::eQ S 49 (Ll x xa xb)::fg eFw zau ((fs.take i).map (Ry ej)) w::eQ lx 82 [.I 1,.I st,.I jP,w,.I steps]::eQ lr 82 [.I 0,.I 0,.I 0,.ei,.I 0]::eQ lu 30 (uC u vv vb vs)::cs):=⟨_,rfl⟩
 refine BT J1 (λk1 W x2 x5 X Y Z aq ar au h7 ab=>?_) (k:=x.locals.length) ?_;rotate_left
 ·rw[E];exact⟨0,.ei,rfl,by omega,Sn.refl _ _,R.add (p:=fg (eI .u64) AI [] .ei) .nil λ_ h=>h⟩
 clear R C P;rw[E]at ab;obtain⟨n,r,⟨⟩,aG,s7,s⟩:=ab;have G:=(ya.since aa).since s7;unfold sX;refine oF (s.ld 2 rfl rfl) (eh G.len ?_);by_cases hn:n<x.locals.length
 ·refine gK ?_;have hv:=iy hn;have t:=MU hn;have I:=an _ (AY hn);generalize x.locals[n]=v at*;obtain⟨l3,o3,K,p1,p2⟩:=G.nat hv .i64;obtain⟨l4,o4,q1,q2,q3,q4⟩:=s.L5 (j+7) jv (Kv I) .i64;have c1:fe (.ptr T (0+2)) h7=some r:=s.ld 1 rfl rfl;have c2:fe (.ptr S (0+2)) h7=some xa:=s.ld 2 rfl rfl;refine oF c1 (oF c2 (eh p1 (eh p2 (eh q1 (eh q2 ?_)))));rw[Bp,hX];obtain⟨ac,L,e8,n8,q,s8⟩:=s.rU 0 rfl (jP:=8) (zL:=89) (y:=Ec ej v) (w:=[.int .u64 (Ec ej v)]) (ro:=false) ⟨rfl,q3⟩ (by decide) (by decide) (by simp;omega);refine⟨⟨fq _ _,bq⟩,iA q2 (fk _ q4),iA p2 (fk _ (s.fl _ K)),iA c2 (fk _ (Pc.DQ s 2 rfl)),iA c1 (fk _ (Pc.DQ s 1 rfl)),?_⟩;rw[show fh 89 1 8 r (.slice h7.next 0 1) (h7.new (.cells 89 1 true false [.int .u64 (Ec ej v)]))=_ from e8,en];simp only[ji]at q;obtain⟨h9,e9,n9,A,s9⟩:=q.st 1 (o:=0+2) (u:=ac) rfl (by simp) (q.one 0 rfl);refine⟨n8,eh pf ?_⟩;rw[e9,en];simp only[ji,lO]at A;refine⟨n9,fL ⟨k1-1,by omega,?_⟩⟩;rw[E];exact⟨n+1,ac,rfl,by omega,(s7.trans s8).trans s9,by rw[t,Lj];exact A⟩
 refine iQ ?_;obtain rfl:n=x.locals.length:=by omega
 rw[Ki]at s;clear G
 obtain ⟨J2,M⟩:∃J2:Nat->LP,J2=λk l h'=>∃(n:Nat) (sw:V),l=[oQ,.I st,.ptr lu 0,.ptr lr 0,.ptr lx 0,.I i,.ptr S 0,.ptr T 0,.I n]/\n+k=x.stack.length/\Sn O h7 O h'/\
   eo O h' (fg (eI .u64) AI ((x.stack.take n).map (Ec ej)) sw::fg (eI .u64) AI (x.locals.map (Ec ej)) r::eQ T 122 [.I x.func,.I x.pc,r,sw]::eQ S 49 (Ll x xa xb)::fg eFw zau ((fs.take i).map (Ry ej)) w::eQ lx 82 [.I 1,.I st,.I jP,w,.I steps]::eQ lr 82 [.I 0,.I 0,.I 0,.ei,.I 0]::eQ lu 30 (uC u vv vb vs)::cs):=⟨_,rfl⟩
 refine BQ J2 (λk2 W x2 x5 X Y Z aq ar au L ae=>?_) (k:=x.stack.length) ?_;rotate_left
 ·rw[M];exact⟨0,.ei,rfl,by omega,Sn.refl _ _,s.add (p:=fg (eI .u64) AI [] .ei) .nil λ_ h=>h⟩
 clear s;rw[M]at ae;obtain⟨n,sw,⟨⟩,aH,s8,q⟩:=ae;have ag:=(aa.trans s7).trans s8;have ah:=yb.since ag;unfold tv;refine oF (q.ld 3 rfl rfl) (eh ah.len ?_);by_cases hn:n<x.stack.length
 ·refine gK ?_;have hv:=iy hn;have t:=MU hn;have I:=ao _ (AY hn);generalize x.stack[n]=v at*;obtain⟨l3,o3,K,p1,p2⟩:=ah.nat hv .i64;obtain⟨l4,o4,q1,q2,q3,q4⟩:=q.L5 (j+8) ap (Kv I) .i64;have c1:fe (.ptr T (0+3)) L=some sw:=q.ld 2 rfl rfl;have c2:fe (.ptr S (0+3)) L=some xb:=q.ld 3 rfl rfl;refine oF c1 (oF c2 (eh p1 (eh p2 (eh q1 (eh q2 ?_)))));rw[Bp,hX];obtain⟨ai,h9,e9,n9,A,s9⟩:=q.rU 0 rfl (jP:=8) (zL:=89) (y:=Ec ej v) (w:=[.int .u64 (Ec ej v)]) (ro:=false) ⟨rfl,q3⟩ (by decide) (by decide) (by simp;omega);refine⟨⟨fq _ _,bq⟩,iA q2 (fk _ q4),iA p2 (fk _ (q.fl _ K)),iA c2 (fk _ (Pc.DQ q 3 rfl)),iA c1 (fk _ (Pc.DQ q 2 rfl)),?_⟩;rw[show fh 89 1 8 sw (.slice L.next 0 1) (L.new (.cells 89 1 true false [.int .u64 (Ec ej v)]))=_ from e9,en];simp only[ji]at A;obtain⟨aI,aw,ax,m,B⟩:=A.st 2 (o:=0+3) (u:=ai) rfl (by simp) (A.one 0 rfl);refine⟨n9,eh pf ?_⟩;rw[aw,en];simp only[ji,lO]at m;refine⟨ax,fL ⟨k2-1,by omega,?_⟩⟩;rw[M];exact⟨n+1,ai,rfl,by omega,(s8.trans s9).trans B,by rw[t,Lj];exact m⟩
 refine iQ ?_;obtain rfl:n=x.stack.length:=by omega
 rw[Ki]at q;obtain⟨A,s9,r9⟩:=q.kL 0 rfl;simp only[ji]at A;obtain⟨m,B,Zx⟩:=A.kL 1 rfl;simp only[ji,lO]at m;have r9:=r9.since B;have o4:gw [V.I x.func,.I x.pc,r,sw]=true:=by simp only[eJ,r9.one,Zx.one];rfl
 refine oF (m.ld 5 rfl rfl) (eh (m.pC 2 rfl rfl) ?_);rw[show jz 122 4 1 (.agg [.I 0,.I 0,.ei,.ei]) [(0,.agg [.I x.func,.I x.pc,r,sw])]=_ from nW rfl rfl o4,fE];obtain⟨aj,aJ,Wh,_,N,ay⟩:=m.rU 4 rfl (jP:=64) (zL:=122) (y:=Ry ej x) (w:=[.I x.func,.I x.pc,r,sw]) (ro:=false) ⟨r,sw,rfl,Zx,r9⟩ (by decide) (by decide) (by simp;omega);rw[show fh 122 4 64 w (.slice L.next 0 1) (L.new (.cells 122 4 true false [.I x.func,.I x.pc,r,sw]))=_ from Wh,en];simp only[ji,lO]at N;obtain⟨aK,aA,_,ak,aB⟩:=N.st 5 (o:=0+3) (u:=aj) rfl (by simp) (N.one 4 rfl);refine eh pf ?_;rw[aA,en];simp only[ji,lO]at ak;refine fL ⟨k-1,by omega,?_⟩;rw[hJ];exact⟨_,i+1,aj,rfl,by omega,((((s4.trans ag).trans s9).trans B).trans ay).trans aB,by rw[am,Lj];exact ak.tail.tail.tail.tail⟩
end
