/- Parts. -/
import Derived.Test.YtkpicojjjifmgaaGreatDoorM37
import Derived.Test.YtkpicojjjifmgaaGreatDoorM35
namespace Go.Proofs.YtkpicojjjifmgaaGreatDoor.Hx
open Un Dm
theorem kU(n:Int):mb .u64 n=Cc n:=by
 rw[uf];simp only[IntKind.wrap,IntKind.signed,IntKind.bits,Bool.false_and,PT,if_false,Cc];rfl
theorem E4(n:Int):tI .u64 (Cc n):=by simp only[tI,Cc];omega
theorem Ko{n:Int}(h:tI .u64 n):Cc n=n:=by simp only[tI]at h;unfold Cc;omega
theorem Wk{n:Int}(h:tI .u64 n):mb .i64 n=EM n:=by
 rw[uf];simp only[tI]at h;have e:n % 18446744073709551616=n:=by omega
 simp only[IntKind.wrap,IntKind.signed,IntKind.bits,wB7,BP,Nat.reduceSub,Int.reducePow,ge_iff_le,e,EM];by_cases c:n<9223372036854775808
 ·rw[if_neg (by omega),if_pos c]
 ·rw[if_pos (by omega),if_neg c]
theorem Z5{c:Prop} [Decidable c] {x y:Int}(a:tI .u64 x)(b:tI .u64 y):tI .u64 (if c then x else y):=by
 by_cases h:c
 ·rw[if_pos h];exact a
 ·rw[if_neg h];exact b
theorem zJ:tI .u64 0:=⟨Int.le_refl _,by decide⟩
theorem WO(b:Bool):tI .u64 (JB b):=by cases b <;> simp[tI,JB]
theorem X2(op:Nat)(a b:Int):tI .u64 (MH op a b):=by
 unfold MH
 repeat' first|exact E4 _|exact WO _|exact zJ|refine Z5 ?_ ?_
section
variable{F F':Nat->Prop}{h h':Hp}{cs ds:List Pc}{Q:fy}
theorem Gk{b:Bool}(H:Q (.int .u64 (JB b)) h):cP CS iD [.bool b] h Q:=by
 refine EH rfl rfl ?_;unfold xD;cases b
 ·exact jd (gg (by simp) H)
 ·exact jd (gv rfl H)
theorem Xw{t:Nat}{k:IntKind}{a b:Int}{K:V->Prop}(H:K (.bool (decide (a=b)))):oP (ev .eql t (.int k a) (.int k b)) K:=il H
theorem RK{op:Nat}{a b:Int}(f:tI .u64 a)(g:tI .u64 b)(i:3<=op/\op<=14)(H:Q (.tuple [.int .u64 (MH op a b),.bool true]) h):cP CS kK [.I op,.int .u64 a,.int .u64 b] h Q:=by
 refine Dr rfl rfl ?_;unfold wX;refine ee (by rw[jz,Wk f]) (ee (by rw[jz,Wk g]) ?_);have e0:∀n:Nat,op=n->MH op a b=MH n a b:=λn h=>by rw[h]
 refine gi ?_;by_cases c:op=3
 ·rw[e0 _ c]at H;exact gv (by omega) (ee (by rw[mZ,kU];rfl) H)
 refine gg (by omega) (gi ?_);by_cases c:op=4
 ·rw[e0 _ c]at H;exact gv (by omega) (ee (by rw[pS,kU];rfl) H)
 refine gg (by omega) (gi ?_);by_cases c:op=5
 ·rw[e0 _ c]at H;exact gv (by omega) (ee (by rw[Rt,kU];rfl) H)
 refine gg (by omega) (gi ?_);by_cases c:op=6
 ·rw [e0 _ c]at H;refine gv (by omega) (gi ?_);by_cases z:EM b=0
  ·refine gv z ?_;rw[show MH 6 a b=0 by simp[MH,z]]at H;exact H
  refine gg z (gi ?_);by_cases z1:EM b = -1
  ·refine gv z1 (ee (by rw[Uf,kU]) ?_);rw[show MH 6 a b=Cc (0-a) by simp[MH,z1]]at H;exact H
  ·refine gg z1 (ee (a:= .I (mb .i64 ((EM a).tdiv (EM b)))) ?_ (ee (by rw[jz]) ?_))
   ·have:∀y:Int,y≠0->ev .quo 2 (.I (EM a)) (.I y)=some (.I (mb .i64 ((EM a).tdiv y))):=λy d=>by
     cases y with
     | ofNat n=>cases n with
       |zero=>exact absurd rfl d
       |succ n=>rfl
     |negSucc n=>rfl
    exact this _ z
   ·rw [show MH 6 a b=Cc ((EM a).tdiv (EM b)) by simp[MH,z,z1]]at H;rw[kU,uf];have:Cc (IntKind.i64.wrap ((EM a).tdiv (EM b)))=Cc ((EM a).tdiv (EM b)):=by
     simp only[IntKind.wrap,IntKind.signed,IntKind.bits,wB7,BP,Nat.reduceSub,Int.reducePow,Cc];split <;> omega
    rw[this];exact H
 refine gg (by omega) (gi ?_);by_cases c:op=7
 ·rw [e0 _ c]at H;refine gv (by omega) (ee (gI ..) (ee (a:= .bool (decide (EM b=0\/EM b = -1))) ?_ (jd ?_)))
  ·simp only[fi,gI,qK];congr 2;rw[V4,Nc,C9,C9,BP]
  by_cases z:EM b=0\/EM b = -1
  ·refine gv (Ke z) ?_;rw[show MH 7 a b=0 by simp[MH,z]]at H;exact H
  ·refine gg (by rw[BP];exact z) (ee (a:= .I ((EM a).tmod (EM b))) ?_ (ee (by rw[jz,kU]) ?_))
   ·have:∀y:Int,y≠0->ev .rem 2 (.I (EM a)) (.I y)=some (.I ((EM a).tmod y)):=λy d=>by
     cases y with
     | ofNat n=>cases n with
       |zero=>exact absurd rfl d
       |succ n=>rfl
     |negSucc n=>rfl
    exact this _ λh=>z (.inl h)
   ·rw[show MH 7 a b=Cc ((EM a).tmod (EM b)) by simp[MH,z]]at H;exact H
 refine gg (by omega) (gi ?_);by_cases c:op=8
 ·rw[e0 _ c]at H;refine gv (by omega) (ee (by rw[Uf,kU]) ?_);rw[show MH 8 a b=Cc (0-a) by simp[MH]]at H;exact H
 refine gg (by omega) (gi ?_);by_cases c:op=9
 ·rw[e0 _ c]at H;exact gv (by omega) (Xw (Gk H))
 refine gg (by omega) (gi ?_);by_cases c:op=10
 ·rw[e0 _ c]at H;exact gv (by omega) (Xw (Gk H))
 refine gg (by omega) (gi ?_);by_cases c:op=11
 ·rw[e0 _ c]at H;refine gv (by omega) (ee (nP ..) ?_);rw[show(a != b)=decide (a≠b) by by_cases e:a=b <;> simp[e]];exact Gk H
 refine gg (by omega) (gi ?_);by_cases c:op=12
 ·rw[e0 _ c]at H;exact gv (by omega) (ee (jO ..) (Gk H))
 refine gg (by omega) (gi ?_);by_cases c:op=13
 ·rw[e0 _ c]at H;exact gv (by omega) (ee (LR ..) (Gk H))
 refine gg (by omega) (gi ?_);obtain rfl:op=14:=by omega
 exact gv rfl (ee (jO ..) (Gk H))
end
open Un Dm
abbrev zT:Nat:=90
section
variable{F F':Nat->Prop}{h h':Hp}{cs ds:List Pc}{Q:fy}{i j lh Th:Nat}{rm hv:V}{hp:List Int}
theorem eo.KJ{ty:Nat}{xs:List Int}{v:V}(H:eo F h cs)(i:Nat)(hi:cs[i]? =some (eR (eI .u64) ty xs v)){k:Nat}{x:Int}(c:xs[k]? =some x)(kd:IntKind):∃l o,gJ 1 v (.int kd (k:Nat))=some (.ptr l o)/\eQ (.ptr l o) h=some (.int .u64 x)/\tI .u64 x/\l<h.next:=by
 obtain⟨a,rfl⟩:=jR.1 c;obtain⟨l,o,u,b,d,f⟩:=H.TS i hi a kd rfl;obtain⟨e,g⟩:=f;cases e;exact⟨l,o,b,d,g,H.zdw i hi a b⟩
theorem iq.word{xs:List Int}{v:V}(a:iq (eI .u64) F h xs v){i:Nat}{x:Int}(b:xs[i]? =some x)(kd:IntKind):∃l o,F l/\gJ 1 v (.int kd (i:Nat))=some (.ptr l o)/\eQ (.ptr l o) h=some (.int .u64 x)/\tI .u64 x:=by
 obtain⟨hi,rfl⟩:=jR.1 b;obtain⟨l,o,w,c,d,f,e,g⟩:=a.TS hi kd rfl;cases e;exact⟨l,o,c,d,f,g⟩
theorem Xs{a:Int}(h:hp.length<=a.toNat):ug hp a=0:=by
 unfold ug;rw[G2,NT h];rfl
theorem X7{a:Int}{x:Int}(h:hp[a.toNat]? =some x):ug hp a=x:=by
 unfold ug;rw[G2,h];rfl
theorem LB(d:eo F h cs)(hi:cs[i]? =some (ez lh Th [rm,hv]))(f:cs[j]? =some (eR (eI .u64) zT hp hv))(r:hp.length<1000000000){a:Int}(m:tI .u64 a)(H:tI .u64 (ug hp a)->Q (.int .u64 (ug hp a)) h) :
  cP CS iH [.ptr lh 0,.int .u64 a] h Q:=by
 refine Ba rfl rfl ?_;unfold rR;have e0:eQ (.ptr lh (0+1)) h=some hv:=d.ld i hi rfl;have e:tI .u64 ((hp.length:Nat):Int):=by simp only[tI];omega
 have b:=m;simp only[tI]at b;refine oN e0 (ee (d.len j f) (ee (by rw[jz,kU,Ko e]) (UI ?_)));by_cases c:((hp.length:Nat):Int)<=a
 ·refine gv c ?_;rw[Xs (by omega)]at H;exact H zJ
 ·refine gg c (oN e0 ?_);obtain⟨k,rfl⟩:=wBG b.1;have g:=hO (l:=hp) (i:=k) (by omega);obtain⟨l,o,n,p,q,_⟩:=d.KJ j f g .u64;rw[X7 (a:=(k:Int)) (x:=hp[k]) g]at H;exact ee n (ee p (H q))
theorem Zd(b:eo F h cs)(hi:cs[i]? =some (ez lh Th [rm,hv]))(c:cs[j]? =some (eR (eI .u64) zT hp hv))(d:hp.length<1000000000){a:Int}(f:tI .u64 a)(H:tI .u64 (ug hp a / 4294967296)->Q (.I (ug hp a / 4294967296)) h) :
  cP CS lg [.ptr lh 0,.int .u64 a] h Q:=by
 refine AN rfl rfl ?_;unfold rT;refine LB b hi c d f λg=>?_;generalize ug hp a=w at*;simp only[tI]at g;have e:w.fdiv 4294967296=w / 4294967296:=Int.fdiv_eq_ediv_of_nonneg _ (by decide);refine ee (show ev .shr 90 (.int .u64 w) (.int .u64 32)=some (.int .u64 (w.fdiv 4294967296)) from rfl) ?_;rw[e];refine ee (by rw[jz,pK (by simp only[tI];omega)]) (H ?_);simp only[tI];omega
theorem X0(c:eo F h cs)(hi:cs[i]? =some (ez lh Th [rm,hv]))(d:cs[j]? =some (eR (eI .u64) zT hp hv))(f:hp.length<1000000000){a:Int}(g:tI .u64 a)(H:tI .u64 (ug hp a % 4294967296)->Q (.I (ug hp a % 4294967296)) h) :
  cP CS jZ [.ptr lh 0,.int .u64 a] h Q:=by
 refine B3 rfl rfl ?_;unfold tN;refine LB c hi d f g λb=>?_;generalize ug hp a=w at*;simp only[tI]at b;have e:w.tmod 4294967296=w % 4294967296:=Int.tmod_eq_emod_of_nonneg b.1;refine ee (show ev .rem 90 (.int .u64 w) (.int .u64 4294967296)=some (.int .u64 (w.tmod 4294967296)) from rfl) ?_;rw[e];refine ee (by rw[jz,pK (by simp only[tI];omega)]) (H ?_);simp only[tI];omega
theorem SR(d:eo F h cs)(hi:cs[i]? =some (ez lh Th [rm,hv]))(f:cs[j]? =some (eR (eI .u64) zT hp hv))(w:hp.length<1000000000){a x:Int}(n:tI .u64 a)(p:tI .u64 x)(H:∀h' r,Sn F h F h'->eo F h' (cs.set j (eR (eI .u64) zT (Mt hp a x) hv))->Q (.bool r) h') :
  cP CS jl [.ptr lh 0,.int .u64 a,.int .u64 x] h Q:=by
 refine BR rfl rfl ?_;unfold tW;have e0:eQ (.ptr lh (0+1)) h=some hv:=d.ld i hi rfl;have g:tI .u64 ((hp.length:Nat):Int):=by simp only[tI];omega
 have b:=n;simp only[tI]at b;have same:cs.set j (eR (eI .u64) zT hp hv)=cs:=by
  obtain⟨A,m⟩:=jR.1 f;rw[<-m,List.set_getElem_self]
 refine ee (gI ..) (ee (a:= .bool (decide (a=0\/((hp.length:Nat):Int)<=a))) ?_ (jd ?_))
 ·simp only[fi,gj,fe,e0,d.len j f,jz,kU,Ko g,nW,qK];congr 2;rw[V4,Nc,C9,BP,BP]
 by_cases c:a=0\/((hp.length:Nat):Int)<=a
 ·refine gv (Ke c) (H h false (Sn.refl _ _) ?_);have:Mt hp a x=hp:=by
   unfold Mt;by_cases z:a=0
   ·rw[if_pos z]
   ·rw[if_neg z,List.set_eq_of_length_le (by omega)]
  rw[this,same];exact d
 ·refine gg (by rw[BP];exact c) (oN e0 ?_);obtain⟨k,rfl⟩:=wBG b.1;obtain⟨l,o,m,q,s,_,t,v⟩:=d.IG j f (k:=k) (y:=x) (u:= .int .u64 x) (by omega) rfl rfl ⟨rfl,p⟩;refine ee (show gJ 1 hv (.int .u64 (k:Nat))=_ from q) ?_;rw[s,ei];refine H m true v ?_;have:Mt hp (k:Int) x=hp.set k x:=by
   unfold Mt;rw[if_neg (λe=>c (.inl e))];rfl
  rw[this];exact t
theorem LJ{hp:List Int}{a x:Int}:(Mt hp a x).length=hp.length:=by
 unfold Mt;split
 ·rfl
 ·rw[Nd]
end
open Un Dm
abbrev ZR:Nat:=115
def Zk:ri Fw where
 sz:=4
 rel F h x cs:=∃a b,cs=[.I x.func,.I x.pc,a,b]/\iq (eI .u64) F h x.locals a/\iq (eI .u64) F h x.stack b
 len:=λ⟨_,_,h,_⟩=>by subst h;rfl
 one:=λ⟨_,_,h,c,d⟩=>by subst h;simp only[ey,c.one,d.one];rfl
 fm:=λe ⟨a,b,h,c,d⟩=>⟨a,b,h,c.fm e,d.fm e⟩
 mono:=λf ⟨a,b,h,c,d⟩=>⟨a,b,h,c.mono f,d.mono f⟩
def CE(eh:List Int)(v:Nat):Int:=eh.getD v 0
def Qh(eh:List Int)(f:Fm):Fw:=⟨f.func,f.pc,f.locals.map (CE eh),f.stack.map (CE eh)⟩
theorem I3{eh:List Int}{v:Nat}(h:v<eh.length):eh[v]? =some (CE eh v):=by
 unfold CE;rw[G2,hO h];rfl
theorem An(w:Int):jG 90 1 1 (.int .u64 0) [(0,.int .u64 w)]=some (.cells 90 1 true false [.int .u64 w],λl=> .slice l 0 1):=rfl
section
variable{F F':Nat->Prop}{h h':Hp}{cs ds:List Pc}{Q:fy}{u:U}{vv vb vs oh:V}{eh:List Int}{j:Nat}
theorem Pc.Co(H:eo F h cs)(i:Nat){l ty:Nat}{ws:List V}(hi:cs[i]? =some (ez l ty ws)):l<h.next:=(H.ok i _ hi).2.1
theorem Rz(g:Good u)(H0:eo F h cs)(hu:ym F h u vv vb vs)(hj:cs[j]? =some (eR (eI .u64) zT eh oh))(hl:eh.length=u.eh.length){st:Nat}{fs:List Fm}(z:u.en[st]? =some fs){j7 steps:Int}
  (H:∀F' h' w,Sn F h F' h'->eo F' h' cs->iq Zk F' h' (fs.map (Qh eh)) w->Q (.agg [.I 1,.I st,.I j7,w,.I steps]) h') :
  cP CS jh [.agg (uC u vv vb vs),oh,.I st,.I j7,.I steps] h Q:=by
 refine DL rfl rfl ?_;unfold xg;refine jS H0 hu.one λh1 H1 s1=>Aa H1 λh2 H2 s2=>?_;generalize h.next=lu at*;generalize h1.next=lr at*;refine ee (show _=some (.agg [.I 1,.I st,.I j7,.ef,.I steps]) from rfl) ?_;refine gY H2 rfl rfl rfl λh3 H3 s3=>?_;generalize h2.next=lx at*;have al:=(s1.trans s2).trans s3;have aE:=zN g st fs z;have U:∀v∈gN fs,v<u.eh.length:=CT g z
 obtain ⟨J,hJ⟩:∃J:Nat->LP,J=λk l h'=>∃(F':Nat->Prop) (i:Nat) (w:V),l=[oh,.I st,.ptr lu 0,.ptr lr 0,.ptr lx 0,.I i]/\i+k=fs.length/\Sn F h F' h'/\
   eo F' h' (eR Zk ZR ((fs.take i).map (Qh eh)) w::ez lx 83 [.I 1,.I st,.I j7,w,.I steps]::ez lr 83 [.I 0,.I 0,.I 0,.ef,.I 0]::ez lu 30 (uC u vv vb vs)::cs):=⟨_,rfl⟩
 refine AS J (λk W x2 x5 X Y Z h4 hi=>?_) (k:=fs.length) ?_;rotate_left
 ·rw[hJ];exact⟨F,0,.ef,rfl,by omega,al,H3.add (p:=eR Zk ZR [] .ef) .nil λ_ h=>h⟩
 rw[hJ]at hi;obtain⟨O,i,w,⟨⟩,hk,s4,P⟩:=hi;clear H3 H2 H1;unfold si;have u4:=hu.since s4;obtain⟨l1,o1,f,aF,W,_,x3,xf⟩:=u4.st z;have x3:eQ (.ptr l1 (o1+0)) h4=some f:=x3;refine oF (P.ld 3 rfl rfl) (ee W (oF x3 (ee xf.len ?_)));by_cases hi:i<fs.length;rotate_left
 ·refine iJ ?_;obtain rfl:i=fs.length:=by omega
  rw[JF]at P;obtain⟨C,s5,r5⟩:=P.ma 0 rfl;simp only[jo]at C;have o1:gG [V.I 1,.I st,.I j7,w,.I steps]=true:=by simp only[ey,r5.one];rfl
  refine ee (C.rh 1 rfl rfl) ?_;obtain⟨h6,e6,_,R,s6⟩:=C.WS 2 (n:=5) (ws:=[.I 1,.I st,.I j7,w,.I steps]) rfl rfl rfl o1;rw[e6,ei];simp only[jo,l0]at R;refine ee (R.rh 2 rfl rfl) ?_;exact H _ h6 w ((s4.trans s5).trans s6) R.tail.tail.tail.tail (r5.since s6)
 refine gB ?_;have hx:=hO hi;have am:=NG hi;have D:=zd hi;generalize fs[i]=x at*;have an:∀v∈x.locals,v<eh.length:=λv hv=>by rw[hl];exact U v (RT.2 ⟨x,D,TX _ hv⟩)
 have ao:∀v∈x.stack,v<eh.length:=λv hv=>by rw[hl];exact U v (RT.2 ⟨x,D,wBR _ hv⟩)
 obtain⟨_,_,hf⟩:=g.st st fs z;obtain⟨aC,aD,_⟩:=hf x D;obtain⟨l2,o2,xa,xb,_,y1,y2,ya,yb⟩:=xf.pg hx;refine oF (P.ld 3 rfl rfl) (ee W (oF x3 (ee y1 (ee y2 ?_))));refine gY P rfl rfl (by simp only[JD,ey,ya.one,yb.one];rfl) λh5 C s5=>?_;generalize h4.next=S at*;refine oF (C.ld 0 rfl rfl) (oF (C.ld 0 rfl rfl) ?_);refine ee (show _=some (.agg [.I x.func,.I x.pc,.ef,.ef]) from rfl) ?_;refine gY C rfl rfl rfl λh6 R s6=>?_;generalize h5.next=T at*;have aa:=s5.trans s6;have jv:∀{a b c d e f g:Pc},(a::b::c::d::e::f::g::cs)[j+7]? =some (eR (eI .u64) zT eh oh):=λ{_ _ _ _ _ _ _}=>by simpa using hj
 have ap:∀{a b c d e f g k:Pc},(a::b::c::d::e::f::g::k::cs)[j+8]? =some (eR (eI .u64) zT eh oh):=λ{_ _ _ _ _ _ _ _}=>by simpa using hj
 obtain ⟨J1,E⟩:∃J1:Nat->LP,J1=λk l h'=>∃(n:Nat) (r:V),l=[oh,.I st,.ptr lu 0,.ptr lr 0,.ptr lx 0,.I i,.ptr S 0,.ptr T 0,.I n]/\n+k=x.locals.length/\Sn O h6 O h'/\
   eo O h' (eR (eI .u64) zT ((x.locals.take n).map (CE eh)) r::ez T 115 [.I x.func,.I x.pc,r,.ef]::ez S 49 (JD x xa xb)::eR Zk ZR ((fs.take i).map (Qh eh)) w::ez lx 83 [.I 1,.I st,.I j7,w,.I steps]::ez lr 83 [.I 0,.I 0,.I 0,.ef,.I 0]::ez lu 30 (uC u vv vb vs)::cs):=⟨_,rfl⟩
 refine A9 J1 (λk1 W x2 x5 X Y Z aq ar au h7 ab=>?_) (k:=x.locals.length) ?_;rotate_left
 ·rw[E];exact⟨0,.ef,rfl,by omega,Sn.refl _ _,R.add (p:=eR (eI .u64) zT [] .ef) .nil λ_ h=>h⟩
 clear R C P;rw[E]at ab;obtain⟨n,r,⟨⟩,aG,s7,s⟩:=ab;have G:=(ya.since aa).since s7;unfold ti;refine oF (s.ld 2 rfl rfl) (ee G.len ?_);by_cases hn:n<x.locals.length
 ·refine gB ?_;have hv:=hO hn;have t:=NG hn;have I:=an _ (zd hn);generalize x.locals[n]=v at*;obtain⟨l3,o3,K,p1,p2⟩:=G.nat hv .i64;obtain⟨l4,o4,q1,q2,q3,q4⟩:=s.KJ (j+7) jv (I3 I) .i64;have c1:eQ (.ptr T (0+2)) h7=some r:=s.ld 1 rfl rfl;have c2:eQ (.ptr S (0+2)) h7=some xa:=s.ld 2 rfl rfl;refine oF c1 (oF c2 (ee p1 (ee p2 (ee q1 (ee q2 ?_)))));rw[An,hV];obtain⟨ac,L,e8,n8,q,s8⟩:=s.uD 0 rfl (j7:=8) (Ca:=90) (y:=CE eh v) (w:=[.int .u64 (CE eh v)]) (ro:=false) ⟨rfl,q3⟩ (by decide) (by decide) (by simp;omega);refine⟨⟨fj _ _,bq⟩,iL q2 (fo _ q4),iL p2 (fo _ (s.fl _ K)),iL c2 (fo _ (Pc.Co s 2 rfl)),iL c1 (fo _ (Pc.Co s 1 rfl)),?_⟩;rw[show fg 90 1 8 r (.slice h7.next 0 1) (h7.new (.cells 90 1 true false [.int .u64 (CE eh v)]))=_ from e8,ei];simp only[jo]at q;obtain⟨h9,e9,n9,A,s9⟩:=q.st 1 (o:=0+2) (u:=ac) rfl (by simp) (q.one 0 rfl);refine⟨n8,ee pf ?_⟩;rw[e9,ei];simp only[jo,l0]at A;refine⟨n9,fM ⟨k1-1,by omega,?_⟩⟩;rw[E];exact⟨n+1,ac,rfl,by omega,(s7.trans s8).trans s9,by rw[t,Nh];exact A⟩
 refine iJ ?_;obtain rfl:n=x.locals.length:=by omega
 rw[JF]at s;clear G
 obtain ⟨J2,M⟩:∃J2:Nat->LP,J2=λk l h'=>∃(n:Nat) (sw:V),l=[oh,.I st,.ptr lu 0,.ptr lr 0,.ptr lx 0,.I i,.ptr S 0,.ptr T 0,.I n]/\n+k=x.stack.length/\Sn O h7 O h'/\
   eo O h' (eR (eI .u64) zT ((x.stack.take n).map (CE eh)) sw::eR (eI .u64) zT (x.locals.map (CE eh)) r::ez T 115 [.I x.func,.I x.pc,r,sw]::ez S 49 (JD x xa xb)::eR Zk ZR ((fs.take i).map (Qh eh)) w::ez lx 83 [.I 1,.I st,.I j7,w,.I steps]::ez lr 83 [.I 0,.I 0,.I 0,.ef,.I 0]::ez lu 30 (uC u vv vb vs)::cs):=⟨_,rfl⟩
 refine AK J2 (λk2 W x2 x5 X Y Z aq ar au L ae=>?_) (k:=x.stack.length) ?_;rotate_left
 ·rw[M];exact⟨0,.ef,rfl,by omega,Sn.refl _ _,s.add (p:=eR (eI .u64) zT [] .ef) .nil λ_ h=>h⟩
 clear s;rw[M]at ae;obtain⟨n,sw,⟨⟩,aH,s8,q⟩:=ae;have ag:=(aa.trans s7).trans s8;have ah:=yb.since ag;unfold rD;refine oF (q.ld 3 rfl rfl) (ee ah.len ?_);by_cases hn:n<x.stack.length
 ·refine gB ?_;have hv:=hO hn;have t:=NG hn;have I:=ao _ (zd hn);generalize x.stack[n]=v at*;obtain⟨l3,o3,K,p1,p2⟩:=ah.nat hv .i64;obtain⟨l4,o4,q1,q2,q3,q4⟩:=q.KJ (j+8) ap (I3 I) .i64;have c1:eQ (.ptr T (0+3)) L=some sw:=q.ld 2 rfl rfl;have c2:eQ (.ptr S (0+3)) L=some xb:=q.ld 3 rfl rfl;refine oF c1 (oF c2 (ee p1 (ee p2 (ee q1 (ee q2 ?_)))));rw[An,hV];obtain⟨ai,h9,e9,n9,A,s9⟩:=q.uD 0 rfl (j7:=8) (Ca:=90) (y:=CE eh v) (w:=[.int .u64 (CE eh v)]) (ro:=false) ⟨rfl,q3⟩ (by decide) (by decide) (by simp;omega);refine⟨⟨fj _ _,bq⟩,iL q2 (fo _ q4),iL p2 (fo _ (q.fl _ K)),iL c2 (fo _ (Pc.Co q 3 rfl)),iL c1 (fo _ (Pc.Co q 2 rfl)),?_⟩;rw[show fg 90 1 8 sw (.slice L.next 0 1) (L.new (.cells 90 1 true false [.int .u64 (CE eh v)]))=_ from e9,ei];simp only[jo]at A;obtain⟨aI,K6,aw,m,B⟩:=A.st 2 (o:=0+3) (u:=ai) rfl (by simp) (A.one 0 rfl);refine⟨n9,ee pf ?_⟩;rw[K6,ei];simp only[jo,l0]at m;refine⟨aw,fM ⟨k2-1,by omega,?_⟩⟩;rw[M];exact⟨n+1,ai,rfl,by omega,(s8.trans s9).trans B,by rw[t,Nh];exact m⟩
 refine iJ ?_;obtain rfl:n=x.stack.length:=by omega
 rw[JF]at q;obtain⟨A,s9,r9⟩:=q.ma 0 rfl;simp only[jo]at A;obtain⟨m,B,V6⟩:=A.ma 1 rfl;simp only[jo,l0]at m;have r9:=r9.since B;have o4:gG [V.I x.func,.I x.pc,r,sw]=true:=by simp only[ey,r9.one,V6.one];rfl
 refine oF (m.ld 5 rfl rfl) (ee (m.rh 2 rfl rfl) ?_);rw[show jG 115 4 1 (.agg [.I 0,.I 0,.ef,.ef]) [(0,.agg [.I x.func,.I x.pc,r,sw])]=_ from qa rfl rfl o4,fG];obtain⟨aj,aJ,ax,_,N,ay⟩:=m.uD 4 rfl (j7:=64) (Ca:=115) (y:=Qh eh x) (w:=[.I x.func,.I x.pc,r,sw]) (ro:=false) ⟨r,sw,rfl,V6,r9⟩ (by decide) (by decide) (by simp;omega);rw[show fg 115 4 64 w (.slice L.next 0 1) (L.new (.cells 115 4 true false [.I x.func,.I x.pc,r,sw]))=_ from ax,ei];simp only[jo,l0]at N;obtain⟨aK,aA,_,ak,aB⟩:=N.st 5 (o:=0+3) (u:=aj) rfl (by simp) (N.one 4 rfl);refine ee pf ?_;rw[aA,ei];simp only[jo,l0]at ak;refine fM ⟨k-1,by omega,?_⟩;rw[hJ];exact⟨_,i+1,aj,rfl,by omega,((((s4.trans ag).trans s9).trans B).trans ay).trans aB,by rw[am,Nh];exact ak.tail.tail.tail.tail⟩
end
