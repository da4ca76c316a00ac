/- Parts. -/
import Derived.Test.YtcoaokdoecgcbaaGreatDoorM42
import Derived.Test.YtcoaokdoecgcbaaGreatDoorM47
set_option maxHeartbeats 4000000
namespace Go.Proofs.YtcoaokdoecgcbaaGreatDoor.Hx
open Un Dm
variable{fm:Int}{v:Nat}{s:Rs}{fuel:Nat}
theorem iQ(n:Int):jo .u64 n=qN n:=by
 rw[mU];simp only[IntKind.wrap,IntKind.signed,IntKind.bits,Bool.false_and,wBK,if_false,qN];rfl
theorem xI(n:Int):ml .u64 (qN n):=by simp only[ml,qN];omega
theorem IU{n:Int}(h:ml .u64 n):qN n=n:=by simp only[ml]at h;unfold qN;omega
theorem zbi{n:Int}(h:ml .u64 n):jo .i64 n=Hk n:=by
 rw[mU];simp only[ml]at h;have e:n % 18446744073709551616=n:=by omega
 simp only[IntKind.wrap,IntKind.signed,IntKind.bits,Bool.true_and,yU,Nat.reduceSub,Int.reducePow,ge_iff_le,e,Hk];by_cases c:n<9223372036854775808
 ·rw[if_neg (by omega),if_pos c]
 ·rw[if_pos (by omega),if_neg c]
theorem zeR{c:Prop} [Decidable c] {x y:Int}(a:ml .u64 x)(b:ml .u64 y):ml .u64 (if c then x else y):=by
 by_cases h:c
 ·rw[if_pos h];exact a
 ·rw[if_neg h];exact b
theorem tC:ml .u64 0:=⟨Int.le_refl _,by decide⟩
theorem zcR(b:Bool):ml .u64 (LU b):=by cases b <;> simp[ml,LU]
theorem Tp(op:Nat)(a b:Int):ml .u64 (Ng op a b):=by
 unfold Ng
 repeat' first|exact xI _|exact zcR _|exact tC|refine zeR ?_ ?_
theorem zbu{t:Nat}{k:IntKind}{a b:Int}{K:V->Prop}(H:K (.bool (decide (a=b)))):oP (ef .eql t (.int k a) (.int k b)) K:=fM H
section
variable{F F':Nat->Prop}{h h':Hp}{cs ds:List Pc}{Q:fj}
theorem ej.zhN{α:Type}{E:tq α}{ty:Nat}{xs:List α}{v:V}(H:ej F h cs)(i:Nat)(hi:cs[i]? =some (ft E ty xs v)){k n l o:Nat}{a:IntKind}(b:k<xs.length)(e:gM n v (.int a (k:Nat))=some (.ptr l o)):l<h.next:=by
 rcases H.row i hi with⟨_,rfl⟩|⟨t,ws,rfl,c,_⟩
 ·simp_all
 grind[wz]
theorem zeo{T:Nat}{ws:List V}{K:O->fj}(H:ej F h ds)(a:gi ws=true)(b:ej F (h.new (.cells T 1 true false ws)) (eD h.next T ws::ds)->Sn F h F (h.new (.cells T 1 true false ws))->K (.cells T 1 true false ws) (.ptr h.next 0) (h.new (.cells T 1 true false ws))):uj (kZ T (.agg ws)) h K:=by
 rw[Jy a,gI];exact b (H.xC T _).1 (H.xC T ws).2
theorem Va{T:Nat}{ws:List V}{K:fj}(H:ej F h ds)(b:∀a,ej F a (eD h.next T ws::ds)->Sn F h F a->K (.ptr h.next 0) a):gU (some (O.cells T 1 true false ws,λl=>V.ptr l 0)) h K:=by
 rw[fK];exact b _ (H.xC T _).1 (H.xC T ws).2
theorem zeB{x:Vl}:(two x.op=true->x.op≠21->x.a∈jn x/\x.b∈jn x)/\(uk x.op=true->x.op≠21->x.a∈jn x):=by
 constructor
 ·intro h c;unfold jn
  grind
 ·intro h c;unfold jn
  grind
theorem Ji{b:Bool}(H:Q (.int .u64 (LU b)) h):cP CS iH [.bool b] h Q:=by
 refine He ?_;cases b
 ·exact fX (fH (by simp) H)
 ·exact fX (fO rfl H)
theorem Mi{op:Nat}{a b:Int}(f:ml .u64 a)(g:ml .u64 b)(i:3<=op/\op<=14)(H:Q (.tuple [.int .u64 (Ng op a b),.bool true]) h):cP CS jF [.I op,.int .u64 a,.int .u64 b] h Q:=by
 refine FQ ?_;refine ec (by rw[gg,zbi f]) (ec (by rw[gg,zbi g]) ?_);have e0:∀n:Nat,op=n->Ng op a b=Ng n a b:=λn h=>by rw[h]
 refine fx ?_;by_cases c:op=3
 ·rw[e0 _ c]at H;exact io (ec (by rw[jf,iQ];rfl) H)
 refine kw (fx ?_);by_cases c:op=4
 ·rw[e0 _ c]at H;exact io (ec (by rw[jx,iQ];rfl) H)
 refine kw (fx ?_);by_cases c:op=5
 ·rw[e0 _ c]at H;exact io (ec (by rw[Bn,iQ];rfl) H)
 refine kw (fx ?_);by_cases c:op=6
 ·rw [e0 _ c]at H;refine io (fx ?_);by_cases z:Hk b=0
  ·refine fO z ?_;rw[show Ng 6 a b=0 by simp[Ng,z]]at H;exact H
  refine fH z (fx ?_);by_cases z1:Hk b = -1
  ·refine fO z1 (ec (by rw[Yr,iQ]) ?_);rw[show Ng 6 a b=qN (0-a) by simp[Ng,z1]]at H;exact H
  ·refine fH z1 (ec (a:= .I (jo .i64 ((Hk a).tdiv (Hk b)))) ?_ (ec (by rw[gg]) ?_))
   ·have:∀y:Int,y≠0->ef .quo 2 (.I (Hk a)) (.I y)=some (.I (jo .i64 ((Hk a).tdiv y))):=λy d=>by
     cases y with
     | ofNat n=>cases n with
       |zero=>exact absurd rfl d
       |succ n=>rfl
     |negSucc n=>rfl
    exact this _ z
   ·rw [show Ng 6 a b=qN ((Hk a).tdiv (Hk b)) by simp[Ng,z,z1]]at H;rw[iQ,mU];have:qN (IntKind.i64.wrap ((Hk a).tdiv (Hk b)))=qN ((Hk a).tdiv (Hk b)):=by
     simp only[IntKind.wrap,IntKind.signed,IntKind.bits,Bool.true_and,yU,Nat.reduceSub,Int.reducePow,qN];split <;> omega
    rw[this];exact H
 refine kw (fx ?_);by_cases c:op=7
 ·rw [e0 _ c]at H;refine io (ec (gS ..) (ec (a:= .bool (decide (Hk b=0\/Hk b = -1))) ?_ (fX ?_)))
  ·simp only[eQ,gS,jj];congr 2;rw[WK,JD,Ey,Ey,yU]
  by_cases z:Hk b=0\/Hk b = -1
  ·refine fO (Ov z) ?_;rw[show Ng 7 a b=0 by simp[Ng,z]]at H;exact H
  ·refine fH (by rw[yU];exact z) (ec (a:= .I ((Hk a).tmod (Hk b))) ?_ (ec (by rw[gg,iQ]) ?_))
   ·have:∀y:Int,y≠0->ef .rem 2 (.I (Hk a)) (.I y)=some (.I ((Hk a).tmod y)):=λy d=>by
     cases y with
     | ofNat n=>cases n with
       |zero=>exact absurd rfl d
       |succ n=>rfl
     |negSucc n=>rfl
    exact this _ λh=>z (.inl h)
   ·rw[show Ng 7 a b=qN ((Hk a).tmod (Hk b)) by simp[Ng,z]]at H;exact H
 refine kw (fx ?_);by_cases c:op=8
 ·rw[e0 _ c]at H;refine io (ec (by rw[Yr,iQ]) ?_);rw[show Ng 8 a b=qN (0-a) by simp[Ng]]at H;exact H
 refine kw (fx ?_);by_cases c:op=9
 ·rw[e0 _ c]at H;exact io (zbu (Ji H))
 refine kw (fx ?_);by_cases c:op=10
 ·rw[e0 _ c]at H;exact io (zbu (Ji H))
 refine kw (fx ?_);by_cases c:op=11
 ·rw[e0 _ c]at H;refine io (ec (rZ ..) ?_);rw[show(a != b)=decide (a≠b) by by_cases e:a=b <;> simp[e]];exact Ji H
 refine kw (fx ?_);by_cases c:op=12
 ·rw[e0 _ c]at H;exact io (ec (iF ..) (Ji H))
 refine kw (fx ?_);by_cases c:op=13
 ·rw[e0 _ c]at H;exact io (ec (VM ..) (Ji H))
 refine kw (fx ?_);obtain rfl:op=14:=by omega
 exact fO rfl (ec (iF ..) (Ji H))
abbrev wR:Nat:=63
variable{i j lh Th:Nat}{rm hv:V}{hp:List Int}
theorem ej.MJ{ty:Nat}{xs:List Int}{v:V}(H:ej F h cs)(i:Nat)(hi:cs[i]? =some (ft (eI .u64) ty xs v)){k:Nat}{x:Int}(d:xs[k]? =some x)(a:IntKind):∃l o,gM 1 v (.int a (k:Nat))=some (.ptr l o)/\ez (.ptr l o) h=some (.int .u64 x)/\ml .u64 x/\l<h.next:=by
 obtain⟨b,rfl⟩:=ke.1 d;obtain⟨l,o,u,c,f,g⟩:=H.Yt i hi b a rfl;obtain⟨e,j⟩:=g;cases e;exact⟨l,o,c,f,j,H.zhN i hi b c⟩
theorem hD.word{xs:List Int}{v:V}(a:hD (eI .u64) F h xs v){i:Nat}{x:Int}(c:xs[i]? =some x)(b:IntKind):∃l o,F l/\gM 1 v (.int b (i:Nat))=some (.ptr l o)/\ez (.ptr l o) h=some (.int .u64 x)/\ml .u64 x:=by
 obtain⟨hi,rfl⟩:=ke.1 c;obtain⟨l,o,w,d,f,g,e,j⟩:=a.Yt hi b rfl;cases e;exact⟨l,o,d,f,g,j⟩
theorem zbc{a:Int}(h:hp.length<=a.toNat):mI hp a=0:=by
 unfold mI;rw[IY,Z2 h];rfl
theorem zbZ{a:Int}{x:Int}(h:hp[a.toNat]? =some x):mI hp a=x:=by
 unfold mI;rw[IY,h];rfl
theorem JL(d:ej F h cs)(hi:cs[i]? =some (eD lh Th [rm,hv]))(f:cs[j]? =some (ft (eI .u64) wR hp hv))(hl:hp.length<1000000000){a:Int}(m:ml .u64 a)(H:ml .u64 (mI hp a)->Q (.int .u64 (mI hp a)) h) :
  cP CS gZ [.ptr lh 0,.int .u64 a] h Q:=by
 refine BV ?_;have e0:ez (.ptr lh (0+1)) h=some hv:=d.ld i hi rfl;have e:ml .u64 ((hp.length:Nat):Int):=by simp only[ml];omega
 have b:=m;simp only[ml]at b;refine oN e0 (ec (d.len j f) (ec (by rw[gg,iQ,IU e]) (MG ?_)));by_cases c:((hp.length:Nat):Int)<=a
 ·refine fO c ?_;rw[zbc (by omega)]at H;exact H tC
 ·refine fH c (oN e0 ?_);obtain⟨k,rfl⟩:=wBg b.1;have g:=hZ (l:=hp) (i:=k) (by omega);obtain⟨l,o,n,p,q,_⟩:=d.MJ j f g .u64;rw[zbZ (a:=(k:Int)) (x:=hp[k]) g]at H;exact ec n (ec p (H q))
theorem ZM(b:ej F h cs)(hi:cs[i]? =some (eD lh Th [rm,hv]))(c:cs[j]? =some (ft (eI .u64) wR hp hv))(hl:hp.length<1000000000){a:Int}(d:ml .u64 a)(H:ml .u64 (mI hp a / 4294967296)->Q (.I (mI hp a / 4294967296)) h) :
  cP CS kT [.ptr lh 0,.int .u64 a] h Q:=by
 refine BU ?_;refine JL b hi c hl d λf=>?_;generalize mI hp a=w at*;simp only[ml]at f;have e:w.fdiv 4294967296=w / 4294967296:=Int.fdiv_eq_ediv_of_nonneg _ (by decide);refine ec (show ef .shr 63 (.int .u64 w) (.int .u64 32)=some (.int .u64 (w.fdiv 4294967296)) from rfl) ?_;rw[e];refine ec (by rw[gg,gG (by simp only[ml];omega)]) (H ?_);simp only[ml];omega
theorem X6(c:ej F h cs)(hi:cs[i]? =some (eD lh Th [rm,hv]))(d:cs[j]? =some (ft (eI .u64) wR hp hv))(hl:hp.length<1000000000){a:Int}(f:ml .u64 a)(H:ml .u64 (mI hp a % 4294967296)->Q (.I (mI hp a % 4294967296)) h) :
  cP CS jW [.ptr lh 0,.int .u64 a] h Q:=by
 refine CW ?_;refine JL c hi d hl f λb=>?_;generalize mI hp a=w at*;simp only[ml]at b;have e:w.tmod 4294967296=w % 4294967296:=wBQ b.1;refine ec (show ef .rem 63 (.int .u64 w) (.int .u64 4294967296)=some (.int .u64 (w.tmod 4294967296)) from rfl) ?_;rw[e];refine ec (by rw[gg,gG (by simp only[ml];omega)]) (H ?_);simp only[ml];omega
theorem Qr(d:ej F h cs)(hi:cs[i]? =some (eD lh Th [rm,hv]))(f:cs[j]? =some (ft (eI .u64) wR hp hv))(hl:hp.length<1000000000){a x:Int}(n:ml .u64 a)(p:ml .u64 x)(H:∀h' r,Sn F h F h'->ej F h' (cs.set j (ft (eI .u64) wR (Eo hp a x) hv))->Q (.bool r) h') :
  cP CS iE [.ptr lh 0,.int .u64 a,.int .u64 x] h Q:=by
 refine CU ?_;have e0:ez (.ptr lh (0+1)) h=some hv:=d.ld i hi rfl;have g:ml .u64 ((hp.length:Nat):Int):=by simp only[ml];omega
 have b:=n;simp only[ml]at b;have same:cs.set j (ft (eI .u64) wR hp hv)=cs:=by
  obtain⟨w,m⟩:=ke.1 f;rw[<-m,List.set_getElem_self]
 refine ec (gS ..) (ec (a:= .bool (decide (a=0\/((hp.length:Nat):Int)<=a))) ?_ (fX ?_))
 ·simp only[eQ,eC,fo,e0,d.len j f,gg,iQ,IU g,jK,jj];congr 2;rw[WK,JD,Ey,yU,yU]
 by_cases c:a=0\/((hp.length:Nat):Int)<=a
 ·refine fO (Ov c) (H h false (Sn.refl _ _) ?_);have:Eo hp a x=hp:=by
   unfold Eo;by_cases z:a=0
   ·rw[if_pos z]
   ·rw[if_neg z,List.set_eq_of_length_le (by omega)]
  rw[this,same];exact d
 ·refine fH (by rw[yU];exact c) (oN e0 ?_);obtain⟨k,rfl⟩:=wBg b.1;obtain⟨l,o,m,q,s,_,t,v⟩:=d.M7 j f (k:=k) (y:=x) (u:= .int .u64 x) (by omega) rfl rfl ⟨rfl,p⟩;refine ec (show gM 1 hv (.int .u64 (k:Nat))=_ from q) ?_;rw[s,eh];refine H m true v ?_;have:Eo hp (k:Int) x=hp.set k x:=by
   unfold Eo;rw[if_neg (λe=>c (.inl e))];rfl
  rw[this];exact t
theorem Ib{hp:List Int}{a x:Int}:(Eo hp a x).length=hp.length:=by
 unfold Eo;split
 ·rfl
 ·rw[wBF]
abbrev Rx:Nat:=72
def eFw:tq Fw where
 sz:=4
 rel F h x cs:=∃a b,cs=[.I x.func,.I x.pc,a,b]/\hD (eI .u64) F h x.locals a/\hD (eI .u64) F h x.stack b
 len:=λ⟨_,_,h,_⟩=>by subst h;rfl
 one:=λ⟨_,_,h,c,d⟩=>by subst h;simp only[fe,c.one,d.one];rfl
 fy:=λe ⟨a,b,h,c,d⟩=>⟨a,b,h,c.fy e,d.fy e⟩
 mono:=λf ⟨a,b,h,c,d⟩=>⟨a,b,h,c.mono f,d.mono f⟩
def IM(ee:List Int)(v:Nat):Int:=ee.getD v 0
def Vt(ee:List Int)(f:Fm):Fw:=⟨f.func,f.pc,f.locals.map (IM ee),f.stack.map (IM ee)⟩
theorem Mo{ee:List Int}(h:v<ee.length):ee[v]? =some (IM ee v):=by
 unfold IM;rw[IY,hZ h];rfl
theorem vg(w:Int):iO 63 1 1 (.int .u64 0) [(0,.int .u64 w)]=some (.cells 63 1 true false [.int .u64 w],λl=> .slice l 0 1):=rfl
variable{u:U}{vv vb vs oe:V}{ee:List Int}
theorem Pc.Aq(H:ej F h cs)(i:Nat){l ty:Nat}{ws:List V}(hi:cs[i]? =some (eD l ty ws)):l<h.next:=(H.ok i _ hi).2.1
theorem U9(g:Good u)(H0:ej F h cs)(hu:EZ F h u vv vb vs)(hj:cs[j]? =some (ft (eI .u64) wR ee oe))(hl:ee.length=u.ee.length){st:Nat}{fs:List Fm}(z:u.eE[st]? =some fs){iU steps:Int}
  (H:∀F' h' w,Sn F h F' h'->ej F' h' cs->hD eFw F' h' (fs.map (Vt ee)) w->Q (.agg [.I 1,.I st,.I iU,w,.I steps]) h') :
  cP CS jE [.agg (uC u vv vb vs),oe,.I st,.I iU,.I steps] h Q:=by
 refine FB ?_;refine oC H0 hu.one λh1 H1 s1=>Va H1 λh2 H2 s2=>?_;generalize h.next=lu at*;generalize h1.next=lr at*;refine ec (rfl) ?_;refine jX H2 rfl rfl rfl λh3 H3 s3=>?_;generalize h2.next=lx at*;have ag:=(s1.trans s2).trans s3;have N:=Jp g z
 obtain ⟨J,hJ⟩:∃J,J=λk l h'=>∃F' i w,l=[oe,.I st,.ptr lu 0,.ptr lr 0,.ptr lx 0,.I (i:Nat)]/\i+k=fs.length/\Sn F h F' h'/\
   ej F' h' (ft eFw Rx ((fs.take i).map (Vt ee)) w::eD lx 66 [.I 1,.I st,.I iU,w,.I steps]::eD lr 66 [.I 0,.I 0,.I 0,.ed,.I 0]::eD lu 34 (uC u vv vb vs)::cs):=⟨_,rfl⟩
 refine B6 J (λk O x2 x5 P R S h4 hi=>?_) (k:=fs.length) ?_;rotate_left
 ·rw[hJ];exact⟨F,0,.ed,rfl,by omega,ag,H3.add .nil λ_ h=>h⟩
 rw[hJ]at hi;obtain⟨G,i,w,⟨⟩,hk,s4,T⟩:=hi;unfold tJ;have u4:=hu.since s4
 let⟨l1,o1,f,hF1,O,_,x3,xf⟩:=u4.st z
 have x3:=x3;refine oF (T.ld 3 rfl rfl) (ec O (oF x3 (ec xf.len ?_)));by_cases hi:i<fs.length;rotate_left
 ·refine iA ?_;obtain rfl:i=fs.length:=by omega
  rw[PG]at T
  let⟨I,s5,r5⟩:=T.hY 0 rfl
  have o1:gi [V.I 1,.I st,.I iU,w,.I steps]=true:=by simp only[fe,r5.one];rfl
  refine ec (I.tj 1 rfl rfl) ?_
  let⟨h6,e6,_,H6,s6⟩:=I.Tw 2 (n:=5) rfl rfl rfl o1
  rw[e6,eh];refine ec (H6.tj 2 rfl rfl) ?_;exact H _ h6 w ((s4.trans s5).trans s6) H6.tail.tail.tail.tail (r5.since s6)
 refine gy ?_;have hx:=hZ hi;have ah:=Ho hi;have A:=AL hi;generalize fs[i]=x at*;have ai:∀v∈x.locals,v<ee.length:=λv hv=>by rw[hl];exact N v (Sg.2 ⟨x,A,Zu _ hv⟩)
 have aj:∀v∈x.stack,v<ee.length:=λv hv=>by rw[hl];exact N v (Sg.2 ⟨x,A,wBL _ hv⟩)
 let⟨_,_,hf⟩:=g.st st fs z
 let⟨hl40,hs60,_⟩:=hf x A
 let⟨l2,o2,xa,xb,_,y1,y2,ya,yb⟩:=xf.qJ hx
 refine oF (T.ld 3 rfl rfl) (ec O (oF x3 (ec y1 (ec y2 ?_))));refine jX T rfl rfl (by simp only[fmC,fe,ya.one,yb.one];rfl) λh5 I s5=>?_;generalize h4.next=K at*;refine oF (I.ld 0 rfl rfl) (oF (I.ld 0 rfl rfl) ?_);refine ec (rfl) ?_;refine jX I rfl rfl rfl λh6 H6 s6=>?_;generalize h5.next=L at*;have U:=s5.trans s6;have jv:∀{a b c d e f g:Pc},(a::b::c::d::e::f::g::cs)[j+7]? =some (ft (eI .u64) wR ee oe):=λ{_ _ _ _ _ _ _}=>by simpa using hj
 have ak:∀{a b c d e f g k:Pc},(a::b::c::d::e::f::g::k::cs)[j+8]? =some (ft (eI .u64) wR ee oe):=λ{_ _ _ _ _ _ _ _}=>by simpa using hj
 obtain ⟨J1,B⟩:∃J1,J1=λk l h'=>∃n p,l=[oe,.I st,.ptr lu 0,.ptr lr 0,.ptr lx 0,.I i,.ptr K 0,.ptr L 0,.I (n:Nat)]/\n+k=x.locals.length/\Sn G h6 G h'/\
   ej G h' (ft (eI .u64) wR ((x.locals.take n).map (IM ee)) p::eD L 72 [.I x.func,.I x.pc,p,.ed]::eD K 85 (fmC x xa xb)::ft eFw Rx ((fs.take i).map (Vt ee)) w::eD lx 66 [.I 1,.I st,.I iU,w,.I steps]::eD lr 66 [.I 0,.I 0,.I 0,.ed,.I 0]::eD lu 34 (uC u vv vb vs)::cs):=⟨_,rfl⟩
 refine Cb J1 (λk1 O x2 x5 P R S gL jd ug W X=>?_) (k:=x.locals.length) ?_;rotate_left
 ·rw[B];exact⟨0,.ed,rfl,by omega,Sn.refl _ _,H6.add .nil λ_ h=>h⟩
 rw[B]at X;obtain⟨n,p,⟨⟩,az,s7,s⟩:=X;have Y:=(ya.since U).since s7;unfold tQ;refine oF (s.ld 2 rfl rfl) (ec Y.len ?_);by_cases hn:n<x.locals.length
 ·refine gy ?_;have hv:=hZ hn;have q:=Ho hn;have C:=ai _ (AL hn);generalize x.locals[n]=v at*
  let⟨l3,o3,hF3,p1,p2⟩:=Y.nat hv .i64
  let⟨l4,o4,q1,Z,q3,q4⟩:=s.MJ (j+7) jv (Mo C) .i64
  have c1:ez (.ptr L (0+2)) W=some p:=s.ld 1 rfl rfl;have c2:ez (.ptr K (0+2)) W=some xa:=s.ld 2 rfl rfl;refine oF c1 (oF c2 (ec p1 (ec p2 (ec q1 (ec Z ?_)))));rw[vg,gI];obtain⟨al,D,e8,n8,m,s8⟩:=s.pT 0 rfl (iU:=8) ⟨rfl,q3⟩ (by decide) (by decide) (by simp;omega);refine⟨⟨fh _ _,bq⟩,gz Z (fi _ q4),gz p2 (fi _ (s.fl _ hF3)),gz c2 (fi _ (Pc.Aq s 2 rfl)),gz c1 (fi _ (Pc.Aq s 1 rfl)),?_⟩;rw[show fg 63 1 8 p (.slice W.next 0 1) (W.new (.cells 63 1 true false [.int .u64 (IM ee v)]))=_ from e8,eh]
  let⟨h9,e9,n9,M,s9⟩:=m.st 1 (o:=0+2) rfl (by simp) (m.one 0 rfl)
  refine⟨n8,ec pf ?_⟩;rw[e9,eh];refine⟨n9,fG ⟨k1-1,by omega,?_⟩⟩;rw[B];exact⟨n+1,al,rfl,by omega,(s7.trans s8).trans s9,by rw[q,SL];exact M⟩
 refine iA ?_;obtain rfl:n=x.locals.length:=by omega
 rw[PG]at s
 obtain ⟨J2,E⟩:∃J2,J2=λk l h'=>∃n sw,l=[oe,.I st,.ptr lu 0,.ptr lr 0,.ptr lx 0,.I i,.ptr K 0,.ptr L 0,.I (n:Nat)]/\n+k=x.stack.length/\Sn G W G h'/\
   ej G h' (ft (eI .u64) wR ((x.stack.take n).map (IM ee)) sw::ft (eI .u64) wR (x.locals.map (IM ee)) p::eD L 72 [.I x.func,.I x.pc,p,sw]::eD K 85 (fmC x xa xb)::ft eFw Rx ((fs.take i).map (Vt ee)) w::eD lx 66 [.I 1,.I st,.I iU,w,.I steps]::eD lr 66 [.I 0,.I 0,.I 0,.ed,.I 0]::eD lu 34 (uC u vv vb vs)::cs):=⟨_,rfl⟩
 refine B9 J2 (λk2 O x2 x5 P R S gL jd ug D aa=>?_) (k:=x.stack.length) ?_;rotate_left
 ·rw[E];exact⟨0,.ed,rfl,by omega,Sn.refl _ _,s.add .nil λ_ h=>h⟩
 rw[E]at aa;obtain⟨n,sw,⟨⟩,aA,s8,m⟩:=aa;have ab:=(U.trans s7).trans s8;have ac:=yb.since ab;unfold uc;refine oF (m.ld 3 rfl rfl) (ec ac.len ?_);by_cases hn:n<x.stack.length
 ·refine gy ?_;have hv:=hZ hn;have q:=Ho hn;have C:=aj _ (AL hn);generalize x.stack[n]=v at*
  let⟨l3,o3,hF3,p1,p2⟩:=ac.nat hv .i64
  let⟨l4,o4,q1,Z,q3,q4⟩:=m.MJ (j+8) ak (Mo C) .i64
  have c1:ez (.ptr L (0+3)) D=some sw:=m.ld 2 rfl rfl;have c2:ez (.ptr K (0+3)) D=some xb:=m.ld 3 rfl rfl;refine oF c1 (oF c2 (ec p1 (ec p2 (ec q1 (ec Z ?_)))));rw[vg,gI];obtain⟨am,h9,e9,n9,M,s9⟩:=m.pT 0 rfl (iU:=8) ⟨rfl,q3⟩ (by decide) (by decide) (by simp;omega);refine⟨⟨fh _ _,bq⟩,gz Z (fi _ q4),gz p2 (fi _ (m.fl _ hF3)),gz c2 (fi _ (Pc.Aq m 3 rfl)),gz c1 (fi _ (Pc.Aq m 2 rfl)),?_⟩;rw[show fg 63 1 8 sw (.slice D.next 0 1) (D.new (.cells 63 1 true false [.int .u64 (IM ee v)]))=_ from e9,eh]
  let⟨aB,an,ao,r,t⟩:=M.st 2 (o:=0+3) rfl (by simp) (M.one 0 rfl)
  refine⟨n9,ec pf ?_⟩;rw[an,eh];refine⟨ao,fG ⟨k2-1,by omega,?_⟩⟩;rw[E];exact⟨n+1,am,rfl,by omega,(s8.trans s9).trans t,by rw[q,SL];exact r⟩
 refine iA ?_;obtain rfl:n=x.stack.length:=by omega
 rw[PG]at m
 let⟨M,s9,r9⟩:=m.hY 0 rfl
 let⟨r,t,ad⟩:=M.hY 1 rfl
 have r9:=r9.since t;have o4:gi [V.I x.func,.I x.pc,p,sw]=true:=by simp only[fe,r9.one,ad.one];rfl
 refine oF (r.ld 5 rfl rfl) (ec (r.tj 2 rfl rfl) ?_);rw[show iO 72 4 1 (.agg [.I 0,.I 0,.ed,.ed]) [(0,.agg [.I x.func,.I x.pc,p,sw])]=_ from Ce rfl rfl o4,fK];obtain⟨aq,aC,ar,_,ae,au⟩:=r.pT 4 rfl (iU:=64) (y:=Vt ee x) ⟨p,sw,rfl,ad,r9⟩ (by decide) (by decide) (by simp;omega);rw[show fg 72 4 64 w (.slice D.next 0 1) (D.new (.cells 72 4 true false [.I x.func,.I x.pc,p,sw]))=_ from ar,eh]
 let⟨aD,aw,_,ax,ay⟩:=ae.st 5 (o:=0+3) rfl (by simp) (ae.one 4 rfl)
 refine ec pf ?_;rw[aw,eh];refine fG ⟨k-1,by omega,?_⟩;rw[hJ];exact⟨_,i+1,aq,rfl,by omega,((((s4.trans ab).trans s9).trans t).trans au).trans ay,by rw[ah,SL];exact ax.tail.tail.tail.tail⟩
def WS(u:U)(locals:List Int)(fm:Int)(fuel JQ b:Nat)(B:Bk):Ex ⊕ Rs->Ex
 | .inl e=>e
 | .inr s=>if fuel<=s.steps then .AE else if B.fin=3 then zK u {s with steps:=s.steps+1} B.state (-1) else match GM B s with
   |none=> .stuck
   |some t=>runM u locals fm fuel JQ (some b) t {s with steps:=s.steps+1}
theorem zdV{u:U}{locals:List Int}{JQ b:Nat}{qJ:Option Nat}{B:Bk}(a:u.blocks[b]? =some B) :
  runM u locals fm fuel (JQ+1) qJ b s=WS u locals fm fuel JQ b B (p7 u fm fuel (B.ee.dropWhile (gN u)) (lR u locals qJ B s)):=by
 unfold runM;simp[a];cases p7 u fm fuel (B.ee.dropWhile (gN u)) (lR u locals qJ B s) <;> rfl
theorem ze5{p:Nat->Bool}:∀(l:List Nat) i,i<=l.length->(∀m v,m<i->l[m]? =some v->p v=true)->(∀v,l[i]? =some v->p v=false)->l.takeWhile p=l.take i/\l.dropWhile p=l.drop i
 |[],i,h,_,_=>by simp
 | a::l,0,_,_,h=>by
   have:=h a rfl
   simp[this]
 | a::l,i+1,hl,b,d=>by
   have c:=b 0 a (by omega) rfl
   let⟨e1,e2⟩:=ze5 l i (by simpa using hl) (λm v e hv=>b (m+1) v (by omega) (by simpa using hv)) λv hv=>d v (by simpa using hv)
   rw[List.takeWhile_cons,List.dropWhile_cons,if_pos c,if_pos c,e1,e2];exact⟨rfl,rfl⟩
def Ou:Option Nat->Int
 |none=>-1
 |some p=>(p:Int)
variable{yz pO bv bn bp:V}{locals:List Int}{lu lr lb:Nat}{fu:LP}{fm:Int}{fuel steps polls b:Nat}{qJ:Option Nat}{B:Bk}
abbrev Rn(ee:List Int) (oe:V) (lr lu:Nat) (u:U) (vv vb vs:V) (lh Th:Nat) (rm pO:V) (hp:List Int) (ds:List Pc):List Pc:=
 ft (eI .u64) wR ee oe::eD lr 66 [.I 0,.I 0,.I 0,.ed,.I 0]::eD lu 34 (uC u vv vb vs)::eD lh Th [rm,pO]::ft (eI .u64) wR hp pO::ds
abbrev Ws(u:U)(locals:List Int)(qJ:Option Nat)(B:Bk)(ee:List Int)(v:Nat):Int:=ME u locals qJ B (IM ee) v
def zdy(qJ:Option Nat)(B:Bk)(x:Vl)(ee:List Int):Int:=match qJ with
 | some p=>match B.fk.findIdx? (·== p)with
   |some j=>IM ee (x.args.getD j 0)
   |none=>0
 |none=>0
theorem zgR{x:Vl}(a:u.ee[v]? =some x):Ws u locals qJ B ee v=if x.op=1 then locals.getD x.n.toNat 0 else zdy qJ B x ee:=by
 show ME u locals qJ B (IM ee) v=_;unfold ME zdy;simp[a];cases qJ <;> rfl
theorem zgW(g:Good u)(H0:ej F h (eD lb 79 (pR B bv bn bp)::Rn ee oe lr lu u vv vb vs lh Th rm pO hp ds))(hu:EZ F h u vv vb vs)(t:hD (eI .u64) F h locals yz)(R:ee.length=u.ee.length)(E:u.blocks[b]? =some B)(iv:hD eN F h B.ee bv)(ip:hD eN F h B.fk bp)(ll:locals.length<1000000000)
  (K:∀h' EK,Sn F h F h'->ej F h' (ft (eI .u64) wR ((B.ee.takeWhile (gN u)).map (Ws u locals qJ B ee)) EK::eD lb 79 (pR B bv bn bp)::Rn ee oe lr lu u vv vb vs lh Th rm pO hp ds)->
   jt Q fu [.ptr lh 0,yz,.I fm,.I fuel,.ptr lu 0,.ptr lr 0,oe,.I steps,.I polls,.I b,.ptr lb 0,EK,.I ((B.ee.takeWhile (gN u)).length:Nat)] h') :
  pA Q fu [.ptr lh 0,yz,.I fm,.I fuel,.ptr lu 0,.ptr lr 0,oe,.I steps,.I polls,.I b,.I (Ou qJ),.ptr lb 0,.ed,.I 0] h:=by
 have nv:=g.nv;have ad:=qG _ B.ee (Ju g E) λv hv=>by
  let⟨k,hk⟩:=mz.1 hv
  exact g.uP v b k ⟨B,E,hk⟩
 obtain ⟨J,S⟩:∃J,J=λk l h'=>∃i EK,l=[.ptr lh 0,yz,.I fm,.I fuel,.ptr lu 0,.ptr lr 0,oe,.I steps,.I polls,.I b,.I (Ou qJ),.ptr lb 0,EK,.I (i:Nat)]/\i+k=B.ee.length/\Sn F h F h'/\
   (∀m v,m<i->B.ee[m]? =some v->gN u v=true)/\ej F h' (ft (eI .u64) wR ((B.ee.take i).map (Ws u locals qJ B ee)) EK::eD lb 79 (pR B bv bn bp)::Rn ee oe lr lu u vv vb vs lh Th rm pO hp ds):=⟨_,rfl⟩
 refine Em J (λk x1 x2 x3 x4 x5 ae ag ah gL jd ug ai EK aj G hi=>?_) (k:=B.ee.length) ?_;rotate_left
 ·rw[S];exact⟨0,.ed,rfl,by omega,Sn.refl _ _,λm v h=>by omega,H0.add .nil λ_ h=>h⟩
 rw [S]at hi;obtain⟨i,_,⟨⟩,hk,s1,hh,y⟩:=hi;unfold vW;have H:=iv.since s1;have u1:=hu.since s1;have fin:∀{I},Sn F G F I->(∀v,B.ee[i]? =some v->gN u v=false)->ej F I (ft (eI .u64) wR ((B.ee.take i).map (Ws u locals qJ B ee)) EK::eD lb 79 (pR B bv bn bp)::Rn ee oe lr lu u vv vb vs lh Th rm pO hp ds)->jt Q fu [.ptr lh 0,yz,.I fm,.I fuel,.ptr lu 0,.ptr lr 0,oe,.I steps,.I polls,.I b,.ptr lb 0,EK,.I i] I:=λ{I} T L U=>by
  have e:=(ze5 B.ee i (by omega) hh L).1;have K2:=K I EK (s1.trans T) (by rw[e];exact U);rw[e,TV,wBU (by omega)]at K2;exact K2
 have V:ez (.ptr lb (0+0)) G=some bv:=y.ld 1 rfl rfl;have c2:ez (.ptr lu (0+2)) G=some vv:=y.ld 4 rfl rfl;refine oF V (ec H.len ?_);by_cases hi:i<B.ee.length;rotate_left
 ·exact iA (fin (Sn.refl _ _) (λv hv=>by rw[Z2 (by omega)]at hv;cases hv) y)
 refine gy ?_;have hv:=hZ hi;have W:=Ho hi;generalize B.ee[i]=v at*;have M:At u v b i:=⟨B,E,hv⟩
 have X:=g.uP v b i M;have C:=hZ X;generalize u.ee[v]=x at*
 let⟨l1,o1,hF1,p1,p2⟩:=H.nat hv .i64
 let⟨l2,o2,xa,hF2,q1,q2,xr,_⟩:=u1.val C
 refine oF c2 (oF V (ec p1 (ec p2 (ec q1 (ec q2 ?_)))));rw[gI]
 let⟨U,T⟩:=y.xC 81 [.I 0,.I 0,.I 0,.I 0,.ed,.I 0]
 refine⟨⟨fh _ _,bq⟩,Jh q2 (fi _ (y.fl _ hF2)),gz p2 (fi _ (y.fl _ hF1)),gz V (fi _ (Pc.Aq y 1 rfl)),gz c2 (fi _ (Pc.Aq y 4 rfl)),?_⟩
 let⟨h3,e3,n3,d,s3⟩:=U.Tw 0 (n:=6) (ws:=yM x xa) rfl rfl rfl (by simp only[yM,fe,xr.one];rfl)
 rw[e3,eh];generalize G.next=lc at*;refine⟨n3,oF (d.ld 0 rfl rfl) (fx ?_)⟩;have a:=T.trans s3;have o:=zgR (locals:=locals) (qJ:=qJ) (B:=B) (ee:=ee) C
 have r:∀{z w},Sn F G F z->gN u v=true->ml .u64 w->w=Ws u locals qJ B ee v->ej F z (eD lc 81 (yM x xa)::ft (eI .u64) wR ((B.ee.take i).map (Ws u locals qJ B ee)) EK::eD lb 79 (pR B bv bn bp)::Rn ee oe lr lu u vv vb vs lh Th rm pO hp ds)->
   jk Q fu (Pp J k) [.ptr lh 0,yz,.I fm,.I fuel,.ptr lu 0,.ptr lr 0,oe,.I steps,.I polls,.I b,.I (Ou qJ),.ptr lb 0,EK,.I i,.int .u64 w] z:=λ{z w} s4 c hw he H4=>by
  refine Db ?_;unfold vj;rw[vg,fK]
  let⟨setv5,h5,e5,_,H5,s5⟩:=H4.pT 1 rfl (iU:=8) (MB:=63) (ro:=false) ⟨rfl,hw⟩ (by decide) (by decide) (by simp;omega)
  rw[show fg 63 1 8 EK (.slice z.next 0 1) (z.new (.cells 63 1 true false [.int .u64 w]))=_ from e5,eh];refine fG ⟨k-1,by omega,?_⟩;rw[S];refine⟨i+1,setv5,rfl,by omega,(s1.trans s4).trans s5,λm v' D f=>?_,?_⟩
  ·by_cases e:m=i
   ·subst e;rw[hv]at f;cases f;exact c
   ·exact hh m v' (by omega) f
  ·rw[W,SL,List.map_singleton,<-he];exact H5.tail
 have A:gN u v=iV x.op:=by unfold gN;simp[C]
 by_cases N:x.op=1
 ·let ⟨n0,ak,_⟩:=g.param v x C N
  have c:gN u v=true:=by rw[A,N];rfl
  rw[if_pos N]at o
  let⟨n,L⟩:=wBg n0
  rw[L]at o;have o:Ws u locals qJ B ee v=locals.getD n 0:=o;refine io (oF (by rw[d.ld 0 rfl rfl,L]) (ec (t.since (s1.trans a)).len (Y7 ?_)));by_cases cl:n<locals.length
  ·have O:=hZ cl
   let⟨l5,o5,_,r1,r2,r3⟩:=(t.since (s1.trans a)).word O .i64
   refine io (oF (by rw[d.ld 0 rfl rfl,L]) (ec r1 (ec r2 (r a c r3 ?_ d))));rw[o,IY,O];rfl
  ·refine kw (r a c tC ?_ d);rw[o,IY,Z2 (by omega)];rfl
 refine kw (oF (d.ld 0 rfl rfl) (fx ?_));rw[if_neg N]at o;by_cases s:x.op=21;rotate_left
 ·exact kw (fin a (λv' f=>by rw[hv]at f;cases f;rw[A];unfold iV;rw[wBe,Ym,Ym];exact⟨N,s⟩) d.tail)
 have c:gN u v=true:=by rw[A,s];rfl
 refine io ?_
 let⟨_,hal⟩:=g.XS v b i x B M C s E
 have al:=Lf g E;have P:=ip.since (s1.trans a);have Y:=xr.since a;refine DT (λZ l h'=>∃j,l=[.ptr lh 0,yz,.I fm,.I fuel,.ptr lu 0,.ptr lr 0,oe,.I steps,.I polls,.I b,.I (Ou qJ),.ptr lb 0,EK,.I i,.ptr lc 0,.int .u64 0,.I (j:Nat)]/\j+Z=B.fk.length/\h' = h3/\∀m,m<j->∀p,B.fk[m]? =some p->(p:Int)≠Ou qJ) ?_ (k:=B.fk.length) ⟨0,rfl,by omega,rfl,λm h=>by omega⟩;rintro Z _ _ _ _ _ _ _ _ _ _ _ _ _ _ _ _ _ z ⟨j,⟨⟩,am,rfl,nw⟩;unfold vY;refine oF (d.ld 2 rfl rfl) (ec P.len ?_);by_cases hj:j<B.fk.length;rotate_left
 ·refine iA (r a c tC ?_ d);rw[o]
  cases qJ with
  |none=>rfl
  | some p=>
    have:B.fk.findIdx? (·== p)=none:=by
      rw[List.findIdx?_eq_none_iff];intro q hq
      let⟨m,D⟩:=mz.1 hq
      have:=nw m (by have:=(ke.1 D).1;omega) q D;rw[Ym];exact λe=>this (by rw[e];rfl)
    simp[zdy,this]
 refine gy ?_;have hp:=hZ hj;generalize aa:B.fk[j]=p at hp
 let⟨l5,o5,_,r1,r2⟩:=P.nat hp .i64
 refine oF (d.ld 2 rfl rfl) (ec r1 (ec r2 (fx ?_)));by_cases cp:(p:Int)=Ou qJ;rotate_left
 ·refine fH cp (fG ⟨Z-1,by omega,j+1,rfl,by omega,rfl,λm D q hq=>?_⟩);by_cases e:m=j
  ·subst e;rw[hp]at hq;cases hq;exact cp
  ·exact nw m (by omega) q hq
 have ha:=hZ (l:=x.args) (i:=j) (by omega);have ab:=AL (l:=x.args) (n:=j) (by omega);have ac:x.args[j]<ee.length:=by
  rw[R];exact zj (g.use v x C _ (by unfold jn;rw[if_pos s];exact ab))
 let⟨l6,o6,_,t1,t2⟩:=Y.nat ha .i64
 let⟨l7,o7,y1,y2,y3,_⟩:=d.MJ 3 rfl (Mo ac) .i64
 refine fO cp (oF (d.ld 0 rfl rfl) (ec t1 (ec t2 (ec y1 (ec y2 (r a c y3 ?_ d))))));rw[o]
 cases qJ with
 |none=>exact absurd cp (by simp only[Ou];omega)
 | some p'=>
   have:B.fk.findIdx? (·== p')=some j:=by
     rw[List.findIdx?_eq_some_iff_getElem];refine⟨hj,?_,λm D=>?_⟩
     ·rw[aa,Ey];exact Int.ofNat.inj cp
     ·have:=nw m D _ (hZ (by omega))
      simp[Bool.not_eq_true,Ym];exact λe=>this (by rw[e];rfl)
   simp only[zdy,this];rw[IY,ha];rfl
theorem UL(val:List Int)(l:List (Nat×Int))(p:Nat×Int):DJ val (l++[p])=(DJ val l).set p.1 p.2:=by
 unfold DJ;rw[List.foldl_append];rfl
theorem zas{u:U}{n:Nat}{x:Vl}(h:x.op≠19/\x.op≠20/\x.op≠22/\x.op≠23):uQ u fm n x s = .inr {s with val:=s.val.set n (ti x s.of s.heap),steps:=s.steps+1}:=by
 unfold uQ;rw[if_neg h.1,if_neg h.2.1,if_neg h.2.2.1,if_neg h.2.2.2]
theorem QK{u:U}{l:List Nat}{x:Vl}(a:¬fuel<=s.steps)(b:u.ee[v]? =some x):p7 u fm fuel (v::l) s=match uQ u fm v x s with
  | .inl e=> .inl e
  | .inr s=>p7 u fm fuel l s:=by
 conv=>lhs;unfold p7
 simp[b,if_neg a];cases uQ u fm v x s <;> rfl
theorem X5{u:U}{l:List Nat} {s':Rs}{x:Vl}(a:¬fuel<=s.steps)(b:u.ee[v]? =some x)(h:uQ u fm v x s = .inr s'):p7 u fm fuel (v::l) s=p7 u fm fuel l s':=by
 rw[QK a b,h]
theorem ZQ{u:U}{l:List Nat}{e:Ex}{x:Vl}(a:¬fuel<=s.steps)(b:u.ee[v]? =some x)(h:uQ u fm v x s = .inl e):p7 u fm fuel (v::l) s = .inl e:=by
 rw[QK a b,h]
theorem VO{u:U}{l:List Nat}(a:fuel<=s.steps):p7 u fm fuel (v::l) s = .inl .AE:=by
 rw[p7,if_pos a]
theorem SU{u:U}{st:Nat}{iU:Int}{fs:List Fm}(a:u.eE[st]? =some fs):zK u s st iU = .left s.steps (fs.map (Vt s.val)) s.heap st iU:=by
 unfold zK;rw[a];rfl
variable{EK:V}
theorem X9{ws:List V}(c:ej F h (eD lb 79 (pR B bv bn bp)::Rn ee oe lr lu u vv vb vs lh Th rm pO hp ds))(hl:ws.length=5)(a:gi ws=true)(K:∀h',Sn F h F h'->ej F h' (eD lh Th [rm,pO]::ft (eI .u64) wR hp pO::ds)->Q (.agg ws) h') :
  eJ (gj 5 (.ptr lr 0) (.agg ws) h) λ_ a=>oP (fZ 5 (.ptr lr 0) a) λr=>Q r a:=by
 let⟨d,e2,_,b,e⟩:=c.Tw 2 rfl hl rfl a
 rw[e2,eh];simp[ M8]at b;exact ec (b.tj 2 rfl hl) (K d e b.tail.tail.tail.tail)
theorem zhi(g:Good u)(p:ej F h (ft (eI .u64) wR ((B.ee.takeWhile (gN u)).map (Ws u locals qJ B ee)) EK::eD lb 79 (pR B bv bn bp)::Rn ee oe lr lu u vv vb vs lh Th rm pO hp ds))(q:ee.length=u.ee.length)(e:u.blocks[b]? =some B)(r:hD eN F h B.ee bv)(hs:steps<100000000)
  (K:∀h',Sn F h F h'->ej F h' (eD lb 79 (pR B bv bn bp)::Rn (DJ ee ((B.ee.takeWhile (gN u)).map λv=>(v,Ws u locals qJ B ee v))) oe lr lu u vv vb vs lh Th rm pO hp ds)->
   me Q fu [.ptr lh 0,yz,.I fm,.I fuel,.ptr lu 0,.ptr lr 0,oe,.I ((steps+(B.ee.takeWhile (gN u)).length:Nat):Int),.I polls,.I b,.ptr lb 0,.I ((B.ee.takeWhile (gN u)).length:Nat)] h') :
  jt Q fu [.ptr lh 0,yz,.I fm,.I fuel,.ptr lu 0,.ptr lr 0,oe,.I steps,.I polls,.I b,.ptr lb 0,EK,.I ((B.ee.takeWhile (gN u)).length:Nat)] h:=by
 have nv:=g.nv;have s:=qG _ B.ee (Ju g e) λv hv=>by
  let⟨k,n⟩:=mz.1 hv
  exact g.uP v b k ⟨B,e,n⟩
 have a:B.ee.takeWhile (gN u)++B.ee.dropWhile (gN u)=B.ee:=wBa;have f:∀j v,(B.ee.takeWhile (gN u))[j]? =some v->B.ee[j]? =some v:=λj v hv=>by
  rw[<-a,UF (ke.1 hv).1];exact hv
 have NP:(B.ee.takeWhile (gN u)).length<=B.ee.length:=by
  have:=congrArg List.length a;rw[qu]at this;omega
 generalize B.ee.takeWhile (gN u)=hs at*;refine DV ?_;unfold wx
 obtain ⟨J,i⟩:∃J,J=λk l h'=>∃j,l=[.ptr lh 0,yz,.I fm,.I fuel,.ptr lu 0,.ptr lr 0,oe,.I ((steps+j:Nat):Int),.I polls,.I b,.ptr lb 0,EK,.I hs.length,.I (j:Nat)]/\j+k=hs.length/\Sn F h F h'/\
   ej F h' (ft (eI .u64) wR (hs.map (Ws u locals qJ B ee)) EK::eD lb 79 (pR B bv bn bp)::Rn (DJ ee ((hs.take j).map λv=>(v,Ws u locals qJ B ee v))) oe lr lu u vv vb vs lh Th rm pO hp ds):=⟨_,rfl⟩
 refine Ek J (λk O P R x4 S t w x gL jd y z A C D hi=>?_) (k:=hs.length) ?_;rotate_left
 ·rw[i];exact⟨0,rfl,by omega,Sn.refl _ _,p⟩
 rw[i]at hi;obtain⟨j,⟨⟩,n,s1,c⟩:=hi;unfold wy;by_cases hj:j<hs.length;rotate_left
 ·refine iA ?_;obtain rfl:j=hs.length:=by omega
  rw[PG]at c;exact K D s1 c.tail
 refine gy ?_;have hv:=hZ hj;have m:=Ho hj;generalize hs[j]=v at*;have d:=f j v hv;have E:=g.uP v b j ⟨B,e,d⟩;have G:(hs.map (Ws u locals qJ B ee))[j]? =some (Ws u locals qJ B ee v):=by rw[wBH,hv];rfl
 let⟨T,U,_,p1,p2⟩:=(r.since s1).nat d .i64
 let⟨V,o2,H,I,L,_⟩:=c.MJ 0 rfl G .i64
 let⟨W,X,Y,r1,r2,M,o,N⟩:=c.M7 2 rfl (k:=v) (by rw[La];omega) rfl rfl ⟨rfl,L⟩
 refine oF (c.ld 1 rfl rfl) (ec p1 (ec p2 (ec H (ec I (ec r1 ?_)))));rw[r2,eh];simp only[ M8]at o;refine⟨M,fG (fG ⟨k-1,by omega,?_⟩)⟩;rw[i];refine⟨j+1,rfl,by omega,s1.trans N,?_⟩;rw[m,SL,List.map_singleton,UL];exact o
def zfE(fr:List Fw):Prop:=fr.length<=1000/\∀f∈fr,f.locals.length<=1000/\f.stack.length<=1000
theorem YU(g:Good u){st:Nat}{fs:List Fm}(a:u.eE[st]? =some fs):zfE (fs.map (Vt ee)):=by
 let⟨_,e,b⟩:=g.st st fs a
 refine⟨by rw[RC];omega,λf c=>?_⟩;obtain⟨x,d,rfl⟩:=V7.1 c
 let⟨h,i,_⟩:=b x d
 simp[Vt,RC];omega
def ExR(F:Nat->Prop)(h:Hp)(e:Ex)(hp:List Int)(a b c d:Int)(w:V):Prop:=(e = .AE/\a=0/\w = .ed)\/∃n fr st iU,e = .left n fr hp st iU/\a=1/\b=(st:Nat)/\c=iU/\d=(n:Int)/\hD eFw F h fr w/\zfE fr
