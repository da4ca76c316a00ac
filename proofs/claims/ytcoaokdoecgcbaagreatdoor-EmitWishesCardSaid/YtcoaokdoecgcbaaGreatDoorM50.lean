/- Parts. -/
import Derived.Test.YtcoaokdoecgcbaaGreatDoorM42
import Derived.Test.YtcoaokdoecgcbaaGreatDoorM47
set_option maxHeartbeats 4000000
namespace Go.Proofs.YtcoaokdoecgcbaaGreatDoor.Hx
open Un Dm
variable{fk:Int}{v:Nat}{s:Rs}{fuel:Nat}
theorem iV(n:Int):jo .u64 n=qQ n:=by
 rw[pD];simp only[IntKind.wrap,IntKind.signed,IntKind.bits,Bool.false_and,wBN,if_false,qQ];rfl
theorem xV(n:Int):mR .u64 (qQ n):=by simp only[mR,qQ];omega
theorem HO{n:Int}(h:mR .u64 n):qQ n=n:=by simp only[mR]at h;unfold qQ;omega
theorem zag{n:Int}(h:mR .u64 n):jo .i64 n=Gz n:=by
 rw[pD];simp only[mR]at h;have e:n % 18446744073709551616=n:=by omega
 simp only[IntKind.wrap,IntKind.signed,IntKind.bits,Bool.true_and,xX,Nat.reduceSub,Int.reducePow,ge_iff_le,e,Gz];by_cases c:n<9223372036854775808
 ·rw[if_neg (by omega),if_pos c]
 ·rw[if_pos (by omega),if_neg c]
theorem zdH{c:Prop} [Decidable c] {x y:Int}(a:mR .u64 x)(b:mR .u64 y):mR .u64 (if c then x else y):=by
 by_cases h:c
 ·rw[if_pos h];exact a
 ·rw[if_neg h];exact b
theorem ti:mR .u64 0:=⟨Int.le_refl _,by decide⟩
theorem za2(b:Bool):mR .u64 (LH b):=by cases b <;> simp[mR,LH]
theorem Sc(op:Nat)(a b:Int):mR .u64 (Mf op a b):=by
 unfold Mf
 repeat' first|exact xV _|exact za2 _|exact ti|refine zdH ?_ ?_
theorem zb7{t:Nat}{k:IntKind}{a b:Int}{K:V->Prop}(H:K (.bool (decide (a=b)))):oP (eh .eql t (.int k a) (.int k b)) K:=fK H
section
variable{F F':Nat->Prop}{h h':Hp}{cs ds:List Pc}{Q:fo}
theorem ej.zgJ{α:Type}{E:ue α}{ty:Nat}{xs:List α}{v:V}(H:ej F h cs)(i:Nat)(hi:cs[i]? =some (fu E ty xs v)){k n l o:Nat}{a:IntKind}(b:k<xs.length)(e:gQ n v (.int a (k:Nat))=some (.ptr l o)):l<h.next:=by
 rcases H.row i hi with⟨_,rfl⟩|⟨t,ws,rfl,c,_⟩
 ·simp_all
 grind[vG]
theorem U9{T:Nat}{ws:List V}{K:fo}(H:ej F h ds)(b:∀a,ej F a (fi h.next T ws::ds)->Sn F h F a->K (.ptr h.next 0) a):hV (some (O.cells T 1 true false ws,λl=>V.ptr l 0)) h K:=by
 rw[fH];exact b _ (H.Dy T _).1 (H.Dy T ws).2
theorem zc0{x:Vl}:(two x.op=true->x.op≠21->x.a∈jq x/\x.b∈jq x)/\(tZ x.op=true->x.op≠21->x.a∈jq x):=by
 constructor
 ·intro h c;unfold jq
  grind
 ·intro h c;unfold jq
  grind
theorem II{b:Bool}(H:Q (.int .u64 (LH b)) h):cP CS iL [.bool b] h Q:=by
 refine Gf ?_;cases b
 ·exact gf (fN (by simp) H)
 ·exact gf (fX rfl H)
theorem Lo{op:Nat}{a b:Int}(f:mR .u64 a)(g:mR .u64 b)(i:3<=op/\op<=14)(H:Q (.tuple [.int .u64 (Mf op a b),.bool true]) h):cP CS jJ [.I op,.int .u64 a,.int .u64 b] h Q:=by
 refine Ft ?_;refine ec (by rw[gB,zag f]) (ec (by rw[gB,zag g]) ?_);have e0:∀n:Nat,op=n->Mf op a b=Mf n a b:=λn h=>by rw[h]
 refine fD ?_;by_cases c:op=3
 ·rw[e0 _ c]at H;exact fX (by omega) (ec (by rw[iU,iV];rfl) H)
 refine fN (by omega) (fD ?_);by_cases c:op=4
 ·rw[e0 _ c]at H;exact fX (by omega) (ec (by rw[iI,iV];rfl) H)
 refine fN (by omega) (fD ?_);by_cases c:op=5
 ·rw[e0 _ c]at H;exact fX (by omega) (ec (by rw[Dk,iV];rfl) H)
 refine fN (by omega) (fD ?_);by_cases c:op=6
 ·rw [e0 _ c]at H;refine fX (by omega) (fD ?_);by_cases z:Gz b=0
  ·refine fX z ?_;rw[show Mf 6 a b=0 by simp[Mf,z]]at H;exact H
  refine fN z (fD ?_);by_cases z1:Gz b = -1
  ·refine fX z1 (ec (by rw[Xf,iV]) ?_);rw[show Mf 6 a b=qQ (0-a) by simp[Mf,z1]]at H;exact H
  ·refine fN z1 (ec (a:= .I (jo .i64 ((Gz a).tdiv (Gz b)))) ?_ (ec (by rw[gB]) ?_))
   ·have:∀y:Int,y≠0->eh .quo 2 (.I (Gz a)) (.I y)=some (.I (jo .i64 ((Gz a).tdiv y))):=λy d=>by
     cases y with
     | ofNat n=>cases n with
       |zero=>exact absurd rfl d
       |succ n=>rfl
     |negSucc n=>rfl
    exact this _ z
   ·rw [show Mf 6 a b=qQ ((Gz a).tdiv (Gz b)) by simp[Mf,z,z1]]at H;rw[iV,pD];have:qQ (IntKind.i64.wrap ((Gz a).tdiv (Gz b)))=qQ ((Gz a).tdiv (Gz b)):=by
     simp only[IntKind.wrap,IntKind.signed,IntKind.bits,Bool.true_and,xX,Nat.reduceSub,Int.reducePow,qQ];split <;> omega
    rw[this];exact H
 refine fN (by omega) (fD ?_);by_cases c:op=7
 ·rw [e0 _ c]at H;refine fX (by omega) (ec (hZ ..) (ec (a:= .bool (decide (Gz b=0\/Gz b = -1))) ?_ (gf ?_)))
  ·simp only[fe,hZ,jB];congr 2;rw[VC,Jz,Gi,Gi,xX]
  by_cases z:Gz b=0\/Gz b = -1
  ·refine fX (No z) ?_;rw[show Mf 7 a b=0 by simp[Mf,z]]at H;exact H
  ·refine fN (by rw[xX];exact z) (ec (a:= .I ((Gz a).tmod (Gz b))) ?_ (ec (by rw[gB,iV]) ?_))
   ·have:∀y:Int,y≠0->eh .rem 2 (.I (Gz a)) (.I y)=some (.I ((Gz a).tmod y)):=λy d=>by
     cases y with
     | ofNat n=>cases n with
       |zero=>exact absurd rfl d
       |succ n=>rfl
     |negSucc n=>rfl
    exact this _ λh=>z (.inl h)
   ·rw[show Mf 7 a b=qQ ((Gz a).tmod (Gz b)) by simp[Mf,z]]at H;exact H
 refine fN (by omega) (fD ?_);by_cases c:op=8
 ·rw[e0 _ c]at H;refine fX (by omega) (ec (by rw[Xf,iV]) ?_);rw[show Mf 8 a b=qQ (0-a) by simp[Mf]]at H;exact H
 refine fN (by omega) (fD ?_);by_cases c:op=9
 ·rw[e0 _ c]at H;exact fX (by omega) (zb7 (II H))
 refine fN (by omega) (fD ?_);by_cases c:op=10
 ·rw[e0 _ c]at H;exact fX (by omega) (zb7 (II H))
 refine fN (by omega) (fD ?_);by_cases c:op=11
 ·rw[e0 _ c]at H;refine fX (by omega) (ec (wj ..) ?_);rw[show(a != b)=decide (a≠b) by by_cases e:a=b <;> simp[e]];exact II H
 refine fN (by omega) (fD ?_);by_cases c:op=12
 ·rw[e0 _ c]at H;exact fX (by omega) (ec (gX ..) (II H))
 refine fN (by omega) (fD ?_);by_cases c:op=13
 ·rw[e0 _ c]at H;exact fX (by omega) (ec (Ls ..) (II H))
 refine fN (by omega) (fD ?_);obtain rfl:op=14:=by omega
 exact fX rfl (ec (gX ..) (II H))
abbrev DE:Nat:=63
variable{i j lh Th:Nat}{rm hv:V}{hp:List Int}
theorem ej.Nh{ty:Nat}{xs:List Int}{v:V}(H:ej F h cs)(i:Nat)(hi:cs[i]? =some (fu (eI .u64) ty xs v)){k:Nat}{x:Int}(d:xs[k]? =some x)(a:IntKind):∃l o,gQ 1 v (.int a (k:Nat))=some (.ptr l o)/\eD (.ptr l o) h=some (.int .u64 x)/\mR .u64 x/\l<h.next:=by
 obtain⟨b,rfl⟩:=j6.1 d;obtain⟨l,o,u,c,f,g⟩:=H.Yk i hi b a rfl;obtain⟨e,j⟩:=g;cases e;exact⟨l,o,c,f,j,H.zgJ i hi b c⟩
theorem iD.word{xs:List Int}{v:V}(a:iD (eI .u64) F h xs v){i:Nat}{x:Int}(c:xs[i]? =some x)(b:IntKind):∃l o,F l/\gQ 1 v (.int b (i:Nat))=some (.ptr l o)/\eD (.ptr l o) h=some (.int .u64 x)/\mR .u64 x:=by
 obtain⟨hi,rfl⟩:=j6.1 c;obtain⟨l,o,w,d,f,g,e,j⟩:=a.Yk hi b rfl;cases e;exact⟨l,o,d,f,g,j⟩
theorem zbs{a:Int}(h:hp.length<=a.toNat):mN hp a=0:=by
 unfold mN;rw[Dz,ZR h];rfl
theorem zbM{a:Int}{x:Int}(h:hp[a.toNat]? =some x):mN hp a=x:=by
 unfold mN;rw[Dz,h];rfl
theorem Iw(d:ej F h cs)(hi:cs[i]? =some (fi lh Th [rm,hv]))(f:cs[j]? =some (fu (eI .u64) DE hp hv))(hl:hp.length<1000000000){a:Int}(m:mR .u64 a)(H:mR .u64 (mN hp a)->Q (.int .u64 (mN hp a)) h) :
  cP CS gZ [.ptr lh 0,.int .u64 a] h Q:=by
 refine Br ?_;have e0:eD (.ptr lh (0+1)) h=some hv:=d.ld i hi rfl;have e:mR .u64 ((hp.length:Nat):Int):=by simp only[mR];omega
 have b:=m;simp only[mR]at b;refine oN e0 (ec (d.len j f) (ec (by rw[gB,iV,HO e]) (LG ?_)));by_cases c:((hp.length:Nat):Int)<=a
 ·refine fX c ?_;rw[zbs (by omega)]at H;exact H ti
 ·refine fN c (oN e0 ?_);obtain⟨k,rfl⟩:=wBj b.1;have g:=hN (l:=hp) (i:=k) (by omega);obtain⟨l,o,n,p,q,_⟩:=d.Nh j f g .u64;rw[zbM (a:=(k:Int)) (x:=hp[k]) g]at H;exact ec n (ec p (H q))
theorem XF(b:ej F h cs)(hi:cs[i]? =some (fi lh Th [rm,hv]))(c:cs[j]? =some (fu (eI .u64) DE hp hv))(hl:hp.length<1000000000){a:Int}(d:mR .u64 a)(H:mR .u64 (mN hp a / 4294967296)->Q (.I (mN hp a / 4294967296)) h) :
  cP CS lg [.ptr lh 0,.int .u64 a] h Q:=by
 refine BE ?_;refine Iw b hi c hl d λf=>?_;generalize mN hp a=w at*;simp only[mR]at f;have e:w.fdiv 4294967296=w / 4294967296:=Int.fdiv_eq_ediv_of_nonneg _ (by decide);refine ec (show eh .shr 63 (.int .u64 w) (.int .u64 32)=some (.int .u64 (w.fdiv 4294967296)) from rfl) ?_;rw[e];refine ec (by rw[gB,gK (by simp only[mR];omega)]) (H ?_);simp only[mR];omega
theorem Wm(c:ej F h cs)(hi:cs[i]? =some (fi lh Th [rm,hv]))(d:cs[j]? =some (fu (eI .u64) DE hp hv))(hl:hp.length<1000000000){a:Int}(f:mR .u64 a)(H:mR .u64 (mN hp a % 4294967296)->Q (.I (mN hp a % 4294967296)) h) :
  cP CS jW [.ptr lh 0,.int .u64 a] h Q:=by
 refine CR ?_;refine Iw c hi d hl f λb=>?_;generalize mN hp a=w at*;simp only[mR]at b;have e:w.tmod 4294967296=w % 4294967296:=wBR b.1;refine ec (show eh .rem 63 (.int .u64 w) (.int .u64 4294967296)=some (.int .u64 (w.tmod 4294967296)) from rfl) ?_;rw[e];refine ec (by rw[gB,gK (by simp only[mR];omega)]) (H ?_);simp only[mR];omega
theorem OG(d:ej F h cs)(hi:cs[i]? =some (fi lh Th [rm,hv]))(f:cs[j]? =some (fu (eI .u64) DE hp hv))(hl:hp.length<1000000000){a x:Int}(n:mR .u64 a)(p:mR .u64 x)(H:∀h' r,Sn F h F h'->ej F h' (cs.set j (fu (eI .u64) DE (Ea hp a x) hv))->Q (.bool r) h') :
  cP CS iH [.ptr lh 0,.int .u64 a,.int .u64 x] h Q:=by
 refine Cw ?_;have e0:eD (.ptr lh (0+1)) h=some hv:=d.ld i hi rfl;have g:mR .u64 ((hp.length:Nat):Int):=by simp only[mR];omega
 have b:=n;simp only[mR]at b;have same:cs.set j (fu (eI .u64) DE hp hv)=cs:=by
  obtain⟨w,m⟩:=j6.1 f;rw[<-m,List.set_getElem_self]
 refine ec (hZ ..) (ec (a:= .bool (decide (a=0\/((hp.length:Nat):Int)<=a))) ?_ (gf ?_))
 ·simp only[fe,eC,fx,e0,d.len j f,gB,iV,HO g,jt,jB];congr 2;rw[VC,Jz,Gi,xX,xX]
 by_cases c:a=0\/((hp.length:Nat):Int)<=a
 ·refine fX (No c) (H h false (Sn.refl _ _) ?_);have:Ea hp a x=hp:=by
   unfold Ea;by_cases z:a=0
   ·rw[if_pos z]
   ·rw[if_neg z,List.set_eq_of_length_le (by omega)]
  rw[this,same];exact d
 ·refine fN (by rw[xX];exact c) (oN e0 ?_);obtain⟨k,rfl⟩:=wBj b.1;obtain⟨l,o,m,q,s,_,t,v⟩:=d.Mb j f (k:=k) (y:=x) (u:= .int .u64 x) (by omega) rfl rfl ⟨rfl,p⟩;refine ec (show gQ 1 hv (.int .u64 (k:Nat))=_ from q) ?_;rw[s,ef];refine H m true v ?_;have:Ea hp (k:Int) x=hp.set k x:=by
   unfold Ea;rw[if_neg (λe=>c (.inl e))];rfl
  rw[this];exact t
theorem GZ{hp:List Int}{a x:Int}:(Ea hp a x).length=hp.length:=by
 unfold Ea;split
 ·rfl
 ·rw[YI]
abbrev zeB:Nat:=72
def eFw:ue Fw where
 sz:=4
 rel F h x cs:=∃a b,cs=[.I x.func,.I x.pc,a,b]/\iD (eI .u64) F h x.locals a/\iD (eI .u64) F h x.stack b
 len:=λ⟨_,_,h,_⟩=>by subst h;rfl
 one:=λ⟨_,_,h,c,d⟩=>by subst h;simp only[fh,c.one,d.one];rfl
 fm:=λe ⟨a,b,h,c,d⟩=>⟨a,b,h,c.fm e,d.fm e⟩
 mono:=λf ⟨a,b,h,c,d⟩=>⟨a,b,h,c.mono f,d.mono f⟩
def Hr(ee:List Int)(v:Nat):Int:=ee.getD v 0
def Vv(ee:List Int)(f:Fm):Fw:=⟨f.func,f.pc,f.locals.map (Hr ee),f.stack.map (Hr ee)⟩
theorem LD{ee:List Int}(h:v<ee.length):ee[v]? =some (Hr ee v):=by
 unfold Hr;rw[Dz,hN h];rfl
theorem yC(w:Int):iW 63 1 1 (.int .u64 0) [(0,.int .u64 w)]=some (.cells 63 1 true false [.int .u64 w],λl=> .slice l 0 1):=rfl
variable{u:U}{vv vb vs om:V}{ee:List Int}
theorem Pc.DJ(H:ej F h cs)(i:Nat){l ty:Nat}{ws:List V}(hi:cs[i]? =some (fi l ty ws)):l<h.next:=(H.ok i _ hi).2.1
theorem TI(g:Good u)(H0:ej F h cs)(hu:Ff F h u vv vb vs)(hj:cs[j]? =some (fu (eI .u64) DE ee om))(hl:ee.length=u.ee.length){st:Nat}{fs:List Fm}(z:u.ez[st]? =some fs){jh steps:Int}
  (H:∀F' h' w,Sn F h F' h'->ej F' h' cs->iD eFw F' h' (fs.map (Vv ee)) w->Q (.agg [.I 1,.I st,.I jh,w,.I steps]) h') :
  cP CS jF [.agg (uC u vv vb vs),om,.I st,.I jh,.I steps] h Q:=by
 refine Fa ?_;refine pz H0 hu.one λh1 H1 s1=>U9 H1 λh2 H2 s2=>?_;generalize h.next=lu at*;generalize h1.next=lr at*;refine ec (rfl) ?_;refine j5 H2 rfl rfl rfl λh3 H3 s3=>?_;generalize h2.next=lx at*;have ag:=(s1.trans s2).trans s3;have N:=IK g z
 obtain ⟨J,hJ⟩:∃J,J=λk l h'=>∃F' i w,l=[om,.I st,.ptr lu 0,.ptr lr 0,.ptr lx 0,.I (i:Nat)]/\i+k=fs.length/\Sn F h F' h'/\
   ej F' h' (fu eFw zeB ((fs.take i).map (Vv ee)) w::fi lx 66 [.I 1,.I st,.I jh,w,.I steps]::fi lr 66 [.I 0,.I 0,.I 0,.ed,.I 0]::fi lu 34 (uC u vv vb vs)::cs):=⟨_,rfl⟩
 refine BF J (λk O x2 x5 P R S h4 hi=>?_) (k:=fs.length) ?_;rotate_left
 ·rw[hJ];exact⟨F,0,.ed,rfl,by omega,ag,H3.add .nil λ_ h=>h⟩
 rw[hJ]at hi;obtain⟨G,i,w,⟨⟩,hk,s4,T⟩:=hi;unfold tL;have u4:=hu.since s4
 let⟨l1,o1,f,hF1,O,_,x3,xf⟩:=u4.st z
 have x3:=x3;refine oF (T.ld 3 rfl rfl) (ec O (oF x3 (ec xf.len ?_)));by_cases hi:i<fs.length;rotate_left
 ·refine iY ?_;obtain rfl:i=fs.length:=by omega
  rw[QQ]at T
  let⟨I,s5,r5⟩:=T.jG 0 rfl
  have o1:gj [V.I 1,.I st,.I jh,w,.I steps]=true:=by simp only[fh,r5.one];rfl
  refine ec (I.xk 1 rfl rfl) ?_
  let⟨h6,e6,_,H6,s6⟩:=I.Wh 2 (n:=5) rfl rfl rfl o1
  rw[e6,ef];refine ec (H6.xk 2 rfl rfl) ?_;exact H _ h6 w ((s4.trans s5).trans s6) H6.tail.tail.tail.tail (r5.since s6)
 refine gJ ?_;have hx:=hN hi;have ah:=JE hi;have A:=AQ hi;generalize fs[i]=x at*;have ai:∀v∈x.locals,v<ee.length:=λv hv=>by rw[hl];exact N v (Rb.2 ⟨x,A,Xy _ hv⟩)
 have aj:∀v∈x.stack,v<ee.length:=λv hv=>by rw[hl];exact N v (Rb.2 ⟨x,A,wBO _ hv⟩)
 let⟨_,_,hf⟩:=g.st st fs z
 let⟨hl40,hs60,_⟩:=hf x A
 let⟨l2,o2,xa,xb,_,y1,y2,ya,yb⟩:=xf.qO hx
 refine oF (T.ld 3 rfl rfl) (ec O (oF x3 (ec y1 (ec y2 ?_))));refine j5 T rfl rfl (by simp only[fmC,fh,ya.one,yb.one];rfl) λh5 I s5=>?_;generalize h4.next=K at*;refine oF (I.ld 0 rfl rfl) (oF (I.ld 0 rfl rfl) ?_);refine ec (rfl) ?_;refine j5 I rfl rfl rfl λh6 H6 s6=>?_;generalize h5.next=L at*;have U:=s5.trans s6;have jv:∀{a b c d e f g:Pc},(a::b::c::d::e::f::g::cs)[j+7]? =some (fu (eI .u64) DE ee om):=λ{_ _ _ _ _ _ _}=>by simpa using hj
 have ak:∀{a b c d e f g k:Pc},(a::b::c::d::e::f::g::k::cs)[j+8]? =some (fu (eI .u64) DE ee om):=λ{_ _ _ _ _ _ _ _}=>by simpa using hj
 obtain ⟨J1,B⟩:∃J1,J1=λk l h'=>∃n p,l=[om,.I st,.ptr lu 0,.ptr lr 0,.ptr lx 0,.I i,.ptr K 0,.ptr L 0,.I (n:Nat)]/\n+k=x.locals.length/\Sn G h6 G h'/\
   ej G h' (fu (eI .u64) DE ((x.locals.take n).map (Hr ee)) p::fi L 72 [.I x.func,.I x.pc,p,.ed]::fi K 85 (fmC x xa xb)::fu eFw zeB ((fs.take i).map (Vv ee)) w::fi lx 66 [.I 1,.I st,.I jh,w,.I steps]::fi lr 66 [.I 0,.I 0,.I 0,.ed,.I 0]::fi lu 34 (uC u vv vb vs)::cs):=⟨_,rfl⟩
 refine BC J1 (λk1 O x2 x5 P R S gI iQ ye W X=>?_) (k:=x.locals.length) ?_;rotate_left
 ·rw[B];exact⟨0,.ed,rfl,by omega,Sn.refl _ _,H6.add .nil λ_ h=>h⟩
 rw[B]at X;obtain⟨n,p,⟨⟩,az,s7,s⟩:=X;have Y:=(ya.since U).since s7;unfold tG;refine oF (s.ld 2 rfl rfl) (ec Y.len ?_);by_cases hn:n<x.locals.length
 ·refine gJ ?_;have hv:=hN hn;have q:=JE hn;have C:=ai _ (AQ hn);generalize x.locals[n]=v at*
  let⟨l3,o3,hF3,p1,p2⟩:=Y.nat hv .i64
  let⟨l4,o4,q1,Z,q3,q4⟩:=s.Nh (j+7) jv (LD C) .i64
  have c1:eD (.ptr L (0+2)) W=some p:=s.ld 1 rfl rfl;have c2:eD (.ptr K (0+2)) W=some xa:=s.ld 2 rfl rfl;refine oF c1 (oF c2 (ec p1 (ec p2 (ec q1 (ec Z ?_)))));rw[yC,gU];obtain⟨al,D,e8,n8,m,s8⟩:=s.tz 0 rfl (jh:=8) ⟨rfl,q3⟩ (by decide) (by decide) (by simp;omega);refine⟨⟨eQ _ _,bq⟩,gS Z (eE _ q4),gS p2 (eE _ (s.fl _ hF3)),gS c2 (eE _ (Pc.DJ s 2 rfl)),gS c1 (eE _ (Pc.DJ s 1 rfl)),?_⟩;rw[show fg 63 1 8 p (.slice W.next 0 1) (W.new (.cells 63 1 true false [.int .u64 (Hr ee v)]))=_ from e8,ef]
  let⟨h9,e9,n9,M,s9⟩:=m.st 1 (o:=0+2) rfl (by simp) (m.one 0 rfl)
  refine⟨n8,ec pf ?_⟩;rw[e9,ef];refine⟨n9,fT ⟨k1-1,by omega,?_⟩⟩;rw[B];exact⟨n+1,al,rfl,by omega,(s7.trans s8).trans s9,by rw[q,UB];exact M⟩
 refine iY ?_;obtain rfl:n=x.locals.length:=by omega
 rw[QQ]at s
 obtain ⟨J2,E⟩:∃J2,J2=λk l h'=>∃n sw,l=[om,.I st,.ptr lu 0,.ptr lr 0,.ptr lx 0,.I i,.ptr K 0,.ptr L 0,.I (n:Nat)]/\n+k=x.stack.length/\Sn G W G h'/\
   ej G h' (fu (eI .u64) DE ((x.stack.take n).map (Hr ee)) sw::fu (eI .u64) DE (x.locals.map (Hr ee)) p::fi L 72 [.I x.func,.I x.pc,p,sw]::fi K 85 (fmC x xa xb)::fu eFw zeB ((fs.take i).map (Vv ee)) w::fi lx 66 [.I 1,.I st,.I jh,w,.I steps]::fi lr 66 [.I 0,.I 0,.I 0,.ed,.I 0]::fi lu 34 (uC u vv vb vs)::cs):=⟨_,rfl⟩
 refine BB J2 (λk2 O x2 x5 P R S gI iQ ye D aa=>?_) (k:=x.stack.length) ?_;rotate_left
 ·rw[E];exact⟨0,.ed,rfl,by omega,Sn.refl _ _,s.add .nil λ_ h=>h⟩
 rw[E]at aa;obtain⟨n,sw,⟨⟩,aA,s8,m⟩:=aa;have ab:=(U.trans s7).trans s8;have ac:=yb.since ab;unfold tR;refine oF (m.ld 3 rfl rfl) (ec ac.len ?_);by_cases hn:n<x.stack.length
 ·refine gJ ?_;have hv:=hN hn;have q:=JE hn;have C:=aj _ (AQ hn);generalize x.stack[n]=v at*
  let⟨l3,o3,hF3,p1,p2⟩:=ac.nat hv .i64
  let⟨l4,o4,q1,Z,q3,q4⟩:=m.Nh (j+8) ak (LD C) .i64
  have c1:eD (.ptr L (0+3)) D=some sw:=m.ld 2 rfl rfl;have c2:eD (.ptr K (0+3)) D=some xb:=m.ld 3 rfl rfl;refine oF c1 (oF c2 (ec p1 (ec p2 (ec q1 (ec Z ?_)))));rw[yC,gU];obtain⟨am,h9,e9,n9,M,s9⟩:=m.tz 0 rfl (jh:=8) ⟨rfl,q3⟩ (by decide) (by decide) (by simp;omega);refine⟨⟨eQ _ _,bq⟩,gS Z (eE _ q4),gS p2 (eE _ (m.fl _ hF3)),gS c2 (eE _ (Pc.DJ m 3 rfl)),gS c1 (eE _ (Pc.DJ m 2 rfl)),?_⟩;rw[show fg 63 1 8 sw (.slice D.next 0 1) (D.new (.cells 63 1 true false [.int .u64 (Hr ee v)]))=_ from e9,ef]
  let⟨aB,an,ao,r,t⟩:=M.st 2 (o:=0+3) rfl (by simp) (M.one 0 rfl)
  refine⟨n9,ec pf ?_⟩;rw[an,ef];refine⟨ao,fT ⟨k2-1,by omega,?_⟩⟩;rw[E];exact⟨n+1,am,rfl,by omega,(s8.trans s9).trans t,by rw[q,UB];exact r⟩
 refine iY ?_;obtain rfl:n=x.stack.length:=by omega
 rw[QQ]at m
 let⟨M,s9,r9⟩:=m.jG 0 rfl
 let⟨r,t,ad⟩:=M.jG 1 rfl
 have r9:=r9.since t;have o4:gj [V.I x.func,.I x.pc,p,sw]=true:=by simp only[fh,r9.one,ad.one];rfl
 refine oF (r.ld 5 rfl rfl) (ec (r.xk 2 rfl rfl) ?_);rw[show iW 72 4 1 (.agg [.I 0,.I 0,.ed,.ed]) [(0,.agg [.I x.func,.I x.pc,p,sw])]=_ from Fk rfl rfl o4,fH];obtain⟨aq,aC,ar,_,ae,au⟩:=r.tz 4 rfl (jh:=64) (y:=Vv ee x) ⟨p,sw,rfl,ad,r9⟩ (by decide) (by decide) (by simp;omega);rw[show fg 72 4 64 w (.slice D.next 0 1) (D.new (.cells 72 4 true false [.I x.func,.I x.pc,p,sw]))=_ from ar,ef]
 let⟨aD,aw,_,ax,ay⟩:=ae.st 5 (o:=0+3) rfl (by simp) (ae.one 4 rfl)
 refine ec pf ?_;rw[aw,ef];refine fT ⟨k-1,by omega,?_⟩;rw[hJ];exact⟨_,i+1,aq,rfl,by omega,((((s4.trans ab).trans s9).trans t).trans au).trans ay,by rw[ah,UB];exact ax.tail.tail.tail.tail⟩
def Wd(u:U)(locals:List Int)(fk:Int)(fuel Jn b:Nat)(B:Bk):Ex ⊕ Rs->Ex
 | .inl e=>e
 | .inr s=>if fuel<=s.steps then .z9 else if B.fin=3 then zt u {s with steps:=s.steps+1} B.state (-1) else match FV B s with
   |none=> .stuck
   |some t=>runM u locals fk fuel Jn (some b) t {s with steps:=s.steps+1}
theorem zcV{u:U}{locals:List Int}{Jn b:Nat}{qO:Option Nat}{B:Bk}(a:u.blocks[b]? =some B) :
  runM u locals fk fuel (Jn+1) qO b s=Wd u locals fk fuel Jn b B (p9 u fk fuel (B.ee.dropWhile (gM u)) (lW u locals qO B s)):=by
 unfold runM;simp[a];cases p9 u fk fuel (B.ee.dropWhile (gM u)) (lW u locals qO B s) <;> rfl
theorem zd9{p:Nat->Bool}:∀(l:List Nat) i,i<=l.length->(∀m v,m<i->l[m]? =some v->p v=true)->(∀v,l[i]? =some v->p v=false)->l.takeWhile p=l.take i/\l.dropWhile p=l.drop i
 |[],i,h,_,_=>by simp
 | a::l,0,_,_,h=>by
   have:=h a rfl
   simp[this]
 | a::l,i+1,hl,b,d=>by
   have c:=b 0 a (by omega) rfl
   let⟨e1,e2⟩:=zd9 l i (by simpa using hl) (λm v e hv=>b (m+1) v (by omega) (by simpa using hv)) λv hv=>d v (by simpa using hv)
   rw[List.takeWhile_cons,List.dropWhile_cons,if_pos c,if_pos c,e1,e2];exact⟨rfl,rfl⟩
def Nm:Option Nat->Int
 |none=>-1
 |some p=>(p:Int)
variable{zi qU bv bn bp:V}{locals:List Int}{lu lr lb:Nat}{fE:LP}{fk:Int}{fuel steps polls b:Nat}{qO:Option Nat}{B:Bk}
abbrev Rn(ee:List Int) (om:V) (lr lu:Nat) (u:U) (vv vb vs:V) (lh Th:Nat) (rm qU:V) (hp:List Int) (ds:List Pc):List Pc:=
 fu (eI .u64) DE ee om::fi lr 66 [.I 0,.I 0,.I 0,.ed,.I 0]::fi lu 34 (uC u vv vb vs)::fi lh Th [rm,qU]::fu (eI .u64) DE hp qU::ds
abbrev Ws(u:U)(locals:List Int)(qO:Option Nat)(B:Bk)(ee:List Int)(v:Nat):Int:=KG u locals qO B (Hr ee) v
def zcu(qO:Option Nat)(B:Bk)(x:Vl)(ee:List Int):Int:=match qO with
 | some p=>match B.fj.findIdx? (·== p)with
   |some j=>Hr ee (x.args.getD j 0)
   |none=>0
 |none=>0
theorem zgo{x:Vl}(a:u.ee[v]? =some x):Ws u locals qO B ee v=if x.op=1 then locals.getD x.n.toNat 0 else zcu qO B x ee:=by
 show KG u locals qO B (Hr ee) v=_;unfold KG zcu;simp[a];cases qO <;> rfl
theorem zga(g:Good u)(H0:ej F h (fi lb 79 (pY B bv bn bp)::Rn ee om lr lu u vv vb vs lh Th rm qU hp ds))(hu:Ff F h u vv vb vs)(t:iD (eI .u64) F h locals zi)(R:ee.length=u.ee.length)(E:u.blocks[b]? =some B)(iv:iD eN F h B.ee bv)(ip:iD eN F h B.fj bp)(ll:locals.length<1000000000)
  (K:∀h' DG,Sn F h F h'->ej F h' (fu (eI .u64) DE ((B.ee.takeWhile (gM u)).map (Ws u locals qO B ee)) DG::fi lb 79 (pY B bv bn bp)::Rn ee om lr lu u vv vb vs lh Th rm qU hp ds)->
   jw Q fE [.ptr lh 0,zi,.I fk,.I fuel,.ptr lu 0,.ptr lr 0,om,.I steps,.I polls,.I b,.ptr lb 0,DG,.I ((B.ee.takeWhile (gM u)).length:Nat)] h') :
  pA Q fE [.ptr lh 0,zi,.I fk,.I fuel,.ptr lu 0,.ptr lr 0,om,.I steps,.I polls,.I b,.I (Nm qO),.ptr lb 0,.ed,.I 0] h:=by
 have nv:=g.nv;have ad:=qH _ B.ee (Ir g E) λv hv=>by
  let⟨k,hk⟩:=mG.1 hv
  exact g.uz v b k ⟨B,E,hk⟩
 obtain ⟨J,S⟩:∃J,J=λk l h'=>∃i DG,l=[.ptr lh 0,zi,.I fk,.I fuel,.ptr lu 0,.ptr lr 0,om,.I steps,.I polls,.I b,.I (Nm qO),.ptr lb 0,DG,.I (i:Nat)]/\i+k=B.ee.length/\Sn F h F h'/\
   (∀m v,m<i->B.ee[m]? =some v->gM u v=true)/\ej F h' (fu (eI .u64) DE ((B.ee.take i).map (Ws u locals qO B ee)) DG::fi lb 79 (pY B bv bn bp)::Rn ee om lr lu u vv vb vs lh Th rm qU hp ds):=⟨_,rfl⟩
 refine DZ J (λk x1 x2 x3 x4 x5 ae ag ah gI iQ ye ai DG aj G hi=>?_) (k:=B.ee.length) ?_;rotate_left
 ·rw[S];exact⟨0,.ed,rfl,by omega,Sn.refl _ _,λm v h=>by omega,H0.add .nil λ_ h=>h⟩
 rw [S]at hi;obtain⟨i,_,⟨⟩,hk,s1,hh,y⟩:=hi;unfold vz;have H:=iv.since s1;have u1:=hu.since s1;have fin:∀{I},Sn F G F I->(∀v,B.ee[i]? =some v->gM u v=false)->ej F I (fu (eI .u64) DE ((B.ee.take i).map (Ws u locals qO B ee)) DG::fi lb 79 (pY B bv bn bp)::Rn ee om lr lu u vv vb vs lh Th rm qU hp ds)->jw Q fE [.ptr lh 0,zi,.I fk,.I fuel,.ptr lu 0,.ptr lr 0,om,.I steps,.I polls,.I b,.ptr lb 0,DG,.I i] I:=λ{I} T L U=>by
  have e:=(zd9 B.ee i (by omega) hh L).1;have K2:=K I DG (s1.trans T) (by rw[e];exact U);rw[e,Sr,wBV (by omega)]at K2;exact K2
 have V:eD (.ptr lb (0+0)) G=some bv:=y.ld 1 rfl rfl;have c2:eD (.ptr lu (0+2)) G=some vv:=y.ld 4 rfl rfl;refine oF V (ec H.len ?_);by_cases hi:i<B.ee.length;rotate_left
 ·exact iY (fin (Sn.refl _ _) (λv hv=>by rw[ZR (by omega)]at hv;cases hv) y)
 refine gJ ?_;have hv:=hN hi;have W:=JE hi;generalize B.ee[i]=v at*;have M:At u v b i:=⟨B,E,hv⟩
 have X:=g.uz v b i M;have C:=hN X;generalize u.ee[v]=x at*
 let⟨l1,o1,hF1,p1,p2⟩:=H.nat hv .i64
 let⟨l2,o2,xa,hF2,q1,q2,xr,_⟩:=u1.val C
 refine oF c2 (oF V (ec p1 (ec p2 (ec q1 (ec q2 ?_)))));rw[gU]
 let⟨U,T⟩:=y.Dy 81 [.I 0,.I 0,.I 0,.I 0,.ed,.I 0]
 refine⟨⟨eQ _ _,bq⟩,MY q2 (eE _ (y.fl _ hF2)),gS p2 (eE _ (y.fl _ hF1)),gS V (eE _ (Pc.DJ y 1 rfl)),gS c2 (eE _ (Pc.DJ y 4 rfl)),?_⟩
 let⟨h3,e3,n3,d,s3⟩:=U.Wh 0 (n:=6) (ws:=ym x xa) rfl rfl rfl (by simp only[ym,fh,xr.one];rfl)
 rw[e3,ef];generalize G.next=lc at*;refine⟨n3,oF (d.ld 0 rfl rfl) (fD ?_)⟩;have a:=T.trans s3;have o:=zgo (locals:=locals) (qO:=qO) (B:=B) (ee:=ee) C
 have r:∀{z w},Sn F G F z->gM u v=true->mR .u64 w->w=Ws u locals qO B ee v->ej F z (fi lc 81 (ym x xa)::fu (eI .u64) DE ((B.ee.take i).map (Ws u locals qO B ee)) DG::fi lb 79 (pY B bv bn bp)::Rn ee om lr lu u vv vb vs lh Th rm qU hp ds)->
   jk Q fE (NG J k) [.ptr lh 0,zi,.I fk,.I fuel,.ptr lu 0,.ptr lr 0,om,.I steps,.I polls,.I b,.I (Nm qO),.ptr lb 0,DG,.I i,.int .u64 w] z:=λ{z w} s4 c hw he H4=>by
  refine B7 ?_;unfold ur;rw[yC,fH]
  let⟨setv5,h5,e5,_,H5,s5⟩:=H4.tz 1 rfl (jh:=8) (NM:=63) (ro:=false) ⟨rfl,hw⟩ (by decide) (by decide) (by simp;omega)
  rw[show fg 63 1 8 DG (.slice z.next 0 1) (z.new (.cells 63 1 true false [.int .u64 w]))=_ from e5,ef];refine fT ⟨k-1,by omega,?_⟩;rw[S];refine⟨i+1,setv5,rfl,by omega,(s1.trans s4).trans s5,λm v' D f=>?_,?_⟩
  ·by_cases e:m=i
   ·subst e;rw[hv]at f;cases f;exact c
   ·exact hh m v' (by omega) f
  ·rw[W,UB,List.map_singleton,<-he];exact H5.tail
 have A:gM u v=iX x.op:=by unfold gM;simp[C]
 by_cases N:x.op=1
 ·let ⟨n0,ak,_⟩:=g.param v x C N
  have c:gM u v=true:=by rw[A,N];rfl
  rw[if_pos N]at o
  let⟨n,L⟩:=wBj n0
  rw[L]at o;have o:Ws u locals qO B ee v=locals.getD n 0:=o;refine fX (by omega) (oF (by rw[d.ld 0 rfl rfl,L]) (ec (t.since (s1.trans a)).len (XH ?_)));by_cases cl:n<locals.length
  ·have O:=hN cl
   let⟨l5,o5,_,r1,r2,r3⟩:=(t.since (s1.trans a)).word O .i64
   refine fX (by omega) (oF (by rw[d.ld 0 rfl rfl,L]) (ec r1 (ec r2 (r a c r3 ?_ d))));rw[o,Dz,O];rfl
  ·refine fN (by omega) (r a c ti ?_ d);rw[o,Dz,ZR (by omega)];rfl
 refine fN (by omega) (oF (d.ld 0 rfl rfl) (fD ?_));rw[if_neg N]at o;by_cases s:x.op=21;rotate_left
 ·exact fN (by omega) (fin a (λv' f=>by rw[hv]at f;cases f;rw[A];unfold iX;rw[wBZ,Yz,Yz];exact⟨N,s⟩) d.tail)
 have c:gM u v=true:=by rw[A,s];rfl
 refine fX (by omega) ?_
 let⟨_,hal⟩:=g.VG v b i x B M C s E
 have al:=JW g E;have P:=ip.since (s1.trans a);have Y:=xr.since a;refine DM (λZ l h'=>∃j,l=[.ptr lh 0,zi,.I fk,.I fuel,.ptr lu 0,.ptr lr 0,om,.I steps,.I polls,.I b,.I (Nm qO),.ptr lb 0,DG,.I i,.ptr lc 0,.int .u64 0,.I (j:Nat)]/\j+Z=B.fj.length/\h' = h3/\∀m,m<j->∀p,B.fj[m]? =some p->(p:Int)≠Nm qO) ?_ (k:=B.fj.length) ⟨0,rfl,by omega,rfl,λm h=>by omega⟩;rintro Z _ _ _ _ _ _ _ _ _ _ _ _ _ _ _ _ _ z ⟨j,⟨⟩,am,rfl,mD⟩;unfold vL;refine oF (d.ld 2 rfl rfl) (ec P.len ?_);by_cases hj:j<B.fj.length;rotate_left
 ·refine iY (r a c ti ?_ d);rw[o]
  cases qO with
  |none=>rfl
  | some p=>
    have:B.fj.findIdx? (·== p)=none:=by
      rw[List.findIdx?_eq_none_iff];intro q hq
      let⟨m,D⟩:=mG.1 hq
      have:=mD m (by have:=(j6.1 D).1;omega) q D;rw[Yz];exact λe=>this (by rw[e];rfl)
    simp[zcu,this]
 refine gJ ?_;have hp:=hN hj;generalize aa:B.fj[j]=p at hp
 let⟨l5,o5,_,r1,r2⟩:=P.nat hp .i64
 refine oF (d.ld 2 rfl rfl) (ec r1 (ec r2 (fD ?_)));by_cases cp:(p:Int)=Nm qO;rotate_left
 ·refine fN cp (fT ⟨Z-1,by omega,j+1,rfl,by omega,rfl,λm D q hq=>?_⟩);by_cases e:m=j
  ·subst e;rw[hp]at hq;cases hq;exact cp
  ·exact mD m (by omega) q hq
 have ha:=hN (l:=x.args) (i:=j) (by omega);have ab:=AQ (l:=x.args) (n:=j) (by omega);have ac:x.args[j]<ee.length:=by
  rw[R];exact yT (g.use v x C _ (by unfold jq;rw[if_pos s];exact ab))
 let⟨l6,o6,_,t1,t2⟩:=Y.nat ha .i64
 let⟨l7,o7,y1,y2,y3,_⟩:=d.Nh 3 rfl (LD ac) .i64
 refine fX cp (oF (d.ld 0 rfl rfl) (ec t1 (ec t2 (ec y1 (ec y2 (r a c y3 ?_ d))))));rw[o]
 cases qO with
 |none=>exact absurd cp (by simp only[Nm];omega)
 | some p'=>
   have:B.fj.findIdx? (·== p')=some j:=by
     rw[List.findIdx?_eq_some_iff_getElem];refine⟨hj,?_,λm D=>?_⟩
     ·rw[aa,Gi];exact Int.ofNat.inj cp
     ·have:=mD m D _ (hN (by omega))
      simp[Bool.not_eq_true,Yz];exact λe=>this (by rw[e];rfl)
   simp only[zcu,this];rw[Dz,ha];rfl
theorem UO(val:List Int)(l:List (Nat×Int))(p:Nat×Int):B6 val (l++[p])=(B6 val l).set p.1 p.2:=by
 unfold B6;rw[List.foldl_append];rfl
theorem ZB{u:U}{n:Nat}{x:Vl}(h:x.op≠19/\x.op≠20/\x.op≠22/\x.op≠23):uD u fk n x s = .inr {s with val:=s.val.set n (rZ x s.of s.heap),steps:=s.steps+1}:=by
 unfold uD;rw[if_neg h.1,if_neg h.2.1,if_neg h.2.2.1,if_neg h.2.2.2]
theorem Qb{u:U}{l:List Nat}{x:Vl}(a:¬fuel<=s.steps)(b:u.ee[v]? =some x):p9 u fk fuel (v::l) s=match uD u fk v x s with
  | .inl e=> .inl e
  | .inr s=>p9 u fk fuel l s:=by
 conv=>lhs;unfold p9
 simp[b,if_neg a];cases uD u fk v x s <;> rfl
theorem VM{u:U}{l:List Nat} {s':Rs}{x:Vl}(a:¬fuel<=s.steps)(b:u.ee[v]? =some x)(h:uD u fk v x s = .inr s'):p9 u fk fuel (v::l) s=p9 u fk fuel l s':=by
 rw[Qb a b,h]
theorem Zx{u:U}{l:List Nat}{e:Ex}{x:Vl}(a:¬fuel<=s.steps)(b:u.ee[v]? =some x)(h:uD u fk v x s = .inl e):p9 u fk fuel (v::l) s = .inl e:=by
 rw[Qb a b,h]
theorem Uu{u:U}{l:List Nat}(a:fuel<=s.steps):p9 u fk fuel (v::l) s = .inl .z9:=by
 rw[p9,if_pos a]
theorem RM{u:U}{st:Nat}{jh:Int}{fs:List Fm}(a:u.ez[st]? =some fs):zt u s st jh = .left s.steps (fs.map (Vv s.val)) s.heap st jh:=by
 unfold zt;rw[a];rfl
variable{DG:V}
theorem VV{ws:List V}(c:ej F h (fi lb 79 (pY B bv bn bp)::Rn ee om lr lu u vv vb vs lh Th rm qU hp ds))(hl:ws.length=5)(a:gj ws=true)(K:∀h',Sn F h F h'->ej F h' (fi lh Th [rm,qU]::fu (eI .u64) DE hp qU::ds)->Q (.agg ws) h') :
  eJ (gw 5 (.ptr lr 0) (.agg ws) h) λ_ a=>oP (gi 5 (.ptr lr 0) a) λr=>Q r a:=by
 let⟨d,e2,_,b,e⟩:=c.Wh 2 rfl hl rfl a
 rw[e2,ef];simp[ Mc]at b;exact ec (b.xk 2 rfl hl) (K d e b.tail.tail.tail.tail)
theorem zfp(g:Good u)(p:ej F h (fu (eI .u64) DE ((B.ee.takeWhile (gM u)).map (Ws u locals qO B ee)) DG::fi lb 79 (pY B bv bn bp)::Rn ee om lr lu u vv vb vs lh Th rm qU hp ds))(q:ee.length=u.ee.length)(e:u.blocks[b]? =some B)(r:iD eN F h B.ee bv)(hs:steps<100000000)
  (K:∀h',Sn F h F h'->ej F h' (fi lb 79 (pY B bv bn bp)::Rn (B6 ee ((B.ee.takeWhile (gM u)).map λv=>(v,Ws u locals qO B ee v))) om lr lu u vv vb vs lh Th rm qU hp ds)->
   ma Q fE [.ptr lh 0,zi,.I fk,.I fuel,.ptr lu 0,.ptr lr 0,om,.I ((steps+(B.ee.takeWhile (gM u)).length:Nat):Int),.I polls,.I b,.ptr lb 0,.I ((B.ee.takeWhile (gM u)).length:Nat)] h') :
  jw Q fE [.ptr lh 0,zi,.I fk,.I fuel,.ptr lu 0,.ptr lr 0,om,.I steps,.I polls,.I b,.ptr lb 0,DG,.I ((B.ee.takeWhile (gM u)).length:Nat)] h:=by
 have nv:=g.nv;have s:=qH _ B.ee (Ir g e) λv hv=>by
  let⟨k,n⟩:=mG.1 hv
  exact g.uz v b k ⟨B,e,n⟩
 have a:B.ee.takeWhile (gM u)++B.ee.dropWhile (gM u)=B.ee:=wBf;have f:∀j v,(B.ee.takeWhile (gM u))[j]? =some v->B.ee[j]? =some v:=λj v hv=>by
  rw[<-a,VQ (j6.1 hv).1];exact hv
 have Ma:(B.ee.takeWhile (gM u)).length<=B.ee.length:=by
  have:=congrArg List.length a;rw[nB]at this;omega
 generalize B.ee.takeWhile (gM u)=hs at*;refine Eg ?_;unfold vO
 obtain ⟨J,i⟩:∃J,J=λk l h'=>∃j,l=[.ptr lh 0,zi,.I fk,.I fuel,.ptr lu 0,.ptr lr 0,om,.I ((steps+j:Nat):Int),.I polls,.I b,.ptr lb 0,DG,.I hs.length,.I (j:Nat)]/\j+k=hs.length/\Sn F h F h'/\
   ej F h' (fu (eI .u64) DE (hs.map (Ws u locals qO B ee)) DG::fi lb 79 (pY B bv bn bp)::Rn (B6 ee ((hs.take j).map λv=>(v,Ws u locals qO B ee v))) om lr lu u vv vb vs lh Th rm qU hp ds):=⟨_,rfl⟩
 refine Dv J (λk O P R x4 S t w x gI iQ y z A C D hi=>?_) (k:=hs.length) ?_;rotate_left
 ·rw[i];exact⟨0,rfl,by omega,Sn.refl _ _,p⟩
 rw[i]at hi;obtain⟨j,⟨⟩,n,s1,c⟩:=hi;unfold vB;by_cases hj:j<hs.length;rotate_left
 ·refine iY ?_;obtain rfl:j=hs.length:=by omega
  rw[QQ]at c;exact K D s1 c.tail
 refine gJ ?_;have hv:=hN hj;have m:=JE hj;generalize hs[j]=v at*;have d:=f j v hv;have E:=g.uz v b j ⟨B,e,d⟩;have G:(hs.map (Ws u locals qO B ee))[j]? =some (Ws u locals qO B ee v):=by rw[wA8,hv];rfl
 let⟨T,U,_,p1,p2⟩:=(r.since s1).nat d .i64
 let⟨V,o2,H,I,L,_⟩:=c.Nh 0 rfl G .i64
 let⟨W,X,Y,r1,r2,M,o,N⟩:=c.Mb 2 rfl (k:=v) (by rw[Kw];omega) rfl rfl ⟨rfl,L⟩
 refine oF (c.ld 1 rfl rfl) (ec p1 (ec p2 (ec H (ec I (ec r1 ?_)))));rw[r2,ef];simp only[ Mc]at o;refine⟨M,fT (fT ⟨k-1,by omega,?_⟩)⟩;rw[i];refine⟨j+1,rfl,by omega,s1.trans N,?_⟩;rw[m,UB,List.map_singleton,UO];exact o
def zfE(fr:List Fw):Prop:=fr.length<=1000/\∀f∈fr,f.locals.length<=1000/\f.stack.length<=1000
theorem X6(g:Good u){st:Nat}{fs:List Fm}(a:u.ez[st]? =some fs):zfE (fs.map (Vv ee)):=by
 let⟨_,e,b⟩:=g.st st fs a
 refine⟨by rw[Qv];omega,λf c=>?_⟩;obtain⟨x,d,rfl⟩:=Ov.1 c
 let⟨h,i,_⟩:=b x d
 simp[Vv,Qv];omega
def ExR(F:Nat->Prop)(h:Hp)(e:Ex)(hp:List Int)(a b c d:Int)(w:V):Prop:=(e = .z9/\a=0/\w = .ed)\/∃n fr st jh,e = .left n fr hp st jh/\a=1/\b=(st:Nat)/\c=jh/\d=(n:Int)/\iD eFw F h fr w/\zfE fr
