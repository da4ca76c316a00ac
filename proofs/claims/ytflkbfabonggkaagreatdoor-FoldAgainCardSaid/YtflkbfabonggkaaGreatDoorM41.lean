/- Parts. -/
import Derived.Test.YtflkbfabonggkaaGreatDoorM37
import Derived.Test.YtflkbfabonggkaaGreatDoorM47
set_option maxHeartbeats 4000000
namespace Go.Proofs.YtflkbfabonggkaaGreatDoor.Hx
open Un Dm
theorem jk(n:Int):lH .u64 n=pz n:=by
 rw[qD];simp only[IntKind.wrap,IntKind.signed,IntKind.bits,Bool.false_and,QY,if_false,pz];rfl
theorem Cw(n:Int):qc .u64 (pz n):=by simp only[qc,pz];omega
theorem KL{n:Int}(h:qc .u64 n):pz n=n:=by simp only[qc]at h;unfold pz;omega
theorem Nk{n:Int}(h:qc .u64 n):lH .i64 n=uA n:=by
 rw[qD];simp only[qc]at h;have e:n % 18446744073709551616=n:=by omega
 simp only[IntKind.wrap,IntKind.signed,IntKind.bits,ZR,AQ,Nat.reduceSub,Int.reducePow,ge_iff_le,e,uA];by_cases c:n<9223372036854775808
 ·rw[if_neg (by omega),if_pos c]
 ·rw[if_pos (by omega),if_neg c]
theorem za1{c:Prop} [Decidable c] {x y:Int}(a:qc .u64 x)(b:qc .u64 y):qc .u64 (if c then x else y):=by
 by_cases h:c
 ·rw[if_pos h];exact a
 ·rw[if_neg h];exact b
theorem zR:qc .u64 0:=⟨Int.le_refl _,by decide⟩
theorem Yp(b:Bool):qc .u64 (Iy b):=by cases b <;> simp[qc,Iy]
theorem Py(op:Nat)(a b:Int):qc .u64 (A4 op a b):=by
 unfold A4
 repeat' first|exact Cw _|exact Yp _|exact zR|refine za1 ?_ ?_
section
variable{F F':Nat->Prop}{h h':Hp}{cs ds:List Pc}{Q:ft}
theorem Hc{b:Bool}(H:Q (.int .u64 (Iy b)) h):cP CS iB [.bool b] h Q:=by
 refine FD rfl rfl ?_;unfold xV;cases b
 ·exact iO (fU (by simp) H)
 ·exact iO (gi rfl H)
theorem QR{t:Nat}{k:IntKind}{a b:Int}{K:V->Prop}(H:K (.bool (decide (a=b)))):oP (en .eql t (.int k a) (.int k b)) K:=gZ H
theorem RU{op:Nat}{a b:Int}(f:qc .u64 a)(g:qc .u64 b)(i:3<=op/\op<=14)(H:Q (.tuple [.int .u64 (A4 op a b),.bool true]) h):cP CS km [.I op,.int .u64 a,.int .u64 b] h Q:=by
 refine Ec rfl rfl ?_;unfold xo;refine ed (by rw[iC,Nk f]) (ed (by rw[iC,Nk g]) ?_);have e0:∀n:Nat,op=n->A4 op a b=A4 n a b:=λn h=>by rw[h]
 refine fX ?_;by_cases c:op=3
 ·rw[e0 _ c]at H;exact gi (by omega) (ed (by rw[mj,jk];rfl) H)
 refine fU (by omega) (fX ?_);by_cases c:op=4
 ·rw[e0 _ c]at H;exact gi (by omega) (ed (by rw[oR,jk];rfl) H)
 refine fU (by omega) (fX ?_);by_cases c:op=5
 ·rw[e0 _ c]at H;exact gi (by omega) (ed (by rw[Nv,jk];rfl) H)
 refine fU (by omega) (fX ?_);by_cases c:op=6
 ·rw [e0 _ c]at H;refine gi (by omega) (fX ?_);by_cases z:uA b=0
  ·refine gi z ?_;rw[show A4 6 a b=0 by simp[A4,z]]at H;exact H
  refine fU z (fX ?_);by_cases z1:uA b = -1
  ·refine gi z1 (ed (by rw[Qj,jk]) ?_);rw[show A4 6 a b=pz (0-a) by simp[A4,z1]]at H;exact H
  ·refine fU z1 (ed (a:= .I (lH .i64 ((uA a).tdiv (uA b)))) ?_ (ed (by rw[iC]) ?_))
   ·have:∀y:Int,y≠0->en .quo 2 (.I (uA a)) (.I y)=some (.I (lH .i64 ((uA a).tdiv y))):=λy d=>by
     cases y with
     | ofNat n=>cases n with
       |zero=>exact absurd rfl d
       |succ n=>rfl
     |negSucc n=>rfl
    exact this _ z
   ·rw [show A4 6 a b=pz ((uA a).tdiv (uA b)) by simp[A4,z,z1]]at H;rw[jk,qD];have:pz (IntKind.i64.wrap ((uA a).tdiv (uA b)))=pz ((uA a).tdiv (uA b)):=by
     simp only[IntKind.wrap,IntKind.signed,IntKind.bits,ZR,AQ,Nat.reduceSub,Int.reducePow,pz];split <;> omega
    rw[this];exact H
 refine fU (by omega) (fX ?_);by_cases c:op=7
 ·rw [e0 _ c]at H;refine gi (by omega) (ed (ik ..) (ed (a:= .bool (decide (uA b=0\/uA b = -1))) ?_ (iO ?_)))
  ·simp only[fe,ik,pH];congr 2;rw[Tf,PV,HR,HR,AQ]
  by_cases z:uA b=0\/uA b = -1
  ·refine gi (Kt z) ?_;rw[show A4 7 a b=0 by simp[A4,z]]at H;exact H
  ·refine fU (by rw[AQ];exact z) (ed (a:= .I ((uA a).tmod (uA b))) ?_ (ed (by rw[iC,jk]) ?_))
   ·have:∀y:Int,y≠0->en .rem 2 (.I (uA a)) (.I y)=some (.I ((uA a).tmod y)):=λy d=>by
     cases y with
     | ofNat n=>cases n with
       |zero=>exact absurd rfl d
       |succ n=>rfl
     |negSucc n=>rfl
    exact this _ λh=>z (.inl h)
   ·rw[show A4 7 a b=pz ((uA a).tmod (uA b)) by simp[A4,z]]at H;exact H
 refine fU (by omega) (fX ?_);by_cases c:op=8
 ·rw[e0 _ c]at H;refine gi (by omega) (ed (by rw[Qj,jk]) ?_);rw[show A4 8 a b=pz (0-a) by simp[A4]]at H;exact H
 refine fU (by omega) (fX ?_);by_cases c:op=9
 ·rw[e0 _ c]at H;exact gi (by omega) (QR (Hc H))
 refine fU (by omega) (fX ?_);by_cases c:op=10
 ·rw[e0 _ c]at H;exact gi (by omega) (QR (Hc H))
 refine fU (by omega) (fX ?_);by_cases c:op=11
 ·rw[e0 _ c]at H;refine gi (by omega) (ed (tP ..) ?_);rw[show(a != b)=decide (a≠b) by by_cases e:a=b <;> simp[e]];exact Hc H
 refine fU (by omega) (fX ?_);by_cases c:op=12
 ·rw[e0 _ c]at H;exact gi (by omega) (ed (jB ..) (Hc H))
 refine fU (by omega) (fX ?_);by_cases c:op=13
 ·rw[e0 _ c]at H;exact gi (by omega) (ed (Ki ..) (Hc H))
 refine fU (by omega) (fX ?_);obtain rfl:op=14:=by omega
 exact gi rfl (ed (jB ..) (Hc H))
end
open Un Dm
abbrev Ac:Nat:=59
section
variable{F F':Nat->Prop}{h h':Hp}{cs ds:List Pc}{Q:ft}{i j lh Th:Nat}{rm hv:V}{hp:List Int}
theorem ej.Lw{ty:Nat}{xs:List Int}{v:V}(H:ej F h cs)(i:Nat)(hi:cs[i]? =some (eJ (eI .u64) ty xs v)){k:Nat}{x:Int}(b:xs[k]? =some x)(kd:IntKind):∃l o,gz 1 v (.int kd (k:Nat))=some (.ptr l o)/\ez (.ptr l o) h=some (.int .u64 x)/\qc .u64 x/\l<h.next:=by
 obtain⟨hk,rfl⟩:=jP.1 b;obtain⟨l,o,u,a,c,d⟩:=H.Vc i hi hk kd rfl;obtain⟨e,f⟩:=d;cases e;exact⟨l,o,a,c,f,H.zdG i hi hk a⟩
theorem iy.word{xs:List Int}{v:V}(a:iy (eI .u64) F h xs v){i:Nat}{x:Int}(b:xs[i]? =some x)(kd:IntKind):∃l o,F l/\gz 1 v (.int kd (i:Nat))=some (.ptr l o)/\ez (.ptr l o) h=some (.int .u64 x)/\qc .u64 x:=by
 obtain⟨hi,rfl⟩:=jP.1 b;obtain⟨l,o,w,c,d,f,e,g⟩:=a.Vc hi kd rfl;cases e;exact⟨l,o,c,d,f,g⟩
theorem XY{a:Int}(h:hp.length<=a.toNat):tw hp a=0:=by
 unfold tw;rw[DY,VM h];rfl
theorem XP{a:Int}{x:Int}(h:hp[a.toNat]? =some x):tw hp a=x:=by
 unfold tw;rw[DY,h];rfl
theorem L9(d:ej F h cs)(hi:cs[i]? =some (ev lh Th [rm,hv]))(f:cs[j]? =some (eJ (eI .u64) Ac hp hv))(r:hp.length<1000000000){a:Int}(m:qc .u64 a)(H:qc .u64 (tw hp a)->Q (.int .u64 (tw hp a)) h) :
  cP CS iG [.ptr lh 0,.int .u64 a] h Q:=by
 refine Bo rfl rfl ?_;unfold rC;have e0:ez (.ptr lh (0+1)) h=some hv:=d.ld i hi rfl;have e:qc .u64 ((hp.length:Nat):Int):=by simp only[qc];omega
 have b:=m;simp only[qc]at b;refine oN e0 (ed (d.len j f) (ed (by rw[iC,jk,KL e]) (UQ ?_)));by_cases c:((hp.length:Nat):Int)<=a
 ·refine gi c ?_;rw[XY (by omega)]at H;exact H zR
 ·refine fU c (oN e0 ?_);obtain⟨k,rfl⟩:=wBG b.1;have g:=gW (l:=hp) (i:=k) (by omega);obtain⟨l,o,n,p,q,_⟩:=d.Lw j f g .u64;rw[XP (a:=(k:Int)) (x:=hp[k]) g]at H;exact ed n (ed p (H q))
theorem zbs(b:ej F h cs)(hi:cs[i]? =some (ev lh Th [rm,hv]))(c:cs[j]? =some (eJ (eI .u64) Ac hp hv))(d:hp.length<1000000000){a:Int}(f:qc .u64 a)(H:qc .u64 (tw hp a / 4294967296)->Q (.I (tw hp a / 4294967296)) h) :
  cP CS kO [.ptr lh 0,.int .u64 a] h Q:=by
 refine Bv rfl rfl ?_;unfold rU;refine L9 b hi c d f λg=>?_;generalize tw hp a=w at*;simp only[qc]at g;have e:w.fdiv 4294967296=w / 4294967296:=Int.fdiv_eq_ediv_of_nonneg _ (by decide);refine ed (show en .shr 59 (.int .u64 w) (.int .u64 32)=some (.int .u64 (w.fdiv 4294967296)) from rfl) ?_;rw[e];refine ed (by rw[iC,pD (by simp only[qc];omega)]) (H ?_);simp only[qc];omega
theorem XB(c:ej F h cs)(hi:cs[i]? =some (ev lh Th [rm,hv]))(d:cs[j]? =some (eJ (eI .u64) Ac hp hv))(f:hp.length<1000000000){a:Int}(g:qc .u64 a)(H:qc .u64 (tw hp a % 4294967296)->Q (.I (tw hp a % 4294967296)) h) :
  cP CS jL [.ptr lh 0,.int .u64 a] h Q:=by
 refine Cg rfl rfl ?_;unfold tB;refine L9 c hi d f g λb=>?_;generalize tw hp a=w at*;simp only[qc]at b;have e:w.tmod 4294967296=w % 4294967296:=Int.tmod_eq_emod_of_nonneg b.1;refine ed (show en .rem 59 (.int .u64 w) (.int .u64 4294967296)=some (.int .u64 (w.tmod 4294967296)) from rfl) ?_;rw[e];refine ed (by rw[iC,pD (by simp only[qc];omega)]) (H ?_);simp only[qc];omega
theorem Ud(d:ej F h cs)(hi:cs[i]? =some (ev lh Th [rm,hv]))(f:cs[j]? =some (eJ (eI .u64) Ac hp hv))(w:hp.length<1000000000){a x:Int}(n:qc .u64 a)(p:qc .u64 x)(H:∀h' r,Sn F h F h'->ej F h' (cs.set j (eJ (eI .u64) Ac (ND hp a x) hv))->Q (.bool r) h') :
  cP CS iW [.ptr lh 0,.int .u64 a,.int .u64 x] h Q:=by
 refine Ct rfl rfl ?_;unfold tF;have e0:ez (.ptr lh (0+1)) h=some hv:=d.ld i hi rfl;have g:qc .u64 ((hp.length:Nat):Int):=by simp only[qc];omega
 have b:=n;simp only[qc]at b;have same:cs.set j (eJ (eI .u64) Ac hp hv)=cs:=by
  obtain⟨A,m⟩:=jP.1 f;rw[<-m,List.set_getElem_self]
 refine ed (ik ..) (ed (a:= .bool (decide (a=0\/((hp.length:Nat):Int)<=a))) ?_ (iO ?_))
 ·simp only[fe,fQ,fT,e0,d.len j f,iC,jk,KL g,nM,pH];congr 2;rw[Tf,PV,HR,AQ,AQ]
 by_cases c:a=0\/((hp.length:Nat):Int)<=a
 ·refine gi (Kt c) (H h false (Sn.refl _ _) ?_);have:ND hp a x=hp:=by
   unfold ND;by_cases z:a=0
   ·rw[if_pos z]
   ·rw[if_neg z,List.set_eq_of_length_le (by omega)]
  rw[this,same];exact d
 ·refine fU (by rw[AQ];exact c) (oN e0 ?_);obtain⟨k,rfl⟩:=wBG b.1;obtain⟨l,o,m,q,s,_,t,v⟩:=d.Jj j f (k:=k) (y:=x) (u:= .int .u64 x) (by omega) rfl rfl ⟨rfl,p⟩;refine ed (show gz 1 hv (.int .u64 (k:Nat))=_ from q) ?_;rw[s,ei];refine H m true v ?_;have:ND hp (k:Int) x=hp.set k x:=by
   unfold ND;rw[if_neg (λe=>c (.inl e))];rfl
  rw[this];exact t
theorem NM{hp:List Int}{a x:Int}:(ND hp a x).length=hp.length:=by
 unfold ND;split
 ·rfl
 ·rw[LU]
end
open Un Dm
abbrev zaM:Nat:=108
def eFw:p8 Fw where
 sz:=4
 rel F h x cs:=∃a b,cs=[.I x.func,.I x.pc,a,b]/\iy (eI .u64) F h x.locals a/\iy (eI .u64) F h x.stack b
 len:=λ⟨_,_,h,_⟩=>by subst h;rfl
 one:=λ⟨_,_,h,c,d⟩=>by subst h;simp only[ey,c.one,d.one];rfl
 fh:=λhk ⟨a,b,h,c,d⟩=>⟨a,b,h,c.fh hk,d.fh hk⟩
 mono:=λe ⟨a,b,h,c,d⟩=>⟨a,b,h,c.mono e,d.mono e⟩
def CR(ef:List Int)(v:Nat):Int:=ef.getD v 0
def SC(ef:List Int)(f:Fm):Fw:=⟨f.func,f.pc,f.locals.map (CR ef),f.stack.map (CR ef)⟩
theorem JH{ef:List Int}{v:Nat}(h:v<ef.length):ef[v]? =some (CR ef v):=by
 unfold CR;rw[DY,gW h];rfl
theorem AB(w:Int):jr 59 1 1 (.int .u64 0) [(0,.int .u64 w)]=some (.cells 59 1 true false [.int .u64 w],λl=> .slice l 0 1):=rfl
section
variable{F F':Nat->Prop}{h h':Hp}{cs ds:List Pc}{Q:ft}{u:U}{vv vb vs nj:V}{ef:List Int}{j:Nat}
theorem Pc.DR(H:ej F h cs)(i:Nat){l ty:Nat}{ws:List V}(hi:cs[i]? =some (ev l ty ws)):l<h.next:=(H.ok i _ hi).2.1
theorem RH(g:Good u)(H0:ej F h cs)(hu:DA F h u vv vb vs)(hj:cs[j]? =some (eJ (eI .u64) Ac ef nj))(hl:ef.length=u.ef.length){st:Nat}{fs:List Fm}(z:u.eh[st]? =some fs){jW steps:Int}
  (H:∀F' h' w,Sn F h F' h'->ej F' h' cs->iy eFw F' h' (fs.map (SC ef)) w->Q (.agg [.I 1,.I st,.I jW,w,.I steps]) h') :
  cP CS iS [.agg (uC u vv vb vs),nj,.I st,.I jW,.I steps] h Q:=by
 refine E5 rfl rfl ?_;unfold wP;refine ml H0 hu.one λh1 H1 s1=>AU H1 λh2 H2 s2=>?_;generalize h.next=lu at*;generalize h1.next=lr at*;refine ed (show _=some (.agg [.I 1,.I st,.I jW,.ee,.I steps]) from rfl) ?_;refine ir H2 rfl rfl rfl λh3 H3 s3=>?_;generalize h2.next=lx at*;have ak:=(s1.trans s2).trans s3;have aE:=ES g st fs z;have T:∀v∈hO fs,v<u.ef.length:=Pg g z
 obtain ⟨J,hJ⟩:∃J:Nat->LP,J=λk l h'=>∃(F':Nat->Prop) (i:Nat) (w:V),l=[nj,.I st,.ptr lu 0,.ptr lr 0,.ptr lx 0,.I i]/\i+k=fs.length/\Sn F h F' h'/\
   ej F' h' (eJ eFw zaM ((fs.take i).map (SC ef)) w::ev lx 77 [.I 1,.I st,.I jW,w,.I steps]::ev lr 77 [.I 0,.I 0,.I 0,.ee,.I 0]::ev lu 30 (uC u vv vb vs)::cs):=⟨_,rfl⟩
 refine Ba J (λk U x2 x5 W X Y h4 hi=>?_) (k:=fs.length) ?_;rotate_left
 ·rw[hJ];exact⟨F,0,.ee,rfl,by omega,ak,H3.add (p:=eJ eFw zaM [] .ee) .nil λ_ h=>h⟩
 rw[hJ]at hi;obtain⟨O,i,w,⟨⟩,hk,s4,P⟩:=hi;clear H3 H2 H1;unfold sW;have u4:=hu.since s4;obtain⟨l1,o1,f,aF,U,_,x3,xf⟩:=u4.st z;have x3:ez (.ptr l1 (o1+0)) h4=some f:=x3;refine oF (P.ld 3 rfl rfl) (ed U (oF x3 (ed xf.len ?_)));by_cases hi:i<fs.length;rotate_left
 ·refine iJ ?_;obtain rfl:i=fs.length:=by omega
  rw[JC]at P;obtain⟨C,s5,r5⟩:=P.jI 0 rfl;simp only[je]at C;have o1:gj [V.I 1,.I st,.I jW,w,.I steps]=true:=by simp only[ey,r5.one];rfl
  refine ed (C.zb 1 rfl rfl) ?_;obtain⟨h6,e6,_,R,s6⟩:=C.Zx 2 (n:=5) (ws:=[.I 1,.I st,.I jW,w,.I steps]) rfl rfl rfl o1;rw[e6,ei];simp only[je,mA]at R;refine ed (R.zb 2 rfl rfl) ?_;exact H _ h6 w ((s4.trans s5).trans s6) R.tail.tail.tail.tail (r5.since s6)
 refine gG ?_;have hx:=gW hi;have al:=N6 hi;have D:=AW hi;generalize fs[i]=x at*;have am:∀v∈x.locals,v<ef.length:=λv hv=>by rw[hl];exact T v (Xq.2 ⟨x,D,Xu _ hv⟩)
 have an:∀v∈x.stack,v<ef.length:=λv hv=>by rw[hl];exact T v (Xq.2 ⟨x,D,List.mem_append_right _ hv⟩)
 obtain⟨_,_,hf⟩:=g.st st fs z;obtain⟨aC,aD,_⟩:=hf x D;obtain⟨l2,o2,xa,xb,_,y1,y2,ya,yb⟩:=xf.l0 hx;refine oF (P.ld 3 rfl rfl) (ed U (oF x3 (ed y1 (ed y2 ?_))));refine ir P rfl rfl (by simp only[Ou,ey,ya.one,yb.one];rfl) λh5 C s5=>?_;generalize h4.next=lf at*;refine oF (C.ld 0 rfl rfl) (oF (C.ld 0 rfl rfl) ?_);refine ed (show _=some (.agg [.I x.func,.I x.pc,.ee,.ee]) from rfl) ?_;refine ir C rfl rfl rfl λh6 R s6=>?_;generalize h5.next=S at*;have Z:=s5.trans s6;have jv:∀{a b c d e f g:Pc},(a::b::c::d::e::f::g::cs)[j+7]? =some (eJ (eI .u64) Ac ef nj):=λ{_ _ _ _ _ _ _}=>by simpa using hj
 have ao:∀{a b c d e f g k:Pc},(a::b::c::d::e::f::g::k::cs)[j+8]? =some (eJ (eI .u64) Ac ef nj):=λ{_ _ _ _ _ _ _ _}=>by simpa using hj
 obtain ⟨J1,E⟩:∃J1:Nat->LP,J1=λk l h'=>∃(n:Nat) (r:V),l=[nj,.I st,.ptr lu 0,.ptr lr 0,.ptr lx 0,.I i,.ptr lf 0,.ptr S 0,.I n]/\n+k=x.locals.length/\Sn O h6 O h'/\
   ej O h' (eJ (eI .u64) Ac ((x.locals.take n).map (CR ef)) r::ev S 108 [.I x.func,.I x.pc,r,.ee]::ev lf 53 (Ou x xa xb)::eJ eFw zaM ((fs.take i).map (SC ef)) w::ev lx 77 [.I 1,.I st,.I jW,w,.I steps]::ev lr 77 [.I 0,.I 0,.I 0,.ee,.I 0]::ev lu 30 (uC u vv vb vs)::cs):=⟨_,rfl⟩
 refine Bh J1 (λk1 U x2 x5 W X Y ap aq ar h7 aa=>?_) (k:=x.locals.length) ?_;rotate_left
 ·rw[E];exact⟨0,.ee,rfl,by omega,Sn.refl _ _,R.add (p:=eJ (eI .u64) Ac [] .ee) .nil λ_ h=>h⟩
 clear R C P;rw[E]at aa;obtain⟨n,r,⟨⟩,aG,s7,s⟩:=aa;have G:=(ya.since Z).since s7;unfold si;refine oF (s.ld 2 rfl rfl) (ed G.len ?_);by_cases hn:n<x.locals.length
 ·refine gG ?_;have hv:=gW hn;have t:=N6 hn;have I:=am _ (AW hn);generalize x.locals[n]=v at*;obtain⟨l3,o3,K,p1,p2⟩:=G.nat hv .i64;obtain⟨l4,o4,q1,q2,q3,q4⟩:=s.Lw (j+7) jv (JH I) .i64;have c1:ez (.ptr S (0+2)) h7=some r:=s.ld 1 rfl rfl;have c2:ez (.ptr lf (0+2)) h7=some xa:=s.ld 2 rfl rfl;refine oF c1 (oF c2 (ed p1 (ed p2 (ed q1 (ed q2 ?_)))));rw[AB,gR];obtain⟨ab,L,e8,n8,q,s8⟩:=s.vR 0 rfl (jW:=8) (DP:=59) (y:=CR ef v) (w:=[.int .u64 (CR ef v)]) (ro:=false) ⟨rfl,q3⟩ (by decide) (by decide) (by simp;omega);refine⟨⟨fg _ _,bq⟩,iK q2 (fj _ q4),iK p2 (fj _ (s.fl _ K)),iK c2 (fj _ (Pc.DR s 2 rfl)),iK c1 (fj _ (Pc.DR s 1 rfl)),?_⟩;rw[show eR 59 1 8 r (.slice h7.next 0 1) (h7.new (.cells 59 1 true false [.int .u64 (CR ef v)]))=_ from e8,ei];simp only[je]at q;obtain⟨h9,e9,n9,A,s9⟩:=q.st 1 (o:=0+2) (u:=ab) rfl (by simp) (q.one 0 rfl);refine⟨n8,ed pf ?_⟩;rw[e9,ei];simp only[je,mA]at A;refine⟨n9,fL ⟨k1-1,by omega,?_⟩⟩;rw[E];exact⟨n+1,ab,rfl,by omega,(s7.trans s8).trans s9,by rw[t,Ox];exact A⟩
 refine iJ ?_;obtain rfl:n=x.locals.length:=by omega
 rw[JC]at s;clear G
 obtain ⟨J2,M⟩:∃J2:Nat->LP,J2=λk l h'=>∃(n:Nat) (sw:V),l=[nj,.I st,.ptr lu 0,.ptr lr 0,.ptr lx 0,.I i,.ptr lf 0,.ptr S 0,.I n]/\n+k=x.stack.length/\Sn O h7 O h'/\
   ej O h' (eJ (eI .u64) Ac ((x.stack.take n).map (CR ef)) sw::eJ (eI .u64) Ac (x.locals.map (CR ef)) r::ev S 108 [.I x.func,.I x.pc,r,sw]::ev lf 53 (Ou x xa xb)::eJ eFw zaM ((fs.take i).map (SC ef)) w::ev lx 77 [.I 1,.I st,.I jW,w,.I steps]::ev lr 77 [.I 0,.I 0,.I 0,.ee,.I 0]::ev lu 30 (uC u vv vb vs)::cs):=⟨_,rfl⟩
 refine BJ J2 (λk2 U x2 x5 W X Y ap aq ar L ac=>?_) (k:=x.stack.length) ?_;rotate_left
 ·rw[M];exact⟨0,.ee,rfl,by omega,Sn.refl _ _,s.add (p:=eJ (eI .u64) Ac [] .ee) .nil λ_ h=>h⟩
 clear s;rw[M]at ac;obtain⟨n,sw,⟨⟩,aH,s8,q⟩:=ac;have ae:=(Z.trans s7).trans s8;have ag:=yb.since ae;unfold rX;refine oF (q.ld 3 rfl rfl) (ed ag.len ?_);by_cases hn:n<x.stack.length
 ·refine gG ?_;have hv:=gW hn;have t:=N6 hn;have I:=an _ (AW hn);generalize x.stack[n]=v at*;obtain⟨l3,o3,K,p1,p2⟩:=ag.nat hv .i64;obtain⟨l4,o4,q1,q2,q3,q4⟩:=q.Lw (j+8) ao (JH I) .i64;have c1:ez (.ptr S (0+3)) L=some sw:=q.ld 2 rfl rfl;have c2:ez (.ptr lf (0+3)) L=some xb:=q.ld 3 rfl rfl;refine oF c1 (oF c2 (ed p1 (ed p2 (ed q1 (ed q2 ?_)))));rw[AB,gR];obtain⟨ah,h9,e9,n9,A,s9⟩:=q.vR 0 rfl (jW:=8) (DP:=59) (y:=CR ef v) (w:=[.int .u64 (CR ef v)]) (ro:=false) ⟨rfl,q3⟩ (by decide) (by decide) (by simp;omega);refine⟨⟨fg _ _,bq⟩,iK q2 (fj _ q4),iK p2 (fj _ (q.fl _ K)),iK c2 (fj _ (Pc.DR q 3 rfl)),iK c1 (fj _ (Pc.DR q 2 rfl)),?_⟩;rw[show eR 59 1 8 sw (.slice L.next 0 1) (L.new (.cells 59 1 true false [.int .u64 (CR ef v)]))=_ from e9,ei];simp only[je]at A;obtain⟨aI,au,aw,m,B⟩:=A.st 2 (o:=0+3) (u:=ah) rfl (by simp) (A.one 0 rfl);refine⟨n9,ed pf ?_⟩;rw[au,ei];simp only[je,mA]at m;refine⟨aw,fL ⟨k2-1,by omega,?_⟩⟩;rw[M];exact⟨n+1,ah,rfl,by omega,(s8.trans s9).trans B,by rw[t,Ox];exact m⟩
 refine iJ ?_;obtain rfl:n=x.stack.length:=by omega
 rw[JC]at q;obtain⟨A,s9,r9⟩:=q.jI 0 rfl;simp only[je]at A;obtain⟨m,B,YE⟩:=A.jI 1 rfl;simp only[je,mA]at m;have r9:=r9.since B;have o4:gj [V.I x.func,.I x.pc,r,sw]=true:=by simp only[ey,r9.one,YE.one];rfl
 refine oF (m.ld 5 rfl rfl) (ed (m.zb 2 rfl rfl) ?_);rw[show jr 108 4 1 (.agg [.I 0,.I 0,.ee,.ee]) [(0,.agg [.I x.func,.I x.pc,r,sw])]=_ from qY rfl rfl o4,fx];obtain⟨ai,aJ,ax,_,N,ay⟩:=m.vR 4 rfl (jW:=64) (DP:=108) (y:=SC ef x) (w:=[.I x.func,.I x.pc,r,sw]) (ro:=false) ⟨r,sw,rfl,YE,r9⟩ (by decide) (by decide) (by simp;omega);rw[show eR 108 4 64 w (.slice L.next 0 1) (L.new (.cells 108 4 true false [.I x.func,.I x.pc,r,sw]))=_ from ax,ei];simp only[je,mA]at N;obtain⟨aK,aA,_,aj,aB⟩:=N.st 5 (o:=0+3) (u:=ai) rfl (by simp) (N.one 4 rfl);refine ed pf ?_;rw[aA,ei];simp only[je,mA]at aj;refine fL ⟨k-1,by omega,?_⟩;rw[hJ];exact⟨_,i+1,ai,rfl,by omega,((((s4.trans ae).trans s9).trans B).trans ay).trans aB,by rw[al,Ox];exact aj.tail.tail.tail.tail⟩
end
