/- Parts. -/
import Derived.Test.YtjgjgngfjopaaaaDoorM37
import Derived.Test.YtjgjgngfjopaaaaDoorM35
namespace Go.Proofs.YtjgjgngfjopaaaaDoor.Hx
open Un Dm
theorem ku(n:Int):lM .u64 n=BM n:=by
 rw[tw];simp only[IntKind.wrap,IntKind.signed,IntKind.bits,Bool.false_and,MR,if_false,BM];rfl
theorem Fu(n:Int):tH .u64 (BM n):=by simp only[tH,BM];omega
theorem JD{n:Int}(h:tH .u64 n):BM n=n:=by simp only[tH]at h;unfold BM;omega
theorem Xg{n:Int}(h:tH .u64 n):lM .i64 n=Et n:=by
 rw[tw];simp only[tH]at h;have e:n % 18446744073709551616=n:=by omega
 simp only[IntKind.wrap,IntKind.signed,IntKind.bits,Z1,AW,Nat.reduceSub,Int.reducePow,ge_iff_le,e,Et];by_cases c:n<9223372036854775808
 ·rw[if_neg (by omega),if_pos c]
 ·rw[if_pos (by omega),if_neg c]
theorem Yt{c:Prop} [Decidable c] {x y:Int}(a:tH .u64 x)(b:tH .u64 y):tH .u64 (if c then x else y):=by
 by_cases h:c
 ·rw[if_pos h];exact a
 ·rw[if_neg h];exact b
theorem za:tH .u64 0:=⟨Int.le_refl _,by decide⟩
theorem XC(b:Bool):tH .u64 (IC b):=by cases b <;> simp[tH,IC]
theorem V8(op:Nat)(a b:Int):tH .u64 (LH op a b):=by
 unfold LH
 repeat' first|exact Fu _|exact XC _|exact za|refine Yt ?_ ?_
section
variable{F F':Nat->Prop}{h h':Hp}{cs ds:List Pc}{Q:fy}
theorem FP{b:Bool}(H:Q (.int .u64 (IC b)) h):cP CS iy [.bool b] h Q:=by
 refine Ef rfl rfl ?_;unfold wX;cases b
 ·exact js (gi (by simp) H)
 ·exact js (gw rfl H)
theorem Wj{t:Nat}{k:IntKind}{a b:Int}{K:V->Prop}(H:K (.bool (decide (a=b)))):oP (eo .eql t (.int k a) (.int k b)) K:=hZ H
theorem Pw{op:Nat}{a b:Int}(f:tH .u64 a)(g:tH .u64 b)(i:3<=op/\op<=14)(H:Q (.tuple [.int .u64 (LH op a b),.bool true]) h):cP CS kj [.I op,.int .u64 a,.int .u64 b] h Q:=by
 refine CZ rfl rfl ?_;unfold wC;refine ed (by rw[jk,Xg f]) (ed (by rw[jk,Xg g]) ?_);have e0:∀n:Nat,op=n->LH op a b=LH n a b:=λn h=>by rw[h]
 refine gj ?_;by_cases c:op=3
 ·rw[e0 _ c]at H;exact gw (by omega) (ed (by rw[mC,ku];rfl) H)
 refine gi (by omega) (gj ?_);by_cases c:op=4
 ·rw[e0 _ c]at H;exact gw (by omega) (ed (by rw[pj,ku];rfl) H)
 refine gi (by omega) (gj ?_);by_cases c:op=5
 ·rw[e0 _ c]at H;exact gw (by omega) (ed (by rw[Qj,ku];rfl) H)
 refine gi (by omega) (gj ?_);by_cases c:op=6
 ·rw [e0 _ c]at H;refine gw (by omega) (gj ?_);by_cases z:Et b=0
  ·refine gw z ?_;rw[show LH 6 a b=0 by simp[LH,z]]at H;exact H
  refine gi z (gj ?_);by_cases z1:Et b = -1
  ·refine gw z1 (ed (by rw[TY,ku]) ?_);rw[show LH 6 a b=BM (0-a) by simp[LH,z1]]at H;exact H
  ·refine gi z1 (ed (a:= .I (lM .i64 ((Et a).tdiv (Et b)))) ?_ (ed (by rw[jk]) ?_))
   ·have:∀y:Int,y≠0->eo .quo 2 (.I (Et a)) (.I y)=some (.I (lM .i64 ((Et a).tdiv y))):=λy d=>by
     cases y with
     | ofNat n=>cases n with
       |zero=>exact absurd rfl d
       |succ n=>rfl
     |negSucc n=>rfl
    exact this _ z
   ·rw [show LH 6 a b=BM ((Et a).tdiv (Et b)) by simp[LH,z,z1]]at H;rw[ku,tw];have:BM (IntKind.i64.wrap ((Et a).tdiv (Et b)))=BM ((Et a).tdiv (Et b)):=by
     simp only[IntKind.wrap,IntKind.signed,IntKind.bits,Z1,AW,Nat.reduceSub,Int.reducePow,BM];split <;> omega
    rw[this];exact H
 refine gi (by omega) (gj ?_);by_cases c:op=7
 ·rw [e0 _ c]at H;refine gw (by omega) (ed (gQ ..) (ed (a:= .bool (decide (Et b=0\/Et b = -1))) ?_ (js ?_)))
  ·simp only[fj,gQ,xQ];congr 2;rw[Vw,KM,z8,z8,AW]
  by_cases z:Et b=0\/Et b = -1
  ·refine gw (J6 z) ?_;rw[show LH 7 a b=0 by simp[LH,z]]at H;exact H
  ·refine gi (by rw[AW];exact z) (ed (a:= .I ((Et a).tmod (Et b))) ?_ (ed (by rw[jk,ku]) ?_))
   ·have:∀y:Int,y≠0->eo .rem 2 (.I (Et a)) (.I y)=some (.I ((Et a).tmod y)):=λy d=>by
     cases y with
     | ofNat n=>cases n with
       |zero=>exact absurd rfl d
       |succ n=>rfl
     |negSucc n=>rfl
    exact this _ λh=>z (.inl h)
   ·rw[show LH 7 a b=BM ((Et a).tmod (Et b)) by simp[LH,z]]at H;exact H
 refine gi (by omega) (gj ?_);by_cases c:op=8
 ·rw[e0 _ c]at H;refine gw (by omega) (ed (by rw[TY,ku]) ?_);rw[show LH 8 a b=BM (0-a) by simp[LH]]at H;exact H
 refine gi (by omega) (gj ?_);by_cases c:op=9
 ·rw[e0 _ c]at H;exact gw (by omega) (Wj (FP H))
 refine gi (by omega) (gj ?_);by_cases c:op=10
 ·rw[e0 _ c]at H;exact gw (by omega) (Wj (FP H))
 refine gi (by omega) (gj ?_);by_cases c:op=11
 ·rw[e0 _ c]at H;refine gw (by omega) (ed (tu ..) ?_);rw[show(a != b)=decide (a≠b) by by_cases e:a=b <;> simp[e]];exact FP H
 refine gi (by omega) (gj ?_);by_cases c:op=12
 ·rw[e0 _ c]at H;exact gw (by omega) (ed (jD ..) (FP H))
 refine gi (by omega) (gj ?_);by_cases c:op=13
 ·rw[e0 _ c]at H;exact gw (by omega) (ed (MD ..) (FP H))
 refine gi (by omega) (gj ?_);obtain rfl:op=14:=by omega
 exact gw rfl (ed (jD ..) (FP H))
end
open Un Dm
abbrev zu:Nat:=83
section
variable{F F':Nat->Prop}{h h':Hp}{cs ds:List Pc}{Q:fy}{i j lh Th:Nat}{rm hv:V}{hp:List Int}
theorem en.Kj{ty:Nat}{xs:List Int}{v:V}(H:en F h cs)(i:Nat)(hi:cs[i]? =some (eR (eI .u64) ty xs v)){k:Nat}{x:Int}(c:xs[k]? =some x)(kd:IntKind):∃l o,gD 1 v (.int kd (k:Nat))=some (.ptr l o)/\ez (.ptr l o) h=some (.int .u64 x)/\tH .u64 x/\l<h.next:=by
 obtain⟨a,rfl⟩:=iR.1 c;obtain⟨l,o,u,b,d,f⟩:=H.Tz i hi a kd rfl;obtain⟨e,g⟩:=f;cases e;exact⟨l,o,b,d,g,H.zdf i hi a b⟩
theorem iC.word{xs:List Int}{v:V}(a:iC (eI .u64) F h xs v){i:Nat}{x:Int}(b:xs[i]? =some x)(kd:IntKind):∃l o,F l/\gD 1 v (.int kd (i:Nat))=some (.ptr l o)/\ez (.ptr l o) h=some (.int .u64 x)/\tH .u64 x:=by
 obtain⟨hi,rfl⟩:=iR.1 b;obtain⟨l,o,w,c,d,f,e,g⟩:=a.Tz hi kd rfl;cases e;exact⟨l,o,c,d,f,g⟩
theorem WI{a:Int}(h:hp.length<=a.toNat):sV hp a=0:=by
 unfold sV;rw[BO,KT h];rfl
theorem XE{a:Int}{x:Int}(h:hp[a.toNat]? =some x):sV hp a=x:=by
 unfold sV;rw[BO,h];rfl
theorem KY(d:en F h cs)(hi:cs[i]? =some (ev lh Th [rm,hv]))(f:cs[j]? =some (eR (eI .u64) zu hp hv))(r:hp.length<1000000000){a:Int}(m:tH .u64 a)(H:tH .u64 (sV hp a)->Q (.int .u64 (sV hp a)) h) :
  cP CS iD [.ptr lh 0,.int .u64 a] h Q:=by
 refine AB rfl rfl ?_;unfold rh;have s:∀{l o k:Nat},fH k (.ptr l o)=some (.ptr l (o+k)):=eJ _ _ _;have e0:ez (.ptr lh (0+1)) h=some hv:=d.ld i hi rfl;have e:tH .u64 ((hp.length:Nat):Int):=by simp only[tH];omega
 have b:=m;simp only[tH]at b;refine oN e0 (ed (d.len j f) (ed (by rw[jk,ku,JD e]) (TN ?_)));by_cases c:((hp.length:Nat):Int)<=a
 ·refine gw c ?_;rw[WI (by omega)]at H;exact H za
 ·refine gi c (oN e0 ?_);obtain⟨k,rfl⟩:=Z5 b.1;have g:=gP (l:=hp) (i:=k) (by omega);obtain⟨l,o,n,p,q,_⟩:=d.Kj j f g .u64;rw[XE (a:=(k:Int)) (x:=hp[k]) g]at H;exact ed n (ed p (H q))
theorem YI(b:en F h cs)(hi:cs[i]? =some (ev lh Th [rm,hv]))(c:cs[j]? =some (eR (eI .u64) zu hp hv))(d:hp.length<1000000000){a:Int}(f:tH .u64 a)(H:tH .u64 (sV hp a / 4294967296)->Q (.I (sV hp a / 4294967296)) h) :
  cP CS kI [.ptr lh 0,.int .u64 a] h Q:=by
 refine Az rfl rfl ?_;unfold qN;refine KY b hi c d f λg=>?_;generalize sV hp a=w at*;simp only[tH]at g;have e:w.fdiv 4294967296=w / 4294967296:=Int.fdiv_eq_ediv_of_nonneg _ (by decide);refine ed (show eo .shr 83 (.int .u64 w) (.int .u64 32)=some (.int .u64 (w.fdiv 4294967296)) from rfl) ?_;rw[e];refine ed (by rw[jk,oV (by simp only[tH];omega)]) (H ?_);simp only[tH];omega
theorem Wz(c:en F h cs)(hi:cs[i]? =some (ev lh Th [rm,hv]))(d:cs[j]? =some (eR (eI .u64) zu hp hv))(f:hp.length<1000000000){a:Int}(g:tH .u64 a)(H:tH .u64 (sV hp a % 4294967296)->Q (.I (sV hp a % 4294967296)) h) :
  cP CS jJ [.ptr lh 0,.int .u64 a] h Q:=by
 refine Bj rfl rfl ?_;unfold tm;refine KY c hi d f g λb=>?_;generalize sV hp a=w at*;simp only[tH]at b;have e:w.tmod 4294967296=w % 4294967296:=Int.tmod_eq_emod_of_nonneg b.1;refine ed (show eo .rem 83 (.int .u64 w) (.int .u64 4294967296)=some (.int .u64 (w.tmod 4294967296)) from rfl) ?_;rw[e];refine ed (by rw[jk,oV (by simp only[tH];omega)]) (H ?_);simp only[tH];omega
theorem Sr(d:en F h cs)(hi:cs[i]? =some (ev lh Th [rm,hv]))(f:cs[j]? =some (eR (eI .u64) zu hp hv))(w:hp.length<1000000000){a x:Int}(n:tH .u64 a)(p:tH .u64 x)(H:∀h' r,Sn F h F h'->en F h' (cs.set j (eR (eI .u64) zu (Mn hp a x) hv))->Q (.bool r) h') :
  cP CS iX [.ptr lh 0,.int .u64 a,.int .u64 x] h Q:=by
 refine Bh rfl rfl ?_;unfold sX;have A:∀{l o k:Nat},fH k (.ptr l o)=some (.ptr l (o+k)):=eJ _ _ _;have e0:ez (.ptr lh (0+1)) h=some hv:=d.ld i hi rfl;have g:tH .u64 ((hp.length:Nat):Int):=by simp only[tH];omega
 have b:=n;simp only[tH]at b;have same:cs.set j (eR (eI .u64) zu hp hv)=cs:=by
  obtain⟨B,m⟩:=iR.1 f;rw[<-m,List.set_getElem_self]
 refine ed (gQ ..) (ed (a:= .bool (decide (a=0\/((hp.length:Nat):Int)<=a))) ?_ (js ?_))
 ·simp only[fj,fX,eJ,e0,d.len j f,jk,ku,JD g,mW,xQ];congr 2;rw[Vw,KM,z8,AW,AW]
 by_cases c:a=0\/((hp.length:Nat):Int)<=a
 ·refine gw (J6 c) (H h false (Sn.refl _ _) ?_);have:Mn hp a x=hp:=by
   unfold Mn;by_cases z:a=0
   ·rw[if_pos z]
   ·rw[if_neg z,List.set_eq_of_length_le (by omega)]
  rw[this,same];exact d
 ·refine gi (by rw[AW];exact c) (oN e0 ?_);obtain⟨k,rfl⟩:=Z5 b.1;obtain⟨l,o,m,q,s,_,t,v⟩:=d.Ig j f (k:=k) (y:=x) (u:= .int .u64 x) (by omega) rfl rfl ⟨rfl,p⟩;refine ed (show gD 1 hv (.int .u64 (k:Nat))=_ from q) ?_;rw[s,ei];refine H m true v ?_;have:Mn hp (k:Int) x=hp.set k x:=by
   unfold Mn;rw[if_neg (λe=>c (.inl e))];rfl
  rw[this];exact t
theorem Mj{hp:List Int}{a x:Int}:(Mn hp a x).length=hp.length:=by
 unfold Mn;split
 ·rfl
 ·rw[Mi]
end
open Un Dm
abbrev Yh:Nat:=106
def Yd:qA Fw where
 sz:=4
 rel F h x cs:=∃a b,cs=[.I x.func,.I x.pc,a,b]/\iC (eI .u64) F h x.locals a/\iC (eI .u64) F h x.stack b
 len:=λ⟨_,_,h,_⟩=>by subst h;rfl
 one:=λ⟨_,_,h,c,d⟩=>by subst h;simp only[eQ,c.one,d.one];rfl
 fk:=λe ⟨a,b,h,c,d⟩=>⟨a,b,h,c.fk e,d.fk e⟩
 mono:=λf ⟨a,b,h,c,d⟩=>⟨a,b,h,c.mono f,d.mono f⟩
def Cl(ef:List Int)(v:Nat):Int:=ef.getD v 0
def Q5(ef:List Int)(f:Fm):Fw:=⟨f.func,f.pc,f.locals.map (Cl ef),f.stack.map (Cl ef)⟩
theorem IK{ef:List Int}{v:Nat}(h:v<ef.length):ef[v]? =some (Cl ef v):=by
 unfold Cl;rw[BO,gP h];rfl
theorem zY(w:Int):jt 83 1 1 (.int .u64 0) [(0,.int .u64 w)]=some (.cells 83 1 true false [.int .u64 w],λl=> .slice l 0 1):=rfl
section
variable{F F':Nat->Prop}{h h':Hp}{cs ds:List Pc}{Q:fy}{u:U}{vv vb vs mS:V}{ef:List Int}{j:Nat}
theorem Pc.BV(H:en F h cs)(i:Nat){l ty:Nat}{ws:List V}(hi:cs[i]? =some (ev l ty ws)):l<h.next:=(H.ok i _ hi).2.1
theorem QZ(g:Good u)(H0:en F h cs)(hu:A0 F h u vv vb vs)(hj:cs[j]? =some (eR (eI .u64) zu ef mS))(hl:ef.length=u.ef.length){st:Nat}{fs:List Fm}(z:u.eh[st]? =some fs){jM steps:Int}
  (H:∀F' h' w,Sn F h F' h'->en F' h' cs->iC Yd F' h' (fs.map (Q5 ef)) w->Q (.agg [.I 1,.I st,.I jM,w,.I steps]) h') :
  cP CS iT [.agg (uC u vv vb vs),mS,.I st,.I jM,.I steps] h Q:=by
 refine CY rfl rfl ?_;unfold vY;have pf:∀{l o k:Nat},fH k (.ptr l o)=some (.ptr l (o+k)):=eJ _ _ _;have bq:∀{e sz:Nat} {a b:Bool} {cs:List V},O.beq (.cells e sz a b cs) (.cells e sz a b cs)=true:=O.gO _ _ _ _ _;refine mH H0 hu.one λh1 H1 s1=>zO H1 λh2 H2 s2=>?_;generalize h.next=lu at*;generalize h1.next=lr at*;refine ed (show _=some (.agg [.I 1,.I st,.I jM,.ee,.I steps]) from rfl) ?_;refine iG H2 rfl rfl rfl λh3 H3 s3=>?_;generalize h2.next=lx at*;have am:=(s1.trans s2).trans s3;have aG:=zg g st fs z;have W:∀v∈gJ fs,v<u.ef.length:=Cj g z
 obtain ⟨J,hJ⟩:∃J:Nat->LP,J=λk l h'=>∃(F':Nat->Prop) (i:Nat) (w:V),l=[mS,.I st,.ptr lu 0,.ptr lr 0,.ptr lx 0,.I i]/\i+k=fs.length/\Sn F h F' h'/\
   en F' h' (eR Yd Yh ((fs.take i).map (Q5 ef)) w::ev lx 76 [.I 1,.I st,.I jM,w,.I steps]::ev lr 76 [.I 0,.I 0,.I 0,.ee,.I 0]::ev lu 30 (uC u vv vb vs)::cs):=⟨_,rfl⟩
 refine AP J (λk X x2 x5 Y Z aa h4 hi=>?_) (k:=fs.length) ?_;rotate_left
 ·rw[hJ];exact⟨F,0,.ee,rfl,by omega,am,H3.add (p:=eR Yd Yh [] .ee) .nil λ_ h=>h⟩
 rw[hJ]at hi;obtain⟨P,i,w,⟨⟩,hk,s4,R⟩:=hi;clear H3 H2 H1;unfold rj;have u4:=hu.since s4;obtain⟨l1,o1,f,aH,X,_,x3,xf⟩:=u4.st z;have x3:ez (.ptr l1 (o1+0)) h4=some f:=x3;refine oF (R.ld 3 rfl rfl) (ed X (oF x3 (ed xf.len ?_)));by_cases hi:i<fs.length;rotate_left
 ·refine iI ?_;obtain rfl:i=fs.length:=by omega
  rw[Jh]at R;obtain⟨C,s5,r5⟩:=R.lO 0 rfl;simp only[iY]at C;have o1:gv [V.I 1,.I st,.I jM,w,.I steps]=true:=by simp only[eQ,r5.one];rfl
  refine ed (C.wS 1 rfl rfl) ?_;obtain⟨h6,e6,_,S,s6⟩:=C.XP 2 (n:=5) (ws:=[.I 1,.I st,.I jM,w,.I steps]) rfl rfl rfl o1;rw[e6,ei];simp only[iY,lj]at S;refine ed (S.wS 2 rfl rfl) ?_;exact H _ h6 w ((s4.trans s5).trans s6) S.tail.tail.tail.tail (r5.since s6)
 refine gG ?_;have hx:=gP hi;have an:=M9 hi;have D:=zq hi;generalize fs[i]=x at*;have ao:∀v∈x.locals,v<ef.length:=λv hv=>by rw[hl];exact W v (Ni.2 ⟨x,D,Rh _ hv⟩)
 have ap:∀v∈x.stack,v<ef.length:=λv hv=>by rw[hl];exact W v (Ni.2 ⟨x,D,wBW _ hv⟩)
 obtain⟨_,_,hf⟩:=g.st st fs z;obtain⟨aE,aF,_⟩:=hf x D;obtain⟨l2,o2,xa,xb,_,y1,y2,ya,yb⟩:=xf.oA hx;refine oF (R.ld 3 rfl rfl) (ed X (oF x3 (ed y1 (ed y2 ?_))));refine iG R rfl rfl (by simp only[MH,eQ,ya.one,yb.one];rfl) λh5 C s5=>?_;generalize h4.next=T at*;refine oF (C.ld 0 rfl rfl) (oF (C.ld 0 rfl rfl) ?_);refine ed (show _=some (.agg [.I x.func,.I x.pc,.ee,.ee]) from rfl) ?_;refine iG C rfl rfl rfl λh6 S s6=>?_;generalize h5.next=U at*;have ab:=s5.trans s6;have jv:∀{a b c d e f g:Pc},(a::b::c::d::e::f::g::cs)[j+7]? =some (eR (eI .u64) zu ef mS):=λ{_ _ _ _ _ _ _}=>by simpa using hj
 have aq:∀{a b c d e f g k:Pc},(a::b::c::d::e::f::g::k::cs)[j+8]? =some (eR (eI .u64) zu ef mS):=λ{_ _ _ _ _ _ _ _}=>by simpa using hj
 obtain ⟨J1,E⟩:∃J1:Nat->LP,J1=λk l h'=>∃(n:Nat) (r:V),l=[mS,.I st,.ptr lu 0,.ptr lr 0,.ptr lx 0,.I i,.ptr T 0,.ptr U 0,.I n]/\n+k=x.locals.length/\Sn P h6 P h'/\
   en P h' (eR (eI .u64) zu ((x.locals.take n).map (Cl ef)) r::ev U 106 [.I x.func,.I x.pc,r,.ee]::ev T 57 (MH x xa xb)::eR Yd Yh ((fs.take i).map (Q5 ef)) w::ev lx 76 [.I 1,.I st,.I jM,w,.I steps]::ev lr 76 [.I 0,.I 0,.I 0,.ee,.I 0]::ev lu 30 (uC u vv vb vs)::cs):=⟨_,rfl⟩
 refine Al J1 (λk1 X x2 x5 Y Z aa ar au aw h7 ac=>?_) (k:=x.locals.length) ?_;rotate_left
 ·rw[E];exact⟨0,.ee,rfl,by omega,Sn.refl _ _,S.add (p:=eR (eI .u64) zu [] .ee) .nil λ_ h=>h⟩
 clear S C R;rw[E]at ac;obtain⟨n,r,⟨⟩,aI,s7,s⟩:=ac;have G:=(ya.since ab).since s7;unfold sx;refine oF (s.ld 2 rfl rfl) (ed G.len ?_);by_cases hn:n<x.locals.length
 ·refine gG ?_;have hv:=gP hn;have t:=M9 hn;have I:=ao _ (zq hn);generalize x.locals[n]=v at*;obtain⟨l3,o3,K,p1,p2⟩:=G.nat hv .i64;obtain⟨l4,o4,q1,q2,q3,q4⟩:=s.Kj (j+7) jv (IK I) .i64;have c1:ez (.ptr U (0+2)) h7=some r:=s.ld 1 rfl rfl;have c2:ez (.ptr T (0+2)) h7=some xa:=s.ld 2 rfl rfl;refine oF c1 (oF c2 (ed p1 (ed p2 (ed q1 (ed q2 ?_)))));rw[zY,hK];obtain⟨ae,L,e8,n8,q,s8⟩:=s.tU 0 rfl (jM:=8) (BN:=83) (y:=Cl ef v) (w:=[.int .u64 (Cl ef v)]) (ro:=false) ⟨rfl,q3⟩ (by decide) (by decide) (by simp;omega);refine⟨⟨fi _ _,bq⟩,iF q2 (fo _ q4),iF p2 (fo _ (s.fl _ K)),iF c2 (fo _ (Pc.BV s 2 rfl)),iF c1 (fo _ (Pc.BV s 1 rfl)),?_⟩;rw[show fe 83 1 8 r (.slice h7.next 0 1) (h7.new (.cells 83 1 true false [.int .u64 (Cl ef v)]))=_ from e8,ei];simp only[iY]at q;obtain⟨h9,e9,n9,A,s9⟩:=q.st 1 (o:=0+2) (u:=ae) rfl (by simp) (q.one 0 rfl);refine⟨n8,ed pf ?_⟩;rw[e9,ei];simp only[iY,lj]at A;refine⟨n9,fN ⟨k1-1,by omega,?_⟩⟩;rw[E];exact⟨n+1,ae,rfl,by omega,(s7.trans s8).trans s9,by rw[t,Ji];exact A⟩
 refine iI ?_;obtain rfl:n=x.locals.length:=by omega
 rw[Jh]at s;clear G
 obtain ⟨J2,M⟩:∃J2:Nat->LP,J2=λk l h'=>∃(n:Nat) (sw:V),l=[mS,.I st,.ptr lu 0,.ptr lr 0,.ptr lx 0,.I i,.ptr T 0,.ptr U 0,.I n]/\n+k=x.stack.length/\Sn P h7 P h'/\
   en P h' (eR (eI .u64) zu ((x.stack.take n).map (Cl ef)) sw::eR (eI .u64) zu (x.locals.map (Cl ef)) r::ev U 106 [.I x.func,.I x.pc,r,sw]::ev T 57 (MH x xa xb)::eR Yd Yh ((fs.take i).map (Q5 ef)) w::ev lx 76 [.I 1,.I st,.I jM,w,.I steps]::ev lr 76 [.I 0,.I 0,.I 0,.ee,.I 0]::ev lu 30 (uC u vv vb vs)::cs):=⟨_,rfl⟩
 refine Au J2 (λk2 X x2 x5 Y Z aa ar au aw L ag=>?_) (k:=x.stack.length) ?_;rotate_left
 ·rw[M];exact⟨0,.ee,rfl,by omega,Sn.refl _ _,s.add (p:=eR (eI .u64) zu [] .ee) .nil λ_ h=>h⟩
 clear s;rw[M]at ag;obtain⟨n,sw,⟨⟩,aJ,s8,q⟩:=ag;have ah:=(ab.trans s7).trans s8;have ai:=yb.since ah;unfold qV;refine oF (q.ld 3 rfl rfl) (ed ai.len ?_);by_cases hn:n<x.stack.length
 ·refine gG ?_;have hv:=gP hn;have t:=M9 hn;have I:=ap _ (zq hn);generalize x.stack[n]=v at*;obtain⟨l3,o3,K,p1,p2⟩:=ai.nat hv .i64;obtain⟨l4,o4,q1,q2,q3,q4⟩:=q.Kj (j+8) aq (IK I) .i64;have c1:ez (.ptr U (0+3)) L=some sw:=q.ld 2 rfl rfl;have c2:ez (.ptr T (0+3)) L=some xb:=q.ld 3 rfl rfl;refine oF c1 (oF c2 (ed p1 (ed p2 (ed q1 (ed q2 ?_)))));rw[zY,hK];obtain⟨aj,h9,e9,n9,A,s9⟩:=q.tU 0 rfl (jM:=8) (BN:=83) (y:=Cl ef v) (w:=[.int .u64 (Cl ef v)]) (ro:=false) ⟨rfl,q3⟩ (by decide) (by decide) (by simp;omega);refine⟨⟨fi _ _,bq⟩,iF q2 (fo _ q4),iF p2 (fo _ (q.fl _ K)),iF c2 (fo _ (Pc.BV q 3 rfl)),iF c1 (fo _ (Pc.BV q 2 rfl)),?_⟩;rw[show fe 83 1 8 sw (.slice L.next 0 1) (L.new (.cells 83 1 true false [.int .u64 (Cl ef v)]))=_ from e9,ei];simp only[iY]at A;obtain⟨aK,ax,ay,m,B⟩:=A.st 2 (o:=0+3) (u:=aj) rfl (by simp) (A.one 0 rfl);refine⟨n9,ed pf ?_⟩;rw[ax,ei];simp only[iY,lj]at m;refine⟨ay,fN ⟨k2-1,by omega,?_⟩⟩;rw[M];exact⟨n+1,aj,rfl,by omega,(s8.trans s9).trans B,by rw[t,Ji];exact m⟩
 refine iI ?_;obtain rfl:n=x.stack.length:=by omega
 rw[Jh]at q;obtain⟨A,s9,r9⟩:=q.lO 0 rfl;simp only[iY]at A;obtain⟨m,B,Vs⟩:=A.lO 1 rfl;simp only[iY,lj]at m;have r9:=r9.since B;have o4:gv [V.I x.func,.I x.pc,r,sw]=true:=by simp only[eQ,r9.one,Vs.one];rfl
 refine oF (m.ld 5 rfl rfl) (ed (m.wS 2 rfl rfl) ?_);rw[show jt 106 4 1 (.agg [.I 0,.I 0,.ee,.ee]) [(0,.agg [.I x.func,.I x.pc,r,sw])]=_ from pP rfl rfl o4,fE];obtain⟨ak,aL,aA,_,N,aB⟩:=m.tU 4 rfl (jM:=64) (BN:=106) (y:=Q5 ef x) (w:=[.I x.func,.I x.pc,r,sw]) (ro:=false) ⟨r,sw,rfl,Vs,r9⟩ (by decide) (by decide) (by simp;omega);rw[show fe 106 4 64 w (.slice L.next 0 1) (L.new (.cells 106 4 true false [.I x.func,.I x.pc,r,sw]))=_ from aA,ei];simp only[iY,lj]at N;obtain⟨aM,aC,_,al,aD⟩:=N.st 5 (o:=0+3) (u:=ak) rfl (by simp) (N.one 4 rfl);refine ed pf ?_;rw[aC,ei];simp only[iY,lj]at al;refine fN ⟨k-1,by omega,?_⟩;rw[hJ];exact⟨_,i+1,ak,rfl,by omega,((((s4.trans ah).trans s9).trans B).trans aB).trans aD,by rw[an,Ji];exact al.tail.tail.tail.tail⟩
end
