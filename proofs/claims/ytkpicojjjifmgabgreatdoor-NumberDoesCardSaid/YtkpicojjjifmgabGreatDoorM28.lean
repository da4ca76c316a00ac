/- Parts. -/
import Derived.Test.YtkpicojjjifmgabGreatDoorM27
import Derived.Test.YtkpicojjjifmgabGreatDoorM34
import Derived.Test.YtkpicojjjifmgabGreatDoorM33
set_option maxHeartbeats 4000000
namespace Go.Proofs.YtkpicojjjifmgabGreatDoor.Hx
open Un Dm
theorem zaq:P0.underlying eR=some (.int .i64):=by kernel_rfl
theorem UU(a b:Int):E8 eR (.I a) (.I b)=some (a == b):=by
 unfold E8;rw[zaq];rfl
section
variable{u:U}
theorem zK{w:Nat}(h:vD u w):w<u.ej.length:=by
 obtain⟨x,a,_⟩:=h;exact(ki.1 a).1
theorem O5(g:Good u){s:Nat}{fs:List Fm}(a:u.ev[s]? =some fs):∀w∈ik fs,w<u.ej.length:=by
 intro w c;unfold ik at c;obtain⟨f,d,e⟩:=Xr.1 c;obtain⟨_,_,h⟩:=g.st s fs a;obtain⟨_,_,i,j⟩:=h f d;rcases He.1 e with b|b
 ·exact zK (i w b)
 ·exact zK (j w b)
theorem Pg(g:Good u){i:Nat}{x:Vl}(hx:u.ej[i]? =some x):x.op=21\/x.op=20->x.args.length<=700:=by
 have nb:=g.nb;obtain⟨b,k,a⟩:=g.Ef i (ki.1 hx).1 trivial;obtain⟨B,d,e⟩:=id a;rintro(c|c)
 ·rw[(g.KN _ _ _ _ _ a hx c d).2,g.fi b B d,<-pY];have:=pZ g (i:=u.blocks.length) (j:=0) (b:=b) (jO _) (by omega);omega
 ·rw[g.putAt i x hx c];omega
theorem EN(g:Good u)(s:Nat)(fs:List Fm)(a:u.ev[s]? =some fs):fs.length<=30/\∀f∈fs,f.locals.length<=40/\f.stack.length<=60:=by
 obtain⟨_,d,b⟩:=g.st s fs a;exact⟨d,λf c=>⟨(b f c).1,(b f c).2.1⟩⟩
theorem AK(g:Good u){b:Nat}{B:Bk}(a:u.blocks[b]? =some B):B.ej.length<=3000:=by
 have nv:=g.nv;have:=jM u.ej.length B.ej (I5 g a) λv hv=>by
  obtain⟨k,c⟩:=oY.1 hv;exact g.ko v b k ⟨B,a,c⟩
 omega
theorem AU(g:Good u){b:Nat}{B:Bk}(a:u.blocks[b]? =some B):B.fi.length<=700:=by
 have nb:=g.nb;rw[g.fi b B a,<-pY];have:=pZ g (i:=u.blocks.length) (j:=0) (b:=b) (jO _) (by omega);omega
theorem Ei(g:Good u){b:Nat}{B:Bk}(a:u.blocks[b]? =some B):B.next.length<=2:=by
 rcases g.fin b B a with⟨_,h⟩|⟨_,h,_⟩|⟨_,h,_⟩
 ·omega
 ·omega
 ·rw[h];simp
end
open Un Dm
def zh:qp (Vl×V) where
 sz:=6
 rel _ _ x cs:=cs=mF x.1 x.2/\x.2.one=true
 len h:=by rw[h.1];rfl
 one h:=by rw[h.1];simp only[mF,eJ,h.2];rfl
 fj _ h:=h
 mono _ h:=h
def wU:qp (Bk×V) where
 sz:=6
 rel F h x cs:=∃v p,cs=km x.1 v x.2 p/\im eN F h x.1.ej v/\im eN F h x.1.fi p/\x.2.one=true
 len:=λ⟨_,_,h,_⟩=>by subst h;rfl
 one:=λ⟨_,_,h,a,b,c⟩=>by subst h;simp only[km,eJ,a.one,b.one,c];rfl
 fj:=λd ⟨v,p,h,a,b,c⟩=>⟨v,p,h,a.fj d,b.fj d,c⟩
 mono:=λhb ⟨v,p,h,a,b,c⟩=>⟨v,p,h,a.mono hb,b.mono hb,c⟩
def Rr:qp (Fm×V×V) where
 sz:=4
 rel _ _ x cs:=cs=Ll x.1 x.2.1 x.2.2/\x.2.1.one=true/\x.2.2.one=true
 len h:=by rw[h.1];rfl
 one h:=by rw[h.1];simp only[Ll,eJ,h.2.1,h.2.2];rfl
 fj _ h:=h
 mono _ h:=h
section
variable{F F':Nat->Prop}{h h':Hp}{cs:List Pc}{Q:fD}{u:U}{vv vb vs:V}
theorem eo.empty(H:eo F h cs)(i:Nat){l:Nat}(hi:cs[i]? =some (eQ l eR [])):eo F h (cs.set i (fg eN eR [] (.slice l 0 0))):=by
 have a:=H.ok i _ hi;exact H.swap hi (.inr ⟨l,[],rfl,a.2.1,a.2.2,a.1,trivial,rfl⟩) λm e=>e.symm
structure X7 (vs:List Vl) (xs:List (Vl×V)) (fa:Nat->Option (List Nat×V)):Prop where
 fst:xs.map Prod.fst=vs
 row:∀i x w,xs[i]? =some (x,w)->fa i=some (x.args,w)
 out:∀i,xs.length<=i->fa i=none
structure Xu (bs:List Bk) (xs:List (Bk×V)) (fn:Nat->Option (List Nat×V)):Prop where
 fst:xs.map Prod.fst=bs
 row:∀i x w,xs[i]? =some (x,w)->fn i=some (x.next,w)
 out:∀i,xs.length<=i->fn i=none
abbrev KF:=Nat×Nat×Bool
structure CpF (s:Nat) (fs:List Fm) (xs:List (Fm×V×V)) (fl:KF->Option (List Nat×V)):Prop where
 fst:xs.map Prod.fst=fs
 loc:∀k x l w,xs[k]? =some (x,l,w)->fl (s,k,false)=some (x.locals,l)/\fl (s,k,true)=some (x.stack,w)
 out:∀k b,xs.length<=k->fl (s,k,b)=none
structure CpS (ss:List (List Fm)) (xs:List (List (Fm×V×V))) (fl:KF->Option (List Nat×V)):Prop where
 fst:xs.map (λl=>l.map Prod.fst)=ss
 loc:∀s l k x a w,xs[s]? =some l->l[k]? =some (x,a,w)->fl (s,k,false)=some (x.locals,a)/\fl (s,k,true)=some (x.stack,w)
 out:∀s k b,xs.length<=s->fl (s,k,b)=none
theorem X7.snoc{vs:List Vl}{xs:List (Vl×V)}{fa:Nat->Option (List Nat×V)}(c:X7 vs xs fa)(x:Vl)(w:V):X7 (vs++[x]) (xs++[(x,w)]) (up fa xs.length (some (x.args,w))):=by
 refine⟨by rw[Lj,c.fst];rfl,λi y v hi=>?_,λi hi=>?_⟩
 ·by_cases e:i<xs.length
  ·rw[Rk e]at hi;rw[jk _ _ (by omega)];exact c.row i y v hi
  ·rw[VG (by omega)]at hi;have a:i-xs.length=0:=by have:=(ki.1 hi).1;simp at this;omega
   rw[a]at hi;cases hi;obtain rfl:i=xs.length:=by omega
   exact jn _ _ _
 ·rw[KC]at hi;rw[jk _ _ (by simp at hi;omega)];exact c.out i (by simp at hi;omega)
theorem Xu.snoc{bs:List Bk}{xs:List (Bk×V)}{fn:Nat->Option (List Nat×V)}(c:Xu bs xs fn)(x:Bk)(w:V):Xu (bs++[x]) (xs++[(x,w)]) (up fn xs.length (some (x.next,w))):=by
 refine⟨by rw[Lj,c.fst];rfl,λi y v hi=>?_,λi hi=>?_⟩
 ·by_cases e:i<xs.length
  ·rw[Rk e]at hi;rw[jk _ _ (by omega)];exact c.row i y v hi
  ·rw[VG (by omega)]at hi;have a:i-xs.length=0:=by have:=(ki.1 hi).1;simp at this;omega
   rw[a]at hi;cases hi;obtain rfl:i=xs.length:=by omega
   exact jn _ _ _
 ·rw[KC]at hi;rw[jk _ _ (by simp at hi;omega)];exact c.out i (by simp at hi;omega)
theorem eo.re(H:eo F h cs){ds:List Pc}(m:Nat->Nat)(a:∀i c,ds[i]? =some c->cs[m i]? =some c)(b:∀i j,i<ds.length->j<ds.length->m i=m j->i=j):eo F h ds where
 fl:=H.fl
 ok i c hc:=H.ok (m i) c (a i c hc)
 Ew i j c d hc hd hn:=H.Ew (m i) (m j) c d (a i c hc) (a j d hd) λe=>hn (b i j (ki.1 hc).1 (ki.1 hd).1 e)
theorem eo.zdE{a b c d:Pc}(H:eo F h (a::b::c::d::cs)):eo F h (b::d::a::cs):=
 H.re (λi=>match i with|0=>1|1=>3|2=>0|n+3=>n+4) (λi c hc=>match i,hc with|0,hc=>hc|1,hc=>hc|2,hc=>hc|n+3,hc=>hc) λi j _ _ e=>by
  match i,j with
  |0,0|1,1|2,2=>rfl
  |0,1|0,2|1,0|1,2|2,0|2,1=>simp at e
  |0,n+3|1,n+3|2,n+3|n+3,0|n+3,1|n+3,2=>simp at e;try omega
  |n+3,k+3=>simp at e;omega
theorem eo.zaW{ι:Type} [DecidableEq ι] {ty:Nat}{f:ι->Option (List Nat×V)}{xs ys:List Nat}{v w:V}{c:Pc}(H:eo F h (fg eN ty xs v::fg eN ty ys w::c::fX ty f::cs)){i j:ι}(hi:f i=Option.none)(a:f j=Option.none)(b:j≠i) :
  eo F h (fX ty (up (up f i (some (ys,w))) j (some (xs,v)))::cs):=
 (H.zdE.QL hi).sw.QL (by rw[jk _ _ b];exact a)
theorem eo.zd5{a b c d e f x y z:Pc}(H:eo F h (a::b::c::d::e::f::x::y::z::cs)):eo F h (f::d::b::e::c::a::cs):=
 H.re (λi=>match i with|0=>5|1=>3|2=>1|3=>4|4=>2|5=>0|n+6=>n+9) (λi c hc=>match i,hc with|0,hc=>hc|1,hc=>hc|2,hc=>hc|3,hc=>hc|4,hc=>hc|5,hc=>hc|n+6,hc=>hc) λi j _ _ e=>by
   have g:∀i:Nat,(match i with|0=>5|1=>3|2=>1|3=>4|4=>2|5=>0|n+6=>n+9:Nat)=(if i<6 then[5,3,1,4,2,0].getD i 0 else i+3):=λi=>by
     match i with
     |0|1|2|3|4|5=>rfl
     |n+6=>rw[if_neg (by omega)]
   simp only[g]at e;by_cases hi:i<6
   ·by_cases hj:j<6
    ·rw[if_pos hi,if_pos hj]at e
     exact(by decide:∀i,i<6->∀j,j<6->[5,3,1,4,2,0].getD i 0=[5,3,1,4,2,0].getD j 0->i=j) i hi j hj e
    ·rw[if_pos hi,if_neg hj]at e
     have:[5,3,1,4,2,0].getD i 0<6:=(by decide:∀i,i<6->[5,3,1,4,2,0].getD i 0<6) i hi;omega
   ·by_cases hj:j<6
    ·rw[if_neg hi,if_pos hj]at e
     have:[5,3,1,4,2,0].getD j 0<6:=(by decide:∀i,i<6->[5,3,1,4,2,0].getD i 0<6) j hj;omega
    ·rw[if_neg hi,if_neg hj]at e
     omega
theorem CpF.snoc{s:Nat}{fs:List Fm}{xs:List (Fm×V×V)}{fl:KF->Option (List Nat×V)}(c:CpF s fs xs fl)(x:Fm)(l w:V):CpF s (fs++[x]) (xs++[(x,l,w)]) (up (up fl (s,xs.length,false) (some (x.locals,l))) (s,xs.length,true) (some (x.stack,w))):=by
 refine⟨by rw[Lj,c.fst];rfl,λi y a b hi=>?_,λi b hi=>?_⟩
 ·by_cases e:i<xs.length
  ·rw[Rk e]at hi;have f:=c.loc i y a b hi;rw[jk _ _ (by simp),jk _ _ (by simp;omega),jk _ _ (by simp;omega),jk _ _ (by simp)];exact f
  ·rw[VG (by omega)]at hi;have d:i-xs.length=0:=by have:=(ki.1 hi).1;simp at this;omega
   rw[d]at hi;cases hi;obtain rfl:i=xs.length:=by omega
   exact⟨by rw[jk _ _ (by simp),jn],jn _ _ _⟩
 ·rw[KC]at hi;simp at hi;rw[jk _ _ (by simp;omega),jk _ _ (by simp;omega)];exact c.out i b (by omega)
theorem CpS.snoc{ss:List (List Fm)}{xs:List (List (Fm×V×V))} {fl d:KF->Option (List Nat×V)}(c:CpS ss xs fl){fs:List Fm}{ys:List (Fm×V×V)} (c':CpF xs.length fs ys d)(f:∀s k b,s≠xs.length->d (s,k,b)=fl (s,k,b)):CpS (ss++[fs]) (xs++[ys]) d:=by
 refine⟨by rw[Lj,c.fst,<-c'.fst];rfl,λi l k y a b hi h=>?_,λi k b hi=>?_⟩
 ·by_cases e:i<xs.length
  ·rw[Rk e]at hi;rw[f _ _ _ (by omega),f _ _ _ (by omega)];exact c.loc i l k y a b hi h
  ·rw[VG (by omega)]at hi;have g:i-xs.length=0:=by have:=(ki.1 hi).1;simp at this;omega
   rw[g]at hi;cases hi;obtain rfl:i=xs.length:=by omega
   exact c'.loc k y a b h
 ·rw[KC]at hi;simp at hi;rw[f _ _ _ (by omega)];exact c.out i k b (by omega)
def OV(u:U):Prop:=∀(v:Nat)(x:Vl),u.ej[v]? =some x->x.args.length<=700
structure U4 (u:U):Prop where
 nv:u.ej.length<=3000
 nb:u.blocks.length<=300
 ns:u.ev.length<=1000
 args:OV u
 pE:∀(b:Nat) (B:Bk),u.blocks[b]? =some B->B.ej.length<=3000/\B.fi.length<=700/\B.next.length<=2
 st:∀(s:Nat) (fs:List Fm),u.ev[s]? =some fs->fs.length<=30/\∀f∈fs,f.locals.length<=40/\f.stack.length<=60
theorem Fe(g:Good u)(b:OV u):U4 u:=⟨g.nv,g.nb,g.ns,b,λ_ _ a=>⟨AK g a,AU g a,Ei g a⟩,EN g⟩
theorem Qf(g:U4 u)(H0:eo F h cs)(hu:wW F h u vv vb vs)
  (H:∀F' h' wv wb ws (xs:List (Vl×V)) (bs:List (Bk×V)) (ss:List (List (Fm×V×V))) fa fn fl,Sn F h F' h'->X7 u.ej xs fa->Xu u.blocks bs fn->CpS u.ev ss fl->
   eo F' h' (fg zh hH xs wv::fg wU fS bs wb::fg (eL Rr) mO ss ws::fX eR fa::fX eR fn::fX eR fl::cs)->Q (.agg (uC u wv wb ws)) h') :
  cP CS vB [.agg (uC u vv vb vs)] h Q:=by
 refine Ub rfl rfl ?_;unfold Nu;have nv:=g.nv;refine jH H0 hu.one λh1 H1 s1=>?_;rw[fE];obtain⟨H2,s2⟩:=H1.Aw gR [.I 0,.I 0,.ei,.ei,.ei];have H2:eo F (h1.new (.cells 30 1 true false [V.I 0,.I 0,.ei,.ei,.ei])) (eQ h1.next 30 [V.I 0,.I 0,.ei,.ei,.ei]::eQ h.next 30 (uC u vv vb vs)::cs):=H2;have s2:Sn F h1 F (h1.new (.cells 30 1 true false [V.I 0,.I 0,.ei,.ei,.ei])):=s2;generalize h1.new (.cells 30 1 true false [V.I 0,.I 0,.ei,.ei,.ei])=h2 at*;generalize h.next=l1 at*;generalize h1.next=l2 at*;refine oF (H2.ld 1 rfl rfl) (oF (H2.ld 1 rfl rfl) (eh (show _=some (V.agg [.I u.func,.I u.pc,.ei,.ei,.ei]) from rfl) ?_));refine gZ H2 rfl rfl rfl λh3 H3 s3=>?_;generalize h2.next=l3 at*;have ar:=(s1.trans s2).trans s3;have u3:=hu.since ar;refine oF (H3.ld 2 rfl rfl) (eh u3.v.len ?_)
 have H3:eo F h3 (fX eR (λ_:Nat=>Option.none)::fg zh hH [] .ei::eQ l3 30 [.I u.func,.I u.pc,.ei,.ei,.ei]::eQ l2 30 [.I 0,.I 0,.ei,.ei,.ei]::eQ l1 30 (uC u vv vb vs)::cs):=
  (H3.add (p:=fg zh hH [] .ei) .nil λ_ h=>h).XB
 refine OO (λk l h'=>∃(i:Nat) (xs:List (Vl×V)) (fa:Nat->Option (List Nat×V)) (wv:V),l=[.ptr l1 0,.ptr l2 0,.ptr l3 0,vv,.I u.ej.length,.I i]/\i+k=u.ej.length/\Sn F h3 F h'/\xs.length=i/\X7 (u.ej.take i) xs fa/\
  eo F h' (fX eR fa::fg zh hH xs wv::eQ l3 30 [.I u.func,.I u.pc,wv,.ei,.ei]::eQ l2 30 [.I 0,.I 0,.ei,.ei,.ei]::eQ l1 30 (uC u vv vb vs)::cs)) ?_ (k:=u.ej.length)
  ⟨0,[],λ_=>Option.none,.ei,rfl,by omega,Sn.refl _ _,rfl,⟨rfl,λ_ _ _ h=>by simp at h,λ_ _=>rfl⟩,H3⟩
 rintro k _ _ _ _ _ _ h4 ⟨i,xs,fa,wv,⟨⟩,hk,s4,au,hc,H4⟩;unfold IU;have u4:=u3.since s4;by_cases hi:i<u.ej.length
 ·refine gK ?_;have hx:=iy hi;have M:u.ej.take (i+1)=u.ej.take i++[u.ej[i]]:=MU hi;generalize u.ej[i]=x at*;obtain⟨lx,ox,w,_,x1,x2,xw,_⟩:=u4.val hx;refine eh x1 (eh x2 ?_);refine gZ H4 rfl rfl (by simp only[mF,eJ,xw.one];rfl) λT H5 s5=>?_;generalize h4.next=lc at*;rw[DI,fE];obtain⟨G,I⟩:=H5.SB (E:=eN) (xs:=[]) (ws:=[]) (n:=0) eR rfl trivial rfl;have G:eo F (T.new (.cells 3 1 true false [])) (fg eN eR [] (.slice T.next 0 0)::eQ lc 34 (mF x w)::_):=G;have I:Sn F T F (T.new (.cells 3 1 true false [])):=I;generalize T.new (.cells 3 1 true false [])=h6 at*;refine oF (G.ld 1 rfl rfl) ?_;have aE:=g.args i x hx;obtain⟨a,C,e7,_,J,s7⟩:=G.Nf 0 rfl (jP:=8) ((xw.since s5).since I) (by decide) (by decide) (by simp;omega);have aF:fh 3 1 8 (.slice T.next 0 0) w h6=some (.val a C):=e7;rw[aF,en];simp only[ji,OG]at J;have d:=J.one 0 rfl;obtain⟨U,e8,_,t,s8⟩:=J.st 1 (o:=4) (u:=a) rfl (by simp[mF]) d;refine eh (fM _ _ _) ?_;have aG:gJ 1 (.ptr lc (0+4)) a C=some (.val .undef U):=by rw[zO];exact e8
  rw[aG,en];simp only[ji,lO]at t;have t:eo F U (fg eN eR x.args a::eQ lc 34 (mF x a)::fX eR fa::fg zh hH xs wv::eQ l3 30 [.I u.func,.I u.pc,wv,.ei,.ei]::_):=t;refine oF (t.ld 4 rfl rfl) (eh (t.pC 1 rfl rfl) ?_);rw[nW (sz:=6) (w:=mF x a) rfl rfl (by simp only[mF,eJ,d];rfl),fE];obtain⟨W,h9,e9,_,m,s9⟩:=t.rU 3 rfl (jP:=64) (zL:=34) (y:=(x,a)) (w:=mF x a) (ro:=false) ⟨rfl,d⟩ (by decide) (by decide) (by omega);have aH:fh 34 6 64 wv (.slice U.next 0 1) (U.new (.cells 34 6 true false (mF x a)))=some (.val W h9):=e9;rw[aH,en];simp only[ji,lO]at m;obtain⟨X,aI,_,c,z⟩:=m.st 4 (o:=2) (u:=W) rfl (by simp) (m.one 3 rfl);refine eh (fM _ _ _) ?_;have aw:gJ 1 (.ptr l3 (0+2)) W h9=some (.val .undef X):=by rw[zO];exact aI
  rw[aw,en];simp only[ji,lO]at c;have Y:=c.Kk.QL (i:=i) (hc.out i (by omega));refine fL ⟨k-1,by omega,i+1,xs++[(x,a)],up fa i (some (x.args,a)),W,rfl,by omega,((((s4.trans s5).trans I).trans s7).trans s8).trans (s9.trans z),by simp[au],?_,Y⟩;rw[M];have:=hc.snoc x a
  rwa [au]at this
 refine iQ ?_;obtain rfl:i=u.ej.length:=by omega
 rw[Ki]at hc;have nb:=g.nb;refine oF (H4.ld 4 rfl rfl) (eh u4.b.len ?_);clear hk k
 have H4:eo F h4 (fX eR (λ_:Nat=>Option.none)::fg wU fS [] .ei::fX eR fa::fg zh hH xs wv::eQ l3 30 [.I u.func,.I u.pc,wv,.ei,.ei]::eQ l2 30 [.I 0,.I 0,.ei,.ei,.ei]::eQ l1 30 (uC u vv vb vs)::cs):=
  (H4.add (p:=fg wU fS [] .ei) .nil λ_ h=>h).XB
 refine OX (λk l h'=>∃(F':Nat->Prop) (i:Nat) (bs:List (Bk×V)) (fn:Nat->Option (List Nat×V)) (wb:V),l=[.ptr l1 0,.ptr l2 0,.ptr l3 0,vb,.I u.blocks.length,.I i]/\i+k=u.blocks.length/\Sn F h4 F' h'/\bs.length=i/\Xu (u.blocks.take i) bs fn/\
  eo F' h' (fX eR fn::fg wU fS bs wb::fX eR fa::fg zh hH xs wv::eQ l3 30 [.I u.func,.I u.pc,wv,wb,.ei]::eQ l2 30 [.I 0,.I 0,.ei,.ei,.ei]::eQ l1 30 (uC u vv vb vs)::cs)) ?_ (k:=u.blocks.length)
  ⟨F,0,[],λ_=>Option.none,.ei,rfl,by omega,Sn.refl _ _,rfl,⟨rfl,λ_ _ _ h=>by simp at h,λ_ _=>rfl⟩,H4⟩
 rintro k _ _ _ _ _ _ T ⟨Z,i,bs,fn,wb,⟨⟩,hk,s5,ax,aa,H5⟩;unfold IL;have u5:=u4.since s5;by_cases hi:i<u.blocks.length
 ·refine gK ?_;have hB:=iy hi;have M:u.blocks.take (i+1)=u.blocks.take i++[u.blocks[i]]:=MU hi;generalize u.blocks[i]=B at*;have aR:=(g.pE i B hB).1;have aS:=(g.pE i B hB).2.1;have aT:=(g.pE i B hB).2.2;obtain⟨lx,ox,bv,bn,bp,_,x1,x2,iv,iN,ip,_⟩:=u5.pE hB;refine eh x1 (eh x2 ?_);refine gZ H5 rfl rfl (by simp only[km,eJ,iv.one,iN.one,ip.one];rfl) λh6 G I=>?_;generalize T.next=lc at*;have e:∀{h:Hp} {cs:List Pc},eo Z h cs->eo Z (h.new (.cells 3 1 true false [])) (eQ h.next 3 []::cs)/\Sn Z h Z (h.new (.cells 3 1 true false [])):=λH=>H.Aw 3 [];rw[DI,hX];obtain⟨J,s7⟩:=e G;generalize h6.new (.cells 3 1 true false [])=C at*;refine oF (J.ld 1 rfl rfl) ?_;rw[hX];obtain⟨t,s8⟩:=e J;generalize C.new (.cells 3 1 true false [])=U at*;refine oF (t.ld 2 rfl rfl) ?_;rw[hX];obtain⟨m,s9⟩:=e t;generalize U.new (.cells 3 1 true false [])=h9 at*;generalize h6.next=ra at*;generalize C.next=rb at*;generalize U.next=rc at*;refine oF (m.ld 3 rfl rfl) ?_;have ab:=(s7.trans s8).trans s9;refine⟨⟨m.get 0 rfl,bq⟩,m.ld 3 rfl rfl,⟨m.get 1 rfl,bq⟩,m.ld 3 rfl rfl,⟨m.get 2 rfl,bq⟩,?_⟩;have aJ:=(iv.since I).since ab;have aK:=(iN.since I).since ab;have aL:=(ip.since I).since ab;have m:=m.empty 2 rfl;simp only[ji,lO]at m;obtain⟨a,hA,eA,nA,q,sA⟩:=m.Nf 2 rfl (jP:=8) aJ (by decide) (by decide) (by simp;omega);have aj:fh 3 1 8 (.slice ra 0 0) bv h9=some (.val a hA):=eA;rw[aj,en];simp only[ji,lO,OG]at q;refine⟨nA,eh (fM _ _ _) ⟨q.ld 3 rfl rfl,⟨q.get 0 rfl,bq⟩,q.ld 3 rfl rfl,⟨q.get 1 rfl,bq⟩,?_⟩⟩;have q:=q.empty 1 rfl;simp only[ji,lO]at q;obtain⟨K,hC,eC,nC,L,sC⟩:=q.Nf 1 rfl (jP:=8) (aK.since sA) (by decide) (by decide) (by simp;omega);have ak:fh 3 1 8 (.slice rb 0 0) bn hA=some (.val K hC):=eC;rw[ak,en];simp only[ji,lO,OG]at L;refine⟨nC,L.ld 3 rfl rfl,⟨L.get 0 rfl,bq⟩,?_⟩;have L:=L.empty 0 rfl;simp only[ji,lO]at L;obtain⟨vp,hD,eD,nD,HD,sD⟩:=L.Nf 0 rfl (jP:=8) ((aL.since sA).since sC) (by decide) (by decide) (by simp;omega);have aM:fh 3 1 8 (.slice rc 0 0) bp hC=some (.val vp hD):=eD;rw[aM,en];simp only[ji,lO,OG]at HD;have d:=HD.one 2 rfl;have al:=HD.one 1 rfl;have ay:=HD.one 0 rfl;obtain⟨hE,eE,nE,HE,sE⟩:=HD.st 3 (o:=0) (u:=a) rfl (by simp[km]) d;have am:gJ 1 (.ptr lc (0+0)) a hD=some (.val .undef hE):=eE;refine⟨nD,?_⟩;rw[am,en];simp only[ji,lO]at HE;obtain⟨hG,eG,nG,HG,sG⟩:=HE.st 3 (o:=3) (u:=K) rfl (by simp[km]) al;have an:gJ 1 (.ptr lc (0+3)) K hE=some (.val .undef hG):=by rw[zO];exact eG
  refine⟨nE,eh (fM _ _ _) ?_⟩;rw[an,en];simp only[ji,lO]at HG;obtain⟨hI,eI,nI,HI,sI⟩:=HG.st 3 (o:=4) (u:=vp) rfl (by simp[km]) ay;have aN:gJ 1 (.ptr lc (0+4)) vp hG=some (.val .undef hI):=by rw[zO];exact eI
  refine⟨nG,eh (fM _ _ _) ?_⟩;rw[aN,en];simp only[ji,lO]at HI;have HI:eo Z hI (fg eN eR B.fi vp::fg eN eR B.next K::fg eN eR B.ej a::eQ lc 45 (km B a K vp)::fX eR fn::fg wU fS bs wb::fX eR fa::fg zh hH xs wv::eQ l3 30 [.I u.func,.I u.pc,wv,wb,.ei]::_):=HI;refine⟨nI,oF (HI.ld 8 rfl rfl) (eh (HI.pC 3 rfl rfl) ?_)⟩;obtain⟨HJ,sJ,rp⟩:=HI.kL 0 rfl;simp only[ji]at HJ;obtain⟨HK,sK,rv⟩:=HJ.kL 2 rfl;simp only[ji,lO]at HK;have rp:=rp.since sK;have HK:=HK.tail.Kk.Kk;generalize (λl=>(Z l\/Loc vp l)\/Loc a l)=FK at*;rw[nW (sz:=6) (w:=km B a K vp) rfl rfl (by simp only[km,eJ,d,al,ay];rfl),fE];obtain⟨ac,hL,eL,_,N,sL⟩:=HK.rU 2 rfl (jP:=96) (zL:=45) (y:=(B,K)) (w:=km B a K vp) (ro:=false) ⟨a,vp,rfl,rv,rp,al⟩ (by decide) (by decide) (by omega);have O:fh 45 6 96 wb (.slice hI.next 0 1) (hI.new (.cells 45 6 true false (km B a K vp)))=some (.val ac hL):=eL;rw[O,en];simp only[ji,lO]at N;obtain⟨hM,eM,_,HM,sM⟩:=N.st 5 (o:=3) (u:=ac) rfl (by simp) (N.one 2 rfl);refine eh (fM _ _ _) ?_;have P:gJ 1 (.ptr l3 (0+3)) ac hL=some (.val .undef hM):=by rw[zO];exact eM
  rw[P,en];simp only[ji,lO]at HM;have HN:=HM.QL (i:=i) (aa.out i (by omega));have aA:=((((((I.trans ab).trans sA).trans sC).trans sD).trans sE).trans sG).trans sI;refine fL ⟨k-1,by omega,FK,i+1,bs++[(B,K)],up fn i (some (B.next,K)),ac,rfl,by omega,s5.trans (((aA.trans sJ).trans sK).trans (sL.trans sM)),by simp[ax],?_,HN⟩;rw[M];have:=aa.snoc B K
  rwa [ax]at this
 refine iQ ?_;have ns:=g.ns;obtain rfl:i=u.blocks.length:=by omega
 rw[Ki]at aa;refine oF (H5.ld 6 rfl rfl) (eh u5.s.len ?_);clear hk k
 have H5:eo Z T (fX eR (λ_:KF=>Option.none)::fg (eL Rr) mO [] .ei::fX eR fn::fg wU fS bs wb::fX eR fa::fg zh hH xs wv::eQ l3 30 [.I u.func,.I u.pc,wv,wb,.ei]::eQ l2 30 [.I 0,.I 0,.ei,.ei,.ei]::eQ l1 30 (uC u vv vb vs)::cs):=
  (H5.add (p:=fg (eL Rr) mO [] .ei) .nil λ_ h=>h).XB
 refine OR (λk l h'=>∃(F':Nat->Prop) (i:Nat) (ss:List (List (Fm×V×V))) (fl:KF->Option (List Nat×V)) (ws:V),l=[.ptr l2 0,.ptr l3 0,vs,.I u.ev.length,.I i]/\i+k=u.ev.length/\Sn Z T F' h'/\ss.length=i/\CpS (u.ev.take i) ss fl/\
  eo F' h' (fX eR fl::fg (eL Rr) mO ss ws::fX eR fn::fg wU fS bs wb::fX eR fa::fg zh hH xs wv::eQ l3 30 [.I u.func,.I u.pc,wv,wb,ws]::eQ l2 30 [.I 0,.I 0,.ei,.ei,.ei]::eQ l1 30 (uC u vv vb vs)::cs)) ?_ (k:=u.ev.length)
  ⟨Z,0,[],λ_=>Option.none,.ei,rfl,by omega,Sn.refl _ _,rfl,⟨rfl,λ_ _ _ _ _ _ h=>by simp at h,λ_ _ _ _=>rfl⟩,H5⟩
 rintro k _ _ _ _ _ h6 ⟨D,i,ss,fl,ws,⟨⟩,hk,I,oh,ae,G⟩;unfold IJ;have u6:=u5.since I;by_cases hi:i<u.ev.length
 ·refine gK ?_;have hS:=iy hi;have M:u.ev.take (i+1)=u.ev.take i++[u.ev[i]]:=MU hi;generalize u.ev[i]=fs at*;have aU:=(g.st i fs hS).1;obtain⟨lx,ox,f,_,x1,x2,_,xf⟩:=u6.st hS;refine eh x1 (eh x2 ?_);refine gZ G rfl rfl (by simp only[eJ,xf.one];rfl) λC J s7=>?_;generalize h6.next=lc at*;rw[fE];obtain⟨t,s8⟩:=J.Aw mO [.ei];have t:eo D (C.new (.cells 52 1 true false [V.ei])) (eQ C.next 52 [.ei]::eQ lc 52 [f]::_):=t;have s8:Sn D C D (C.new (.cells 52 1 true false [V.ei])):=s8;generalize C.new (.cells 52 1 true false [V.ei])=U at*;generalize C.next=ld at*;have xf:=(xf.since s7).since s8;refine oF (t.ld 1 rfl rfl) (eh xf.len ?_)
  have t:eo D U (fX eR fl::fg Rr Mz [] .ei::eQ ld 52 [.ei]::fg (eL Rr) mO ss ws::fX eR fn::fg wU fS bs wb::fX eR fa::fg zh hH xs wv::eQ l3 30 [.I u.func,.I u.pc,wv,wb,ws]::eQ l2 30 [.I 0,.I 0,.ei,.ei,.ei]::eQ l1 30 (uC u vv vb vs)::cs):=
   (t.Kk.sw.add (p:=fg Rr Mz [] .ei) .nil λ_ h=>h).sw
  refine OS (λk' l h'=>∃(j:Nat) (ys:List (Fm×V×V)) (A:KF->Option (List Nat×V)) (R:V),l=[.ptr l2 0,.ptr l3 0,.ptr ld 0,vs,.I u.ev.length,.I i,f,.I fs.length,.I j]/\j+k' = fs.length/\Sn D U D h'/\ys.length=j/\CpF i (fs.take j) ys A/\(∀s k b,s≠i->A (s,k,b)=fl (s,k,b))/\
   eo D h' (fX eR A::fg Rr Mz ys R::eQ ld 52 [R]::fg (eL Rr) mO ss ws::fX eR fn::fg wU fS bs wb::fX eR fa::fg zh hH xs wv::eQ l3 30 [.I u.func,.I u.pc,wv,wb,ws]::eQ l2 30 [.I 0,.I 0,.ei,.ei,.ei]::eQ l1 30 (uC u vv vb vs)::cs)) ?_ (k:=fs.length)
   ⟨0,[],fl,.ei,rfl,by omega,Sn.refl _ _,rfl,⟨rfl,λ_ _ _ _ h=>by simp at h,λk b _=>ae.out i k b (by omega)⟩,λ_ _ _ _=>rfl,t⟩
  rintro k' _ _ _ _ _ _ _ _ _ h9 ⟨j,ys,A,R,⟨⟩,aV,s9,aB,S,aC,m⟩;unfold ID;have aO:=xf.since s9;by_cases hj:j<fs.length
  ·refine gK ?_;have hF:=iy hj;have aP:fs.take (j+1)=fs.take j++[fs[j]]:=MU hj;have aW:=(g.st i fs hS).2 fs[j] (AY hj);generalize fs[j]=x at*;obtain⟨ly,oy,xa,xb,_,y1,y2,ya,yb⟩:=aO.pG hF;refine eh y1 (eh y2 ?_);refine gZ m rfl rfl (by simp only[Ll,eJ,ya.one,yb.one];rfl) λX c z=>?_;generalize h9.next=le at*;have e:∀{h:Hp} {cs:List Pc},eo D h cs->eo D (h.new (.cells 3 1 true false [])) (eQ h.next 3 []::cs)/\Sn D h D (h.new (.cells 3 1 true false [])):=λH=>H.Aw 3 [];rw[DI,hX];obtain⟨Y,ao⟩:=e c;generalize X.new (.cells 3 1 true false [])=aD at*;refine oF (Y.ld 1 rfl rfl) ?_;rw[hX];obtain⟨r,ap⟩:=e Y;generalize aD.new (.cells 3 1 true false [])=aQ at*;generalize X.next=ra at*;generalize aD.next=rb at*;refine oF (r.ld 2 rfl rfl) ?_;refine⟨⟨r.get 0 rfl,bq⟩,r.ld 2 rfl rfl,⟨r.get 1 rfl,bq⟩,?_⟩;have ya:=((ya.since z).since ao).since ap;have yb:=((yb.since z).since ao).since ap;have r:=r.empty 1 rfl;simp only[ji,lO]at r;obtain⟨a,hA,eA,nA,q,sA⟩:=r.Nf 1 rfl (jP:=8) ya (by decide) (by decide) (by simp;omega);have aj:fh 3 1 8 (.slice ra 0 0) xa aQ=some (.val a hA):=eA;rw[aj,en];simp only[ji,lO,OG]at q;refine⟨nA,eh (fM _ _ _) ⟨q.ld 2 rfl rfl,⟨q.get 0 rfl,bq⟩,?_⟩⟩;have q:=q.empty 0 rfl;simp only[ji,lO]at q;obtain⟨vc,hC,eC,nC,L,sC⟩:=q.Nf 0 rfl (jP:=8) (yb.since sA) (by decide) (by decide) (by simp;omega);have ak:fh 3 1 8 (.slice rb 0 0) xb hA=some (.val vc hC):=eC;rw[ak,en];simp only[ji,lO,OG]at L;have d:=L.one 1 rfl;have aq:=L.one 0 rfl;obtain⟨hE,eE,nE,HE,sE⟩:=L.st 2 (o:=2) (u:=a) rfl (by simp[Ll]) d;have am:gJ 1 (.ptr le (0+2)) a hC=some (.val .undef hE):=by rw[zO];exact eE
   refine⟨nC,?_⟩;rw[am,en];simp only[ji,lO]at HE;obtain⟨hG,eG,nG,HG,sG⟩:=HE.st 2 (o:=3) (u:=vc) rfl (by simp[Ll]) aq;have an:gJ 1 (.ptr le (0+3)) vc hE=some (.val .undef hG):=by rw[zO];exact eG
   refine⟨nE,eh (fM _ _ _) ?_⟩;rw[an,en];simp only[ji,lO]at HG;have HG:eo D hG (fg eN eR x.stack vc::fg eN eR x.locals a::eQ le 49 (Ll x a vc)::fX eR A::fg Rr Mz ys R::eQ ld 52 [R]::_):=HG;refine⟨nG,oF (HG.ld 5 rfl rfl) (eh (HG.pC 2 rfl rfl) ?_)⟩;rw[nW (sz:=4) (w:=Ll x a vc) rfl rfl (by simp only[Ll,eJ,d,aq];rfl),fE];obtain⟨ag,hL,eL,_,N,sL⟩:=HG.rU 4 rfl (jP:=64) (zL:=49) (y:=(x,a,vc)) (w:=Ll x a vc) (ro:=false) ⟨rfl,d,aq⟩ (by decide) (by decide) (by omega);have O:fh 49 4 64 R (.slice hG.next 0 1) (hG.new (.cells 49 4 true false (Ll x a vc)))=some (.val ag hL):=eL;rw[O,en];simp only[ji,lO]at N;obtain⟨hM,eM,_,HM,sM⟩:=N.st 5 (o:=0) (u:=ag) rfl (by simp) (N.one 4 rfl);refine eh (fM _ _ _) ?_;have P:gJ 1 (.ptr ld (0+0)) ag hL=some (.val .undef hM):=eM;rw[P,en];simp only[ji,lO]at HM;have HN:=HM.zaW (i:=(i,j,false)) (j:=(i,j,true)) (S.out j false (by omega)) (S.out j true (by omega)) (by simp);refine fL ⟨k'-1,by omega,j+1,ys++[(x,a,vc)],up (up A (i,j,false) (some (x.locals,a))) (i,j,true) (some (x.stack,vc)),ag,rfl,by omega,((((((s9.trans z).trans ao).trans ap).trans sA).trans sC).trans (sE.trans sG)).trans (sL.trans sM),by simp[aB],?_,?_,HN⟩
   ·rw[aP];have:=S.snoc x a vc
    rwa [aB]at this
   ·intro s k b hs;rw[jk _ _ (by simp[hs]),jk _ _ (by simp[hs])];exact aC s k b hs
  refine iQ ?_;obtain rfl:j=fs.length:=by omega
  rw[Ki]at S;obtain⟨c,z,rf⟩:=m.kL 1 rfl;simp only[ji,lO]at c;generalize (λl=>D l\/Loc R l)=F7 at*;have c:=c.Kk;refine oF (c.ld 7 rfl rfl) (eh (c.pC 1 rfl rfl) ?_);rw[nW (sz:=1) (w:=[R]) rfl rfl (by simp only[eJ,rf.one];rfl),fE];obtain⟨ah,hL,eL,_,N,sL⟩:=c.rU 2 rfl (jP:=24) (zL:=52) (y:=ys) (w:=[R]) (ro:=false) ⟨R,rfl,rf⟩ (by decide) (by decide) (by omega);have O:fh 52 1 24 ws (.slice h9.next 0 1) (h9.new (.cells 52 1 true false [R]))=some (.val ah hL):=eL;rw[O,en];simp only[ji,lO]at N;obtain⟨hM,eM,_,HM,sM⟩:=N.st 7 (o:=4) (u:=ah) rfl (by simp) (N.one 2 rfl);refine eh (fM _ _ _) ?_;have P:gJ 1 (.ptr l3 (0+4)) ah hL=some (.val .undef hM):=by rw[zO];exact eM
  rw[P,en];simp only[ji,lO]at HM;refine fL ⟨k-1,by omega,F7,i+1,ss++[ys],A,ah,rfl,by omega,((((I.trans s7).trans s8).trans s9).trans z).trans (sL.trans sM),by simp[oh],?_,HM.Kk⟩;rw[M];have ai:=S;rw[<-oh]at ai;exact ae.snoc ai λs k b hs=>aC s k b (by omega)
 refine iQ ?_;obtain rfl:i=u.ev.length:=by omega
 rw[Ki]at ae;refine eh (G.pC 6 rfl rfl) ?_;obtain⟨C,e7,_,J,s7⟩:=G.U1 7 (ws:=[.I u.func,.I u.pc,wv,wb,ws]) (n:=5) rfl rfl rfl (by simp only[eJ,G.one 5 rfl,G.one 3 rfl,G.one 1 rfl];rfl);rw[e7,en];simp only[ji,lO]at J;refine eh (J.pC 7 rfl rfl) ?_;exact H D C wv wb ws xs bs ss fa fn fl (((ar.trans s4).trans s5).trans (I.trans s7)) hc aa ae J.zd5
end
open Un Dm
section
variable{F F':Nat->Prop}{h h':Hp}{cs ds:List Pc}{Q:fD}{u:U}{vv vb vs:V}
def Oh(cs:List Pc)(l:Nat):Prop:=∃(i:Nat)(c:Pc),cs[i]? =some c/\c.mn l
theorem eo.zfD(H:eo F h cs):eo (λl=>F l\/Oh cs l) h []:=
 eo.nil λl a=>a.elim (H.fl l) λ⟨i,c,hc,b⟩=>(c.MB (H.ok i c hc) l b).1
theorem eo.back(H:eo F h cs){G:Nat->Prop}(s:Sn (λl=>F l\/Oh cs l) h G h'):eo F h' cs where
 fl l a:=EK (H.fl l a) s.next
 ok i c hc:=c.fj (H.ok i c hc) (λl a=>s.fj l (.inl a)) (λl a=>s.fj l (.inr ⟨i,c,hc,a⟩)) s.next
 Ew:=H.Ew
theorem Sn.back{G:Nat->Prop}(s:Sn (λl=>F l\/Oh cs l) h G h'):Sn F h F h':=⟨s.next,λl a=>s.fj l (.inl a),λ_ h=>h⟩
theorem eo.zdT(H:eo F h cs){ty:Nat}{xs:List Nat}{v:V}(s:Sn (λl=>F l\/Oh cs l) h (λl=>F l\/Oh cs l) h') (m:eo (λl=>F l\/Oh cs l) h' [fg eN ty xs v]):eo F h' (fg eN ty xs v::cs):=by
 have k:lC eN ty (λl=>F l\/Oh cs l) h' xs v:=m.ok 0 _ rfl;refine(H.back s).cons ?_ λi c hc l n d=>(k.vC n).2.2 (.inr ⟨i,c,hc,d⟩);rcases k with⟨f,g⟩|⟨t,ws,f,g,o,p,q,u⟩
 ·exact .inl ⟨f,g⟩
 ·exact .inr ⟨t,ws,f,g,λw=>o (.inl w),p,by
   have j:∀(ws:List V) (xs:List Nat),qQ eN (λl=>F l\/Oh cs l) h' ws xs->qQ eN F h' ws xs:=λws xs=>by
    induction xs generalizing ws with
    |nil=>exact id
    |cons x xs y=>rintro⟨a,b,e,r,z⟩;exact⟨a,b,e,r,y b z⟩
   exact j ws xs q,u⟩
theorem Ri{α β:Type}{E:qp α} {E':qp β}:∀(ws:List V)(xs:List α)(ys:List β),ys.length=xs.length->(∀(k:Nat) x y cs,xs[k]? =some x->ys[k]? =some y->E.rel F h x cs->E'.rel F' h y cs)->qQ E F h ws xs->qQ E' F' h ws ys
 |_,[],[],_,_,h=>h
 |ws,x::xs,y::ys,hl,hr,⟨a,b,e,r,hw⟩=>⟨a,b,e,hr 0 x y a rfl rfl r,Ri b xs ys (by simpa using hl) (λk x y cs hx c=>hr (k+1) x y cs (by simpa using hx) (by simpa using c)) hw⟩
theorem eo.ZW{α β:Type}{E:qp α} {E':qp β}(H:eo F h cs)(i:Nat){ty:Nat}{xs:List α}{ys:List β}{v:V}(hi:cs[i]? =some (fg E ty xs v))(d:E'.sz=E.sz)(a:ys.length=xs.length)(e:∀(k:Nat) x y cs,xs[k]? =some x->ys[k]? =some y->E.rel F h x cs->E'.rel F h y cs):eo F h (cs.set i (fg E' ty ys v)):=by
 refine H.swap hi ?_ λ_ h=>h;rcases H.row i hi with⟨b,c⟩|⟨t,ws,b,c,f,g,j,l⟩
 ·subst c;exact .inl ⟨b,wAs a⟩
 ·exact .inr ⟨t,ws,by rw[a];exact b,c,f,by rw[d];exact g,Ri ws xs ys a e j,l⟩
theorem im.ZW{α β:Type}{E:qp α} {E':qp β}{xs:List α}{ys:List β}{v:V}(hs:im E F h xs v)(d:E'.sz=E.sz)(f:∀l,F l->F' l)(a:ys.length=xs.length)(g:∀(k:Nat) x y cs,xs[k]? =some x->ys[k]? =some y->E.rel F h x cs->E'.rel F' h y cs):im E' F' h ys v:=by
 rcases hs with⟨b,c⟩|⟨l,o,ty,live,ro,ws,b,c,i,j,m,n⟩
 ·subst c;exact .inl ⟨b,wAs a⟩
 ·exact .inr ⟨l,o,ty,live,ro,ws,by rw[a];exact b,f l c,by rw[d];exact i,j.imp (λe=>wAs (by rw[a,e];rfl)) id,m,Ri _ xs ys a g n⟩
theorem zcP{xs:List Nat}{v:V}(hs:im eN F h xs v)(n:xs.length<1000000)(x:Nat)(H:Q (.bool (xs.contains x)) h) :
  cP CS lF [v,.I x] h Q:=by
 refine BK rfl rfl ?_;unfold sy;refine EH rfl rfl ?_;unfold xX;refine eh hs.len ?_;refine BB (λk l h'=>∃i:Nat,l=[v,.I x,.I xs.length,.I (i:Nat)]/\h' = h/\i+k=xs.length/\∀j y,j<i->xs[j]? =some y->y≠x) ?_ (k:=xs.length) ⟨0,rfl,rfl,by omega,λ_ _ h=>by omega⟩;rintro k _ _ _ _ h' ⟨i,⟨⟩,rfl,p,a⟩;unfold tk;by_cases hi:i<xs.length
 ·refine gK ?_;have hx:=iy hi;generalize xs[i]=y at*;obtain⟨l,o,_,d,f⟩:=hs.nat hx .i64;refine eh d (eh f (gy ?_));by_cases e:x=y
  ·refine gz (by rw[e]) (eh (pP ..) ?_);rw[JM (by omega)];have:xs.contains x=true:=List.contains_iff_mem.2 (by rw[e];exact DG hx)
   rwa [this]at H
  ·refine gh (by omega) (fL ⟨k-1,by omega,i+1,rfl,rfl,by omega,λj z b c=>?_⟩);by_cases g:j=i
   ·subst g;rw[hx]at c;cases c;exact λm=>e m.symm
   ·exact a j z (by omega) c
 ·refine iQ (eh (pP ..) ?_);rw[KM (by omega)];have:xs.contains x=false:=by
   rw[wBj];intro h;obtain⟨j,b⟩:=oY.1 (List.contains_iff_mem.1 h);exact a j x (by have:=(ki.1 b).1;omega) b rfl
  rwa [this]at H
def mm(az:List Int):Nat->Int:=λv=>az.getD v (-1)
theorem JG{az:List Int}{v:Nat}{a:Int}(h:az[v]? =some a):mm az v=a:=by
 unfold mm;rw[Je,h];rfl
theorem zaH{lt:Nat}{mQ:V}{az:List Int}{G:Nat->Prop}(d:fe (.ptr lt 5) h=some mQ)(hs:im eZ G h az mQ)(K:az.length<=3000)(g:∀(v:Nat)(a:Int),az[v]? =some a->a<az.length){v:Nat}(hv:v<az.length)
  (H:yI (mm az) (az.length+1) v<az.length->Q (.I (yI (mm az) (az.length+1) v:Nat)) h):cP CS jL [.ptr lt 0,.I v] h Q:=by
 refine JK rfl rfl ?_;unfold Bm;refine FZ (λk l h'=>∃n w:Nat,l=[.ptr lt 0,.I (w:Nat),.I (n:Nat)]/\h' = h/\n+k=az.length+1/\w<az.length/\yI (mm az) k w=yI (mm az) (az.length+1) v) ?_ (k:=az.length+1) ⟨0,v,rfl,rfl,by omega,hv,rfl⟩;rintro k _ _ _ h' ⟨n,w,⟨⟩,rfl,L,i,f⟩;unfold yF;have hx:=iy i;have I:=JG hx;have J:=g w _ hx;generalize az[w]=a at*;obtain⟨l,o,_,j,p⟩:=hs.int hx .i64;have d:fe (.ptr lt (0+5)) h' = some mQ:=d;refine oN d (eh j (eh p (eh (pP ..) ?_)));rw[show kE (V.bool (decide (0<=a))) (oB (some (V.ptr lt 0)) λq=>oB (iL q) λr=>oB (fJ 5 r) λs=>oB (fe s h') λt=>oB (some (V.I w)) λu=>oB (gB 1 t u) λx=>oB (fe x h') λy=>oB (some (V.I w)) λz=>ez .neq 3 y z)=some (.bool (decide (0<=a)&&(a != (w:Int)))) from by
  simp only[fo,d,j,p,rN,fZ,fM,j8]]
 rw [iB];rw[show kE (V.bool (decide (0<=a)&&(a != (w:Int)))) (oB (some (V.I n)) λA=>oB (some (V.ptr lt 0)) λB=>oB (iL B) λC=>oB (fJ 5 C) λD=>oB (fe D h') λE=>oB (fI E) λF=>ez .leq 3 A F)=some (.bool ((decide (0<=a)&&(a != (w:Int)))&&decide ((n:Int)<=az.length))) from by
  simp only[fo,fZ,fM,d,hs.len,Kc,j8]]
 rw[iB]
 cases k with
 | zero=>
   refine jj (gh (by rw[KM (show ¬((n:Int)<=az.length) by omega)];simp) ?_);have e0:w=yI (mm az) (az.length+1) v:=f;rw[<-e0]at H
   exact H i
 | succ k=>
   rw[JM (show(n:Int)<=az.length by omega),Bool.and_true];have e:yI (mm az) (k+1) w=if 0<=mm az w/\mm az w≠(w:Int) then yI (mm az) k (mm az w).toNat else w:=rfl
   rw[I]at e;by_cases c:0<=a/\a≠(w:Int)
   ·refine jj (gz (by rw[JM c.1,wBr,wB6];exact c.2) ?_)
    refine oN d (eh j (eh p (lZ (m:=1) (by omega) (by omega) ?_)));rw[if_pos c]at e;obtain⟨b,rfl⟩:=wBG c.1;exact⟨k,by omega,n+1,b,rfl,rfl,by omega,by omega,by rw[<-f,e];rfl⟩
   ·refine jj (gh (λh=>c ?_) ?_)
    ·rw[vH,CU,wB6]at h
     exact h
    ·rw[if_neg c]at e
     rw[e]at f;rw[<-f]at H;exact H i
theorem zaT(n:gw (uC u vv vb vs)=true)(hv:fI vv=some (.I u.ej.length))(B:u.ej.length<=3000)(p:eo F h cs)(H:∀h' v,Sn F h F h'->eo F h' (fg eZ eR ((List.range u.ej.length).map λ(i:Nat)=>(i:Int)) v::cs)->Q v h') :
  cP CS Fh [.agg (uC u vv vb vs)] h Q:=by
 refine UZ rfl rfl ?_;unfold ND;refine jH p n λb c q=>?_;refine oF (c.ld 0 rfl rfl) (eh hv ?_);rw[ku (z:=V.I 0) rfl (by decide) (by omega),fE];obtain⟨r,s⟩:=c.make (E:=eZ) (ty:=eR) (y:=0) (u:=V.I 0) u.ej.length rfl rfl;generalize b.new (.cells eR 1 true false (List.replicate u.ej.length (V.I 0)))=C at*;generalize b.next=lr at*;refine eh (show _=some (V.I u.ej.length) from rfl) ?_;refine OM (λk l h'=>∃(i:Nat) (ys:List Int),l=[.slice lr 0 u.ej.length,.I u.ej.length,.I i]/\i+k=u.ej.length/\ys.length=u.ej.length/\(∀j:Nat,j<i->ys[j]? =some (j:Int))/\Sn F h F h'/\eo F h' (fg eZ eR ys (.slice lr 0 u.ej.length)::eQ h.next 30 (uC u vv vb vs)::cs)) ?_ (k:=u.ej.length) ⟨0,_,rfl,by omega,WI,λ_ h=>by omega,q.trans s,r⟩;rintro k _ _ _ t ⟨i,ys,⟨⟩,D,w,d,f,g⟩;unfold IV;by_cases hi:i<u.ej.length
 ·refine gK ?_;obtain⟨l,o,G,x,A,_,m,s4⟩:=g.Kh 0 rfl (k:=i) (y:=(i:Int)) (u:=V.I i) (by omega) rfl rfl rfl;refine eh x ?_;rw[A,en];simp only[ji]at m;refine fL ⟨k-1,by omega,i+1,ys.set i (i:Int),rfl,by omega,by simp[w],λj a=>?_,f.trans s4,m⟩;by_cases e:j=i
  ·subst e;exact NZ (by omega)
  ·rw[KP λh=>e h.symm];exact d j (by omega)
 ·refine iQ ?_;have e:ys=(List.range u.ej.length).map λ(i:Nat)=>(i:Int):=by
   refine wBZ λj=>?_;by_cases a:j<u.ej.length
   ·rw[d j (by omega),Dn,wBw a];rfl
   ·rw[OE (by omega),OE (by simp;omega)]
  rw[<-e]at H;exact H t _ f g.Kk
end
