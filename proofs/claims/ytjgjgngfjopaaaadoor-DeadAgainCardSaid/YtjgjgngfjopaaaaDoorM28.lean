/- Parts. -/
import Derived.Test.YtjgjgngfjopaaaaDoorM27
import Derived.Test.YtjgjgngfjopaaaaDoorM34
import Derived.Test.YtjgjgngfjopaaaaDoorM33
namespace Go.Proofs.YtjgjgngfjopaaaaDoor.Hx
open Un Dm
theorem ZE:P0.underlying ey=some (.int .i64):=by kernel_rfl
theorem RI(a b:Int):Jr ey (.I a) (.I b)=some (a == b):=by
 unfold Jr;rw[ZE];rfl
section
variable{u:U}
theorem vD{w:Nat}(h:w7 u w):w<u.ef.length:=by
 obtain⟨x,a,_⟩:=h;exact(iR.1 a).1
theorem Cj(g:Good u){s:Nat}{fs:List Fm}(a:u.eh[s]? =some fs):∀w∈gJ fs,w<u.ef.length:=by
 intro w c;unfold gJ at c;obtain⟨f,d,e⟩:=Ni.1 c;obtain⟨_,_,h⟩:=g.st s fs a;obtain⟨_,_,i,j⟩:=h f d;rcases BK.1 e with b|b
 ·exact vD (i w b)
 ·exact vD (j w b)
theorem Gq(g:Good u){i:Nat}{x:Vl}(c:u.ef[i]? =some x):x.op=21\/x.op=20->x.args.length<=700:=by
 have nb:=g.nb;obtain⟨b,k,a⟩:=g.HW i (iR.1 c).1;obtain⟨B,e,f⟩:=id a;rintro(d|d)
 ·rw[(g.Ko _ _ _ _ _ a c d e).2,g.fg b B e,<-oE];have:=oG g (i:=u.blocks.length) (j:=0) (b:=b) (jj _) (by omega);omega
 ·rw[g.putAt i x c d];omega
theorem zg(g:Good u)(s:Nat)(fs:List Fm)(a:u.eh[s]? =some fs):fs.length<=30/\∀f∈fs,f.locals.length<=40/\f.stack.length<=60:=by
 obtain⟨_,d,b⟩:=g.st s fs a;exact⟨d,λf c=>⟨(b f c).1,(b f c).2.1⟩⟩
theorem Cb(g:Good u){b:Nat}{B:Bk}(a:u.blocks[b]? =some B):B.ef.length<=3000:=by
 have nv:=g.nv;have:=jK u.ef.length B.ef (Hi g a) λv hv=>by
  obtain⟨k,c⟩:=mK.1 hv;exact g.mb v b k ⟨B,a,c⟩
 omega
theorem Dn(g:Good u){b:Nat}{B:Bk}(a:u.blocks[b]? =some B):B.fg.length<=700:=by
 have nb:=g.nb;rw[g.fg b B a,<-oE];have:=oG g (i:=u.blocks.length) (j:=0) (b:=b) (jj _) (by omega);omega
theorem FX(g:Good u){b:Nat}{B:Bk}(a:u.blocks[b]? =some B):B.next.length<=2:=by
 rcases g.fin b B a with⟨_,h⟩|⟨_,h,_⟩|⟨_,h,_⟩
 ·omega
 ·omega
 ·rw[h];simp
end
open Un Dm
def yj:qA (Vl×V) where
 sz:=6
 rel _ _ x cs:=cs=mz x.1 x.2/\x.2.one=true
 len h:=by rw[h.1];rfl
 one h:=by rw[h.1];simp only[mz,eQ,h.2];rfl
 fk _ h:=h
 mono _ h:=h
def vf:qA (Bk×V) where
 sz:=6
 rel F h x cs:=∃v p,cs=kr x.1 v x.2 p/\iC eN F h x.1.ef v/\iC eN F h x.1.fg p/\x.2.one=true
 len:=λ⟨_,_,h,_⟩=>by subst h;rfl
 one:=λ⟨_,_,h,a,b,c⟩=>by subst h;simp only[kr,eQ,a.one,b.one,c];rfl
 fk:=λd ⟨v,p,h,a,b,c⟩=>⟨v,p,h,a.fk d,b.fk d,c⟩
 mono:=λe ⟨v,p,h,a,b,c⟩=>⟨v,p,h,a.mono e,b.mono e,c⟩
def PO:qA (Fm×V×V) where
 sz:=4
 rel _ _ x cs:=cs=MH x.1 x.2.1 x.2.2/\x.2.1.one=true/\x.2.2.one=true
 len h:=by rw[h.1];rfl
 one h:=by rw[h.1];simp only[MH,eQ,h.2.1,h.2.2];rfl
 fk _ h:=h
 mono _ h:=h
section
variable{F F':Nat->Prop}{h h':Hp}{cs:List Pc}{Q:fy}{u:U}{vv vb vs:V}
theorem en.empty(H:en F h cs)(i:Nat){l:Nat}(hi:cs[i]? =some (ev l ey [])):en F h (cs.set i (eR eN ey [] (.slice l 0 0))):=by
 have a:=H.ok i _ hi;exact H.swap hi (.inr ⟨l,[],rfl,a.2.1,a.2.2,a.1,trivial,rfl⟩) λm e=>e.symm
structure XW (vs:List Vl) (xs:List (Vl×V)) (fa:Nat->Option (List Nat×V)):Prop where
 fst:xs.map Prod.fst=vs
 row:∀i x w,xs[i]? =some (x,w)->fa i=some (x.args,w)
 out:∀i,xs.length<=i->fa i=none
structure Xk (bs:List Bk) (xs:List (Bk×V)) (fn:Nat->Option (List Nat×V)):Prop where
 fst:xs.map Prod.fst=bs
 row:∀i x w,xs[i]? =some (x,w)->fn i=some (x.next,w)
 out:∀i,xs.length<=i->fn i=none
abbrev KF:=Nat×Nat×Bool
structure CpF (s:Nat) (fs:List Fm) (xs:List (Fm×V×V)) (fl:KF->Option (List Nat×V)):Prop where
 fst:xs.map Prod.fst=fs
 loc:∀k x l w,xs[k]? =some (x,l,w)->fl (s,k,false)=some (x.locals,l)/\fl (s,k,true)=some (x.stack,w)
 out:∀k b,xs.length<=k->fl (s,k,b)=none
structure CpS (ss:List (List Fm)) (xs:List (List (Fm×V×V))) (fl:KF->Option (List Nat×V)):Prop where
 fst:xs.map (λl=>l.map Prod.fst)=ss
 loc:∀s l k x a w,xs[s]? =some l->l[k]? =some (x,a,w)->fl (s,k,false)=some (x.locals,a)/\fl (s,k,true)=some (x.stack,w)
 out:∀s k b,xs.length<=s->fl (s,k,b)=none
theorem XW.snoc{vs:List Vl}{xs:List (Vl×V)}{fa:Nat->Option (List Nat×V)}(c:XW vs xs fa)(x:Vl)(w:V):XW (vs++[x]) (xs++[(x,w)]) (up fa xs.length (some (x.args,w))):=by
 refine⟨by rw[Ji,c.fst];rfl,λi y v hi=>?_,λi hi=>?_⟩
 ·by_cases e:i<xs.length
  ·rw[Ot e]at hi;rw[iZ _ _ (by omega)];exact c.row i y v hi
  ·rw[Rf (by omega)]at hi;have a:i-xs.length=0:=by have:=(iR.1 hi).1;simp at this;omega
   rw[a]at hi;cases hi;obtain rfl:i=xs.length:=by omega
   exact ji _ _ _
 ·rw[y6]at hi;rw[iZ _ _ (by simp at hi;omega)];exact c.out i (by simp at hi;omega)
theorem Xk.snoc{bs:List Bk}{xs:List (Bk×V)}{fn:Nat->Option (List Nat×V)}(c:Xk bs xs fn)(x:Bk)(w:V):Xk (bs++[x]) (xs++[(x,w)]) (up fn xs.length (some (x.next,w))):=by
 refine⟨by rw[Ji,c.fst];rfl,λi y v hi=>?_,λi hi=>?_⟩
 ·by_cases e:i<xs.length
  ·rw[Ot e]at hi;rw[iZ _ _ (by omega)];exact c.row i y v hi
  ·rw[Rf (by omega)]at hi;have a:i-xs.length=0:=by have:=(iR.1 hi).1;simp at this;omega
   rw[a]at hi;cases hi;obtain rfl:i=xs.length:=by omega
   exact ji _ _ _
 ·rw[y6]at hi;rw[iZ _ _ (by simp at hi;omega)];exact c.out i (by simp at hi;omega)
theorem en.re(H:en F h cs){ds:List Pc}(m:Nat->Nat)(a:∀i c,ds[i]? =some c->cs[m i]? =some c)(b:∀i j,i<ds.length->j<ds.length->m i=m j->i=j):en F h ds where
 fl:=H.fl
 ok i c hc:=H.ok (m i) c (a i c hc)
 Dl i j c d hc hd hn:=H.Dl (m i) (m j) c d (a i c hc) (a j d hd) λe=>hn (b i j (iR.1 hc).1 (iR.1 hd).1 e)
theorem en.zc3{a b c d:Pc}(H:en F h (a::b::c::d::cs)):en F h (b::d::a::cs):=
 H.re (λi=>match i with|0=>1|1=>3|2=>0|n+3=>n+4) (λi c hc=>match i,hc with|0,hc=>hc|1,hc=>hc|2,hc=>hc|n+3,hc=>hc) λi j _ _ e=>by
  match i,j with
  |0,0|1,1|2,2=>rfl
  |0,1|0,2|1,0|1,2|2,0|2,1=>simp at e
  |0,n+3|1,n+3|2,n+3|n+3,0|n+3,1|n+3,2=>simp at e;try omega
  |n+3,k+3=>simp at e;omega
theorem en.Yc{ι:Type} [DecidableEq ι] {ty:Nat}{f:ι->Option (List Nat×V)}{xs ys:List Nat}{v w:V}{c:Pc}(H:en F h (eR eN ty xs v::eR eN ty ys w::c::fT ty f::cs)){i j:ι}(hi:f i=Option.none)(a:f j=Option.none)(b:j≠i) :
  en F h (fT ty (up (up f i (some (ys,w))) j (some (xs,v)))::cs):=
 (H.zc3.OI hi).sw.OI (by rw[iZ _ _ b];exact a)
theorem en.zbO{a b c d e f x y z:Pc}(H:en F h (a::b::c::d::e::f::x::y::z::cs)):en F h (f::d::b::e::c::a::cs):=
 H.re (λi=>match i with|0=>5|1=>3|2=>1|3=>4|4=>2|5=>0|n+6=>n+9) (λi c hc=>match i,hc with|0,hc=>hc|1,hc=>hc|2,hc=>hc|3,hc=>hc|4,hc=>hc|5,hc=>hc|n+6,hc=>hc) λi j _ _ e=>by
   have g:∀i:Nat,(match i with|0=>5|1=>3|2=>1|3=>4|4=>2|5=>0|n+6=>n+9:Nat)=(if i<6 then[5,3,1,4,2,0].getD i 0 else i+3):=λi=>by
     match i with
     |0|1|2|3|4|5=>rfl
     |n+6=>rw[if_neg (by omega)]
   simp only[g]at e;by_cases hi:i<6
   ·by_cases hj:j<6
    ·rw[if_pos hi,if_pos hj]at e
     exact(by decide:∀i,i<6->∀j,j<6->[5,3,1,4,2,0].getD i 0=[5,3,1,4,2,0].getD j 0->i=j) i hi j hj e
    ·rw[if_pos hi,if_neg hj]at e
     have:[5,3,1,4,2,0].getD i 0<6:=(by decide:∀i,i<6->[5,3,1,4,2,0].getD i 0<6) i hi;omega
   ·by_cases hj:j<6
    ·rw[if_neg hi,if_pos hj]at e
     have:[5,3,1,4,2,0].getD j 0<6:=(by decide:∀i,i<6->[5,3,1,4,2,0].getD i 0<6) j hj;omega
    ·rw[if_neg hi,if_neg hj]at e
     omega
theorem CpF.snoc{s:Nat}{fs:List Fm}{xs:List (Fm×V×V)}{fl:KF->Option (List Nat×V)}(c:CpF s fs xs fl)(x:Fm)(l w:V):CpF s (fs++[x]) (xs++[(x,l,w)]) (up (up fl (s,xs.length,false) (some (x.locals,l))) (s,xs.length,true) (some (x.stack,w))):=by
 refine⟨by rw[Ji,c.fst];rfl,λi y a b hi=>?_,λi b hi=>?_⟩
 ·by_cases e:i<xs.length
  ·rw[Ot e]at hi;have f:=c.loc i y a b hi;rw[iZ _ _ (by simp),iZ _ _ (by simp;omega),iZ _ _ (by simp;omega),iZ _ _ (by simp)];exact f
  ·rw[Rf (by omega)]at hi;have d:i-xs.length=0:=by have:=(iR.1 hi).1;simp at this;omega
   rw[d]at hi;cases hi;obtain rfl:i=xs.length:=by omega
   exact⟨by rw[iZ _ _ (by simp),ji],ji _ _ _⟩
 ·rw[y6]at hi;simp at hi;rw[iZ _ _ (by simp;omega),iZ _ _ (by simp;omega)];exact c.out i b (by omega)
theorem CpS.snoc{ss:List (List Fm)}{xs:List (List (Fm×V×V))} {fl d:KF->Option (List Nat×V)}(c:CpS ss xs fl){fs:List Fm}{ys:List (Fm×V×V)} (c':CpF xs.length fs ys d)(f:∀s k b,s≠xs.length->d (s,k,b)=fl (s,k,b)):CpS (ss++[fs]) (xs++[ys]) d:=by
 refine⟨by rw[Ji,c.fst,<-c'.fst];rfl,λi l k y a b hi h=>?_,λi k b hi=>?_⟩
 ·by_cases e:i<xs.length
  ·rw[Ot e]at hi;rw[f _ _ _ (by omega),f _ _ _ (by omega)];exact c.loc i l k y a b hi h
  ·rw[Rf (by omega)]at hi;have g:i-xs.length=0:=by have:=(iR.1 hi).1;simp at this;omega
   rw[g]at hi;cases hi;obtain rfl:i=xs.length:=by omega
   exact c'.loc k y a b h
 ·rw[y6]at hi;simp at hi;rw[f _ _ _ (by omega)];exact c.out i k b (by omega)
def M1(u:U):Prop:=∀(v:Nat)(x:Vl),u.ef[v]? =some x->x.args.length<=700
structure Xq (u:U):Prop where
 nv:u.ef.length<=3000
 nb:u.blocks.length<=300
 ns:u.eh.length<=1000
 args:M1 u
 nW:∀(b:Nat) (B:Bk),u.blocks[b]? =some B->B.ef.length<=3000/\B.fg.length<=700/\B.next.length<=2
 st:∀(s:Nat) (fs:List Fm),u.eh[s]? =some fs->fs.length<=30/\∀f∈fs,f.locals.length<=40/\f.stack.length<=60
theorem SO(g:Good u)(b:M1 u):Xq u:=⟨g.nv,g.nb,g.ns,b,λ_ _ a=>⟨Cb g a,Dn g a,FX g a⟩,zg g⟩
theorem Yq(g:Xq u)(H0:en F h cs)(hu:A0 F h u vv vb vs)
  (H:∀F' h' wv wb ws (xs:List (Vl×V)) (bs:List (Bk×V)) (ss:List (List (Fm×V×V))) fa fn fl,Sn F h F' h'->XW u.ef xs fa->Xk u.blocks bs fn->CpS u.eh ss fl->
   en F' h' (eR yj hH xs wv::eR vf fQ bs wb::eR (eL PO) ml ss ws::fT ey fa::fT ey fn::fT ey fl::cs)->Q (.agg (uC u wv wb ws)) h') :
  cP CS zP [.agg (uC u vv vb vs)] h Q:=by
 refine Sj rfl rfl ?_;unfold Mq;have nv:=g.nv;refine mH H0 hu.one λh1 H1 s1=>?_;rw[fE];obtain⟨H2,s2⟩:=H1.zf gY [.I 0,.I 0,.ee,.ee,.ee];have H2:en F (h1.new (.cells 30 1 true false [V.I 0,.I 0,.ee,.ee,.ee])) (ev h1.next 30 [V.I 0,.I 0,.ee,.ee,.ee]::ev h.next 30 (uC u vv vb vs)::cs):=H2;have s2:Sn F h1 F (h1.new (.cells 30 1 true false [V.I 0,.I 0,.ee,.ee,.ee])):=s2;generalize h1.new (.cells 30 1 true false [V.I 0,.I 0,.ee,.ee,.ee])=h2 at*;generalize h.next=l1 at*;generalize h1.next=l2 at*;refine oF (H2.ld 1 rfl rfl) (oF (H2.ld 1 rfl rfl) (ed (show _=some (V.agg [.I u.func,.I u.pc,.ee,.ee,.ee]) from rfl) ?_));refine iG H2 rfl rfl rfl λh3 H3 s3=>?_;generalize h2.next=l3 at*;have ax:=(s1.trans s2).trans s3;have u3:=hu.since ax;refine oF (H3.ld 2 rfl rfl) (ed u3.v.len ?_)
 have H3:en F h3 (fT ey (λ_:Nat=>Option.none)::eR yj hH [] .ee::ev l3 30 [.I u.func,.I u.pc,.ee,.ee,.ee]::ev l2 30 [.I 0,.I 0,.ee,.ee,.ee]::ev l1 30 (uC u vv vb vs)::cs):=
  (H3.add (p:=eR yj hH [] .ee) .nil λ_ h=>h).VD
 refine MX (λk l h'=>∃(i:Nat) (xs:List (Vl×V)) (fa:Nat->Option (List Nat×V)) (wv:V),l=[.ptr l1 0,.ptr l2 0,.ptr l3 0,vv,.I u.ef.length,.I i]/\i+k=u.ef.length/\Sn F h3 F h'/\xs.length=i/\XW (u.ef.take i) xs fa/\
  en F h' (fT ey fa::eR yj hH xs wv::ev l3 30 [.I u.func,.I u.pc,wv,.ee,.ee]::ev l2 30 [.I 0,.I 0,.ee,.ee,.ee]::ev l1 30 (uC u vv vb vs)::cs)) ?_ (k:=u.ef.length)
  ⟨0,[],λ_=>Option.none,.ee,rfl,by omega,Sn.refl _ _,rfl,⟨rfl,λ_ _ _ h=>by simp at h,λ_ _=>rfl⟩,H3⟩
 rintro k _ _ _ _ _ _ h4 ⟨i,xs,fa,wv,⟨⟩,hk,s4,ay,hc,H4⟩;unfold GU;have u4:=u3.since s4;by_cases hi:i<u.ef.length
 ·refine gG ?_;have hx:=gP hi;have P:u.ef.take (i+1)=u.ef.take i++[u.ef[i]]:=M9 hi;generalize u.ef[i]=x at*;obtain⟨lx,ox,w,_,x1,x2,xw,_⟩:=u4.val hx;refine ed x1 (ed x2 ?_);refine iG H4 rfl rfl (by simp only[mz,eQ,xw.one];rfl) λX H5 s5=>?_;generalize h4.next=lc at*;rw[EP,fE];obtain⟨J,K⟩:=H5.Vp (E:=eN) (xs:=[]) (ws:=[]) (n:=0) ey rfl trivial rfl;have J:en F (X.new (.cells 3 1 true false [])) (eR eN ey [] (.slice X.next 0 0)::ev lc 46 (mz x w)::_):=J;have K:Sn F X F (X.new (.cells 3 1 true false [])):=K;generalize X.new (.cells 3 1 true false [])=h6 at*;refine oF (J.ld 1 rfl rfl) ?_;have aH:=g.args i x hx;obtain⟨c,G,e7,_,L,s7⟩:=J.M7 0 rfl (jM:=8) ((xw.since s5).since K) (by decide) (by decide) (by simp;omega);have aI:fe 3 1 8 (.slice X.next 0 0) w h6=some (.val c G):=e7;rw[aI,ei];simp only[iY,OO]at L;have m:=L.one 0 rfl;obtain⟨Y,e8,_,A,s8⟩:=L.st 1 (o:=4) (u:=c) rfl (by simp[mz]) m;refine ed (eJ _ _ _) ?_;have aJ:gK 1 (.ptr lc (0+4)) c G=some (.val .undef Y):=by rw[yC];exact e8
  rw[aJ,ei];simp only[iY,lj]at A;have A:en F Y (eR eN ey x.args c::ev lc 46 (mz x c)::fT ey fa::eR yj hH xs wv::ev l3 30 [.I u.func,.I u.pc,wv,.ee,.ee]::_):=A;refine oF (A.ld 4 rfl rfl) (ed (A.wS 1 rfl rfl) ?_);rw[pP (sz:=6) (w:=mz x c) rfl rfl (by simp only[mz,eQ,m];rfl),fE];obtain⟨aa,h9,e9,_,r,s9⟩:=A.tU 3 rfl (jM:=64) (BN:=46) (y:=(x,c)) (w:=mz x c) (ro:=false) ⟨rfl,m⟩ (by decide) (by decide) (by omega);have aK:fe 46 6 64 wv (.slice Y.next 0 1) (Y.new (.cells 46 6 true false (mz x c)))=some (.val aa h9):=e9;rw[aK,ei];simp only[iY,lj]at r;obtain⟨ab,aL,_,d,C⟩:=r.st 4 (o:=2) (u:=aa) rfl (by simp) (r.one 3 rfl);refine ed (eJ _ _ _) ?_;have aA:gK 1 (.ptr l3 (0+2)) aa h9=some (.val .undef ab):=by rw[yC];exact aL
  rw[aA,ei];simp only[iY,lj]at d;have ac:=d.IF.OI (i:=i) (hc.out i (by omega));refine fN ⟨k-1,by omega,i+1,xs++[(x,c)],up fa i (some (x.args,c)),aa,rfl,by omega,((((s4.trans s5).trans K).trans s7).trans s8).trans (s9.trans C),by simp[ay],?_,ac⟩;rw[P];have:=hc.snoc x c
  rwa [ay]at this
 refine iI ?_;obtain rfl:i=u.ef.length:=by omega
 rw[Jh]at hc;have nb:=g.nb;refine oF (H4.ld 4 rfl rfl) (ed u4.b.len ?_);clear hk k
 have H4:en F h4 (fT ey (λ_:Nat=>Option.none)::eR vf fQ [] .ee::fT ey fa::eR yj hH xs wv::ev l3 30 [.I u.func,.I u.pc,wv,.ee,.ee]::ev l2 30 [.I 0,.I 0,.ee,.ee,.ee]::ev l1 30 (uC u vv vb vs)::cs):=
  (H4.add (p:=eR vf fQ [] .ee) .nil λ_ h=>h).VD
 refine Na (λk l h'=>∃(F':Nat->Prop) (i:Nat) (bs:List (Bk×V)) (fn:Nat->Option (List Nat×V)) (wb:V),l=[.ptr l1 0,.ptr l2 0,.ptr l3 0,vb,.I u.blocks.length,.I i]/\i+k=u.blocks.length/\Sn F h4 F' h'/\bs.length=i/\Xk (u.blocks.take i) bs fn/\
  en F' h' (fT ey fn::eR vf fQ bs wb::fT ey fa::eR yj hH xs wv::ev l3 30 [.I u.func,.I u.pc,wv,wb,.ee]::ev l2 30 [.I 0,.I 0,.ee,.ee,.ee]::ev l1 30 (uC u vv vb vs)::cs)) ?_ (k:=u.blocks.length)
  ⟨F,0,[],λ_=>Option.none,.ee,rfl,by omega,Sn.refl _ _,rfl,⟨rfl,λ_ _ _ h=>by simp at h,λ_ _=>rfl⟩,H4⟩
 rintro k _ _ _ _ _ _ X ⟨F5,i,bs,fn,wb,⟨⟩,hk,s5,aB,ae,H5⟩;unfold GS;have u5:=u4.since s5;by_cases hi:i<u.blocks.length
 ·refine gG ?_;have hB:=gP hi;have P:u.blocks.take (i+1)=u.blocks.take i++[u.blocks[i]]:=M9 hi;generalize u.blocks[i]=B at*;have aU:=(g.nW i B hB).1;have aV:=(g.nW i B hB).2.1;have aW:=(g.nW i B hB).2.2;obtain⟨lx,ox,bv,bn,bp,_,x1,x2,iv,iN,ip,_⟩:=u5.nW hB;refine ed x1 (ed x2 ?_);refine iG H5 rfl rfl (by simp only[kr,eQ,iv.one,iN.one,ip.one];rfl) λh6 J K=>?_;generalize X.next=lc at*;have q:∀{h:Hp} {cs:List Pc},en F5 h cs->en F5 (h.new (.cells 3 1 true false [])) (ev h.next 3 []::cs)/\Sn F5 h F5 (h.new (.cells 3 1 true false [])):=λH=>H.zf 3 [];rw[EP,hK];obtain⟨L,s7⟩:=q J;generalize h6.new (.cells 3 1 true false [])=G at*;refine oF (L.ld 1 rfl rfl) ?_;rw[hK];obtain⟨A,s8⟩:=q L;generalize G.new (.cells 3 1 true false [])=Y at*;refine oF (A.ld 2 rfl rfl) ?_;rw[hK];obtain⟨r,s9⟩:=q A;generalize Y.new (.cells 3 1 true false [])=h9 at*;generalize h6.next=ra at*;generalize G.next=rb at*;generalize Y.next=rc at*;refine oF (r.ld 3 rfl rfl) ?_;have ag:=(s7.trans s8).trans s9;have Z:∀{e sz:Nat} {a b:Bool} {cs:List V},O.beq (.cells e sz a b cs) (.cells e sz a b cs)=true:=O.gO _ _ _ _ _;refine⟨⟨r.get 0 rfl,Z⟩,r.ld 3 rfl rfl,⟨r.get 1 rfl,Z⟩,r.ld 3 rfl rfl,⟨r.get 2 rfl,Z⟩,?_⟩;have aM:=(iv.since K).since ag;have aN:=(iN.since K).since ag;have aO:=(ip.since K).since ag;have r:=r.empty 2 rfl;simp only[iY,lj]at r;obtain⟨c,hA,eA,nA,t,sA⟩:=r.M7 2 rfl (jM:=8) aM (by decide) (by decide) (by simp;omega);have am:fe 3 1 8 (.slice ra 0 0) bv h9=some (.val c hA):=eA;rw[am,ei];simp only[iY,lj,OO]at t;refine⟨nA,ed (eJ _ _ _) ⟨t.ld 3 rfl rfl,⟨t.get 0 rfl,Z⟩,t.ld 3 rfl rfl,⟨t.get 1 rfl,Z⟩,?_⟩⟩;have t:=t.empty 1 rfl;simp only[iY,lj]at t;obtain⟨M,hC,eC,nC,N,sC⟩:=t.M7 1 rfl (jM:=8) (aN.since sA) (by decide) (by decide) (by simp;omega);have an:fe 3 1 8 (.slice rb 0 0) bn hA=some (.val M hC):=eC;rw[an,ei];simp only[iY,lj,OO]at N;refine⟨nC,N.ld 3 rfl rfl,⟨N.get 0 rfl,Z⟩,?_⟩;have N:=N.empty 0 rfl;simp only[iY,lj]at N;obtain⟨vp,hD,eD,nD,HD,sD⟩:=N.M7 0 rfl (jM:=8) ((aO.since sA).since sC) (by decide) (by decide) (by simp;omega);have aP:fe 3 1 8 (.slice rc 0 0) bp hC=some (.val vp hD):=eD;rw[aP,ei];simp only[iY,lj,OO]at HD;have m:=HD.one 2 rfl;have ao:=HD.one 1 rfl;have aC:=HD.one 0 rfl;obtain⟨hE,eE,nE,HE,sE⟩:=HD.st 3 (o:=0) (u:=c) rfl (by simp[kr]) m;have ap:gK 1 (.ptr lc (0+0)) c hD=some (.val .undef hE):=eE;refine⟨nD,?_⟩;rw[ap,ei];simp only[iY,lj]at HE;obtain⟨hG,eG,nG,HG,sG⟩:=HE.st 3 (o:=3) (u:=M) rfl (by simp[kr]) ao;have aq:gK 1 (.ptr lc (0+3)) M hE=some (.val .undef hG):=by rw[yC];exact eG
  refine⟨nE,ed (eJ _ _ _) ?_⟩;rw[aq,ei];simp only[iY,lj]at HG;obtain⟨hI,eI,nI,HI,sI⟩:=HG.st 3 (o:=4) (u:=vp) rfl (by simp[kr]) aC;have aQ:gK 1 (.ptr lc (0+4)) vp hG=some (.val .undef hI):=by rw[yC];exact eI
  refine⟨nG,ed (eJ _ _ _) ?_⟩;rw[aQ,ei];simp only[iY,lj]at HI;have HI:en F5 hI (eR eN ey B.fg vp::eR eN ey B.next M::eR eN ey B.ef c::ev lc 50 (kr B c M vp)::fT ey fn::eR vf fQ bs wb::fT ey fa::eR yj hH xs wv::ev l3 30 [.I u.func,.I u.pc,wv,wb,.ee]::_):=HI;refine⟨nI,oF (HI.ld 8 rfl rfl) (ed (HI.wS 3 rfl rfl) ?_)⟩;obtain⟨HJ,sJ,rp⟩:=HI.lO 0 rfl;simp only[iY]at HJ;obtain⟨HK,sK,rv⟩:=HJ.lO 2 rfl;simp only[iY,lj]at HK;have rp:=rp.since sK;have HK:=HK.tail.IF.IF;generalize (λl=>(F5 l\/Loc vp l)\/Loc c l)=FK at*;rw[pP (sz:=6) (w:=kr B c M vp) rfl rfl (by simp only[kr,eQ,m,ao,aC];rfl),fE];obtain⟨ah,hL,eL,_,R,sL⟩:=HK.tU 2 rfl (jM:=96) (BN:=50) (y:=(B,M)) (w:=kr B c M vp) (ro:=false) ⟨c,vp,rfl,rv,rp,ao⟩ (by decide) (by decide) (by omega);have S:fe 50 6 96 wb (.slice hI.next 0 1) (hI.new (.cells 50 6 true false (kr B c M vp)))=some (.val ah hL):=eL;rw[S,ei];simp only[iY,lj]at R;obtain⟨hM,eM,_,HM,sM⟩:=R.st 5 (o:=3) (u:=ah) rfl (by simp) (R.one 2 rfl);refine ed (eJ _ _ _) ?_;have T:gK 1 (.ptr l3 (0+3)) ah hL=some (.val .undef hM):=by rw[yC];exact eM
  rw[T,ei];simp only[iY,lj]at HM;have HN:=HM.OI (i:=i) (ae.out i (by omega));have aD:=((((((K.trans ag).trans sA).trans sC).trans sD).trans sE).trans sG).trans sI;refine fN ⟨k-1,by omega,FK,i+1,bs++[(B,M)],up fn i (some (B.next,M)),ah,rfl,by omega,s5.trans (((aD.trans sJ).trans sK).trans (sL.trans sM)),by simp[aB],?_,HN⟩;rw[P];have:=ae.snoc B M
  rwa [aB]at this
 refine iI ?_;have ns:=g.ns;obtain rfl:i=u.blocks.length:=by omega
 rw[Jh]at ae;refine oF (H5.ld 6 rfl rfl) (ed u5.s.len ?_);clear hk k
 have H5:en F5 X (fT ey (λ_:KF=>Option.none)::eR (eL PO) ml [] .ee::fT ey fn::eR vf fQ bs wb::fT ey fa::eR yj hH xs wv::ev l3 30 [.I u.func,.I u.pc,wv,wb,.ee]::ev l2 30 [.I 0,.I 0,.ee,.ee,.ee]::ev l1 30 (uC u vv vb vs)::cs):=
  (H5.add (p:=eR (eL PO) ml [] .ee) .nil λ_ h=>h).VD
 refine M3 (λk l h'=>∃(F':Nat->Prop) (i:Nat) (ss:List (List (Fm×V×V))) (fl:KF->Option (List Nat×V)) (ws:V),l=[.ptr l2 0,.ptr l3 0,vs,.I u.eh.length,.I i]/\i+k=u.eh.length/\Sn F5 X F' h'/\ss.length=i/\CpS (u.eh.take i) ss fl/\
  en F' h' (fT ey fl::eR (eL PO) ml ss ws::fT ey fn::eR vf fQ bs wb::fT ey fa::eR yj hH xs wv::ev l3 30 [.I u.func,.I u.pc,wv,wb,ws]::ev l2 30 [.I 0,.I 0,.ee,.ee,.ee]::ev l1 30 (uC u vv vb vs)::cs)) ?_ (k:=u.eh.length)
  ⟨F5,0,[],λ_=>Option.none,.ee,rfl,by omega,Sn.refl _ _,rfl,⟨rfl,λ_ _ _ _ _ _ h=>by simp at h,λ_ _ _ _=>rfl⟩,H5⟩
 rintro k _ _ _ _ _ h6 ⟨I,i,ss,fl,ws,⟨⟩,hk,K,lT,ai,J⟩;unfold GR;have u6:=u5.since K;by_cases hi:i<u.eh.length
 ·refine gG ?_;have hS:=gP hi;have P:u.eh.take (i+1)=u.eh.take i++[u.eh[i]]:=M9 hi;generalize u.eh[i]=fs at*;have aX:=(g.st i fs hS).1;obtain⟨lx,ox,f,_,x1,x2,_,xf⟩:=u6.st hS;refine ed x1 (ed x2 ?_);refine iG J rfl rfl (by simp only[eQ,xf.one];rfl) λG L s7=>?_;generalize h6.next=lc at*;rw[fE];obtain⟨A,s8⟩:=L.zf ml [.ee];have A:en I (G.new (.cells 60 1 true false [V.ee])) (ev G.next 60 [.ee]::ev lc 60 [f]::_):=A;have s8:Sn I G I (G.new (.cells 60 1 true false [V.ee])):=s8;generalize G.new (.cells 60 1 true false [V.ee])=Y at*;generalize G.next=ld at*;have xf:=(xf.since s7).since s8;refine oF (A.ld 1 rfl rfl) (ed xf.len ?_)
  have A:en I Y (fT ey fl::eR PO KZ [] .ee::ev ld 60 [.ee]::eR (eL PO) ml ss ws::fT ey fn::eR vf fQ bs wb::fT ey fa::eR yj hH xs wv::ev l3 30 [.I u.func,.I u.pc,wv,wb,ws]::ev l2 30 [.I 0,.I 0,.ee,.ee,.ee]::ev l1 30 (uC u vv vb vs)::cs):=
   (A.IF.sw.add (p:=eR PO KZ [] .ee) .nil λ_ h=>h).sw
  refine MZ (λk' l h'=>∃(j:Nat) (ys:List (Fm×V×V)) (D:KF->Option (List Nat×V)) (U:V),l=[.ptr l2 0,.ptr l3 0,.ptr ld 0,vs,.I u.eh.length,.I i,f,.I fs.length,.I j]/\j+k' = fs.length/\Sn I Y I h'/\ys.length=j/\CpF i (fs.take j) ys D/\(∀s k b,s≠i->D (s,k,b)=fl (s,k,b))/\
   en I h' (fT ey D::eR PO KZ ys U::ev ld 60 [U]::eR (eL PO) ml ss ws::fT ey fn::eR vf fQ bs wb::fT ey fa::eR yj hH xs wv::ev l3 30 [.I u.func,.I u.pc,wv,wb,ws]::ev l2 30 [.I 0,.I 0,.ee,.ee,.ee]::ev l1 30 (uC u vv vb vs)::cs)) ?_ (k:=fs.length)
   ⟨0,[],fl,.ee,rfl,by omega,Sn.refl _ _,rfl,⟨rfl,λ_ _ _ _ h=>by simp at h,λk b _=>ai.out i k b (by omega)⟩,λ_ _ _ _=>rfl,A⟩
  rintro k' _ _ _ _ _ _ _ _ _ h9 ⟨j,ys,D,U,⟨⟩,aY,s9,aE,W,aF,r⟩;unfold G6;have aR:=xf.since s9;by_cases hj:j<fs.length
  ·refine gG ?_;have hF:=gP hj;have aS:fs.take (j+1)=fs.take j++[fs[j]]:=M9 hj;have aZ:=(g.st i fs hS).2 fs[j] (zq hj);generalize fs[j]=x at*;obtain⟨ly,oy,xa,xb,_,y1,y2,ya,yb⟩:=aR.oA hF;refine ed y1 (ed y2 ?_);refine iG r rfl rfl (by simp only[MH,eQ,ya.one,yb.one];rfl) λab d C=>?_;generalize h9.next=le at*;have q:∀{h:Hp} {cs:List Pc},en I h cs->en I (h.new (.cells 3 1 true false [])) (ev h.next 3 []::cs)/\Sn I h I (h.new (.cells 3 1 true false [])):=λH=>H.zf 3 [];have Z:∀{e sz:Nat} {a b:Bool} {cs:List V},O.beq (.cells e sz a b cs) (.cells e sz a b cs)=true:=O.gO _ _ _ _ _;rw[EP,hK];obtain⟨ac,ar⟩:=q d;generalize ab.new (.cells 3 1 true false [])=aG at*;refine oF (ac.ld 1 rfl rfl) ?_;rw[hK];obtain⟨z,au⟩:=q ac;generalize aG.new (.cells 3 1 true false [])=aT at*;generalize ab.next=ra at*;generalize aG.next=rb at*;refine oF (z.ld 2 rfl rfl) ?_;refine⟨⟨z.get 0 rfl,Z⟩,z.ld 2 rfl rfl,⟨z.get 1 rfl,Z⟩,?_⟩;have ya:=((ya.since C).since ar).since au;have yb:=((yb.since C).since ar).since au;have z:=z.empty 1 rfl;simp only[iY,lj]at z;obtain⟨c,hA,eA,nA,t,sA⟩:=z.M7 1 rfl (jM:=8) ya (by decide) (by decide) (by simp;omega);have am:fe 3 1 8 (.slice ra 0 0) xa aT=some (.val c hA):=eA;rw[am,ei];simp only[iY,lj,OO]at t;refine⟨nA,ed (eJ _ _ _) ⟨t.ld 2 rfl rfl,⟨t.get 0 rfl,Z⟩,?_⟩⟩;have t:=t.empty 0 rfl;simp only[iY,lj]at t;obtain⟨vc,hC,eC,nC,N,sC⟩:=t.M7 0 rfl (jM:=8) (yb.since sA) (by decide) (by decide) (by simp;omega);have an:fe 3 1 8 (.slice rb 0 0) xb hA=some (.val vc hC):=eC;rw[an,ei];simp only[iY,lj,OO]at N;have m:=N.one 1 rfl;have aw:=N.one 0 rfl;obtain⟨hE,eE,nE,HE,sE⟩:=N.st 2 (o:=2) (u:=c) rfl (by simp[MH]) m;have ap:gK 1 (.ptr le (0+2)) c hC=some (.val .undef hE):=by rw[yC];exact eE
   refine⟨nC,?_⟩;rw[ap,ei];simp only[iY,lj]at HE;obtain⟨hG,eG,nG,HG,sG⟩:=HE.st 2 (o:=3) (u:=vc) rfl (by simp[MH]) aw;have aq:gK 1 (.ptr le (0+3)) vc hE=some (.val .undef hG):=by rw[yC];exact eG
   refine⟨nE,ed (eJ _ _ _) ?_⟩;rw[aq,ei];simp only[iY,lj]at HG;have HG:en I hG (eR eN ey x.stack vc::eR eN ey x.locals c::ev le 57 (MH x c vc)::fT ey D::eR PO KZ ys U::ev ld 60 [U]::_):=HG;refine⟨nG,oF (HG.ld 5 rfl rfl) (ed (HG.wS 2 rfl rfl) ?_)⟩;rw[pP (sz:=4) (w:=MH x c vc) rfl rfl (by simp only[MH,eQ,m,aw];rfl),fE];obtain⟨aj,hL,eL,_,R,sL⟩:=HG.tU 4 rfl (jM:=64) (BN:=57) (y:=(x,c,vc)) (w:=MH x c vc) (ro:=false) ⟨rfl,m,aw⟩ (by decide) (by decide) (by omega);have S:fe 57 4 64 U (.slice hG.next 0 1) (hG.new (.cells 57 4 true false (MH x c vc)))=some (.val aj hL):=eL;rw[S,ei];simp only[iY,lj]at R;obtain⟨hM,eM,_,HM,sM⟩:=R.st 5 (o:=0) (u:=aj) rfl (by simp) (R.one 4 rfl);refine ed (eJ _ _ _) ?_;have T:gK 1 (.ptr ld (0+0)) aj hL=some (.val .undef hM):=eM;rw[T,ei];simp only[iY,lj]at HM;have HN:=HM.Yc (i:=(i,j,false)) (j:=(i,j,true)) (W.out j false (by omega)) (W.out j true (by omega)) (by simp);refine fN ⟨k'-1,by omega,j+1,ys++[(x,c,vc)],up (up D (i,j,false) (some (x.locals,c))) (i,j,true) (some (x.stack,vc)),aj,rfl,by omega,((((((s9.trans C).trans ar).trans au).trans sA).trans sC).trans (sE.trans sG)).trans (sL.trans sM),by simp[aE],?_,?_,HN⟩
   ·rw[aS];have:=W.snoc x c vc
    rwa [aE]at this
   ·intro s k b hs;rw[iZ _ _ (by simp[hs]),iZ _ _ (by simp[hs])];exact aF s k b hs
  refine iI ?_;obtain rfl:j=fs.length:=by omega
  rw[Jh]at W;obtain⟨d,C,rf⟩:=r.lO 1 rfl;simp only[iY,lj]at d;generalize (λl=>I l\/Loc U l)=F7 at*;have d:=d.IF;refine oF (d.ld 7 rfl rfl) (ed (d.wS 1 rfl rfl) ?_);rw[pP (sz:=1) (w:=[U]) rfl rfl (by simp only[eQ,rf.one];rfl),fE];obtain⟨ak,hL,eL,_,R,sL⟩:=d.tU 2 rfl (jM:=24) (BN:=60) (y:=ys) (w:=[U]) (ro:=false) ⟨U,rfl,rf⟩ (by decide) (by decide) (by omega);have S:fe 60 1 24 ws (.slice h9.next 0 1) (h9.new (.cells 60 1 true false [U]))=some (.val ak hL):=eL;rw[S,ei];simp only[iY,lj]at R;obtain⟨hM,eM,_,HM,sM⟩:=R.st 7 (o:=4) (u:=ak) rfl (by simp) (R.one 2 rfl);refine ed (eJ _ _ _) ?_;have T:gK 1 (.ptr l3 (0+4)) ak hL=some (.val .undef hM):=by rw[yC];exact eM
  rw[T,ei];simp only[iY,lj]at HM;refine fN ⟨k-1,by omega,F7,i+1,ss++[ys],D,ak,rfl,by omega,((((K.trans s7).trans s8).trans s9).trans C).trans (sL.trans sM),by simp[lT],?_,HM.IF⟩;rw[P];have al:=W;rw[<-lT]at al;exact ai.snoc al λs k b hs=>aF s k b (by omega)
 refine iI ?_;obtain rfl:i=u.eh.length:=by omega
 rw[Jh]at ai;refine ed (J.wS 6 rfl rfl) ?_;obtain⟨G,e7,_,L,s7⟩:=J.XP 7 (ws:=[.I u.func,.I u.pc,wv,wb,ws]) (n:=5) rfl rfl rfl (by simp only[eQ,J.one 5 rfl,J.one 3 rfl,J.one 1 rfl];rfl);rw[e7,ei];simp only[iY,lj]at L;refine ed (L.wS 7 rfl rfl) ?_;exact H I G wv wb ws xs bs ss fa fn fl (((ax.trans s4).trans s5).trans (K.trans s7)) hc ae ai L.zbO
end
open Un Dm
section
variable{F F':Nat->Prop}{h h':Hp}{cs ds:List Pc}{Q:fy}{u:U}{vv vb vs:V}
def LC(cs:List Pc)(l:Nat):Prop:=∃(i:Nat)(c:Pc),cs[i]? =some c/\c.lX l
theorem en.zdZ(H:en F h cs):en (λl=>F l\/LC cs l) h []:=
 en.nil λl a=>a.elim (H.fl l) λ⟨i,c,hc,b⟩=>(c.JC (H.ok i c hc) l b).1
theorem en.back(H:en F h cs){G:Nat->Prop}(s:Sn (λl=>F l\/LC cs l) h G h'):en F h' cs where
 fl l a:=BL (H.fl l a) s.next
 ok i c hc:=c.fk (H.ok i c hc) (λl a=>s.fk l (.inl a)) (λl a=>s.fk l (.inr ⟨i,c,hc,a⟩)) s.next
 Dl:=H.Dl
theorem Sn.back{G:Nat->Prop}(s:Sn (λl=>F l\/LC cs l) h G h'):Sn F h F h':=⟨s.next,λl a=>s.fk l (.inl a),λ_ h=>h⟩
theorem en.zcN(H:en F h cs){ty:Nat}{xs:List Nat}{v:V}(s:Sn (λl=>F l\/LC cs l) h (λl=>F l\/LC cs l) h') (m:en (λl=>F l\/LC cs l) h' [eR eN ty xs v]):en F h' (eR eN ty xs v::cs):=by
 have k:ko eN ty (λl=>F l\/LC cs l) h' xs v:=m.ok 0 _ rfl;refine(H.back s).cons ?_ λi c hc l n d=>(k.wh n).2.2 (.inr ⟨i,c,hc,d⟩);rcases k with⟨f,g⟩|⟨t,ws,f,g,o,p,q,u⟩
 ·exact .inl ⟨f,g⟩
 ·exact .inr ⟨t,ws,f,g,λw=>o (.inl w),p,by
   have j:∀(ws:List V) (xs:List Nat),pR eN (λl=>F l\/LC cs l) h' ws xs->pR eN F h' ws xs:=λws xs=>by
    induction xs generalizing ws with
    |nil=>exact id
    |cons x xs y=>rintro⟨a,b,e,r,z⟩;exact⟨a,b,e,r,y b z⟩
   exact j ws xs q,u⟩
theorem Pj{α β:Type}{E:qA α} {E':qA β}:∀(ws:List V)(xs:List α)(ys:List β),ys.length=xs.length->(∀(k:Nat) x y cs,xs[k]? =some x->ys[k]? =some y->E.rel F h x cs->E'.rel F' h y cs)->pR E F h ws xs->pR E' F' h ws ys
 |_,[],[],_,_,h=>h
 |ws,x::xs,y::ys,hl,hr,⟨a,b,e,r,hw⟩=>⟨a,b,e,hr 0 x y a rfl rfl r,Pj b xs ys (by simpa using hl) (λk x y cs c d=>hr (k+1) x y cs (by simpa using c) (by simpa using d)) hw⟩
theorem en.reR{α β:Type}{E:qA α} {E':qA β}(H:en F h cs)(i:Nat){ty:Nat}{xs:List α}{ys:List β}{v:V}(hi:cs[i]? =some (eR E ty xs v))(d:E'.sz=E.sz)(a:ys.length=xs.length)(e:∀(k:Nat) x y cs,xs[k]? =some x->ys[k]? =some y->E.rel F h x cs->E'.rel F h y cs):en F h (cs.set i (eR E' ty ys v)):=by
 refine H.swap hi ?_ λ_ h=>h;rcases H.row i hi with⟨b,c⟩|⟨t,ws,b,c,f,g,j,l⟩
 ·subst c;exact .inl ⟨b,UZ a⟩
 ·exact .inr ⟨t,ws,by rw[a];exact b,c,f,by rw[d];exact g,Pj ws xs ys a e j,l⟩
theorem iC.reR{α β:Type}{E:qA α} {E':qA β}{xs:List α}{ys:List β}{v:V}(hs:iC E F h xs v)(d:E'.sz=E.sz)(f:∀l,F l->F' l)(a:ys.length=xs.length)(g:∀(k:Nat) x y cs,xs[k]? =some x->ys[k]? =some y->E.rel F h x cs->E'.rel F' h y cs):iC E' F' h ys v:=by
 rcases hs with⟨b,c⟩|⟨l,o,ty,live,ro,ws,b,c,i,j,m,n⟩
 ·subst c;exact .inl ⟨b,UZ a⟩
 ·exact .inr ⟨l,o,ty,live,ro,ws,by rw[a];exact b,f l c,by rw[d];exact i,j.imp (λe=>UZ (by rw[a,e];rfl)) id,m,Pj _ xs ys a g n⟩
theorem zbz{xs:List Nat}{v:V}(hs:iC eN F h xs v)(n:xs.length<1000000)(x:Nat)(H:Q (.bool (xs.contains x)) h) :
  cP CS kF [v,.I x] h Q:=by
 refine Ar rfl rfl ?_;unfold rr;refine DJ rfl rfl ?_;unfold wj;refine ed hs.len ?_;refine AG (λk l h'=>∃i:Nat,l=[v,.I x,.I xs.length,.I (i:Nat)]/\h' = h/\i+k=xs.length/\∀j y,j<i->xs[j]? =some y->y≠x) ?_ (k:=xs.length) ⟨0,rfl,rfl,by omega,λ_ _ h=>by omega⟩;rintro k _ _ _ _ h' ⟨i,⟨⟩,rfl,p,a⟩;unfold rl;by_cases hi:i<xs.length
 ·refine gG ?_;have b:=gP hi;generalize xs[i]=y at*;obtain⟨l,o,_,f,g⟩:=hs.nat b .i64;refine ed f (ed g (gj ?_));by_cases e:x=y
  ·refine gw (by rw[e]) (ed (mW ..) ?_);rw[J6 (by omega)];have:xs.contains x=true:=List.contains_iff_mem.2 (by rw[e];exact A7 b)
   rwa [this]at H
  ·refine gi (by omega) (fN ⟨k-1,by omega,i+1,rfl,rfl,by omega,λj z c d=>?_⟩);by_cases m:j=i
   ·subst m;rw[b]at d;cases d;exact λe3=>e e3.symm
   ·exact a j z (by omega) d
 ·refine iI (ed (mW ..) ?_);rw[La (by omega)];have:xs.contains x=false:=by
   rw[wBw];intro h;obtain⟨j,c⟩:=mK.1 (List.contains_iff_mem.1 h);exact a j x (by have:=(iR.1 c).1;omega) c rfl
  rwa [this]at H
def pC(az:List Int):Nat->Int:=λv=>az.getD v (-1)
theorem OL{az:List Int}{v:Nat}{a:Int}(h:az[v]? =some a):pC az v=a:=by
 unfold pC;rw[BO,h];rfl
theorem Y6{lt:Nat}{oT:V}{az:List Int}{G:Nat->Prop}(d:ez (.ptr lt 5) h=some oT)(hs:iC eZ G h az oT)(L:az.length<=3000)(g:∀(v:Nat)(a:Int),az[v]? =some a->a<az.length){v:Nat}(hv:v<az.length)
  (H:xj (pC az) (az.length+1) v<az.length->Q (.I (xj (pC az) (az.length+1) v:Nat)) h):cP CS jo [.ptr lt 0,.I v] h Q:=by
 refine HY rfl rfl ?_;unfold Ad;refine Ep (λk l h'=>∃n w:Nat,l=[.ptr lt 0,.I (w:Nat),.I (n:Nat)]/\h' = h/\n+k=az.length+1/\w<az.length/\xj (pC az) k w=xj (pC az) (az.length+1) v) ?_ (k:=az.length+1) ⟨0,v,rfl,rfl,by omega,hv,rfl⟩;rintro k _ _ _ h' ⟨n,w,⟨⟩,rfl,M,i,f⟩;unfold xg;have j:=gP i;have J:=OL j;have K:=g w _ j;generalize az[w]=a at*;obtain⟨l,o,_,p,q⟩:=hs.int j .i64;have d:ez (.ptr lt (0+5)) h' = some oT:=d;refine oN d (ed p (ed q (ed (mW ..) ?_)));rw[show jZ (V.bool (decide (0<=a))) (oB (some (V.ptr lt 0)) λr=>oB (ij r) λs=>oB (fH 5 s) λt=>oB (ez t h') λu=>oB (some (V.I w)) λx=>oB (gD 1 u x) λy=>oB (ez y h') λz=>oB (some (V.I w)) λA=>eo .neq 3 z A)=some (.bool (decide (0<=a)&&(a != (w:Int)))) from by
  simp only[fj,d,p,q,tu,fX,eJ,jU]]
 rw [gU];rw[show jZ (V.bool (decide (0<=a)&&(a != (w:Int)))) (oB (some (V.I n)) λB=>oB (some (V.ptr lt 0)) λC=>oB (ij C) λD=>oB (fH 5 D) λE=>oB (ez E h') λF=>oB (fF F) λI=>eo .leq 3 B I)=some (.bool ((decide (0<=a)&&(a != (w:Int)))&&decide ((n:Int)<=az.length))) from by
  simp only[fj,fX,eJ,d,hs.len,MD,jU]]
 rw[gU]
 cases k with
 | zero=>
   refine js (gi (by rw[La (show ¬((n:Int)<=az.length) by omega)];simp) ?_);have e0:w=xj (pC az) (az.length+1) v:=f;rw[<-e0]at H
   exact H i
 | succ k=>
   rw[J6 (show(n:Int)<=az.length by omega),Bool.and_true];have e:xj (pC az) (k+1) w=if 0<=pC az w/\pC az w≠(w:Int) then xj (pC az) k (pC az w).toNat else w:=rfl
   rw[J]at e;by_cases c:0<=a/\a≠(w:Int)
   ·refine js (gw (by rw[J6 c.1,Z1,X1];exact c.2) ?_)
    refine oN d (ed p (ed q (jO (m:=1) (by omega) (by omega) ?_)));rw[if_pos c]at e;obtain⟨b,rfl⟩:=Z5 c.1;exact⟨k,by omega,n+1,b,rfl,rfl,by omega,by omega,by rw[<-f,e];rfl⟩
   ·refine js (gi (λh=>c ?_) ?_)
    ·rw[uZ,AW,X1]at h
     exact h
    ·rw[if_neg c]at e
     rw[e]at f;rw[<-f]at H;exact H i
theorem YN(n:gv (uC u vv vb vs)=true)(hv:fF vv=some (.I u.ef.length))(B:u.ef.length<=3000)(p:en F h cs)(H:∀h' v,Sn F h F h'->en F h' (eR eZ ey ((List.range u.ef.length).map λ(i:Nat)=>(i:Int)) v::cs)->Q v h') :
  cP CS DA [.agg (uC u vv vb vs)] h Q:=by
 refine SA rfl rfl ?_;unfold L2;refine mH p n λb c q=>?_;refine oF (c.ld 0 rfl rfl) (ed hv ?_);rw[jQ (z:=V.I 0) rfl (by decide) (by omega),fE];obtain⟨r,s⟩:=c.make (E:=eZ) (ty:=ey) (y:=0) (u:=V.I 0) u.ef.length rfl rfl;generalize b.new (.cells ey 1 true false (List.replicate u.ef.length (V.I 0)))=C at*;generalize b.next=lr at*;refine ed (show _=some (V.I u.ef.length) from rfl) ?_;refine Nm (λk l h'=>∃(i:Nat) (ys:List Int),l=[.slice lr 0 u.ef.length,.I u.ef.length,.I i]/\i+k=u.ef.length/\ys.length=u.ef.length/\(∀j:Nat,j<i->ys[j]? =some (j:Int))/\Sn F h F h'/\en F h' (eR eZ ey ys (.slice lr 0 u.ef.length)::ev h.next 30 (uC u vv vb vs)::cs)) ?_ (k:=u.ef.length) ⟨0,_,rfl,by omega,Pl,λ_ h=>by omega,q.trans s,r⟩;rintro k _ _ _ t ⟨i,ys,⟨⟩,D,w,d,f,g⟩;unfold GM;by_cases hi:i<u.ef.length
 ·refine gG ?_;obtain⟨l,o,G,x,A,_,m,s4⟩:=g.Ig 0 rfl (k:=i) (y:=(i:Int)) (u:=V.I i) (by omega) rfl rfl rfl;refine ed x ?_;rw[A,ei];simp only[iY]at m;refine fN ⟨k-1,by omega,i+1,ys.set i (i:Int),rfl,by omega,by simp[w],λj a=>?_,f.trans s4,m⟩;by_cases e:j=i
  ·subst e;exact EK (by omega)
  ·rw[C8 λh=>e h.symm];exact d j (by omega)
 ·refine iI ?_;have e:ys=(List.range u.ef.length).map λ(i:Nat)=>(i:Int):=by
   refine wBv λj=>?_;by_cases a:j<u.ef.length
   ·rw[d j (by omega),zG,wBq a];rfl
   ·rw[KT (by omega),KT (by simp;omega)]
  rw[<-e]at H;exact H t _ f g.IF
end
