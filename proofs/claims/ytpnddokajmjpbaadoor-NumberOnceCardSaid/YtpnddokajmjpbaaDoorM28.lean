/- Parts. -/
import Derived.Test.YtpnddokajmjpbaaDoorM27
import Derived.Test.YtpnddokajmjpbaaDoorM34
import Derived.Test.YtpnddokajmjpbaaDoorM33
namespace Go.Proofs.YtpnddokajmjpbaaDoor.Hx
open Go.Proofs.YtpnddokajmjpbaaDoor.Un Go.Proofs.YtpnddokajmjpbaaDoor.Dm
theorem V9:P0.underlying en=some (.int .i64):=by kernel_rfl
theorem Qf (a b:Int):B4 en (.int .i64 a) (.int .i64 b)=some (a == b):=by
 unfold B4;rw[V9];rfl
section
variable{u:U}
theorem Dp {w:Nat}(h:tI u w):w<u.ee.length:=by
 obtain⟨x,a,_⟩:=h;exact(iB.1 a).1
theorem SU (g:Good u){s:Nat}{fs:List Fm}(a:u.eh[s]? =some fs):∀w∈ie fs,w<u.ee.length:=by
 intro w c;unfold ie at c;obtain⟨f,d,e⟩:=Pp.1 c;obtain⟨_,_,h⟩:=g.st s fs a;obtain⟨_,_,i,j⟩:=h f d;rcases xX.1 e with b|b
 ·exact Dp (i w b)
 ·exact Dp (j w b)
theorem Mf (g:Good u){i:Nat}{x:Vl}(hx:u.ee[i]? =some x):x.op=21\/x.op=20->x.args.length<=700:=by
 have nb:=g.nb;obtain⟨b,k,a⟩:=g.AB i (iB.1 hx).1;obtain⟨B,d,e⟩:=id a;rintro(c|c)
 ·rw[(g.IE _ _ _ _ _ a hx c d).2,g.fe b B d,<-nM];have:=nK g (i:=u.blocks.length) (j:=0) (b:=b) (iW _) (by omega);omega
 ·rw[g.putAt i x hx c];omega
theorem BG (g:Good u)(s:Nat)(fs:List Fm)(a:u.eh[s]? =some fs):fs.length<=30/\∀f∈fs,f.locals.length<=40/\f.stack.length<=60:=by
 obtain⟨_,d,b⟩:=g.st s fs a;exact⟨d,λf c=>⟨(b f c).1,(b f c).2.1⟩⟩
theorem Bj (g:Good u){b:Nat}{B:Bk}(a:u.blocks[b]? =some B):B.ee.length<=3000:=by
 have nv:=g.nv;have:=jy u.ee.length B.ee (Fj g a) λv hv=>by
  obtain⟨k,c⟩:=mA.1 hv;exact g.l0 v b k ⟨B,a,c⟩
 omega
theorem Fs (g:Good u){b:Nat}{B:Bk}(a:u.blocks[b]? =some B):B.fe.length<=700:=by
 have nb:=g.nb;rw[g.fe b B a,<-nM];have:=nK g (i:=u.blocks.length) (j:=0) (b:=b) (iW _) (by omega);omega
theorem Em (g:Good u){b:Nat}{B:Bk}(a:u.blocks[b]? =some B):B.next.length<=2:=by
 rcases g.fin b B a with⟨_,h⟩|⟨_,h,_⟩|⟨_,h,_⟩
 ·omega
 ·omega
 ·rw[h];simp
end
open Go.Proofs.YtpnddokajmjpbaaDoor.Un Go.Proofs.YtpnddokajmjpbaaDoor.Dm
def vW:nQ (Vl×V) where
 sz:=6
 rel _ _ x cs:=cs=ll x.1 x.2/\x.2.one=true
 len h:=by rw[h.1];rfl
 one h:=by rw[h.1];simp only[ll,eJ,h.2];rfl
 fc _ h:=h
 mono _ h:=h
def tO:nQ (Bk×V) where
 sz:=6
 rel F h x cs:=∃v p,cs=kM x.1 v x.2 p/\ik eN F h x.1.ee v/\ik eN F h x.1.fe p/\x.2.one=true
 len:=λ⟨_,_,h,_⟩=>by subst h;rfl
 one:=λ⟨_,_,h,a,b,c⟩=>by subst h;simp only[kM,eJ,a.one,b.one,c];rfl
 fc:=λd ⟨v,p,h,a,b,c⟩=>⟨v,p,h,a.fc d,b.fc d,c⟩
 mono:=λhb ⟨v,p,h,a,b,c⟩=>⟨v,p,h,a.mono hb,b.mono hb,c⟩
def Ny:nQ (Fm×V×V) where
 sz:=4
 rel _ _ x cs:=cs=Nr x.1 x.2.1 x.2.2/\x.2.1.one=true/\x.2.2.one=true
 len h:=by rw[h.1];rfl
 one h:=by rw[h.1];simp only[Nr,eJ,h.2.1,h.2.2];rfl
 fc _ h:=h
 mono _ h:=h
section
variable{F F':Nat->Prop}{h h':Hp}{cs:List Pc}{Q:fx}{u:U}{vv vb vs:V}
theorem ei.empty (H:ei F h cs)(i:Nat){l:Nat}(hi:cs[i]? =some (eo l en [])):ei F h (cs.set i (eQ eN en [] (.slice l 0 0))):=by
 have a:=H.ok i _ hi;exact H.swap hi (.inr ⟨l,[],rfl,a.2.1,a.2.2,a.1,trivial,rfl⟩) λm e=>e.symm
structure TK (vs:List Vl) (xs:List (Vl×V)) (fa:Nat->Option (List Nat×V)):Prop where
 fst:xs.map Prod.fst=vs
 row:∀i x w,xs[i]? =some (x,w)->fa i=some (x.args,w)
 out:∀i,xs.length<=i->fa i=none
structure Tq (bs:List Bk) (xs:List (Bk×V)) (fn:Nat->Option (List Nat×V)):Prop where
 fst:xs.map Prod.fst=bs
 row:∀i x w,xs[i]? =some (x,w)->fn i=some (x.next,w)
 out:∀i,xs.length<=i->fn i=none
abbrev KF:=Nat×Nat×Bool
structure CpF (s:Nat) (fs:List Fm) (xs:List (Fm×V×V)) (fl:KF->Option (List Nat×V)):Prop where
 fst:xs.map Prod.fst=fs
 loc:∀k x l w,xs[k]? =some (x,l,w)->fl (s,k,false)=some (x.locals,l)/\fl (s,k,true)=some (x.stack,w)
 out:∀k b,xs.length<=k->fl (s,k,b)=none
structure XD (ss:List (List Fm)) (xs:List (List (Fm×V×V))) (fl:KF->Option (List Nat×V)):Prop where
 fst:xs.map (λl=>l.map Prod.fst)=ss
 loc:∀s l k x a w,xs[s]? =some l->l[k]? =some (x,a,w)->fl (s,k,false)=some (x.locals,a)/\fl (s,k,true)=some (x.stack,w)
 out:∀s k b,xs.length<=s->fl (s,k,b)=none
theorem TK.snoc {vs:List Vl}{xs:List (Vl×V)}{fa:Nat->Option (List Nat×V)}(c:TK vs xs fa)(x:Vl)(w:V):TK (vs++[x]) (xs++[(x,w)]) (up fa xs.length (some (x.args,w))):=by
 refine⟨by rw[EV,c.fst];rfl,λi y v hi=>?_,λi hi=>?_⟩
 ·by_cases e:i<xs.length
  ·rw[Ns e]at hi;rw[iz _ _ (by omega)];exact c.row i y v hi
  ·rw[Rr (by omega)]at hi;have a:i-xs.length=0:=by have:=(iB.1 hi).1;simp at this;omega
   rw[a]at hi;cases hi;obtain rfl:i=xs.length:=by omega
   exact im _ _ _
 ·rw[zL]at hi;rw[iz _ _ (by simp at hi;omega)];exact c.out i (by simp at hi;omega)
theorem Tq.snoc {bs:List Bk}{xs:List (Bk×V)}{fn:Nat->Option (List Nat×V)}(c:Tq bs xs fn)(x:Bk)(w:V):Tq (bs++[x]) (xs++[(x,w)]) (up fn xs.length (some (x.next,w))):=by
 refine⟨by rw[EV,c.fst];rfl,λi y v hi=>?_,λi hi=>?_⟩
 ·by_cases e:i<xs.length
  ·rw[Ns e]at hi;rw[iz _ _ (by omega)];exact c.row i y v hi
  ·rw[Rr (by omega)]at hi;have a:i-xs.length=0:=by have:=(iB.1 hi).1;simp at this;omega
   rw[a]at hi;cases hi;obtain rfl:i=xs.length:=by omega
   exact im _ _ _
 ·rw[zL]at hi;rw[iz _ _ (by simp at hi;omega)];exact c.out i (by simp at hi;omega)
theorem ei.re (H:ei F h cs){ds:List Pc}(m:Nat->Nat)(a:∀i c,ds[i]? =some c->cs[m i]? =some c)(b:∀i j,i<ds.length->j<ds.length->m i=m j->i=j):ei F h ds where
 fl:=H.fl
 ok i c hc:=H.ok (m i) c (a i c hc)
 Bs i j c d hc hd hn:=H.Bs (m i) (m j) c d (a i c hc) (a j d hd) λe=>hn (b i j (iB.1 hc).1 (iB.1 hd).1 e)
theorem ei.zah {a b c d:Pc}(H:ei F h (a::b::c::d::cs)):ei F h (b::d::a::cs):=
 H.re (λi=>match i with|0=>1|1=>3|2=>0|n+3=>n+4) (λi c hc=>match i,hc with|0,hc=>hc|1,hc=>hc|2,hc=>hc|n+3,hc=>hc) λi j _ _ e=>by
  match i,j with
  |0,0|1,1|2,2=>rfl
  |0,1|0,2|1,0|1,2|2,0|2,1=>simp at e
  |0,n+3|1,n+3|2,n+3|n+3,0|n+3,1|n+3,2=>simp at e;try omega
  |n+3,k+3=>simp at e;omega
theorem ei.WV {ι:Type} [DecidableEq ι] {ty:Nat}{f:ι->Option (List Nat×V)}{xs ys:List Nat}{v w:V}{c:Pc}(H:ei F h (eQ eN ty xs v::eQ eN ty ys w::c::fJ ty f::cs)){i j:ι}(hi:f i=Option.none)(a:f j=Option.none)(b:j≠i) :
  ei F h (fJ ty (up (up f i (some (ys,w))) j (some (xs,v)))::cs):=
 (H.zah.MM hi).sw.MM (by rw[iz _ _ b];exact a)
theorem ei.zay {a b c d e f x y z:Pc}(H:ei F h (a::b::c::d::e::f::x::y::z::cs)):ei F h (f::d::b::e::c::a::cs):=
 H.re (λi=>match i with|0=>5|1=>3|2=>1|3=>4|4=>2|5=>0|n+6=>n+9) (λi c hc=>match i,hc with|0,hc=>hc|1,hc=>hc|2,hc=>hc|3,hc=>hc|4,hc=>hc|5,hc=>hc|n+6,hc=>hc) λi j _ _ e=>by
   have g:∀i:Nat,(match i with|0=>5|1=>3|2=>1|3=>4|4=>2|5=>0|n+6=>n+9:Nat)=(if i<6 then[5,3,1,4,2,0].getD i 0 else i+3):=λi=>by
     match i with
     |0|1|2|3|4|5=>rfl
     |n+6=>rw[if_neg (by omega)]
   simp only[g]at e;by_cases hi:i<6
   ·by_cases hj:j<6
    ·rw[if_pos hi,if_pos hj]at e
     exact(by decide:∀i,i<6->∀j,j<6->[5,3,1,4,2,0].getD i 0=[5,3,1,4,2,0].getD j 0->i=j) i hi j hj e
    ·rw[if_pos hi,if_neg hj]at e
     have:[5,3,1,4,2,0].getD i 0<6:=(by decide:∀i,i<6->[5,3,1,4,2,0].getD i 0<6) i hi;omega
   ·by_cases hj:j<6
    ·rw[if_neg hi,if_pos hj]at e
     have:[5,3,1,4,2,0].getD j 0<6:=(by decide:∀i,i<6->[5,3,1,4,2,0].getD i 0<6) j hj;omega
    ·rw[if_neg hi,if_neg hj]at e
     omega
theorem CpF.snoc {s:Nat}{fs:List Fm}{xs:List (Fm×V×V)}{fl:KF->Option (List Nat×V)}(c:CpF s fs xs fl)(x:Fm)(l w:V):CpF s (fs++[x]) (xs++[(x,l,w)]) (up (up fl (s,xs.length,false) (some (x.locals,l))) (s,xs.length,true) (some (x.stack,w))):=by
 refine⟨by rw[EV,c.fst];rfl,λi y a b hi=>?_,λi b hi=>?_⟩
 ·by_cases e:i<xs.length
  ·rw[Ns e]at hi;have f:=c.loc i y a b hi;rw[iz _ _ (by simp),iz _ _ (by simp;omega),iz _ _ (by simp;omega),iz _ _ (by simp)];exact f
  ·rw[Rr (by omega)]at hi;have d:i-xs.length=0:=by have:=(iB.1 hi).1;simp at this;omega
   rw[d]at hi;cases hi;obtain rfl:i=xs.length:=by omega
   exact⟨by rw[iz _ _ (by simp),im],im _ _ _⟩
 ·rw[zL]at hi;simp at hi;rw[iz _ _ (by simp;omega),iz _ _ (by simp;omega)];exact c.out i b (by omega)
theorem XD.snoc {ss:List (List Fm)}{xs:List (List (Fm×V×V))} {fl d:KF->Option (List Nat×V)}(c:XD ss xs fl){fs:List Fm}{ys:List (Fm×V×V)} (c':CpF xs.length fs ys d)(f:∀s k b,s≠xs.length->d (s,k,b)=fl (s,k,b)):XD (ss++[fs]) (xs++[ys]) d:=by
 refine⟨by rw[EV,c.fst,<-c'.fst];rfl,λi l k y a b hi h=>?_,λi k b hi=>?_⟩
 ·by_cases e:i<xs.length
  ·rw[Ns e]at hi;rw[f _ _ _ (by omega),f _ _ _ (by omega)];exact c.loc i l k y a b hi h
  ·rw[Rr (by omega)]at hi;have g:i-xs.length=0:=by have:=(iB.1 hi).1;simp at this;omega
   rw[g]at hi;cases hi;obtain rfl:i=xs.length:=by omega
   exact c'.loc k y a b h
 ·rw[zL]at hi;simp at hi;rw[f _ _ _ (by omega)];exact c.out i k b (by omega)
def QA (u:U):Prop:=∀(v:Nat)(x:Vl),u.ee[v]? =some x->x.args.length<=700
structure VD (u:U):Prop where
 nv:u.ee.length<=3000
 nb:u.blocks.length<=300
 ns:u.eh.length<=1000
 args:QA u
 mS:∀(b:Nat) (B:Bk),u.blocks[b]? =some B->B.ee.length<=3000/\B.fe.length<=700/\B.next.length<=2
 st:∀(s:Nat) (fs:List Fm),u.eh[s]? =some fs->fs.length<=30/\∀f∈fs,f.locals.length<=40/\f.stack.length<=60
theorem KK (g:Good u)(b:QA u):VD u:=⟨g.nv,g.nb,g.ns,b,λ_ _ a=>⟨Bj g a,Fs g a,Em g a⟩,BG g⟩
theorem Q2 (g:VD u)(H0:ei F h cs)(hu:zf F h u vv vb vs)
  (H:∀F' h' wv wb ws (xs:List (Vl×V)) (bs:List (Bk×V)) (ss:List (List (Fm×V×V))) fa fn fl,Sn F h F' h'->TK u.ee xs fa->Tq u.blocks bs fn->XD u.eh ss fl->
   ei F' h' (eQ vW gy xs wv::eQ tO fE bs wb::eQ (eL Ny) kQ ss ws::fJ en fa::fJ en fn::fJ en fl::cs)->Q (.agg (uC u wv wb ws)) h') :
  cP CS vM [.agg (uC u vv vb vs)] h Q:=by
 refine QK rfl rfl ?_;unfold Kj;have nv:=g.nv;refine mf H0 hu.one λh1 H1 s1=>?_;rw[fq];obtain⟨H2,s2⟩:=H1.yP gj [.int .i64 0,.int .i64 0,.ec,.ec,.ec];have H2:ei F (h1.new (.cells 30 1 true false [V.int .i64 0,.int .i64 0,.ec,.ec,.ec])) (eo h1.next 30 [V.int .i64 0,.int .i64 0,.ec,.ec,.ec]::eo h.next 30 (uC u vv vb vs)::cs):=H2;have s2:Sn F h1 F (h1.new (.cells 30 1 true false [V.int .i64 0,.int .i64 0,.ec,.ec,.ec])):=s2;generalize h1.new (.cells 30 1 true false [V.int .i64 0,.int .i64 0,.ec,.ec,.ec])=h2 at*;generalize h.next=l1 at*;generalize h1.next=l2 at*;refine oF (H2.ld 1 rfl rfl) (oF (H2.ld 1 rfl rfl) (ed (show _=some (V.agg [.int .i64 u.func,.int .i64 u.pc,.ec,.ec,.ec]) from rfl) ?_));refine iK H2 rfl rfl rfl λh3 H3 s3=>?_;generalize h2.next=l3 at*;have ax:=(s1.trans s2).trans s3;have u3:=hu.since ax;refine oF (H3.ld 2 rfl rfl) (ed u3.v.len ?_)
 have H3:ei F h3 (fJ en (λ_:Nat=>Option.none)::eQ vW gy [] .ec::eo l3 30 [.int .i64 u.func,.int .i64 u.pc,.ec,.ec,.ec]::eo l2 30 [.int .i64 0,.int .i64 0,.ec,.ec,.ec]::eo l1 30 (uC u vv vb vs)::cs):=
  (H3.add (p:=eQ vW gy [] .ec) .nil λ_ h=>h).Uv
 refine K8 (λk l h'=>∃(i:Nat) (xs:List (Vl×V)) (fa:Nat->Option (List Nat×V)) (wv:V),l=[.ptr l1 0,.ptr l2 0,.ptr l3 0,vv,.int .i64 u.ee.length,.int .i64 i]/\i+k=u.ee.length/\Sn F h3 F h'/\xs.length=i/\TK (u.ee.take i) xs fa/\
  ei F h' (fJ en fa::eQ vW gy xs wv::eo l3 30 [.int .i64 u.func,.int .i64 u.pc,wv,.ec,.ec]::eo l2 30 [.int .i64 0,.int .i64 0,.ec,.ec,.ec]::eo l1 30 (uC u vv vb vs)::cs)) ?_ (k:=u.ee.length)
  ⟨0,[],λ_=>Option.none,.ec,rfl,by omega,Sn.refl _ _,rfl,⟨rfl,λ_ _ _ h=>by simp at h,λ_ _=>rfl⟩,H3⟩
 rintro k _ _ _ _ _ _ h4 ⟨i,xs,fa,wv,⟨⟩,hk,s4,ay,hc,H4⟩;unfold EU;have u4:=u3.since s4;by_cases hi:i<u.ee.length
 ·refine gw ?_;have hx:=gQ hi;have P:u.ee.take (i+1)=u.ee.take i++[u.ee[i]]:=Nw hi;generalize u.ee[i]=x at*;obtain⟨lx,ox,w,_,x1,x2,xw,_⟩:=u4.val hx;refine ed x1 (ed x2 ?_);refine iK H4 rfl rfl (by simp only[ll,eJ,xw.one];rfl) λX H5 s5=>?_;generalize h4.next=lc at*;rw[DA,fq];obtain⟨J,K⟩:=H5.SE (E:=eN) (xs:=[]) (ws:=[]) (n:=0) en rfl trivial rfl;have J:ei F (X.new (.cells 3 1 true false [])) (eQ eN en [] (.slice X.next 0 0)::eo lc 42 (ll x w)::_):=J;have K:Sn F X F (X.new (.cells 3 1 true false [])):=K;generalize X.new (.cells 3 1 true false [])=h6 at*;refine oF (J.ld 1 rfl rfl) ?_;have aI:=g.args i x hx;obtain⟨c,G,e7,_,L,s7⟩:=J.J8 0 rfl (jr:=8) ((xw.since s5).since K) (by decide) (by decide) (by simp;omega);have aJ:eR 3 1 8 (.slice X.next 0 0) w h6=some (.val c G):=e7;rw[aJ,ef];simp only[iO,LG]at L;have m:=L.one 0 rfl;obtain⟨Y,e8,_,A,s8⟩:=L.st 1 (o:=4) (u:=c) rfl (by simp[ll]) m;refine ed (ez _ _ _) ?_;have aK:gB 1 (.ptr lc (0+4)) c G=some (.val .undef Y):=by rw[vI];exact e8
  rw[aK,ef];simp only[iO,kZ]at A;have A:ei F Y (eQ eN en x.args c::eo lc 42 (ll x c)::fJ en fa::eQ vW gy xs wv::eo l3 30 [.int .i64 u.func,.int .i64 u.pc,wv,.ec,.ec]::_):=A;refine oF (A.ld 4 rfl rfl) (ed (A.wH 1 rfl rfl) ?_);rw[mq (sz:=6) (w:=ll x c) rfl rfl (by simp only[ll,eJ,m];rfl),fq];obtain⟨aa,h9,e9,_,r,s9⟩:=A.vF 3 rfl (jr:=64) (zF:=42) (y:=(x,c)) (w:=ll x c) (ro:=false) ⟨rfl,m⟩ (by decide) (by decide) (by omega);have aL:eR 42 6 64 wv (.slice Y.next 0 1) (Y.new (.cells 42 6 true false (ll x c)))=some (.val aa h9):=e9;rw[aL,ef];simp only[iO,kZ]at r;obtain⟨ab,aM,_,d,C⟩:=r.st 4 (o:=2) (u:=aa) rfl (by simp) (r.one 3 rfl);refine ed (ez _ _ _) ?_;have aA:gB 1 (.ptr l3 (0+2)) aa h9=some (.val .undef ab):=by rw[vI];exact aM
  rw[aA,ef];simp only[iO,kZ]at d;have ac:=d.GI.MM (i:=i) (hc.out i (by omega));refine fM ⟨k-1,by omega,i+1,xs++[(x,c)],up fa i (some (x.args,c)),aa,rfl,by omega,((((s4.trans s5).trans K).trans s7).trans s8).trans (s9.trans C),by simp[ay],?_,ac⟩;rw[P];have:=hc.snoc x c
  rwa [ay]at this
 refine iC ?_;obtain rfl:i=u.ee.length:=by omega
 rw[IT]at hc;have nb:=g.nb;refine oF (H4.ld 4 rfl rfl) (ed u4.b.len ?_);clear hk k
 have H4:ei F h4 (fJ en (λ_:Nat=>Option.none)::eQ tO fE [] .ec::fJ en fa::eQ vW gy xs wv::eo l3 30 [.int .i64 u.func,.int .i64 u.pc,wv,.ec,.ec]::eo l2 30 [.int .i64 0,.int .i64 0,.ec,.ec,.ec]::eo l1 30 (uC u vv vb vs)::cs):=
  (H4.add (p:=eQ tO fE [] .ec) .nil λ_ h=>h).Uv
 refine Lk (λk l h'=>∃(F':Nat->Prop) (i:Nat) (bs:List (Bk×V)) (fn:Nat->Option (List Nat×V)) (wb:V),l=[.ptr l1 0,.ptr l2 0,.ptr l3 0,vb,.int .i64 u.blocks.length,.int .i64 i]/\i+k=u.blocks.length/\Sn F h4 F' h'/\bs.length=i/\Tq (u.blocks.take i) bs fn/\
  ei F' h' (fJ en fn::eQ tO fE bs wb::fJ en fa::eQ vW gy xs wv::eo l3 30 [.int .i64 u.func,.int .i64 u.pc,wv,wb,.ec]::eo l2 30 [.int .i64 0,.int .i64 0,.ec,.ec,.ec]::eo l1 30 (uC u vv vb vs)::cs)) ?_ (k:=u.blocks.length)
  ⟨F,0,[],λ_=>Option.none,.ec,rfl,by omega,Sn.refl _ _,rfl,⟨rfl,λ_ _ _ h=>by simp at h,λ_ _=>rfl⟩,H4⟩
 rintro k _ _ _ _ _ _ X ⟨F5,i,bs,fn,wb,⟨⟩,hk,s5,aB,ae,H5⟩;unfold E5;have u5:=u4.since s5;by_cases hi:i<u.blocks.length
 ·refine gw ?_;have hB:=gQ hi;have P:u.blocks.take (i+1)=u.blocks.take i++[u.blocks[i]]:=Nw hi;generalize u.blocks[i]=B at*;have aV:=(g.mS i B hB).1;have aW:=(g.mS i B hB).2.1;have aX:=(g.mS i B hB).2.2;obtain⟨lx,ox,bv,bn,bp,_,x1,x2,iv,iN,ip,_⟩:=u5.mS hB;refine ed x1 (ed x2 ?_);refine iK H5 rfl rfl (by simp only[kM,eJ,iv.one,iN.one,ip.one];rfl) λh6 J K=>?_;generalize X.next=lc at*;have q:∀{h:Hp} {cs:List Pc},ei F5 h cs->ei F5 (h.new (.cells 3 1 true false [])) (eo h.next 3 []::cs)/\Sn F5 h F5 (h.new (.cells 3 1 true false [])):=λH=>H.yP 3 [];rw[DA,gY];obtain⟨L,s7⟩:=q J;generalize h6.new (.cells 3 1 true false [])=G at*;refine oF (L.ld 1 rfl rfl) ?_;rw[gY];obtain⟨A,s8⟩:=q L;generalize G.new (.cells 3 1 true false [])=Y at*;refine oF (A.ld 2 rfl rfl) ?_;rw[gY];obtain⟨r,s9⟩:=q A;generalize Y.new (.cells 3 1 true false [])=h9 at*;generalize h6.next=ra at*;generalize G.next=rb at*;generalize Y.next=rc at*;refine oF (r.ld 3 rfl rfl) ?_;have ag:=(s7.trans s8).trans s9;have Z:∀{e sz:Nat} {a b:Bool} {cs:List V},O.beq (.cells e sz a b cs) (.cells e sz a b cs)=true:=O.gL _ _ _ _ _;refine⟨⟨r.get 0 rfl,Z⟩,r.ld 3 rfl rfl,⟨r.get 1 rfl,Z⟩,r.ld 3 rfl rfl,⟨r.get 2 rfl,Z⟩,?_⟩;have aN:=(iv.since K).since ag;have aO:=(iN.since K).since ag;have aP:=(ip.since K).since ag;have r:=r.empty 2 rfl;simp only[iO,kZ]at r;obtain⟨c,hA,eA,nA,t,sA⟩:=r.J8 2 rfl (jr:=8) aN (by decide) (by decide) (by simp;omega);have am:eR 3 1 8 (.slice ra 0 0) bv h9=some (.val c hA):=eA;rw[am,ef];simp only[iO,kZ,LG]at t;refine⟨nA,ed (ez _ _ _) ⟨t.ld 3 rfl rfl,⟨t.get 0 rfl,Z⟩,t.ld 3 rfl rfl,⟨t.get 1 rfl,Z⟩,?_⟩⟩;have t:=t.empty 1 rfl;simp only[iO,kZ]at t;obtain⟨M,hC,eC,nC,N,sC⟩:=t.J8 1 rfl (jr:=8) (aO.since sA) (by decide) (by decide) (by simp;omega);have an:eR 3 1 8 (.slice rb 0 0) bn hA=some (.val M hC):=eC;rw[an,ef];simp only[iO,kZ,LG]at N;refine⟨nC,N.ld 3 rfl rfl,⟨N.get 0 rfl,Z⟩,?_⟩;have N:=N.empty 0 rfl;simp only[iO,kZ]at N;obtain⟨vp,hD,eD,nD,HD,sD⟩:=N.J8 0 rfl (jr:=8) ((aP.since sA).since sC) (by decide) (by decide) (by simp;omega);have aQ:eR 3 1 8 (.slice rc 0 0) bp hC=some (.val vp hD):=eD;rw[aQ,ef];simp only[iO,kZ,LG]at HD;have m:=HD.one 2 rfl;have ao:=HD.one 1 rfl;have aC:=HD.one 0 rfl;obtain⟨hE,eE,nE,HE,sE⟩:=HD.st 3 (o:=0) (u:=c) rfl (by simp[kM]) m;have ap:gB 1 (.ptr lc (0+0)) c hD=some (.val .undef hE):=eE;refine⟨nD,?_⟩;rw[ap,ef];simp only[iO,kZ]at HE;obtain⟨hG,eG,nG,HG,sG⟩:=HE.st 3 (o:=3) (u:=M) rfl (by simp[kM]) ao;have aq:gB 1 (.ptr lc (0+3)) M hE=some (.val .undef hG):=by rw[vI];exact eG
  refine⟨nE,ed (ez _ _ _) ?_⟩;rw[aq,ef];simp only[iO,kZ]at HG;obtain⟨hI,eI,nI,HI,sI⟩:=HG.st 3 (o:=4) (u:=vp) rfl (by simp[kM]) aC;have aR:gB 1 (.ptr lc (0+4)) vp hG=some (.val .undef hI):=by rw[vI];exact eI
  refine⟨nG,ed (ez _ _ _) ?_⟩;rw[aR,ef];simp only[iO,kZ]at HI;have HI:ei F5 hI (eQ eN en B.fe vp::eQ eN en B.next M::eQ eN en B.ee c::eo lc 44 (kM B c M vp)::fJ en fn::eQ tO fE bs wb::fJ en fa::eQ vW gy xs wv::eo l3 30 [.int .i64 u.func,.int .i64 u.pc,wv,wb,.ec]::_):=HI;refine⟨nI,oF (HI.ld 8 rfl rfl) (ed (HI.wH 3 rfl rfl) ?_)⟩;obtain⟨HJ,sJ,rp⟩:=HI.kE 0 rfl;simp only[iO]at HJ;obtain⟨HK,sK,rv⟩:=HJ.kE 2 rfl;simp only[iO,kZ]at HK;have rp:=rp.since sK;have HK:=HK.tail.GI.GI;generalize (λl=>(F5 l\/Loc vp l)\/Loc c l)=FK at*;rw[mq (sz:=6) (w:=kM B c M vp) rfl rfl (by simp only[kM,eJ,m,ao,aC];rfl),fq];obtain⟨ah,hL,eL,_,R,sL⟩:=HK.vF 2 rfl (jr:=96) (zF:=44) (y:=(B,M)) (w:=kM B c M vp) (ro:=false) ⟨c,vp,rfl,rv,rp,ao⟩ (by decide) (by decide) (by omega);have S:eR 44 6 96 wb (.slice hI.next 0 1) (hI.new (.cells 44 6 true false (kM B c M vp)))=some (.val ah hL):=eL;rw[S,ef];simp only[iO,kZ]at R;obtain⟨hM,eM,_,HM,sM⟩:=R.st 5 (o:=3) (u:=ah) rfl (by simp) (R.one 2 rfl);refine ed (ez _ _ _) ?_;have T:gB 1 (.ptr l3 (0+3)) ah hL=some (.val .undef hM):=by rw[vI];exact eM
  rw[T,ef];simp only[iO,kZ]at HM;have HN:=HM.MM (i:=i) (ae.out i (by omega));have aD:=((((((K.trans ag).trans sA).trans sC).trans sD).trans sE).trans sG).trans sI;refine fM ⟨k-1,by omega,FK,i+1,bs++[(B,M)],up fn i (some (B.next,M)),ah,rfl,by omega,s5.trans (((aD.trans sJ).trans sK).trans (sL.trans sM)),by simp[aB],?_,HN⟩;rw[P];have:=ae.snoc B M
  rwa [aB]at this
 refine iC ?_;have ns:=g.ns;obtain rfl:i=u.blocks.length:=by omega
 rw[IT]at ae;refine oF (H5.ld 6 rfl rfl) (ed u5.s.len ?_);clear hk k
 have H5:ei F5 X (fJ en (λ_:KF=>Option.none)::eQ (eL Ny) kQ [] .ec::fJ en fn::eQ tO fE bs wb::fJ en fa::eQ vW gy xs wv::eo l3 30 [.int .i64 u.func,.int .i64 u.pc,wv,wb,.ec]::eo l2 30 [.int .i64 0,.int .i64 0,.ec,.ec,.ec]::eo l1 30 (uC u vv vb vs)::cs):=
  (H5.add (p:=eQ (eL Ny) kQ [] .ec) .nil λ_ h=>h).Uv
 refine Lo (λk l h'=>∃(F':Nat->Prop) (i:Nat) (ss:List (List (Fm×V×V))) (fl:KF->Option (List Nat×V)) (ws:V),l=[.ptr l2 0,.ptr l3 0,vs,.int .i64 u.eh.length,.int .i64 i]/\i+k=u.eh.length/\Sn F5 X F' h'/\ss.length=i/\XD (u.eh.take i) ss fl/\
  ei F' h' (fJ en fl::eQ (eL Ny) kQ ss ws::fJ en fn::eQ tO fE bs wb::fJ en fa::eQ vW gy xs wv::eo l3 30 [.int .i64 u.func,.int .i64 u.pc,wv,wb,ws]::eo l2 30 [.int .i64 0,.int .i64 0,.ec,.ec,.ec]::eo l1 30 (uC u vv vb vs)::cs)) ?_ (k:=u.eh.length)
  ⟨F5,0,[],λ_=>Option.none,.ec,rfl,by omega,Sn.refl _ _,rfl,⟨rfl,λ_ _ _ _ _ _ h=>by simp at h,λ_ _ _ _=>rfl⟩,H5⟩
 rintro k _ _ _ _ _ h6 ⟨I,i,ss,fl,ws,⟨⟩,hk,K,aE,ai,J⟩;unfold E7;have u6:=u5.since K;by_cases hi:i<u.eh.length
 ·refine gw ?_;have hS:=gQ hi;have P:u.eh.take (i+1)=u.eh.take i++[u.eh[i]]:=Nw hi;generalize u.eh[i]=fs at*;have aY:=(g.st i fs hS).1;obtain⟨lx,ox,f,_,x1,x2,_,xf⟩:=u6.st hS;refine ed x1 (ed x2 ?_);refine iK J rfl rfl (by simp only[eJ,xf.one];rfl) λG L s7=>?_;generalize h6.next=lc at*;rw[fq];obtain⟨A,s8⟩:=L.yP kQ [.ec];have A:ei I (G.new (.cells 38 1 true false [V.ec])) (eo G.next 38 [.ec]::eo lc 38 [f]::_):=A;have s8:Sn I G I (G.new (.cells 38 1 true false [V.ec])):=s8;generalize G.new (.cells 38 1 true false [V.ec])=Y at*;generalize G.next=ld at*;have xf:=(xf.since s7).since s8;refine oF (A.ld 1 rfl rfl) (ed xf.len ?_)
  have A:ei I Y (fJ en fl::eQ Ny Jc [] .ec::eo ld 38 [.ec]::eQ (eL Ny) kQ ss ws::fJ en fn::eQ tO fE bs wb::fJ en fa::eQ vW gy xs wv::eo l3 30 [.int .i64 u.func,.int .i64 u.pc,wv,wb,ws]::eo l2 30 [.int .i64 0,.int .i64 0,.ec,.ec,.ec]::eo l1 30 (uC u vv vb vs)::cs):=
   (A.GI.sw.add (p:=eQ Ny Jc [] .ec) .nil λ_ h=>h).sw
  refine Lq (λk' l h'=>∃(j:Nat) (ys:List (Fm×V×V)) (D:KF->Option (List Nat×V)) (U:V),l=[.ptr l2 0,.ptr l3 0,.ptr ld 0,vs,.int .i64 u.eh.length,.int .i64 i,f,.int .i64 fs.length,.int .i64 j]/\j+k' = fs.length/\Sn I Y I h'/\ys.length=j/\CpF i (fs.take j) ys D/\(∀s k b,s≠i->D (s,k,b)=fl (s,k,b))/\
   ei I h' (fJ en D::eQ Ny Jc ys U::eo ld 38 [U]::eQ (eL Ny) kQ ss ws::fJ en fn::eQ tO fE bs wb::fJ en fa::eQ vW gy xs wv::eo l3 30 [.int .i64 u.func,.int .i64 u.pc,wv,wb,ws]::eo l2 30 [.int .i64 0,.int .i64 0,.ec,.ec,.ec]::eo l1 30 (uC u vv vb vs)::cs)) ?_ (k:=fs.length)
   ⟨0,[],fl,.ec,rfl,by omega,Sn.refl _ _,rfl,⟨rfl,λ_ _ _ _ h=>by simp at h,λk b _=>ai.out i k b (by omega)⟩,λ_ _ _ _=>rfl,A⟩
  rintro k' _ _ _ _ _ _ _ _ _ h9 ⟨j,ys,D,U,⟨⟩,aZ,s9,aF,W,aG,r⟩;unfold E8;have aS:=xf.since s9;by_cases hj:j<fs.length
  ·refine gw ?_;have hF:=gQ hj;have aT:fs.take (j+1)=fs.take j++[fs[j]]:=Nw hj;have a4:=(g.st i fs hS).2 fs[j] (AO hj);generalize fs[j]=x at*;obtain⟨ly,oy,xa,xb,_,y1,y2,ya,yb⟩:=aS.frm hF;refine ed y1 (ed y2 ?_);refine iK r rfl rfl (by simp only[Nr,eJ,ya.one,yb.one];rfl) λab d C=>?_;generalize h9.next=le at*;have q:∀{h:Hp} {cs:List Pc},ei I h cs->ei I (h.new (.cells 3 1 true false [])) (eo h.next 3 []::cs)/\Sn I h I (h.new (.cells 3 1 true false [])):=λH=>H.yP 3 [];have Z:∀{e sz:Nat} {a b:Bool} {cs:List V},O.beq (.cells e sz a b cs) (.cells e sz a b cs)=true:=O.gL _ _ _ _ _;rw[DA,gY];obtain⟨ac,ar⟩:=q d;generalize ab.new (.cells 3 1 true false [])=aH at*;refine oF (ac.ld 1 rfl rfl) ?_;rw[gY];obtain⟨z,au⟩:=q ac;generalize aH.new (.cells 3 1 true false [])=aU at*;generalize ab.next=ra at*;generalize aH.next=rb at*;refine oF (z.ld 2 rfl rfl) ?_;refine⟨⟨z.get 0 rfl,Z⟩,z.ld 2 rfl rfl,⟨z.get 1 rfl,Z⟩,?_⟩;have ya:=((ya.since C).since ar).since au;have yb:=((yb.since C).since ar).since au;have z:=z.empty 1 rfl;simp only[iO,kZ]at z;obtain⟨c,hA,eA,nA,t,sA⟩:=z.J8 1 rfl (jr:=8) ya (by decide) (by decide) (by simp;omega);have am:eR 3 1 8 (.slice ra 0 0) xa aU=some (.val c hA):=eA;rw[am,ef];simp only[iO,kZ,LG]at t;refine⟨nA,ed (ez _ _ _) ⟨t.ld 2 rfl rfl,⟨t.get 0 rfl,Z⟩,?_⟩⟩;have t:=t.empty 0 rfl;simp only[iO,kZ]at t;obtain⟨vc,hC,eC,nC,N,sC⟩:=t.J8 0 rfl (jr:=8) (yb.since sA) (by decide) (by decide) (by simp;omega);have an:eR 3 1 8 (.slice rb 0 0) xb hA=some (.val vc hC):=eC;rw[an,ef];simp only[iO,kZ,LG]at N;have m:=N.one 1 rfl;have aw:=N.one 0 rfl;obtain⟨hE,eE,nE,HE,sE⟩:=N.st 2 (o:=2) (u:=c) rfl (by simp[Nr]) m;have ap:gB 1 (.ptr le (0+2)) c hC=some (.val .undef hE):=by rw[vI];exact eE
   refine⟨nC,?_⟩;rw[ap,ef];simp only[iO,kZ]at HE;obtain⟨hG,eG,nG,HG,sG⟩:=HE.st 2 (o:=3) (u:=vc) rfl (by simp[Nr]) aw;have aq:gB 1 (.ptr le (0+3)) vc hE=some (.val .undef hG):=by rw[vI];exact eG
   refine⟨nE,ed (ez _ _ _) ?_⟩;rw[aq,ef];simp only[iO,kZ]at HG;have HG:ei I hG (eQ eN en x.stack vc::eQ eN en x.locals c::eo le 40 (Nr x c vc)::fJ en D::eQ Ny Jc ys U::eo ld 38 [U]::_):=HG;refine⟨nG,oF (HG.ld 5 rfl rfl) (ed (HG.wH 2 rfl rfl) ?_)⟩;rw[mq (sz:=4) (w:=Nr x c vc) rfl rfl (by simp only[Nr,eJ,m,aw];rfl),fq];obtain⟨aj,hL,eL,_,R,sL⟩:=HG.vF 4 rfl (jr:=64) (zF:=40) (y:=(x,c,vc)) (w:=Nr x c vc) (ro:=false) ⟨rfl,m,aw⟩ (by decide) (by decide) (by omega);have S:eR 40 4 64 U (.slice hG.next 0 1) (hG.new (.cells 40 4 true false (Nr x c vc)))=some (.val aj hL):=eL;rw[S,ef];simp only[iO,kZ]at R;obtain⟨hM,eM,_,HM,sM⟩:=R.st 5 (o:=0) (u:=aj) rfl (by simp) (R.one 4 rfl);refine ed (ez _ _ _) ?_;have T:gB 1 (.ptr ld (0+0)) aj hL=some (.val .undef hM):=eM;rw[T,ef];simp only[iO,kZ]at HM;have HN:=HM.WV (i:=(i,j,false)) (j:=(i,j,true)) (W.out j false (by omega)) (W.out j true (by omega)) (by simp);refine fM ⟨k'-1,by omega,j+1,ys++[(x,c,vc)],up (up D (i,j,false) (some (x.locals,c))) (i,j,true) (some (x.stack,vc)),aj,rfl,by omega,((((((s9.trans C).trans ar).trans au).trans sA).trans sC).trans (sE.trans sG)).trans (sL.trans sM),by simp[aF],?_,?_,HN⟩
   ·rw[aT];have:=W.snoc x c vc
    rwa [aF]at this
   ·intro s k b hs;rw[iz _ _ (by simp[hs]),iz _ _ (by simp[hs])];exact aG s k b hs
  refine iC ?_;obtain rfl:j=fs.length:=by omega
  rw[IT]at W;obtain⟨d,C,rf⟩:=r.kE 1 rfl;simp only[iO,kZ]at d;generalize (λl=>I l\/Loc U l)=F7 at*;have d:=d.GI;refine oF (d.ld 7 rfl rfl) (ed (d.wH 1 rfl rfl) ?_);rw[mq (sz:=1) (w:=[U]) rfl rfl (by simp only[eJ,rf.one];rfl),fq];obtain⟨ak,hL,eL,_,R,sL⟩:=d.vF 2 rfl (jr:=24) (zF:=38) (y:=ys) (w:=[U]) (ro:=false) ⟨U,rfl,rf⟩ (by decide) (by decide) (by omega);have S:eR 38 1 24 ws (.slice h9.next 0 1) (h9.new (.cells 38 1 true false [U]))=some (.val ak hL):=eL;rw[S,ef];simp only[iO,kZ]at R;obtain⟨hM,eM,_,HM,sM⟩:=R.st 7 (o:=4) (u:=ak) rfl (by simp) (R.one 2 rfl);refine ed (ez _ _ _) ?_;have T:gB 1 (.ptr l3 (0+4)) ak hL=some (.val .undef hM):=by rw[vI];exact eM
  rw[T,ef];simp only[iO,kZ]at HM;refine fM ⟨k-1,by omega,F7,i+1,ss++[ys],D,ak,rfl,by omega,((((K.trans s7).trans s8).trans s9).trans C).trans (sL.trans sM),by simp[aE],?_,HM.GI⟩;rw[P];have al:=W;rw[<-aE]at al;exact ai.snoc al λs k b hs=>aG s k b (by omega)
 refine iC ?_;obtain rfl:i=u.eh.length:=by omega
 rw[IT]at ai;refine ed (J.wH 6 rfl rfl) ?_;obtain⟨G,e7,_,L,s7⟩:=J.VI 7 (ws:=[.int .i64 u.func,.int .i64 u.pc,wv,wb,ws]) (n:=5) rfl rfl rfl (by simp only[eJ,J.one 5 rfl,J.one 3 rfl,J.one 1 rfl];rfl);rw[e7,ef];simp only[iO,kZ]at L;refine ed (L.wH 7 rfl rfl) ?_;exact H I G wv wb ws xs bs ss fa fn fl (((ax.trans s4).trans s5).trans (K.trans s7)) hc ae ai L.zay
end
open Go.Proofs.YtpnddokajmjpbaaDoor.Un Go.Proofs.YtpnddokajmjpbaaDoor.Dm
section
variable{F F':Nat->Prop}{h h':Hp}{cs ds:List Pc}{Q:fx}{u:U}{vv vb vs:V}
def Kl (cs:List Pc)(l:Nat):Prop:=∃(i:Nat)(c:Pc),cs[i]? =some c/\c.j5 l
theorem ei.zbg (H:ei F h cs):ei (λl=>F l\/Kl cs l) h []:=
 ei.nil λl a=>a.elim (H.fl l) λ⟨i,c,hc,b⟩=>(c.IP (H.ok i c hc) l b).1
theorem ei.back (H:ei F h cs){G:Nat->Prop}(s:Sn (λl=>F l\/Kl cs l) h G h'):ei F h' cs where
 fl l a:=Ac (H.fl l a) s.next
 ok i c hc:=c.fc (H.ok i c hc) (λl a=>s.fc l (.inl a)) (λl a=>s.fc l (.inr ⟨i,c,hc,a⟩)) s.next
 Bs:=H.Bs
theorem Sn.back{G:Nat->Prop}(s:Sn (λl=>F l\/Kl cs l) h G h'):Sn F h F h':=⟨s.next,λl a=>s.fc l (.inl a),λ_ h=>h⟩
theorem ei.za0 (H:ei F h cs){ty:Nat}{xs:List Nat}{v:V}(s:Sn (λl=>F l\/Kl cs l) h (λl=>F l\/Kl cs l) h') (m:ei (λl=>F l\/Kl cs l) h' [eQ eN ty xs v]):ei F h' (eQ eN ty xs v::cs):=by
 have k:jI eN ty (λl=>F l\/Kl cs l) h' xs v:=m.ok 0 _ rfl;refine(H.back s).cons ?_ λi c hc l n d=>(k.sP n).2.2 (.inr ⟨i,c,hc,d⟩);rcases k with⟨f,g⟩|⟨t,ws,f,g,o,p,q,u⟩
 ·exact .inl ⟨f,g⟩
 ·exact .inr ⟨t,ws,f,g,λw=>o (.inl w),p,by
   have j:∀(ws:List V) (xs:List Nat),oU eN (λl=>F l\/Kl cs l) h' ws xs->oU eN F h' ws xs:=λws xs=>by
    induction xs generalizing ws with
    |nil=>exact id
    |cons x xs y=>rintro⟨a,b,e,r,z⟩;exact⟨a,b,e,r,y b z⟩
   exact j ws xs q,u⟩
theorem MS {α β:Type}{E:nQ α} {E':nQ β}:∀(ws:List V)(xs:List α)(ys:List β),ys.length=xs.length->(∀(k:Nat) x y cs,xs[k]? =some x->ys[k]? =some y->E.rel F h x cs->E'.rel F' h y cs)->oU E F h ws xs->oU E' F' h ws ys
 |_,[],[],_,_,h=>h
 |ws,x::xs,y::ys,hl,hr,⟨a,b,e,r,hw⟩=>⟨a,b,e,hr 0 x y a rfl rfl r,MS b xs ys (by simpa using hl) (λk x y cs hx c=>hr (k+1) x y cs (by simpa using hx) (by simpa using c)) hw⟩
theorem ei.Xe {α β:Type}{E:nQ α} {E':nQ β}(H:ei F h cs)(i:Nat){ty:Nat}{xs:List α}{ys:List β}{v:V}(hi:cs[i]? =some (eQ E ty xs v))(d:E'.sz=E.sz)(a:ys.length=xs.length)(e:∀(k:Nat) x y cs,xs[k]? =some x->ys[k]? =some y->E.rel F h x cs->E'.rel F h y cs):ei F h (cs.set i (eQ E' ty ys v)):=by
 refine H.swap hi ?_ λ_ h=>h;rcases H.row i hi with⟨b,c⟩|⟨t,ws,b,c,f,g,j,l⟩
 ·subst c;exact .inl ⟨b,Rf a⟩
 ·exact .inr ⟨t,ws,by rw[a];exact b,c,f,by rw[d];exact g,MS ws xs ys a e j,l⟩
theorem ik.Xe {α β:Type}{E:nQ α} {E':nQ β}{xs:List α}{ys:List β}{v:V}(hs:ik E F h xs v)(d:E'.sz=E.sz)(f:∀l,F l->F' l)(a:ys.length=xs.length)(g:∀(k:Nat) x y cs,xs[k]? =some x->ys[k]? =some y->E.rel F h x cs->E'.rel F' h y cs):ik E' F' h ys v:=by
 rcases hs with⟨b,c⟩|⟨l,o,ty,live,ro,ws,b,c,i,j,m,n⟩
 ·subst c;exact .inl ⟨b,Rf a⟩
 ·exact .inr ⟨l,o,ty,live,ro,ws,by rw[a];exact b,f l c,by rw[d];exact i,j.imp (λe=>Rf (by rw[a,e];rfl)) id,m,MS _ xs ys a g n⟩
theorem Zf {xs:List Nat}{v:V}(hs:ik eN F h xs v)(n:xs.length<1000000)(x:Nat)(H:Q (.bool (xs.contains x)) h) :
  cP CS jP [v,.int .i64 x] h Q:=by
 refine zo rfl rfl ?_;unfold qC;refine Bv rfl rfl ?_;unfold tQ;refine ed hs.len ?_;refine zB (λk l h'=>∃i:Nat,l=[v,.int .i64 x,.int .i64 xs.length,.int .i64 (i:Nat)]/\h' = h/\i+k=xs.length/\∀j y,j<i->xs[j]? =some y->y≠x) ?_ (k:=xs.length) ⟨0,rfl,rfl,by omega,λ_ _ h=>by omega⟩;rintro k _ _ _ _ h' ⟨i,⟨⟩,rfl,p,a⟩;unfold qY;by_cases hi:i<xs.length
 ·refine gw ?_;have hx:=gQ hi;generalize xs[i]=y at*;obtain⟨l,o,_,d,f⟩:=hs.nat hx .i64;refine ed d (ed f (gO ?_));by_cases e:x=y
  ·refine ig (by rw[e]) (ed (mY ..) ?_);rw[I9 (by omega)];have:xs.contains x=true:=List.contains_iff_mem.2 (by rw[e];exact xQ hx)
   rwa [this]at H
  ·refine gG (by omega) (fM ⟨k-1,by omega,i+1,rfl,rfl,by omega,λj z b c=>?_⟩);by_cases g:j=i
   ·subst g;rw[hx]at c;cases c;exact λm=>e m.symm
   ·exact a j z (by omega) c
 ·refine iC (ed (mY ..) ?_);rw[K3 (by omega)];have:xs.contains x=false:=by
   rw[Y1];intro h;obtain⟨j,b⟩:=mA.1 (List.contains_iff_mem.1 h);exact a j x (by have:=(iB.1 b).1;omega) b rfl
  rwa [this]at H
def jQ (az:List Int):Nat->Int:=λv=>az.getD v (-1)
theorem Fb {az:List Int}{v:Nat}{a:Int}(h:az[v]? =some a):jQ az v=a:=by
 unfold jQ;rw[E3,h];rfl
theorem Wh {lt:Nat}{kU:V}{az:List Int}{G:Nat->Prop}(d:ev (.ptr lt 5) h=some kU)(hs:ik eZ G h az kU)(K:az.length<=3000)(g:∀(v:Nat)(a:Int),az[v]? =some a->a<az.length){v:Nat}(hv:v<az.length)
  (H:vm (jQ az) (az.length+1) v<az.length->Q (.int .i64 (vm (jQ az) (az.length+1) v:Nat)) h):cP CS iS [.ptr lt 0,.int .i64 v] h Q:=by
 refine Fe rfl rfl ?_;unfold yQ;refine CC (λk l h'=>∃n w:Nat,l=[.ptr lt 0,.int .i64 (w:Nat),.int .i64 (n:Nat)]/\h' = h/\n+k=az.length+1/\w<az.length/\vm (jQ az) k w=vm (jQ az) (az.length+1) v) ?_ (k:=az.length+1) ⟨0,v,rfl,rfl,by omega,hv,rfl⟩;rintro k _ _ _ h' ⟨n,w,⟨⟩,rfl,L,i,f⟩;unfold uW;have hx:=gQ i;have I:=Fb hx;have J:=g w _ hx;generalize az[w]=a at*;obtain⟨l,o,_,j,p⟩:=hs.int hx .i64;have d:ev (.ptr lt (0+5)) h' = some kU:=d;refine oN d (ed j (ed p (ed (mY ..) ?_)));rw[show jK (V.bool (decide (0<=a))) (oB (some (V.ptr lt 0)) λq=>oB (iq q) λr=>oB (fH 5 r) λs=>oB (ev s h') λt=>oB (some (V.int .i64 w)) λu=>oB (gD 1 t u) λx=>oB (ev x h') λy=>oB (some (V.int .i64 w)) λz=>er .neq 3 y z)=some (.bool (decide (0<=a)&&(a != (w:Int)))) from by
  simp only[fh,d,j,p,tX,fT,ez,ji]]
 rw [gI];rw[show jK (V.bool (decide (0<=a)&&(a != (w:Int)))) (oB (some (V.int .i64 n)) λA=>oB (some (V.ptr lt 0)) λB=>oB (iq B) λC=>oB (fH 5 C) λD=>oB (ev D h') λE=>oB (fD E) λF=>er .leq 3 A F)=some (.bool ((decide (0<=a)&&(a != (w:Int)))&&decide ((n:Int)<=az.length))) from by
  simp only[fh,fT,ez,d,hs.len,Kk,ji]]
 rw[gI]
 cases k with
 | zero=>
   refine jH (gG (by rw[K3 (show ¬((n:Int)<=az.length) by omega)];simp) ?_);have e0:w=vm (jQ az) (az.length+1) v:=f;rw[<-e0]at H
   exact H i
 | succ k=>
   rw[I9 (show(n:Int)<=az.length by omega),Bool.and_true];have e:vm (jQ az) (k+1) w=if 0<=jQ az w/\jQ az w≠(w:Int) then vm (jQ az) k (jQ az w).toNat else w:=rfl
   rw[I]at e;by_cases c:0<=a/\a≠(w:Int)
   ·refine jH (ig (by rw[I9 c.1,YY,Pk];exact c.2) ?_)
    refine oN d (ed j (ed p (j7 (m:=1) (by omega) (by omega) ?_)));rw[if_pos c]at e;obtain⟨b,rfl⟩:=Int.eq_ofNat_of_zero_le c.1;exact⟨k,by omega,n+1,b,rfl,rfl,by omega,by omega,by rw[<-f,e];rfl⟩
   ·refine jH (gG (λh=>c ?_) ?_)
    ·rw[tN,DY,Pk]at h
     exact h
    ·rw[if_neg c]at e
     rw[e]at f;rw[<-f]at H;exact H i
theorem Wi (n:fV (uC u vv vb vs)=true)(hv:fD vv=some (.int .i64 u.ee.length))(C:u.ee.length<=3000)(p:ei F h cs)(H:∀h' v,Sn F h F h'->ei F h' (eQ eZ en ((List.range u.ee.length).map λ(i:Nat)=>(i:Int)) v::cs)->Q v h') :
  cP CS Cj [.agg (uC u vv vb vs)] h Q:=by
 refine QC rfl rfl ?_;unfold Ki;refine mf p n λb c q=>?_;refine oF (c.ld 0 rfl rfl) (ed hv ?_);rw[jk (z:=V.int .i64 0) rfl (by decide) (by omega),fq];obtain⟨r,s⟩:=c.make (E:=eZ) (ty:=en) (y:=0) (u:=V.int .i64 0) u.ee.length rfl rfl;generalize b.new (.cells en 1 true false (List.replicate u.ee.length (V.int .i64 0)))=D at*;generalize b.next=lr at*;refine ed (show _=some (V.int .i64 u.ee.length) from rfl) ?_;refine Lf (λk l h'=>∃(i:Nat) (ys:List Int),l=[.slice lr 0 u.ee.length,.int .i64 u.ee.length,.int .i64 i]/\i+k=u.ee.length/\ys.length=u.ee.length/\(∀j:Nat,j<i->ys[j]? =some (j:Int))/\Sn F h F h'/\ei F h' (eQ eZ en ys (.slice lr 0 u.ee.length)::eo h.next 30 (uC u vv vb vs)::cs)) ?_ (k:=u.ee.length) ⟨0,_,rfl,by omega,Nt,λ_ h=>by omega,q.trans s,r⟩;rintro k _ _ _ t ⟨i,ys,⟨⟩,G,w,d,f,g⟩;unfold EZ;by_cases hi:i<u.ee.length
 ·refine gw ?_;obtain⟨l,o,I,x,A,_,m,B⟩:=g.G7 0 rfl (k:=i) (y:=(i:Int)) (u:=V.int .i64 i) (by omega) rfl rfl rfl;refine ed x ?_;rw[A,ef];simp only[iO]at m;refine fM ⟨k-1,by omega,i+1,ys.set i (i:Int),rfl,by omega,by simp[w],λj a=>?_,f.trans B,m⟩;by_cases e:j=i
  ·subst e;exact Ct (by omega)
  ·rw[AR λh=>e h.symm];exact d j (by omega)
 ·refine iC ?_;have e:ys=(List.range u.ee.length).map λ(i:Nat)=>(i:Int):=by
   refine Wv λj=>?_;by_cases a:j<u.ee.length
   ·rw[d j (by omega),wq,XT a];rfl
   ·rw[Jp (by omega),Jp (by simp;omega)]
  rw[<-e]at H;exact H t _ f g.GI
end
