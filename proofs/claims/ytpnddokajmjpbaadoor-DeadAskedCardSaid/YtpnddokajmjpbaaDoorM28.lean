/- Parts. -/
import Derived.Test.YtpnddokajmjpbaaDoorM27
import Derived.Test.YtpnddokajmjpbaaDoorM34
import Derived.Test.YtpnddokajmjpbaaDoorM33
namespace Go.Proofs.YtpnddokajmjpbaaDoor.Hx
open Go.Proofs.YtpnddokajmjpbaaDoor.Un Go.Proofs.YtpnddokajmjpbaaDoor.Dm
theorem IV:P0.underlying tyInt=some (.int .i64):=by kernel_rfl
theorem EI (a b:Int):flatEq tyInt (.int .i64 a) (.int .i64 b)=some (a == b):=by
 unfold flatEq;rw[IV];rfl
section
variable{u:U}
theorem qC {w:Nat}(h:Gives u w):w<u.vals.length:=by
 obtain⟨x,a,_⟩:=h;exact(wAB.1 a).1
theorem qi (g:Good u){s:Nat}{fs:List Fm}(a:u.states[s]? =some fs):∀w∈frames fs,w<u.vals.length:=by
 intro w c;unfold frames at c;obtain⟨f,d,e⟩:=wAy.1 c;obtain⟨_,_,h⟩:=g.st s fs a;obtain⟨_,_,i,j⟩:=h f d;rcases wAV.1 e with b|b
 ·exact qC (i w b)
 ·exact qC (j w b)
theorem ux (g:Good u){i:Nat}{x:Vl}(c:u.vals[i]? =some x):x.op=21\/x.op=20->x.args.length<=700:=by
 have nb:=g.nb;obtain⟨b,k,a⟩:=g.at1 i (wAB.1 c).1;obtain⟨B,e,f⟩:=id a;rintro(d|d)
 ·rw[(g.phi _ _ _ _ _ a c d e).2,g.preds b B e,<-jO];have:=jR g (i:=u.blocks.length) (j:=0) (b:=b) (wAF _) (by omega);omega
 ·rw[g.putAt i x c d];omega
theorem rV (g:Good u)(s:Nat)(fs:List Fm)(a:u.states[s]? =some fs):fs.length<=30/\∀f∈fs,f.locals.length<=40/\f.stack.length<=60:=by
 obtain⟨_,d,b⟩:=g.st s fs a;exact⟨d,λf c=>⟨(b f c).1,(b f c).2.1⟩⟩
theorem uI (g:Good u){b:Nat}{B:Bk}(a:u.blocks[b]? =some B):B.vals.length<=3000:=by
 have nv:=g.nv;have:=iy u.vals.length B.vals (yx g a) λv c=>by
  obtain⟨k,d⟩:=wAD.1 c;exact g.atlt v b k ⟨B,a,d⟩
 omega
theorem yO (g:Good u){b:Nat}{B:Bk}(a:u.blocks[b]? =some B):B.preds.length<=700:=by
 have nb:=g.nb;rw[g.preds b B a,<-jO];have:=jR g (i:=u.blocks.length) (j:=0) (b:=b) (wAF _) (by omega);omega
theorem xo (g:Good u){b:Nat}{B:Bk}(a:u.blocks[b]? =some B):B.next.length<=2:=by
 rcases g.fin b B a with⟨_,h⟩|⟨_,h,_⟩|⟨_,h,_⟩
 ·omega
 ·omega
 ·rw[h];simp
end
open Go.Proofs.YtpnddokajmjpbaaDoor.Un Go.Proofs.YtpnddokajmjpbaaDoor.Dm
def eVx:Enc (Vl×V) where
 sz:=6
 rel _ _ x cs:=cs=vlC x.1 x.2/\x.2.one=true
 len h:=by rw[h.1];rfl
 one h:=by rw[h.1];simp only[vlC,ee,h.2];rfl
 keep _ h:=h
 mono _ h:=h
def eKx:Enc (Bk×V) where
 sz:=6
 rel F h x cs:=∃v p,cs=bkC x.1 v x.2 p/\SlR eN F h x.1.vals v/\SlR eN F h x.1.preds p/\x.2.one=true
 len:=λ⟨_,_,h,_⟩=>by subst h;rfl
 one:=λ⟨_,_,h,a,b,c⟩=>by subst h;simp only[bkC,ee,a.one,b.one,c];rfl
 keep:=λd ⟨v,p,h,a,b,c⟩=>⟨v,p,h,a.keep d,b.keep d,c⟩
 mono:=λe ⟨v,p,h,a,b,c⟩=>⟨v,p,h,a.mono e,b.mono e,c⟩
def eFx:Enc (Fm×V×V) where
 sz:=4
 rel _ _ x cs:=cs=fmC x.1 x.2.1 x.2.2/\x.2.1.one=true/\x.2.2.one=true
 len h:=by rw[h.1];rfl
 one h:=by rw[h.1];simp only[fmC,ee,h.2.1,h.2.2];rfl
 keep _ h:=h
 mono _ h:=h
section
variable{F F':Nat->Prop}{h h':Hp}{cs:List Pc}{Q:QP1}{u:U}{vv vb vs:V}
theorem Hold.empty (H:Hold F h cs)(i:Nat){l:Nat}(hi:cs[i]? =some (cellP l tyInt [])):Hold F h (cs.set i (rowP eN tyInt [] (.slice l 0 0))):=by
 have a:=H.ok i _ hi;exact H.swap hi (.inr ⟨l,[],rfl,a.2.1,a.2.2,a.1,trivial,rfl⟩) λm e=>e.symm
structure CpV (vs:List Vl) (xs:List (Vl×V)) (fa:Nat->Option (List Nat×V)):Prop where
 fst:xs.map Prod.fst=vs
 row:∀i x w,xs[i]? =some (x,w)->fa i=some (x.args,w)
 out:∀i,xs.length<=i->fa i=none
structure CpB (bs:List Bk) (xs:List (Bk×V)) (fn:Nat->Option (List Nat×V)):Prop where
 fst:xs.map Prod.fst=bs
 row:∀i x w,xs[i]? =some (x,w)->fn i=some (x.next,w)
 out:∀i,xs.length<=i->fn i=none
abbrev KF:=Nat×Nat×Bool
structure CpF (s:Nat) (fs:List Fm) (xs:List (Fm×V×V)) (fl:KF->Option (List Nat×V)):Prop where
 fst:xs.map Prod.fst=fs
 loc:∀k x l w,xs[k]? =some (x,l,w)->fl (s,k,false)=some (x.locals,l)/\fl (s,k,true)=some (x.stack,w)
 out:∀k b,xs.length<=k->fl (s,k,b)=none
structure CpS (ss:List (List Fm)) (xs:List (List (Fm×V×V))) (fl:KF->Option (List Nat×V)):Prop where
 fst:xs.map (λl=>l.map Prod.fst)=ss
 loc:∀s l k x a w,xs[s]? =some l->l[k]? =some (x,a,w)->fl (s,k,false)=some (x.locals,a)/\fl (s,k,true)=some (x.stack,w)
 out:∀s k b,xs.length<=s->fl (s,k,b)=none
theorem CpV.snoc {vs:List Vl}{xs:List (Vl×V)}{fa:Nat->Option (List Nat×V)}(c:CpV vs xs fa)(x:Vl)(w:V):CpV (vs++[x]) (xs++[(x,w)]) (up fa xs.length (some (x.args,w))):=by
 refine⟨by rw[wAx,c.fst];rfl,λi y v hi=>?_,λi hi=>?_⟩
 ·by_cases e:i<xs.length
  ·rw[wAd e]at hi;rw[fP _ _ (by omega)];exact c.row i y v hi
  ·rw[wAn (by omega)]at hi;have a:i-xs.length=0:=by have:=(wAB.1 hi).1;simp at this;omega
   rw[a]at hi;cases hi;obtain rfl:i=xs.length:=by omega
   exact fS _ _ _
 ·rw[wAM]at hi;rw[fP _ _ (by simp at hi;omega)];exact c.out i (by simp at hi;omega)
theorem CpB.snoc {bs:List Bk}{xs:List (Bk×V)}{fn:Nat->Option (List Nat×V)}(c:CpB bs xs fn)(x:Bk)(w:V):CpB (bs++[x]) (xs++[(x,w)]) (up fn xs.length (some (x.next,w))):=by
 refine⟨by rw[wAx,c.fst];rfl,λi y v hi=>?_,λi hi=>?_⟩
 ·by_cases e:i<xs.length
  ·rw[wAd e]at hi;rw[fP _ _ (by omega)];exact c.row i y v hi
  ·rw[wAn (by omega)]at hi;have a:i-xs.length=0:=by have:=(wAB.1 hi).1;simp at this;omega
   rw[a]at hi;cases hi;obtain rfl:i=xs.length:=by omega
   exact fS _ _ _
 ·rw[wAM]at hi;rw[fP _ _ (by simp at hi;omega)];exact c.out i (by simp at hi;omega)
theorem Hold.re (H:Hold F h cs){ds:List Pc}(m:Nat->Nat)(a:∀i c,ds[i]? =some c->cs[m i]? =some c)(b:∀i j,i<ds.length->j<ds.length->m i=m j->i=j):Hold F h ds where
 fl:=H.fl
 ok i c hc:=H.ok (m i) c (a i c hc)
 dis i j c d hc hd hn:=H.dis (m i) (m j) c d (a i c hc) (a j d hd) λe=>hn (b i j (wAB.1 hc).1 (wAB.1 hd).1 e)
theorem Hold.take2 {a b c d:Pc}(H:Hold F h (a::b::c::d::cs)):Hold F h (b::d::a::cs):=
 H.re (λi=>match i with|0=>1|1=>3|2=>0|n+3=>n+4) (λi c hc=>match i,hc with|0,hc=>hc|1,hc=>hc|2,hc=>hc|n+3,hc=>hc) λi j _ _ e=>by
  match i,j with
  |0,0|1,1|2,2=>rfl
  |0,1|0,2|1,0|1,2|2,0|2,1=>simp at e
  |0,n+3|1,n+3|2,n+3|n+3,0|n+3,1|n+3,2=>simp at e;try omega
  |n+3,k+3=>simp at e;omega
theorem Hold.rowsIn2 {ι:Type} [DecidableEq ι] {ty:Nat}{f:ι->Option (List Nat×V)}{xs ys:List Nat}{v w:V}{c:Pc}(H:Hold F h (rowP eN ty xs v::rowP eN ty ys w::c::rowsP ty f::cs)){i j:ι}(hi:f i=Option.none)(a:f j=Option.none)(b:j≠i) :
  Hold F h (rowsP ty (up (up f i (some (ys,w))) j (some (xs,v)))::cs):=
 (H.take2.rowsIn hi).sw.rowsIn (by rw[fP _ _ b];exact a)
theorem Hold.take6 {a b c d e f x y z:Pc}(H:Hold F h (a::b::c::d::e::f::x::y::z::cs)):Hold F h (f::d::b::e::c::a::cs):=
 H.re (λi=>match i with|0=>5|1=>3|2=>1|3=>4|4=>2|5=>0|n+6=>n+9) (λi c hc=>match i,hc with|0,hc=>hc|1,hc=>hc|2,hc=>hc|3,hc=>hc|4,hc=>hc|5,hc=>hc|n+6,hc=>hc) λi j _ _ e=>by
   have g:∀i:Nat,(match i with|0=>5|1=>3|2=>1|3=>4|4=>2|5=>0|n+6=>n+9:Nat)=(if i<6 then[5,3,1,4,2,0].getD i 0 else i+3):=λi=>by
     match i with
     |0|1|2|3|4|5=>rfl
     |n+6=>rw[if_neg (by omega)]
   simp only[g]at e;by_cases hi:i<6
   ·by_cases hj:j<6
    ·rw[if_pos hi,if_pos hj]at e
     exact(by decide:∀i,i<6->∀j,j<6->[5,3,1,4,2,0].getD i 0=[5,3,1,4,2,0].getD j 0->i=j) i hi j hj e
    ·rw[if_pos hi,if_neg hj]at e
     have:[5,3,1,4,2,0].getD i 0<6:=(by decide:∀i,i<6->[5,3,1,4,2,0].getD i 0<6) i hi;omega
   ·by_cases hj:j<6
    ·rw[if_neg hi,if_pos hj]at e
     have:[5,3,1,4,2,0].getD j 0<6:=(by decide:∀i,i<6->[5,3,1,4,2,0].getD i 0<6) j hj;omega
    ·rw[if_neg hi,if_neg hj]at e
     omega
theorem CpF.snoc {s:Nat}{fs:List Fm}{xs:List (Fm×V×V)}{fl:KF->Option (List Nat×V)}(c:CpF s fs xs fl)(x:Fm)(l w:V):CpF s (fs++[x]) (xs++[(x,l,w)]) (up (up fl (s,xs.length,false) (some (x.locals,l))) (s,xs.length,true) (some (x.stack,w))):=by
 refine⟨by rw[wAx,c.fst];rfl,λi y a b hi=>?_,λi b hi=>?_⟩
 ·by_cases e:i<xs.length
  ·rw[wAd e]at hi;have f:=c.loc i y a b hi;rw[fP _ _ (by simp),fP _ _ (by simp;omega),fP _ _ (by simp;omega),fP _ _ (by simp)];exact f
  ·rw[wAn (by omega)]at hi;have d:i-xs.length=0:=by have:=(wAB.1 hi).1;simp at this;omega
   rw[d]at hi;cases hi;obtain rfl:i=xs.length:=by omega
   exact⟨by rw[fP _ _ (by simp),fS],fS _ _ _⟩
 ·rw[wAM]at hi;simp at hi;rw[fP _ _ (by simp;omega),fP _ _ (by simp;omega)];exact c.out i b (by omega)
theorem CpS.snoc {ss:List (List Fm)}{xs:List (List (Fm×V×V))} {fl d:KF->Option (List Nat×V)}(c:CpS ss xs fl){fs:List Fm}{ys:List (Fm×V×V)} (c':CpF xs.length fs ys d)(f:∀s k b,s≠xs.length->d (s,k,b)=fl (s,k,b)):CpS (ss++[fs]) (xs++[ys]) d:=by
 refine⟨by rw[wAx,c.fst,<-c'.fst];rfl,λi l k y a b hi h=>?_,λi k b hi=>?_⟩
 ·by_cases e:i<xs.length
  ·rw[wAd e]at hi;rw[f _ _ _ (by omega),f _ _ _ (by omega)];exact c.loc i l k y a b hi h
  ·rw[wAn (by omega)]at hi;have g:i-xs.length=0:=by have:=(wAB.1 hi).1;simp at this;omega
   rw[g]at hi;cases hi;obtain rfl:i=xs.length:=by omega
   exact c'.loc k y a b h
 ·rw[wAM]at hi;simp at hi;rw[f _ _ _ (by omega)];exact c.out i k b (by omega)
def Args (u:U):Prop:=∀(v:Nat)(x:Vl),u.vals[v]? =some x->x.args.length<=700
structure Sized (u:U):Prop where
 nv:u.vals.length<=3000
 nb:u.blocks.length<=300
 ns:u.states.length<=1000
 args:Args u
 blk:∀(b:Nat) (B:Bk),u.blocks[b]? =some B->B.vals.length<=3000/\B.preds.length<=700/\B.next.length<=2
 st:∀(s:Nat) (fs:List Fm),u.states[s]? =some fs->fs.length<=30/\∀f∈fs,f.locals.length<=40/\f.stack.length<=60
theorem EK (g:Good u)(b:Args u):Sized u:=⟨g.nv,g.nb,g.ns,b,λ_ _ a=>⟨uI g a,yO g a,xo g a⟩,rV g⟩
theorem IF (g:Sized u)(H0:Hold F h cs)(hu:URd F h u vv vb vs)
  (H:∀F' h' wv wb ws (xs:List (Vl×V)) (bs:List (Bk×V)) (ss:List (List (Fm×V×V))) fa fn fl,Sn F h F' h'->CpV u.vals xs fa->CpB u.blocks bs fn->CpS u.states ss fl->
   Hold F' h' (rowP eVx tyVal xs wv::rowP eKx tyBlock bs wb::rowP (eL eFx) tyState ss ws::rowsP tyInt fa::rowsP tyInt fn::rowsP tyInt fl::cs)->Q (.agg (uC u wv wb ws)) h') :
  cP CS si [.agg (uC u vv vb vs)] h Q:=by
 refine EY rfl rfl ?_;unfold A3;have nv:=g.nv;refine kh H0 hu.one λh1 H1 s1=>?_;rw[ev];obtain⟨H2,s2⟩:=H1.newC tyUnit [.int .i64 0,.int .i64 0,.nilSlice,.nilSlice,.nilSlice];have H2:Hold F (h1.new (.cells 30 1 true false [V.int .i64 0,.int .i64 0,.nilSlice,.nilSlice,.nilSlice])) (cellP h1.next 30 [V.int .i64 0,.int .i64 0,.nilSlice,.nilSlice,.nilSlice]::cellP h.next 30 (uC u vv vb vs)::cs):=H2;have s2:Sn F h1 F (h1.new (.cells 30 1 true false [V.int .i64 0,.int .i64 0,.nilSlice,.nilSlice,.nilSlice])):=s2;generalize h1.new (.cells 30 1 true false [V.int .i64 0,.int .i64 0,.nilSlice,.nilSlice,.nilSlice])=h2 at*;generalize h.next=l1 at*;generalize h1.next=l2 at*;refine oF (H2.ld 1 rfl rfl) (oF (H2.ld 1 rfl rfl) (d9 (show _=some (V.agg [.int .i64 u.func,.int .i64 u.pc,.nilSlice,.nilSlice,.nilSlice]) from rfl) ?_));refine fU H2 rfl rfl rfl λh3 H3 s3=>?_;generalize h2.next=l3 at*;have ay:=(s1.trans s2).trans s3;have u3:=hu.since ay;refine oF (H3.ld 2 rfl rfl) (d9 u3.v.len ?_)
 have H3:Hold F h3 (rowsP tyInt (λ_:Nat=>Option.none)::rowP eVx tyVal [] .nilSlice::cellP l3 30 [.int .i64 u.func,.int .i64 u.pc,.nilSlice,.nilSlice,.nilSlice]::cellP l2 30 [.int .i64 0,.int .i64 0,.nilSlice,.nilSlice,.nilSlice]::cellP l1 30 (uC u vv vb vs)::cs):=
  (H3.add (p:=rowP eVx tyVal [] .nilSlice) .nil λ_ h=>h).rows0
 refine B2 (λk l h'=>∃(i:Nat) (xs:List (Vl×V)) (fa:Nat->Option (List Nat×V)) (wv:V),l=[.ptr l1 0,.ptr l2 0,.ptr l3 0,vv,.int .i64 u.vals.length,.int .i64 i]/\i+k=u.vals.length/\Sn F h3 F h'/\xs.length=i/\CpV (u.vals.take i) xs fa/\
  Hold F h' (rowsP tyInt fa::rowP eVx tyVal xs wv::cellP l3 30 [.int .i64 u.func,.int .i64 u.pc,wv,.nilSlice,.nilSlice]::cellP l2 30 [.int .i64 0,.int .i64 0,.nilSlice,.nilSlice,.nilSlice]::cellP l1 30 (uC u vv vb vs)::cs)) ?_ (k:=u.vals.length)
  ⟨0,[],λ_=>Option.none,.nilSlice,rfl,by omega,Sn.refl _ _,rfl,⟨rfl,λ_ _ _ h=>by simp at h,λ_ _=>rfl⟩,H3⟩
 rintro k _ _ _ _ _ _ h4 ⟨i,xs,fa,wv,⟨⟩,hk,s4,aA,hc,H4⟩;unfold yk;have u4:=u3.since s4;by_cases hi:i<u.vals.length
 ·refine ltYes ?_;have hx:=wAA hi;have P:u.vals.take (i+1)=u.vals.take i++[u.vals[i]]:=wAT hi;generalize u.vals[i]=x at*;obtain⟨lx,ox,w,_,x1,x2,xw,_⟩:=u4.val hx;refine d9 x1 (d9 x2 ?_);refine fU H4 rfl rfl (by simp only[vlC,ee,xw.one];rfl) λX H5 s5=>?_;generalize h4.next=lc at*;rw[yY,ev];obtain⟨J,K⟩:=H5.newR (E:=eN) (xs:=[]) (ws:=[]) (n:=0) tyInt rfl trivial rfl;have J:Hold F (X.new (.cells 3 1 true false [])) (rowP eN tyInt [] (.slice X.next 0 0)::cellP lc 42 (vlC x w)::_):=J;have K:Sn F X F (X.new (.cells 3 1 true false [])):=K;generalize X.new (.cells 3 1 true false [])=h6 at*;refine oF (J.ld 1 rfl rfl) ?_;have aJ:=g.args i x hx;obtain⟨c,G,e7,_,L,s7⟩:=J.appR 0 rfl (by_:=8) ((xw.since s5).since K) (by decide) (by decide) (by simp;omega);have aK:happend 3 1 8 (.slice X.next 0 0) w h6=some (.val c G):=e7;rw[aK,ec];simp only[wAC,wAl]at L;have m:=L.one 0 rfl;obtain⟨Y,e8,_,A,s8⟩:=L.st 1 (o:=4) (u:=c) rfl (by simp[vlC]) m;refine d9 (ed _ _ _) ?_;have aL:pSt 1 (.ptr lc (0+4)) c G=some (.val .undef Y):=by rw[wAY];exact e8
  rw[aL,ec];simp only[wAC,wAE]at A;have A:Hold F Y (rowP eN tyInt x.args c::cellP lc 42 (vlC x c)::rowsP tyInt fa::rowP eVx tyVal xs wv::cellP l3 30 [.int .i64 u.func,.int .i64 u.pc,wv,.nilSlice,.nilSlice]::_):=A;refine oF (A.ld 4 rfl rfl) (d9 (A.ldA 1 rfl rfl) ?_);rw[lD (sz:=6) (w:=vlC x c) rfl rfl (by simp only[vlC,ee,m];rfl),ev];obtain⟨aa,h9,e9,_,r,s9⟩:=A.app1 3 rfl (by_:=64) (ety:=42) (y:=(x,c)) (w:=vlC x c) (ro:=false) ⟨rfl,m⟩ (by decide) (by decide) (by omega);have aM:happend 42 6 64 wv (.slice Y.next 0 1) (Y.new (.cells 42 6 true false (vlC x c)))=some (.val aa h9):=e9;rw[aM,ec];simp only[wAC,wAE]at r;obtain⟨ab,aN,_,d,C⟩:=r.st 4 (o:=2) (u:=aa) rfl (by simp) (r.one 3 rfl);refine d9 (ed _ _ _) ?_;have aB:pSt 1 (.ptr l3 (0+2)) aa h9=some (.val .undef ab):=by rw[wAY];exact aN
  rw[aB,ec];simp only[wAC,wAE]at d;have ac:=d.drop1.rowsIn (i:=i) (hc.out i (by omega));refine addOne ⟨k-1,by omega,i+1,xs++[(x,c)],up fa i (some (x.args,c)),aa,rfl,by omega,((((s4.trans s5).trans K).trans s7).trans s8).trans (s9.trans C),by simp[aA],?_,ac⟩;rw[P];have:=hc.snoc x c
  rwa [aA]at this
 refine ltNo ?_;obtain rfl:i=u.vals.length:=by omega
 rw[wAg]at hc;have nb:=g.nb;refine oF (H4.ld 4 rfl rfl) (d9 u4.b.len ?_);clear hk k
 have H4:Hold F h4 (rowsP tyInt (λ_:Nat=>Option.none)::rowP eKx tyBlock [] .nilSlice::rowsP tyInt fa::rowP eVx tyVal xs wv::cellP l3 30 [.int .i64 u.func,.int .i64 u.pc,wv,.nilSlice,.nilSlice]::cellP l2 30 [.int .i64 0,.int .i64 0,.nilSlice,.nilSlice,.nilSlice]::cellP l1 30 (uC u vv vb vs)::cs):=
  (H4.add (p:=rowP eKx tyBlock [] .nilSlice) .nil λ_ h=>h).rows0
 refine B6 (λk l h'=>∃(F':Nat->Prop) (i:Nat) (bs:List (Bk×V)) (fn:Nat->Option (List Nat×V)) (wb:V),l=[.ptr l1 0,.ptr l2 0,.ptr l3 0,vb,.int .i64 u.blocks.length,.int .i64 i]/\i+k=u.blocks.length/\Sn F h4 F' h'/\bs.length=i/\CpB (u.blocks.take i) bs fn/\
  Hold F' h' (rowsP tyInt fn::rowP eKx tyBlock bs wb::rowsP tyInt fa::rowP eVx tyVal xs wv::cellP l3 30 [.int .i64 u.func,.int .i64 u.pc,wv,wb,.nilSlice]::cellP l2 30 [.int .i64 0,.int .i64 0,.nilSlice,.nilSlice,.nilSlice]::cellP l1 30 (uC u vv vb vs)::cs)) ?_ (k:=u.blocks.length)
  ⟨F,0,[],λ_=>Option.none,.nilSlice,rfl,by omega,Sn.refl _ _,rfl,⟨rfl,λ_ _ _ h=>by simp at h,λ_ _=>rfl⟩,H4⟩
 rintro k _ _ _ _ _ _ X ⟨F5,i,bs,fn,wb,⟨⟩,hk,s5,aC,ae,H5⟩;unfold yf;have u5:=u4.since s5;by_cases hi:i<u.blocks.length
 ·refine ltYes ?_;have hB:=wAA hi;have P:u.blocks.take (i+1)=u.blocks.take i++[u.blocks[i]]:=wAT hi;generalize u.blocks[i]=B at*;have aW:=(g.blk i B hB).1;have aX:=(g.blk i B hB).2.1;have aY:=(g.blk i B hB).2.2;obtain⟨lx,ox,bv,bn,bp,_,x1,x2,iv,iN,ip,_⟩:=u5.blk hB;refine d9 x1 (d9 x2 ?_);refine fU H5 rfl rfl (by simp only[bkC,ee,iv.one,iN.one,ip.one];rfl) λh6 J K=>?_;generalize X.next=lc at*;have q:∀{h:Hp} {cs:List Pc},Hold F5 h cs->Hold F5 (h.new (.cells 3 1 true false [])) (cellP h.next 3 []::cs)/\Sn F5 h F5 (h.new (.cells 3 1 true false [])):=λH=>H.newC 3 [];rw[yY,fD];obtain⟨L,s7⟩:=q J;generalize h6.new (.cells 3 1 true false [])=G at*;refine oF (L.ld 1 rfl rfl) ?_;rw[fD];obtain⟨A,s8⟩:=q L;generalize G.new (.cells 3 1 true false [])=Y at*;refine oF (A.ld 2 rfl rfl) ?_;rw[fD];obtain⟨r,s9⟩:=q A;generalize Y.new (.cells 3 1 true false [])=h9 at*;generalize h6.next=ra at*;generalize G.next=rb at*;generalize Y.next=rc at*;refine oF (r.ld 3 rfl rfl) ?_;have ag:=(s7.trans s8).trans s9;have Z:∀{e sz:Nat} {a b:Bool} {cs:List V},O.beq (.cells e sz a b cs) (.cells e sz a b cs)=true:=O.beq_cells _ _ _ _ _;refine⟨⟨r.get 0 rfl,Z⟩,r.ld 3 rfl rfl,⟨r.get 1 rfl,Z⟩,r.ld 3 rfl rfl,⟨r.get 2 rfl,Z⟩,?_⟩;have aO:=(iv.since K).since ag;have aP:=(iN.since K).since ag;have aQ:=(ip.since K).since ag;have r:=r.empty 2 rfl;simp only[wAC,wAE]at r;obtain⟨c,hA,eA,nA,t,sA⟩:=r.appR 2 rfl (by_:=8) aO (by decide) (by decide) (by simp;omega);have an:happend 3 1 8 (.slice ra 0 0) bv h9=some (.val c hA):=eA;rw[an,ec];simp only[wAC,wAE,wAl]at t;refine⟨nA,d9 (ed _ _ _) ⟨t.ld 3 rfl rfl,⟨t.get 0 rfl,Z⟩,t.ld 3 rfl rfl,⟨t.get 1 rfl,Z⟩,?_⟩⟩;have t:=t.empty 1 rfl;simp only[wAC,wAE]at t;obtain⟨M,hC,eC,nC,N,sC⟩:=t.appR 1 rfl (by_:=8) (aP.since sA) (by decide) (by decide) (by simp;omega);have ao:happend 3 1 8 (.slice rb 0 0) bn hA=some (.val M hC):=eC;rw[ao,ec];simp only[wAC,wAE,wAl]at N;refine⟨nC,N.ld 3 rfl rfl,⟨N.get 0 rfl,Z⟩,?_⟩;have N:=N.empty 0 rfl;simp only[wAC,wAE]at N;obtain⟨vp,hD,eD,nD,HD,sD⟩:=N.appR 0 rfl (by_:=8) ((aQ.since sA).since sC) (by decide) (by decide) (by simp;omega);have aR:happend 3 1 8 (.slice rc 0 0) bp hC=some (.val vp hD):=eD;rw[aR,ec];simp only[wAC,wAE,wAl]at HD;have m:=HD.one 2 rfl;have ap:=HD.one 1 rfl;have aD:=HD.one 0 rfl;obtain⟨hE,eE,nE,HE,sE⟩:=HD.st 3 (o:=0) (u:=c) rfl (by simp[bkC]) m;have aq:pSt 1 (.ptr lc (0+0)) c hD=some (.val .undef hE):=eE;refine⟨nD,?_⟩;rw[aq,ec];simp only[wAC,wAE]at HE;obtain⟨hG,eG,nG,HG,sG⟩:=HE.st 3 (o:=3) (u:=M) rfl (by simp[bkC]) ap;have ar:pSt 1 (.ptr lc (0+3)) M hE=some (.val .undef hG):=by rw[wAY];exact eG
  refine⟨nE,d9 (ed _ _ _) ?_⟩;rw[ar,ec];simp only[wAC,wAE]at HG;obtain⟨hI,eI,nI,HI,sI⟩:=HG.st 3 (o:=4) (u:=vp) rfl (by simp[bkC]) aD;have aS:pSt 1 (.ptr lc (0+4)) vp hG=some (.val .undef hI):=by rw[wAY];exact eI
  refine⟨nG,d9 (ed _ _ _) ?_⟩;rw[aS,ec];simp only[wAC,wAE]at HI;have HI:Hold F5 hI (rowP eN tyInt B.preds vp::rowP eN tyInt B.next M::rowP eN tyInt B.vals c::cellP lc 44 (bkC B c M vp)::rowsP tyInt fn::rowP eKx tyBlock bs wb::rowsP tyInt fa::rowP eVx tyVal xs wv::cellP l3 30 [.int .i64 u.func,.int .i64 u.pc,wv,wb,.nilSlice]::_):=HI;refine⟨nI,oF (HI.ld 8 rfl rfl) (d9 (HI.ldA 3 rfl rfl) ?_)⟩;obtain⟨HJ,sJ,rp⟩:=HI.freezeR 0 rfl;simp only[wAC]at HJ;obtain⟨HK,sK,rv⟩:=HJ.freezeR 2 rfl;simp only[wAC,wAE]at HK;have rp:=rp.since sK;have HK:=HK.tail.drop1.drop1;generalize (λl=>(F5 l\/Loc vp l)\/Loc c l)=FK at*;rw[lD (sz:=6) (w:=bkC B c M vp) rfl rfl (by simp only[bkC,ee,m,ap,aD];rfl),ev];obtain⟨ah,hL,eL,_,R,sL⟩:=HK.app1 2 rfl (by_:=96) (ety:=44) (y:=(B,M)) (w:=bkC B c M vp) (ro:=false) ⟨c,vp,rfl,rv,rp,ap⟩ (by decide) (by decide) (by omega);have S:happend 44 6 96 wb (.slice hI.next 0 1) (hI.new (.cells 44 6 true false (bkC B c M vp)))=some (.val ah hL):=eL;rw[S,ec];simp only[wAC,wAE]at R;obtain⟨hM,eM,_,HM,sM⟩:=R.st 5 (o:=3) (u:=ah) rfl (by simp) (R.one 2 rfl);refine d9 (ed _ _ _) ?_;have T:pSt 1 (.ptr l3 (0+3)) ah hL=some (.val .undef hM):=by rw[wAY];exact eM
  rw[T,ec];simp only[wAC,wAE]at HM;have HN:=HM.rowsIn (i:=i) (ae.out i (by omega));have aE:=((((((K.trans ag).trans sA).trans sC).trans sD).trans sE).trans sG).trans sI;refine addOne ⟨k-1,by omega,FK,i+1,bs++[(B,M)],up fn i (some (B.next,M)),ah,rfl,by omega,s5.trans (((aE.trans sJ).trans sK).trans (sL.trans sM)),by simp[aC],?_,HN⟩;rw[P];have:=ae.snoc B M
  rwa [aC]at this
 refine ltNo ?_;have ns:=g.ns;obtain rfl:i=u.blocks.length:=by omega
 rw[wAg]at ae;refine oF (H5.ld 6 rfl rfl) (d9 u5.s.len ?_);clear hk k
 have H5:Hold F5 X (rowsP tyInt (λ_:KF=>Option.none)::rowP (eL eFx) tyState [] .nilSlice::rowsP tyInt fn::rowP eKx tyBlock bs wb::rowsP tyInt fa::rowP eVx tyVal xs wv::cellP l3 30 [.int .i64 u.func,.int .i64 u.pc,wv,wb,.nilSlice]::cellP l2 30 [.int .i64 0,.int .i64 0,.nilSlice,.nilSlice,.nilSlice]::cellP l1 30 (uC u vv vb vs)::cs):=
  (H5.add (p:=rowP (eL eFx) tyState [] .nilSlice) .nil λ_ h=>h).rows0
 refine BY (λk l h'=>∃(F':Nat->Prop) (i:Nat) (ss:List (List (Fm×V×V))) (fl:KF->Option (List Nat×V)) (ws:V),l=[.ptr l2 0,.ptr l3 0,vs,.int .i64 u.states.length,.int .i64 i]/\i+k=u.states.length/\Sn F5 X F' h'/\ss.length=i/\CpS (u.states.take i) ss fl/\
  Hold F' h' (rowsP tyInt fl::rowP (eL eFx) tyState ss ws::rowsP tyInt fn::rowP eKx tyBlock bs wb::rowsP tyInt fa::rowP eVx tyVal xs wv::cellP l3 30 [.int .i64 u.func,.int .i64 u.pc,wv,wb,ws]::cellP l2 30 [.int .i64 0,.int .i64 0,.nilSlice,.nilSlice,.nilSlice]::cellP l1 30 (uC u vv vb vs)::cs)) ?_ (k:=u.states.length)
  ⟨F5,0,[],λ_=>Option.none,.nilSlice,rfl,by omega,Sn.refl _ _,rfl,⟨rfl,λ_ _ _ _ _ _ h=>by simp at h,λ_ _ _ _=>rfl⟩,H5⟩
 rintro k _ _ _ _ _ h6 ⟨I,i,ss,fl,ws,⟨⟩,hk,K,aF,ai,J⟩;unfold yi;have u6:=u5.since K;by_cases hi:i<u.states.length
 ·refine ltYes ?_;have hS:=wAA hi;have P:u.states.take (i+1)=u.states.take i++[u.states[i]]:=wAT hi;generalize u.states[i]=fs at*;have aZ:=(g.st i fs hS).1;obtain⟨lx,ox,f,_,x1,x2,_,xf⟩:=u6.st hS;refine d9 x1 (d9 x2 ?_);refine fU J rfl rfl (by simp only[ee,xf.one];rfl) λG L s7=>?_;generalize h6.next=lc at*;rw[ev];obtain⟨A,s8⟩:=L.newC tyState [.nilSlice];have A:Hold I (G.new (.cells 38 1 true false [V.nilSlice])) (cellP G.next 38 [.nilSlice]::cellP lc 38 [f]::_):=A;have s8:Sn I G I (G.new (.cells 38 1 true false [V.nilSlice])):=s8;generalize G.new (.cells 38 1 true false [V.nilSlice])=Y at*;generalize G.next=ld at*;have xf:=(xf.since s7).since s8;refine oF (A.ld 1 rfl rfl) (d9 xf.len ?_)
  have A:Hold I Y (rowsP tyInt fl::rowP eFx tyFrame [] .nilSlice::cellP ld 38 [.nilSlice]::rowP (eL eFx) tyState ss ws::rowsP tyInt fn::rowP eKx tyBlock bs wb::rowsP tyInt fa::rowP eVx tyVal xs wv::cellP l3 30 [.int .i64 u.func,.int .i64 u.pc,wv,wb,ws]::cellP l2 30 [.int .i64 0,.int .i64 0,.nilSlice,.nilSlice,.nilSlice]::cellP l1 30 (uC u vv vb vs)::cs):=
   (A.drop1.sw.add (p:=rowP eFx tyFrame [] .nilSlice) .nil λ_ h=>h).sw
  refine B7 (λk' l h'=>∃(j:Nat) (ys:List (Fm×V×V)) (D:KF->Option (List Nat×V)) (U:V),l=[.ptr l2 0,.ptr l3 0,.ptr ld 0,vs,.int .i64 u.states.length,.int .i64 i,f,.int .i64 fs.length,.int .i64 j]/\j+k' = fs.length/\Sn I Y I h'/\ys.length=j/\CpF i (fs.take j) ys D/\(∀s k b,s≠i->D (s,k,b)=fl (s,k,b))/\
   Hold I h' (rowsP tyInt D::rowP eFx tyFrame ys U::cellP ld 38 [U]::rowP (eL eFx) tyState ss ws::rowsP tyInt fn::rowP eKx tyBlock bs wb::rowsP tyInt fa::rowP eVx tyVal xs wv::cellP l3 30 [.int .i64 u.func,.int .i64 u.pc,wv,wb,ws]::cellP l2 30 [.int .i64 0,.int .i64 0,.nilSlice,.nilSlice,.nilSlice]::cellP l1 30 (uC u vv vb vs)::cs)) ?_ (k:=fs.length)
   ⟨0,[],fl,.nilSlice,rfl,by omega,Sn.refl _ _,rfl,⟨rfl,λ_ _ _ _ h=>by simp at h,λk b _=>ai.out i k b (by omega)⟩,λ_ _ _ _=>rfl,A⟩
  rintro k' _ _ _ _ _ _ _ _ _ h9 ⟨j,ys,D,U,⟨⟩,a5,s9,aG,W,aH,r⟩;unfold yn;have aT:=xf.since s9;by_cases hj:j<fs.length
  ·refine ltYes ?_;have hF:=wAA hj;have aU:fs.take (j+1)=fs.take j++[fs[j]]:=wAT hj;have a6:=(g.st i fs hS).2 fs[j] (wAR hj);generalize fs[j]=x at*;obtain⟨ly,oy,xa,xb,_,y1,y2,ya,yb⟩:=aT.frm hF;refine d9 y1 (d9 y2 ?_);refine fU r rfl rfl (by simp only[fmC,ee,ya.one,yb.one];rfl) λab d C=>?_;generalize h9.next=le at*;have q:∀{h:Hp} {cs:List Pc},Hold I h cs->Hold I (h.new (.cells 3 1 true false [])) (cellP h.next 3 []::cs)/\Sn I h I (h.new (.cells 3 1 true false [])):=λH=>H.newC 3 [];have Z:∀{e sz:Nat} {a b:Bool} {cs:List V},O.beq (.cells e sz a b cs) (.cells e sz a b cs)=true:=O.beq_cells _ _ _ _ _;rw[yY,fD];obtain⟨ac,au⟩:=q d;generalize ab.new (.cells 3 1 true false [])=aI at*;refine oF (ac.ld 1 rfl rfl) ?_;rw[fD];obtain⟨z,aw⟩:=q ac;generalize aI.new (.cells 3 1 true false [])=aV at*;generalize ab.next=ra at*;generalize aI.next=rb at*;refine oF (z.ld 2 rfl rfl) ?_;refine⟨⟨z.get 0 rfl,Z⟩,z.ld 2 rfl rfl,⟨z.get 1 rfl,Z⟩,?_⟩;have ya:=((ya.since C).since au).since aw;have yb:=((yb.since C).since au).since aw;have z:=z.empty 1 rfl;simp only[wAC,wAE]at z;obtain⟨c,hA,eA,nA,t,sA⟩:=z.appR 1 rfl (by_:=8) ya (by decide) (by decide) (by simp;omega);have an:happend 3 1 8 (.slice ra 0 0) xa aV=some (.val c hA):=eA;rw[an,ec];simp only[wAC,wAE,wAl]at t;refine⟨nA,d9 (ed _ _ _) ⟨t.ld 2 rfl rfl,⟨t.get 0 rfl,Z⟩,?_⟩⟩;have t:=t.empty 0 rfl;simp only[wAC,wAE]at t;obtain⟨vc,hC,eC,nC,N,sC⟩:=t.appR 0 rfl (by_:=8) (yb.since sA) (by decide) (by decide) (by simp;omega);have ao:happend 3 1 8 (.slice rb 0 0) xb hA=some (.val vc hC):=eC;rw[ao,ec];simp only[wAC,wAE,wAl]at N;have m:=N.one 1 rfl;have ax:=N.one 0 rfl;obtain⟨hE,eE,nE,HE,sE⟩:=N.st 2 (o:=2) (u:=c) rfl (by simp[fmC]) m;have aq:pSt 1 (.ptr le (0+2)) c hC=some (.val .undef hE):=by rw[wAY];exact eE
   refine⟨nC,?_⟩;rw[aq,ec];simp only[wAC,wAE]at HE;obtain⟨hG,eG,nG,HG,sG⟩:=HE.st 2 (o:=3) (u:=vc) rfl (by simp[fmC]) ax;have ar:pSt 1 (.ptr le (0+3)) vc hE=some (.val .undef hG):=by rw[wAY];exact eG
   refine⟨nE,d9 (ed _ _ _) ?_⟩;rw[ar,ec];simp only[wAC,wAE]at HG;have HG:Hold I hG (rowP eN tyInt x.stack vc::rowP eN tyInt x.locals c::cellP le 40 (fmC x c vc)::rowsP tyInt D::rowP eFx tyFrame ys U::cellP ld 38 [U]::_):=HG;refine⟨nG,oF (HG.ld 5 rfl rfl) (d9 (HG.ldA 2 rfl rfl) ?_)⟩;rw[lD (sz:=4) (w:=fmC x c vc) rfl rfl (by simp only[fmC,ee,m,ax];rfl),ev];obtain⟨aj,hL,eL,_,R,sL⟩:=HG.app1 4 rfl (by_:=64) (ety:=40) (y:=(x,c,vc)) (w:=fmC x c vc) (ro:=false) ⟨rfl,m,ax⟩ (by decide) (by decide) (by omega);have S:happend 40 4 64 U (.slice hG.next 0 1) (hG.new (.cells 40 4 true false (fmC x c vc)))=some (.val aj hL):=eL;rw[S,ec];simp only[wAC,wAE]at R;obtain⟨hM,eM,_,HM,sM⟩:=R.st 5 (o:=0) (u:=aj) rfl (by simp) (R.one 4 rfl);refine d9 (ed _ _ _) ?_;have T:pSt 1 (.ptr ld (0+0)) aj hL=some (.val .undef hM):=eM;rw[T,ec];simp only[wAC,wAE]at HM;have HN:=HM.rowsIn2 (i:=(i,j,false)) (j:=(i,j,true)) (W.out j false (by omega)) (W.out j true (by omega)) (by simp);refine addOne ⟨k'-1,by omega,j+1,ys++[(x,c,vc)],up (up D (i,j,false) (some (x.locals,c))) (i,j,true) (some (x.stack,vc)),aj,rfl,by omega,((((((s9.trans C).trans au).trans aw).trans sA).trans sC).trans (sE.trans sG)).trans (sL.trans sM),by simp[aG],?_,?_,HN⟩
   ·rw[aU];have:=W.snoc x c vc
    rwa [aG]at this
   ·intro s k b hs;rw[fP _ _ (by simp[hs]),fP _ _ (by simp[hs])];exact aH s k b hs
  refine ltNo ?_;obtain rfl:j=fs.length:=by omega
  rw[wAg]at W;obtain⟨d,C,rf⟩:=r.freezeR 1 rfl;simp only[wAC,wAE]at d;generalize (λl=>I l\/Loc U l)=F7 at*;have d:=d.drop1;refine oF (d.ld 7 rfl rfl) (d9 (d.ldA 1 rfl rfl) ?_);rw[lD (sz:=1) (w:=[U]) rfl rfl (by simp only[ee,rf.one];rfl),ev];obtain⟨al,hL,eL,_,R,sL⟩:=d.app1 2 rfl (by_:=24) (ety:=38) (y:=ys) (w:=[U]) (ro:=false) ⟨U,rfl,rf⟩ (by decide) (by decide) (by omega);have S:happend 38 1 24 ws (.slice h9.next 0 1) (h9.new (.cells 38 1 true false [U]))=some (.val al hL):=eL;rw[S,ec];simp only[wAC,wAE]at R;obtain⟨hM,eM,_,HM,sM⟩:=R.st 7 (o:=4) (u:=al) rfl (by simp) (R.one 2 rfl);refine d9 (ed _ _ _) ?_;have T:pSt 1 (.ptr l3 (0+4)) al hL=some (.val .undef hM):=by rw[wAY];exact eM
  rw[T,ec];simp only[wAC,wAE]at HM;refine addOne ⟨k-1,by omega,F7,i+1,ss++[ys],D,al,rfl,by omega,((((K.trans s7).trans s8).trans s9).trans C).trans (sL.trans sM),by simp[aF],?_,HM.drop1⟩;rw[P];have am:=W;rw[<-aF]at am;exact ai.snoc am λs k b hs=>aH s k b (by omega)
 refine ltNo ?_;obtain rfl:i=u.states.length:=by omega
 rw[wAg]at ai;refine d9 (J.ldA 6 rfl rfl) ?_;obtain⟨G,e7,_,L,s7⟩:=J.stA 7 (ws:=[.int .i64 u.func,.int .i64 u.pc,wv,wb,ws]) (n:=5) rfl rfl rfl (by simp only[ee,J.one 5 rfl,J.one 3 rfl,J.one 1 rfl];rfl);rw[e7,ec];simp only[wAC,wAE]at L;refine d9 (L.ldA 7 rfl rfl) ?_;exact H I G wv wb ws xs bs ss fa fn fl (((ay.trans s4).trans s5).trans (K.trans s7)) hc ae ai L.take6
end
open Go.Proofs.YtpnddokajmjpbaaDoor.Un Go.Proofs.YtpnddokajmjpbaaDoor.Dm
section
variable{F F':Nat->Prop}{h h':Hp}{cs ds:List Pc}{Q:QP1}{u:U}{vv vb vs:V}
def feet (cs:List Pc)(l:Nat):Prop:=∃(i:Nat)(c:Pc),cs[i]? =some c/\c.foot l
theorem Hold.lend (H:Hold F h cs):Hold (λl=>F l\/feet cs l) h []:=
 Hold.nil λl a=>a.elim (H.fl l) λ⟨i,c,hc,b⟩=>(c.inn (H.ok i c hc) l b).1
theorem Hold.back (H:Hold F h cs){G:Nat->Prop}(s:Sn (λl=>F l\/feet cs l) h G h'):Hold F h' cs where
 fl l a:=wAO (H.fl l a) s.next
 ok i c hc:=c.keep (H.ok i c hc) (λl a=>s.keep l (.inl a)) (λl a=>s.keep l (.inr ⟨i,c,hc,a⟩)) s.next
 dis:=H.dis
theorem Sn.back{G:Nat->Prop}(s:Sn (λl=>F l\/feet cs l) h G h'):Sn F h F h':=⟨s.next,λl a=>s.keep l (.inl a),λ_ h=>h⟩
theorem Hold.backR (H:Hold F h cs){ty:Nat}{xs:List Nat}{v:V}(s:Sn (λl=>F l\/feet cs l) h (λl=>F l\/feet cs l) h') (m:Hold (λl=>F l\/feet cs l) h' [rowP eN ty xs v]):Hold F h' (rowP eN ty xs v::cs):=by
 have k:OwnR eN ty (λl=>F l\/feet cs l) h' xs v:=m.ok 0 _ rfl;refine(H.back s).cons ?_ λi c hc l n d=>(k.tyOf n).2.2 (.inr ⟨i,c,hc,d⟩);rcases k with⟨f,g⟩|⟨t,ws,f,g,o,p,q,u⟩
 ·exact .inl ⟨f,g⟩
 ·exact .inr ⟨t,ws,f,g,λw=>o (.inl w),p,by
   have j:∀(ws:List V) (xs:List Nat),Win eN (λl=>F l\/feet cs l) h' ws xs->Win eN F h' ws xs:=λws xs=>by
    induction xs generalizing ws with
    |nil=>exact id
    |cons x xs y=>rintro⟨a,b,e,r,z⟩;exact⟨a,b,e,r,y b z⟩
   exact j ws xs q,u⟩
theorem Dp {α β:Type}{E:Enc α} {E':Enc β}:∀(ws:List V)(xs:List α)(ys:List β),ys.length=xs.length->(∀(k:Nat) x y cs,xs[k]? =some x->ys[k]? =some y->E.rel F h x cs->E'.rel F' h y cs)->Win E F h ws xs->Win E' F' h ws ys
 |_,[],[],_,_,h=>h
 |ws,x::xs,y::ys,hl,hr,⟨a,b,e,r,hw⟩=>⟨a,b,e,hr 0 x y a rfl rfl r,Dp b xs ys (by simpa using hl) (λk x y cs c d=>hr (k+1) x y cs (by simpa using c) (by simpa using d)) hw⟩
theorem Hold.reR {α β:Type}{E:Enc α} {E':Enc β}(H:Hold F h cs)(i:Nat){ty:Nat}{xs:List α}{ys:List β}{v:V}(hi:cs[i]? =some (rowP E ty xs v))(d:E'.sz=E.sz)(a:ys.length=xs.length)(e:∀(k:Nat) x y cs,xs[k]? =some x->ys[k]? =some y->E.rel F h x cs->E'.rel F h y cs):Hold F h (cs.set i (rowP E' ty ys v)):=by
 refine H.swap hi ?_ λ_ h=>h;rcases H.row i hi with⟨b,c⟩|⟨t,ws,b,c,f,g,j,l⟩
 ·subst c;exact .inl ⟨b,wAf a⟩
 ·exact .inr ⟨t,ws,by rw[a];exact b,c,f,by rw[d];exact g,Dp ws xs ys a e j,l⟩
theorem SlR.reR {α β:Type}{E:Enc α} {E':Enc β}{xs:List α}{ys:List β}{v:V}(hs:SlR E F h xs v)(d:E'.sz=E.sz)(f:∀l,F l->F' l)(a:ys.length=xs.length)(g:∀(k:Nat) x y cs,xs[k]? =some x->ys[k]? =some y->E.rel F h x cs->E'.rel F' h y cs):SlR E' F' h ys v:=by
 rcases hs with⟨b,c⟩|⟨l,o,ty,live,ro,ws,b,c,i,j,m,n⟩
 ·subst c;exact .inl ⟨b,wAf a⟩
 ·exact .inr ⟨l,o,ty,live,ro,ws,by rw[a];exact b,f l c,by rw[d];exact i,j.imp (λe=>wAf (by rw[a,e];rfl)) id,m,Dp _ xs ys a g n⟩
theorem JU {xs:List Nat}{v:V}(hs:SlR eN F h xs v)(p:xs.length<1000000)(x:Nat)(H:Q (.bool (xs.contains x)) h) :
  cP CS gO [v,.int .i64 x] h Q:=by
 refine tJ rfl rfl ?_;unfold mf;refine vB rfl rfl ?_;unfold oX;refine d9 hs.len ?_;refine tI (λk l h'=>∃i:Nat,l=[v,.int .i64 x,.int .i64 xs.length,.int .i64 (i:Nat)]/\h' = h/\i+k=xs.length/\∀j y,j<i->xs[j]? =some y->y≠x) ?_ (k:=xs.length) ⟨0,rfl,rfl,by omega,λ_ _ h=>by omega⟩;rintro k _ _ _ _ h' ⟨i,⟨⟩,rfl,q,a⟩;unfold lT;by_cases hi:i<xs.length
 ·refine ltYes ?_;have b:=wAA hi;generalize xs[i]=y at*;obtain⟨l,o,_,f,g⟩:=hs.nat b .i64;refine d9 f (d9 g (fk ?_));by_cases e:x=y
  ·refine if_t (by rw[e]) (d9 (kX ..) ?_);rw[wBF (by omega)];have:xs.contains x=true:=List.contains_iff_mem.2 (by rw[e];exact wAI b)
   rwa [this]at H
  ·refine if_f (by omega) (addOne ⟨k-1,by omega,i+1,rfl,rfl,by omega,λj z c d=>?_⟩);by_cases m:j=i
   ·subst m;rw[b]at d;cases d;exact λn=>e n.symm
   ·exact a j z (by omega) d
 ·refine ltNo (d9 (kX ..) ?_);rw[wBL (by omega)];have:xs.contains x=false:=by
   rw[wBt];intro h;obtain⟨j,c⟩:=wAD.1 (List.contains_iff_mem.1 h);exact a j x (by have:=(wAB.1 c).1;omega) c rfl
  rwa [this]at H
def asF (az:List Int):Nat->Int:=λv=>az.getD v (-1)
theorem CR {az:List Int}{v:Nat}{a:Int}(h:az[v]? =some a):asF az v=a:=by
 unfold asF;rw[wAL,h];rfl
theorem IC {lt:Nat}{asv:V}{az:List Int}{G:Nat->Prop}(d:pLd (.ptr lt 5) h=some asv)(hs:SlR eZ G h az asv)(M:az.length<=3000)(g:∀(v:Nat)(a:Int),az[v]? =some a->a<az.length){v:Nat}(J:v<az.length)
  (H:realN (asF az) (az.length+1) v<az.length->Q (.int .i64 (realN (asF az) (az.length+1) v:Nat)) h):cP CS fX [.ptr lt 0,.int .i64 v] h Q:=by
 refine yR rfl rfl ?_;unfold sV;refine wk (λk l h'=>∃n w:Nat,l=[.ptr lt 0,.int .i64 (w:Nat),.int .i64 (n:Nat)]/\h' = h/\n+k=az.length+1/\w<az.length/\realN (asF az) k w=realN (asF az) (az.length+1) v) ?_ (k:=az.length+1) ⟨0,v,rfl,rfl,by omega,J,rfl⟩;rintro k _ _ _ h' ⟨n,w,⟨⟩,rfl,N,i,f⟩;unfold p8;have j:=wAA i;have K:=CR j;have L:=g w _ j;generalize az[w]=a at*;obtain⟨l,o,_,p,q⟩:=hs.int j .i64;have d:pLd (.ptr lt (0+5)) h' = some asv:=d;refine oN d (d9 p (d9 q (d9 (kX ..) ?_)));rw[show pAnd (V.bool (decide (0<=a))) (oB (some (V.ptr lt 0)) λr=>oB (pNil r) λs=>oB (pFA 5 s) λt=>oB (pLd t h') λu=>oB (some (V.int .i64 w)) λx=>oB (pIx 1 u x) λy=>oB (pLd y h') λz=>oB (some (V.int .i64 w)) λA=>hbin .neq 3 z A)=some (.bool (decide (0<=a)&&(a != (w:Int)))) from by
  simp only[en,d,p,q,ut,fc,ed,gv]]
 rw [fj];rw[show pAnd (V.bool (decide (0<=a)&&(a != (w:Int)))) (oB (some (V.int .i64 n)) λB=>oB (some (V.ptr lt 0)) λC=>oB (pNil C) λD=>oB (pFA 5 D) λE=>oB (pLd E h') λF=>oB (pLen F) λI=>hbin .leq 3 B I)=some (.bool ((decide (0<=a)&&(a != (w:Int)))&&decide ((n:Int)<=az.length))) from by
  simp only[en,fc,ed,d,hs.len,Hu,gv]]
 rw[fj]
 cases k with
 | zero=>
   refine st_b (if_f (by rw[wBL (show ¬((n:Int)<=az.length) by omega)];simp) ?_);have e0:w=realN (asF az) (az.length+1) v:=f;rw[<-e0]at H
   exact H i
 | succ k=>
   rw[wBF (show(n:Int)<=az.length by omega),Bool.and_true];have e:realN (asF az) (k+1) w=if 0<=asF az w/\asF az w≠(w:Int) then realN (asF az) k (asF az w).toNat else w:=rfl
   rw[K]at e;by_cases c:0<=a/\a≠(w:Int)
   ·refine st_b (if_t (by rw[wBF c.1,Bool.true_and,wCJ];exact c.2) ?_)
    refine oN d (d9 p (d9 q (gj (m:=1) (by omega) (by omega) ?_)));rw[if_pos c]at e;obtain⟨b,rfl⟩:=Int.eq_ofNat_of_zero_le c.1;exact⟨k,by omega,n+1,b,rfl,rfl,by omega,by omega,by rw[<-f,e];rfl⟩
   ·refine st_b (if_f (λh=>c ?_) ?_)
    ·rw[wAJ,wAe,wCJ]at h
     exact h
    ·rw[if_neg c]at e
     rw[e]at f;rw[<-f]at H;exact H i
theorem Ja (n:allOne (uC u vv vb vs)=true)(p:pLen vv=some (.int .i64 u.vals.length))(D:u.vals.length<=3000)(q:Hold F h cs)(H:∀h' v,Sn F h F h'->Hold F h' (rowP eZ tyInt ((List.range u.vals.length).map λ(i:Nat)=>(i:Int)) v::cs)->Q v h') :
  cP CS vK [.agg (uC u vv vb vs)] h Q:=by
 refine EM rfl rfl ?_;unfold A4;refine kh q n λb c r=>?_;refine oF (c.ld 0 rfl rfl) (d9 p ?_);rw[gh (z:=V.int .i64 0) rfl (by decide) (by omega),ev];obtain⟨s,t⟩:=c.make (E:=eZ) (ty:=tyInt) (y:=0) (u:=V.int .i64 0) u.vals.length rfl rfl;generalize b.new (.cells tyInt 1 true false (List.replicate u.vals.length (V.int .i64 0)))=G at*;generalize b.next=lr at*;refine d9 (show _=some (V.int .i64 u.vals.length) from rfl) ?_;refine B3 (λk l h'=>∃(i:Nat) (ys:List Int),l=[.slice lr 0 u.vals.length,.int .i64 u.vals.length,.int .i64 i]/\i+k=u.vals.length/\ys.length=u.vals.length/\(∀j:Nat,j<i->ys[j]? =some (j:Int))/\Sn F h F h'/\Hold F h' (rowP eZ tyInt ys (.slice lr 0 u.vals.length)::cellP h.next 30 (uC u vv vb vs)::cs)) ?_ (k:=u.vals.length) ⟨0,_,rfl,by omega,wAi,λ_ h=>by omega,r.trans t,s⟩;rintro k _ _ _ w ⟨i,ys,⟨⟩,I,x,d,f,g⟩;unfold yh;by_cases hi:i<u.vals.length
 ·refine ltYes ?_;obtain⟨l,o,J,A,B,_,m,C⟩:=g.stR 0 rfl (k:=i) (y:=(i:Int)) (u:=V.int .i64 i) (by omega) rfl rfl rfl;refine d9 A ?_;rw[B,ec];simp only[wAC]at m;refine addOne ⟨k-1,by omega,i+1,ys.set i (i:Int),rfl,by omega,by simp[x],λj a=>?_,f.trans C,m⟩;by_cases e:j=i
  ·subst e;exact wAK (by omega)
  ·rw[wAN λh=>e h.symm];exact d j (by omega)
 ·refine ltNo ?_;have e:ys=(List.range u.vals.length).map λ(i:Nat)=>(i:Int):=by
   refine wBs λj=>?_;by_cases a:j<u.vals.length
   ·rw[d j (by omega),wAQ,wBm a];rfl
   ·rw[wAh (by omega),wAh (by simp;omega)]
  rw[<-e]at H;exact H w _ f g.drop1
end
