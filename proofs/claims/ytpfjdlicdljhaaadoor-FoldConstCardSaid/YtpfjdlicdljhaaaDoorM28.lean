/- Parts. -/
import Derived.Test.YtpfjdlicdljhaaaDoorM27
import Derived.Test.YtpfjdlicdljhaaaDoorM34
import Derived.Test.YtpfjdlicdljhaaaDoorM33
set_option maxHeartbeats 4000000
namespace Go.Proofs.YtpfjdlicdljhaaaDoor.Hx
open Un Dm
theorem SV:P0.underlying cT=some (.int .i64):=by kernel_rfl
theorem M7(a b:Int):D9 cT (.I a) (.I b)=some (a == b):=by
 unfold D9;rw[SV];rfl
section
variable{u:U}
theorem CR{w:Nat}(h:jo u w):w<u.cR.length:=by
 obtain⟨x,a,_⟩:=h
 grind
theorem PC{P:Nat->Prop}(g:Gd u P){s:Nat}{fs:List Fm}(a:u.cZ[s]? =some fs):∀w∈ff fs,w<u.cR.length:=by
 intro w b;unfold ff at b;obtain⟨f,c,d⟩:=Sf.1 b;obtain⟨_,_,e⟩:=g.st s fs a;obtain⟨_,_,i,j⟩:=e f c;rcases EC.1 d with h|h
 ·simp_all[CR]
 simp_all[CR]
theorem Iz(g:Good u){i:Nat}{x:Vl}(d:u.cR[i]? =some x):x.op=21\/x.op=20->x.args.length<=700:=by
 have nb:=g.nb;obtain⟨b,k,a⟩:=g.yx i (by grind) trivial;obtain⟨B,e,hk⟩:=id a;rintro(c|c)
 ·rw[(g.xI _ _ _ _ _ a d c e).2,g.c8 b B e,<-kz];have:=kj g (i:=u.blocks.length) (j:=0) (b:=b) (iC _) (by omega);omega
 ·rw[g.putAt i x d c];omega
theorem AZ{P:Nat->Prop}(g:Gd u P)(s:Nat)(fs:List Fm)(a:u.cZ[s]? =some fs):fs.length<=30/\∀f∈fs,f.locals.length<=40/\f.stack.length<=60:=by
 obtain⟨_,b,c⟩:=g.st s fs a
 simp_all
theorem xJ(g:Good u){b:Nat}{B:Bk}(a:u.blocks[b]? =some B):B.cR.length<=3000:=by
 have nv:=g.nv;have:=gq u.cR.length B.cR (B3 g a) λv c=>by
  obtain⟨k,hk⟩:=kh.1 c;exact g.gz v b k ⟨B,a,hk⟩
 omega
theorem BU(g:Good u){b:Nat}{B:Bk}(a:u.blocks[b]? =some B):B.c8.length<=700:=by
 have nb:=g.nb;rw[g.c8 b B a,<-kz];have:=kj g (i:=u.blocks.length) (j:=0) (b:=b) (iC _) (by omega);omega
theorem xr(g:Good u){b:Nat}{B:Bk}(a:u.blocks[b]? =some B):B.next.length<=2:=by
 rcases g.fin b B a with⟨_,h⟩|⟨_,h,_⟩|⟨_,h,_⟩
 ·omega
 ·omega
 simp_all
end
open Un Dm
def sr:oY (Vl×V) where
 sz:=6
 rel _ _ x cs:=cs=kN x.1 x.2/\x.2.one=true
 len h:=by rw[h.1];rfl
 one h:=by rw[h.1];simp only[kN,cY,h.2];rfl
 dO _ h:=h
 mono _ h:=h
def qe:oY (Bk×V) where
 sz:=6
 rel F h x cs:=∃v p,cs=nV x.1 v x.2 p/\fJ eN F h x.1.cR v/\fJ eN F h x.1.c8 p/\x.2.one=true
 len:=λ⟨_,_,h,_⟩=>by subst h;rfl
 one:=λ⟨_,_,h,a,b,c⟩=>by subst h;simp only[nV,cY,a.one,b.one,c];rfl
 dO:=λhk ⟨v,p,h,a,b,c⟩=>⟨v,p,h,a.dO hk,b.dO hk,c⟩
 mono:=λd ⟨v,p,h,a,b,c⟩=>⟨v,p,h,a.mono d,b.mono d,c⟩
def Kb:oY (Fm×V×V) where
 sz:=4
 rel _ _ x cs:=cs=Jo x.1 x.2.1 x.2.2/\x.2.1.one=true/\x.2.2.one=true
 len h:=by rw[h.1];rfl
 one h:=by rw[h.1];simp only[Jo,cY,h.2.1,h.2.2];rfl
 dO _ h:=h
 mono _ h:=h
section
variable{F F':Nat->Prop}{h h':Hp}{cs:List Pc}{Q:dg}{u:U}{vv vb vs:V}
theorem cS.empty(H:cS F h cs)(i:Nat){l:Nat}(hi:cs[i]? =some (cV l cT [])):cS F h (cs.set i (cW eN cT [] (.slice l 0 0))):=by
 have a:=H.ok i _ hi;exact H.swap hi (.inr ⟨l,[],rfl,a.2.1,a.2.2,a.1,trivial,rfl⟩) λm e=>e.symm
structure Rt (vs:List Vl) (xs:List (Vl×V)) (fa:Nat->Option (List Nat×V)):Prop where
 fst:xs.map Prod.fst=vs
 row:∀i x w,xs[i]? =some (x,w)->fa i=some (x.args,w)
 out:∀i,xs.length<=i->fa i=none
structure PT (bs:List Bk) (xs:List (Bk×V)) (fn:Nat->Option (List Nat×V)):Prop where
 fst:xs.map Prod.fst=bs
 row:∀i x w,xs[i]? =some (x,w)->fn i=some (x.next,w)
 out:∀i,xs.length<=i->fn i=none
abbrev KF:=Nat×Nat×Bool
structure Xm (s:Nat) (fs:List Fm) (xs:List (Fm×V×V)) (fl:KF->Option (List Nat×V)):Prop where
 fst:xs.map Prod.fst=fs
 loc:∀k x l w,xs[k]? =some (x,l,w)->fl (s,k,false)=some (x.locals,l)/\fl (s,k,true)=some (x.stack,w)
 out:∀k b,xs.length<=k->fl (s,k,b)=none
structure Uc (ss:List (List Fm)) (xs:List (List (Fm×V×V))) (fl:KF->Option (List Nat×V)):Prop where
 fst:xs.map (λl=>l.map Prod.fst)=ss
 loc:∀s l k x a w,xs[s]? =some l->l[k]? =some (x,a,w)->fl (s,k,false)=some (x.locals,a)/\fl (s,k,true)=some (x.stack,w)
 out:∀s k b,xs.length<=s->fl (s,k,b)=none
theorem Rt.snoc{vs:List Vl}{xs:List (Vl×V)}{fa:Nat->Option (List Nat×V)}(c:Rt vs xs fa)(x:Vl)(w:V):Rt (vs++[x]) (xs++[(x,w)]) (up fa xs.length (some (x.args,w))):=by
 refine⟨by rw[LX,c.fst];rfl,λi y v hi=>?_,λi hi=>?_⟩
 ·by_cases e:i<xs.length
  ·rw[TN e]at hi;rw[fL _ _ (by omega)];exact c.row i y v hi
  ·rw[Se (by omega)]at hi;have a:i-xs.length=0:=by have:=(gL.1 hi).1;simp at this;omega
   rw[a]at hi;cases hi;obtain rfl:i=xs.length:=by omega
   exact im _ _ _
 ·rw[Ht]at hi;rw[fL _ _ (by simp at hi;omega)];exact c.out i (by simp at hi;omega)
theorem PT.snoc{bs:List Bk}{xs:List (Bk×V)}{fn:Nat->Option (List Nat×V)}(c:PT bs xs fn)(x:Bk)(w:V):PT (bs++[x]) (xs++[(x,w)]) (up fn xs.length (some (x.next,w))):=by
 refine⟨by rw[LX,c.fst];rfl,λi y v hi=>?_,λi hi=>?_⟩
 ·by_cases e:i<xs.length
  ·rw[TN e]at hi;rw[fL _ _ (by omega)];exact c.row i y v hi
  ·rw[Se (by omega)]at hi;have a:i-xs.length=0:=by have:=(gL.1 hi).1;simp at this;omega
   rw[a]at hi;cases hi;obtain rfl:i=xs.length:=by omega
   exact im _ _ _
 ·rw[Ht]at hi;rw[fL _ _ (by simp at hi;omega)];exact c.out i (by simp at hi;omega)
theorem cS.re(H:cS F h cs){ds:List Pc}(m:Nat->Nat)(a:∀i c,ds[i]? =some c->cs[m i]? =some c)(b:∀i j,i<ds.length->j<ds.length->m i=m j->i=j):cS F h ds where
 fl:=H.fl
 ok i c hc:=H.ok (m i) c (a i c hc)
 zQ i j c d hc hd hn:=H.zQ (m i) (m j) c d (a i c hc) (a j d hd) λe=>hn (b i j (gL.1 hc).1 (gL.1 hd).1 e)
theorem cS.WK{a b c d:Pc}(H:cS F h (a::b::c::d::cs)):cS F h (b::d::a::cs):=
 H.re (λi=>match i with|0=>1|1=>3|2=>0|n+3=>n+4) (λi c hc=>match i,hc with|0,hc=>hc|1,hc=>hc|2,hc=>hc|n+3,hc=>hc) λi j _ _ e=>by
  match i,j with
  |0,0|1,1|2,2=>rfl
  |0,1|0,2|1,0|1,2|2,0|2,1=>simp at e
  |0,n+3|1,n+3|2,n+3|n+3,0|n+3,1|n+3,2=>simp at e;try omega
  |n+3,k+3=>simp at e;omega
theorem cS.Td{ι:Type} [DecidableEq ι] {ty:Nat}{f:ι->Option (List Nat×V)}{xs ys:List Nat}{v w:V}{c:Pc}(H:cS F h (cW eN ty xs v::cW eN ty ys w::c::dk ty f::cs)){i j:ι}(hi:f i=Option.none)(a:f j=Option.none)(b:j≠i) :
  cS F h (dk ty (up (up f i (some (ys,w))) j (some (xs,v)))::cs):=
 (H.WK.IV hi).sw.IV (by rw[fL _ _ b];exact a)
theorem cS.XO{a b c d e f x y z:Pc}(H:cS F h (a::b::c::d::e::f::x::y::z::cs)):cS F h (f::d::b::e::c::a::cs):=
 H.re (λi=>match i with|0=>5|1=>3|2=>1|3=>4|4=>2|5=>0|n+6=>n+9) (λi c hc=>match i,hc with|0,hc=>hc|1,hc=>hc|2,hc=>hc|3,hc=>hc|4,hc=>hc|5,hc=>hc|n+6,hc=>hc) λi j _ _ e=>by
   have g:∀i:Nat,(match i with|0=>5|1=>3|2=>1|3=>4|4=>2|5=>0|n+6=>n+9:Nat)=(if i<6 then[5,3,1,4,2,0].getD i 0 else i+3):=λi=>by
     match i with
     |0|1|2|3|4|5=>rfl
     |n+6=>rw[if_neg (by omega)]
   simp only[g]at e;by_cases hi:i<6
   ·by_cases hj:j<6
    ·rw[if_pos hi,if_pos hj]at e
     exact(by decide:∀i,i<6->∀j,j<6->[5,3,1,4,2,0].getD i 0=[5,3,1,4,2,0].getD j 0->i=j) i hi j hj e
    ·rw[if_pos hi,if_neg hj]at e
     have:[5,3,1,4,2,0].getD i 0<6:=(by decide:∀i,i<6->[5,3,1,4,2,0].getD i 0<6) i hi;omega
   ·by_cases hj:j<6
    ·rw[if_neg hi,if_pos hj]at e
     have:[5,3,1,4,2,0].getD j 0<6:=(by decide:∀i,i<6->[5,3,1,4,2,0].getD i 0<6) j hj;omega
    ·rw[if_neg hi,if_neg hj]at e
     omega
theorem Xm.snoc{s:Nat}{fs:List Fm}{xs:List (Fm×V×V)}{fl:KF->Option (List Nat×V)}(c:Xm s fs xs fl)(x:Fm)(l w:V):Xm s (fs++[x]) (xs++[(x,l,w)]) (up (up fl (s,xs.length,false) (some (x.locals,l))) (s,xs.length,true) (some (x.stack,w))):=by
 refine⟨by rw[LX,c.fst];rfl,λi y a b hi=>?_,λi b hi=>?_⟩
 ·by_cases e:i<xs.length
  ·rw[TN e]at hi;have f:=c.loc i y a b hi;rw[fL _ _ (by simp),fL _ _ (by simp;omega),fL _ _ (by simp;omega),fL _ _ (by simp)];exact f
  ·rw[Se (by omega)]at hi;have d:i-xs.length=0:=by have:=(gL.1 hi).1;simp at this;omega
   rw[d]at hi;cases hi;obtain rfl:i=xs.length:=by omega
   exact⟨by rw[fL _ _ (by simp),im],im _ _ _⟩
 ·rw[Ht]at hi;simp at hi;rw[fL _ _ (by simp;omega),fL _ _ (by simp;omega)];exact c.out i b (by omega)
theorem Uc.snoc{ss:List (List Fm)}{xs:List (List (Fm×V×V))} {fl d:KF->Option (List Nat×V)}(c:Uc ss xs fl){fs:List Fm}{ys:List (Fm×V×V)} (c':Xm xs.length fs ys d)(f:∀s k b,s≠xs.length->d (s,k,b)=fl (s,k,b)):Uc (ss++[fs]) (xs++[ys]) d:=by
 refine⟨by rw[LX,c.fst,<-c'.fst];rfl,λi l k y a b hi hk=>?_,λi k b hi=>?_⟩
 ·by_cases e:i<xs.length
  ·rw[TN e]at hi;rw[f _ _ _ (by omega),f _ _ _ (by omega)];exact c.loc i l k y a b hi hk
  ·rw[Se (by omega)]at hi;have g:i-xs.length=0:=by have:=(gL.1 hi).1;simp at this;omega
   rw[g]at hi;cases hi;obtain rfl:i=xs.length:=by omega
   exact c'.loc k y a b hk
 ·rw[Ht]at hi;simp at hi;rw[f _ _ _ (by omega)];exact c.out i k b (by omega)
def vZ(u:U):Prop:=∀(v:Nat)(x:Vl),u.cR[v]? =some x->x.args.length<=700
structure K1 (u:U):Prop where
 nv:u.cR.length<=3000
 nb:u.blocks.length<=300
 ns:u.cZ.length<=1000
 args:vZ u
 jB:∀(b:Nat) (B:Bk),u.blocks[b]? =some B->B.cR.length<=3000/\B.c8.length<=700/\B.next.length<=2
 st:∀(s:Nat) (fs:List Fm),u.cZ[s]? =some fs->fs.length<=30/\∀f∈fs,f.locals.length<=40/\f.stack.length<=60
theorem FY(g:Good u)(b:vZ u):K1 u:=⟨g.nv,g.nb,g.ns,b,λ_ _ a=>⟨xJ g a,BU g a,xr g a⟩,AZ g⟩
theorem Oj(g:K1 u)(H0:cS F h cs)(hu:zR F h u vv vb vs)
  (H:∀F' h' wv wb ws (xs:List (Vl×V)) (bs:List (Bk×V)) (ss:List (List (Fm×V×V))) fa fn fl,Sn F h F' h'->Rt u.cR xs fa->PT u.blocks bs fn->Uc u.cZ ss fl->
   cS F' h' (cW sr dP xs wv::cW qe dm bs wb::cW (eL Kb) jJ ss ws::dk cT fa::dk cT fn::dk cT fl::cs)->Q (.agg (uC u wv wb ws)) h') :
  cP CS rZ [.agg (uC u vv vb vs)] h Q:=by
 refine M6 rfl rfl ?_;unfold GG;have nv:=g.nv;refine kX H0 hu.one λh1 H1 s1=>?_;rw[dC];obtain⟨H2,s2⟩:=H1.vW fA [.I 0,.I 0,.cQ,.cQ,.cQ];have H2:cS F (h1.new (.cells 29 1 true false [V.I 0,.I 0,.cQ,.cQ,.cQ])) (cV h1.next 29 [V.I 0,.I 0,.cQ,.cQ,.cQ]::cV h.next 29 (uC u vv vb vs)::cs):=H2;have s2:Sn F h1 F (h1.new (.cells 29 1 true false [V.I 0,.I 0,.cQ,.cQ,.cQ])):=s2;generalize h1.new (.cells 29 1 true false [V.I 0,.I 0,.cQ,.cQ,.cQ])=h2 at*;generalize h.next=l1 at*;generalize h1.next=l2 at*;refine oF (H2.ld 1 rfl rfl) (oF (H2.ld 1 rfl rfl) (cO (show _=some (V.agg [.I u.func,.I u.pc,.cQ,.cQ,.cQ]) from rfl) ?_));refine fo H2 rfl rfl rfl λh3 H3 s3=>?_;generalize h2.next=l3 at*;have ar:=(s1.trans s2).trans s3;have u3:=hu.since ar;refine oF (H3.ld 2 rfl rfl) (cO u3.v.len ?_)
 have H3:cS F h3 (dk cT (λ_:Nat=>Option.none)::cW sr dP [] .cQ::cV l3 29 [.I u.func,.I u.pc,.cQ,.cQ,.cQ]::cV l2 29 [.I 0,.I 0,.cQ,.cQ,.cQ]::cV l1 29 (uC u vv vb vs)::cs):=
  (H3.add (p:=cW sr dP [] .cQ) .nil λ_ h=>h).Q3
 refine Hw (λk l h'=>∃(i:Nat) (xs:List (Vl×V)) (fa:Nat->Option (List Nat×V)) (wv:V),l=[.ptr l1 0,.ptr l2 0,.ptr l3 0,vv,.I u.cR.length,.I i]/\i+k=u.cR.length/\Sn F h3 F h'/\xs.length=i/\Rt (u.cR.take i) xs fa/\
  cS F h' (dk cT fa::cW sr dP xs wv::cV l3 29 [.I u.func,.I u.pc,wv,.cQ,.cQ]::cV l2 29 [.I 0,.I 0,.cQ,.cQ,.cQ]::cV l1 29 (uC u vv vb vs)::cs)) ?_ (k:=u.cR.length)
  ⟨0,[],λ_=>Option.none,.cQ,rfl,by omega,Sn.refl _ _,rfl,⟨rfl,λ_ _ _ h=>by simp at h,λ_ _=>rfl⟩,H3⟩
 rintro k _ _ _ _ _ _ h4 ⟨i,xs,fa,wv,⟨⟩,hk,s4,au,hc,H4⟩;unfold BF;have u4:=u3.since s4;by_cases hi:i<u.cR.length
 ·refine dZ ?_;have hx:=fg hi;have M:u.cR.take (i+1)=u.cR.take i++[u.cR[i]]:=LV hi;generalize u.cR[i]=x at*;obtain⟨lx,ox,w,_,x1,x2,xw,_⟩:=u4.val hx;refine cO x1 (cO x2 ?_);refine fo H4 rfl rfl (by simp only[kN,cY,xw.one];rfl) λT H5 s5=>?_;generalize h4.next=lc at*;rw[Cz,dC];obtain⟨G,I⟩:=H5.TX (E:=eN) (xs:=[]) (ws:=[]) (n:=0) cT rfl trivial rfl;have G:cS F (T.new (.cells 3 1 true false [])) (cW eN cT [] (.slice T.next 0 0)::cV lc 38 (kN x w)::_):=G;have I:Sn F T F (T.new (.cells 3 1 true false [])):=I;generalize T.new (.cells 3 1 true false [])=h6 at*;refine oF (G.ld 1 rfl rfl) ?_;have aF:=g.args i x hx;obtain⟨a,C,e7,_,J,s7⟩:=G.Ig 0 rfl (ic:=8) ((xw.since s5).since I) (by decide) (by decide) (by simp;omega);have aG:c9 3 1 8 (.slice T.next 0 0) w h6=some (.val a C):=e7;rw[aG,cU];simp only[fY,Pr]at J;have d:=J.one 0 rfl;obtain⟨U,e8,_,t,s8⟩:=J.st 1 (o:=4) (u:=a) rfl (by simp[kN]) d;refine cO (dB _ _ _) ?_;have aH:fk 1 (.ptr lc (0+4)) a C=some (.val .undef U):=by rw[yD];exact e8
  rw[aH,cU];simp only[fY,jq]at t;have t:cS F U (cW eN cT x.args a::cV lc 38 (kN x a)::dk cT fa::cW sr dP xs wv::cV l3 29 [.I u.func,.I u.pc,wv,.cQ,.cQ]::_):=t;refine oF (t.ld 4 rfl rfl) (cO (t.zt 1 rfl rfl) ?_);rw[qv (sz:=6) (w:=kN x a) rfl rfl (by simp only[kN,cY,d];rfl),dC];obtain⟨W,h9,e9,_,m,s9⟩:=t.Cq 3 rfl (ic:=64) (wF:=38) (y:=(x,a)) (w:=kN x a) (ro:=false) ⟨rfl,d⟩ (by decide) (by decide) (by omega);have aI:c9 38 6 64 wv (.slice U.next 0 1) (U.new (.cells 38 6 true false (kN x a)))=some (.val W h9):=e9;rw[aI,cU];simp only[fY,jq]at m;obtain⟨X,aJ,_,c,z⟩:=m.st 4 (o:=2) (u:=W) rfl (by simp) (m.one 3 rfl);refine cO (dB _ _ _) ?_;have aw:fk 1 (.ptr l3 (0+2)) W h9=some (.val .undef X):=by rw[yD];exact aJ
  rw[aw,cU];simp only[fY,jq]at c;have Y:=c.CZ.IV (i:=i) (hc.out i (by omega));refine du ⟨k-1,by omega,i+1,xs++[(x,a)],up fa i (some (x.args,a)),W,rfl,by omega,((((s4.trans s5).trans I).trans s7).trans s8).trans (s9.trans z),by simp[au],?_,Y⟩;rw[M];have:=hc.snoc x a
  rwa [au]at this
 refine fq ?_;obtain rfl:i=u.cR.length:=by omega
 rw[E5]at hc;have nb:=g.nb;refine oF (H4.ld 4 rfl rfl) (cO u4.b.len ?_);clear hk k
 have H4:cS F h4 (dk cT (λ_:Nat=>Option.none)::cW qe dm [] .cQ::dk cT fa::cW sr dP xs wv::cV l3 29 [.I u.func,.I u.pc,wv,.cQ,.cQ]::cV l2 29 [.I 0,.I 0,.cQ,.cQ,.cQ]::cV l1 29 (uC u vv vb vs)::cs):=
  (H4.add (p:=cW qe dm [] .cQ) .nil λ_ h=>h).Q3
 refine HO (λk l h'=>∃(F':Nat->Prop) (i:Nat) (bs:List (Bk×V)) (fn:Nat->Option (List Nat×V)) (wb:V),l=[.ptr l1 0,.ptr l2 0,.ptr l3 0,vb,.I u.blocks.length,.I i]/\i+k=u.blocks.length/\Sn F h4 F' h'/\bs.length=i/\PT (u.blocks.take i) bs fn/\
  cS F' h' (dk cT fn::cW qe dm bs wb::dk cT fa::cW sr dP xs wv::cV l3 29 [.I u.func,.I u.pc,wv,wb,.cQ]::cV l2 29 [.I 0,.I 0,.cQ,.cQ,.cQ]::cV l1 29 (uC u vv vb vs)::cs)) ?_ (k:=u.blocks.length)
  ⟨F,0,[],λ_=>Option.none,.cQ,rfl,by omega,Sn.refl _ _,rfl,⟨rfl,λ_ _ _ h=>by simp at h,λ_ _=>rfl⟩,H4⟩
 rintro k _ _ _ _ _ _ T ⟨Z,i,bs,fn,wb,⟨⟩,hk,s5,ax,aa,H5⟩;unfold Bu;have u5:=u4.since s5;by_cases hi:i<u.blocks.length
 ·refine dZ ?_;have hB:=fg hi;have M:u.blocks.take (i+1)=u.blocks.take i++[u.blocks[i]]:=LV hi;generalize u.blocks[i]=B at*;have aS:=(g.jB i B hB).1;have aT:=(g.jB i B hB).2.1;have aU:=(g.jB i B hB).2.2;obtain⟨lx,ox,bv,bn,bp,_,x1,x2,iv,iN,ip,_⟩:=u5.jB hB;refine cO x1 (cO x2 ?_);refine fo H5 rfl rfl (by simp only[nV,cY,iv.one,iN.one,ip.one];rfl) λh6 G I=>?_;generalize T.next=lc at*;have e:∀{h:Hp} {cs:List Pc},cS Z h cs->cS Z (h.new (.cells 3 1 true false [])) (cV h.next 3 []::cs)/\Sn Z h Z (h.new (.cells 3 1 true false [])):=λH=>H.vW 3 [];rw[Cz,fQ];obtain⟨J,s7⟩:=e G;generalize h6.new (.cells 3 1 true false [])=C at*;refine oF (J.ld 1 rfl rfl) ?_;rw[fQ];obtain⟨t,s8⟩:=e J;generalize C.new (.cells 3 1 true false [])=U at*;refine oF (t.ld 2 rfl rfl) ?_;rw[fQ];obtain⟨m,s9⟩:=e t;generalize U.new (.cells 3 1 true false [])=h9 at*;generalize h6.next=ra at*;generalize C.next=rb at*;generalize U.next=rc at*;refine oF (m.ld 3 rfl rfl) ?_;have ab:=(s7.trans s8).trans s9;refine⟨⟨m.get 0 rfl,bq⟩,m.ld 3 rfl rfl,⟨m.get 1 rfl,bq⟩,m.ld 3 rfl rfl,⟨m.get 2 rfl,bq⟩,?_⟩;have aK:=(iv.since I).since ab;have aL:=(iN.since I).since ab;have aM:=(ip.since I).since ab;have m:=m.empty 2 rfl;simp only[fY,jq]at m;obtain⟨a,hA,eA,nA,q,sA⟩:=m.Ig 2 rfl (ic:=8) aK (by decide) (by decide) (by simp;omega);have aj:c9 3 1 8 (.slice ra 0 0) bv h9=some (.val a hA):=eA;rw[aj,cU];simp only[fY,jq,Pr]at q;refine⟨nA,cO (dB _ _ _) ⟨q.ld 3 rfl rfl,⟨q.get 0 rfl,bq⟩,q.ld 3 rfl rfl,⟨q.get 1 rfl,bq⟩,?_⟩⟩;have q:=q.empty 1 rfl;simp only[fY,jq]at q;obtain⟨K,hC,eC,nC,L,sC⟩:=q.Ig 1 rfl (ic:=8) (aL.since sA) (by decide) (by decide) (by simp;omega);have ak:c9 3 1 8 (.slice rb 0 0) bn hA=some (.val K hC):=eC;rw[ak,cU];simp only[fY,jq,Pr]at L;refine⟨nC,L.ld 3 rfl rfl,⟨L.get 0 rfl,bq⟩,?_⟩;have L:=L.empty 0 rfl;simp only[fY,jq]at L;obtain⟨vp,hD,eD,nD,HD,sD⟩:=L.Ig 0 rfl (ic:=8) ((aM.since sA).since sC) (by decide) (by decide) (by simp;omega);have aN:c9 3 1 8 (.slice rc 0 0) bp hC=some (.val vp hD):=eD;rw[aN,cU];simp only[fY,jq,Pr]at HD;have d:=HD.one 2 rfl;have al:=HD.one 1 rfl;have ay:=HD.one 0 rfl;obtain⟨hE,eE,nE,HE,sE⟩:=HD.st 3 (o:=0) (u:=a) rfl (by simp[nV]) d;have am:fk 1 (.ptr lc (0+0)) a hD=some (.val .undef hE):=eE;refine⟨nD,?_⟩;rw[am,cU];simp only[fY,jq]at HE;obtain⟨hG,eG,nG,HG,sG⟩:=HE.st 3 (o:=3) (u:=K) rfl (by simp[nV]) al;have an:fk 1 (.ptr lc (0+3)) K hE=some (.val .undef hG):=by rw[yD];exact eG
  refine⟨nE,cO (dB _ _ _) ?_⟩;rw[an,cU];simp only[fY,jq]at HG;obtain⟨hI,eI,nI,HI,sI⟩:=HG.st 3 (o:=4) (u:=vp) rfl (by simp[nV]) ay;have aO:fk 1 (.ptr lc (0+4)) vp hG=some (.val .undef hI):=by rw[yD];exact eI
  refine⟨nG,cO (dB _ _ _) ?_⟩;rw[aO,cU];simp only[fY,jq]at HI;have HI:cS Z hI (cW eN cT B.c8 vp::cW eN cT B.next K::cW eN cT B.cR a::cV lc 41 (nV B a K vp)::dk cT fn::cW qe dm bs wb::dk cT fa::cW sr dP xs wv::cV l3 29 [.I u.func,.I u.pc,wv,wb,.cQ]::_):=HI;refine⟨nI,oF (HI.ld 8 rfl rfl) (cO (HI.zt 3 rfl rfl) ?_)⟩;obtain⟨HJ,sJ,rp⟩:=HI.gh 0 rfl;simp only[fY]at HJ;obtain⟨HK,sK,rv⟩:=HJ.gh 2 rfl;simp only[fY,jq]at HK;have rp:=rp.since sK;have HK:=HK.tail.CZ.CZ;generalize (λl=>(Z l\/Loc vp l)\/Loc a l)=FK at*;rw[qv (sz:=6) (w:=nV B a K vp) rfl rfl (by simp only[nV,cY,d,al,ay];rfl),dC];obtain⟨ac,hL,eL,_,N,sL⟩:=HK.Cq 2 rfl (ic:=96) (wF:=41) (y:=(B,K)) (w:=nV B a K vp) (ro:=false) ⟨a,vp,rfl,rv,rp,al⟩ (by decide) (by decide) (by omega);have O:c9 41 6 96 wb (.slice hI.next 0 1) (hI.new (.cells 41 6 true false (nV B a K vp)))=some (.val ac hL):=eL;rw[O,cU];simp only[fY,jq]at N;obtain⟨hM,eM,_,HM,sM⟩:=N.st 5 (o:=3) (u:=ac) rfl (by simp) (N.one 2 rfl);refine cO (dB _ _ _) ?_;have P:fk 1 (.ptr l3 (0+3)) ac hL=some (.val .undef hM):=by rw[yD];exact eM
  rw[P,cU];simp only[fY,jq]at HM;have HN:=HM.IV (i:=i) (aa.out i (by omega));have aA:=((((((I.trans ab).trans sA).trans sC).trans sD).trans sE).trans sG).trans sI;refine du ⟨k-1,by omega,FK,i+1,bs++[(B,K)],up fn i (some (B.next,K)),ac,rfl,by omega,s5.trans (((aA.trans sJ).trans sK).trans (sL.trans sM)),by simp[ax],?_,HN⟩;rw[M];have:=aa.snoc B K
  rwa [ax]at this
 refine fq ?_;have ns:=g.ns;obtain rfl:i=u.blocks.length:=by omega
 rw[E5]at aa;refine oF (H5.ld 6 rfl rfl) (cO u5.s.len ?_);clear hk k
 have H5:cS Z T (dk cT (λ_:KF=>Option.none)::cW (eL Kb) jJ [] .cQ::dk cT fn::cW qe dm bs wb::dk cT fa::cW sr dP xs wv::cV l3 29 [.I u.func,.I u.pc,wv,wb,.cQ]::cV l2 29 [.I 0,.I 0,.cQ,.cQ,.cQ]::cV l1 29 (uC u vv vb vs)::cs):=
  (H5.add (p:=cW (eL Kb) jJ [] .cQ) .nil λ_ h=>h).Q3
 refine HL (λk l h'=>∃(F':Nat->Prop) (i:Nat) (ss:List (List (Fm×V×V))) (fl:KF->Option (List Nat×V)) (ws:V),l=[.ptr l2 0,.ptr l3 0,vs,.I u.cZ.length,.I i]/\i+k=u.cZ.length/\Sn Z T F' h'/\ss.length=i/\Uc (u.cZ.take i) ss fl/\
  cS F' h' (dk cT fl::cW (eL Kb) jJ ss ws::dk cT fn::cW qe dm bs wb::dk cT fa::cW sr dP xs wv::cV l3 29 [.I u.func,.I u.pc,wv,wb,ws]::cV l2 29 [.I 0,.I 0,.cQ,.cQ,.cQ]::cV l1 29 (uC u vv vb vs)::cs)) ?_ (k:=u.cZ.length)
  ⟨Z,0,[],λ_=>Option.none,.cQ,rfl,by omega,Sn.refl _ _,rfl,⟨rfl,λ_ _ _ _ _ _ h=>by simp at h,λ_ _ _ _=>rfl⟩,H5⟩
 rintro k _ _ _ _ _ h6 ⟨D,i,ss,fl,ws,⟨⟩,hk,I,aB,ae,G⟩;unfold BK;have u6:=u5.since I;by_cases hi:i<u.cZ.length
 ·refine dZ ?_;have hS:=fg hi;have M:u.cZ.take (i+1)=u.cZ.take i++[u.cZ[i]]:=LV hi;generalize u.cZ[i]=fs at*;have aV:=(g.st i fs hS).1;obtain⟨lx,ox,f,_,x1,x2,_,xf⟩:=u6.st hS;refine cO x1 (cO x2 ?_);refine fo G rfl rfl (by simp only[cY,xf.one];rfl) λC J s7=>?_;generalize h6.next=lc at*;rw[dC];obtain⟨t,s8⟩:=J.vW jJ [.cQ];have t:cS D (C.new (.cells 50 1 true false [V.cQ])) (cV C.next 50 [.cQ]::cV lc 50 [f]::_):=t;have s8:Sn D C D (C.new (.cells 50 1 true false [V.cQ])):=s8;generalize C.new (.cells 50 1 true false [V.cQ])=U at*;generalize C.next=ld at*;have xf:=(xf.since s7).since s8;refine oF (t.ld 1 rfl rfl) (cO xf.len ?_)
  have t:cS D U (dk cT fl::cW Kb CB [] .cQ::cV ld 50 [.cQ]::cW (eL Kb) jJ ss ws::dk cT fn::cW qe dm bs wb::dk cT fa::cW sr dP xs wv::cV l3 29 [.I u.func,.I u.pc,wv,wb,ws]::cV l2 29 [.I 0,.I 0,.cQ,.cQ,.cQ]::cV l1 29 (uC u vv vb vs)::cs):=
   (t.CZ.sw.add (p:=cW Kb CB [] .cQ) .nil λ_ h=>h).sw
  refine Ia (λk' l h'=>∃(j:Nat) (ys:List (Fm×V×V)) (A:KF->Option (List Nat×V)) (R:V),l=[.ptr l2 0,.ptr l3 0,.ptr ld 0,vs,.I u.cZ.length,.I i,f,.I fs.length,.I j]/\j+k' = fs.length/\Sn D U D h'/\ys.length=j/\Xm i (fs.take j) ys A/\(∀s k b,s≠i->A (s,k,b)=fl (s,k,b))/\
   cS D h' (dk cT A::cW Kb CB ys R::cV ld 50 [R]::cW (eL Kb) jJ ss ws::dk cT fn::cW qe dm bs wb::dk cT fa::cW sr dP xs wv::cV l3 29 [.I u.func,.I u.pc,wv,wb,ws]::cV l2 29 [.I 0,.I 0,.cQ,.cQ,.cQ]::cV l1 29 (uC u vv vb vs)::cs)) ?_ (k:=fs.length)
   ⟨0,[],fl,.cQ,rfl,by omega,Sn.refl _ _,rfl,⟨rfl,λ_ _ _ _ h=>by simp at h,λk b _=>ae.out i k b (by omega)⟩,λ_ _ _ _=>rfl,t⟩
  rintro k' _ _ _ _ _ _ _ _ _ h9 ⟨j,ys,A,R,⟨⟩,aW,s9,aC,S,aD,m⟩;unfold BD;have aP:=xf.since s9;by_cases hj:j<fs.length
  ·refine dZ ?_;have hF:=fg hj;have aQ:fs.take (j+1)=fs.take j++[fs[j]]:=LV hj;have aX:=(g.st i fs hS).2 fs[j] (ym hj);generalize fs[j]=x at*;obtain⟨ly,oy,xa,xb,_,y1,y2,ya,yb⟩:=aP.tI hF;refine cO y1 (cO y2 ?_);refine fo m rfl rfl (by simp only[Jo,cY,ya.one,yb.one];rfl) λX c z=>?_;generalize h9.next=le at*;have e:∀{h:Hp} {cs:List Pc},cS D h cs->cS D (h.new (.cells 3 1 true false [])) (cV h.next 3 []::cs)/\Sn D h D (h.new (.cells 3 1 true false [])):=λH=>H.vW 3 [];rw[Cz,fQ];obtain⟨Y,ao⟩:=e c;generalize X.new (.cells 3 1 true false [])=aE at*;refine oF (Y.ld 1 rfl rfl) ?_;rw[fQ];obtain⟨r,ap⟩:=e Y;generalize aE.new (.cells 3 1 true false [])=aR at*;generalize X.next=ra at*;generalize aE.next=rb at*;refine oF (r.ld 2 rfl rfl) ?_;refine⟨⟨r.get 0 rfl,bq⟩,r.ld 2 rfl rfl,⟨r.get 1 rfl,bq⟩,?_⟩;have ya:=((ya.since z).since ao).since ap;have yb:=((yb.since z).since ao).since ap;have r:=r.empty 1 rfl;simp only[fY,jq]at r;obtain⟨a,hA,eA,nA,q,sA⟩:=r.Ig 1 rfl (ic:=8) ya (by decide) (by decide) (by simp;omega);have aj:c9 3 1 8 (.slice ra 0 0) xa aR=some (.val a hA):=eA;rw[aj,cU];simp only[fY,jq,Pr]at q;refine⟨nA,cO (dB _ _ _) ⟨q.ld 2 rfl rfl,⟨q.get 0 rfl,bq⟩,?_⟩⟩;have q:=q.empty 0 rfl;simp only[fY,jq]at q;obtain⟨vc,hC,eC,nC,L,sC⟩:=q.Ig 0 rfl (ic:=8) (yb.since sA) (by decide) (by decide) (by simp;omega);have ak:c9 3 1 8 (.slice rb 0 0) xb hA=some (.val vc hC):=eC;rw[ak,cU];simp only[fY,jq,Pr]at L;have d:=L.one 1 rfl;have aq:=L.one 0 rfl;obtain⟨hE,eE,nE,HE,sE⟩:=L.st 2 (o:=2) (u:=a) rfl (by simp[Jo]) d;have am:fk 1 (.ptr le (0+2)) a hC=some (.val .undef hE):=by rw[yD];exact eE
   refine⟨nC,?_⟩;rw[am,cU];simp only[fY,jq]at HE;obtain⟨hG,eG,nG,HG,sG⟩:=HE.st 2 (o:=3) (u:=vc) rfl (by simp[Jo]) aq;have an:fk 1 (.ptr le (0+3)) vc hE=some (.val .undef hG):=by rw[yD];exact eG
   refine⟨nE,cO (dB _ _ _) ?_⟩;rw[an,cU];simp only[fY,jq]at HG;have HG:cS D hG (cW eN cT x.stack vc::cW eN cT x.locals a::cV le 47 (Jo x a vc)::dk cT A::cW Kb CB ys R::cV ld 50 [R]::_):=HG;refine⟨nG,oF (HG.ld 5 rfl rfl) (cO (HG.zt 2 rfl rfl) ?_)⟩;rw[qv (sz:=4) (w:=Jo x a vc) rfl rfl (by simp only[Jo,cY,d,aq];rfl),dC];obtain⟨ag,hL,eL,_,N,sL⟩:=HG.Cq 4 rfl (ic:=64) (wF:=47) (y:=(x,a,vc)) (w:=Jo x a vc) (ro:=false) ⟨rfl,d,aq⟩ (by decide) (by decide) (by omega);have O:c9 47 4 64 R (.slice hG.next 0 1) (hG.new (.cells 47 4 true false (Jo x a vc)))=some (.val ag hL):=eL;rw[O,cU];simp only[fY,jq]at N;obtain⟨hM,eM,_,HM,sM⟩:=N.st 5 (o:=0) (u:=ag) rfl (by simp) (N.one 4 rfl);refine cO (dB _ _ _) ?_;have P:fk 1 (.ptr ld (0+0)) ag hL=some (.val .undef hM):=eM;rw[P,cU];simp only[fY,jq]at HM;have HN:=HM.Td (i:=(i,j,false)) (j:=(i,j,true)) (S.out j false (by omega)) (S.out j true (by omega)) (by simp);refine du ⟨k'-1,by omega,j+1,ys++[(x,a,vc)],up (up A (i,j,false) (some (x.locals,a))) (i,j,true) (some (x.stack,vc)),ag,rfl,by omega,((((((s9.trans z).trans ao).trans ap).trans sA).trans sC).trans (sE.trans sG)).trans (sL.trans sM),by simp[aC],?_,?_,HN⟩
   ·rw[aQ];have:=S.snoc x a vc
    rwa [aC]at this
   ·intro s k b hs;rw[fL _ _ (by simp[hs]),fL _ _ (by simp[hs])];exact aD s k b hs
  refine fq ?_;obtain rfl:j=fs.length:=by omega
  rw[E5]at S;obtain⟨c,z,rf⟩:=m.gh 1 rfl;simp only[fY,jq]at c;generalize (λl=>D l\/Loc R l)=F7 at*;have c:=c.CZ;refine oF (c.ld 7 rfl rfl) (cO (c.zt 1 rfl rfl) ?_);rw[qv (sz:=1) (w:=[R]) rfl rfl (by simp only[cY,rf.one];rfl),dC];obtain⟨ah,hL,eL,_,N,sL⟩:=c.Cq 2 rfl (ic:=24) (wF:=50) (y:=ys) (w:=[R]) (ro:=false) ⟨R,rfl,rf⟩ (by decide) (by decide) (by omega);have O:c9 50 1 24 ws (.slice h9.next 0 1) (h9.new (.cells 50 1 true false [R]))=some (.val ah hL):=eL;rw[O,cU];simp only[fY,jq]at N;obtain⟨hM,eM,_,HM,sM⟩:=N.st 7 (o:=4) (u:=ah) rfl (by simp) (N.one 2 rfl);refine cO (dB _ _ _) ?_;have P:fk 1 (.ptr l3 (0+4)) ah hL=some (.val .undef hM):=by rw[yD];exact eM
  rw[P,cU];simp only[fY,jq]at HM;refine du ⟨k-1,by omega,F7,i+1,ss++[ys],A,ah,rfl,by omega,((((I.trans s7).trans s8).trans s9).trans z).trans (sL.trans sM),by simp[aB],?_,HM.CZ⟩;rw[M];have ai:=S;rw[<-aB]at ai;exact ae.snoc ai λs k b hs=>aD s k b (by omega)
 refine fq ?_;obtain rfl:i=u.cZ.length:=by omega
 rw[E5]at ae;refine cO (G.zt 6 rfl rfl) ?_;obtain⟨C,e7,_,J,s7⟩:=G.T7 7 (ws:=[.I u.func,.I u.pc,wv,wb,ws]) (n:=5) rfl rfl rfl (by simp only[cY,G.one 5 rfl,G.one 3 rfl,G.one 1 rfl];rfl);rw[e7,cU];simp only[fY,jq]at J;refine cO (J.zt 7 rfl rfl) ?_;exact H D C wv wb ws xs bs ss fa fn fl (((ar.trans s4).trans s5).trans (I.trans s7)) hc aa ae J.XO
end
open Un Dm
section
variable{F F':Nat->Prop}{h h':Hp}{cs ds:List Pc}{Q:dg}{u:U}{vv vb vs:V}
def E8(cs:List Pc)(l:Nat):Prop:=∃(i:Nat)(c:Pc),cs[i]? =some c/\c.ki l
theorem cS.W2(H:cS F h cs):cS (λl=>F l\/E8 cs l) h []:=
 cS.nil λl a=>a.elim (H.fl l) λ⟨i,c,hc,b⟩=>(c.IS (H.ok i c hc) l b).1
theorem cS.back(H:cS F h cs){G:Nat->Prop}(s:Sn (λl=>F l\/E8 cs l) h G h'):cS F h' cs where
 fl l a:=EP (H.fl l a) s.next
 ok i c hc:=c.dO (H.ok i c hc) (λl a=>s.dO l (.inl a)) (λl a=>s.dO l (.inr ⟨i,c,hc,a⟩)) s.next
 zQ:=H.zQ
theorem Sn.back{G:Nat->Prop}(s:Sn (λl=>F l\/E8 cs l) h G h'):Sn F h F h':=⟨s.next,λl a=>s.dO l (.inl a),λ_ h=>h⟩
theorem cS.Ui(H:cS F h cs){ty:Nat}{xs:List Nat}{v:V}(s:Sn (λl=>F l\/E8 cs l) h (λl=>F l\/E8 cs l) h') (k:cS (λl=>F l\/E8 cs l) h' [cW eN ty xs v]):cS F h' (cW eN ty xs v::cs):=by
 have j:iY eN ty (λl=>F l\/E8 cs l) h' xs v:=k.ok 0 _ rfl;refine(H.back s).cons ?_ λi c hc l m d=>(j.JE m).2.2 (.inr ⟨i,c,hc,d⟩);rcases j with⟨f,g⟩|⟨t,ws,f,g,w,n,y,o⟩
 ·exact .inl ⟨f,g⟩
 ·exact .inr ⟨t,ws,f,g,by simp_all,n,by
   have p:∀(ws:List V) (xs:List Nat),m7 eN (λl=>F l\/E8 cs l) h' ws xs->m7 eN F h' ws xs:=λws xs=>by
    induction xs generalizing ws with
    |nil=>exact id
    |cons x xs q=>rintro⟨a,b,e,r,u⟩;exact⟨a,b,e,r,q b u⟩
   simp_all,o⟩
theorem JL{α β:Type}{E:oY α} {E':oY β}:∀(ws:List V)(xs:List α)(ys:List β),ys.length=xs.length->(∀(k:Nat) x y cs,xs[k]? =some x->ys[k]? =some y->E.rel F h x cs->E'.rel F' h y cs)->m7 E F h ws xs->m7 E' F' h ws ys
 |_,[],[],_,_,h=>h
 |ws,x::xs,y::ys,hl,hr,⟨a,b,e,r,hw⟩=>⟨a,b,e,hr 0 x y a rfl rfl r,JL b xs ys (by simp_all) (λk x y cs c d=>hr (k+1) x y cs (by simp_all) (by simp_all)) hw⟩
theorem cS.PA{α β:Type}{E:oY α} {E':oY β}(H:cS F h cs)(i:Nat){ty:Nat}{xs:List α}{ys:List β}{v:V}(hi:cs[i]? =some (cW E ty xs v))(d:E'.sz=E.sz)(a:ys.length=xs.length)(e:∀(k:Nat) x y cs,xs[k]? =some x->ys[k]? =some y->E.rel F h x cs->E'.rel F h y cs):cS F h (cs.set i (cW E' ty ys v)):=by
 refine H.swap hi ?_ λ_ h=>h;rcases H.row i hi with⟨b,c⟩|⟨t,ws,b,c,f,g,j,l⟩
 ·subst c;exact .inl ⟨b,V3 a⟩
 ·exact .inr ⟨t,ws,by rw[a];exact b,c,f,by rw[d];exact g,JL ws xs ys a e j,l⟩
theorem fJ.PA{α β:Type}{E:oY α} {E':oY β}{xs:List α}{ys:List β}{v:V}(hs:fJ E F h xs v)(f:E'.sz=E.sz)(c:∀l,F l->F' l)(d:ys.length=xs.length)(g:∀(k:Nat) x y cs,xs[k]? =some x->ys[k]? =some y->E.rel F h x cs->E'.rel F' h y cs):fJ E' F' h ys v:=by
 rcases hs with⟨b,a⟩|⟨l,o,ty,live,ro,ws,b,a,i,j,e,m⟩
 ·subst a;exact .inl ⟨b,V3 d⟩
 ·exact .inr ⟨l,o,ty,live,ro,ws,by simp_all,c l a,by simp_all,by grind,e,by grind[JL]⟩
theorem Ve{xs:List Nat}{v:V}(hs:fJ eN F h xs v)(g:xs.length<1000000)(x:Nat)(H:Q (.bool (xs.contains x)) h) :
  cP CS gZ [v,.I x] h Q:=by
 refine vE rfl rfl ?_;unfold ni;refine yT rfl rfl ?_;unfold qq;refine cO hs.len ?_;refine vC (λk l h'=>∃i:Nat,l=[v,.I x,.I xs.length,.I (i:Nat)]/\h' = h/\i+k=xs.length/\∀j y,j<i->xs[j]? =some y->y≠x) ?_ (k:=xs.length) (by grind);rintro k _ _ _ _ h' ⟨i,⟨⟩,rfl,hk,a⟩;unfold mB;by_cases hi:i<xs.length
 ·refine dZ ?_;have b:=fg hi;generalize xs[i]=y at*;obtain⟨l,o,_,c,d⟩:=hs.nat b .i64;refine cO c (cO d (eh ?_));by_cases e:x=y
  ·refine ei (by rw[e]) (cO (oD ..) ?_);rw[Ka (by omega)]
   grind
  ·refine dM (by omega) (du ⟨k-1,by omega,i+1,rfl,rfl,by omega,λj z f m=>?_⟩)
   grind
 ·refine fq (cO (oD ..) ?_);rw[QV (by omega)];have:xs.contains x=false:=by
   rw[Vu];intro h;obtain⟨j,f⟩:=kh.1 (Wg.1 h);exact by grind
  simp_all
def iM(az:List Int):Nat->Int:=λv=>az.getD v (-1)
theorem Nf{az:List Int}{v:Nat}{a:Int}(h:az[v]? =some a):iM az v=a:=by
 grind[iM]
theorem TG{lt:Nat}{gS:V}{az:List Int}{G:Nat->Prop}(d:df (.ptr lt 5) h=some gS)(hs:fJ eZ G h az gS)(L:az.length<=3000)(f:∀(v:Nat)(a:Int),az[v]? =some a->a<az.length){v:Nat}(M:v<az.length)
  (H:px (iM az) (az.length+1) v<az.length->Q (.I (px (iM az) (az.length+1) v:Nat)) h):cP CS fI [.ptr lt 0,.I v] h Q:=by
 refine B8 rfl rfl ?_;unfold vh;refine zA (λk l h'=>∃n w:Nat,l=[.ptr lt 0,.I (w:Nat),.I (n:Nat)]/\h' = h/\n+k=az.length+1/\w<az.length/\px (iM az) k w=px (iM az) (az.length+1) v) ?_ (k:=az.length+1) (by grind);rintro k _ _ _ h' ⟨n,w,⟨⟩,rfl,hk,D,E⟩;unfold rM;have g:=fg D;have J:=Nf g;have K:=f w _ g;generalize az[w]=a at*;obtain⟨l,o,_,F,I⟩:=hs.int g .i64;have d:df (.ptr lt (0+5)) h' = some gS:=d;refine cO (dq _ _) (cO (by rfl) (cO d (cO F (cO I (cO (oD ..) ?_)))));rw[show il (V.bool (decide (0<=a))) (oB (some (V.ptr lt 0)) λi=>oB (fe i) λj=>oB (dE 5 j) λp=>oB (df p h') λq=>oB (some (V.I w)) λr=>oB (eX 1 q r) λs=>oB (df s h') λt=>oB (some (V.I w)) λu=>cX .neq 3 t u)=some (.bool (decide (0<=a)&&(a != (w:Int)))) from by
  simp_all]
 rw [kO];rw[show il (V.bool (decide (0<=a)&&(a != (w:Int)))) (oB (some (V.I n)) λx=>oB (some (V.ptr lt 0)) λy=>oB (fe y) λz=>oB (dE 5 z) λA=>oB (df A h') λB=>oB (dD B) λC=>cX .leq 3 x C)=some (.bool ((decide (0<=a)&&(a != (w:Int)))&&decide ((n:Int)<=az.length))) from by
  simp only[c0,dq,dB,d,hs.len,Gm,fW]]
 rw[kO]
 cases k with
 | zero=>
   refine fK (dM (by grind) ?_)
   grind[px,iM]
 | succ k=>
   rw[Ka (show(n:Int)<=az.length by omega),Bool.and_true];have e:px (iM az) (k+1) w=if 0<=iM az w/\iM az w≠(w:Int) then px (iM az) k (iM az w).toNat else w:=rfl
   rw[J]at e;by_cases c:0<=a/\a≠(w:Int)
   ·refine fK (ei (by simp_all) ?_)
    refine cO (dq _ _) (cO (by rfl) (cO d (cO F (cO I (sc (m:=1) (by omega) (by omega) ?_)))));rw[if_pos c]at e;obtain⟨b,rfl⟩:=Int.eq_ofNat_of_zero_le c.1;exact⟨k,by omega,n+1,b,rfl,rfl,by omega,by omega,by simp_all⟩
   ·refine fK (dM (λh=>c ?_) ?_)
    ·rw[rm,zv,bne_iff_ne]at h
     exact h
    ·rw[if_neg c]at e
     rw[e]at E;rw[<-E]at H;exact H D
theorem NP(m:dU (uC u vv vb vs)=true)(n:dD vv=some (.I u.cR.length))(C:u.cR.length<=3000)(p:cS F h cs)(H:∀h' v,Sn F h F h'->cS F h' (cW eZ cT ((List.range u.cR.length).map λ(i:Nat)=>(i:Int)) v::cs)->Q v h') :
  cP CS vj [.agg (uC u vv vb vs)] h Q:=by
 refine L1 rfl rfl ?_;unfold FX;refine kX p m λb c q=>?_;refine cO (by rfl) (cO (c.ld 0 rfl rfl) (cO n ?_));rw[hV (z:=V.I 0) rfl (by decide) (by omega),dC];obtain⟨r,s⟩:=c.make (E:=eZ) (ty:=cT) (y:=0) (u:=V.I 0) u.cR.length rfl rfl;generalize b.new (.cells cT 1 true false (List.replicate u.cR.length (V.I 0)))=D at*;generalize b.next=lr at*;refine cO (by rfl) ?_;refine HY (λk l h'=>∃(i:Nat) (ys:List Int),l=[.slice lr 0 u.cR.length,.I u.cR.length,.I i]/\i+k=u.cR.length/\ys.length=u.cR.length/\(∀j:Nat,j<i->ys[j]? =some (j:Int))/\Sn F h F h'/\cS F h' (cW eZ cT ys (.slice lr 0 u.cR.length)::cV h.next 29 (uC u vv vb vs)::cs)) ?_ (k:=u.cR.length) ⟨0,_,rfl,by omega,PU,by omega,q.trans s,r⟩;rintro k _ _ _ t ⟨i,ys,⟨⟩,hk,w,G,d,f⟩;unfold BJ;by_cases hi:i<u.cR.length
 ·refine dZ ?_;obtain⟨l,o,I,x,A,_,g,B⟩:=f.D7 0 rfl (k:=i) (y:=(i:Int)) (u:=V.I i) (by omega) rfl rfl rfl;refine cO x ?_;rw[A,cU];simp only[fY]at g;refine du ⟨k-1,by omega,i+1,ys.set i (i:Int),rfl,by omega,by simp[w],λj a=>?_,d.trans B,g⟩
  grind
 ·refine fq ?_;have e:ys=(List.range u.cR.length).map λ(i:Nat)=>(i:Int):=by
   refine Uj λj=>?_;by_cases a:j<u.cR.length
   ·grind
   ·simp_all
  rw[<-e]at H;exact H t _ d f.CZ
end
