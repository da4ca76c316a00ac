/- Parts. -/
import Derived.Test.YtpfjdlicdljhaaaDoorM27
import Derived.Test.YtpfjdlicdljhaaaDoorM34
import Derived.Test.YtpfjdlicdljhaaaDoorM33
set_option maxHeartbeats 4000000
namespace Go.Proofs.YtpfjdlicdljhaaaDoor.Hx
open Un Dm
theorem Xs:P0.underlying en=some (.int .i64):=by kernel_rfl
theorem Rh(a b:Int):IJ en (.I a) (.I b)=some (a == b):=by
 unfold IJ;rw[Xs];rfl
section
variable{u:U}
theorem Ht{w:Nat}(h:mz u w):w<u.ef.length:=by
 obtain⟨x,a,_⟩:=h
 grind
theorem TC{P:Nat->Prop}(g:Gd u P){s:Nat}{fs:List Fm}(a:u.eh[s]? =some fs):∀w∈gY fs,w<u.ef.length:=by
 intro w b;unfold gY at b;obtain⟨f,c,d⟩:=W9.1 b;obtain⟨_,_,e⟩:=g.st s fs a;obtain⟨_,_,i,j⟩:=e f c;rcases FM.1 d with h|h
 ·simp_all[Ht]
 simp_all[Ht]
theorem MB(g:Good u){i:Nat}{x:Vl}(d:u.ef[i]? =some x):x.op=21\/x.op=20->x.args.length<=700:=by
 have nb:=g.nb;obtain⟨b,k,a⟩:=g.CE i (by grind) trivial;obtain⟨B,e,hk⟩:=id a;rintro(c|c)
 ·rw[(g.By _ _ _ _ _ a d c e).2,g.ez b B e,<-ny];have:=nw g (i:=u.blocks.length) (j:=0) (b:=b) (iZ _) (by omega);omega
 ·rw[g.putAt i x d c];omega
theorem Ek{P:Nat->Prop}(g:Gd u P)(s:Nat)(fs:List Fm)(a:u.eh[s]? =some fs):fs.length<=30/\∀f∈fs,f.locals.length<=40/\f.stack.length<=60:=by
 obtain⟨_,b,c⟩:=g.st s fs a
 simp_all
theorem Bl(g:Good u){b:Nat}{B:Bk}(a:u.blocks[b]? =some B):B.ef.length<=3000:=by
 have nv:=g.nv;have:=jD u.ef.length B.ef (Gc g a) λv c=>by
  obtain⟨k,hk⟩:=mm.1 c;exact g.jA v b k ⟨B,a,hk⟩
 omega
theorem Gt(g:Good u){b:Nat}{B:Bk}(a:u.blocks[b]? =some B):B.ez.length<=700:=by
 have nb:=g.nb;rw[g.ez b B a,<-ny];have:=nw g (i:=u.blocks.length) (j:=0) (b:=b) (iZ _) (by omega);omega
theorem AR(g:Good u){b:Nat}{B:Bk}(a:u.blocks[b]? =some B):B.next.length<=2:=by
 rcases g.fin b B a with⟨_,h⟩|⟨_,h,_⟩|⟨_,h,_⟩
 ·omega
 ·omega
 simp_all
end
open Un Dm
def wk:pG (Vl×V) where
 sz:=6
 rel _ _ x cs:=cs=lT x.1 x.2/\x.2.one=true
 len h:=by rw[h.1];rfl
 one h:=by rw[h.1];simp only[lT,ev,h.2];rfl
 eR _ h:=h
 mono _ h:=h
def tM:pG (Bk×V) where
 sz:=6
 rel F h x cs:=∃v p,cs=lB x.1 v x.2 p/\iA eN F h x.1.ef v/\iA eN F h x.1.ez p/\x.2.one=true
 len:=λ⟨_,_,h,_⟩=>by subst h;rfl
 one:=λ⟨_,_,h,a,b,c⟩=>by subst h;simp only[lB,ev,a.one,b.one,c];rfl
 eR:=λhk ⟨v,p,h,a,b,c⟩=>⟨v,p,h,a.eR hk,b.eR hk,c⟩
 mono:=λd ⟨v,p,h,a,b,c⟩=>⟨v,p,h,a.mono d,b.mono d,c⟩
def Oi:pG (Fm×V×V) where
 sz:=4
 rel _ _ x cs:=cs=Ol x.1 x.2.1 x.2.2/\x.2.1.one=true/\x.2.2.one=true
 len h:=by rw[h.1];rfl
 one h:=by rw[h.1];simp only[Ol,ev,h.2.1,h.2.2];rfl
 eR _ h:=h
 mono _ h:=h
section
variable{F F':Nat->Prop}{h h':Hp}{cs:List Pc}{Q:fo}{u:U}{vv vb vs:V}
theorem ei.empty(H:ei F h cs)(i:Nat){l:Nat}(hi:cs[i]? =some (er l en [])):ei F h (cs.set i (eJ eN en [] (.slice l 0 0))):=by
 have a:=H.ok i _ hi;exact H.swap hi (.inr ⟨l,[],rfl,a.2.1,a.2.2,a.1,trivial,rfl⟩) λm e=>e.symm
structure WJ (vs:List Vl) (xs:List (Vl×V)) (fa:Nat->Option (List Nat×V)):Prop where
 fst:xs.map Prod.fst=vs
 row:∀i x w,xs[i]? =some (x,w)->fa i=some (x.args,w)
 out:∀i,xs.length<=i->fa i=none
structure UP (bs:List Bk) (xs:List (Bk×V)) (fn:Nat->Option (List Nat×V)):Prop where
 fst:xs.map Prod.fst=bs
 row:∀i x w,xs[i]? =some (x,w)->fn i=some (x.next,w)
 out:∀i,xs.length<=i->fn i=none
abbrev KF:=Nat×Nat×Bool
structure CpF (s:Nat) (fs:List Fm) (xs:List (Fm×V×V)) (fl:KF->Option (List Nat×V)):Prop where
 fst:xs.map Prod.fst=fs
 loc:∀k x l w,xs[k]? =some (x,l,w)->fl (s,k,false)=some (x.locals,l)/\fl (s,k,true)=some (x.stack,w)
 out:∀k b,xs.length<=k->fl (s,k,b)=none
structure Y9 (ss:List (List Fm)) (xs:List (List (Fm×V×V))) (fl:KF->Option (List Nat×V)):Prop where
 fst:xs.map (λl=>l.map Prod.fst)=ss
 loc:∀s l k x a w,xs[s]? =some l->l[k]? =some (x,a,w)->fl (s,k,false)=some (x.locals,a)/\fl (s,k,true)=some (x.stack,w)
 out:∀s k b,xs.length<=s->fl (s,k,b)=none
theorem WJ.snoc{vs:List Vl}{xs:List (Vl×V)}{fa:Nat->Option (List Nat×V)}(c:WJ vs xs fa)(x:Vl)(w:V):WJ (vs++[x]) (xs++[(x,w)]) (up fa xs.length (some (x.args,w))):=by
 refine⟨by rw[Qi,c.fst];rfl,λi y v hi=>?_,λi hi=>?_⟩
 ·by_cases e:i<xs.length
  ·rw[TA e]at hi;rw[iT _ _ (by omega)];exact c.row i y v hi
  ·rw[WK (by omega)]at hi;have a:i-xs.length=0:=by have:=(jq.1 hi).1;simp at this;omega
   rw[a]at hi;cases hi;obtain rfl:i=xs.length:=by omega
   exact ko _ _ _
 ·rw[I9]at hi;rw[iT _ _ (by simp at hi;omega)];exact c.out i (by simp at hi;omega)
theorem UP.snoc{bs:List Bk}{xs:List (Bk×V)}{fn:Nat->Option (List Nat×V)}(c:UP bs xs fn)(x:Bk)(w:V):UP (bs++[x]) (xs++[(x,w)]) (up fn xs.length (some (x.next,w))):=by
 refine⟨by rw[Qi,c.fst];rfl,λi y v hi=>?_,λi hi=>?_⟩
 ·by_cases e:i<xs.length
  ·rw[TA e]at hi;rw[iT _ _ (by omega)];exact c.row i y v hi
  ·rw[WK (by omega)]at hi;have a:i-xs.length=0:=by have:=(jq.1 hi).1;simp at this;omega
   rw[a]at hi;cases hi;obtain rfl:i=xs.length:=by omega
   exact ko _ _ _
 ·rw[I9]at hi;rw[iT _ _ (by simp at hi;omega)];exact c.out i (by simp at hi;omega)
theorem ei.re(H:ei F h cs){ds:List Pc}(m:Nat->Nat)(a:∀i c,ds[i]? =some c->cs[m i]? =some c)(b:∀i j,i<ds.length->j<ds.length->m i=m j->i=j):ei F h ds where
 fl:=H.fl
 ok i c hc:=H.ok (m i) c (a i c hc)
 BS i j c d hc hd hn:=H.BS (m i) (m j) c d (a i c hc) (a j d hd) λe=>hn (b i j (jq.1 hc).1 (jq.1 hd).1 e)
theorem ei.zbC{a b c d:Pc}(H:ei F h (a::b::c::d::cs)):ei F h (b::d::a::cs):=
 H.re (λi=>match i with|0=>1|1=>3|2=>0|n+3=>n+4) (λi c hc=>match i,hc with|0,hc=>hc|1,hc=>hc|2,hc=>hc|n+3,hc=>hc) λi j _ _ e=>by
  match i,j with
  |0,0|1,1|2,2=>rfl
  |0,1|0,2|1,0|1,2|2,0|2,1=>simp at e
  |0,n+3|1,n+3|2,n+3|n+3,0|n+3,1|n+3,2=>simp at e;try omega
  |n+3,k+3=>simp at e;omega
theorem ei.YE{ι:Type} [DecidableEq ι] {ty:Nat}{f:ι->Option (List Nat×V)}{xs ys:List Nat}{v w:V}{c:Pc}(H:ei F h (eJ eN ty xs v::eJ eN ty ys w::c::fG ty f::cs)){i j:ι}(hi:f i=Option.none)(a:f j=Option.none)(b:j≠i) :
  ei F h (fG ty (up (up f i (some (ys,w))) j (some (xs,v)))::cs):=
 (H.zbC.Ng hi).sw.Ng (by rw[iT _ _ b];exact a)
theorem ei.zbE{a b c d e f x y z:Pc}(H:ei F h (a::b::c::d::e::f::x::y::z::cs)):ei F h (f::d::b::e::c::a::cs):=
 H.re (λi=>match i with|0=>5|1=>3|2=>1|3=>4|4=>2|5=>0|n+6=>n+9) (λi c hc=>match i,hc with|0,hc=>hc|1,hc=>hc|2,hc=>hc|3,hc=>hc|4,hc=>hc|5,hc=>hc|n+6,hc=>hc) λi j _ _ e=>by
   have g:∀i:Nat,(match i with|0=>5|1=>3|2=>1|3=>4|4=>2|5=>0|n+6=>n+9:Nat)=(if i<6 then[5,3,1,4,2,0].getD i 0 else i+3):=λi=>by
     match i with
     |0|1|2|3|4|5=>rfl
     |n+6=>rw[if_neg (by omega)]
   simp only[g]at e;by_cases hi:i<6
   ·by_cases hj:j<6
    ·rw[if_pos hi,if_pos hj]at e
     exact(by decide:∀i,i<6->∀j,j<6->[5,3,1,4,2,0].getD i 0=[5,3,1,4,2,0].getD j 0->i=j) i hi j hj e
    ·rw[if_pos hi,if_neg hj]at e
     have:[5,3,1,4,2,0].getD i 0<6:=(by decide:∀i,i<6->[5,3,1,4,2,0].getD i 0<6) i hi;omega
   ·by_cases hj:j<6
    ·rw[if_neg hi,if_pos hj]at e
     have:[5,3,1,4,2,0].getD j 0<6:=(by decide:∀i,i<6->[5,3,1,4,2,0].getD i 0<6) j hj;omega
    ·rw[if_neg hi,if_neg hj]at e
     omega
theorem CpF.snoc{s:Nat}{fs:List Fm}{xs:List (Fm×V×V)}{fl:KF->Option (List Nat×V)}(c:CpF s fs xs fl)(x:Fm)(l w:V):CpF s (fs++[x]) (xs++[(x,l,w)]) (up (up fl (s,xs.length,false) (some (x.locals,l))) (s,xs.length,true) (some (x.stack,w))):=by
 refine⟨by rw[Qi,c.fst];rfl,λi y a b hi=>?_,λi b hi=>?_⟩
 ·by_cases e:i<xs.length
  ·rw[TA e]at hi;have f:=c.loc i y a b hi;rw[iT _ _ (by simp),iT _ _ (by simp;omega),iT _ _ (by simp;omega),iT _ _ (by simp)];exact f
  ·rw[WK (by omega)]at hi;have d:i-xs.length=0:=by have:=(jq.1 hi).1;simp at this;omega
   rw[d]at hi;cases hi;obtain rfl:i=xs.length:=by omega
   exact⟨by rw[iT _ _ (by simp),ko],ko _ _ _⟩
 ·rw[I9]at hi;simp at hi;rw[iT _ _ (by simp;omega),iT _ _ (by simp;omega)];exact c.out i b (by omega)
theorem Y9.snoc{ss:List (List Fm)}{xs:List (List (Fm×V×V))} {fl d:KF->Option (List Nat×V)}(c:Y9 ss xs fl){fs:List Fm}{ys:List (Fm×V×V)} (c':CpF xs.length fs ys d)(f:∀s k b,s≠xs.length->d (s,k,b)=fl (s,k,b)):Y9 (ss++[fs]) (xs++[ys]) d:=by
 refine⟨by rw[Qi,c.fst,<-c'.fst];rfl,λi l k y a b hi hk=>?_,λi k b hi=>?_⟩
 ·by_cases e:i<xs.length
  ·rw[TA e]at hi;rw[f _ _ _ (by omega),f _ _ _ (by omega)];exact c.loc i l k y a b hi hk
  ·rw[WK (by omega)]at hi;have g:i-xs.length=0:=by have:=(jq.1 hi).1;simp at this;omega
   rw[g]at hi;cases hi;obtain rfl:i=xs.length:=by omega
   exact c'.loc k y a b hk
 ·rw[I9]at hi;simp at hi;rw[f _ _ _ (by omega)];exact c.out i k b (by omega)
def yP(u:U):Prop:=∀(v:Nat)(x:Vl),u.ef[v]? =some x->x.args.length<=700
structure PM (u:U):Prop where
 nv:u.ef.length<=3000
 nb:u.blocks.length<=300
 ns:u.eh.length<=1000
 args:yP u
 mh:∀(b:Nat) (B:Bk),u.blocks[b]? =some B->B.ef.length<=3000/\B.ez.length<=700/\B.next.length<=2
 st:∀(s:Nat) (fs:List Fm),u.eh[s]? =some fs->fs.length<=30/\∀f∈fs,f.locals.length<=40/\f.stack.length<=60
theorem Lj(g:Good u)(b:yP u):PM u:=⟨g.nv,g.nb,g.ns,b,λ_ _ a=>⟨Bl g a,Gt g a,AR g a⟩,Ek g⟩
theorem Sk(g:PM u)(H0:ei F h cs)(hu:CL F h u vv vb vs)
  (H:∀F' h' wv wb ws (xs:List (Vl×V)) (bs:List (Bk×V)) (ss:List (List (Fm×V×V))) fa fn fl,Sn F h F' h'->WJ u.ef xs fa->UP u.blocks bs fn->Y9 u.eh ss fl->
   ei F' h' (eJ wk gi xs wv::eJ tM fu bs wb::eJ (eL Oi) kS ss ws::fG en fa::fG en fn::fG en fl::cs)->Q (.agg (uC u wv wb ws)) h') :
  cP CS vV [.agg (uC u vv vb vs)] h Q:=by
 refine RJ rfl rfl ?_;unfold Ki;have nv:=g.nv;refine nQ H0 hu.one λh1 H1 s1=>?_;rw[fw];obtain⟨H2,s2⟩:=H1.zt gS [.I 0,.I 0,.ee,.ee,.ee];have H2:ei F (h1.new (.cells 29 1 true false [V.I 0,.I 0,.ee,.ee,.ee])) (er h1.next 29 [V.I 0,.I 0,.ee,.ee,.ee]::er h.next 29 (uC u vv vb vs)::cs):=H2;have s2:Sn F h1 F (h1.new (.cells 29 1 true false [V.I 0,.I 0,.ee,.ee,.ee])):=s2;generalize h1.new (.cells 29 1 true false [V.I 0,.I 0,.ee,.ee,.ee])=h2 at*;generalize h.next=l1 at*;generalize h1.next=l2 at*;refine oF (H2.ld 1 rfl rfl) (oF (H2.ld 1 rfl rfl) (ed (show _=some (V.agg [.I u.func,.I u.pc,.ee,.ee,.ee]) from rfl) ?_));refine iH H2 rfl rfl rfl λh3 H3 s3=>?_;generalize h2.next=l3 at*;have ar:=(s1.trans s2).trans s3;have u3:=hu.since ar;refine oF (H3.ld 2 rfl rfl) (ed u3.v.len ?_)
 have H3:ei F h3 (fG en (λ_:Nat=>Option.none)::eJ wk gi [] .ee::er l3 29 [.I u.func,.I u.pc,.ee,.ee,.ee]::er l2 29 [.I 0,.I 0,.ee,.ee,.ee]::er l1 29 (uC u vv vb vs)::cs):=
  (H3.add (p:=eJ wk gi [] .ee) .nil λ_ h=>h).WY
 refine LX (λk l h'=>∃(i:Nat) (xs:List (Vl×V)) (fa:Nat->Option (List Nat×V)) (wv:V),l=[.ptr l1 0,.ptr l2 0,.ptr l3 0,vv,.I u.ef.length,.I i]/\i+k=u.ef.length/\Sn F h3 F h'/\xs.length=i/\WJ (u.ef.take i) xs fa/\
  ei F h' (fG en fa::eJ wk gi xs wv::er l3 29 [.I u.func,.I u.pc,wv,.ee,.ee]::er l2 29 [.I 0,.I 0,.ee,.ee,.ee]::er l1 29 (uC u vv vb vs)::cs)) ?_ (k:=u.ef.length)
  ⟨0,[],λ_=>Option.none,.ee,rfl,by omega,Sn.refl _ _,rfl,⟨rfl,λ_ _ _ h=>by simp at h,λ_ _=>rfl⟩,H3⟩
 rintro k _ _ _ _ _ _ h4 ⟨i,xs,fa,wv,⟨⟩,hk,s4,au,hc,H4⟩;unfold Fk;have u4:=u3.since s4;by_cases hi:i<u.ef.length
 ·refine gv ?_;have hx:=ig hi;have M:u.ef.take (i+1)=u.ef.take i++[u.ef[i]]:=Qh hi;generalize u.ef[i]=x at*;obtain⟨lx,ox,w,_,x1,x2,xw,_⟩:=u4.val hx;refine ed x1 (ed x2 ?_);refine iH H4 rfl rfl (by simp only[lT,ev,xw.one];rfl) λT H5 s5=>?_;generalize h4.next=lc at*;rw[GN,fw];obtain⟨G,I⟩:=H5.XE (E:=eN) (xs:=[]) (ws:=[]) (n:=0) en rfl trivial rfl;have G:ei F (T.new (.cells 3 1 true false [])) (eJ eN en [] (.slice T.next 0 0)::er lc 38 (lT x w)::_):=G;have I:Sn F T F (T.new (.cells 3 1 true false [])):=I;generalize T.new (.cells 3 1 true false [])=h6 at*;refine oF (G.ld 1 rfl rfl) ?_;have aF:=g.args i x hx;obtain⟨a,C,e7,_,J,s7⟩:=G.L5 0 rfl (kE:=8) ((xw.since s5).since I) (by decide) (by decide) (by simp;omega);have aG:eQ 3 1 8 (.slice T.next 0 0) w h6=some (.val a C):=e7;rw[aG,ej];simp only[jx,Qk]at J;have d:=J.one 0 rfl;obtain⟨U,e8,_,t,s8⟩:=J.st 1 (o:=4) (u:=a) rfl (by simp[lT]) d;refine ed (fJ _ _ _) ?_;have aH:gG 1 (.ptr lc (0+4)) a C=some (.val .undef U):=by rw[wX];exact e8
  rw[aH,ej];simp only[jx,mZ]at t;have t:ei F U (eJ eN en x.args a::er lc 38 (lT x a)::fG en fa::eJ wk gi xs wv::er l3 29 [.I u.func,.I u.pc,wv,.ee,.ee]::_):=t;refine oF (t.ld 4 rfl rfl) (ed (t.C9 1 rfl rfl) ?_);rw[se (sz:=6) (w:=lT x a) rfl rfl (by simp only[lT,ev,d];rfl),fw];obtain⟨W,h9,e9,_,m,s9⟩:=t.yI 3 rfl (kE:=64) (EI:=38) (y:=(x,a)) (w:=lT x a) (ro:=false) ⟨rfl,d⟩ (by decide) (by decide) (by omega);have aI:eQ 38 6 64 wv (.slice U.next 0 1) (U.new (.cells 38 6 true false (lT x a)))=some (.val W h9):=e9;rw[aI,ej];simp only[jx,mZ]at m;obtain⟨X,aJ,_,c,z⟩:=m.st 4 (o:=2) (u:=W) rfl (by simp) (m.one 3 rfl);refine ed (fJ _ _ _) ?_;have aw:gG 1 (.ptr l3 (0+2)) W h9=some (.val .undef X):=by rw[wX];exact aJ
  rw[aw,ej];simp only[jx,mZ]at c;have Y:=c.GP.Ng (i:=i) (hc.out i (by omega));refine fM ⟨k-1,by omega,i+1,xs++[(x,a)],up fa i (some (x.args,a)),W,rfl,by omega,((((s4.trans s5).trans I).trans s7).trans s8).trans (s9.trans z),by simp[au],?_,Y⟩;rw[M];have:=hc.snoc x a
  rwa [au]at this
 refine ir ?_;obtain rfl:i=u.ef.length:=by omega
 rw[Js]at hc;have nb:=g.nb;refine oF (H4.ld 4 rfl rfl) (ed u4.b.len ?_);clear hk k
 have H4:ei F h4 (fG en (λ_:Nat=>Option.none)::eJ tM fu [] .ee::fG en fa::eJ wk gi xs wv::er l3 29 [.I u.func,.I u.pc,wv,.ee,.ee]::er l2 29 [.I 0,.I 0,.ee,.ee,.ee]::er l1 29 (uC u vv vb vs)::cs):=
  (H4.add (p:=eJ tM fu [] .ee) .nil λ_ h=>h).WY
 refine Mb (λk l h'=>∃(F':Nat->Prop) (i:Nat) (bs:List (Bk×V)) (fn:Nat->Option (List Nat×V)) (wb:V),l=[.ptr l1 0,.ptr l2 0,.ptr l3 0,vb,.I u.blocks.length,.I i]/\i+k=u.blocks.length/\Sn F h4 F' h'/\bs.length=i/\UP (u.blocks.take i) bs fn/\
  ei F' h' (fG en fn::eJ tM fu bs wb::fG en fa::eJ wk gi xs wv::er l3 29 [.I u.func,.I u.pc,wv,wb,.ee]::er l2 29 [.I 0,.I 0,.ee,.ee,.ee]::er l1 29 (uC u vv vb vs)::cs)) ?_ (k:=u.blocks.length)
  ⟨F,0,[],λ_=>Option.none,.ee,rfl,by omega,Sn.refl _ _,rfl,⟨rfl,λ_ _ _ h=>by simp at h,λ_ _=>rfl⟩,H4⟩
 rintro k _ _ _ _ _ _ T ⟨Z,i,bs,fn,wb,⟨⟩,hk,s5,ax,aa,H5⟩;unfold Ff;have u5:=u4.since s5;by_cases hi:i<u.blocks.length
 ·refine gv ?_;have hB:=ig hi;have M:u.blocks.take (i+1)=u.blocks.take i++[u.blocks[i]]:=Qh hi;generalize u.blocks[i]=B at*;have aS:=(g.mh i B hB).1;have aT:=(g.mh i B hB).2.1;have aU:=(g.mh i B hB).2.2;obtain⟨lx,ox,bv,bn,bp,_,x1,x2,iv,iN,ip,_⟩:=u5.mh hB;refine ed x1 (ed x2 ?_);refine iH H5 rfl rfl (by simp only[lB,ev,iv.one,iN.one,ip.one];rfl) λh6 G I=>?_;generalize T.next=lc at*;have e:∀{h:Hp} {cs:List Pc},ei Z h cs->ei Z (h.new (.cells 3 1 true false [])) (er h.next 3 []::cs)/\Sn Z h Z (h.new (.cells 3 1 true false [])):=λH=>H.zt 3 [];rw[GN,ic];obtain⟨J,s7⟩:=e G;generalize h6.new (.cells 3 1 true false [])=C at*;refine oF (J.ld 1 rfl rfl) ?_;rw[ic];obtain⟨t,s8⟩:=e J;generalize C.new (.cells 3 1 true false [])=U at*;refine oF (t.ld 2 rfl rfl) ?_;rw[ic];obtain⟨m,s9⟩:=e t;generalize U.new (.cells 3 1 true false [])=h9 at*;generalize h6.next=ra at*;generalize C.next=rb at*;generalize U.next=rc at*;refine oF (m.ld 3 rfl rfl) ?_;have ab:=(s7.trans s8).trans s9;refine⟨⟨m.get 0 rfl,bq⟩,m.ld 3 rfl rfl,⟨m.get 1 rfl,bq⟩,m.ld 3 rfl rfl,⟨m.get 2 rfl,bq⟩,?_⟩;have aK:=(iv.since I).since ab;have aL:=(iN.since I).since ab;have aM:=(ip.since I).since ab;have m:=m.empty 2 rfl;simp only[jx,mZ]at m;obtain⟨a,hA,eA,nA,q,sA⟩:=m.L5 2 rfl (kE:=8) aK (by decide) (by decide) (by simp;omega);have aj:eQ 3 1 8 (.slice ra 0 0) bv h9=some (.val a hA):=eA;rw[aj,ej];simp only[jx,mZ,Qk]at q;refine⟨nA,ed (fJ _ _ _) ⟨q.ld 3 rfl rfl,⟨q.get 0 rfl,bq⟩,q.ld 3 rfl rfl,⟨q.get 1 rfl,bq⟩,?_⟩⟩;have q:=q.empty 1 rfl;simp only[jx,mZ]at q;obtain⟨K,hC,eC,nC,L,sC⟩:=q.L5 1 rfl (kE:=8) (aL.since sA) (by decide) (by decide) (by simp;omega);have ak:eQ 3 1 8 (.slice rb 0 0) bn hA=some (.val K hC):=eC;rw[ak,ej];simp only[jx,mZ,Qk]at L;refine⟨nC,L.ld 3 rfl rfl,⟨L.get 0 rfl,bq⟩,?_⟩;have L:=L.empty 0 rfl;simp only[jx,mZ]at L;obtain⟨vp,hD,eD,nD,HD,sD⟩:=L.L5 0 rfl (kE:=8) ((aM.since sA).since sC) (by decide) (by decide) (by simp;omega);have aN:eQ 3 1 8 (.slice rc 0 0) bp hC=some (.val vp hD):=eD;rw[aN,ej];simp only[jx,mZ,Qk]at HD;have d:=HD.one 2 rfl;have al:=HD.one 1 rfl;have ay:=HD.one 0 rfl;obtain⟨hE,eE,nE,HE,sE⟩:=HD.st 3 (o:=0) (u:=a) rfl (by simp[lB]) d;have am:gG 1 (.ptr lc (0+0)) a hD=some (.val .undef hE):=eE;refine⟨nD,?_⟩;rw[am,ej];simp only[jx,mZ]at HE;obtain⟨hG,eG,nG,HG,sG⟩:=HE.st 3 (o:=3) (u:=K) rfl (by simp[lB]) al;have an:gG 1 (.ptr lc (0+3)) K hE=some (.val .undef hG):=by rw[wX];exact eG
  refine⟨nE,ed (fJ _ _ _) ?_⟩;rw[an,ej];simp only[jx,mZ]at HG;obtain⟨hI,eI,nI,HI,sI⟩:=HG.st 3 (o:=4) (u:=vp) rfl (by simp[lB]) ay;have aO:gG 1 (.ptr lc (0+4)) vp hG=some (.val .undef hI):=by rw[wX];exact eI
  refine⟨nG,ed (fJ _ _ _) ?_⟩;rw[aO,ej];simp only[jx,mZ]at HI;have HI:ei Z hI (eJ eN en B.ez vp::eJ eN en B.next K::eJ eN en B.ef a::er lc 41 (lB B a K vp)::fG en fn::eJ tM fu bs wb::fG en fa::eJ wk gi xs wv::er l3 29 [.I u.func,.I u.pc,wv,wb,.ee]::_):=HI;refine⟨nI,oF (HI.ld 8 rfl rfl) (ed (HI.C9 3 rfl rfl) ?_)⟩;obtain⟨HJ,sJ,rp⟩:=HI.jQ 0 rfl;simp only[jx]at HJ;obtain⟨HK,sK,rv⟩:=HJ.jQ 2 rfl;simp only[jx,mZ]at HK;have rp:=rp.since sK;have HK:=HK.tail.GP.GP;generalize (λl=>(Z l\/Loc vp l)\/Loc a l)=FK at*;rw[se (sz:=6) (w:=lB B a K vp) rfl rfl (by simp only[lB,ev,d,al,ay];rfl),fw];obtain⟨ac,hL,eL,_,N,sL⟩:=HK.yI 2 rfl (kE:=96) (EI:=41) (y:=(B,K)) (w:=lB B a K vp) (ro:=false) ⟨a,vp,rfl,rv,rp,al⟩ (by decide) (by decide) (by omega);have O:eQ 41 6 96 wb (.slice hI.next 0 1) (hI.new (.cells 41 6 true false (lB B a K vp)))=some (.val ac hL):=eL;rw[O,ej];simp only[jx,mZ]at N;obtain⟨hM,eM,_,HM,sM⟩:=N.st 5 (o:=3) (u:=ac) rfl (by simp) (N.one 2 rfl);refine ed (fJ _ _ _) ?_;have P:gG 1 (.ptr l3 (0+3)) ac hL=some (.val .undef hM):=by rw[wX];exact eM
  rw[P,ej];simp only[jx,mZ]at HM;have HN:=HM.Ng (i:=i) (aa.out i (by omega));have aA:=((((((I.trans ab).trans sA).trans sC).trans sD).trans sE).trans sG).trans sI;refine fM ⟨k-1,by omega,FK,i+1,bs++[(B,K)],up fn i (some (B.next,K)),ac,rfl,by omega,s5.trans (((aA.trans sJ).trans sK).trans (sL.trans sM)),by simp[ax],?_,HN⟩;rw[M];have:=aa.snoc B K
  rwa [ax]at this
 refine ir ?_;have ns:=g.ns;obtain rfl:i=u.blocks.length:=by omega
 rw[Js]at aa;refine oF (H5.ld 6 rfl rfl) (ed u5.s.len ?_);clear hk k
 have H5:ei Z T (fG en (λ_:KF=>Option.none)::eJ (eL Oi) kS [] .ee::fG en fn::eJ tM fu bs wb::fG en fa::eJ wk gi xs wv::er l3 29 [.I u.func,.I u.pc,wv,wb,.ee]::er l2 29 [.I 0,.I 0,.ee,.ee,.ee]::er l1 29 (uC u vv vb vs)::cs):=
  (H5.add (p:=eJ (eL Oi) kS [] .ee) .nil λ_ h=>h).WY
 refine LO (λk l h'=>∃(F':Nat->Prop) (i:Nat) (ss:List (List (Fm×V×V))) (fl:KF->Option (List Nat×V)) (ws:V),l=[.ptr l2 0,.ptr l3 0,vs,.I u.eh.length,.I i]/\i+k=u.eh.length/\Sn Z T F' h'/\ss.length=i/\Y9 (u.eh.take i) ss fl/\
  ei F' h' (fG en fl::eJ (eL Oi) kS ss ws::fG en fn::eJ tM fu bs wb::fG en fa::eJ wk gi xs wv::er l3 29 [.I u.func,.I u.pc,wv,wb,ws]::er l2 29 [.I 0,.I 0,.ee,.ee,.ee]::er l1 29 (uC u vv vb vs)::cs)) ?_ (k:=u.eh.length)
  ⟨Z,0,[],λ_=>Option.none,.ee,rfl,by omega,Sn.refl _ _,rfl,⟨rfl,λ_ _ _ _ _ _ h=>by simp at h,λ_ _ _ _=>rfl⟩,H5⟩
 rintro k _ _ _ _ _ h6 ⟨D,i,ss,fl,ws,⟨⟩,hk,I,aB,ae,G⟩;unfold Fg;have u6:=u5.since I;by_cases hi:i<u.eh.length
 ·refine gv ?_;have hS:=ig hi;have M:u.eh.take (i+1)=u.eh.take i++[u.eh[i]]:=Qh hi;generalize u.eh[i]=fs at*;have aV:=(g.st i fs hS).1;obtain⟨lx,ox,f,_,x1,x2,_,xf⟩:=u6.st hS;refine ed x1 (ed x2 ?_);refine iH G rfl rfl (by simp only[ev,xf.one];rfl) λC J s7=>?_;generalize h6.next=lc at*;rw[fw];obtain⟨t,s8⟩:=J.zt kS [.ee];have t:ei D (C.new (.cells 50 1 true false [V.ee])) (er C.next 50 [.ee]::er lc 50 [f]::_):=t;have s8:Sn D C D (C.new (.cells 50 1 true false [V.ee])):=s8;generalize C.new (.cells 50 1 true false [V.ee])=U at*;generalize C.next=ld at*;have xf:=(xf.since s7).since s8;refine oF (t.ld 1 rfl rfl) (ed xf.len ?_)
  have t:ei D U (fG en fl::eJ Oi JG [] .ee::er ld 50 [.ee]::eJ (eL Oi) kS ss ws::fG en fn::eJ tM fu bs wb::fG en fa::eJ wk gi xs wv::er l3 29 [.I u.func,.I u.pc,wv,wb,ws]::er l2 29 [.I 0,.I 0,.ee,.ee,.ee]::er l1 29 (uC u vv vb vs)::cs):=
   (t.GP.sw.add (p:=eJ Oi JG [] .ee) .nil λ_ h=>h).sw
  refine LL (λk' l h'=>∃(j:Nat) (ys:List (Fm×V×V)) (A:KF->Option (List Nat×V)) (R:V),l=[.ptr l2 0,.ptr l3 0,.ptr ld 0,vs,.I u.eh.length,.I i,f,.I fs.length,.I j]/\j+k' = fs.length/\Sn D U D h'/\ys.length=j/\CpF i (fs.take j) ys A/\(∀s k b,s≠i->A (s,k,b)=fl (s,k,b))/\
   ei D h' (fG en A::eJ Oi JG ys R::er ld 50 [R]::eJ (eL Oi) kS ss ws::fG en fn::eJ tM fu bs wb::fG en fa::eJ wk gi xs wv::er l3 29 [.I u.func,.I u.pc,wv,wb,ws]::er l2 29 [.I 0,.I 0,.ee,.ee,.ee]::er l1 29 (uC u vv vb vs)::cs)) ?_ (k:=fs.length)
   ⟨0,[],fl,.ee,rfl,by omega,Sn.refl _ _,rfl,⟨rfl,λ_ _ _ _ h=>by simp at h,λk b _=>ae.out i k b (by omega)⟩,λ_ _ _ _=>rfl,t⟩
  rintro k' _ _ _ _ _ _ _ _ _ h9 ⟨j,ys,A,R,⟨⟩,aW,s9,aC,S,aD,m⟩;unfold FD;have aP:=xf.since s9;by_cases hj:j<fs.length
  ·refine gv ?_;have hF:=ig hj;have aQ:fs.take (j+1)=fs.take j++[fs[j]]:=Qh hj;have aX:=(g.st i fs hS).2 fs[j] (BG hj);generalize fs[j]=x at*;obtain⟨ly,oy,xa,xb,_,y1,y2,ya,yb⟩:=aP.xI hF;refine ed y1 (ed y2 ?_);refine iH m rfl rfl (by simp only[Ol,ev,ya.one,yb.one];rfl) λX c z=>?_;generalize h9.next=le at*;have e:∀{h:Hp} {cs:List Pc},ei D h cs->ei D (h.new (.cells 3 1 true false [])) (er h.next 3 []::cs)/\Sn D h D (h.new (.cells 3 1 true false [])):=λH=>H.zt 3 [];rw[GN,ic];obtain⟨Y,ao⟩:=e c;generalize X.new (.cells 3 1 true false [])=aE at*;refine oF (Y.ld 1 rfl rfl) ?_;rw[ic];obtain⟨r,ap⟩:=e Y;generalize aE.new (.cells 3 1 true false [])=aR at*;generalize X.next=ra at*;generalize aE.next=rb at*;refine oF (r.ld 2 rfl rfl) ?_;refine⟨⟨r.get 0 rfl,bq⟩,r.ld 2 rfl rfl,⟨r.get 1 rfl,bq⟩,?_⟩;have ya:=((ya.since z).since ao).since ap;have yb:=((yb.since z).since ao).since ap;have r:=r.empty 1 rfl;simp only[jx,mZ]at r;obtain⟨a,hA,eA,nA,q,sA⟩:=r.L5 1 rfl (kE:=8) ya (by decide) (by decide) (by simp;omega);have aj:eQ 3 1 8 (.slice ra 0 0) xa aR=some (.val a hA):=eA;rw[aj,ej];simp only[jx,mZ,Qk]at q;refine⟨nA,ed (fJ _ _ _) ⟨q.ld 2 rfl rfl,⟨q.get 0 rfl,bq⟩,?_⟩⟩;have q:=q.empty 0 rfl;simp only[jx,mZ]at q;obtain⟨vc,hC,eC,nC,L,sC⟩:=q.L5 0 rfl (kE:=8) (yb.since sA) (by decide) (by decide) (by simp;omega);have ak:eQ 3 1 8 (.slice rb 0 0) xb hA=some (.val vc hC):=eC;rw[ak,ej];simp only[jx,mZ,Qk]at L;have d:=L.one 1 rfl;have aq:=L.one 0 rfl;obtain⟨hE,eE,nE,HE,sE⟩:=L.st 2 (o:=2) (u:=a) rfl (by simp[Ol]) d;have am:gG 1 (.ptr le (0+2)) a hC=some (.val .undef hE):=by rw[wX];exact eE
   refine⟨nC,?_⟩;rw[am,ej];simp only[jx,mZ]at HE;obtain⟨hG,eG,nG,HG,sG⟩:=HE.st 2 (o:=3) (u:=vc) rfl (by simp[Ol]) aq;have an:gG 1 (.ptr le (0+3)) vc hE=some (.val .undef hG):=by rw[wX];exact eG
   refine⟨nE,ed (fJ _ _ _) ?_⟩;rw[an,ej];simp only[jx,mZ]at HG;have HG:ei D hG (eJ eN en x.stack vc::eJ eN en x.locals a::er le 47 (Ol x a vc)::fG en A::eJ Oi JG ys R::er ld 50 [R]::_):=HG;refine⟨nG,oF (HG.ld 5 rfl rfl) (ed (HG.C9 2 rfl rfl) ?_)⟩;rw[se (sz:=4) (w:=Ol x a vc) rfl rfl (by simp only[Ol,ev,d,aq];rfl),fw];obtain⟨ag,hL,eL,_,N,sL⟩:=HG.yI 4 rfl (kE:=64) (EI:=47) (y:=(x,a,vc)) (w:=Ol x a vc) (ro:=false) ⟨rfl,d,aq⟩ (by decide) (by decide) (by omega);have O:eQ 47 4 64 R (.slice hG.next 0 1) (hG.new (.cells 47 4 true false (Ol x a vc)))=some (.val ag hL):=eL;rw[O,ej];simp only[jx,mZ]at N;obtain⟨hM,eM,_,HM,sM⟩:=N.st 5 (o:=0) (u:=ag) rfl (by simp) (N.one 4 rfl);refine ed (fJ _ _ _) ?_;have P:gG 1 (.ptr ld (0+0)) ag hL=some (.val .undef hM):=eM;rw[P,ej];simp only[jx,mZ]at HM;have HN:=HM.YE (i:=(i,j,false)) (j:=(i,j,true)) (S.out j false (by omega)) (S.out j true (by omega)) (by simp);refine fM ⟨k'-1,by omega,j+1,ys++[(x,a,vc)],up (up A (i,j,false) (some (x.locals,a))) (i,j,true) (some (x.stack,vc)),ag,rfl,by omega,((((((s9.trans z).trans ao).trans ap).trans sA).trans sC).trans (sE.trans sG)).trans (sL.trans sM),by simp[aC],?_,?_,HN⟩
   ·rw[aQ];have:=S.snoc x a vc
    rwa [aC]at this
   ·intro s k b hs;rw[iT _ _ (by simp[hs]),iT _ _ (by simp[hs])];exact aD s k b hs
  refine ir ?_;obtain rfl:j=fs.length:=by omega
  rw[Js]at S;obtain⟨c,z,rf⟩:=m.jQ 1 rfl;simp only[jx,mZ]at c;generalize (λl=>D l\/Loc R l)=F7 at*;have c:=c.GP;refine oF (c.ld 7 rfl rfl) (ed (c.C9 1 rfl rfl) ?_);rw[se (sz:=1) (w:=[R]) rfl rfl (by simp only[ev,rf.one];rfl),fw];obtain⟨ah,hL,eL,_,N,sL⟩:=c.yI 2 rfl (kE:=24) (EI:=50) (y:=ys) (w:=[R]) (ro:=false) ⟨R,rfl,rf⟩ (by decide) (by decide) (by omega);have O:eQ 50 1 24 ws (.slice h9.next 0 1) (h9.new (.cells 50 1 true false [R]))=some (.val ah hL):=eL;rw[O,ej];simp only[jx,mZ]at N;obtain⟨hM,eM,_,HM,sM⟩:=N.st 7 (o:=4) (u:=ah) rfl (by simp) (N.one 2 rfl);refine ed (fJ _ _ _) ?_;have P:gG 1 (.ptr l3 (0+4)) ah hL=some (.val .undef hM):=by rw[wX];exact eM
  rw[P,ej];simp only[jx,mZ]at HM;refine fM ⟨k-1,by omega,F7,i+1,ss++[ys],A,ah,rfl,by omega,((((I.trans s7).trans s8).trans s9).trans z).trans (sL.trans sM),by simp[aB],?_,HM.GP⟩;rw[M];have ai:=S;rw[<-aB]at ai;exact ae.snoc ai λs k b hs=>aD s k b (by omega)
 refine ir ?_;obtain rfl:i=u.eh.length:=by omega
 rw[Js]at ae;refine ed (G.C9 6 rfl rfl) ?_;obtain⟨C,e7,_,J,s7⟩:=G.Y0 7 (ws:=[.I u.func,.I u.pc,wv,wb,ws]) (n:=5) rfl rfl rfl (by simp only[ev,G.one 5 rfl,G.one 3 rfl,G.one 1 rfl];rfl);rw[e7,ej];simp only[jx,mZ]at J;refine ed (J.C9 7 rfl rfl) ?_;exact H D C wv wb ws xs bs ss fa fn fl (((ar.trans s4).trans s5).trans (I.trans s7)) hc aa ae J.zbE
end
open Un Dm
section
variable{F F':Nat->Prop}{h h':Hp}{cs ds:List Pc}{Q:fo}{u:U}{vv vb vs:V}
def Jw(cs:List Pc)(l:Nat):Prop:=∃(i:Nat)(c:Pc),cs[i]? =some c/\c.kX l
theorem ei.zbF(H:ei F h cs):ei (λl=>F l\/Jw cs l) h []:=
 ei.nil λl a=>a.elim (H.fl l) λ⟨i,c,hc,b⟩=>(c.L0 (H.ok i c hc) l b).1
theorem ei.back(H:ei F h cs){G:Nat->Prop}(s:Sn (λl=>F l\/Jw cs l) h G h'):ei F h' cs where
 fl l a:=Cc (H.fl l a) s.next
 ok i c hc:=c.eR (H.ok i c hc) (λl a=>s.eR l (.inl a)) (λl a=>s.eR l (.inr ⟨i,c,hc,a⟩)) s.next
 BS:=H.BS
theorem Sn.back{G:Nat->Prop}(s:Sn (λl=>F l\/Jw cs l) h G h'):Sn F h F h':=⟨s.next,λl a=>s.eR l (.inl a),λ_ h=>h⟩
theorem ei.Zd(H:ei F h cs){ty:Nat}{xs:List Nat}{v:V}(s:Sn (λl=>F l\/Jw cs l) h (λl=>F l\/Jw cs l) h') (k:ei (λl=>F l\/Jw cs l) h' [eJ eN ty xs v]):ei F h' (eJ eN ty xs v::cs):=by
 have j:jZ eN ty (λl=>F l\/Jw cs l) h' xs v:=k.ok 0 _ rfl;refine(H.back s).cons ?_ λi c hc l m d=>(j.tZ m).2.2 (.inr ⟨i,c,hc,d⟩);rcases j with⟨f,g⟩|⟨t,ws,f,g,w,n,y,o⟩
 ·exact .inl ⟨f,g⟩
 ·exact .inr ⟨t,ws,f,g,by simp_all,n,by
   have p:∀(ws:List V) (xs:List Nat),oX eN (λl=>F l\/Jw cs l) h' ws xs->oX eN F h' ws xs:=λws xs=>by
    induction xs generalizing ws with
    |nil=>exact id
    |cons x xs q=>rintro⟨a,b,e,r,u⟩;exact⟨a,b,e,r,q b u⟩
   simp_all,o⟩
theorem NH{α β:Type}{E:pG α} {E':pG β}:∀(ws:List V)(xs:List α)(ys:List β),ys.length=xs.length->(∀(k:Nat) x y cs,xs[k]? =some x->ys[k]? =some y->E.rel F h x cs->E'.rel F' h y cs)->oX E F h ws xs->oX E' F' h ws ys
 |_,[],[],_,_,h=>h
 |ws,x::xs,y::ys,hl,hr,⟨a,b,e,r,hw⟩=>⟨a,b,e,hr 0 x y a rfl rfl r,NH b xs ys (by simp_all) (λk x y cs c d=>hr (k+1) x y cs (by simp_all) (by simp_all)) hw⟩
theorem ei.Up{α β:Type}{E:pG α} {E':pG β}(H:ei F h cs)(i:Nat){ty:Nat}{xs:List α}{ys:List β}{v:V}(hi:cs[i]? =some (eJ E ty xs v))(d:E'.sz=E.sz)(a:ys.length=xs.length)(e:∀(k:Nat) x y cs,xs[k]? =some x->ys[k]? =some y->E.rel F h x cs->E'.rel F h y cs):ei F h (cs.set i (eJ E' ty ys v)):=by
 refine H.swap hi ?_ λ_ h=>h;rcases H.row i hi with⟨b,c⟩|⟨t,ws,b,c,f,g,j,l⟩
 ·subst c;exact .inl ⟨b,wAy a⟩
 ·exact .inr ⟨t,ws,by rw[a];exact b,c,f,by rw[d];exact g,NH ws xs ys a e j,l⟩
theorem iA.Up{α β:Type}{E:pG α} {E':pG β}{xs:List α}{ys:List β}{v:V}(hs:iA E F h xs v)(f:E'.sz=E.sz)(c:∀l,F l->F' l)(d:ys.length=xs.length)(g:∀(k:Nat) x y cs,xs[k]? =some x->ys[k]? =some y->E.rel F h x cs->E'.rel F' h y cs):iA E' F' h ys v:=by
 rcases hs with⟨b,a⟩|⟨l,o,ty,live,ro,ws,b,a,i,j,e,m⟩
 ·subst a;exact .inl ⟨b,wAy d⟩
 ·exact .inr ⟨l,o,ty,live,ro,ws,by simp_all,c l a,by simp_all,by grind,e,by grind[NH]⟩
theorem zaD{xs:List Nat}{v:V}(hs:iA eN F h xs v)(g:xs.length<1000000)(x:Nat)(H:Q (.bool (xs.contains x)) h) :
  cP CS jO [v,.I x] h Q:=by
 refine zB rfl rfl ?_;unfold qY;refine BK rfl rfl ?_;unfold uA;refine ed hs.len ?_;refine zu (λk l h'=>∃i:Nat,l=[v,.I x,.I xs.length,.I (i:Nat)]/\h' = h/\i+k=xs.length/\∀j y,j<i->xs[j]? =some y->y≠x) ?_ (k:=xs.length) (by grind);rintro k _ _ _ _ h' ⟨i,⟨⟩,rfl,hk,a⟩;unfold qJ;by_cases hi:i<xs.length
 ·refine gv ?_;have b:=ig hi;generalize xs[i]=y at*;obtain⟨l,o,_,c,d⟩:=hs.nat b .i64;refine ed c (ed d (fP ?_));by_cases e:x=y
  ·refine gw (by rw[e]) (ed (po ..) ?_);rw[PY (by omega)]
   grind
  ·refine fT (by omega) (fM ⟨k-1,by omega,i+1,rfl,rfl,by omega,λj z f m=>?_⟩)
   grind
 ·refine ir (ed (po ..) ?_);rw[Vr (by omega)];have:xs.contains x=false:=by
   rw[wBh];intro h;obtain⟨j,f⟩:=mm.1 (wBP.1 h);exact by grind
  simp_all
def kV(az:List Int):Nat->Int:=λv=>az.getD v (-1)
theorem QW{az:List Int}{v:Nat}{a:Int}(h:az[v]? =some a):kV az v=a:=by
 grind[kV]
theorem Yx{lt:Nat}{jM:V}{az:List Int}{G:Nat->Prop}(d:ey (.ptr lt 5) h=some jM)(hs:iA eZ G h az jM)(L:az.length<=3000)(f:∀(v:Nat)(a:Int),az[v]? =some a->a<az.length){v:Nat}(M:v<az.length)
  (H:sV (kV az) (az.length+1) v<az.length->Q (.I (sV (kV az) (az.length+1) v:Nat)) h):cP CS iM [.ptr lt 0,.I v] h Q:=by
 refine FN rfl rfl ?_;unfold yX;refine CT (λk l h'=>∃n w:Nat,l=[.ptr lt 0,.I (w:Nat),.I (n:Nat)]/\h' = h/\n+k=az.length+1/\w<az.length/\sV (kV az) k w=sV (kV az) (az.length+1) v) ?_ (k:=az.length+1) (by grind);rintro k _ _ _ h' ⟨n,w,⟨⟩,rfl,hk,D,E⟩;unfold vD;have g:=ig D;have J:=QW g;have K:=f w _ g;generalize az[w]=a at*;obtain⟨l,o,_,F,I⟩:=hs.int g .i64;have d:ey (.ptr lt (0+5)) h' = some jM:=d;refine ed (fI _ _) (ed (by rfl) (ed d (ed F (ed I (ed (po ..) ?_)))));rw[show jz (V.bool (decide (0<=a))) (oB (some (V.ptr lt 0)) λi=>oB (ij i) λj=>oB (fH 5 j) λp=>oB (ey p h') λq=>oB (some (V.I w)) λr=>oB (gI 1 q r) λs=>oB (ey s h') λt=>oB (some (V.I w)) λu=>eo .neq 3 t u)=some (.bool (decide (0<=a)&&(a != (w:Int)))) from by
  simp_all]
 rw [gW];rw[show jz (V.bool (decide (0<=a)&&(a != (w:Int)))) (oB (some (V.I n)) λx=>oB (some (V.ptr lt 0)) λy=>oB (ij y) λz=>oB (fH 5 z) λA=>oB (ey A h') λB=>oB (fy B) λC=>eo .leq 3 x C)=some (.bool ((decide (0<=a)&&(a != (w:Int)))&&decide ((n:Int)<=az.length))) from by
  simp only[fe,fI,fJ,d,hs.len,Li,iD]]
 rw[gW]
 cases k with
 | zero=>
   refine iI (fT (by grind) ?_)
   grind[sV,kV]
 | succ k=>
   rw[PY (show(n:Int)<=az.length by omega),Bool.and_true];have e:sV (kV az) (k+1) w=if 0<=kV az w/\kV az w≠(w:Int) then sV (kV az) k (kV az w).toNat else w:=rfl
   rw[J]at e;by_cases c:0<=a/\a≠(w:Int)
   ·refine iI (gw (by simp_all) ?_)
    refine ed (fI _ _) (ed (by rfl) (ed d (ed F (ed I (kh (m:=1) (by omega) (by omega) ?_)))));rw[if_pos c]at e;obtain⟨b,rfl⟩:=Int.eq_ofNat_of_zero_le c.1;exact⟨k,by omega,n+1,b,rfl,rfl,by omega,by omega,by simp_all⟩
   ·refine iI (fT (λh=>c ?_) ?_)
    ·rw[ve,CH,bne_iff_ne]at h
     exact h
    ·rw[if_neg c]at e
     rw[e]at E;rw[<-E]at H;exact H D
theorem SE(m:fW (uC u vv vb vs)=true)(n:fy vv=some (.I u.ef.length))(C:u.ef.length<=3000)(p:ei F h cs)(H:∀h' v,Sn F h F h'->ei F h' (eJ eZ en ((List.range u.ef.length).map λ(i:Nat)=>(i:Int)) v::cs)->Q v h') :
  cP CS yv [.agg (uC u vv vb vs)] h Q:=by
 refine RC rfl rfl ?_;unfold Kc;refine nQ p m λb c q=>?_;refine ed (by rfl) (ed (c.ld 0 rfl rfl) (ed n ?_));rw[jY (z:=V.I 0) rfl (by decide) (by omega),fw];obtain⟨r,s⟩:=c.make (E:=eZ) (ty:=en) (y:=0) (u:=V.I 0) u.ef.length rfl rfl;generalize b.new (.cells en 1 true false (List.replicate u.ef.length (V.I 0)))=D at*;generalize b.next=lr at*;refine ed (by rfl) ?_;refine L6 (λk l h'=>∃(i:Nat) (ys:List Int),l=[.slice lr 0 u.ef.length,.I u.ef.length,.I i]/\i+k=u.ef.length/\ys.length=u.ef.length/\(∀j:Nat,j<i->ys[j]? =some (j:Int))/\Sn F h F h'/\ei F h' (eJ eZ en ys (.slice lr 0 u.ef.length)::er h.next 29 (uC u vv vb vs)::cs)) ?_ (k:=u.ef.length) ⟨0,_,rfl,by omega,UO,by omega,q.trans s,r⟩;rintro k _ _ _ t ⟨i,ys,⟨⟩,hk,w,G,d,f⟩;unfold Fx;by_cases hi:i<u.ef.length
 ·refine gv ?_;obtain⟨l,o,I,x,A,_,g,B⟩:=f.Ir 0 rfl (k:=i) (y:=(i:Int)) (u:=V.I i) (by omega) rfl rfl rfl;refine ed x ?_;rw[A,ej];simp only[jx]at g;refine fM ⟨k-1,by omega,i+1,ys.set i (i:Int),rfl,by omega,by simp[w],λj a=>?_,d.trans B,g⟩
  grind
 ·refine ir ?_;have e:ys=(List.range u.ef.length).map λ(i:Nat)=>(i:Int):=by
   refine YI λj=>?_;by_cases a:j<u.ef.length
   ·grind
   ·simp_all
  rw[<-e]at H;exact H t _ d f.GP
end
