/- Parts. -/
import Derived.Test.YtloecllhljfidaaDoorM27
import Derived.Test.YtloecllhljfidaaDoorM34
import Derived.Test.YtloecllhljfidaaDoorM33
set_option maxHeartbeats 4000000
namespace Go.Proofs.YtloecllhljfidaaDoor.Hx
open Un Dm
theorem YV:P0.underlying en=some (.int .i64):=by kernel_rfl
theorem RV(a b:Int):BM en (.I a) (.I b)=some (a == b):=by
 unfold BM;rw[YV];rfl
section
variable{u:U}
theorem yj{w:Nat}(h:mq u w):w<u.ef.length:=by
 obtain⟨x,a,_⟩:=h
 grind
theorem EI{P:Nat->Prop}(g:Gd u P){s:Nat}{fs:List Fm}(a:u.eh[s]? =some fs):∀w∈ic fs,w<u.ef.length:=by
 intro w b;unfold ic at b;obtain⟨f,c,d⟩:=Tu.1 b;obtain⟨_,_,e⟩:=g.st s fs a;obtain⟨_,_,i,j⟩:=e f c;rcases Bm.1 d with h|h
 ·simp_all[yj]
 simp_all[yj]
theorem Nq(g:Good u){i:Nat}{x:Vl}(hx:u.ef[i]? =some x):x.op=21\/x.op=20->x.args.length<=700:=by
 have nb:=g.nb;obtain⟨b,k,a⟩:=g.xM i (by grind) trivial;obtain⟨B,d,hk⟩:=id a;rintro(c|c)
 ·rw[(g.Ae _ _ _ _ _ a hx c d).2,g.ez b B d,<-pG];have:=pU g (i:=u.blocks.length) (j:=0) (b:=b) (jb _) (by omega);omega
 ·rw[g.putAt i x hx c];omega
theorem Ol{P:Nat->Prop}(g:Gd u P)(s:Nat)(fs:List Fm)(a:u.eh[s]? =some fs):fs.length<=30/\∀f∈fs,f.locals.length<=40/\f.stack.length<=60:=by
 obtain⟨_,b,c⟩:=g.st s fs a
 simp_all
theorem Nt(g:Good u){b:Nat}{B:Bk}(a:u.blocks[b]? =some B):B.ef.length<=3000:=by
 have nv:=g.nv;have:=jr u.ef.length B.ef (GC g a) λv hv=>by
  obtain⟨k,hk⟩:=mr.1 hv;exact g.jz v b k ⟨B,a,hk⟩
 omega
theorem FJ(g:Good u){b:Nat}{B:Bk}(a:u.blocks[b]? =some B):B.ez.length<=700:=by
 have nb:=g.nb;rw[g.ez b B a,<-pG];have:=pU g (i:=u.blocks.length) (j:=0) (b:=b) (jb _) (by omega);omega
theorem ID(g:Good u){b:Nat}{B:Bk}(a:u.blocks[b]? =some B):B.next.length<=2:=by
 rcases g.fin b B a with⟨_,h⟩|⟨_,h,_⟩|⟨_,h,_⟩
 ·omega
 ·omega
 simp_all
end
open Un Dm
def vE:o0 (Vl×V) where
 sz:=6
 rel _ _ x cs:=cs=lW x.1 x.2/\x.2.one=true
 len h:=by rw[h.1];rfl
 one h:=by rw[h.1];simp only[lW,eo,h.2];rfl
 fe _ h:=h
 mono _ h:=h
def ta:o0 (Bk×V) where
 sz:=6
 rel F h x cs:=∃v p,cs=kS x.1 v x.2 p/\iG eN F h x.1.ef v/\iG eN F h x.1.ez p/\x.2.one=true
 len:=λ⟨_,_,h,_⟩=>by subst h;rfl
 one:=λ⟨_,_,h,a,b,c⟩=>by subst h;simp only[kS,eo,a.one,b.one,c];rfl
 fe:=λhk ⟨v,p,h,a,b,c⟩=>⟨v,p,h,a.fe hk,b.fe hk,c⟩
 mono:=λhb ⟨v,p,h,a,b,c⟩=>⟨v,p,h,a.mono hb,b.mono hb,c⟩
def OP:o0 (Fm×V×V) where
 sz:=4
 rel _ _ x cs:=cs=Ji x.1 x.2.1 x.2.2/\x.2.1.one=true/\x.2.2.one=true
 len h:=by rw[h.1];rfl
 one h:=by rw[h.1];simp only[Ji,eo,h.2.1,h.2.2];rfl
 fe _ h:=h
 mono _ h:=h
section
variable{F F':Nat->Prop}{h h':Hp}{cs:List Pc}{Q:fq}{u:U}{vv vb vs:V}
theorem ej.empty(H:ej F h cs)(i:Nat){l:Nat}(hi:cs[i]? =some (er l en [])):ej F h (cs.set i (ev eN en [] (.slice l 0 0))):=by
 have a:=H.ok i _ hi;exact H.swap hi (.inr ⟨l,[],rfl,a.2.1,a.2.2,a.1,trivial,rfl⟩) λm e=>e.symm
structure VZ (vs:List Vl) (xs:List (Vl×V)) (fa:Nat->Option (List Nat×V)):Prop where
 fst:xs.map Prod.fst=vs
 row:∀i x w,xs[i]? =some (x,w)->fa i=some (x.args,w)
 out:∀i,xs.length<=i->fa i=none
structure UX (bs:List Bk) (xs:List (Bk×V)) (fn:Nat->Option (List Nat×V)):Prop where
 fst:xs.map Prod.fst=bs
 row:∀i x w,xs[i]? =some (x,w)->fn i=some (x.next,w)
 out:∀i,xs.length<=i->fn i=none
abbrev KF:=Nat×Nat×Bool
structure CpF (s:Nat) (fs:List Fm) (xs:List (Fm×V×V)) (fl:KF->Option (List Nat×V)):Prop where
 fst:xs.map Prod.fst=fs
 loc:∀k x l w,xs[k]? =some (x,l,w)->fl (s,k,false)=some (x.locals,l)/\fl (s,k,true)=some (x.stack,w)
 out:∀k b,xs.length<=k->fl (s,k,b)=none
structure ZC (ss:List (List Fm)) (xs:List (List (Fm×V×V))) (fl:KF->Option (List Nat×V)):Prop where
 fst:xs.map (λl=>l.map Prod.fst)=ss
 loc:∀s l k x a w,xs[s]? =some l->l[k]? =some (x,a,w)->fl (s,k,false)=some (x.locals,a)/\fl (s,k,true)=some (x.stack,w)
 out:∀s k b,xs.length<=s->fl (s,k,b)=none
theorem VZ.snoc{vs:List Vl}{xs:List (Vl×V)}{fa:Nat->Option (List Nat×V)}(c:VZ vs xs fa)(x:Vl)(w:V):VZ (vs++[x]) (xs++[(x,w)]) (up fa xs.length (some (x.args,w))):=by
 refine⟨by rw[MA,c.fst];rfl,λi y v hi=>?_,λi hi=>?_⟩
 ·by_cases e:i<xs.length
  ·rw[Vb e]at hi;rw[iI _ _ (by omega)];exact c.row i y v hi
  ·rw[Ya (by omega)]at hi;have a:i-xs.length=0:=by have:=(jk.1 hi).1;simp at this;omega
   rw[a]at hi;cases hi;obtain rfl:i=xs.length:=by omega
   exact jo _ _ _
 ·rw[KC]at hi;rw[iI _ _ (by simp at hi;omega)];exact c.out i (by simp at hi;omega)
theorem UX.snoc{bs:List Bk}{xs:List (Bk×V)}{fn:Nat->Option (List Nat×V)}(c:UX bs xs fn)(x:Bk)(w:V):UX (bs++[x]) (xs++[(x,w)]) (up fn xs.length (some (x.next,w))):=by
 refine⟨by rw[MA,c.fst];rfl,λi y v hi=>?_,λi hi=>?_⟩
 ·by_cases e:i<xs.length
  ·rw[Vb e]at hi;rw[iI _ _ (by omega)];exact c.row i y v hi
  ·rw[Ya (by omega)]at hi;have a:i-xs.length=0:=by have:=(jk.1 hi).1;simp at this;omega
   rw[a]at hi;cases hi;obtain rfl:i=xs.length:=by omega
   exact jo _ _ _
 ·rw[KC]at hi;rw[iI _ _ (by simp at hi;omega)];exact c.out i (by simp at hi;omega)
theorem ej.re(H:ej F h cs){ds:List Pc}(m:Nat->Nat)(a:∀i c,ds[i]? =some c->cs[m i]? =some c)(b:∀i j,i<ds.length->j<ds.length->m i=m j->i=j):ej F h ds where
 fl:=H.fl
 ok i c hc:=H.ok (m i) c (a i c hc)
 A5 i j c d hc hd hn:=H.A5 (m i) (m j) c d (a i c hc) (a j d hd) λe=>hn (b i j (jk.1 hc).1 (jk.1 hd).1 e)
theorem ej.zb1{a b c d:Pc}(H:ej F h (a::b::c::d::cs)):ej F h (b::d::a::cs):=
 H.re (λi=>match i with|0=>1|1=>3|2=>0|n+3=>n+4) (λi c hc=>match i,hc with|0,hc=>hc|1,hc=>hc|2,hc=>hc|n+3,hc=>hc) λi j _ _ e=>by
  match i,j with
  |0,0|1,1|2,2=>rfl
  |0,1|0,2|1,0|1,2|2,0|2,1=>simp at e
  |0,n+3|1,n+3|2,n+3|n+3,0|n+3,1|n+3,2=>simp at e;try omega
  |n+3,k+3=>simp at e;omega
theorem ej.Yr{ι:Type} [DecidableEq ι] {ty:Nat}{f:ι->Option (List Nat×V)}{xs ys:List Nat}{v w:V}{c:Pc}(H:ej F h (ev eN ty xs v::ev eN ty ys w::c::fH ty f::cs)){i j:ι}(hi:f i=Option.none)(a:f j=Option.none)(b:j≠i) :
  ej F h (fH ty (up (up f i (some (ys,w))) j (some (xs,v)))::cs):=
 (H.zb1.OQ hi).sw.OQ (by rw[iI _ _ b];exact a)
theorem ej.zcM{a b c d e f x y z:Pc}(H:ej F h (a::b::c::d::e::f::x::y::z::cs)):ej F h (f::d::b::e::c::a::cs):=
 H.re (λi=>match i with|0=>5|1=>3|2=>1|3=>4|4=>2|5=>0|n+6=>n+9) (λi c hc=>match i,hc with|0,hc=>hc|1,hc=>hc|2,hc=>hc|3,hc=>hc|4,hc=>hc|5,hc=>hc|n+6,hc=>hc) λi j _ _ e=>by
   have g:∀i:Nat,(match i with|0=>5|1=>3|2=>1|3=>4|4=>2|5=>0|n+6=>n+9:Nat)=(if i<6 then[5,3,1,4,2,0].getD i 0 else i+3):=λi=>by
     match i with
     |0|1|2|3|4|5=>rfl
     |n+6=>rw[if_neg (by omega)]
   simp only[g]at e;by_cases hi:i<6
   ·by_cases hj:j<6
    ·rw[if_pos hi,if_pos hj]at e
     exact(by decide:∀i,i<6->∀j,j<6->[5,3,1,4,2,0].getD i 0=[5,3,1,4,2,0].getD j 0->i=j) i hi j hj e
    ·rw[if_pos hi,if_neg hj]at e
     have:[5,3,1,4,2,0].getD i 0<6:=(by decide:∀i,i<6->[5,3,1,4,2,0].getD i 0<6) i hi;omega
   ·by_cases hj:j<6
    ·rw[if_neg hi,if_pos hj]at e
     have:[5,3,1,4,2,0].getD j 0<6:=(by decide:∀i,i<6->[5,3,1,4,2,0].getD i 0<6) j hj;omega
    ·rw[if_neg hi,if_neg hj]at e
     omega
theorem CpF.snoc{s:Nat}{fs:List Fm}{xs:List (Fm×V×V)}{fl:KF->Option (List Nat×V)}(c:CpF s fs xs fl)(x:Fm)(l w:V):CpF s (fs++[x]) (xs++[(x,l,w)]) (up (up fl (s,xs.length,false) (some (x.locals,l))) (s,xs.length,true) (some (x.stack,w))):=by
 refine⟨by rw[MA,c.fst];rfl,λi y a b hi=>?_,λi b hi=>?_⟩
 ·by_cases e:i<xs.length
  ·rw[Vb e]at hi;have f:=c.loc i y a b hi;rw[iI _ _ (by simp),iI _ _ (by simp;omega),iI _ _ (by simp;omega),iI _ _ (by simp)];exact f
  ·rw[Ya (by omega)]at hi;have d:i-xs.length=0:=by have:=(jk.1 hi).1;simp at this;omega
   rw[d]at hi;cases hi;obtain rfl:i=xs.length:=by omega
   exact⟨by rw[iI _ _ (by simp),jo],jo _ _ _⟩
 ·rw[KC]at hi;simp at hi;rw[iI _ _ (by simp;omega),iI _ _ (by simp;omega)];exact c.out i b (by omega)
theorem ZC.snoc{ss:List (List Fm)}{xs:List (List (Fm×V×V))} {fl d:KF->Option (List Nat×V)}(c:ZC ss xs fl){fs:List Fm}{ys:List (Fm×V×V)} (c':CpF xs.length fs ys d)(f:∀s k b,s≠xs.length->d (s,k,b)=fl (s,k,b)):ZC (ss++[fs]) (xs++[ys]) d:=by
 refine⟨by rw[MA,c.fst,<-c'.fst];rfl,λi l k y a b hi hk=>?_,λi k b hi=>?_⟩
 ·by_cases e:i<xs.length
  ·rw[Vb e]at hi;rw[f _ _ _ (by omega),f _ _ _ (by omega)];exact c.loc i l k y a b hi hk
  ·rw[Ya (by omega)]at hi;have g:i-xs.length=0:=by have:=(jk.1 hi).1;simp at this;omega
   rw[g]at hi;cases hi;obtain rfl:i=xs.length:=by omega
   exact c'.loc k y a b hk
 ·rw[KC]at hi;simp at hi;rw[f _ _ _ (by omega)];exact c.out i k b (by omega)
def oh(u:U):Prop:=∀(v:Nat)(x:Vl),u.ef[v]? =some x->x.args.length<=700
structure M0 (u:U):Prop where
 nv:u.ef.length<=3000
 nb:u.blocks.length<=300
 ns:u.eh.length<=1000
 args:oh u
 vf:∀(b:Nat) (B:Bk),u.blocks[b]? =some B->B.ef.length<=3000/\B.ez.length<=700/\B.next.length<=2
 st:∀(s:Nat) (fs:List Fm),u.eh[s]? =some fs->fs.length<=30/\∀f∈fs,f.locals.length<=40/\f.stack.length<=60
theorem vL(g:Good u)(b:oh u):M0 u:=⟨g.nv,g.nb,g.ns,b,λ_ _ a=>⟨Nt g a,FJ g a,ID g a⟩,Ol g⟩
theorem J2(g:M0 u)(H0:ej F h cs)(hu:tL F h u vv vb vs)
  (H:∀F' h' wv wb ws (xs:List (Vl×V)) (bs:List (Bk×V)) (ss:List (List (Fm×V×V))) fa fn fl,Sn F h F' h'->VZ u.ef xs fa->UX u.blocks bs fn->ZC u.eh ss fl->
   ej F' h' (ev vE gi xs wv::ev ta fo bs wb::ev (eL OP) kJ ss ws::fH en fa::fH en fn::fH en fl::cs)->Q (.agg (uC u wv wb ws)) h') :
  cP CS mZ [.agg (uC u vv vb vs)] h Q:=by
 refine RB rfl rfl ?_;unfold Ko;have nv:=g.nv;refine jP H0 hu.one λh1 H1 s1=>?_;rw[fF];obtain⟨H2,s2⟩:=H1.yO fT [.I 0,.I 0,.ee,.ee,.ee];have H2:ej F (h1.new (.cells 29 1 true false [V.I 0,.I 0,.ee,.ee,.ee])) (er h1.next 29 [V.I 0,.I 0,.ee,.ee,.ee]::er h.next 29 (uC u vv vb vs)::cs):=H2;have s2:Sn F h1 F (h1.new (.cells 29 1 true false [V.I 0,.I 0,.ee,.ee,.ee])):=s2;generalize h1.new (.cells 29 1 true false [V.I 0,.I 0,.ee,.ee,.ee])=h2 at*;generalize h.next=l1 at*;generalize h1.next=l2 at*;refine oF (H2.ld 1 rfl rfl) (oF (H2.ld 1 rfl rfl) (ed (show _=some (V.agg [.I u.func,.I u.pc,.ee,.ee,.ee]) from rfl) ?_));refine gQ H2 rfl rfl rfl λh3 H3 s3=>?_;generalize h2.next=l3 at*;have ar:=(s1.trans s2).trans s3;have u3:=hu.since ar;refine oF (H3.ld 2 rfl rfl) (ed u3.v.len ?_)
 have H3:ej F h3 (fH en (λ_:Nat=>Option.none)::ev vE gi [] .ee::er l3 29 [.I u.func,.I u.pc,.ee,.ee,.ee]::er l2 29 [.I 0,.I 0,.ee,.ee,.ee]::er l1 29 (uC u vv vb vs)::cs):=
  (H3.add (p:=ev vE gi [] .ee) .nil λ_ h=>h).XG
 refine Ml (λk l h'=>∃(i:Nat) (xs:List (Vl×V)) (fa:Nat->Option (List Nat×V)) (wv:V),l=[.ptr l1 0,.ptr l2 0,.ptr l3 0,vv,.I u.ef.length,.I i]/\i+k=u.ef.length/\Sn F h3 F h'/\xs.length=i/\VZ (u.ef.take i) xs fa/\
  ej F h' (fH en fa::ev vE gi xs wv::er l3 29 [.I u.func,.I u.pc,wv,.ee,.ee]::er l2 29 [.I 0,.I 0,.ee,.ee,.ee]::er l1 29 (uC u vv vb vs)::cs)) ?_ (k:=u.ef.length)
  ⟨0,[],λ_=>Option.none,.ee,rfl,by omega,Sn.refl _ _,rfl,⟨rfl,λ_ _ _ h=>by simp at h,λ_ _=>rfl⟩,H3⟩
 rintro k _ _ _ _ _ _ h4 ⟨i,xs,fa,wv,⟨⟩,hk,s4,au,hc,H4⟩;unfold Fh;have u4:=u3.since s4;by_cases hi:i<u.ef.length
 ·refine gR ?_;have hx:=g0 hi;have M:u.ef.take (i+1)=u.ef.take i++[u.ef[i]]:=Qs hi;generalize u.ef[i]=x at*;obtain⟨lx,ox,w,_,x1,x2,xw,_⟩:=u4.val hx;refine ed x1 (ed x2 ?_);refine gQ H4 rfl rfl (by simp only[lW,eo,xw.one];rfl) λT H5 s5=>?_;generalize h4.next=lc at*;rw[Di,fF];obtain⟨G,I⟩:=H5.Vz (E:=eN) (xs:=[]) (ws:=[]) (n:=0) en rfl trivial rfl;have G:ej F (T.new (.cells 3 1 true false [])) (ev eN en [] (.slice T.next 0 0)::er lc 40 (lW x w)::_):=G;have I:Sn F T F (T.new (.cells 3 1 true false [])):=I;generalize T.new (.cells 3 1 true false [])=h6 at*;refine oF (G.ld 1 rfl rfl) ?_;have aF:=g.args i x hx;obtain⟨a,C,e7,_,J,s7⟩:=G.NI 0 rfl (kj:=8) ((xw.since s5).since I) (by decide) (by decide) (by simp;omega);have aG:eR 3 1 8 (.slice T.next 0 0) w h6=some (.val a C):=e7;rw[aG,ei];simp only[jx,MR]at J;have d:=J.one 0 rfl;obtain⟨U,e8,_,t,s8⟩:=J.st 1 (o:=4) (u:=a) rfl (by simp[lW]) d;refine ed (fR _ _ _) ?_;have aH:gh 1 (.ptr lc (0+4)) a C=some (.val .undef U):=by rw[wO];exact e8
  rw[aH,ei];simp only[jx,lU]at t;have t:ej F U (ev eN en x.args a::er lc 40 (lW x a)::fH en fa::ev vE gi xs wv::er l3 29 [.I u.func,.I u.pc,wv,.ee,.ee]::_):=t;refine oF (t.ld 4 rfl rfl) (ed (t.oL 1 rfl rfl) ?_);rw[ng (sz:=6) (w:=lW x a) rfl rfl (by simp only[lW,eo,d];rfl),fF];obtain⟨W,h9,e9,_,m,s9⟩:=t.uI 3 rfl (kj:=64) (B2:=40) (y:=(x,a)) (w:=lW x a) (ro:=false) ⟨rfl,d⟩ (by decide) (by decide) (by omega);have aI:eR 40 6 64 wv (.slice U.next 0 1) (U.new (.cells 40 6 true false (lW x a)))=some (.val W h9):=e9;rw[aI,ei];simp only[jx,lU]at m;obtain⟨X,aJ,_,c,z⟩:=m.st 4 (o:=2) (u:=W) rfl (by simp) (m.one 3 rfl);refine ed (fR _ _ _) ?_;have aw:gh 1 (.ptr l3 (0+2)) W h9=some (.val .undef X):=by rw[wO];exact aJ
  rw[aw,ei];simp only[jx,lU]at c;have Y:=c.Hz.OQ (i:=i) (hc.out i (by omega));refine fS ⟨k-1,by omega,i+1,xs++[(x,a)],up fa i (some (x.args,a)),W,rfl,by omega,((((s4.trans s5).trans I).trans s7).trans s8).trans (s9.trans z),by simp[au],?_,Y⟩;rw[M];have:=hc.snoc x a
  rwa [au]at this
 refine jf ?_;obtain rfl:i=u.ef.length:=by omega
 rw[Hj]at hc;have nb:=g.nb;refine oF (H4.ld 4 rfl rfl) (ed u4.b.len ?_);clear hk k
 have H4:ej F h4 (fH en (λ_:Nat=>Option.none)::ev ta fo [] .ee::fH en fa::ev vE gi xs wv::er l3 29 [.I u.func,.I u.pc,wv,.ee,.ee]::er l2 29 [.I 0,.I 0,.ee,.ee,.ee]::er l1 29 (uC u vv vb vs)::cs):=
  (H4.add (p:=ev ta fo [] .ee) .nil λ_ h=>h).XG
 refine Mz (λk l h'=>∃(F':Nat->Prop) (i:Nat) (bs:List (Bk×V)) (fn:Nat->Option (List Nat×V)) (wb:V),l=[.ptr l1 0,.ptr l2 0,.ptr l3 0,vb,.I u.blocks.length,.I i]/\i+k=u.blocks.length/\Sn F h4 F' h'/\bs.length=i/\UX (u.blocks.take i) bs fn/\
  ej F' h' (fH en fn::ev ta fo bs wb::fH en fa::ev vE gi xs wv::er l3 29 [.I u.func,.I u.pc,wv,wb,.ee]::er l2 29 [.I 0,.I 0,.ee,.ee,.ee]::er l1 29 (uC u vv vb vs)::cs)) ?_ (k:=u.blocks.length)
  ⟨F,0,[],λ_=>Option.none,.ee,rfl,by omega,Sn.refl _ _,rfl,⟨rfl,λ_ _ _ h=>by simp at h,λ_ _=>rfl⟩,H4⟩
 rintro k _ _ _ _ _ _ T ⟨Z,i,bs,fn,wb,⟨⟩,hk,s5,ax,aa,H5⟩;unfold Fg;have u5:=u4.since s5;by_cases hi:i<u.blocks.length
 ·refine gR ?_;have hB:=g0 hi;have M:u.blocks.take (i+1)=u.blocks.take i++[u.blocks[i]]:=Qs hi;generalize u.blocks[i]=B at*;have aS:=(g.vf i B hB).1;have aT:=(g.vf i B hB).2.1;have aU:=(g.vf i B hB).2.2;obtain⟨lx,ox,bv,bn,bp,_,x1,x2,iv,iN,ip,_⟩:=u5.vf hB;refine ed x1 (ed x2 ?_);refine gQ H5 rfl rfl (by simp only[kS,eo,iv.one,iN.one,ip.one];rfl) λh6 G I=>?_;generalize T.next=lc at*;have e:∀{h:Hp} {cs:List Pc},ej Z h cs->ej Z (h.new (.cells 3 1 true false [])) (er h.next 3 []::cs)/\Sn Z h Z (h.new (.cells 3 1 true false [])):=λH=>H.yO 3 [];rw[Di,gZ];obtain⟨J,s7⟩:=e G;generalize h6.new (.cells 3 1 true false [])=C at*;refine oF (J.ld 1 rfl rfl) ?_;rw[gZ];obtain⟨t,s8⟩:=e J;generalize C.new (.cells 3 1 true false [])=U at*;refine oF (t.ld 2 rfl rfl) ?_;rw[gZ];obtain⟨m,s9⟩:=e t;generalize U.new (.cells 3 1 true false [])=h9 at*;generalize h6.next=ra at*;generalize C.next=rb at*;generalize U.next=rc at*;refine oF (m.ld 3 rfl rfl) ?_;have ab:=(s7.trans s8).trans s9;refine⟨⟨m.get 0 rfl,bq⟩,m.ld 3 rfl rfl,⟨m.get 1 rfl,bq⟩,m.ld 3 rfl rfl,⟨m.get 2 rfl,bq⟩,?_⟩;have aK:=(iv.since I).since ab;have aL:=(iN.since I).since ab;have aM:=(ip.since I).since ab;have m:=m.empty 2 rfl;simp only[jx,lU]at m;obtain⟨a,hA,eA,nA,q,sA⟩:=m.NI 2 rfl (kj:=8) aK (by decide) (by decide) (by simp;omega);have aj:eR 3 1 8 (.slice ra 0 0) bv h9=some (.val a hA):=eA;rw[aj,ei];simp only[jx,lU,MR]at q;refine⟨nA,ed (fR _ _ _) ⟨q.ld 3 rfl rfl,⟨q.get 0 rfl,bq⟩,q.ld 3 rfl rfl,⟨q.get 1 rfl,bq⟩,?_⟩⟩;have q:=q.empty 1 rfl;simp only[jx,lU]at q;obtain⟨K,hC,eC,nC,L,sC⟩:=q.NI 1 rfl (kj:=8) (aL.since sA) (by decide) (by decide) (by simp;omega);have ak:eR 3 1 8 (.slice rb 0 0) bn hA=some (.val K hC):=eC;rw[ak,ei];simp only[jx,lU,MR]at L;refine⟨nC,L.ld 3 rfl rfl,⟨L.get 0 rfl,bq⟩,?_⟩;have L:=L.empty 0 rfl;simp only[jx,lU]at L;obtain⟨vp,hD,eD,nD,HD,sD⟩:=L.NI 0 rfl (kj:=8) ((aM.since sA).since sC) (by decide) (by decide) (by simp;omega);have aN:eR 3 1 8 (.slice rc 0 0) bp hC=some (.val vp hD):=eD;rw[aN,ei];simp only[jx,lU,MR]at HD;have d:=HD.one 2 rfl;have al:=HD.one 1 rfl;have ay:=HD.one 0 rfl;obtain⟨hE,eE,nE,HE,sE⟩:=HD.st 3 (o:=0) (u:=a) rfl (by simp[kS]) d;have am:gh 1 (.ptr lc (0+0)) a hD=some (.val .undef hE):=eE;refine⟨nD,?_⟩;rw[am,ei];simp only[jx,lU]at HE;obtain⟨hG,eG,nG,HG,sG⟩:=HE.st 3 (o:=3) (u:=K) rfl (by simp[kS]) al;have an:gh 1 (.ptr lc (0+3)) K hE=some (.val .undef hG):=by rw[wO];exact eG
  refine⟨nE,ed (fR _ _ _) ?_⟩;rw[an,ei];simp only[jx,lU]at HG;obtain⟨hI,eI,nI,HI,sI⟩:=HG.st 3 (o:=4) (u:=vp) rfl (by simp[kS]) ay;have aO:gh 1 (.ptr lc (0+4)) vp hG=some (.val .undef hI):=by rw[wO];exact eI
  refine⟨nG,ed (fR _ _ _) ?_⟩;rw[aO,ei];simp only[jx,lU]at HI;have HI:ej Z hI (ev eN en B.ez vp::ev eN en B.next K::ev eN en B.ef a::er lc 38 (kS B a K vp)::fH en fn::ev ta fo bs wb::fH en fa::ev vE gi xs wv::er l3 29 [.I u.func,.I u.pc,wv,wb,.ee]::_):=HI;refine⟨nI,oF (HI.ld 8 rfl rfl) (ed (HI.oL 3 rfl rfl) ?_)⟩;obtain⟨HJ,sJ,rp⟩:=HI.lH 0 rfl;simp only[jx]at HJ;obtain⟨HK,sK,rv⟩:=HJ.lH 2 rfl;simp only[jx,lU]at HK;have rp:=rp.since sK;have HK:=HK.tail.Hz.Hz;generalize (λl=>(Z l\/Loc vp l)\/Loc a l)=FK at*;rw[ng (sz:=6) (w:=kS B a K vp) rfl rfl (by simp only[kS,eo,d,al,ay];rfl),fF];obtain⟨ac,hL,eL,_,N,sL⟩:=HK.uI 2 rfl (kj:=96) (B2:=38) (y:=(B,K)) (w:=kS B a K vp) (ro:=false) ⟨a,vp,rfl,rv,rp,al⟩ (by decide) (by decide) (by omega);have O:eR 38 6 96 wb (.slice hI.next 0 1) (hI.new (.cells 38 6 true false (kS B a K vp)))=some (.val ac hL):=eL;rw[O,ei];simp only[jx,lU]at N;obtain⟨hM,eM,_,HM,sM⟩:=N.st 5 (o:=3) (u:=ac) rfl (by simp) (N.one 2 rfl);refine ed (fR _ _ _) ?_;have P:gh 1 (.ptr l3 (0+3)) ac hL=some (.val .undef hM):=by rw[wO];exact eM
  rw[P,ei];simp only[jx,lU]at HM;have HN:=HM.OQ (i:=i) (aa.out i (by omega));have aA:=((((((I.trans ab).trans sA).trans sC).trans sD).trans sE).trans sG).trans sI;refine fS ⟨k-1,by omega,FK,i+1,bs++[(B,K)],up fn i (some (B.next,K)),ac,rfl,by omega,s5.trans (((aA.trans sJ).trans sK).trans (sL.trans sM)),by simp[ax],?_,HN⟩;rw[M];have:=aa.snoc B K
  rwa [ax]at this
 refine jf ?_;have ns:=g.ns;obtain rfl:i=u.blocks.length:=by omega
 rw[Hj]at aa;refine oF (H5.ld 6 rfl rfl) (ed u5.s.len ?_);clear hk k
 have H5:ej Z T (fH en (λ_:KF=>Option.none)::ev (eL OP) kJ [] .ee::fH en fn::ev ta fo bs wb::fH en fa::ev vE gi xs wv::er l3 29 [.I u.func,.I u.pc,wv,wb,.ee]::er l2 29 [.I 0,.I 0,.ee,.ee,.ee]::er l1 29 (uC u vv vb vs)::cs):=
  (H5.add (p:=ev (eL OP) kJ [] .ee) .nil λ_ h=>h).XG
 refine Mu (λk l h'=>∃(F':Nat->Prop) (i:Nat) (ss:List (List (Fm×V×V))) (fl:KF->Option (List Nat×V)) (ws:V),l=[.ptr l2 0,.ptr l3 0,vs,.I u.eh.length,.I i]/\i+k=u.eh.length/\Sn Z T F' h'/\ss.length=i/\ZC (u.eh.take i) ss fl/\
  ej F' h' (fH en fl::ev (eL OP) kJ ss ws::fH en fn::ev ta fo bs wb::fH en fa::ev vE gi xs wv::er l3 29 [.I u.func,.I u.pc,wv,wb,ws]::er l2 29 [.I 0,.I 0,.ee,.ee,.ee]::er l1 29 (uC u vv vb vs)::cs)) ?_ (k:=u.eh.length)
  ⟨Z,0,[],λ_=>Option.none,.ee,rfl,by omega,Sn.refl _ _,rfl,⟨rfl,λ_ _ _ _ _ _ h=>by simp at h,λ_ _ _ _=>rfl⟩,H5⟩
 rintro k _ _ _ _ _ h6 ⟨D,i,ss,fl,ws,⟨⟩,hk,I,aB,ae,G⟩;unfold Fl;have u6:=u5.since I;by_cases hi:i<u.eh.length
 ·refine gR ?_;have hS:=g0 hi;have M:u.eh.take (i+1)=u.eh.take i++[u.eh[i]]:=Qs hi;generalize u.eh[i]=fs at*;have aV:=(g.st i fs hS).1;obtain⟨lx,ox,f,_,x1,x2,_,xf⟩:=u6.st hS;refine ed x1 (ed x2 ?_);refine gQ G rfl rfl (by simp only[eo,xf.one];rfl) λC J s7=>?_;generalize h6.next=lc at*;rw[fF];obtain⟨t,s8⟩:=J.yO kJ [.ee];have t:ej D (C.new (.cells 47 1 true false [V.ee])) (er C.next 47 [.ee]::er lc 47 [f]::_):=t;have s8:Sn D C D (C.new (.cells 47 1 true false [V.ee])):=s8;generalize C.new (.cells 47 1 true false [V.ee])=U at*;generalize C.next=ld at*;have xf:=(xf.since s7).since s8;refine oF (t.ld 1 rfl rfl) (ed xf.len ?_)
  have t:ej D U (fH en fl::ev OP JZ [] .ee::er ld 47 [.ee]::ev (eL OP) kJ ss ws::fH en fn::ev ta fo bs wb::fH en fa::ev vE gi xs wv::er l3 29 [.I u.func,.I u.pc,wv,wb,ws]::er l2 29 [.I 0,.I 0,.ee,.ee,.ee]::er l1 29 (uC u vv vb vs)::cs):=
   (t.Hz.sw.add (p:=ev OP JZ [] .ee) .nil λ_ h=>h).sw
  refine Mg (λk' l h'=>∃(j:Nat) (ys:List (Fm×V×V)) (A:KF->Option (List Nat×V)) (R:V),l=[.ptr l2 0,.ptr l3 0,.ptr ld 0,vs,.I u.eh.length,.I i,f,.I fs.length,.I j]/\j+k' = fs.length/\Sn D U D h'/\ys.length=j/\CpF i (fs.take j) ys A/\(∀s k b,s≠i->A (s,k,b)=fl (s,k,b))/\
   ej D h' (fH en A::ev OP JZ ys R::er ld 47 [R]::ev (eL OP) kJ ss ws::fH en fn::ev ta fo bs wb::fH en fa::ev vE gi xs wv::er l3 29 [.I u.func,.I u.pc,wv,wb,ws]::er l2 29 [.I 0,.I 0,.ee,.ee,.ee]::er l1 29 (uC u vv vb vs)::cs)) ?_ (k:=fs.length)
   ⟨0,[],fl,.ee,rfl,by omega,Sn.refl _ _,rfl,⟨rfl,λ_ _ _ _ h=>by simp at h,λk b _=>ae.out i k b (by omega)⟩,λ_ _ _ _=>rfl,t⟩
  rintro k' _ _ _ _ _ _ _ _ _ h9 ⟨j,ys,A,R,⟨⟩,aW,s9,aC,S,aD,m⟩;unfold E5;have aP:=xf.since s9;by_cases hj:j<fs.length
  ·refine gR ?_;have hF:=g0 hj;have aQ:fs.take (j+1)=fs.take j++[fs[j]]:=Qs hj;have aX:=(g.st i fs hS).2 fs[j] (EA hj);generalize fs[j]=x at*;obtain⟨ly,oy,xa,xb,_,y1,y2,ya,yb⟩:=aP.wB hF;refine ed y1 (ed y2 ?_);refine gQ m rfl rfl (by simp only[Ji,eo,ya.one,yb.one];rfl) λX c z=>?_;generalize h9.next=le at*;have e:∀{h:Hp} {cs:List Pc},ej D h cs->ej D (h.new (.cells 3 1 true false [])) (er h.next 3 []::cs)/\Sn D h D (h.new (.cells 3 1 true false [])):=λH=>H.yO 3 [];rw[Di,gZ];obtain⟨Y,ao⟩:=e c;generalize X.new (.cells 3 1 true false [])=aE at*;refine oF (Y.ld 1 rfl rfl) ?_;rw[gZ];obtain⟨r,ap⟩:=e Y;generalize aE.new (.cells 3 1 true false [])=aR at*;generalize X.next=ra at*;generalize aE.next=rb at*;refine oF (r.ld 2 rfl rfl) ?_;refine⟨⟨r.get 0 rfl,bq⟩,r.ld 2 rfl rfl,⟨r.get 1 rfl,bq⟩,?_⟩;have ya:=((ya.since z).since ao).since ap;have yb:=((yb.since z).since ao).since ap;have r:=r.empty 1 rfl;simp only[jx,lU]at r;obtain⟨a,hA,eA,nA,q,sA⟩:=r.NI 1 rfl (kj:=8) ya (by decide) (by decide) (by simp;omega);have aj:eR 3 1 8 (.slice ra 0 0) xa aR=some (.val a hA):=eA;rw[aj,ei];simp only[jx,lU,MR]at q;refine⟨nA,ed (fR _ _ _) ⟨q.ld 2 rfl rfl,⟨q.get 0 rfl,bq⟩,?_⟩⟩;have q:=q.empty 0 rfl;simp only[jx,lU]at q;obtain⟨vc,hC,eC,nC,L,sC⟩:=q.NI 0 rfl (kj:=8) (yb.since sA) (by decide) (by decide) (by simp;omega);have ak:eR 3 1 8 (.slice rb 0 0) xb hA=some (.val vc hC):=eC;rw[ak,ei];simp only[jx,lU,MR]at L;have d:=L.one 1 rfl;have aq:=L.one 0 rfl;obtain⟨hE,eE,nE,HE,sE⟩:=L.st 2 (o:=2) (u:=a) rfl (by simp[Ji]) d;have am:gh 1 (.ptr le (0+2)) a hC=some (.val .undef hE):=by rw[wO];exact eE
   refine⟨nC,?_⟩;rw[am,ei];simp only[jx,lU]at HE;obtain⟨hG,eG,nG,HG,sG⟩:=HE.st 2 (o:=3) (u:=vc) rfl (by simp[Ji]) aq;have an:gh 1 (.ptr le (0+3)) vc hE=some (.val .undef hG):=by rw[wO];exact eG
   refine⟨nE,ed (fR _ _ _) ?_⟩;rw[an,ei];simp only[jx,lU]at HG;have HG:ej D hG (ev eN en x.stack vc::ev eN en x.locals a::er le 44 (Ji x a vc)::fH en A::ev OP JZ ys R::er ld 47 [R]::_):=HG;refine⟨nG,oF (HG.ld 5 rfl rfl) (ed (HG.oL 2 rfl rfl) ?_)⟩;rw[ng (sz:=4) (w:=Ji x a vc) rfl rfl (by simp only[Ji,eo,d,aq];rfl),fF];obtain⟨ag,hL,eL,_,N,sL⟩:=HG.uI 4 rfl (kj:=64) (B2:=44) (y:=(x,a,vc)) (w:=Ji x a vc) (ro:=false) ⟨rfl,d,aq⟩ (by decide) (by decide) (by omega);have O:eR 44 4 64 R (.slice hG.next 0 1) (hG.new (.cells 44 4 true false (Ji x a vc)))=some (.val ag hL):=eL;rw[O,ei];simp only[jx,lU]at N;obtain⟨hM,eM,_,HM,sM⟩:=N.st 5 (o:=0) (u:=ag) rfl (by simp) (N.one 4 rfl);refine ed (fR _ _ _) ?_;have P:gh 1 (.ptr ld (0+0)) ag hL=some (.val .undef hM):=eM;rw[P,ei];simp only[jx,lU]at HM;have HN:=HM.Yr (i:=(i,j,false)) (j:=(i,j,true)) (S.out j false (by omega)) (S.out j true (by omega)) (by simp);refine fS ⟨k'-1,by omega,j+1,ys++[(x,a,vc)],up (up A (i,j,false) (some (x.locals,a))) (i,j,true) (some (x.stack,vc)),ag,rfl,by omega,((((((s9.trans z).trans ao).trans ap).trans sA).trans sC).trans (sE.trans sG)).trans (sL.trans sM),by simp[aC],?_,?_,HN⟩
   ·rw[aQ];have:=S.snoc x a vc
    rwa [aC]at this
   ·intro s k b hs;rw[iI _ _ (by simp[hs]),iI _ _ (by simp[hs])];exact aD s k b hs
  refine jf ?_;obtain rfl:j=fs.length:=by omega
  rw[Hj]at S;obtain⟨c,z,rf⟩:=m.lH 1 rfl;simp only[jx,lU]at c;generalize (λl=>D l\/Loc R l)=F7 at*;have c:=c.Hz;refine oF (c.ld 7 rfl rfl) (ed (c.oL 1 rfl rfl) ?_);rw[ng (sz:=1) (w:=[R]) rfl rfl (by simp only[eo,rf.one];rfl),fF];obtain⟨ah,hL,eL,_,N,sL⟩:=c.uI 2 rfl (kj:=24) (B2:=47) (y:=ys) (w:=[R]) (ro:=false) ⟨R,rfl,rf⟩ (by decide) (by decide) (by omega);have O:eR 47 1 24 ws (.slice h9.next 0 1) (h9.new (.cells 47 1 true false [R]))=some (.val ah hL):=eL;rw[O,ei];simp only[jx,lU]at N;obtain⟨hM,eM,_,HM,sM⟩:=N.st 7 (o:=4) (u:=ah) rfl (by simp) (N.one 2 rfl);refine ed (fR _ _ _) ?_;have P:gh 1 (.ptr l3 (0+4)) ah hL=some (.val .undef hM):=by rw[wO];exact eM
  rw[P,ei];simp only[jx,lU]at HM;refine fS ⟨k-1,by omega,F7,i+1,ss++[ys],A,ah,rfl,by omega,((((I.trans s7).trans s8).trans s9).trans z).trans (sL.trans sM),by simp[aB],?_,HM.Hz⟩;rw[M];have ai:=S;rw[<-aB]at ai;exact ae.snoc ai λs k b hs=>aD s k b (by omega)
 refine jf ?_;obtain rfl:i=u.eh.length:=by omega
 rw[Hj]at ae;refine ed (G.oL 6 rfl rfl) ?_;obtain⟨C,e7,_,J,s7⟩:=G.Uf 7 (ws:=[.I u.func,.I u.pc,wv,wb,ws]) (n:=5) rfl rfl rfl (by simp only[eo,G.one 5 rfl,G.one 3 rfl,G.one 1 rfl];rfl);rw[e7,ei];simp only[jx,lU]at J;refine ed (J.oL 7 rfl rfl) ?_;exact H D C wv wb ws xs bs ss fa fn fl (((ar.trans s4).trans s5).trans (I.trans s7)) hc aa ae J.zcM
end
open Un Dm
section
variable{F F':Nat->Prop}{h h':Hp}{cs ds:List Pc}{Q:fq}{u:U}{vv vb vs:V}
def JP(cs:List Pc)(l:Nat):Prop:=∃(i:Nat)(c:Pc),cs[i]? =some c/\c.lh l
theorem ej.zcI(H:ej F h cs):ej (λl=>F l\/JP cs l) h []:=
 ej.nil λl a=>a.elim (H.fl l) λ⟨i,c,hc,b⟩=>(c.LR (H.ok i c hc) l b).1
theorem ej.back(H:ej F h cs){G:Nat->Prop}(s:Sn (λl=>F l\/JP cs l) h G h'):ej F h' cs where
 fl l a:=BF (H.fl l a) s.next
 ok i c hc:=c.fe (H.ok i c hc) (λl a=>s.fe l (.inl a)) (λl a=>s.fe l (.inr ⟨i,c,hc,a⟩)) s.next
 A5:=H.A5
theorem Sn.back{G:Nat->Prop}(s:Sn (λl=>F l\/JP cs l) h G h'):Sn F h F h':=⟨s.next,λl a=>s.fe l (.inl a),λ_ h=>h⟩
theorem ej.zac(H:ej F h cs){ty:Nat}{xs:List Nat}{v:V}(s:Sn (λl=>F l\/JP cs l) h (λl=>F l\/JP cs l) h') (k:ej (λl=>F l\/JP cs l) h' [ev eN ty xs v]):ej F h' (ev eN ty xs v::cs):=by
 have j:jY eN ty (λl=>F l\/JP cs l) h' xs v:=k.ok 0 _ rfl;refine(H.back s).cons ?_ λi c hc l m d=>(j.rI m).2.2 (.inr ⟨i,c,hc,d⟩);rcases j with⟨f,g⟩|⟨t,ws,f,g,w,n,y,o⟩
 ·exact .inl ⟨f,g⟩
 ·exact .inr ⟨t,ws,f,g,by simp_all,n,by
   have p:∀(ws:List V) (xs:List Nat),pd eN (λl=>F l\/JP cs l) h' ws xs->pd eN F h' ws xs:=λws xs=>by
    induction xs generalizing ws with
    |nil=>exact id
    |cons x xs q=>rintro⟨a,b,e,r,u⟩;exact⟨a,b,e,r,q b u⟩
   simp_all,o⟩
theorem OV{α β:Type}{E:o0 α} {E':o0 β}:∀(ws:List V)(xs:List α)(ys:List β),ys.length=xs.length->(∀(k:Nat) x y cs,xs[k]? =some x->ys[k]? =some y->E.rel F h x cs->E'.rel F' h y cs)->pd E F h ws xs->pd E' F' h ws ys
 |_,[],[],_,_,h=>h
 |ws,x::xs,y::ys,hl,hr,⟨a,b,e,r,hw⟩=>⟨a,b,e,hr 0 x y a rfl rfl r,OV b xs ys (by simp_all) (λk x y cs hx c=>hr (k+1) x y cs (by simp_all) (by simp_all)) hw⟩
theorem ej.Uw{α β:Type}{E:o0 α} {E':o0 β}(H:ej F h cs)(i:Nat){ty:Nat}{xs:List α}{ys:List β}{v:V}(hi:cs[i]? =some (ev E ty xs v))(d:E'.sz=E.sz)(a:ys.length=xs.length)(e:∀(k:Nat) x y cs,xs[k]? =some x->ys[k]? =some y->E.rel F h x cs->E'.rel F h y cs):ej F h (cs.set i (ev E' ty ys v)):=by
 refine H.swap hi ?_ λ_ h=>h;rcases H.row i hi with⟨b,c⟩|⟨t,ws,b,c,f,g,j,l⟩
 ·subst c;exact .inl ⟨b,wBB a⟩
 ·exact .inr ⟨t,ws,by rw[a];exact b,c,f,by rw[d];exact g,OV ws xs ys a e j,l⟩
theorem iG.Uw{α β:Type}{E:o0 α} {E':o0 β}{xs:List α}{ys:List β}{v:V}(hs:iG E F h xs v)(f:E'.sz=E.sz)(c:∀l,F l->F' l)(d:ys.length=xs.length)(g:∀(k:Nat) x y cs,xs[k]? =some x->ys[k]? =some y->E.rel F h x cs->E'.rel F' h y cs):iG E' F' h ys v:=by
 rcases hs with⟨b,a⟩|⟨l,o,ty,live,ro,ws,b,a,i,j,e,m⟩
 ·subst a;exact .inl ⟨b,wBB d⟩
 ·exact .inr ⟨l,o,ty,live,ro,ws,by simp_all,c l a,by simp_all,by grind,e,by grind[OV]⟩
theorem za8{xs:List Nat}{v:V}(hs:iG eN F h xs v)(f:xs.length<1000000)(x:Nat)(H:Q (.bool (xs.contains x)) h) :
  cP CS j4 [v,.I x] h Q:=by
 refine yZ rfl rfl ?_;unfold qC;refine Bp rfl rfl ?_;unfold tq;refine ed hs.len ?_;refine yY (λk l h'=>∃i:Nat,l=[v,.I x,.I xs.length,.I (i:Nat)]/\h' = h/\i+k=xs.length/\∀j y,j<i->xs[j]? =some y->y≠x) ?_ (k:=xs.length) (by grind);rintro k _ _ _ _ h' ⟨i,⟨⟩,rfl,hk,a⟩;unfold qj;by_cases hi:i<xs.length
 ·refine gR ?_;have hx:=g0 hi;generalize xs[i]=y at*;obtain⟨l,o,_,b,c⟩:=hs.nat hx .i64;refine ed b (ed c (gM ?_));by_cases e:x=y
  ·refine gI (by rw[e]) (ed (pq ..) ?_);rw[O7 (by omega)]
   grind
  ·refine gv (by omega) (fS ⟨k-1,by omega,i+1,rfl,rfl,by omega,λj z d g=>?_⟩)
   grind
 ·refine jf (ed (pq ..) ?_);rw[O9 (by omega)];have:xs.contains x=false:=by
   rw[wB0];intro h;obtain⟨j,d⟩:=mr.1 (wBG.1 h);exact by grind
  simp_all
def iL(az:List Int):Nat->Int:=λv=>az.getD v (-1)
theorem CX{az:List Int}{v:Nat}{a:Int}(h:az[v]? =some a):iL az v=a:=by
 grind[iL]
theorem Y2{lt:Nat}{iQ:V}{az:List Int}{G:Nat->Prop}(d:eQ (.ptr lt 5) h=some iQ)(hs:iG eZ G h az iQ)(K:az.length<=3000)(f:∀(v:Nat)(a:Int),az[v]? =some a->a<az.length){v:Nat}(hv:v<az.length)
  (H:vy (iL az) (az.length+1) v<az.length->Q (.I (vy (iL az) (az.length+1) v:Nat)) h):cP CS iW [.ptr lt 0,.I v] h Q:=by
 refine Gx rfl rfl ?_;unfold yu;refine CD (λk l h'=>∃n w:Nat,l=[.ptr lt 0,.I (w:Nat),.I (n:Nat)]/\h' = h/\n+k=az.length+1/\w<az.length/\vy (iL az) k w=vy (iL az) (az.length+1) v) ?_ (k:=az.length+1) (by grind);rintro k _ _ _ h' ⟨n,w,⟨⟩,rfl,hk,C,D⟩;unfold ve;have hx:=g0 C;have I:=CX hx;have J:=f w _ hx;generalize az[w]=a at*;obtain⟨l,o,_,E,F⟩:=hs.int hx .i64;have d:eQ (.ptr lt (0+5)) h' = some iQ:=d;refine ed (fI _ _) (ed (by rfl) (ed d (ed E (ed F (ed (pq ..) ?_)))));rw[show mn (V.bool (decide (0<=a))) (oB (some (V.ptr lt 0)) λg=>oB (gU g) λi=>oB (fQ 5 i) λj=>oB (eQ j h') λp=>oB (some (V.I w)) λq=>oB (hV 1 p q) λr=>oB (eQ r h') λs=>oB (some (V.I w)) λt=>eJ .neq 3 s t)=some (.bool (decide (0<=a)&&(a != (w:Int)))) from by
  simp_all]
 rw [iy];rw[show mn (V.bool (decide (0<=a)&&(a != (w:Int)))) (oB (some (V.I n)) λu=>oB (some (V.ptr lt 0)) λx=>oB (gU x) λy=>oB (fQ 5 y) λz=>oB (eQ z h') λA=>oB (fD A) λB=>eJ .leq 3 u B)=some (.bool ((decide (0<=a)&&(a != (w:Int)))&&decide ((n:Int)<=az.length))) from by
  simp only[fy,fI,fR,d,hs.len,Li,jD]]
 rw[iy]
 cases k with
 | zero=>
   refine jF (gv (by grind) ?_)
   grind[vy,iL]
 | succ k=>
   rw[O7 (show(n:Int)<=az.length by omega),Bool.and_true];have e:vy (iL az) (k+1) w=if 0<=iL az w/\iL az w≠(w:Int) then vy (iL az) k (iL az w).toNat else w:=rfl
   rw[I]at e;by_cases c:0<=a/\a≠(w:Int)
   ·refine jF (gI (by simp_all) ?_)
    refine ed (fI _ _) (ed (by rfl) (ed d (ed E (ed F (jZ (m:=1) (by omega) (by omega) ?_)))));rw[if_pos c]at e;obtain⟨b,rfl⟩:=Int.eq_ofNat_of_zero_le c.1;exact⟨k,by omega,n+1,b,rfl,rfl,by omega,by omega,by simp_all⟩
   ·refine jF (gv (λh=>c ?_) ?_)
    ·rw[uF,D1,wB5]at h
     exact h
    ·rw[if_neg c]at e
     rw[e]at D;rw[<-D]at H;exact H C
theorem JQ(m:fZ (uC u vv vb vs)=true)(hv:fD vv=some (.I u.ef.length))(B:u.ef.length<=3000)(n:ej F h cs)(H:∀h' v,Sn F h F h'->ej F h' (ev eZ en ((List.range u.ef.length).map λ(i:Nat)=>(i:Int)) v::cs)->Q v h') :
  cP CS rH [.agg (uC u vv vb vs)] h Q:=by
 refine St rfl rfl ?_;unfold KX;refine jP n m λb c p=>?_;refine ed (by rfl) (ed (c.ld 0 rfl rfl) (ed hv ?_));rw[oC (z:=V.I 0) rfl (by decide) (by omega),fF];obtain⟨q,r⟩:=c.make (E:=eZ) (ty:=en) (y:=0) (u:=V.I 0) u.ef.length rfl rfl;generalize b.new (.cells en 1 true false (List.replicate u.ef.length (V.I 0)))=C at*;generalize b.next=lr at*;refine ed (by rfl) ?_;refine Mi (λk l h'=>∃(i:Nat) (ys:List Int),l=[.slice lr 0 u.ef.length,.I u.ef.length,.I i]/\i+k=u.ef.length/\ys.length=u.ef.length/\(∀j:Nat,j<i->ys[j]? =some (j:Int))/\Sn F h F h'/\ej F h' (ev eZ en ys (.slice lr 0 u.ef.length)::er h.next 29 (uC u vv vb vs)::cs)) ?_ (k:=u.ef.length) ⟨0,_,rfl,by omega,wBY,by omega,p.trans r,q⟩;rintro k _ _ _ s ⟨i,ys,⟨⟩,hk,t,D,d,f⟩;unfold Fy;by_cases hi:i<u.ef.length
 ·refine gR ?_;obtain⟨l,o,G,w,x,_,g,A⟩:=f.Ma 0 rfl (k:=i) (y:=(i:Int)) (u:=V.I i) (by omega) rfl rfl rfl;refine ed w ?_;rw[x,ei];simp only[jx]at g;refine fS ⟨k-1,by omega,i+1,ys.set i (i:Int),rfl,by omega,by simp[t],λj a=>?_,d.trans A,g⟩
  grind
 ·refine jf ?_;have e:ys=(List.range u.ef.length).map λ(i:Nat)=>(i:Int):=by
   refine So λj=>?_;by_cases a:j<u.ef.length
   ·grind
   ·simp_all
  rw[<-e]at H;exact H s _ d f.Hz
end
