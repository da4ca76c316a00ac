/- Parts. -/
import Derived.Test.YtflkbfabonggkaaGreatDoorM27
import Derived.Test.YtflkbfabonggkaaGreatDoorM34
import Derived.Test.YtflkbfabonggkaaGreatDoorM33
set_option maxHeartbeats 4000000
namespace Go.Proofs.YtflkbfabonggkaaGreatDoor.Hx
open Un Dm
theorem zbf:P0.underlying eo=some (.int .i64):=by kernel_rfl
theorem Uo(a b:Int):KW eo (.I a) (.I b)=some (a == b):=by
 unfold KW;rw[zbf];rfl
section
variable{u:U}
theorem AK{w:Nat}(h:nt u w):w<u.ef.length:=by
 obtain⟨x,a,_⟩:=h
 grind
theorem Pg{P:Nat->Prop}(g:Gd u P){s:Nat}{fs:List Fm}(a:u.eh[s]? =some fs):∀w∈hO fs,w<u.ef.length:=by
 intro w b;unfold hO at b;obtain⟨f,c,d⟩:=Xq.1 b;obtain⟨_,_,e⟩:=g.st s fs a;obtain⟨_,_,i,j⟩:=e f c;rcases I8.1 d with h|h
 ·simp_all[AK]
 simp_all[AK]
theorem O3(g:Good u){i:Nat}{x:Vl}(d:u.ef[i]? =some x):x.op=21\/x.op=20->x.args.length<=700:=by
 have nb:=g.nb;obtain⟨b,k,a⟩:=g.Fi i (by grind) trivial;obtain⟨B,e,hk⟩:=id a;rintro(c|c)
 ·rw[(g.CJ _ _ _ _ _ a d c e).2,g.eQ b B e,<-oZ];have:=oW g (i:=u.blocks.length) (j:=0) (b:=b) (iZ _) (by omega);omega
 ·rw[g.putAt i x d c];omega
theorem ES{P:Nat->Prop}(g:Gd u P)(s:Nat)(fs:List Fm)(a:u.eh[s]? =some fs):fs.length<=30/\∀f∈fs,f.locals.length<=40/\f.stack.length<=60:=by
 obtain⟨_,b,c⟩:=g.st s fs a
 simp_all
theorem CZ(g:Good u){b:Nat}{B:Bk}(a:u.blocks[b]? =some B):B.ef.length<=3000:=by
 have nv:=g.nv;have:=jj u.ef.length B.ef (IK g a) λv hv=>by
  obtain⟨k,hk⟩:=mQ.1 hv;exact g.jE v b k ⟨B,a,hk⟩
 omega
theorem Et(g:Good u){b:Nat}{B:Bk}(a:u.blocks[b]? =some B):B.eQ.length<=700:=by
 have nb:=g.nb;rw[g.eQ b B a,<-oZ];have:=oW g (i:=u.blocks.length) (j:=0) (b:=b) (iZ _) (by omega);omega
theorem CM(g:Good u){b:Nat}{B:Bk}(a:u.blocks[b]? =some B):B.next.length<=2:=by
 rcases g.fin b B a with⟨_,h⟩|⟨_,h,_⟩|⟨_,h,_⟩
 ·omega
 ·omega
 simp_all
end
open Un Dm
def yA:p8 (Vl×V) where
 sz:=6
 rel _ _ x cs:=cs=my x.1 x.2/\x.2.one=true
 len h:=by rw[h.1];rfl
 one h:=by rw[h.1];simp only[my,ey,h.2];rfl
 fh _ h:=h
 mono _ h:=h
def vS:p8 (Bk×V) where
 sz:=6
 rel F h x cs:=∃v p,cs=kI x.1 v x.2 p/\iy eN F h x.1.ef v/\iy eN F h x.1.eQ p/\x.2.one=true
 len:=λ⟨_,_,h,_⟩=>by subst h;rfl
 one:=λ⟨_,_,h,a,b,c⟩=>by subst h;simp only[kI,ey,a.one,b.one,c];rfl
 fh:=λhk ⟨v,p,h,a,b,c⟩=>⟨v,p,h,a.fh hk,b.fh hk,c⟩
 mono:=λd ⟨v,p,h,a,b,c⟩=>⟨v,p,h,a.mono d,b.mono d,c⟩
def QX:p8 (Fm×V×V) where
 sz:=4
 rel _ _ x cs:=cs=Ou x.1 x.2.1 x.2.2/\x.2.1.one=true/\x.2.2.one=true
 len h:=by rw[h.1];rfl
 one h:=by rw[h.1];simp only[Ou,ey,h.2.1,h.2.2];rfl
 fh _ h:=h
 mono _ h:=h
section
variable{F F':Nat->Prop}{h h':Hp}{cs:List Pc}{Q:ft}{u:U}{vv vb vs:V}
theorem ej.empty(H:ej F h cs)(i:Nat){l:Nat}(hi:cs[i]? =some (ev l eo [])):ej F h (cs.set i (eJ eN eo [] (.slice l 0 0))):=by
 have a:=H.ok i _ hi;exact H.swap hi (.inr ⟨l,[],rfl,a.2.1,a.2.2,a.1,trivial,rfl⟩) λm e=>e.symm
structure ZG (vs:List Vl) (xs:List (Vl×V)) (fa:Nat->Option (List Nat×V)):Prop where
 fst:xs.map Prod.fst=vs
 row:∀i x w,xs[i]? =some (x,w)->fa i=some (x.args,w)
 out:∀i,xs.length<=i->fa i=none
structure Xs (bs:List Bk) (xs:List (Bk×V)) (fn:Nat->Option (List Nat×V)):Prop where
 fst:xs.map Prod.fst=bs
 row:∀i x w,xs[i]? =some (x,w)->fn i=some (x.next,w)
 out:∀i,xs.length<=i->fn i=none
abbrev KF:=Nat×Nat×Bool
structure CpF (s:Nat) (fs:List Fm) (xs:List (Fm×V×V)) (fl:KF->Option (List Nat×V)):Prop where
 fst:xs.map Prod.fst=fs
 loc:∀k x l w,xs[k]? =some (x,l,w)->fl (s,k,false)=some (x.locals,l)/\fl (s,k,true)=some (x.stack,w)
 out:∀k b,xs.length<=k->fl (s,k,b)=none
structure CpS (ss:List (List Fm)) (xs:List (List (Fm×V×V))) (fl:KF->Option (List Nat×V)):Prop where
 fst:xs.map (λl=>l.map Prod.fst)=ss
 loc:∀s l k x a w,xs[s]? =some l->l[k]? =some (x,a,w)->fl (s,k,false)=some (x.locals,a)/\fl (s,k,true)=some (x.stack,w)
 out:∀s k b,xs.length<=s->fl (s,k,b)=none
theorem ZG.snoc{vs:List Vl}{xs:List (Vl×V)}{fa:Nat->Option (List Nat×V)}(c:ZG vs xs fa)(x:Vl)(w:V):ZG (vs++[x]) (xs++[(x,w)]) (up fa xs.length (some (x.args,w))):=by
 refine⟨by rw[Ox,c.fst];rfl,λi y v hi=>?_,λi hi=>?_⟩
 ·by_cases e:i<xs.length
  ·rw[Vx e]at hi;rw[js _ _ (by omega)];exact c.row i y v hi
  ·rw[Yq (by omega)]at hi;have a:i-xs.length=0:=by have:=(jP.1 hi).1;simp at this;omega
   rw[a]at hi;cases hi;obtain rfl:i=xs.length:=by omega
   exact lg _ _ _
 ·rw[Ji]at hi;rw[js _ _ (by simp at hi;omega)];exact c.out i (by simp at hi;omega)
theorem Xs.snoc{bs:List Bk}{xs:List (Bk×V)}{fn:Nat->Option (List Nat×V)}(c:Xs bs xs fn)(x:Bk)(w:V):Xs (bs++[x]) (xs++[(x,w)]) (up fn xs.length (some (x.next,w))):=by
 refine⟨by rw[Ox,c.fst];rfl,λi y v hi=>?_,λi hi=>?_⟩
 ·by_cases e:i<xs.length
  ·rw[Vx e]at hi;rw[js _ _ (by omega)];exact c.row i y v hi
  ·rw[Yq (by omega)]at hi;have a:i-xs.length=0:=by have:=(jP.1 hi).1;simp at this;omega
   rw[a]at hi;cases hi;obtain rfl:i=xs.length:=by omega
   exact lg _ _ _
 ·rw[Ji]at hi;rw[js _ _ (by simp at hi;omega)];exact c.out i (by simp at hi;omega)
theorem ej.re(H:ej F h cs){ds:List Pc}(m:Nat->Nat)(a:∀i c,ds[i]? =some c->cs[m i]? =some c)(b:∀i j,i<ds.length->j<ds.length->m i=m j->i=j):ej F h ds where
 fl:=H.fl
 ok i c hc:=H.ok (m i) c (a i c hc)
 E2 i j c d hc hd hn:=H.E2 (m i) (m j) c d (a i c hc) (a j d hd) λe=>hn (b i j (jP.1 hc).1 (jP.1 hd).1 e)
theorem ej.zds{a b c d:Pc}(H:ej F h (a::b::c::d::cs)):ej F h (b::d::a::cs):=
 H.re (λi=>match i with|0=>1|1=>3|2=>0|n+3=>n+4) (λi c hc=>match i,hc with|0,hc=>hc|1,hc=>hc|2,hc=>hc|n+3,hc=>hc) λi j _ _ e=>by
  match i,j with
  |0,0|1,1|2,2=>rfl
  |0,1|0,2|1,0|1,2|2,0|2,1=>simp at e
  |0,n+3|1,n+3|2,n+3|n+3,0|n+3,1|n+3,2=>simp at e;try omega
  |n+3,k+3=>simp at e;omega
theorem ej.zbc{ι:Type} [DecidableEq ι] {ty:Nat}{f:ι->Option (List Nat×V)}{xs ys:List Nat}{v w:V}{c:Pc}(H:ej F h (eJ eN ty xs v::eJ eN ty ys w::c::fS ty f::cs)){i j:ι}(hi:f i=Option.none)(a:f j=Option.none)(b:j≠i) :
  ej F h (fS ty (up (up f i (some (ys,w))) j (some (xs,v)))::cs):=
 (H.zds.QV hi).sw.QV (by rw[js _ _ b];exact a)
theorem ej.ze0{a b c d e f x y z:Pc}(H:ej F h (a::b::c::d::e::f::x::y::z::cs)):ej F h (f::d::b::e::c::a::cs):=
 H.re (λi=>match i with|0=>5|1=>3|2=>1|3=>4|4=>2|5=>0|n+6=>n+9) (λi c hc=>match i,hc with|0,hc=>hc|1,hc=>hc|2,hc=>hc|3,hc=>hc|4,hc=>hc|5,hc=>hc|n+6,hc=>hc) λi j _ _ e=>by
   have g:∀i:Nat,(match i with|0=>5|1=>3|2=>1|3=>4|4=>2|5=>0|n+6=>n+9:Nat)=(if i<6 then[5,3,1,4,2,0].getD i 0 else i+3):=λi=>by
     match i with
     |0|1|2|3|4|5=>rfl
     |n+6=>rw[if_neg (by omega)]
   simp only[g]at e;by_cases hi:i<6
   ·by_cases hj:j<6
    ·rw[if_pos hi,if_pos hj]at e
     exact(by decide:∀i,i<6->∀j,j<6->[5,3,1,4,2,0].getD i 0=[5,3,1,4,2,0].getD j 0->i=j) i hi j hj e
    ·rw[if_pos hi,if_neg hj]at e
     have:[5,3,1,4,2,0].getD i 0<6:=(by decide:∀i,i<6->[5,3,1,4,2,0].getD i 0<6) i hi;omega
   ·by_cases hj:j<6
    ·rw[if_neg hi,if_pos hj]at e
     have:[5,3,1,4,2,0].getD j 0<6:=(by decide:∀i,i<6->[5,3,1,4,2,0].getD i 0<6) j hj;omega
    ·rw[if_neg hi,if_neg hj]at e
     omega
theorem CpF.snoc{s:Nat}{fs:List Fm}{xs:List (Fm×V×V)}{fl:KF->Option (List Nat×V)}(c:CpF s fs xs fl)(x:Fm)(l w:V):CpF s (fs++[x]) (xs++[(x,l,w)]) (up (up fl (s,xs.length,false) (some (x.locals,l))) (s,xs.length,true) (some (x.stack,w))):=by
 refine⟨by rw[Ox,c.fst];rfl,λi y a b hi=>?_,λi b hi=>?_⟩
 ·by_cases e:i<xs.length
  ·rw[Vx e]at hi;have f:=c.loc i y a b hi;rw[js _ _ (by simp),js _ _ (by simp;omega),js _ _ (by simp;omega),js _ _ (by simp)];exact f
  ·rw[Yq (by omega)]at hi;have d:i-xs.length=0:=by have:=(jP.1 hi).1;simp at this;omega
   rw[d]at hi;cases hi;obtain rfl:i=xs.length:=by omega
   exact⟨by rw[js _ _ (by simp),lg],lg _ _ _⟩
 ·rw[Ji]at hi;simp at hi;rw[js _ _ (by simp;omega),js _ _ (by simp;omega)];exact c.out i b (by omega)
theorem CpS.snoc{ss:List (List Fm)}{xs:List (List (Fm×V×V))} {fl d:KF->Option (List Nat×V)}(c:CpS ss xs fl){fs:List Fm}{ys:List (Fm×V×V)} (c':CpF xs.length fs ys d)(f:∀s k b,s≠xs.length->d (s,k,b)=fl (s,k,b)):CpS (ss++[fs]) (xs++[ys]) d:=by
 refine⟨by rw[Ox,c.fst,<-c'.fst];rfl,λi l k y a b hi hk=>?_,λi k b hi=>?_⟩
 ·by_cases e:i<xs.length
  ·rw[Vx e]at hi;rw[f _ _ _ (by omega),f _ _ _ (by omega)];exact c.loc i l k y a b hi hk
  ·rw[Yq (by omega)]at hi;have g:i-xs.length=0:=by have:=(jP.1 hi).1;simp at this;omega
   rw[g]at hi;cases hi;obtain rfl:i=xs.length:=by omega
   exact c'.loc k y a b hk
 ·rw[Ji]at hi;simp at hi;rw[f _ _ _ (by omega)];exact c.out i k b (by omega)
def AN(u:U):Prop:=∀(v:Nat)(x:Vl),u.ef[v]? =some x->x.args.length<=700
structure RC (u:U):Prop where
 nv:u.ef.length<=3000
 nb:u.blocks.length<=300
 ns:u.eh.length<=1000
 args:AN u
 nf:∀(b:Nat) (B:Bk),u.blocks[b]? =some B->B.ef.length<=3000/\B.eQ.length<=700/\B.next.length<=2
 st:∀(s:Nat) (fs:List Fm),u.eh[s]? =some fs->fs.length<=30/\∀f∈fs,f.locals.length<=40/\f.stack.length<=60
theorem Mv(g:Good u)(b:AN u):RC u:=⟨g.nv,g.nb,g.ns,b,λ_ _ a=>⟨CZ g a,Et g a,CM g a⟩,ES g⟩
theorem UW(g:RC u)(H0:ej F h cs)(hu:DA F h u vv vb vs)
  (H:∀F' h' wv wb ws (xs:List (Vl×V)) (bs:List (Bk×V)) (ss:List (List (Fm×V×V))) fa fn fl,Sn F h F' h'->ZG u.ef xs fa->Xs u.blocks bs fn->CpS u.eh ss fl->
   ej F' h' (eJ yA gL xs wv::eJ vS fI bs wb::eJ (eL QX) lX ss ws::fS eo fa::fS eo fn::fS eo fl::cs)->Q (.agg (uC u wv wb ws)) h') :
  cP CS yr [.agg (uC u vv vb vs)] h Q:=by
 refine TY rfl rfl ?_;unfold ML;have nv:=g.nv;refine ml H0 hu.one λh1 H1 s1=>?_;rw[fx];obtain⟨H2,s2⟩:=H1.zo hV [.I 0,.I 0,.ee,.ee,.ee];have H2:ej F (h1.new (.cells 30 1 true false [V.I 0,.I 0,.ee,.ee,.ee])) (ev h1.next 30 [V.I 0,.I 0,.ee,.ee,.ee]::ev h.next 30 (uC u vv vb vs)::cs):=H2;have s2:Sn F h1 F (h1.new (.cells 30 1 true false [V.I 0,.I 0,.ee,.ee,.ee])):=s2;generalize h1.new (.cells 30 1 true false [V.I 0,.I 0,.ee,.ee,.ee])=h2 at*;generalize h.next=l1 at*;generalize h1.next=l2 at*;refine oF (H2.ld 1 rfl rfl) (oF (H2.ld 1 rfl rfl) (ed (show _=some (V.agg [.I u.func,.I u.pc,.ee,.ee,.ee]) from rfl) ?_));refine ir H2 rfl rfl rfl λh3 H3 s3=>?_;generalize h2.next=l3 at*;have ar:=(s1.trans s2).trans s3;have u3:=hu.since ar;refine oF (H3.ld 2 rfl rfl) (ed u3.v.len ?_)
 have H3:ej F h3 (fS eo (λ_:Nat=>Option.none)::eJ yA gL [] .ee::ev l3 30 [.I u.func,.I u.pc,.ee,.ee,.ee]::ev l2 30 [.I 0,.I 0,.ee,.ee,.ee]::ev l1 30 (uC u vv vb vs)::cs):=
  (H3.add (p:=eJ yA gL [] .ee) .nil λ_ h=>h).Yn
 refine Om (λk l h'=>∃(i:Nat) (xs:List (Vl×V)) (fa:Nat->Option (List Nat×V)) (wv:V),l=[.ptr l1 0,.ptr l2 0,.ptr l3 0,vv,.I u.ef.length,.I i]/\i+k=u.ef.length/\Sn F h3 F h'/\xs.length=i/\ZG (u.ef.take i) xs fa/\
  ej F h' (fS eo fa::eJ yA gL xs wv::ev l3 30 [.I u.func,.I u.pc,wv,.ee,.ee]::ev l2 30 [.I 0,.I 0,.ee,.ee,.ee]::ev l1 30 (uC u vv vb vs)::cs)) ?_ (k:=u.ef.length)
  ⟨0,[],λ_=>Option.none,.ee,rfl,by omega,Sn.refl _ _,rfl,⟨rfl,λ_ _ _ h=>by simp at h,λ_ _=>rfl⟩,H3⟩
 rintro k _ _ _ _ _ _ h4 ⟨i,xs,fa,wv,⟨⟩,hk,s4,au,hc,H4⟩;unfold Iu;have u4:=u3.since s4;by_cases hi:i<u.ef.length
 ·refine gG ?_;have hx:=gW hi;have M:u.ef.take (i+1)=u.ef.take i++[u.ef[i]]:=N6 hi;generalize u.ef[i]=x at*;obtain⟨lx,ox,w,_,x1,x2,xw,_⟩:=u4.val hx;refine ed x1 (ed x2 ?_);refine ir H4 rfl rfl (by simp only[my,ey,xw.one];rfl) λT H5 s5=>?_;generalize h4.next=lc at*;rw[Gv,fx];obtain⟨G,I⟩:=H5.V6 (E:=eN) (xs:=[]) (ws:=[]) (n:=0) eo rfl trivial rfl;have G:ej F (T.new (.cells 3 1 true false [])) (eJ eN eo [] (.slice T.next 0 0)::ev lc 49 (my x w)::_):=G;have I:Sn F T F (T.new (.cells 3 1 true false [])):=I;generalize T.new (.cells 3 1 true false [])=h6 at*;refine oF (G.ld 1 rfl rfl) ?_;have aE:=g.args i x hx;obtain⟨a,C,e7,_,J,s7⟩:=G.OB 0 rfl (jW:=8) ((xw.since s5).since I) (by decide) (by decide) (by simp;omega);have aF:eR 3 1 8 (.slice T.next 0 0) w h6=some (.val a C):=e7;rw[aF,ei];simp only[je,SO]at J;have d:=J.one 0 rfl;obtain⟨U,e8,_,t,s8⟩:=J.st 1 (o:=4) (u:=a) rfl (by simp[my]) d;refine ed (fT _ _ _) ?_;have aG:gI 1 (.ptr lc (0+4)) a C=some (.val .undef U):=by rw[zj];exact e8
  rw[aG,ei];simp only[je,mA]at t;have t:ej F U (eJ eN eo x.args a::ev lc 49 (my x a)::fS eo fa::eJ yA gL xs wv::ev l3 30 [.I u.func,.I u.pc,wv,.ee,.ee]::_):=t;refine oF (t.ld 4 rfl rfl) (ed (t.zb 1 rfl rfl) ?_);rw[qY (sz:=6) (w:=my x a) rfl rfl (by simp only[my,ey,d];rfl),fx];obtain⟨W,h9,e9,_,m,s9⟩:=t.vR 3 rfl (jW:=64) (DP:=49) (y:=(x,a)) (w:=my x a) (ro:=false) ⟨rfl,d⟩ (by decide) (by decide) (by omega);have aH:eR 49 6 64 wv (.slice U.next 0 1) (U.new (.cells 49 6 true false (my x a)))=some (.val W h9):=e9;rw[aH,ei];simp only[je,mA]at m;obtain⟨X,aI,_,c,z⟩:=m.st 4 (o:=2) (u:=W) rfl (by simp) (m.one 3 rfl);refine ed (fT _ _ _) ?_;have aw:gI 1 (.ptr l3 (0+2)) W h9=some (.val .undef X):=by rw[zj];exact aI
  rw[aw,ei];simp only[je,mA]at c;have Y:=c.JS.QV (i:=i) (hc.out i (by omega));refine fL ⟨k-1,by omega,i+1,xs++[(x,a)],up fa i (some (x.args,a)),W,rfl,by omega,((((s4.trans s5).trans I).trans s7).trans s8).trans (s9.trans z),by simp[au],?_,Y⟩;rw[M];have:=hc.snoc x a
  rwa [au]at this
 refine iJ ?_;obtain rfl:i=u.ef.length:=by omega
 rw[JC]at hc;have nb:=g.nb;refine oF (H4.ld 4 rfl rfl) (ed u4.b.len ?_);clear hk k
 have H4:ej F h4 (fS eo (λ_:Nat=>Option.none)::eJ vS fI [] .ee::fS eo fa::eJ yA gL xs wv::ev l3 30 [.I u.func,.I u.pc,wv,.ee,.ee]::ev l2 30 [.I 0,.I 0,.ee,.ee,.ee]::ev l1 30 (uC u vv vb vs)::cs):=
  (H4.add (p:=eJ vS fI [] .ee) .nil λ_ h=>h).Yn
 refine Oj (λk l h'=>∃(F':Nat->Prop) (i:Nat) (bs:List (Bk×V)) (fn:Nat->Option (List Nat×V)) (wb:V),l=[.ptr l1 0,.ptr l2 0,.ptr l3 0,vb,.I u.blocks.length,.I i]/\i+k=u.blocks.length/\Sn F h4 F' h'/\bs.length=i/\Xs (u.blocks.take i) bs fn/\
  ej F' h' (fS eo fn::eJ vS fI bs wb::fS eo fa::eJ yA gL xs wv::ev l3 30 [.I u.func,.I u.pc,wv,wb,.ee]::ev l2 30 [.I 0,.I 0,.ee,.ee,.ee]::ev l1 30 (uC u vv vb vs)::cs)) ?_ (k:=u.blocks.length)
  ⟨F,0,[],λ_=>Option.none,.ee,rfl,by omega,Sn.refl _ _,rfl,⟨rfl,λ_ _ _ h=>by simp at h,λ_ _=>rfl⟩,H4⟩
 rintro k _ _ _ _ _ _ T ⟨Z,i,bs,fn,wb,⟨⟩,hk,s5,ax,aa,H5⟩;unfold Iw;have u5:=u4.since s5;by_cases hi:i<u.blocks.length
 ·refine gG ?_;have hB:=gW hi;have M:u.blocks.take (i+1)=u.blocks.take i++[u.blocks[i]]:=N6 hi;generalize u.blocks[i]=B at*;have aR:=(g.nf i B hB).1;have aS:=(g.nf i B hB).2.1;have aT:=(g.nf i B hB).2.2;obtain⟨lx,ox,bv,bn,bp,_,x1,x2,iv,iN,ip,_⟩:=u5.nf hB;refine ed x1 (ed x2 ?_);refine ir H5 rfl rfl (by simp only[kI,ey,iv.one,iN.one,ip.one];rfl) λh6 G I=>?_;generalize T.next=lc at*;have e:∀{h:Hp} {cs:List Pc},ej Z h cs->ej Z (h.new (.cells 3 1 true false [])) (ev h.next 3 []::cs)/\Sn Z h Z (h.new (.cells 3 1 true false [])):=λH=>H.zo 3 [];rw[Gv,gR];obtain⟨J,s7⟩:=e G;generalize h6.new (.cells 3 1 true false [])=C at*;refine oF (J.ld 1 rfl rfl) ?_;rw[gR];obtain⟨t,s8⟩:=e J;generalize C.new (.cells 3 1 true false [])=U at*;refine oF (t.ld 2 rfl rfl) ?_;rw[gR];obtain⟨m,s9⟩:=e t;generalize U.new (.cells 3 1 true false [])=h9 at*;generalize h6.next=ra at*;generalize C.next=rb at*;generalize U.next=rc at*;refine oF (m.ld 3 rfl rfl) ?_;have ab:=(s7.trans s8).trans s9;refine⟨⟨m.get 0 rfl,bq⟩,m.ld 3 rfl rfl,⟨m.get 1 rfl,bq⟩,m.ld 3 rfl rfl,⟨m.get 2 rfl,bq⟩,?_⟩;have aJ:=(iv.since I).since ab;have aK:=(iN.since I).since ab;have aL:=(ip.since I).since ab;have m:=m.empty 2 rfl;simp only[je,mA]at m;obtain⟨a,hA,eA,nA,q,sA⟩:=m.OB 2 rfl (jW:=8) aJ (by decide) (by decide) (by simp;omega);have aj:eR 3 1 8 (.slice ra 0 0) bv h9=some (.val a hA):=eA;rw[aj,ei];simp only[je,mA,SO]at q;refine⟨nA,ed (fT _ _ _) ⟨q.ld 3 rfl rfl,⟨q.get 0 rfl,bq⟩,q.ld 3 rfl rfl,⟨q.get 1 rfl,bq⟩,?_⟩⟩;have q:=q.empty 1 rfl;simp only[je,mA]at q;obtain⟨K,hC,eC,nC,L,sC⟩:=q.OB 1 rfl (jW:=8) (aK.since sA) (by decide) (by decide) (by simp;omega);have ak:eR 3 1 8 (.slice rb 0 0) bn hA=some (.val K hC):=eC;rw[ak,ei];simp only[je,mA,SO]at L;refine⟨nC,L.ld 3 rfl rfl,⟨L.get 0 rfl,bq⟩,?_⟩;have L:=L.empty 0 rfl;simp only[je,mA]at L;obtain⟨vp,hD,eD,nD,HD,sD⟩:=L.OB 0 rfl (jW:=8) ((aL.since sA).since sC) (by decide) (by decide) (by simp;omega);have aM:eR 3 1 8 (.slice rc 0 0) bp hC=some (.val vp hD):=eD;rw[aM,ei];simp only[je,mA,SO]at HD;have d:=HD.one 2 rfl;have al:=HD.one 1 rfl;have ay:=HD.one 0 rfl;obtain⟨hE,eE,nE,HE,sE⟩:=HD.st 3 (o:=0) (u:=a) rfl (by simp[kI]) d;have am:gI 1 (.ptr lc (0+0)) a hD=some (.val .undef hE):=eE;refine⟨nD,?_⟩;rw[am,ei];simp only[je,mA]at HE;obtain⟨hG,eG,nG,HG,sG⟩:=HE.st 3 (o:=3) (u:=K) rfl (by simp[kI]) al;have an:gI 1 (.ptr lc (0+3)) K hE=some (.val .undef hG):=by rw[zj];exact eG
  refine⟨nE,ed (fT _ _ _) ?_⟩;rw[an,ei];simp only[je,mA]at HG;obtain⟨hI,eI,nI,HI,sI⟩:=HG.st 3 (o:=4) (u:=vp) rfl (by simp[kI]) ay;have aN:gI 1 (.ptr lc (0+4)) vp hG=some (.val .undef hI):=by rw[zj];exact eI
  refine⟨nG,ed (fT _ _ _) ?_⟩;rw[aN,ei];simp only[je,mA]at HI;have HI:ej Z hI (eJ eN eo B.eQ vp::eJ eN eo B.next K::eJ eN eo B.ef a::ev lc 47 (kI B a K vp)::fS eo fn::eJ vS fI bs wb::fS eo fa::eJ yA gL xs wv::ev l3 30 [.I u.func,.I u.pc,wv,wb,.ee]::_):=HI;refine⟨nI,oF (HI.ld 8 rfl rfl) (ed (HI.zb 3 rfl rfl) ?_)⟩;obtain⟨HJ,sJ,rp⟩:=HI.jI 0 rfl;simp only[je]at HJ;obtain⟨HK,sK,rv⟩:=HJ.jI 2 rfl;simp only[je,mA]at HK;have rp:=rp.since sK;have HK:=HK.tail.JS.JS;generalize (λl=>(Z l\/Loc vp l)\/Loc a l)=FK at*;rw[qY (sz:=6) (w:=kI B a K vp) rfl rfl (by simp only[kI,ey,d,al,ay];rfl),fx];obtain⟨ac,hL,eL,_,N,sL⟩:=HK.vR 2 rfl (jW:=96) (DP:=47) (y:=(B,K)) (w:=kI B a K vp) (ro:=false) ⟨a,vp,rfl,rv,rp,al⟩ (by decide) (by decide) (by omega);have O:eR 47 6 96 wb (.slice hI.next 0 1) (hI.new (.cells 47 6 true false (kI B a K vp)))=some (.val ac hL):=eL;rw[O,ei];simp only[je,mA]at N;obtain⟨hM,eM,_,HM,sM⟩:=N.st 5 (o:=3) (u:=ac) rfl (by simp) (N.one 2 rfl);refine ed (fT _ _ _) ?_;have P:gI 1 (.ptr l3 (0+3)) ac hL=some (.val .undef hM):=by rw[zj];exact eM
  rw[P,ei];simp only[je,mA]at HM;have HN:=HM.QV (i:=i) (aa.out i (by omega));have aA:=((((((I.trans ab).trans sA).trans sC).trans sD).trans sE).trans sG).trans sI;refine fL ⟨k-1,by omega,FK,i+1,bs++[(B,K)],up fn i (some (B.next,K)),ac,rfl,by omega,s5.trans (((aA.trans sJ).trans sK).trans (sL.trans sM)),by simp[ax],?_,HN⟩;rw[M];have:=aa.snoc B K
  rwa [ax]at this
 refine iJ ?_;have ns:=g.ns;obtain rfl:i=u.blocks.length:=by omega
 rw[JC]at aa;refine oF (H5.ld 6 rfl rfl) (ed u5.s.len ?_);clear hk k
 have H5:ej Z T (fS eo (λ_:KF=>Option.none)::eJ (eL QX) lX [] .ee::fS eo fn::eJ vS fI bs wb::fS eo fa::eJ yA gL xs wv::ev l3 30 [.I u.func,.I u.pc,wv,wb,.ee]::ev l2 30 [.I 0,.I 0,.ee,.ee,.ee]::ev l1 30 (uC u vv vb vs)::cs):=
  (H5.add (p:=eJ (eL QX) lX [] .ee) .nil λ_ h=>h).Yn
 refine Oz (λk l h'=>∃(F':Nat->Prop) (i:Nat) (ss:List (List (Fm×V×V))) (fl:KF->Option (List Nat×V)) (ws:V),l=[.ptr l2 0,.ptr l3 0,vs,.I u.eh.length,.I i]/\i+k=u.eh.length/\Sn Z T F' h'/\ss.length=i/\CpS (u.eh.take i) ss fl/\
  ej F' h' (fS eo fl::eJ (eL QX) lX ss ws::fS eo fn::eJ vS fI bs wb::fS eo fa::eJ yA gL xs wv::ev l3 30 [.I u.func,.I u.pc,wv,wb,ws]::ev l2 30 [.I 0,.I 0,.ee,.ee,.ee]::ev l1 30 (uC u vv vb vs)::cs)) ?_ (k:=u.eh.length)
  ⟨Z,0,[],λ_=>Option.none,.ee,rfl,by omega,Sn.refl _ _,rfl,⟨rfl,λ_ _ _ _ _ _ h=>by simp at h,λ_ _ _ _=>rfl⟩,H5⟩
 rintro k _ _ _ _ _ h6 ⟨D,i,ss,fl,ws,⟨⟩,hk,I,ng,ae,G⟩;unfold Ii;have u6:=u5.since I;by_cases hi:i<u.eh.length
 ·refine gG ?_;have hS:=gW hi;have M:u.eh.take (i+1)=u.eh.take i++[u.eh[i]]:=N6 hi;generalize u.eh[i]=fs at*;have aU:=(g.st i fs hS).1;obtain⟨lx,ox,f,_,x1,x2,_,xf⟩:=u6.st hS;refine ed x1 (ed x2 ?_);refine ir G rfl rfl (by simp only[ey,xf.one];rfl) λC J s7=>?_;generalize h6.next=lc at*;rw[fx];obtain⟨t,s8⟩:=J.zo lX [.ee];have t:ej D (C.new (.cells 56 1 true false [V.ee])) (ev C.next 56 [.ee]::ev lc 56 [f]::_):=t;have s8:Sn D C D (C.new (.cells 56 1 true false [V.ee])):=s8;generalize C.new (.cells 56 1 true false [V.ee])=U at*;generalize C.next=ld at*;have xf:=(xf.since s7).since s8;refine oF (t.ld 1 rfl rfl) (ed xf.len ?_)
  have t:ej D U (fS eo fl::eJ QX Mg [] .ee::ev ld 56 [.ee]::eJ (eL QX) lX ss ws::fS eo fn::eJ vS fI bs wb::fS eo fa::eJ yA gL xs wv::ev l3 30 [.I u.func,.I u.pc,wv,wb,ws]::ev l2 30 [.I 0,.I 0,.ee,.ee,.ee]::ev l1 30 (uC u vv vb vs)::cs):=
   (t.JS.sw.add (p:=eJ QX Mg [] .ee) .nil λ_ h=>h).sw
  refine OD (λk' l h'=>∃(j:Nat) (ys:List (Fm×V×V)) (A:KF->Option (List Nat×V)) (R:V),l=[.ptr l2 0,.ptr l3 0,.ptr ld 0,vs,.I u.eh.length,.I i,f,.I fs.length,.I j]/\j+k' = fs.length/\Sn D U D h'/\ys.length=j/\CpF i (fs.take j) ys A/\(∀s k b,s≠i->A (s,k,b)=fl (s,k,b))/\
   ej D h' (fS eo A::eJ QX Mg ys R::ev ld 56 [R]::eJ (eL QX) lX ss ws::fS eo fn::eJ vS fI bs wb::fS eo fa::eJ yA gL xs wv::ev l3 30 [.I u.func,.I u.pc,wv,wb,ws]::ev l2 30 [.I 0,.I 0,.ee,.ee,.ee]::ev l1 30 (uC u vv vb vs)::cs)) ?_ (k:=fs.length)
   ⟨0,[],fl,.ee,rfl,by omega,Sn.refl _ _,rfl,⟨rfl,λ_ _ _ _ h=>by simp at h,λk b _=>ae.out i k b (by omega)⟩,λ_ _ _ _=>rfl,t⟩
  rintro k' _ _ _ _ _ _ _ _ _ h9 ⟨j,ys,A,R,⟨⟩,aV,s9,aB,S,aC,m⟩;unfold Ih;have aO:=xf.since s9;by_cases hj:j<fs.length
  ·refine gG ?_;have hF:=gW hj;have aP:fs.take (j+1)=fs.take j++[fs[j]]:=N6 hj;have aW:=(g.st i fs hS).2 fs[j] (AW hj);generalize fs[j]=x at*;obtain⟨ly,oy,xa,xb,_,y1,y2,ya,yb⟩:=aO.l0 hF;refine ed y1 (ed y2 ?_);refine ir m rfl rfl (by simp only[Ou,ey,ya.one,yb.one];rfl) λX c z=>?_;generalize h9.next=le at*;have e:∀{h:Hp} {cs:List Pc},ej D h cs->ej D (h.new (.cells 3 1 true false [])) (ev h.next 3 []::cs)/\Sn D h D (h.new (.cells 3 1 true false [])):=λH=>H.zo 3 [];rw[Gv,gR];obtain⟨Y,ao⟩:=e c;generalize X.new (.cells 3 1 true false [])=aD at*;refine oF (Y.ld 1 rfl rfl) ?_;rw[gR];obtain⟨r,ap⟩:=e Y;generalize aD.new (.cells 3 1 true false [])=aQ at*;generalize X.next=ra at*;generalize aD.next=rb at*;refine oF (r.ld 2 rfl rfl) ?_;refine⟨⟨r.get 0 rfl,bq⟩,r.ld 2 rfl rfl,⟨r.get 1 rfl,bq⟩,?_⟩;have ya:=((ya.since z).since ao).since ap;have yb:=((yb.since z).since ao).since ap;have r:=r.empty 1 rfl;simp only[je,mA]at r;obtain⟨a,hA,eA,nA,q,sA⟩:=r.OB 1 rfl (jW:=8) ya (by decide) (by decide) (by simp;omega);have aj:eR 3 1 8 (.slice ra 0 0) xa aQ=some (.val a hA):=eA;rw[aj,ei];simp only[je,mA,SO]at q;refine⟨nA,ed (fT _ _ _) ⟨q.ld 2 rfl rfl,⟨q.get 0 rfl,bq⟩,?_⟩⟩;have q:=q.empty 0 rfl;simp only[je,mA]at q;obtain⟨vc,hC,eC,nC,L,sC⟩:=q.OB 0 rfl (jW:=8) (yb.since sA) (by decide) (by decide) (by simp;omega);have ak:eR 3 1 8 (.slice rb 0 0) xb hA=some (.val vc hC):=eC;rw[ak,ei];simp only[je,mA,SO]at L;have d:=L.one 1 rfl;have aq:=L.one 0 rfl;obtain⟨hE,eE,nE,HE,sE⟩:=L.st 2 (o:=2) (u:=a) rfl (by simp[Ou]) d;have am:gI 1 (.ptr le (0+2)) a hC=some (.val .undef hE):=by rw[zj];exact eE
   refine⟨nC,?_⟩;rw[am,ei];simp only[je,mA]at HE;obtain⟨hG,eG,nG,HG,sG⟩:=HE.st 2 (o:=3) (u:=vc) rfl (by simp[Ou]) aq;have an:gI 1 (.ptr le (0+3)) vc hE=some (.val .undef hG):=by rw[zj];exact eG
   refine⟨nE,ed (fT _ _ _) ?_⟩;rw[an,ei];simp only[je,mA]at HG;have HG:ej D hG (eJ eN eo x.stack vc::eJ eN eo x.locals a::ev le 53 (Ou x a vc)::fS eo A::eJ QX Mg ys R::ev ld 56 [R]::_):=HG;refine⟨nG,oF (HG.ld 5 rfl rfl) (ed (HG.zb 2 rfl rfl) ?_)⟩;rw[qY (sz:=4) (w:=Ou x a vc) rfl rfl (by simp only[Ou,ey,d,aq];rfl),fx];obtain⟨ag,hL,eL,_,N,sL⟩:=HG.vR 4 rfl (jW:=64) (DP:=53) (y:=(x,a,vc)) (w:=Ou x a vc) (ro:=false) ⟨rfl,d,aq⟩ (by decide) (by decide) (by omega);have O:eR 53 4 64 R (.slice hG.next 0 1) (hG.new (.cells 53 4 true false (Ou x a vc)))=some (.val ag hL):=eL;rw[O,ei];simp only[je,mA]at N;obtain⟨hM,eM,_,HM,sM⟩:=N.st 5 (o:=0) (u:=ag) rfl (by simp) (N.one 4 rfl);refine ed (fT _ _ _) ?_;have P:gI 1 (.ptr ld (0+0)) ag hL=some (.val .undef hM):=eM;rw[P,ei];simp only[je,mA]at HM;have HN:=HM.zbc (i:=(i,j,false)) (j:=(i,j,true)) (S.out j false (by omega)) (S.out j true (by omega)) (by simp);refine fL ⟨k'-1,by omega,j+1,ys++[(x,a,vc)],up (up A (i,j,false) (some (x.locals,a))) (i,j,true) (some (x.stack,vc)),ag,rfl,by omega,((((((s9.trans z).trans ao).trans ap).trans sA).trans sC).trans (sE.trans sG)).trans (sL.trans sM),by simp[aB],?_,?_,HN⟩
   ·rw[aP];have:=S.snoc x a vc
    rwa [aB]at this
   ·intro s k b hs;rw[js _ _ (by simp[hs]),js _ _ (by simp[hs])];exact aC s k b hs
  refine iJ ?_;obtain rfl:j=fs.length:=by omega
  rw[JC]at S;obtain⟨c,z,rf⟩:=m.jI 1 rfl;simp only[je,mA]at c;generalize (λl=>D l\/Loc R l)=F7 at*;have c:=c.JS;refine oF (c.ld 7 rfl rfl) (ed (c.zb 1 rfl rfl) ?_);rw[qY (sz:=1) (w:=[R]) rfl rfl (by simp only[ey,rf.one];rfl),fx];obtain⟨ah,hL,eL,_,N,sL⟩:=c.vR 2 rfl (jW:=24) (DP:=56) (y:=ys) (w:=[R]) (ro:=false) ⟨R,rfl,rf⟩ (by decide) (by decide) (by omega);have O:eR 56 1 24 ws (.slice h9.next 0 1) (h9.new (.cells 56 1 true false [R]))=some (.val ah hL):=eL;rw[O,ei];simp only[je,mA]at N;obtain⟨hM,eM,_,HM,sM⟩:=N.st 7 (o:=4) (u:=ah) rfl (by simp) (N.one 2 rfl);refine ed (fT _ _ _) ?_;have P:gI 1 (.ptr l3 (0+4)) ah hL=some (.val .undef hM):=by rw[zj];exact eM
  rw[P,ei];simp only[je,mA]at HM;refine fL ⟨k-1,by omega,F7,i+1,ss++[ys],A,ah,rfl,by omega,((((I.trans s7).trans s8).trans s9).trans z).trans (sL.trans sM),by simp[ng],?_,HM.JS⟩;rw[M];have ai:=S;rw[<-ng]at ai;exact ae.snoc ai λs k b hs=>aC s k b (by omega)
 refine iJ ?_;obtain rfl:i=u.eh.length:=by omega
 rw[JC]at ae;refine ed (G.zb 6 rfl rfl) ?_;obtain⟨C,e7,_,J,s7⟩:=G.Zx 7 (ws:=[.I u.func,.I u.pc,wv,wb,ws]) (n:=5) rfl rfl rfl (by simp only[ey,G.one 5 rfl,G.one 3 rfl,G.one 1 rfl];rfl);rw[e7,ei];simp only[je,mA]at J;refine ed (J.zb 7 rfl rfl) ?_;exact H D C wv wb ws xs bs ss fa fn fl (((ar.trans s4).trans s5).trans (I.trans s7)) hc aa ae J.ze0
end
open Un Dm
section
variable{F F':Nat->Prop}{h h':Hp}{cs ds:List Pc}{Q:ft}{u:U}{vv vb vs:V}
def L2(cs:List Pc)(l:Nat):Prop:=∃(i:Nat)(c:Pc),cs[i]? =some c/\c.ma l
theorem ej.ze3(H:ej F h cs):ej (λl=>F l\/L2 cs l) h []:=
 ej.nil λl a=>a.elim (H.fl l) λ⟨i,c,hc,b⟩=>(c.Oa (H.ok i c hc) l b).1
theorem ej.back(H:ej F h cs){G:Nat->Prop}(s:Sn (λl=>F l\/L2 cs l) h G h'):ej F h' cs where
 fl l a:=EL (H.fl l a) s.next
 ok i c hc:=c.fh (H.ok i c hc) (λl a=>s.fh l (.inl a)) (λl a=>s.fh l (.inr ⟨i,c,hc,a⟩)) s.next
 E2:=H.E2
theorem Sn.back{G:Nat->Prop}(s:Sn (λl=>F l\/L2 cs l) h G h'):Sn F h F h':=⟨s.next,λl a=>s.fh l (.inl a),λ_ h=>h⟩
theorem ej.zbw(H:ej F h cs){ty:Nat}{xs:List Nat}{v:V}(s:Sn (λl=>F l\/L2 cs l) h (λl=>F l\/L2 cs l) h') (k:ej (λl=>F l\/L2 cs l) h' [eJ eN ty xs v]):ej F h' (eJ eN ty xs v::cs):=by
 have j:kQ eN ty (λl=>F l\/L2 cs l) h' xs v:=k.ok 0 _ rfl;refine(H.back s).cons ?_ λi c hc l m d=>(j.we m).2.2 (.inr ⟨i,c,hc,d⟩);rcases j with⟨f,g⟩|⟨t,ws,f,g,w,n,y,o⟩
 ·exact .inl ⟨f,g⟩
 ·exact .inr ⟨t,ws,f,g,by simp_all,n,by
   have p:∀(ws:List V) (xs:List Nat),qb eN (λl=>F l\/L2 cs l) h' ws xs->qb eN F h' ws xs:=λws xs=>by
    induction xs generalizing ws with
    |nil=>exact id
    |cons x xs q=>rintro⟨a,b,e,r,u⟩;exact⟨a,b,e,r,q b u⟩
   simp_all,o⟩
theorem QD{α β:Type}{E:p8 α} {E':p8 β}:∀(ws:List V)(xs:List α)(ys:List β),ys.length=xs.length->(∀(k:Nat) x y cs,xs[k]? =some x->ys[k]? =some y->E.rel F h x cs->E'.rel F' h y cs)->qb E F h ws xs->qb E' F' h ws ys
 |_,[],[],_,_,h=>h
 |ws,x::xs,y::ys,hl,hr,⟨a,b,e,r,hw⟩=>⟨a,b,e,hr 0 x y a rfl rfl r,QD b xs ys (by simp_all) (λk x y cs c d=>hr (k+1) x y cs (by simp_all) (by simp_all)) hw⟩
theorem ej.Wh{α β:Type}{E:p8 α} {E':p8 β}(H:ej F h cs)(i:Nat){ty:Nat}{xs:List α}{ys:List β}{v:V}(hi:cs[i]? =some (eJ E ty xs v))(d:E'.sz=E.sz)(a:ys.length=xs.length)(e:∀(k:Nat) x y cs,xs[k]? =some x->ys[k]? =some y->E.rel F h x cs->E'.rel F h y cs):ej F h (cs.set i (eJ E' ty ys v)):=by
 refine H.swap hi ?_ λ_ h=>h;rcases H.row i hi with⟨b,c⟩|⟨t,ws,b,c,f,g,j,l⟩
 ·subst c;exact .inl ⟨b,wA4 a⟩
 ·exact .inr ⟨t,ws,by rw[a];exact b,c,f,by rw[d];exact g,QD ws xs ys a e j,l⟩
theorem iy.Wh{α β:Type}{E:p8 α} {E':p8 β}{xs:List α}{ys:List β}{v:V}(hs:iy E F h xs v)(f:E'.sz=E.sz)(c:∀l,F l->F' l)(d:ys.length=xs.length)(g:∀(k:Nat) x y cs,xs[k]? =some x->ys[k]? =some y->E.rel F h x cs->E'.rel F' h y cs):iy E' F' h ys v:=by
 rcases hs with⟨b,a⟩|⟨l,o,ty,live,ro,ws,b,a,i,j,e,m⟩
 ·subst a;exact .inl ⟨b,wA4 d⟩
 ·exact .inr ⟨l,o,ty,live,ro,ws,by simp_all,c l a,by simp_all,by grind,e,by grind[QD]⟩
theorem zcv{xs:List Nat}{v:V}(hs:iy eN F h xs v)(g:xs.length<1000000)(x:Nat)(H:Q (.bool (xs.contains x)) h) :
  cP CS kM [v,.I x] h Q:=by
 refine A6 rfl rfl ?_;unfold ru;refine Ef rfl rfl ?_;unfold wc;refine ed hs.len ?_;refine Bs (λk l h'=>∃i:Nat,l=[v,.I x,.I xs.length,.I (i:Nat)]/\h' = h/\i+k=xs.length/\∀j y,j<i->xs[j]? =some y->y≠x) ?_ (k:=xs.length) (by grind);rintro k _ _ _ _ h' ⟨i,⟨⟩,rfl,hk,a⟩;unfold rD;by_cases hi:i<xs.length
 ·refine gG ?_;have b:=gW hi;generalize xs[i]=y at*;obtain⟨l,o,_,c,d⟩:=hs.nat b .i64;refine ed c (ed d (fX ?_));by_cases e:x=y
  ·refine gi (by rw[e]) (ed (nM ..) ?_);rw[Kt (by omega)]
   grind
  ·refine fU (by omega) (fL ⟨k-1,by omega,i+1,rfl,rfl,by omega,λj z f m=>?_⟩)
   grind
 ·refine iJ (ed (nM ..) ?_);rw[N5 (by omega)];have:xs.contains x=false:=by
   rw[wBk];intro h;obtain⟨j,f⟩:=mQ.1 (wBQ.1 h);exact by grind
  simp_all
def mX(az:List Int):Nat->Int:=λv=>az.getD v (-1)
theorem Ue{az:List Int}{v:Nat}{a:Int}(h:az[v]? =some a):mX az v=a:=by
 grind[mX]
theorem zaZ{lt:Nat}{kG:V}{az:List Int}{G:Nat->Prop}(d:ez (.ptr lt 5) h=some kG)(hs:iy eZ G h az kG)(L:az.length<=3000)(f:∀(v:Nat)(a:Int),az[v]? =some a->a<az.length){v:Nat}(hv:v<az.length)
  (H:xH (mX az) (az.length+1) v<az.length->Q (.I (xH (mX az) (az.length+1) v:Nat)) h):cP CS jm [.ptr lt 0,.I v] h Q:=by
 refine I3 rfl rfl ?_;unfold AA;refine Fs (λk l h'=>∃n w:Nat,l=[.ptr lt 0,.I (w:Nat),.I (n:Nat)]/\h' = h/\n+k=az.length+1/\w<az.length/\xH (mX az) k w=xH (mX az) (az.length+1) v) ?_ (k:=az.length+1) (by grind);rintro k _ _ _ h' ⟨n,w,⟨⟩,rfl,hk,D,E⟩;unfold xZ;have g:=gW D;have J:=Ue g;have K:=f w _ g;generalize az[w]=a at*;obtain⟨l,o,_,F,I⟩:=hs.int g .i64;have d:ez (.ptr lt (0+5)) h' = some kG:=d;refine ed (fQ _ _) (ed (by rfl) (ed d (ed F (ed I (ed (nM ..) ?_)))));rw[show jO (V.bool (decide (0<=a))) (oB (some (V.ptr lt 0)) λi=>oB (gY i) λj=>oB (fH 5 j) λp=>oB (ez p h') λq=>oB (some (V.I w)) λr=>oB (gz 1 q r) λs=>oB (ez s h') λt=>oB (some (V.I w)) λu=>en .neq 3 t u)=some (.bool (decide (0<=a)&&(a != (w:Int)))) from by
  simp_all]
 rw [hX];rw[show jO (V.bool (decide (0<=a)&&(a != (w:Int)))) (oB (some (V.I n)) λx=>oB (some (V.ptr lt 0)) λy=>oB (gY y) λz=>oB (fH 5 z) λA=>oB (ez A h') λB=>oB (fE B) λC=>en .leq 3 x C)=some (.bool ((decide (0<=a)&&(a != (w:Int)))&&decide ((n:Int)<=az.length))) from by
  simp only[fe,fQ,fT,d,hs.len,Ki,jc]]
 rw[hX]
 cases k with
 | zero=>
   refine iO (fU (by grind) ?_)
   grind[xH,mX]
 | succ k=>
   rw[Kt (show(n:Int)<=az.length by omega),Bool.and_true];have e:xH (mX az) (k+1) w=if 0<=mX az w/\mX az w≠(w:Int) then xH (mX az) k (mX az w).toNat else w:=rfl
   rw[J]at e;by_cases c:0<=a/\a≠(w:Int)
   ·refine iO (gi (by simp_all) ?_)
    refine ed (fQ _ _) (ed (by rfl) (ed d (ed F (ed I (kZ (m:=1) (by omega) (by omega) ?_)))));rw[if_pos c]at e;obtain⟨b,rfl⟩:=wBG c.1;exact⟨k,by omega,n+1,b,rfl,rfl,by omega,by omega,by simp_all⟩
   ·refine iO (fU (λh=>c ?_) ?_)
    ·rw[xg,AQ,bne_iff_ne]at h
     exact h
    ·rw[if_neg c]at e
     rw[e]at E;rw[<-E]at H;exact H D
theorem VG(m:gj (uC u vv vb vs)=true)(hv:fE vv=some (.I u.ef.length))(A:u.ef.length<=3000)(n:ej F h cs)(H:∀h' v,Sn F h F h'->ej F h' (eJ eZ eo ((List.range u.ef.length).map λ(i:Nat)=>(i:Int)) v::cs)->Q v h') :
  cP CS Ay [.agg (uC u vv vb vs)] h Q:=by
 refine TI rfl rfl ?_;unfold NS;refine ml n m λb c p=>?_;refine ed (by rfl) (ed (c.ld 0 rfl rfl) (ed hv ?_));rw[kr (z:=V.I 0) rfl (by decide) (by omega),fx];obtain⟨q,r⟩:=c.make (E:=eZ) (ty:=eo) (y:=0) (u:=V.I 0) u.ef.length rfl rfl;generalize b.new (.cells eo 1 true false (List.replicate u.ef.length (V.I 0)))=B at*;generalize b.next=lr at*;refine ed (by rfl) ?_;refine Oq (λk l h'=>∃(i:Nat) (ys:List Int),l=[.slice lr 0 u.ef.length,.I u.ef.length,.I i]/\i+k=u.ef.length/\ys.length=u.ef.length/\(∀j:Nat,j<i->ys[j]? =some (j:Int))/\Sn F h F h'/\ej F h' (eJ eZ eo ys (.slice lr 0 u.ef.length)::ev h.next 30 (uC u vv vb vs)::cs)) ?_ (k:=u.ef.length) ⟨0,_,rfl,by omega,W9,by omega,p.trans r,q⟩;rintro k _ _ _ s ⟨i,ys,⟨⟩,hk,t,C,d,f⟩;unfold Ix;by_cases hi:i<u.ef.length
 ·refine gG ?_;obtain⟨l,o,D,w,x,_,g,s4⟩:=f.Jj 0 rfl (k:=i) (y:=(i:Int)) (u:=V.I i) (by omega) rfl rfl rfl;refine ed w ?_;rw[x,ei];simp only[je]at g;refine fL ⟨k-1,by omega,i+1,ys.set i (i:Int),rfl,by omega,by simp[t],λj a=>?_,d.trans s4,g⟩
  grind
 ·refine iJ ?_;have e:ys=(List.range u.ef.length).map λ(i:Nat)=>(i:Int):=by
   refine wBR λj=>?_;by_cases a:j<u.ef.length
   ·grind
   ·simp_all
  rw[<-e]at H;exact H s _ d f.JS
end
