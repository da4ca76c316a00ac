/- Parts. -/
import Derived.Test.YtbdcpiokodljaaaGreatDoorM27
import Derived.Test.YtbdcpiokodljaaaGreatDoorM34
import Derived.Test.YtbdcpiokodljaaaGreatDoorM33
set_option maxHeartbeats 4000000
namespace Go.Proofs.YtbdcpiokodljaaaGreatDoor.Hx
open Un Dm
theorem zbd:P0.underlying ev=some (.int .i64):=by kernel_rfl
theorem U8(a b:Int):Lv ev (.I a) (.I b)=some (a == b):=by
 unfold Lv;rw[zbd];rfl
section
variable{u:U}
theorem Bl{w:Nat}(h:oJ u w):w<u.ef.length:=by
 obtain⟨x,a,_⟩:=h
 grind
theorem P9{P:Nat->Prop}(g:Gd u P){s:Nat}{fs:List Fm}(a:u.eh[s]? =some fs):∀w∈iq fs,w<u.ef.length:=by
 intro w b;unfold iq at b;obtain⟨f,c,d⟩:=Yk.1 b;obtain⟨_,_,e⟩:=g.st s fs a;obtain⟨_,_,i,j⟩:=e f c;rcases JT.1 d with h|h
 ·simp_all[Bl]
 simp_all[Bl]
theorem PM(g:Good u){i:Nat}{x:Vl}(d:u.ef[i]? =some x):x.op=21\/x.op=20->x.args.length<=700:=by
 have nb:=g.nb;obtain⟨b,k,a⟩:=g.FU i (by grind) trivial;obtain⟨B,e,hk⟩:=id a;rintro(c|c)
 ·rw[(g.Dz _ _ _ _ _ a d c e).2,g.eQ b B e,<-pR];have:=pS g (i:=u.blocks.length) (j:=0) (b:=b) (ju _) (by omega);omega
 ·rw[g.putAt i x d c];omega
theorem HZ{P:Nat->Prop}(g:Gd u P)(s:Nat)(fs:List Fm)(a:u.eh[s]? =some fs):fs.length<=30/\∀f∈fs,f.locals.length<=40/\f.stack.length<=60:=by
 obtain⟨_,b,c⟩:=g.st s fs a
 simp_all
theorem AN(g:Good u){b:Nat}{B:Bk}(a:u.blocks[b]? =some B):B.ef.length<=3000:=by
 have nv:=g.nv;have:=jA u.ef.length B.ef (JI g a) λv hv=>by
  obtain⟨k,hk⟩:=nT.1 hv;exact g.jW v b k ⟨B,a,hk⟩
 omega
theorem Bj(g:Good u){b:Nat}{B:Bk}(a:u.blocks[b]? =some B):B.eQ.length<=700:=by
 have nb:=g.nb;rw[g.eQ b B a,<-pR];have:=pS g (i:=u.blocks.length) (j:=0) (b:=b) (ju _) (by omega);omega
theorem AT(g:Good u){b:Nat}{B:Bk}(a:u.blocks[b]? =some B):B.next.length<=2:=by
 rcases g.fin b B a with⟨_,h⟩|⟨_,h,_⟩|⟨_,h,_⟩
 ·omega
 ·omega
 simp_all
end
open Un Dm
def yV:qH (Vl×V) where
 sz:=6
 rel _ _ x cs:=cs=mW x.1 x.2/\x.2.one=true
 len h:=by rw[h.1];rfl
 one h:=by rw[h.1];simp only[mW,eo,h.2];rfl
 fi _ h:=h
 mono _ h:=h
def wC:qH (Bk×V) where
 sz:=6
 rel F h x cs:=∃v p,cs=lB x.1 v x.2 p/\ie eN F h x.1.ef v/\ie eN F h x.1.eQ p/\x.2.one=true
 len:=λ⟨_,_,h,_⟩=>by subst h;rfl
 one:=λ⟨_,_,h,a,b,c⟩=>by subst h;simp only[lB,eo,a.one,b.one,c];rfl
 fi:=λhk ⟨v,p,h,a,b,c⟩=>⟨v,p,h,a.fi hk,b.fi hk,c⟩
 mono:=λd ⟨v,p,h,a,b,c⟩=>⟨v,p,h,a.mono d,b.mono d,c⟩
def QC:qH (Fm×V×V) where
 sz:=4
 rel _ _ x cs:=cs=LL x.1 x.2.1 x.2.2/\x.2.1.one=true/\x.2.2.one=true
 len h:=by rw[h.1];rfl
 one h:=by rw[h.1];simp only[LL,eo,h.2.1,h.2.2];rfl
 fi _ h:=h
 mono _ h:=h
section
variable{F F':Nat->Prop}{h h':Hp}{cs:List Pc}{Q:fo}{u:U}{vv vb vs:V}
theorem ej.empty(H:ej F h cs)(i:Nat){l:Nat}(hi:cs[i]? =some (ey l ev [])):ej F h (cs.set i (eJ eN ev [] (.slice l 0 0))):=by
 have a:=H.ok i _ hi;exact H.swap hi (.inr ⟨l,[],rfl,a.2.1,a.2.2,a.1,trivial,rfl⟩) λm e=>e.symm
structure Yn (vs:List Vl) (xs:List (Vl×V)) (fa:Nat->Option (List Nat×V)):Prop where
 fst:xs.map Prod.fst=vs
 row:∀i x w,xs[i]? =some (x,w)->fa i=some (x.args,w)
 out:∀i,xs.length<=i->fa i=none
structure Xp (bs:List Bk) (xs:List (Bk×V)) (fn:Nat->Option (List Nat×V)):Prop where
 fst:xs.map Prod.fst=bs
 row:∀i x w,xs[i]? =some (x,w)->fn i=some (x.next,w)
 out:∀i,xs.length<=i->fn i=none
abbrev KF:=Nat×Nat×Bool
structure CpF (s:Nat) (fs:List Fm) (xs:List (Fm×V×V)) (fl:KF->Option (List Nat×V)):Prop where
 fst:xs.map Prod.fst=fs
 loc:∀k x l w,xs[k]? =some (x,l,w)->fl (s,k,false)=some (x.locals,l)/\fl (s,k,true)=some (x.stack,w)
 out:∀k b,xs.length<=k->fl (s,k,b)=none
structure CpS (ss:List (List Fm)) (xs:List (List (Fm×V×V))) (fl:KF->Option (List Nat×V)):Prop where
 fst:xs.map (λl=>l.map Prod.fst)=ss
 loc:∀s l k x a w,xs[s]? =some l->l[k]? =some (x,a,w)->fl (s,k,false)=some (x.locals,a)/\fl (s,k,true)=some (x.stack,w)
 out:∀s k b,xs.length<=s->fl (s,k,b)=none
theorem Yn.snoc{vs:List Vl}{xs:List (Vl×V)}{fa:Nat->Option (List Nat×V)}(c:Yn vs xs fa)(x:Vl)(w:V):Yn (vs++[x]) (xs++[(x,w)]) (up fa xs.length (some (x.args,w))):=by
 refine⟨by rw[PO,c.fst];rfl,λi y v hi=>?_,λi hi=>?_⟩
 ·by_cases e:i<xs.length
  ·rw[Wx e]at hi;rw[jL _ _ (by omega)];exact c.row i y v hi
  ·rw[Zo (by omega)]at hi;have a:i-xs.length=0:=by have:=(kj.1 hi).1;simp at this;omega
   rw[a]at hi;cases hi;obtain rfl:i=xs.length:=by omega
   exact lZ _ _ _
 ·rw[K8]at hi;rw[jL _ _ (by simp at hi;omega)];exact c.out i (by simp at hi;omega)
theorem Xp.snoc{bs:List Bk}{xs:List (Bk×V)}{fn:Nat->Option (List Nat×V)}(c:Xp bs xs fn)(x:Bk)(w:V):Xp (bs++[x]) (xs++[(x,w)]) (up fn xs.length (some (x.next,w))):=by
 refine⟨by rw[PO,c.fst];rfl,λi y v hi=>?_,λi hi=>?_⟩
 ·by_cases e:i<xs.length
  ·rw[Wx e]at hi;rw[jL _ _ (by omega)];exact c.row i y v hi
  ·rw[Zo (by omega)]at hi;have a:i-xs.length=0:=by have:=(kj.1 hi).1;simp at this;omega
   rw[a]at hi;cases hi;obtain rfl:i=xs.length:=by omega
   exact lZ _ _ _
 ·rw[K8]at hi;rw[jL _ _ (by simp at hi;omega)];exact c.out i (by simp at hi;omega)
theorem ej.re(H:ej F h cs){ds:List Pc}(m:Nat->Nat)(a:∀i c,ds[i]? =some c->cs[m i]? =some c)(b:∀i j,i<ds.length->j<ds.length->m i=m j->i=j):ej F h ds where
 fl:=H.fl
 ok i c hc:=H.ok (m i) c (a i c hc)
 Fg i j c d hc hd hn:=H.Fg (m i) (m j) c d (a i c hc) (a j d hd) λe=>hn (b i j (kj.1 hc).1 (kj.1 hd).1 e)
theorem ej.ze7{a b c d:Pc}(H:ej F h (a::b::c::d::cs)):ej F h (b::d::a::cs):=
 H.re (λi=>match i with|0=>1|1=>3|2=>0|n+3=>n+4) (λi c hc=>match i,hc with|0,hc=>hc|1,hc=>hc|2,hc=>hc|n+3,hc=>hc) λi j _ _ e=>by
  match i,j with
  |0,0|1,1|2,2=>rfl
  |0,1|0,2|1,0|1,2|2,0|2,1=>simp at e
  |0,n+3|1,n+3|2,n+3|n+3,0|n+3,1|n+3,2=>simp at e;try omega
  |n+3,k+3=>simp at e;omega
theorem ej.zbD{ι:Type} [DecidableEq ι] {ty:Nat}{f:ι->Option (List Nat×V)}{xs ys:List Nat}{v w:V}{c:Pc}(H:ej F h (eJ eN ty xs v::eJ eN ty ys w::c::fT ty f::cs)){i j:ι}(hi:f i=Option.none)(a:f j=Option.none)(b:j≠i) :
  ej F h (fT ty (up (up f i (some (ys,w))) j (some (xs,v)))::cs):=
 (H.ze7.Rv hi).sw.Rv (by rw[jL _ _ b];exact a)
theorem ej.zeS{a b c d e f x y z:Pc}(H:ej F h (a::b::c::d::e::f::x::y::z::cs)):ej F h (f::d::b::e::c::a::cs):=
 H.re (λi=>match i with|0=>5|1=>3|2=>1|3=>4|4=>2|5=>0|n+6=>n+9) (λi c hc=>match i,hc with|0,hc=>hc|1,hc=>hc|2,hc=>hc|3,hc=>hc|4,hc=>hc|5,hc=>hc|n+6,hc=>hc) λi j _ _ e=>by
   have g:∀i:Nat,(match i with|0=>5|1=>3|2=>1|3=>4|4=>2|5=>0|n+6=>n+9:Nat)=(if i<6 then[5,3,1,4,2,0].getD i 0 else i+3):=λi=>by
     match i with
     |0|1|2|3|4|5=>rfl
     |n+6=>rw[if_neg (by omega)]
   simp only[g]at e;by_cases hi:i<6
   ·by_cases hj:j<6
    ·rw[if_pos hi,if_pos hj]at e
     exact(by decide:∀i,i<6->∀j,j<6->[5,3,1,4,2,0].getD i 0=[5,3,1,4,2,0].getD j 0->i=j) i hi j hj e
    ·rw[if_pos hi,if_neg hj]at e
     have:[5,3,1,4,2,0].getD i 0<6:=(by decide:∀i,i<6->[5,3,1,4,2,0].getD i 0<6) i hi;omega
   ·by_cases hj:j<6
    ·rw[if_neg hi,if_pos hj]at e
     have:[5,3,1,4,2,0].getD j 0<6:=(by decide:∀i,i<6->[5,3,1,4,2,0].getD i 0<6) j hj;omega
    ·rw[if_neg hi,if_neg hj]at e
     omega
theorem CpF.snoc{s:Nat}{fs:List Fm}{xs:List (Fm×V×V)}{fl:KF->Option (List Nat×V)}(c:CpF s fs xs fl)(x:Fm)(l w:V):CpF s (fs++[x]) (xs++[(x,l,w)]) (up (up fl (s,xs.length,false) (some (x.locals,l))) (s,xs.length,true) (some (x.stack,w))):=by
 refine⟨by rw[PO,c.fst];rfl,λi y a b hi=>?_,λi b hi=>?_⟩
 ·by_cases e:i<xs.length
  ·rw[Wx e]at hi;have f:=c.loc i y a b hi;rw[jL _ _ (by simp),jL _ _ (by simp;omega),jL _ _ (by simp;omega),jL _ _ (by simp)];exact f
  ·rw[Zo (by omega)]at hi;have d:i-xs.length=0:=by have:=(kj.1 hi).1;simp at this;omega
   rw[d]at hi;cases hi;obtain rfl:i=xs.length:=by omega
   exact⟨by rw[jL _ _ (by simp),lZ],lZ _ _ _⟩
 ·rw[K8]at hi;simp at hi;rw[jL _ _ (by simp;omega),jL _ _ (by simp;omega)];exact c.out i b (by omega)
theorem CpS.snoc{ss:List (List Fm)}{xs:List (List (Fm×V×V))} {fl d:KF->Option (List Nat×V)}(c:CpS ss xs fl){fs:List Fm}{ys:List (Fm×V×V)} (c':CpF xs.length fs ys d)(f:∀s k b,s≠xs.length->d (s,k,b)=fl (s,k,b)):CpS (ss++[fs]) (xs++[ys]) d:=by
 refine⟨by rw[PO,c.fst,<-c'.fst];rfl,λi l k y a b hi hk=>?_,λi k b hi=>?_⟩
 ·by_cases e:i<xs.length
  ·rw[Wx e]at hi;rw[f _ _ _ (by omega),f _ _ _ (by omega)];exact c.loc i l k y a b hi hk
  ·rw[Zo (by omega)]at hi;have g:i-xs.length=0:=by have:=(kj.1 hi).1;simp at this;omega
   rw[g]at hi;cases hi;obtain rfl:i=xs.length:=by omega
   exact c'.loc k y a b hk
 ·rw[K8]at hi;simp at hi;rw[f _ _ _ (by omega)];exact c.out i k b (by omega)
def AH(u:U):Prop:=∀(v:Nat)(x:Vl),u.ef[v]? =some x->x.args.length<=700
structure PV (u:U):Prop where
 nv:u.ef.length<=3000
 nb:u.blocks.length<=300
 ns:u.eh.length<=1000
 args:AH u
 nV:∀(b:Nat) (B:Bk),u.blocks[b]? =some B->B.ef.length<=3000/\B.eQ.length<=700/\B.next.length<=2
 st:∀(s:Nat) (fs:List Fm),u.eh[s]? =some fs->fs.length<=30/\∀f∈fs,f.locals.length<=40/\f.stack.length<=60
theorem E4(g:Good u)(b:AH u):PV u:=⟨g.nv,g.nb,g.ns,b,λ_ _ a=>⟨AN g a,Bj g a,AT g a⟩,HZ g⟩
theorem QB(g:PV u)(H0:ej F h cs)(hu:zQ F h u vv vb vs)
  (H:∀F' h' wv wb ws (xs:List (Vl×V)) (bs:List (Bk×V)) (ss:List (List (Fm×V×V))) fa fn fl,Sn F h F' h'->Yn u.ef xs fa->Xp u.blocks bs fn->CpS u.eh ss fl->
   ej F' h' (eJ yV gP xs wv::eJ wC fJ bs wb::eJ (eL QC) mb ss ws::fT ev fa::fT ev fn::fT ev fl::cs)->Q (.agg (uC u wv wb ws)) h') :
  cP CS vj [.agg (uC u vv vb vs)] h Q:=by
 refine Uz rfl rfl ?_;unfold NX;have nv:=g.nv;refine jM H0 hu.one λh1 H1 s1=>?_;rw[fE];obtain⟨H2,s2⟩:=H1.zT im [.I 0,.I 0,.ee,.ee,.ee];have H2:ej F (h1.new (.cells 30 1 true false [V.I 0,.I 0,.ee,.ee,.ee])) (ey h1.next 30 [V.I 0,.I 0,.ee,.ee,.ee]::ey h.next 30 (uC u vv vb vs)::cs):=H2;have s2:Sn F h1 F (h1.new (.cells 30 1 true false [V.I 0,.I 0,.ee,.ee,.ee])):=s2;generalize h1.new (.cells 30 1 true false [V.I 0,.I 0,.ee,.ee,.ee])=h2 at*;generalize h.next=l1 at*;generalize h1.next=l2 at*;refine oF (H2.ld 1 rfl rfl) (oF (H2.ld 1 rfl rfl) (ed (show _=some (V.agg [.I u.func,.I u.pc,.ee,.ee,.ee]) from rfl) ?_));refine gW H2 rfl rfl rfl λh3 H3 s3=>?_;generalize h2.next=l3 at*;have ar:=(s1.trans s2).trans s3;have u3:=hu.since ar;refine oF (H3.ld 2 rfl rfl) (ed u3.v.len ?_)
 have H3:ej F h3 (fT ev (λ_:Nat=>Option.none)::eJ yV gP [] .ee::ey l3 30 [.I u.func,.I u.pc,.ee,.ee,.ee]::ey l2 30 [.I 0,.I 0,.ee,.ee,.ee]::ey l1 30 (uC u vv vb vs)::cs):=
  (H3.add (p:=eJ yV gP [] .ee) .nil λ_ h=>h).Zl
 refine Pr (λk l h'=>∃(i:Nat) (xs:List (Vl×V)) (fa:Nat->Option (List Nat×V)) (wv:V),l=[.ptr l1 0,.ptr l2 0,.ptr l3 0,vv,.I u.ef.length,.I i]/\i+k=u.ef.length/\Sn F h3 F h'/\xs.length=i/\Yn (u.ef.take i) xs fa/\
  ej F h' (fT ev fa::eJ yV gP xs wv::ey l3 30 [.I u.func,.I u.pc,wv,.ee,.ee]::ey l2 30 [.I 0,.I 0,.ee,.ee,.ee]::ey l1 30 (uC u vv vb vs)::cs)) ?_ (k:=u.ef.length)
  ⟨0,[],λ_=>Option.none,.ee,rfl,by omega,Sn.refl _ _,rfl,⟨rfl,λ_ _ _ h=>by simp at h,λ_ _=>rfl⟩,H3⟩
 rintro k _ _ _ _ _ _ h4 ⟨i,xs,fa,wv,⟨⟩,hk,s4,au,hc,H4⟩;unfold Jh;have u4:=u3.since s4;by_cases hi:i<u.ef.length
 ·refine gy ?_;have hx:=hO hi;have M:u.ef.take (i+1)=u.ef.take i++[u.ef[i]]:=OX hi;generalize u.ef[i]=x at*;obtain⟨lx,ox,w,_,x1,x2,xw,_⟩:=u4.val hx;refine ed x1 (ed x2 ?_);refine gW H4 rfl rfl (by simp only[mW,eo,xw.one];rfl) λT H5 s5=>?_;generalize h4.next=lc at*;rw[GX,fE];obtain⟨G,I⟩:=H5.Xq (E:=eN) (xs:=[]) (ws:=[]) (n:=0) ev rfl trivial rfl;have G:ej F (T.new (.cells 3 1 true false [])) (eJ eN ev [] (.slice T.next 0 0)::ey lc 45 (mW x w)::_):=G;have I:Sn F T F (T.new (.cells 3 1 true false [])):=I;generalize T.new (.cells 3 1 true false [])=h6 at*;refine oF (G.ld 1 rfl rfl) ?_;have aE:=g.args i x hx;obtain⟨a,C,e7,_,J,s7⟩:=G.Pf 0 rfl (kL:=8) ((xw.since s5).since I) (by decide) (by decide) (by simp;omega);have aF:eR 3 1 8 (.slice T.next 0 0) w h6=some (.val a C):=e7;rw[aF,ei];simp only[mP,O7]at J;have d:=J.one 0 rfl;obtain⟨U,e8,_,t,s8⟩:=J.st 1 (o:=4) (u:=a) rfl (by simp[mW]) d;refine ed (fS _ _ _) ?_;have aG:gJ 1 (.ptr lc (0+4)) a C=some (.val .undef U):=by rw[zO];exact e8
  rw[aG,ei];simp only[mP,rV]at t;have t:ej F U (eJ eN ev x.args a::ey lc 45 (mW x a)::fT ev fa::eJ yV gP xs wv::ey l3 30 [.I u.func,.I u.pc,wv,.ee,.ee]::_):=t;refine oF (t.ld 4 rfl rfl) (ed (t.tK 1 rfl rfl) ?_);rw[rW (sz:=6) (w:=mW x a) rfl rfl (by simp only[mW,eo,d];rfl),fE];obtain⟨W,h9,e9,_,m,s9⟩:=t.wR 3 rfl (kL:=64) (K9:=45) (y:=(x,a)) (w:=mW x a) (ro:=false) ⟨rfl,d⟩ (by decide) (by decide) (by omega);have aH:eR 45 6 64 wv (.slice U.next 0 1) (U.new (.cells 45 6 true false (mW x a)))=some (.val W h9):=e9;rw[aH,ei];simp only[mP,rV]at m;obtain⟨X,Nj,_,c,z⟩:=m.st 4 (o:=2) (u:=W) rfl (by simp) (m.one 3 rfl);refine ed (fS _ _ _) ?_;have aw:gJ 1 (.ptr l3 (0+2)) W h9=some (.val .undef X):=by rw[zO];exact Nj
  rw[aw,ei];simp only[mP,rV]at c;have Y:=c.Kc.Rv (i:=i) (hc.out i (by omega));refine fI ⟨k-1,by omega,i+1,xs++[(x,a)],up fa i (some (x.args,a)),W,rfl,by omega,((((s4.trans s5).trans I).trans s7).trans s8).trans (s9.trans z),by simp[au],?_,Y⟩;rw[M];have:=hc.snoc x a
  rwa [au]at this
 refine iI ?_;obtain rfl:i=u.ef.length:=by omega
 rw[Lp]at hc;have nb:=g.nb;refine oF (H4.ld 4 rfl rfl) (ed u4.b.len ?_);clear hk k
 have H4:ej F h4 (fT ev (λ_:Nat=>Option.none)::eJ wC fJ [] .ee::fT ev fa::eJ yV gP xs wv::ey l3 30 [.I u.func,.I u.pc,wv,.ee,.ee]::ey l2 30 [.I 0,.I 0,.ee,.ee,.ee]::ey l1 30 (uC u vv vb vs)::cs):=
  (H4.add (p:=eJ wC fJ [] .ee) .nil λ_ h=>h).Zl
 refine O6 (λk l h'=>∃(F':Nat->Prop) (i:Nat) (bs:List (Bk×V)) (fn:Nat->Option (List Nat×V)) (wb:V),l=[.ptr l1 0,.ptr l2 0,.ptr l3 0,vb,.I u.blocks.length,.I i]/\i+k=u.blocks.length/\Sn F h4 F' h'/\bs.length=i/\Xp (u.blocks.take i) bs fn/\
  ej F' h' (fT ev fn::eJ wC fJ bs wb::fT ev fa::eJ yV gP xs wv::ey l3 30 [.I u.func,.I u.pc,wv,wb,.ee]::ey l2 30 [.I 0,.I 0,.ee,.ee,.ee]::ey l1 30 (uC u vv vb vs)::cs)) ?_ (k:=u.blocks.length)
  ⟨F,0,[],λ_=>Option.none,.ee,rfl,by omega,Sn.refl _ _,rfl,⟨rfl,λ_ _ _ h=>by simp at h,λ_ _=>rfl⟩,H4⟩
 rintro k _ _ _ _ _ _ T ⟨Z,i,bs,fn,wb,⟨⟩,hk,s5,ax,aa,H5⟩;unfold I3;have u5:=u4.since s5;by_cases hi:i<u.blocks.length
 ·refine gy ?_;have hB:=hO hi;have M:u.blocks.take (i+1)=u.blocks.take i++[u.blocks[i]]:=OX hi;generalize u.blocks[i]=B at*;have aQ:=(g.nV i B hB).1;have aR:=(g.nV i B hB).2.1;have aS:=(g.nV i B hB).2.2;obtain⟨lx,ox,bv,bn,bp,_,x1,x2,iv,iN,ip,_⟩:=u5.nV hB;refine ed x1 (ed x2 ?_);refine gW H5 rfl rfl (by simp only[lB,eo,iv.one,iN.one,ip.one];rfl) λh6 G I=>?_;generalize T.next=lc at*;have e:∀{h:Hp} {cs:List Pc},ej Z h cs->ej Z (h.new (.cells 3 1 true false [])) (ey h.next 3 []::cs)/\Sn Z h Z (h.new (.cells 3 1 true false [])):=λH=>H.zT 3 [];rw[GX,g0];obtain⟨J,s7⟩:=e G;generalize h6.new (.cells 3 1 true false [])=C at*;refine oF (J.ld 1 rfl rfl) ?_;rw[g0];obtain⟨t,s8⟩:=e J;generalize C.new (.cells 3 1 true false [])=U at*;refine oF (t.ld 2 rfl rfl) ?_;rw[g0];obtain⟨m,s9⟩:=e t;generalize U.new (.cells 3 1 true false [])=h9 at*;generalize h6.next=ra at*;generalize C.next=rb at*;generalize U.next=rc at*;refine oF (m.ld 3 rfl rfl) ?_;have ab:=(s7.trans s8).trans s9;refine⟨⟨m.get 0 rfl,bq⟩,m.ld 3 rfl rfl,⟨m.get 1 rfl,bq⟩,m.ld 3 rfl rfl,⟨m.get 2 rfl,bq⟩,?_⟩;have aI:=(iv.since I).since ab;have aJ:=(iN.since I).since ab;have aK:=(ip.since I).since ab;have m:=m.empty 2 rfl;simp only[mP,rV]at m;obtain⟨a,hA,eA,nA,q,sA⟩:=m.Pf 2 rfl (kL:=8) aI (by decide) (by decide) (by simp;omega);have aj:eR 3 1 8 (.slice ra 0 0) bv h9=some (.val a hA):=eA;rw[aj,ei];simp only[mP,rV,O7]at q;refine⟨nA,ed (fS _ _ _) ⟨q.ld 3 rfl rfl,⟨q.get 0 rfl,bq⟩,q.ld 3 rfl rfl,⟨q.get 1 rfl,bq⟩,?_⟩⟩;have q:=q.empty 1 rfl;simp only[mP,rV]at q;obtain⟨K,hC,eC,nC,L,sC⟩:=q.Pf 1 rfl (kL:=8) (aJ.since sA) (by decide) (by decide) (by simp;omega);have ak:eR 3 1 8 (.slice rb 0 0) bn hA=some (.val K hC):=eC;rw[ak,ei];simp only[mP,rV,O7]at L;refine⟨nC,L.ld 3 rfl rfl,⟨L.get 0 rfl,bq⟩,?_⟩;have L:=L.empty 0 rfl;simp only[mP,rV]at L;obtain⟨vp,hD,eD,nD,HD,sD⟩:=L.Pf 0 rfl (kL:=8) ((aK.since sA).since sC) (by decide) (by decide) (by simp;omega);have aL:eR 3 1 8 (.slice rc 0 0) bp hC=some (.val vp hD):=eD;rw[aL,ei];simp only[mP,rV,O7]at HD;have d:=HD.one 2 rfl;have al:=HD.one 1 rfl;have ay:=HD.one 0 rfl;obtain⟨hE,eE,nE,HE,sE⟩:=HD.st 3 (o:=0) (u:=a) rfl (by simp[lB]) d;have am:gJ 1 (.ptr lc (0+0)) a hD=some (.val .undef hE):=eE;refine⟨nD,?_⟩;rw[am,ei];simp only[mP,rV]at HE;obtain⟨hG,eG,nG,HG,sG⟩:=HE.st 3 (o:=3) (u:=K) rfl (by simp[lB]) al;have an:gJ 1 (.ptr lc (0+3)) K hE=some (.val .undef hG):=by rw[zO];exact eG
  refine⟨nE,ed (fS _ _ _) ?_⟩;rw[an,ei];simp only[mP,rV]at HG;obtain⟨hI,eI,nI,HI,sI⟩:=HG.st 3 (o:=4) (u:=vp) rfl (by simp[lB]) ay;have aM:gJ 1 (.ptr lc (0+4)) vp hG=some (.val .undef hI):=by rw[zO];exact eI
  refine⟨nG,ed (fS _ _ _) ?_⟩;rw[aM,ei];simp only[mP,rV]at HI;have HI:ej Z hI (eJ eN ev B.eQ vp::eJ eN ev B.next K::eJ eN ev B.ef a::ey lc 43 (lB B a K vp)::fT ev fn::eJ wC fJ bs wb::fT ev fa::eJ yV gP xs wv::ey l3 30 [.I u.func,.I u.pc,wv,wb,.ee]::_):=HI;refine⟨nI,oF (HI.ld 8 rfl rfl) (ed (HI.tK 3 rfl rfl) ?_)⟩;obtain⟨HJ,sJ,rp⟩:=HI.jZ 0 rfl;simp only[mP]at HJ;obtain⟨HK,sK,rv⟩:=HJ.jZ 2 rfl;simp only[mP,rV]at HK;have rp:=rp.since sK;have HK:=HK.tail.Kc.Kc;generalize (λl=>(Z l\/Loc vp l)\/Loc a l)=FK at*;rw[rW (sz:=6) (w:=lB B a K vp) rfl rfl (by simp only[lB,eo,d,al,ay];rfl),fE];obtain⟨ac,hL,eL,_,N,sL⟩:=HK.wR 2 rfl (kL:=96) (K9:=43) (y:=(B,K)) (w:=lB B a K vp) (ro:=false) ⟨a,vp,rfl,rv,rp,al⟩ (by decide) (by decide) (by omega);have O:eR 43 6 96 wb (.slice hI.next 0 1) (hI.new (.cells 43 6 true false (lB B a K vp)))=some (.val ac hL):=eL;rw[O,ei];simp only[mP,rV]at N;obtain⟨hM,eM,_,HM,sM⟩:=N.st 5 (o:=3) (u:=ac) rfl (by simp) (N.one 2 rfl);refine ed (fS _ _ _) ?_;have P:gJ 1 (.ptr l3 (0+3)) ac hL=some (.val .undef hM):=by rw[zO];exact eM
  rw[P,ei];simp only[mP,rV]at HM;have HN:=HM.Rv (i:=i) (aa.out i (by omega));have aA:=((((((I.trans ab).trans sA).trans sC).trans sD).trans sE).trans sG).trans sI;refine fI ⟨k-1,by omega,FK,i+1,bs++[(B,K)],up fn i (some (B.next,K)),ac,rfl,by omega,s5.trans (((aA.trans sJ).trans sK).trans (sL.trans sM)),by simp[ax],?_,HN⟩;rw[M];have:=aa.snoc B K
  rwa [ax]at this
 refine iI ?_;have ns:=g.ns;obtain rfl:i=u.blocks.length:=by omega
 rw[Lp]at aa;refine oF (H5.ld 6 rfl rfl) (ed u5.s.len ?_);clear hk k
 have H5:ej Z T (fT ev (λ_:KF=>Option.none)::eJ (eL QC) mb [] .ee::fT ev fn::eJ wC fJ bs wb::fT ev fa::eJ yV gP xs wv::ey l3 30 [.I u.func,.I u.pc,wv,wb,.ee]::ey l2 30 [.I 0,.I 0,.ee,.ee,.ee]::ey l1 30 (uC u vv vb vs)::cs):=
  (H5.add (p:=eJ (eL QC) mb [] .ee) .nil λ_ h=>h).Zl
 refine Pw (λk l h'=>∃(F':Nat->Prop) (i:Nat) (ss:List (List (Fm×V×V))) (fl:KF->Option (List Nat×V)) (ws:V),l=[.ptr l2 0,.ptr l3 0,vs,.I u.eh.length,.I i]/\i+k=u.eh.length/\Sn Z T F' h'/\ss.length=i/\CpS (u.eh.take i) ss fl/\
  ej F' h' (fT ev fl::eJ (eL QC) mb ss ws::fT ev fn::eJ wC fJ bs wb::fT ev fa::eJ yV gP xs wv::ey l3 30 [.I u.func,.I u.pc,wv,wb,ws]::ey l2 30 [.I 0,.I 0,.ee,.ee,.ee]::ey l1 30 (uC u vv vb vs)::cs)) ?_ (k:=u.eh.length)
  ⟨Z,0,[],λ_=>Option.none,.ee,rfl,by omega,Sn.refl _ _,rfl,⟨rfl,λ_ _ _ _ _ _ h=>by simp at h,λ_ _ _ _=>rfl⟩,H5⟩
 rintro k _ _ _ _ _ h6 ⟨D,i,ss,fl,ws,⟨⟩,hk,I,oV,ae,G⟩;unfold I8;have u6:=u5.since I;by_cases hi:i<u.eh.length
 ·refine gy ?_;have hS:=hO hi;have M:u.eh.take (i+1)=u.eh.take i++[u.eh[i]]:=OX hi;generalize u.eh[i]=fs at*;have aT:=(g.st i fs hS).1;obtain⟨lx,ox,f,_,x1,x2,_,xf⟩:=u6.st hS;refine ed x1 (ed x2 ?_);refine gW G rfl rfl (by simp only[eo,xf.one];rfl) λC J s7=>?_;generalize h6.next=lc at*;rw[fE];obtain⟨t,s8⟩:=J.zT mb [.ee];have t:ej D (C.new (.cells 52 1 true false [V.ee])) (ey C.next 52 [.ee]::ey lc 52 [f]::_):=t;have s8:Sn D C D (C.new (.cells 52 1 true false [V.ee])):=s8;generalize C.new (.cells 52 1 true false [V.ee])=U at*;generalize C.next=ld at*;have xf:=(xf.since s7).since s8;refine oF (t.ld 1 rfl rfl) (ed xf.len ?_)
  have t:ej D U (fT ev fl::eJ QC MN [] .ee::ey ld 52 [.ee]::eJ (eL QC) mb ss ws::fT ev fn::eJ wC fJ bs wb::fT ev fa::eJ yV gP xs wv::ey l3 30 [.I u.func,.I u.pc,wv,wb,ws]::ey l2 30 [.I 0,.I 0,.ee,.ee,.ee]::ey l1 30 (uC u vv vb vs)::cs):=
   (t.Kc.sw.add (p:=eJ QC MN [] .ee) .nil λ_ h=>h).sw
  refine Py (λk' l h'=>∃(j:Nat) (ys:List (Fm×V×V)) (A:KF->Option (List Nat×V)) (R:V),l=[.ptr l2 0,.ptr l3 0,.ptr ld 0,vs,.I u.eh.length,.I i,f,.I fs.length,.I j]/\j+k' = fs.length/\Sn D U D h'/\ys.length=j/\CpF i (fs.take j) ys A/\(∀s k b,s≠i->A (s,k,b)=fl (s,k,b))/\
   ej D h' (fT ev A::eJ QC MN ys R::ey ld 52 [R]::eJ (eL QC) mb ss ws::fT ev fn::eJ wC fJ bs wb::fT ev fa::eJ yV gP xs wv::ey l3 30 [.I u.func,.I u.pc,wv,wb,ws]::ey l2 30 [.I 0,.I 0,.ee,.ee,.ee]::ey l1 30 (uC u vv vb vs)::cs)) ?_ (k:=fs.length)
   ⟨0,[],fl,.ee,rfl,by omega,Sn.refl _ _,rfl,⟨rfl,λ_ _ _ _ h=>by simp at h,λk b _=>ae.out i k b (by omega)⟩,λ_ _ _ _=>rfl,t⟩
  rintro k' _ _ _ _ _ _ _ _ _ h9 ⟨j,ys,A,R,⟨⟩,aU,s9,aB,S,aC,m⟩;unfold Jg;have aN:=xf.since s9;by_cases hj:j<fs.length
  ·refine gy ?_;have hF:=hO hj;have aO:fs.take (j+1)=fs.take j++[fs[j]]:=OX hj;have aV:=(g.st i fs hS).2 fs[j] (AU hj);generalize fs[j]=x at*;obtain⟨ly,oy,xa,xb,_,y1,y2,ya,yb⟩:=aN.mN hF;refine ed y1 (ed y2 ?_);refine gW m rfl rfl (by simp only[LL,eo,ya.one,yb.one];rfl) λX c z=>?_;generalize h9.next=le at*;have e:∀{h:Hp} {cs:List Pc},ej D h cs->ej D (h.new (.cells 3 1 true false [])) (ey h.next 3 []::cs)/\Sn D h D (h.new (.cells 3 1 true false [])):=λH=>H.zT 3 [];rw[GX,g0];obtain⟨Y,ao⟩:=e c;generalize X.new (.cells 3 1 true false [])=aD at*;refine oF (Y.ld 1 rfl rfl) ?_;rw[g0];obtain⟨r,ap⟩:=e Y;generalize aD.new (.cells 3 1 true false [])=aP at*;generalize X.next=ra at*;generalize aD.next=rb at*;refine oF (r.ld 2 rfl rfl) ?_;refine⟨⟨r.get 0 rfl,bq⟩,r.ld 2 rfl rfl,⟨r.get 1 rfl,bq⟩,?_⟩;have ya:=((ya.since z).since ao).since ap;have yb:=((yb.since z).since ao).since ap;have r:=r.empty 1 rfl;simp only[mP,rV]at r;obtain⟨a,hA,eA,nA,q,sA⟩:=r.Pf 1 rfl (kL:=8) ya (by decide) (by decide) (by simp;omega);have aj:eR 3 1 8 (.slice ra 0 0) xa aP=some (.val a hA):=eA;rw[aj,ei];simp only[mP,rV,O7]at q;refine⟨nA,ed (fS _ _ _) ⟨q.ld 2 rfl rfl,⟨q.get 0 rfl,bq⟩,?_⟩⟩;have q:=q.empty 0 rfl;simp only[mP,rV]at q;obtain⟨vc,hC,eC,nC,L,sC⟩:=q.Pf 0 rfl (kL:=8) (yb.since sA) (by decide) (by decide) (by simp;omega);have ak:eR 3 1 8 (.slice rb 0 0) xb hA=some (.val vc hC):=eC;rw[ak,ei];simp only[mP,rV,O7]at L;have d:=L.one 1 rfl;have aq:=L.one 0 rfl;obtain⟨hE,eE,nE,HE,sE⟩:=L.st 2 (o:=2) (u:=a) rfl (by simp[LL]) d;have am:gJ 1 (.ptr le (0+2)) a hC=some (.val .undef hE):=by rw[zO];exact eE
   refine⟨nC,?_⟩;rw[am,ei];simp only[mP,rV]at HE;obtain⟨hG,eG,nG,HG,sG⟩:=HE.st 2 (o:=3) (u:=vc) rfl (by simp[LL]) aq;have an:gJ 1 (.ptr le (0+3)) vc hE=some (.val .undef hG):=by rw[zO];exact eG
   refine⟨nE,ed (fS _ _ _) ?_⟩;rw[an,ei];simp only[mP,rV]at HG;have HG:ej D hG (eJ eN ev x.stack vc::eJ eN ev x.locals a::ey le 49 (LL x a vc)::fT ev A::eJ QC MN ys R::ey ld 52 [R]::_):=HG;refine⟨nG,oF (HG.ld 5 rfl rfl) (ed (HG.tK 2 rfl rfl) ?_)⟩;rw[rW (sz:=4) (w:=LL x a vc) rfl rfl (by simp only[LL,eo,d,aq];rfl),fE];obtain⟨ag,hL,eL,_,N,sL⟩:=HG.wR 4 rfl (kL:=64) (K9:=49) (y:=(x,a,vc)) (w:=LL x a vc) (ro:=false) ⟨rfl,d,aq⟩ (by decide) (by decide) (by omega);have O:eR 49 4 64 R (.slice hG.next 0 1) (hG.new (.cells 49 4 true false (LL x a vc)))=some (.val ag hL):=eL;rw[O,ei];simp only[mP,rV]at N;obtain⟨hM,eM,_,HM,sM⟩:=N.st 5 (o:=0) (u:=ag) rfl (by simp) (N.one 4 rfl);refine ed (fS _ _ _) ?_;have P:gJ 1 (.ptr ld (0+0)) ag hL=some (.val .undef hM):=eM;rw[P,ei];simp only[mP,rV]at HM;have HN:=HM.zbD (i:=(i,j,false)) (j:=(i,j,true)) (S.out j false (by omega)) (S.out j true (by omega)) (by simp);refine fI ⟨k'-1,by omega,j+1,ys++[(x,a,vc)],up (up A (i,j,false) (some (x.locals,a))) (i,j,true) (some (x.stack,vc)),ag,rfl,by omega,((((((s9.trans z).trans ao).trans ap).trans sA).trans sC).trans (sE.trans sG)).trans (sL.trans sM),by simp[aB],?_,?_,HN⟩
   ·rw[aO];have:=S.snoc x a vc
    rwa [aB]at this
   ·intro s k b hs;rw[jL _ _ (by simp[hs]),jL _ _ (by simp[hs])];exact aC s k b hs
  refine iI ?_;obtain rfl:j=fs.length:=by omega
  rw[Lp]at S;obtain⟨c,z,rf⟩:=m.jZ 1 rfl;simp only[mP,rV]at c;generalize (λl=>D l\/Loc R l)=F7 at*;have c:=c.Kc;refine oF (c.ld 7 rfl rfl) (ed (c.tK 1 rfl rfl) ?_);rw[rW (sz:=1) (w:=[R]) rfl rfl (by simp only[eo,rf.one];rfl),fE];obtain⟨ah,hL,eL,_,N,sL⟩:=c.wR 2 rfl (kL:=24) (K9:=52) (y:=ys) (w:=[R]) (ro:=false) ⟨R,rfl,rf⟩ (by decide) (by decide) (by omega);have O:eR 52 1 24 ws (.slice h9.next 0 1) (h9.new (.cells 52 1 true false [R]))=some (.val ah hL):=eL;rw[O,ei];simp only[mP,rV]at N;obtain⟨hM,eM,_,HM,sM⟩:=N.st 7 (o:=4) (u:=ah) rfl (by simp) (N.one 2 rfl);refine ed (fS _ _ _) ?_;have P:gJ 1 (.ptr l3 (0+4)) ah hL=some (.val .undef hM):=by rw[zO];exact eM
  rw[P,ei];simp only[mP,rV]at HM;refine fI ⟨k-1,by omega,F7,i+1,ss++[ys],A,ah,rfl,by omega,((((I.trans s7).trans s8).trans s9).trans z).trans (sL.trans sM),by simp[oV],?_,HM.Kc⟩;rw[M];have ai:=S;rw[<-oV]at ai;exact ae.snoc ai λs k b hs=>aC s k b (by omega)
 refine iI ?_;obtain rfl:i=u.eh.length:=by omega
 rw[Lp]at ae;refine ed (G.tK 6 rfl rfl) ?_;obtain⟨C,e7,_,J,s7⟩:=G.stA 7 (ws:=[.I u.func,.I u.pc,wv,wb,ws]) (n:=5) rfl rfl rfl (by simp only[eo,G.one 5 rfl,G.one 3 rfl,G.one 1 rfl];rfl);rw[e7,ei];simp only[mP,rV]at J;refine ed (J.tK 7 rfl rfl) ?_;exact H D C wv wb ws xs bs ss fa fn fl (((ar.trans s4).trans s5).trans (I.trans s7)) hc aa ae J.zeS
end
open Un Dm
section
variable{F F':Nat->Prop}{h h':Hp}{cs ds:List Pc}{Q:fo}{u:U}{vv vb vs:V}
def MG(cs:List Pc)(l:Nat):Prop:=∃(i:Nat)(c:Pc),cs[i]? =some c/\c.mM l
theorem ej.ze1(H:ej F h cs):ej (λl=>F l\/MG cs l) h []:=
 ej.nil λl a=>a.elim (H.fl l) λ⟨i,c,hc,b⟩=>(c.Pl (H.ok i c hc) l b).1
theorem ej.back(H:ej F h cs){G:Nat->Prop}(s:Sn (λl=>F l\/MG cs l) h G h'):ej F h' cs where
 fl l a:=ET (H.fl l a) s.next
 ok i c hc:=c.fi (H.ok i c hc) (λl a=>s.fi l (.inl a)) (λl a=>s.fi l (.inr ⟨i,c,hc,a⟩)) s.next
 Fg:=H.Fg
theorem Sn.back{G:Nat->Prop}(s:Sn (λl=>F l\/MG cs l) h G h'):Sn F h F h':=⟨s.next,λl a=>s.fi l (.inl a),λ_ h=>h⟩
theorem ej.zcH(H:ej F h cs){ty:Nat}{xs:List Nat}{v:V}(s:Sn (λl=>F l\/MG cs l) h (λl=>F l\/MG cs l) h') (k:ej (λl=>F l\/MG cs l) h' [eJ eN ty xs v]):ej F h' (eJ eN ty xs v::cs):=by
 have j:lM eN ty (λl=>F l\/MG cs l) h' xs v:=k.ok 0 _ rfl;refine(H.back s).cons ?_ λi c hc l m d=>(j.xi m).2.2 (.inr ⟨i,c,hc,d⟩);rcases j with⟨f,g⟩|⟨t,ws,f,g,w,n,y,o⟩
 ·exact .inl ⟨f,g⟩
 ·exact .inr ⟨t,ws,f,g,by simp_all,n,by
   have p:∀(ws:List V) (xs:List Nat),qP eN (λl=>F l\/MG cs l) h' ws xs->qP eN F h' ws xs:=λws xs=>by
    induction xs generalizing ws with
    |nil=>exact id
    |cons x xs q=>rintro⟨a,b,e,r,u⟩;exact⟨a,b,e,r,q b u⟩
   simp_all,o⟩
theorem Q6{α β:Type}{E:qH α} {E':qH β}:∀(ws:List V)(xs:List α)(ys:List β),ys.length=xs.length->(∀(k:Nat) x y cs,xs[k]? =some x->ys[k]? =some y->E.rel F h x cs->E'.rel F' h y cs)->qP E F h ws xs->qP E' F' h ws ys
 |_,[],[],_,_,h=>h
 |ws,x::xs,y::ys,hl,hr,⟨a,b,e,r,hw⟩=>⟨a,b,e,hr 0 x y a rfl rfl r,Q6 b xs ys (by simp_all) (λk x y cs c d=>hr (k+1) x y cs (by simp_all) (by simp_all)) hw⟩
theorem ej.Wi{α β:Type}{E:qH α} {E':qH β}(H:ej F h cs)(i:Nat){ty:Nat}{xs:List α}{ys:List β}{v:V}(hi:cs[i]? =some (eJ E ty xs v))(d:E'.sz=E.sz)(a:ys.length=xs.length)(e:∀(k:Nat) x y cs,xs[k]? =some x->ys[k]? =some y->E.rel F h x cs->E'.rel F h y cs):ej F h (cs.set i (eJ E' ty ys v)):=by
 refine H.swap hi ?_ λ_ h=>h;rcases H.row i hi with⟨b,c⟩|⟨t,ws,b,c,f,g,j,l⟩
 ·subst c;exact .inl ⟨b,wA4 a⟩
 ·exact .inr ⟨t,ws,by rw[a];exact b,c,f,by rw[d];exact g,Q6 ws xs ys a e j,l⟩
theorem ie.Wi{α β:Type}{E:qH α} {E':qH β}{xs:List α}{ys:List β}{v:V}(hs:ie E F h xs v)(f:E'.sz=E.sz)(c:∀l,F l->F' l)(d:ys.length=xs.length)(g:∀(k:Nat) x y cs,xs[k]? =some x->ys[k]? =some y->E.rel F h x cs->E'.rel F' h y cs):ie E' F' h ys v:=by
 rcases hs with⟨b,a⟩|⟨l,o,ty,live,ro,ws,b,a,i,j,e,m⟩
 ·subst a;exact .inl ⟨b,wA4 d⟩
 ·exact .inr ⟨l,o,ty,live,ro,ws,by simp_all,c l a,by simp_all,by grind,e,by grind[Q6]⟩
theorem zdW{xs:List Nat}{v:V}(hs:ie eN F h xs v)(g:xs.length<1000000)(x:Nat)(H:Q (.bool (xs.contains x)) h) :
  cP CS lJ [v,.I x] h Q:=by
 refine B6 rfl rfl ?_;unfold tD;refine FJ rfl rfl ?_;unfold xJ;refine ed hs.len ?_;refine Ci (λk l h'=>∃i:Nat,l=[v,.I x,.I xs.length,.I (i:Nat)]/\h' = h/\i+k=xs.length/\∀j y,j<i->xs[j]? =some y->y≠x) ?_ (k:=xs.length) (by grind);rintro k _ _ _ _ h' ⟨i,⟨⟩,rfl,hk,a⟩;unfold tV;by_cases hi:i<xs.length
 ·refine gy ?_;have b:=hO hi;generalize xs[i]=y at*;obtain⟨l,o,_,c,d⟩:=hs.nat b .i64;refine ed c (ed d (fZ ?_));by_cases e:x=y
  ·refine gj (by rw[e]) (ed (oS ..) ?_);rw[Ml (by omega)]
   grind
  ·refine fU (by omega) (fI ⟨k-1,by omega,i+1,rfl,rfl,by omega,λj z f m=>?_⟩)
   grind
 ·refine iI (ed (oS ..) ?_);rw[OZ (by omega)];have:xs.contains x=false:=by
   rw[wBj];intro h;obtain⟨j,f⟩:=nT.1 (wBQ.1 h);exact by grind
  simp_all
def oD(az:List Int):Nat->Int:=λv=>az.getD v (-1)
theorem VD{az:List Int}{v:Nat}{a:Int}(h:az[v]? =some a):oD az v=a:=by
 grind[oD]
theorem zbj{lt:Nat}{mf:V}{az:List Int}{G:Nat->Prop}(d:ez (.ptr lt 5) h=some mf)(hs:ie eZ G h az mf)(L:az.length<=3000)(f:∀(v:Nat)(a:Int),az[v]? =some a->a<az.length){v:Nat}(hv:v<az.length)
  (H:yu (oD az) (az.length+1) v<az.length->Q (.I (yu (oD az) (az.length+1) v:Nat)) h):cP CS jF [.ptr lt 0,.I v] h Q:=by
 refine Ju rfl rfl ?_;unfold A3;refine Gt (λk l h'=>∃n w:Nat,l=[.ptr lt 0,.I (w:Nat),.I (n:Nat)]/\h' = h/\n+k=az.length+1/\w<az.length/\yu (oD az) k w=yu (oD az) (az.length+1) v) ?_ (k:=az.length+1) (by grind);rintro k _ _ _ h' ⟨n,w,⟨⟩,rfl,hk,D,E⟩;unfold yE;have g:=hO D;have J:=VD g;have K:=f w _ g;generalize az[w]=a at*;obtain⟨l,o,_,F,I⟩:=hs.int g .i64;have d:ez (.ptr lt (0+5)) h' = some mf:=d;refine ed (fP _ _) (ed (by rfl) (ed d (ed F (ed I (ed (oS ..) ?_)))));rw[show jX (V.bool (decide (0<=a))) (oB (some (V.ptr lt 0)) λi=>oB (hZ i) λj=>oB (fF 5 j) λp=>oB (ez p h') λq=>oB (some (V.I w)) λr=>oB (gG 1 q r) λs=>oB (ez s h') λt=>oB (some (V.I w)) λu=>en .neq 3 t u)=some (.bool (decide (0<=a)&&(a != (w:Int)))) from by
  simp_all]
 rw [iL];rw[show jX (V.bool (decide (0<=a)&&(a != (w:Int)))) (oB (some (V.I n)) λx=>oB (some (V.ptr lt 0)) λy=>oB (hZ y) λz=>oB (fF 5 z) λA=>oB (ez A h') λB=>oB (fD B) λC=>en .leq 3 x C)=some (.bool ((decide (0<=a)&&(a != (w:Int)))&&decide ((n:Int)<=az.length))) from by
  simp only[fe,fP,fS,d,hs.len,KX,j6]]
 rw[iL]
 cases k with
 | zero=>
   refine iJ (fU (by grind) ?_)
   grind[yu,oD]
 | succ k=>
   rw[Ml (show(n:Int)<=az.length by omega),Bool.and_true];have e:yu (oD az) (k+1) w=if 0<=oD az w/\oD az w≠(w:Int) then yu (oD az) k (oD az w).toNat else w:=rfl
   rw[J]at e;by_cases c:0<=a/\a≠(w:Int)
   ·refine iJ (gj (by simp_all) ?_)
    refine ed (fP _ _) (ed (by rfl) (ed d (ed F (ed I (lT (m:=1) (by omega) (by omega) ?_)))));rw[if_pos c]at e;obtain⟨b,rfl⟩:=wBG c.1;exact⟨k,by omega,n+1,b,rfl,rfl,by omega,by omega,by simp_all⟩
   ·refine iJ (fU (λh=>c ?_) ?_)
    ·rw[yl,A4,bne_iff_ne]at h
     exact h
    ·rw[if_neg c]at e
     rw[e]at E;rw[<-E]at H;exact H D
theorem WB(m:gv (uC u vv vb vs)=true)(hv:fD vv=some (.I u.ef.length))(A:u.ef.length<=3000)(n:ej F h cs)(H:∀h' v,Sn F h F h'->ej F h' (eJ eZ ev ((List.range u.ef.length).map λ(i:Nat)=>(i:Int)) v::cs)->Q v h') :
  cP CS Br [.agg (uC u vv vb vs)] h Q:=by
 refine Ut rfl rfl ?_;unfold N9;refine jM n m λb c p=>?_;refine ed (by rfl) (ed (c.ld 0 rfl rfl) (ed hv ?_));rw[kW (z:=V.I 0) rfl (by decide) (by omega),fE];obtain⟨q,r⟩:=c.make (E:=eZ) (ty:=ev) (y:=0) (u:=V.I 0) u.ef.length rfl rfl;generalize b.new (.cells ev 1 true false (List.replicate u.ef.length (V.I 0)))=B at*;generalize b.next=lr at*;refine ed (by rfl) ?_;refine O9 (λk l h'=>∃(i:Nat) (ys:List Int),l=[.slice lr 0 u.ef.length,.I u.ef.length,.I i]/\i+k=u.ef.length/\ys.length=u.ef.length/\(∀j:Nat,j<i->ys[j]? =some (j:Int))/\Sn F h F h'/\ej F h' (eJ eZ ev ys (.slice lr 0 u.ef.length)::ey h.next 30 (uC u vv vb vs)::cs)) ?_ (k:=u.ef.length) ⟨0,_,rfl,by omega,Xh,by omega,p.trans r,q⟩;rintro k _ _ _ s ⟨i,ys,⟨⟩,hk,t,C,d,f⟩;unfold Jk;by_cases hi:i<u.ef.length
 ·refine gy ?_;obtain⟨l,o,D,w,x,_,g,s4⟩:=f.JZ 0 rfl (k:=i) (y:=(i:Int)) (u:=V.I i) (by omega) rfl rfl rfl;refine ed w ?_;rw[x,ei];simp only[mP]at g;refine fI ⟨k-1,by omega,i+1,ys.set i (i:Int),rfl,by omega,by simp[t],λj a=>?_,d.trans s4,g⟩
  grind
 ·refine iI ?_;have e:ys=(List.range u.ef.length).map λ(i:Nat)=>(i:Int):=by
   refine wBR λj=>?_;by_cases a:j<u.ef.length
   ·grind
   ·simp_all
  rw[<-e]at H;exact H s _ d f.Kc
end
