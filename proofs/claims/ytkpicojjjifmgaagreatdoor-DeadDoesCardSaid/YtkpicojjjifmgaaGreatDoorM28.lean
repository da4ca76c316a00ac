/- Parts. -/
import Derived.Test.YtkpicojjjifmgaaGreatDoorM27
import Derived.Test.YtkpicojjjifmgaaGreatDoorM34
import Derived.Test.YtkpicojjjifmgaaGreatDoorM33
namespace Go.Proofs.YtkpicojjjifmgaaGreatDoor.Hx
open Un Dm
theorem Zc:P0.underlying eJ=some (.int .i64):=by kernel_rfl
theorem Tw(a b:Int):J8 eJ (.I a) (.I b)=some (a == b):=by
 unfold J8;rw[Zc];rfl
section
variable{u:U}
theorem xj{w:Nat}(h:xP u w):w<u.eh.length:=by
 obtain⟨x,a,_⟩:=h;exact(jR.1 a).1
theorem CT(g:Good u){s:Nat}{fs:List Fm}(a:u.en[s]? =some fs):∀w∈gN fs,w<u.eh.length:=by
 intro w c;unfold gN at c;obtain⟨f,d,e⟩:=RT.1 c;obtain⟨_,_,h⟩:=g.st s fs a;obtain⟨_,_,i,j⟩:=h f d;rcases Hi.1 e with b|b
 ·exact xj (i w b)
 ·exact xj (j w b)
theorem Gg(g:Good u){i:Nat}{x:Vl}(c:u.eh[i]? =some x):x.op=21\/x.op=20->x.args.length<=700:=by
 have nb:=g.nb;obtain⟨b,k,a⟩:=g.Iw i (jR.1 c).1 trivial;obtain⟨B,e,f⟩:=id a;rintro(d|d)
 ·rw[(g.KO _ _ _ _ _ a c d e).2,g.fh b B e,<-pt];have:=pq g (i:=u.blocks.length) (j:=0) (b:=b) (jK _) (by omega);omega
 ·rw[g.putAt i x c d];omega
theorem zN(g:Good u)(s:Nat)(fs:List Fm)(a:u.en[s]? =some fs):fs.length<=30/\∀f∈fs,f.locals.length<=40/\f.stack.length<=60:=by
 obtain⟨_,d,b⟩:=g.st s fs a;exact⟨d,λf c=>⟨(b f c).1,(b f c).2.1⟩⟩
theorem zQ(g:Good u){b:Nat}{B:Bk}(a:u.blocks[b]? =some B):B.eh.length<=3000:=by
 have nv:=g.nv;have:=kj u.eh.length B.eh (Ie g a) λv hv=>by
  obtain⟨k,c⟩:=oD.1 hv;exact g.mH v b k ⟨B,a,c⟩
 omega
theorem Am(g:Good u){b:Nat}{B:Bk}(a:u.blocks[b]? =some B):B.fh.length<=700:=by
 have nb:=g.nb;rw[g.fh b B a,<-pt];have:=pq g (i:=u.blocks.length) (j:=0) (b:=b) (jK _) (by omega);omega
theorem CP(g:Good u){b:Nat}{B:Bk}(a:u.blocks[b]? =some B):B.next.length<=2:=by
 rcases g.fin b B a with⟨_,h⟩|⟨_,h,_⟩|⟨_,h,_⟩
 ·omega
 ·omega
 ·rw[h];simp
end
open Un Dm
def yh:ri (Vl×V) where
 sz:=6
 rel _ _ x cs:=cs=mI x.1 x.2/\x.2.one=true
 len h:=by rw[h.1];rfl
 one h:=by rw[h.1];simp only[mI,ey,h.2];rfl
 fm _ h:=h
 mono _ h:=h
def vP:ri (Bk×V) where
 sz:=6
 rel F h x cs:=∃v p,cs=kE x.1 v x.2 p/\iq eN F h x.1.eh v/\iq eN F h x.1.fh p/\x.2.one=true
 len:=λ⟨_,_,h,_⟩=>by subst h;rfl
 one:=λ⟨_,_,h,a,b,c⟩=>by subst h;simp only[kE,ey,a.one,b.one,c];rfl
 fm:=λd ⟨v,p,h,a,b,c⟩=>⟨v,p,h,a.fm d,b.fm d,c⟩
 mono:=λe ⟨v,p,h,a,b,c⟩=>⟨v,p,h,a.mono e,b.mono e,c⟩
def PY:ri (Fm×V×V) where
 sz:=4
 rel _ _ x cs:=cs=JD x.1 x.2.1 x.2.2/\x.2.1.one=true/\x.2.2.one=true
 len h:=by rw[h.1];rfl
 one h:=by rw[h.1];simp only[JD,ey,h.2.1,h.2.2];rfl
 fm _ h:=h
 mono _ h:=h
section
variable{F F':Nat->Prop}{h h':Hp}{cs:List Pc}{Q:fy}{u:U}{vv vb vs:V}
theorem eo.empty(H:eo F h cs)(i:Nat){l:Nat}(hi:cs[i]? =some (ez l eJ [])):eo F h (cs.set i (eR eN eJ [] (.slice l 0 0))):=by
 have a:=H.ok i _ hi;exact H.swap hi (.inr ⟨l,[],rfl,a.2.1,a.2.2,a.1,trivial,rfl⟩) λm e=>e.symm
structure XW (vs:List Vl) (xs:List (Vl×V)) (fa:Nat->Option (List Nat×V)):Prop where
 fst:xs.map Prod.fst=vs
 row:∀i x w,xs[i]? =some (x,w)->fa i=some (x.args,w)
 out:∀i,xs.length<=i->fa i=none
structure V1 (bs:List Bk) (xs:List (Bk×V)) (fn:Nat->Option (List Nat×V)):Prop where
 fst:xs.map Prod.fst=bs
 row:∀i x w,xs[i]? =some (x,w)->fn i=some (x.next,w)
 out:∀i,xs.length<=i->fn i=none
abbrev KF:=Nat×Nat×Bool
structure CpF (s:Nat) (fs:List Fm) (xs:List (Fm×V×V)) (fl:KF->Option (List Nat×V)):Prop where
 fst:xs.map Prod.fst=fs
 loc:∀k x l w,xs[k]? =some (x,l,w)->fl (s,k,false)=some (x.locals,l)/\fl (s,k,true)=some (x.stack,w)
 out:∀k b,xs.length<=k->fl (s,k,b)=none
structure CpS (ss:List (List Fm)) (xs:List (List (Fm×V×V))) (fl:KF->Option (List Nat×V)):Prop where
 fst:xs.map (λl=>l.map Prod.fst)=ss
 loc:∀s l k x a w,xs[s]? =some l->l[k]? =some (x,a,w)->fl (s,k,false)=some (x.locals,a)/\fl (s,k,true)=some (x.stack,w)
 out:∀s k b,xs.length<=s->fl (s,k,b)=none
theorem XW.snoc{vs:List Vl}{xs:List (Vl×V)}{fa:Nat->Option (List Nat×V)}(c:XW vs xs fa)(x:Vl)(w:V):XW (vs++[x]) (xs++[(x,w)]) (up fa xs.length (some (x.args,w))):=by
 refine⟨by rw[Nh,c.fst];rfl,λi y v hi=>?_,λi hi=>?_⟩
 ·by_cases e:i<xs.length
  ·rw[PX e]at hi;rw[jt _ _ (by omega)];exact c.row i y v hi
  ·rw[SQ (by omega)]at hi;have a:i-xs.length=0:=by have:=(jR.1 hi).1;simp at this;omega
   rw[a]at hi;cases hi;obtain rfl:i=xs.length:=by omega
   exact jx _ _ _
 ·rw[Ec]at hi;rw[jt _ _ (by simp at hi;omega)];exact c.out i (by simp at hi;omega)
theorem V1.snoc{bs:List Bk}{xs:List (Bk×V)}{fn:Nat->Option (List Nat×V)}(c:V1 bs xs fn)(x:Bk)(w:V):V1 (bs++[x]) (xs++[(x,w)]) (up fn xs.length (some (x.next,w))):=by
 refine⟨by rw[Nh,c.fst];rfl,λi y v hi=>?_,λi hi=>?_⟩
 ·by_cases e:i<xs.length
  ·rw[PX e]at hi;rw[jt _ _ (by omega)];exact c.row i y v hi
  ·rw[SQ (by omega)]at hi;have a:i-xs.length=0:=by have:=(jR.1 hi).1;simp at this;omega
   rw[a]at hi;cases hi;obtain rfl:i=xs.length:=by omega
   exact jx _ _ _
 ·rw[Ec]at hi;rw[jt _ _ (by simp at hi;omega)];exact c.out i (by simp at hi;omega)
theorem eo.re(H:eo F h cs){ds:List Pc}(m:Nat->Nat)(a:∀i c,ds[i]? =some c->cs[m i]? =some c)(b:∀i j,i<ds.length->j<ds.length->m i=m j->i=j):eo F h ds where
 fl:=H.fl
 ok i c hc:=H.ok (m i) c (a i c hc)
 D0 i j c d hc hd hn:=H.D0 (m i) (m j) c d (a i c hc) (a j d hd) λe=>hn (b i j (jR.1 hc).1 (jR.1 hd).1 e)
theorem eo.zdt{a b c d:Pc}(H:eo F h (a::b::c::d::cs)):eo F h (b::d::a::cs):=
 H.re (λi=>match i with|0=>1|1=>3|2=>0|n+3=>n+4) (λi c hc=>match i,hc with|0,hc=>hc|1,hc=>hc|2,hc=>hc|n+3,hc=>hc) λi j _ _ e=>by
  match i,j with
  |0,0|1,1|2,2=>rfl
  |0,1|0,2|1,0|1,2|2,0|2,1=>simp at e
  |0,n+3|1,n+3|2,n+3|n+3,0|n+3,1|n+3,2=>simp at e;try omega
  |n+3,k+3=>simp at e;omega
theorem eo.Za{ι:Type} [DecidableEq ι] {ty:Nat}{f:ι->Option (List Nat×V)}{xs ys:List Nat}{v w:V}{c:Pc}(H:eo F h (eR eN ty xs v::eR eN ty ys w::c::fS ty f::cs)){i j:ι}(hi:f i=Option.none)(a:f j=Option.none)(b:j≠i) :
  eo F h (fS ty (up (up f i (some (ys,w))) j (some (xs,v)))::cs):=
 (H.zdt.Pf hi).sw.Pf (by rw[jt _ _ b];exact a)
theorem eo.zcV{a b c d e f x y z:Pc}(H:eo F h (a::b::c::d::e::f::x::y::z::cs)):eo F h (f::d::b::e::c::a::cs):=
 H.re (λi=>match i with|0=>5|1=>3|2=>1|3=>4|4=>2|5=>0|n+6=>n+9) (λi c hc=>match i,hc with|0,hc=>hc|1,hc=>hc|2,hc=>hc|3,hc=>hc|4,hc=>hc|5,hc=>hc|n+6,hc=>hc) λi j _ _ e=>by
   have g:∀i:Nat,(match i with|0=>5|1=>3|2=>1|3=>4|4=>2|5=>0|n+6=>n+9:Nat)=(if i<6 then[5,3,1,4,2,0].getD i 0 else i+3):=λi=>by
     match i with
     |0|1|2|3|4|5=>rfl
     |n+6=>rw[if_neg (by omega)]
   simp only[g]at e;by_cases hi:i<6
   ·by_cases hj:j<6
    ·rw[if_pos hi,if_pos hj]at e
     exact(by decide:∀i,i<6->∀j,j<6->[5,3,1,4,2,0].getD i 0=[5,3,1,4,2,0].getD j 0->i=j) i hi j hj e
    ·rw[if_pos hi,if_neg hj]at e
     have:[5,3,1,4,2,0].getD i 0<6:=(by decide:∀i,i<6->[5,3,1,4,2,0].getD i 0<6) i hi;omega
   ·by_cases hj:j<6
    ·rw[if_neg hi,if_pos hj]at e
     have:[5,3,1,4,2,0].getD j 0<6:=(by decide:∀i,i<6->[5,3,1,4,2,0].getD i 0<6) j hj;omega
    ·rw[if_neg hi,if_neg hj]at e
     omega
theorem CpF.snoc{s:Nat}{fs:List Fm}{xs:List (Fm×V×V)}{fl:KF->Option (List Nat×V)}(c:CpF s fs xs fl)(x:Fm)(l w:V):CpF s (fs++[x]) (xs++[(x,l,w)]) (up (up fl (s,xs.length,false) (some (x.locals,l))) (s,xs.length,true) (some (x.stack,w))):=by
 refine⟨by rw[Nh,c.fst];rfl,λi y a b hi=>?_,λi b hi=>?_⟩
 ·by_cases e:i<xs.length
  ·rw[PX e]at hi;have f:=c.loc i y a b hi;rw[jt _ _ (by simp),jt _ _ (by simp;omega),jt _ _ (by simp;omega),jt _ _ (by simp)];exact f
  ·rw[SQ (by omega)]at hi;have d:i-xs.length=0:=by have:=(jR.1 hi).1;simp at this;omega
   rw[d]at hi;cases hi;obtain rfl:i=xs.length:=by omega
   exact⟨by rw[jt _ _ (by simp),jx],jx _ _ _⟩
 ·rw[Ec]at hi;simp at hi;rw[jt _ _ (by simp;omega),jt _ _ (by simp;omega)];exact c.out i b (by omega)
theorem CpS.snoc{ss:List (List Fm)}{xs:List (List (Fm×V×V))} {fl d:KF->Option (List Nat×V)}(c:CpS ss xs fl){fs:List Fm}{ys:List (Fm×V×V)} (c':CpF xs.length fs ys d)(f:∀s k b,s≠xs.length->d (s,k,b)=fl (s,k,b)):CpS (ss++[fs]) (xs++[ys]) d:=by
 refine⟨by rw[Nh,c.fst,<-c'.fst];rfl,λi l k y a b hi h=>?_,λi k b hi=>?_⟩
 ·by_cases e:i<xs.length
  ·rw[PX e]at hi;rw[f _ _ _ (by omega),f _ _ _ (by omega)];exact c.loc i l k y a b hi h
  ·rw[SQ (by omega)]at hi;have g:i-xs.length=0:=by have:=(jR.1 hi).1;simp at this;omega
   rw[g]at hi;cases hi;obtain rfl:i=xs.length:=by omega
   exact c'.loc k y a b h
 ·rw[Ec]at hi;simp at hi;rw[f _ _ _ (by omega)];exact c.out i k b (by omega)
def Qz(u:U):Prop:=∀(v:Nat)(x:Vl),u.eh[v]? =some x->x.args.length<=700
structure UG (u:U):Prop where
 nv:u.eh.length<=3000
 nb:u.blocks.length<=300
 ns:u.en.length<=1000
 args:Qz u
 oW:∀(b:Nat) (B:Bk),u.blocks[b]? =some B->B.eh.length<=3000/\B.fh.length<=700/\B.next.length<=2
 st:∀(s:Nat) (fs:List Fm),u.en[s]? =some fs->fs.length<=30/\∀f∈fs,f.locals.length<=40/\f.stack.length<=60
theorem IB(g:Good u)(b:Qz u):UG u:=⟨g.nv,g.nb,g.ns,b,λ_ _ a=>⟨zQ g a,Am g a,CP g a⟩,zN g⟩
theorem UM(g:UG u)(H0:eo F h cs)(hu:ym F h u vv vb vs)
  (H:∀F' h' wv wb ws (xs:List (Vl×V)) (bs:List (Bk×V)) (ss:List (List (Fm×V×V))) fa fn fl,Sn F h F' h'->XW u.eh xs fa->V1 u.blocks bs fn->CpS u.en ss fl->
   eo F' h' (eR yh hK xs wv::eR vP fR bs wb::eR (eL PY) me ss ws::fS eJ fa::fS eJ fn::fS eJ fl::cs)->Q (.agg (uC u wv wb ws)) h') :
  cP CS ye [.agg (uC u vv vb vs)] h Q:=by
 refine Sp rfl rfl ?_;unfold M7;have nv:=g.nv;refine jS H0 hu.one λh1 H1 s1=>?_;rw[fG];obtain⟨H2,s2⟩:=H1.zI gZ [.I 0,.I 0,.ef,.ef,.ef];have H2:eo F (h1.new (.cells 30 1 true false [V.I 0,.I 0,.ef,.ef,.ef])) (ez h1.next 30 [V.I 0,.I 0,.ef,.ef,.ef]::ez h.next 30 (uC u vv vb vs)::cs):=H2;have s2:Sn F h1 F (h1.new (.cells 30 1 true false [V.I 0,.I 0,.ef,.ef,.ef])):=s2;generalize h1.new (.cells 30 1 true false [V.I 0,.I 0,.ef,.ef,.ef])=h2 at*;generalize h.next=l1 at*;generalize h1.next=l2 at*;refine oF (H2.ld 1 rfl rfl) (oF (H2.ld 1 rfl rfl) (ee (show _=some (V.agg [.I u.func,.I u.pc,.ef,.ef,.ef]) from rfl) ?_));refine gY H2 rfl rfl rfl λh3 H3 s3=>?_;generalize h2.next=l3 at*;have ar:=(s1.trans s2).trans s3;have u3:=hu.since ar;refine oF (H3.ld 2 rfl rfl) (ee u3.v.len ?_)
 have H3:eo F h3 (fS eJ (λ_:Nat=>Option.none)::eR yh hK [] .ef::ez l3 30 [.I u.func,.I u.pc,.ef,.ef,.ef]::ez l2 30 [.I 0,.I 0,.ef,.ef,.ef]::ez l1 30 (uC u vv vb vs)::cs):=
  (H3.add (p:=eR yh hK [] .ef) .nil λ_ h=>h).WU
 refine NL (λk l h'=>∃(i:Nat) (xs:List (Vl×V)) (fa:Nat->Option (List Nat×V)) (wv:V),l=[.ptr l1 0,.ptr l2 0,.ptr l3 0,vv,.I u.eh.length,.I i]/\i+k=u.eh.length/\Sn F h3 F h'/\xs.length=i/\XW (u.eh.take i) xs fa/\
  eo F h' (fS eJ fa::eR yh hK xs wv::ez l3 30 [.I u.func,.I u.pc,wv,.ef,.ef]::ez l2 30 [.I 0,.I 0,.ef,.ef,.ef]::ez l1 30 (uC u vv vb vs)::cs)) ?_ (k:=u.eh.length)
  ⟨0,[],λ_=>Option.none,.ef,rfl,by omega,Sn.refl _ _,rfl,⟨rfl,λ_ _ _ h=>by simp at h,λ_ _=>rfl⟩,H3⟩
 rintro k _ _ _ _ _ _ h4 ⟨i,xs,fa,wv,⟨⟩,hk,s4,au,hc,H4⟩;unfold Hs;have u4:=u3.since s4;by_cases hi:i<u.eh.length
 ·refine gB ?_;have hx:=hO hi;have M:u.eh.take (i+1)=u.eh.take i++[u.eh[i]]:=NG hi;generalize u.eh[i]=x at*;obtain⟨lx,ox,w,_,x1,x2,xw,_⟩:=u4.val hx;refine ee x1 (ee x2 ?_);refine gY H4 rfl rfl (by simp only[mI,ey,xw.one];rfl) λT H5 s5=>?_;generalize h4.next=lc at*;rw[Fi,fG];obtain⟨G,I⟩:=H5.VC (E:=eN) (xs:=[]) (ws:=[]) (n:=0) eJ rfl trivial rfl;have G:eo F (T.new (.cells 3 1 true false [])) (eR eN eJ [] (.slice T.next 0 0)::ez lc 45 (mI x w)::_):=G;have I:Sn F T F (T.new (.cells 3 1 true false [])):=I;generalize T.new (.cells 3 1 true false [])=h6 at*;refine oF (G.ld 1 rfl rfl) ?_;have aE:=g.args i x hx;obtain⟨a,C,e7,_,J,s7⟩:=G.Nt 0 rfl (j7:=8) ((xw.since s5).since I) (by decide) (by decide) (by simp;omega);have aF:fg 3 1 8 (.slice T.next 0 0) w h6=some (.val a C):=e7;rw[aF,ei];simp only[jo,No]at J;have d:=J.one 0 rfl;obtain⟨U,e8,_,t,s8⟩:=J.st 1 (o:=4) (u:=a) rfl (by simp[mI]) d;refine ee (fe _ _ _) ?_;have aG:gM 1 (.ptr lc (0+4)) a C=some (.val .undef U):=by rw[zA];exact e8
  rw[aG,ei];simp only[jo,l0]at t;have t:eo F U (eR eN eJ x.args a::ez lc 45 (mI x a)::fS eJ fa::eR yh hK xs wv::ez l3 30 [.I u.func,.I u.pc,wv,.ef,.ef]::_):=t;refine oF (t.ld 4 rfl rfl) (ee (t.rh 1 rfl rfl) ?_);rw[qa (sz:=6) (w:=mI x a) rfl rfl (by simp only[mI,ey,d];rfl),fG];obtain⟨W,h9,e9,_,m,s9⟩:=t.uD 3 rfl (j7:=64) (Ca:=45) (y:=(x,a)) (w:=mI x a) (ro:=false) ⟨rfl,d⟩ (by decide) (by decide) (by omega);have aH:fg 45 6 64 wv (.slice U.next 0 1) (U.new (.cells 45 6 true false (mI x a)))=some (.val W h9):=e9;rw[aH,ei];simp only[jo,l0]at m;obtain⟨X,K6,_,c,z⟩:=m.st 4 (o:=2) (u:=W) rfl (by simp) (m.one 3 rfl);refine ee (fe _ _ _) ?_;have aw:gM 1 (.ptr l3 (0+2)) W h9=some (.val .undef X):=by rw[zA];exact K6
  rw[aw,ei];simp only[jo,l0]at c;have Y:=c.Jh.Pf (i:=i) (hc.out i (by omega));refine fM ⟨k-1,by omega,i+1,xs++[(x,a)],up fa i (some (x.args,a)),W,rfl,by omega,((((s4.trans s5).trans I).trans s7).trans s8).trans (s9.trans z),by simp[au],?_,Y⟩;rw[M];have:=hc.snoc x a
  rwa [au]at this
 refine iJ ?_;obtain rfl:i=u.eh.length:=by omega
 rw[JF]at hc;have nb:=g.nb;refine oF (H4.ld 4 rfl rfl) (ee u4.b.len ?_);clear hk k
 have H4:eo F h4 (fS eJ (λ_:Nat=>Option.none)::eR vP fR [] .ef::fS eJ fa::eR yh hK xs wv::ez l3 30 [.I u.func,.I u.pc,wv,.ef,.ef]::ez l2 30 [.I 0,.I 0,.ef,.ef,.ef]::ez l1 30 (uC u vv vb vs)::cs):=
  (H4.add (p:=eR vP fR [] .ef) .nil λ_ h=>h).WU
 refine Nu (λk l h'=>∃(F':Nat->Prop) (i:Nat) (bs:List (Bk×V)) (fn:Nat->Option (List Nat×V)) (wb:V),l=[.ptr l1 0,.ptr l2 0,.ptr l3 0,vb,.I u.blocks.length,.I i]/\i+k=u.blocks.length/\Sn F h4 F' h'/\bs.length=i/\V1 (u.blocks.take i) bs fn/\
  eo F' h' (fS eJ fn::eR vP fR bs wb::fS eJ fa::eR yh hK xs wv::ez l3 30 [.I u.func,.I u.pc,wv,wb,.ef]::ez l2 30 [.I 0,.I 0,.ef,.ef,.ef]::ez l1 30 (uC u vv vb vs)::cs)) ?_ (k:=u.blocks.length)
  ⟨F,0,[],λ_=>Option.none,.ef,rfl,by omega,Sn.refl _ _,rfl,⟨rfl,λ_ _ _ h=>by simp at h,λ_ _=>rfl⟩,H4⟩
 rintro k _ _ _ _ _ _ T ⟨Z,i,bs,fn,wb,⟨⟩,hk,s5,ax,aa,H5⟩;unfold Hb;have u5:=u4.since s5;by_cases hi:i<u.blocks.length
 ·refine gB ?_;have hB:=hO hi;have M:u.blocks.take (i+1)=u.blocks.take i++[u.blocks[i]]:=NG hi;generalize u.blocks[i]=B at*;have aQ:=(g.oW i B hB).1;have aR:=(g.oW i B hB).2.1;have aS:=(g.oW i B hB).2.2;obtain⟨lx,ox,bv,bn,bp,_,x1,x2,iv,iN,ip,_⟩:=u5.oW hB;refine ee x1 (ee x2 ?_);refine gY H5 rfl rfl (by simp only[kE,ey,iv.one,iN.one,ip.one];rfl) λh6 G I=>?_;generalize T.next=lc at*;have e:∀{h:Hp} {cs:List Pc},eo Z h cs->eo Z (h.new (.cells 3 1 true false [])) (ez h.next 3 []::cs)/\Sn Z h Z (h.new (.cells 3 1 true false [])):=λH=>H.zI 3 [];rw[Fi,hV];obtain⟨J,s7⟩:=e G;generalize h6.new (.cells 3 1 true false [])=C at*;refine oF (J.ld 1 rfl rfl) ?_;rw[hV];obtain⟨t,s8⟩:=e J;generalize C.new (.cells 3 1 true false [])=U at*;refine oF (t.ld 2 rfl rfl) ?_;rw[hV];obtain⟨m,s9⟩:=e t;generalize U.new (.cells 3 1 true false [])=h9 at*;generalize h6.next=ra at*;generalize C.next=rb at*;generalize U.next=rc at*;refine oF (m.ld 3 rfl rfl) ?_;have ab:=(s7.trans s8).trans s9;refine⟨⟨m.get 0 rfl,bq⟩,m.ld 3 rfl rfl,⟨m.get 1 rfl,bq⟩,m.ld 3 rfl rfl,⟨m.get 2 rfl,bq⟩,?_⟩;have aI:=(iv.since I).since ab;have aJ:=(iN.since I).since ab;have aK:=(ip.since I).since ab;have m:=m.empty 2 rfl;simp only[jo,l0]at m;obtain⟨a,hA,eA,nA,q,sA⟩:=m.Nt 2 rfl (j7:=8) aI (by decide) (by decide) (by simp;omega);have aj:fg 3 1 8 (.slice ra 0 0) bv h9=some (.val a hA):=eA;rw[aj,ei];simp only[jo,l0,No]at q;refine⟨nA,ee (fe _ _ _) ⟨q.ld 3 rfl rfl,⟨q.get 0 rfl,bq⟩,q.ld 3 rfl rfl,⟨q.get 1 rfl,bq⟩,?_⟩⟩;have q:=q.empty 1 rfl;simp only[jo,l0]at q;obtain⟨K,hC,eC,nC,L,sC⟩:=q.Nt 1 rfl (j7:=8) (aJ.since sA) (by decide) (by decide) (by simp;omega);have ak:fg 3 1 8 (.slice rb 0 0) bn hA=some (.val K hC):=eC;rw[ak,ei];simp only[jo,l0,No]at L;refine⟨nC,L.ld 3 rfl rfl,⟨L.get 0 rfl,bq⟩,?_⟩;have L:=L.empty 0 rfl;simp only[jo,l0]at L;obtain⟨vp,hD,eD,nD,HD,sD⟩:=L.Nt 0 rfl (j7:=8) ((aK.since sA).since sC) (by decide) (by decide) (by simp;omega);have aL:fg 3 1 8 (.slice rc 0 0) bp hC=some (.val vp hD):=eD;rw[aL,ei];simp only[jo,l0,No]at HD;have d:=HD.one 2 rfl;have al:=HD.one 1 rfl;have ay:=HD.one 0 rfl;obtain⟨hE,eE,nE,HE,sE⟩:=HD.st 3 (o:=0) (u:=a) rfl (by simp[kE]) d;have am:gM 1 (.ptr lc (0+0)) a hD=some (.val .undef hE):=eE;refine⟨nD,?_⟩;rw[am,ei];simp only[jo,l0]at HE;obtain⟨hG,eG,nG,HG,sG⟩:=HE.st 3 (o:=3) (u:=K) rfl (by simp[kE]) al;have an:gM 1 (.ptr lc (0+3)) K hE=some (.val .undef hG):=by rw[zA];exact eG
  refine⟨nE,ee (fe _ _ _) ?_⟩;rw[an,ei];simp only[jo,l0]at HG;obtain⟨hI,eI,nI,HI,sI⟩:=HG.st 3 (o:=4) (u:=vp) rfl (by simp[kE]) ay;have aM:gM 1 (.ptr lc (0+4)) vp hG=some (.val .undef hI):=by rw[zA];exact eI
  refine⟨nG,ee (fe _ _ _) ?_⟩;rw[aM,ei];simp only[jo,l0]at HI;have HI:eo Z hI (eR eN eJ B.fh vp::eR eN eJ B.next K::eR eN eJ B.eh a::ez lc 43 (kE B a K vp)::fS eJ fn::eR vP fR bs wb::fS eJ fa::eR yh hK xs wv::ez l3 30 [.I u.func,.I u.pc,wv,wb,.ef]::_):=HI;refine⟨nI,oF (HI.ld 8 rfl rfl) (ee (HI.rh 3 rfl rfl) ?_)⟩;obtain⟨HJ,sJ,rp⟩:=HI.ma 0 rfl;simp only[jo]at HJ;obtain⟨HK,sK,rv⟩:=HJ.ma 2 rfl;simp only[jo,l0]at HK;have rp:=rp.since sK;have HK:=HK.tail.Jh.Jh;generalize (λl=>(Z l\/Loc vp l)\/Loc a l)=FK at*;rw[qa (sz:=6) (w:=kE B a K vp) rfl rfl (by simp only[kE,ey,d,al,ay];rfl),fG];obtain⟨ac,hL,eL,_,N,sL⟩:=HK.uD 2 rfl (j7:=96) (Ca:=43) (y:=(B,K)) (w:=kE B a K vp) (ro:=false) ⟨a,vp,rfl,rv,rp,al⟩ (by decide) (by decide) (by omega);have O:fg 43 6 96 wb (.slice hI.next 0 1) (hI.new (.cells 43 6 true false (kE B a K vp)))=some (.val ac hL):=eL;rw[O,ei];simp only[jo,l0]at N;obtain⟨hM,eM,_,HM,sM⟩:=N.st 5 (o:=3) (u:=ac) rfl (by simp) (N.one 2 rfl);refine ee (fe _ _ _) ?_;have P:gM 1 (.ptr l3 (0+3)) ac hL=some (.val .undef hM):=by rw[zA];exact eM
  rw[P,ei];simp only[jo,l0]at HM;have HN:=HM.Pf (i:=i) (aa.out i (by omega));have aA:=((((((I.trans ab).trans sA).trans sC).trans sD).trans sE).trans sG).trans sI;refine fM ⟨k-1,by omega,FK,i+1,bs++[(B,K)],up fn i (some (B.next,K)),ac,rfl,by omega,s5.trans (((aA.trans sJ).trans sK).trans (sL.trans sM)),by simp[ax],?_,HN⟩;rw[M];have:=aa.snoc B K
  rwa [ax]at this
 refine iJ ?_;have ns:=g.ns;obtain rfl:i=u.blocks.length:=by omega
 rw[JF]at aa;refine oF (H5.ld 6 rfl rfl) (ee u5.s.len ?_);clear hk k
 have H5:eo Z T (fS eJ (λ_:KF=>Option.none)::eR (eL PY) me [] .ef::fS eJ fn::eR vP fR bs wb::fS eJ fa::eR yh hK xs wv::ez l3 30 [.I u.func,.I u.pc,wv,wb,.ef]::ez l2 30 [.I 0,.I 0,.ef,.ef,.ef]::ez l1 30 (uC u vv vb vs)::cs):=
  (H5.add (p:=eR (eL PY) me [] .ef) .nil λ_ h=>h).WU
 refine NJ (λk l h'=>∃(F':Nat->Prop) (i:Nat) (ss:List (List (Fm×V×V))) (fl:KF->Option (List Nat×V)) (ws:V),l=[.ptr l2 0,.ptr l3 0,vs,.I u.en.length,.I i]/\i+k=u.en.length/\Sn Z T F' h'/\ss.length=i/\CpS (u.en.take i) ss fl/\
  eo F' h' (fS eJ fl::eR (eL PY) me ss ws::fS eJ fn::eR vP fR bs wb::fS eJ fa::eR yh hK xs wv::ez l3 30 [.I u.func,.I u.pc,wv,wb,ws]::ez l2 30 [.I 0,.I 0,.ef,.ef,.ef]::ez l1 30 (uC u vv vb vs)::cs)) ?_ (k:=u.en.length)
  ⟨Z,0,[],λ_=>Option.none,.ef,rfl,by omega,Sn.refl _ _,rfl,⟨rfl,λ_ _ _ _ _ _ h=>by simp at h,λ_ _ _ _=>rfl⟩,H5⟩
 rintro k _ _ _ _ _ h6 ⟨D,i,ss,fl,ws,⟨⟩,hk,I,mM,ae,G⟩;unfold Ht;have u6:=u5.since I;by_cases hi:i<u.en.length
 ·refine gB ?_;have hS:=hO hi;have M:u.en.take (i+1)=u.en.take i++[u.en[i]]:=NG hi;generalize u.en[i]=fs at*;have aT:=(g.st i fs hS).1;obtain⟨lx,ox,f,_,x1,x2,_,xf⟩:=u6.st hS;refine ee x1 (ee x2 ?_);refine gY G rfl rfl (by simp only[ey,xf.one];rfl) λC J s7=>?_;generalize h6.next=lc at*;rw[fG];obtain⟨t,s8⟩:=J.zI me [.ef];have t:eo D (C.new (.cells 52 1 true false [V.ef])) (ez C.next 52 [.ef]::ez lc 52 [f]::_):=t;have s8:Sn D C D (C.new (.cells 52 1 true false [V.ef])):=s8;generalize C.new (.cells 52 1 true false [V.ef])=U at*;generalize C.next=ld at*;have xf:=(xf.since s7).since s8;refine oF (t.ld 1 rfl rfl) (ee xf.len ?_)
  have t:eo D U (fS eJ fl::eR PY Lt [] .ef::ez ld 52 [.ef]::eR (eL PY) me ss ws::fS eJ fn::eR vP fR bs wb::fS eJ fa::eR yh hK xs wv::ez l3 30 [.I u.func,.I u.pc,wv,wb,ws]::ez l2 30 [.I 0,.I 0,.ef,.ef,.ef]::ez l1 30 (uC u vv vb vs)::cs):=
   (t.Jh.sw.add (p:=eR PY Lt [] .ef) .nil λ_ h=>h).sw
  refine Nv (λk' l h'=>∃(j:Nat) (ys:List (Fm×V×V)) (A:KF->Option (List Nat×V)) (R:V),l=[.ptr l2 0,.ptr l3 0,.ptr ld 0,vs,.I u.en.length,.I i,f,.I fs.length,.I j]/\j+k' = fs.length/\Sn D U D h'/\ys.length=j/\CpF i (fs.take j) ys A/\(∀s k b,s≠i->A (s,k,b)=fl (s,k,b))/\
   eo D h' (fS eJ A::eR PY Lt ys R::ez ld 52 [R]::eR (eL PY) me ss ws::fS eJ fn::eR vP fR bs wb::fS eJ fa::eR yh hK xs wv::ez l3 30 [.I u.func,.I u.pc,wv,wb,ws]::ez l2 30 [.I 0,.I 0,.ef,.ef,.ef]::ez l1 30 (uC u vv vb vs)::cs)) ?_ (k:=fs.length)
   ⟨0,[],fl,.ef,rfl,by omega,Sn.refl _ _,rfl,⟨rfl,λ_ _ _ _ h=>by simp at h,λk b _=>ae.out i k b (by omega)⟩,λ_ _ _ _=>rfl,t⟩
  rintro k' _ _ _ _ _ _ _ _ _ h9 ⟨j,ys,A,R,⟨⟩,aU,s9,aB,S,aC,m⟩;unfold Hk;have aN:=xf.since s9;by_cases hj:j<fs.length
  ·refine gB ?_;have hF:=hO hj;have aO:fs.take (j+1)=fs.take j++[fs[j]]:=NG hj;have aV:=(g.st i fs hS).2 fs[j] (zd hj);generalize fs[j]=x at*;obtain⟨ly,oy,xa,xb,_,y1,y2,ya,yb⟩:=aN.pg hF;refine ee y1 (ee y2 ?_);refine gY m rfl rfl (by simp only[JD,ey,ya.one,yb.one];rfl) λX c z=>?_;generalize h9.next=le at*;have e:∀{h:Hp} {cs:List Pc},eo D h cs->eo D (h.new (.cells 3 1 true false [])) (ez h.next 3 []::cs)/\Sn D h D (h.new (.cells 3 1 true false [])):=λH=>H.zI 3 [];rw[Fi,hV];obtain⟨Y,ao⟩:=e c;generalize X.new (.cells 3 1 true false [])=aD at*;refine oF (Y.ld 1 rfl rfl) ?_;rw[hV];obtain⟨r,ap⟩:=e Y;generalize aD.new (.cells 3 1 true false [])=aP at*;generalize X.next=ra at*;generalize aD.next=rb at*;refine oF (r.ld 2 rfl rfl) ?_;refine⟨⟨r.get 0 rfl,bq⟩,r.ld 2 rfl rfl,⟨r.get 1 rfl,bq⟩,?_⟩;have ya:=((ya.since z).since ao).since ap;have yb:=((yb.since z).since ao).since ap;have r:=r.empty 1 rfl;simp only[jo,l0]at r;obtain⟨a,hA,eA,nA,q,sA⟩:=r.Nt 1 rfl (j7:=8) ya (by decide) (by decide) (by simp;omega);have aj:fg 3 1 8 (.slice ra 0 0) xa aP=some (.val a hA):=eA;rw[aj,ei];simp only[jo,l0,No]at q;refine⟨nA,ee (fe _ _ _) ⟨q.ld 2 rfl rfl,⟨q.get 0 rfl,bq⟩,?_⟩⟩;have q:=q.empty 0 rfl;simp only[jo,l0]at q;obtain⟨vc,hC,eC,nC,L,sC⟩:=q.Nt 0 rfl (j7:=8) (yb.since sA) (by decide) (by decide) (by simp;omega);have ak:fg 3 1 8 (.slice rb 0 0) xb hA=some (.val vc hC):=eC;rw[ak,ei];simp only[jo,l0,No]at L;have d:=L.one 1 rfl;have aq:=L.one 0 rfl;obtain⟨hE,eE,nE,HE,sE⟩:=L.st 2 (o:=2) (u:=a) rfl (by simp[JD]) d;have am:gM 1 (.ptr le (0+2)) a hC=some (.val .undef hE):=by rw[zA];exact eE
   refine⟨nC,?_⟩;rw[am,ei];simp only[jo,l0]at HE;obtain⟨hG,eG,nG,HG,sG⟩:=HE.st 2 (o:=3) (u:=vc) rfl (by simp[JD]) aq;have an:gM 1 (.ptr le (0+3)) vc hE=some (.val .undef hG):=by rw[zA];exact eG
   refine⟨nE,ee (fe _ _ _) ?_⟩;rw[an,ei];simp only[jo,l0]at HG;have HG:eo D hG (eR eN eJ x.stack vc::eR eN eJ x.locals a::ez le 49 (JD x a vc)::fS eJ A::eR PY Lt ys R::ez ld 52 [R]::_):=HG;refine⟨nG,oF (HG.ld 5 rfl rfl) (ee (HG.rh 2 rfl rfl) ?_)⟩;rw[qa (sz:=4) (w:=JD x a vc) rfl rfl (by simp only[JD,ey,d,aq];rfl),fG];obtain⟨ag,hL,eL,_,N,sL⟩:=HG.uD 4 rfl (j7:=64) (Ca:=49) (y:=(x,a,vc)) (w:=JD x a vc) (ro:=false) ⟨rfl,d,aq⟩ (by decide) (by decide) (by omega);have O:fg 49 4 64 R (.slice hG.next 0 1) (hG.new (.cells 49 4 true false (JD x a vc)))=some (.val ag hL):=eL;rw[O,ei];simp only[jo,l0]at N;obtain⟨hM,eM,_,HM,sM⟩:=N.st 5 (o:=0) (u:=ag) rfl (by simp) (N.one 4 rfl);refine ee (fe _ _ _) ?_;have P:gM 1 (.ptr ld (0+0)) ag hL=some (.val .undef hM):=eM;rw[P,ei];simp only[jo,l0]at HM;have HN:=HM.Za (i:=(i,j,false)) (j:=(i,j,true)) (S.out j false (by omega)) (S.out j true (by omega)) (by simp);refine fM ⟨k'-1,by omega,j+1,ys++[(x,a,vc)],up (up A (i,j,false) (some (x.locals,a))) (i,j,true) (some (x.stack,vc)),ag,rfl,by omega,((((((s9.trans z).trans ao).trans ap).trans sA).trans sC).trans (sE.trans sG)).trans (sL.trans sM),by simp[aB],?_,?_,HN⟩
   ·rw[aO];have:=S.snoc x a vc
    rwa [aB]at this
   ·intro s k b hs;rw[jt _ _ (by simp[hs]),jt _ _ (by simp[hs])];exact aC s k b hs
  refine iJ ?_;obtain rfl:j=fs.length:=by omega
  rw[JF]at S;obtain⟨c,z,rf⟩:=m.ma 1 rfl;simp only[jo,l0]at c;generalize (λl=>D l\/Loc R l)=F7 at*;have c:=c.Jh;refine oF (c.ld 7 rfl rfl) (ee (c.rh 1 rfl rfl) ?_);rw[qa (sz:=1) (w:=[R]) rfl rfl (by simp only[ey,rf.one];rfl),fG];obtain⟨ah,hL,eL,_,N,sL⟩:=c.uD 2 rfl (j7:=24) (Ca:=52) (y:=ys) (w:=[R]) (ro:=false) ⟨R,rfl,rf⟩ (by decide) (by decide) (by omega);have O:fg 52 1 24 ws (.slice h9.next 0 1) (h9.new (.cells 52 1 true false [R]))=some (.val ah hL):=eL;rw[O,ei];simp only[jo,l0]at N;obtain⟨hM,eM,_,HM,sM⟩:=N.st 7 (o:=4) (u:=ah) rfl (by simp) (N.one 2 rfl);refine ee (fe _ _ _) ?_;have P:gM 1 (.ptr l3 (0+4)) ah hL=some (.val .undef hM):=by rw[zA];exact eM
  rw[P,ei];simp only[jo,l0]at HM;refine fM ⟨k-1,by omega,F7,i+1,ss++[ys],A,ah,rfl,by omega,((((I.trans s7).trans s8).trans s9).trans z).trans (sL.trans sM),by simp[mM],?_,HM.Jh⟩;rw[M];have ai:=S;rw[<-mM]at ai;exact ae.snoc ai λs k b hs=>aC s k b (by omega)
 refine iJ ?_;obtain rfl:i=u.en.length:=by omega
 rw[JF]at ae;refine ee (G.rh 6 rfl rfl) ?_;obtain⟨C,e7,_,J,s7⟩:=G.WS 7 (ws:=[.I u.func,.I u.pc,wv,wb,ws]) (n:=5) rfl rfl rfl (by simp only[ey,G.one 5 rfl,G.one 3 rfl,G.one 1 rfl];rfl);rw[e7,ei];simp only[jo,l0]at J;refine ee (J.rh 7 rfl rfl) ?_;exact H D C wv wb ws xs bs ss fa fn fl (((ar.trans s4).trans s5).trans (I.trans s7)) hc aa ae J.zcV
end
open Un Dm
section
variable{F F':Nat->Prop}{h h':Hp}{cs ds:List Pc}{Q:fy}{u:U}{vv vb vs:V}
def Mb(cs:List Pc)(l:Nat):Prop:=∃(i:Nat)(c:Pc),cs[i]? =some c/\c.mw l
theorem eo.zdW(H:eo F h cs):eo (λl=>F l\/Mb cs l) h []:=
 eo.nil λl a=>a.elim (H.fl l) λ⟨i,c,hc,b⟩=>(c.Nz (H.ok i c hc) l b).1
theorem eo.back(H:eo F h cs){G:Nat->Prop}(s:Sn (λl=>F l\/Mb cs l) h G h'):eo F h' cs where
 fl l a:=Cb (H.fl l a) s.next
 ok i c hc:=c.fm (H.ok i c hc) (λl a=>s.fm l (.inl a)) (λl a=>s.fm l (.inr ⟨i,c,hc,a⟩)) s.next
 D0:=H.D0
theorem Sn.back{G:Nat->Prop}(s:Sn (λl=>F l\/Mb cs l) h G h'):Sn F h F h':=⟨s.next,λl a=>s.fm l (.inl a),λ_ h=>h⟩
theorem eo.zcM(H:eo F h cs){ty:Nat}{xs:List Nat}{v:V}(s:Sn (λl=>F l\/Mb cs l) h (λl=>F l\/Mb cs l) h') (m:eo (λl=>F l\/Mb cs l) h' [eR eN ty xs v]):eo F h' (eR eN ty xs v::cs):=by
 have k:kS eN ty (λl=>F l\/Mb cs l) h' xs v:=m.ok 0 _ rfl;refine(H.back s).cons ?_ λi c hc l n d=>(k.wq n).2.2 (.inr ⟨i,c,hc,d⟩);rcases k with⟨f,g⟩|⟨t,ws,f,g,o,p,q,u⟩
 ·exact .inl ⟨f,g⟩
 ·exact .inr ⟨t,ws,f,g,λw=>o (.inl w),p,by
   have j:∀(ws:List V) (xs:List Nat),qq eN (λl=>F l\/Mb cs l) h' ws xs->qq eN F h' ws xs:=λws xs=>by
    induction xs generalizing ws with
    |nil=>exact id
    |cons x xs y=>rintro⟨a,b,e,r,z⟩;exact⟨a,b,e,r,y b z⟩
   exact j ws xs q,u⟩
theorem PN{α β:Type}{E:ri α} {E':ri β}:∀(ws:List V)(xs:List α)(ys:List β),ys.length=xs.length->(∀(k:Nat) x y cs,xs[k]? =some x->ys[k]? =some y->E.rel F h x cs->E'.rel F' h y cs)->qq E F h ws xs->qq E' F' h ws ys
 |_,[],[],_,_,h=>h
 |ws,x::xs,y::ys,hl,hr,⟨a,b,e,r,hw⟩=>⟨a,b,e,hr 0 x y a rfl rfl r,PN b xs ys (by simpa using hl) (λk x y cs c d=>hr (k+1) x y cs (by simpa using c) (by simpa using d)) hw⟩
theorem eo.Zt{α β:Type}{E:ri α} {E':ri β}(H:eo F h cs)(i:Nat){ty:Nat}{xs:List α}{ys:List β}{v:V}(hi:cs[i]? =some (eR E ty xs v))(d:E'.sz=E.sz)(a:ys.length=xs.length)(e:∀(k:Nat) x y cs,xs[k]? =some x->ys[k]? =some y->E.rel F h x cs->E'.rel F h y cs):eo F h (cs.set i (eR E' ty ys v)):=by
 refine H.swap hi ?_ λ_ h=>h;rcases H.row i hi with⟨b,c⟩|⟨t,ws,b,c,f,g,j,l⟩
 ·subst c;exact .inl ⟨b,Wi a⟩
 ·exact .inr ⟨t,ws,by rw[a];exact b,c,f,by rw[d];exact g,PN ws xs ys a e j,l⟩
theorem iq.Zt{α β:Type}{E:ri α} {E':ri β}{xs:List α}{ys:List β}{v:V}(hs:iq E F h xs v)(d:E'.sz=E.sz)(f:∀l,F l->F' l)(a:ys.length=xs.length)(g:∀(k:Nat) x y cs,xs[k]? =some x->ys[k]? =some y->E.rel F h x cs->E'.rel F' h y cs):iq E' F' h ys v:=by
 rcases hs with⟨b,c⟩|⟨l,o,ty,live,ro,ws,b,c,i,j,m,n⟩
 ·subst c;exact .inl ⟨b,Wi a⟩
 ·exact .inr ⟨l,o,ty,live,ro,ws,by rw[a];exact b,f l c,by rw[d];exact i,j.imp (λe=>Wi (by rw[a,e];rfl)) id,m,PN _ xs ys a g n⟩
theorem zbJ{xs:List Nat}{v:V}(hs:iq eN F h xs v)(p:xs.length<1000000)(x:Nat)(H:Q (.bool (xs.contains x)) h) :
  cP CS kX [v,.I x] h Q:=by
 refine Bj rfl rfl ?_;unfold rM;refine DZ rfl rfl ?_;unfold wR;refine ee hs.len ?_;refine Bg (λk l h'=>∃i:Nat,l=[v,.I x,.I xs.length,.I (i:Nat)]/\h' = h/\i+k=xs.length/\∀j y,j<i->xs[j]? =some y->y≠x) ?_ (k:=xs.length) ⟨0,rfl,rfl,by omega,λ_ _ h=>by omega⟩;rintro k _ _ _ _ h' ⟨i,⟨⟩,rfl,q,a⟩;unfold sV;by_cases hi:i<xs.length
 ·refine gB ?_;have b:=hO hi;generalize xs[i]=y at*;obtain⟨l,o,_,f,g⟩:=hs.nat b .i64;refine ee f (ee g (gi ?_));by_cases e:x=y
  ·refine gv (by rw[e]) (ee (nW ..) ?_);rw[Ke (by omega)];have:xs.contains x=true:=List.contains_iff_mem.2 (by rw[e];exact Ik b)
   rwa [this]at H
  ·refine gg (by omega) (fM ⟨k-1,by omega,i+1,rfl,rfl,by omega,λj z c d=>?_⟩);by_cases m:j=i
   ·subst m;rw[b]at d;cases d;exact λn=>e n.symm
   ·exact a j z (by omega) d
 ·refine iJ (ee (nW ..) ?_);rw[Lh (by omega)];have:xs.contains x=false:=by
   rw[wBl];intro h;obtain⟨j,c⟩:=oD.1 (List.contains_iff_mem.1 h);exact a j x (by have:=(jR.1 c).1;omega) c rfl
  rwa [this]at H
def qZ(az:List Int):Nat->Int:=λv=>az.getD v (-1)
theorem PR{az:List Int}{v:Nat}{a:Int}(h:az[v]? =some a):qZ az v=a:=by
 unfold qZ;rw[G2,h];rfl
theorem Y0{lt:Nat}{pP:V}{az:List Int}{G:Nat->Prop}(d:eQ (.ptr lt 5) h=some pP)(hs:iq eZ G h az pP)(L:az.length<=3000)(g:∀(v:Nat)(a:Int),az[v]? =some a->a<az.length){v:Nat}(hv:v<az.length)
  (H:xR (qZ az) (az.length+1) v<az.length->Q (.I (xR (qZ az) (az.length+1) v:Nat)) h):cP CS jE [.ptr lt 0,.I v] h Q:=by
 refine HY rfl rfl ?_;unfold zZ;refine ED (λk l h'=>∃n w:Nat,l=[.ptr lt 0,.I (w:Nat),.I (n:Nat)]/\h' = h/\n+k=az.length+1/\w<az.length/\xR (qZ az) k w=xR (qZ az) (az.length+1) v) ?_ (k:=az.length+1) ⟨0,v,rfl,rfl,by omega,hv,rfl⟩;rintro k _ _ _ h' ⟨n,w,⟨⟩,rfl,M,i,f⟩;unfold xx;have j:=hO i;have J:=PR j;have K:=g w _ j;generalize az[w]=a at*;obtain⟨l,o,_,p,q⟩:=hs.int j .i64;have d:eQ (.ptr lt (0+5)) h' = some pP:=d;refine oN d (ee p (ee q (ee (nW ..) ?_)));rw[show kv (V.bool (decide (0<=a))) (oB (some (V.ptr lt 0)) λr=>oB (iF r) λs=>oB (fI 5 s) λt=>oB (eQ t h') λu=>oB (some (V.I w)) λx=>oB (gJ 1 u x) λy=>oB (eQ y h') λz=>oB (some (V.I w)) λA=>ev .neq 3 z A)=some (.bool (decide (0<=a)&&(a != (w:Int)))) from by
  simp only[fi,d,p,q,nP,gj,fe,ke]]
 rw [gX];rw[show kv (V.bool (decide (0<=a)&&(a != (w:Int)))) (oB (some (V.I n)) λB=>oB (some (V.ptr lt 0)) λC=>oB (iF C) λD=>oB (fI 5 D) λE=>oB (eQ E h') λF=>oB (fH F) λI=>ev .leq 3 B I)=some (.bool ((decide (0<=a)&&(a != (w:Int)))&&decide ((n:Int)<=az.length))) from by
  simp only[fi,gj,fe,d,hs.len,LR,ke]]
 rw[gX]
 cases k with
 | zero=>
   refine jd (gg (by rw[Lh (show ¬((n:Int)<=az.length) by omega)];simp) ?_);have e0:w=xR (qZ az) (az.length+1) v:=f;rw[<-e0]at H
   exact H i
 | succ k=>
   rw[Ke (show(n:Int)<=az.length by omega),Bool.and_true];have e:xR (qZ az) (k+1) w=if 0<=qZ az w/\qZ az w≠(w:Int) then xR (qZ az) k (qZ az w).toNat else w:=rfl
   rw[J]at e;by_cases c:0<=a/\a≠(w:Int)
   ·refine jd (gv (by rw[Ke c.1,wB7,wCD];exact c.2) ?_)
    refine oN d (ee p (ee q (j8 (m:=1) (by omega) (by omega) ?_)));rw[if_pos c]at e;obtain⟨b,rfl⟩:=wBG c.1;exact⟨k,by omega,n+1,b,rfl,rfl,by omega,by omega,by rw[<-f,e];rfl⟩
   ·refine jd (gg (λh=>c ?_) ?_)
    ·rw[vR,BP,wCD]at h
     exact h
    ·rw[if_neg c]at e
     rw[e]at f;rw[<-f]at H;exact H i
theorem YW(n:gG (uC u vv vb vs)=true)(hv:fH vv=some (.I u.eh.length))(B:u.eh.length<=3000)(p:eo F h cs)(H:∀h' v,Sn F h F h'->eo F h' (eR eZ eJ ((List.range u.eh.length).map λ(i:Nat)=>(i:Int)) v::cs)->Q v h') :
  cP CS DE [.agg (uC u vv vb vs)] h Q:=by
 refine Ti rfl rfl ?_;unfold MW;refine jS p n λb c q=>?_;refine oF (c.ld 0 rfl rfl) (ee hv ?_);rw[ka (z:=V.I 0) rfl (by decide) (by omega),fG];obtain⟨r,s⟩:=c.make (E:=eZ) (ty:=eJ) (y:=0) (u:=V.I 0) u.eh.length rfl rfl;generalize b.new (.cells eJ 1 true false (List.replicate u.eh.length (V.I 0)))=C at*;generalize b.next=lr at*;refine ee (show _=some (V.I u.eh.length) from rfl) ?_;refine ND (λk l h'=>∃(i:Nat) (ys:List Int),l=[.slice lr 0 u.eh.length,.I u.eh.length,.I i]/\i+k=u.eh.length/\ys.length=u.eh.length/\(∀j:Nat,j<i->ys[j]? =some (j:Int))/\Sn F h F h'/\eo F h' (eR eZ eJ ys (.slice lr 0 u.eh.length)::ez h.next 30 (uC u vv vb vs)::cs)) ?_ (k:=u.eh.length) ⟨0,_,rfl,by omega,PV,λ_ h=>by omega,q.trans s,r⟩;rintro k _ _ _ t ⟨i,ys,⟨⟩,D,w,d,f,g⟩;unfold HB;by_cases hi:i<u.eh.length
 ·refine gB ?_;obtain⟨l,o,G,x,A,_,m,s4⟩:=g.IG 0 rfl (k:=i) (y:=(i:Int)) (u:=V.I i) (by omega) rfl rfl rfl;refine ee x ?_;rw[A,ei];simp only[jo]at m;refine fM ⟨k-1,by omega,i+1,ys.set i (i:Int),rfl,by omega,by simp[w],λj a=>?_,f.trans s4,m⟩;by_cases e:j=i
  ·subst e;exact Hf (by omega)
  ·rw[ES λh=>e h.symm];exact d j (by omega)
 ·refine iJ ?_;have e:ys=(List.range u.eh.length).map λ(i:Nat)=>(i:Int):=by
   refine wBk λj=>?_;by_cases a:j<u.eh.length
   ·rw[d j (by omega),Cq,wBo a];rfl
   ·rw[NT (by omega),NT (by simp;omega)]
  rw[<-e]at H;exact H t _ f g.Jh
end
