/- Parts. -/
import Derived.Test.YtloecllhljfidaaGreatDoorM27
import Derived.Test.YtloecllhljfidaaGreatDoorM34
import Derived.Test.YtloecllhljfidaaGreatDoorM33
set_option maxHeartbeats 4000000
namespace Go.Proofs.YtloecllhljfidaaGreatDoor.Hx
open Un Dm
variable{β:Type}{E':qf β}{α:Type}
theorem zbW:P0.underlying eR=some (.int .i64):=by kernel_rfl
theorem VO(a b:Int):ET eR (.I a) (.I b)=some (a == b):=by
 unfold ET;rw[zbW];rfl
section
variable{u:U}
theorem uP{w:Nat}(h:mq u w):w<u.ej.length:=by
 obtain⟨x,a,_⟩:=h
 grind
theorem Ej{P:Nat->Prop}(g:Gd u P){s:Nat}{fs:List Fm}(a:u.eo[s]? =some fs):∀w∈gL fs,w<u.ej.length:=by
 intro w b;unfold gL at b;obtain⟨f,c,d⟩:=UE.1 b;obtain⟨_,_,e⟩:=g.st s fs a;obtain⟨_,_,i,j⟩:=e f c;rcases EG.1 d with h|h
 ·simp_all[uP]
 simp_all[uP]
theorem Is(g:Good u){i:Nat}{x:Vl}(hx:u.ej[i]? =some x):x.op=21\/x.op=20->x.args.length<=700:=by
 have nb:=g.nb;obtain⟨b,k,a⟩:=g.B6 i (by grind) trivial;obtain⟨B,d,hk⟩:=id a;rintro(c|c)
 ·rw[(g.Cd _ _ _ _ _ a hx c d).2,g.fh b B d,<-pM];have:=pP g (i:=u.blocks.length) (j:=0) (b:=b) (iZ _) (by omega);omega
 ·rw[g.putAt i x hx c];omega
theorem EC{P:Nat->Prop}(g:Gd u P)(s:Nat)(fs:List Fm)(a:u.eo[s]? =some fs):fs.length<=30/\∀f∈fs,f.locals.length<=40/\f.stack.length<=60:=by
 obtain⟨_,b,c⟩:=g.st s fs a
 simp_all
theorem DN(g:Good u){b:Nat}{B:Bk}(a:u.blocks[b]? =some B):B.ej.length<=3000:=by
 have nv:=g.nv;have:=iP u.ej.length B.ej (J9 g a) λv hv=>by
  obtain⟨k,hk⟩:=mn.1 hv;exact g.iM v b k ⟨B,a,hk⟩
 omega
theorem Fu(g:Good u){b:Nat}{B:Bk}(a:u.blocks[b]? =some B):B.fh.length<=700:=by
 have nb:=g.nb;rw[g.fh b B a,<-pM];have:=pP g (i:=u.blocks.length) (j:=0) (b:=b) (iZ _) (by omega);omega
theorem Dh(g:Good u){b:Nat}{B:Bk}(a:u.blocks[b]? =some B):B.next.length<=2:=by
 rcases g.fin b B a with⟨_,h⟩|⟨_,h,_⟩|⟨_,h,_⟩
 ·omega
 ·omega
 simp_all
end
open Un Dm
def yL:qf (Vl×V) where
 sz:=6
 rel _ _ x cs:=cs=mh x.1 x.2/\x.2.one=true
 len h:=by rw[h.1];rfl
 one h:=by rw[h.1];simp only[mh,eQ,h.2];rfl
 fk _ h:=h
 mono _ h:=h
def xz:qf (Bk×V) where
 sz:=6
 rel F h x cs:=∃v p,cs=ku x.1 v x.2 p/\il eN F h x.1.ej v/\il eN F h x.1.fh p/\x.2.one=true
 len:=λ⟨_,_,h,_⟩=>by subst h;rfl
 one:=λ⟨_,_,h,a,b,c⟩=>by subst h;simp only[ku,eQ,a.one,b.one,c];rfl
 fk:=λhk ⟨v,p,h,a,b,c⟩=>⟨v,p,h,a.fk hk,b.fk hk,c⟩
 mono:=λhb ⟨v,p,h,a,b,c⟩=>⟨v,p,h,a.mono hb,b.mono hb,c⟩
def Q0:qf (Fm×V×V) where
 sz:=4
 rel _ _ x cs:=cs=Pj x.1 x.2.1 x.2.2/\x.2.1.one=true/\x.2.2.one=true
 len h:=by rw[h.1];rfl
 one h:=by rw[h.1];simp only[Pj,eQ,h.2.1,h.2.2];rfl
 fk _ h:=h
 mono _ h:=h
section
variable{F F':Nat->Prop}{h h':Hp}{cs:List Pc}{Q:fq}{u:U}{vv vb vs:V}
theorem ev.empty(H:ev F h cs)(i:Nat){l:Nat}(hi:cs[i]? =some (eJ l eR [])):ev F h (cs.set i (fg eN eR [] (.slice l 0 0))):=by
 have a:=H.ok i _ hi;exact H.swap hi (.inr ⟨l,[],rfl,a.2.1,a.2.2,a.1,trivial,rfl⟩) λm e=>e.symm
structure YI (vs:List Vl) (xs:List (Vl×V)) (fa:Nat->Option (List Nat×V)):Prop where
 fst:xs.map Prod.fst=vs
 row:∀i x w,xs[i]? =some (x,w)->fa i=some (x.args,w)
 out:∀i,xs.length<=i->fa i=none
structure Yo (bs:List Bk) (xs:List (Bk×V)) (fn:Nat->Option (List Nat×V)):Prop where
 fst:xs.map Prod.fst=bs
 row:∀i x w,xs[i]? =some (x,w)->fn i=some (x.next,w)
 out:∀i,xs.length<=i->fn i=none
abbrev KF:=Nat×Nat×Bool
structure CpF (s:Nat) (fs:List Fm) (xs:List (Fm×V×V)) (fl:KF->Option (List Nat×V)):Prop where
 fst:xs.map Prod.fst=fs
 loc:∀k x l w,xs[k]? =some (x,l,w)->fl (s,k,false)=some (x.locals,l)/\fl (s,k,true)=some (x.stack,w)
 out:∀k b,xs.length<=k->fl (s,k,b)=none
structure CpS (ss:List (List Fm)) (xs:List (List (Fm×V×V))) (fl:KF->Option (List Nat×V)):Prop where
 fst:xs.map (λl=>l.map Prod.fst)=ss
 loc:∀s l k x a w,xs[s]? =some l->l[k]? =some (x,a,w)->fl (s,k,false)=some (x.locals,a)/\fl (s,k,true)=some (x.stack,w)
 out:∀s k b,xs.length<=s->fl (s,k,b)=none
theorem YI.snoc{vs:List Vl}{xs:List (Vl×V)}{fa:Nat->Option (List Nat×V)}(c:YI vs xs fa)(x:Vl)(w:V):YI (vs++[x]) (xs++[(x,w)]) (up fa xs.length (some (x.args,w))):=by
 refine⟨by rw[Mw,c.fst];rfl,λi y v hi=>?_,λi hi=>?_⟩
 ·by_cases e:i<xs.length
  ·rw[VU e]at hi;rw[iX _ _ (by omega)];exact c.row i y v hi
  ·rw[wAy (by omega)]at hi;have a:i-xs.length=0:=by have:=(jo.1 hi).1;simp at this;omega
   rw[a]at hi;cases hi;obtain rfl:i=xs.length:=by omega
   exact jz _ _ _
 ·rw[Lw]at hi;rw[iX _ _ (by simp at hi;omega)];exact c.out i (by simp at hi;omega)
theorem Yo.snoc{bs:List Bk}{xs:List (Bk×V)}{fn:Nat->Option (List Nat×V)}(c:Yo bs xs fn)(x:Bk)(w:V):Yo (bs++[x]) (xs++[(x,w)]) (up fn xs.length (some (x.next,w))):=by
 refine⟨by rw[Mw,c.fst];rfl,λi y v hi=>?_,λi hi=>?_⟩
 ·by_cases e:i<xs.length
  ·rw[VU e]at hi;rw[iX _ _ (by omega)];exact c.row i y v hi
  ·rw[wAy (by omega)]at hi;have a:i-xs.length=0:=by have:=(jo.1 hi).1;simp at this;omega
   rw[a]at hi;cases hi;obtain rfl:i=xs.length:=by omega
   exact jz _ _ _
 ·rw[Lw]at hi;rw[iX _ _ (by simp at hi;omega)];exact c.out i (by simp at hi;omega)
theorem ev.re(H:ev F h cs){ds:List Pc}(m:Nat->Nat)(a:∀i c,ds[i]? =some c->cs[m i]? =some c)(b:∀i j,i<ds.length->j<ds.length->m i=m j->i=j):ev F h ds where
 fl:=H.fl
 ok i c hc:=H.ok (m i) c (a i c hc)
 Et i j c d hc hd hn:=H.Et (m i) (m j) c d (a i c hc) (a j d hd) λe=>hn (b i j (jo.1 hc).1 (jo.1 hd).1 e)
theorem ev.zfU{a b c d:Pc}(H:ev F h (a::b::c::d::cs)):ev F h (b::d::a::cs):=
 H.re (λi=>match i with|0=>1|1=>3|2=>0|n+3=>n+4) (λi c hc=>match i,hc with|0,hc=>hc|1,hc=>hc|2,hc=>hc|n+3,hc=>hc) λi j _ _ e=>by
  match i,j with
  |0,0|1,1|2,2=>rfl
  |0,1|0,2|1,0|1,2|2,0|2,1=>simp at e
  |0,n+3|1,n+3|2,n+3|n+3,0|n+3,1|n+3,2=>simp at e;try omega
  |n+3,k+3=>simp at e;omega
theorem ev.zb8{ι:Type} [DecidableEq ι] {ty:Nat}{f:ι->Option (List Nat×V)}{xs ys:List Nat}{v w:V}{c:Pc}(H:ev F h (fg eN ty xs v::fg eN ty ys w::c::fU ty f::cs)){i j:ι}(hi:f i=Option.none)(a:f j=Option.none)(b:j≠i) :
  ev F h (fU ty (up (up f i (some (ys,w))) j (some (xs,v)))::cs):=
 (H.zfU.RM hi).sw.RM (by rw[iX _ _ b];exact a)
theorem ev.zfZ{a b c d e f x y z:Pc}(H:ev F h (a::b::c::d::e::f::x::y::z::cs)):ev F h (f::d::b::e::c::a::cs):=
 H.re (λi=>match i with|0=>5|1=>3|2=>1|3=>4|4=>2|5=>0|n+6=>n+9) (λi c hc=>match i,hc with|0,hc=>hc|1,hc=>hc|2,hc=>hc|3,hc=>hc|4,hc=>hc|5,hc=>hc|n+6,hc=>hc) λi j _ _ e=>by
   have g:∀i,(match i with|0=>5|1=>3|2=>1|3=>4|4=>2|5=>0|n+6=>n+9:Nat)=(if i<6 then[5,3,1,4,2,0].getD i 0 else i+3):=λi=>by
     match i with
     |0|1|2|3|4|5=>rfl
     |n+6=>rw[if_neg (by omega)]
   simp only[g]at e;by_cases hi:i<6
   ·by_cases hj:j<6
    ·rw[if_pos hi,if_pos hj]at e
     exact(by decide:∀i,i<6->∀j,j<6->[5,3,1,4,2,0].getD i 0=[5,3,1,4,2,0].getD j 0->i=j) i hi j hj e
    ·rw[if_pos hi,if_neg hj]at e
     have:=(by decide:∀i,i<6->[5,3,1,4,2,0].getD i 0<6) i hi;omega
   ·by_cases hj:j<6
    ·rw[if_neg hi,if_pos hj]at e
     have:=(by decide:∀i,i<6->[5,3,1,4,2,0].getD i 0<6) j hj;omega
    ·rw[if_neg hi,if_neg hj]at e
     omega
theorem CpF.snoc{s:Nat}{fs:List Fm}{xs:List (Fm×V×V)}{fl:KF->Option (List Nat×V)}(c:CpF s fs xs fl)(x:Fm)(l w:V):CpF s (fs++[x]) (xs++[(x,l,w)]) (up (up fl (s,xs.length,false) (some (x.locals,l))) (s,xs.length,true) (some (x.stack,w))):=by
 refine⟨by rw[Mw,c.fst];rfl,λi y a b hi=>?_,λi b hi=>?_⟩
 ·by_cases e:i<xs.length
  ·rw[VU e]at hi;have f:=c.loc i y a b hi;rw[iX _ _ (by simp),iX _ _ (by simp;omega),iX _ _ (by simp;omega),iX _ _ (by simp)];exact f
  ·rw[wAy (by omega)]at hi;have d:i-xs.length=0:=by have:=(jo.1 hi).1;simp at this;omega
   rw[d]at hi;cases hi;obtain rfl:i=xs.length:=by omega
   exact⟨by rw[iX _ _ (by simp),jz],jz _ _ _⟩
 ·rw[Lw]at hi;simp at hi;rw[iX _ _ (by simp;omega),iX _ _ (by simp;omega)];exact c.out i b (by omega)
theorem CpS.snoc{ss:List (List Fm)}{xs:List (List (Fm×V×V))} {fl d:KF->Option (List Nat×V)}(c:CpS ss xs fl){fs:List Fm}{ys:List (Fm×V×V)} (c':CpF xs.length fs ys d)(f:∀s k b,s≠xs.length->d (s,k,b)=fl (s,k,b)):CpS (ss++[fs]) (xs++[ys]) d:=by
 refine⟨by rw[Mw,c.fst,<-c'.fst];rfl,λi l k y a b hi hk=>?_,λi k b hi=>?_⟩
 ·by_cases e:i<xs.length
  ·rw[VU e]at hi;rw[f _ _ _ (by omega),f _ _ _ (by omega)];exact c.loc i l k y a b hi hk
  ·rw[wAy (by omega)]at hi;have g:i-xs.length=0:=by have:=(jo.1 hi).1;simp at this;omega
   rw[g]at hi;cases hi;obtain rfl:i=xs.length:=by omega
   exact c'.loc k y a b hk
 ·rw[Lw]at hi;simp at hi;rw[f _ _ _ (by omega)];exact c.out i k b (by omega)
def rM(u:U):Prop:=∀(v:Nat) x,u.ej[v]? =some x->x.args.length<=700
structure Ul (u:U):Prop where
 nv:u.ej.length<=3000
 nb:u.blocks.length<=300
 ns:u.eo.length<=1000
 args:rM u
 nJ:∀(b:Nat) B,u.blocks[b]? =some B->B.ej.length<=3000/\B.fh.length<=700/\B.next.length<=2
 st:∀(s:Nat) fs,u.eo[s]? =some fs->fs.length<=30/\∀f∈fs,f.locals.length<=40/\f.stack.length<=60
theorem AI(g:Good u)(b:rM u):Ul u:=⟨g.nv,g.nb,g.ns,b,λ_ _ a=>⟨DN g a,Fu g a,Dh g a⟩,EC g⟩
theorem Nq(g:Ul u)(H0:ev F h cs)(hu:tL F h u vv vb vs)
  (H:∀F' h' wv wb ws (xs:List (Vl×V)) (bs:List (Bk×V)) (ss:List (List (Fm×V×V))) fa fn fl,Sn F h F' h'->YI u.ej xs fa->Yo u.blocks bs fn->CpS u.eo ss fl->
   ev F' h' (fg yL gK xs wv::fg xz fJ bs wb::fg (eL Q0) lC ss ws::fU eR fa::fU eR fn::fU eR fl::cs)->Q (.agg (uC u wv wb ws)) h') :
  cP CS pZ [.agg (uC u vv vb vs)] h Q:=by
 refine Vi ?_;have nv:=g.nv;refine j4 H0 hu.one λh1 H1 s1=>?_;rw[fu];obtain⟨H2,s2⟩:=H1.yP gJ [.I 0,.I 0,.ei,.ei,.ei];have H2:ev F (h1.new (.cells 30 1 true false [V.I 0,.I 0,.ei,.ei,.ei])) (eJ h1.next 30 [V.I 0,.I 0,.ei,.ei,.ei]::eJ h.next 30 (uC u vv vb vs)::cs):=H2;have s2:Sn F h1 F (h1.new (.cells 30 1 true false [V.I 0,.I 0,.ei,.ei,.ei])):=s2;generalize h1.new (.cells 30 1 true false [V.I 0,.I 0,.ei,.ei,.ei])=h2 at*;generalize h.next=l1 at*;generalize h1.next=l2 at*;refine oF (H2.ld 1 rfl rfl) (oF (H2.ld 1 rfl rfl) (eh (show _=some (V.agg [.I u.func,.I u.pc,.ei,.ei,.ei]) from rfl) ?_));refine gQ H2 rfl rfl rfl λh3 H3 s3=>?_;generalize h2.next=l3 at*;have ap:=(s1.trans s2).trans s3;have u3:=hu.since ap;refine oF (H3.ld 2 rfl rfl) (eh u3.v.len ?_)
 have H3:ev F h3 (fU eR (λ_:Nat=>Option.none)::fg yL gK [] .ei::eJ l3 30 [.I u.func,.I u.pc,.ei,.ei,.ei]::eJ l2 30 [.I 0,.I 0,.ei,.ei,.ei]::eJ l1 30 (uC u vv vb vs)::cs):=
  (H3.add (p:=fg yL gK [] .ei) .nil λ_ h=>h).zal
 refine PB (λk l h'=>∃(i:Nat) (xs:List (Vl×V)) (fa:Nat->Option (List Nat×V)) (wv:V),l=[.ptr l1 0,.ptr l2 0,.ptr l3 0,vv,.I u.ej.length,.I i]/\i+k=u.ej.length/\Sn F h3 F h'/\xs.length=i/\YI (u.ej.take i) xs fa/\
  ev F h' (fU eR fa::fg yL gK xs wv::eJ l3 30 [.I u.func,.I u.pc,wv,.ei,.ei]::eJ l2 30 [.I 0,.I 0,.ei,.ei,.ei]::eJ l1 30 (uC u vv vb vs)::cs)) ?_ (k:=u.ej.length)
  ⟨0,[],λ_=>Option.none,.ei,rfl,by omega,Sn.refl _ _,rfl,⟨rfl,λ_ _ _ h=>by simp at h,λ_ _=>rfl⟩,H3⟩
 rintro k _ _ _ _ _ _ h4 ⟨i,xs,fa,wv,⟨⟩,hk,s4,aq,hc,H4⟩;unfold Jn;have u4:=u3.since s4;by_cases hi:i<u.ej.length
 ·refine gy ?_;have hx:=gN hi;have M:u.ej.take (i+1)=u.ej.take i++[u.ej[i]]:=M4 hi;generalize u.ej[i]=x at*;obtain⟨lx,ox,w,_,x1,x2,xw,_⟩:=u4.val hx;refine eh x1 (eh x2 ?_);refine gQ H4 rfl rfl (by simp only[mh,eQ,xw.one];rfl) λS H5 s5=>?_;generalize h4.next=lc at*;rw[C8,fu];obtain⟨G,I⟩:=H5.TC (E:=eN) (xs:=[]) (ws:=[]) (n:=0) eR rfl trivial rfl;have G:ev F (S.new (.cells 3 1 true false [])) (fg eN eR [] (.slice S.next 0 0)::eJ lc 45 (mh x w)::_):=G;have I:Sn F S F (S.new (.cells 3 1 true false [])):=I;generalize S.new (.cells 3 1 true false [])=h6 at*;refine oF (G.ld 1 rfl rfl) ?_;have aC:=g.args i x hx;obtain⟨a,C,e7,_,J,s7⟩:=G.OV 0 rfl (jL:=8) ((xw.since s5).since I) (by decide) (by decide) (by simp;omega);have aD:fi 3 1 8 (.slice S.next 0 0) w h6=some (.val a C):=e7;rw[aD,en];simp only[oU,UA]at J;have d:=J.one 0 rfl;obtain⟨T,e8,_,t,s8⟩:=J.st 1 (o:=4) (u:=a) rfl (by simp[mh]) d;refine eh (gf _ _ _) ?_;have aE:gq 1 (.ptr lc (0+4)) a C=some (.val .undef T):=by rw[C7];exact e8
  rw[aE,en];simp only[oU,pJ]at t;have t:ev F T (fg eN eR x.args a::eJ lc 45 (mh x a)::fU eR fa::fg yL gK xs wv::eJ l3 30 [.I u.func,.I u.pc,wv,.ei,.ei]::_):=t;refine oF (t.ld 4 rfl rfl) (eh (t.mY 1 rfl rfl) ?_);rw[nM (sz:=6) (w:=mh x a) rfl rfl (by simp only[mh,eQ,d];rfl),fu];obtain⟨U,h9,e9,_,m,s9⟩:=t.rZ 3 rfl (jL:=64) (GA:=45) (y:=(x,a)) (w:=mh x a) (ro:=false) ⟨rfl,d⟩ (by decide) (by decide) (by omega);have aF:fi 45 6 64 wv (.slice T.next 0 1) (T.new (.cells 45 6 true false (mh x a)))=some (.val U h9):=e9;rw[aF,en];simp only[oU,pJ]at m;obtain⟨W,aG,_,c,z⟩:=m.st 4 (o:=2) (u:=U) rfl (by simp) (m.one 3 rfl);refine eh (gf _ _ _) ?_;have ar:gq 1 (.ptr l3 (0+2)) U h9=some (.val .undef W):=by rw[C7];exact aG
  rw[ar,en];simp only[oU,pJ]at c;have X:=c.KW.RM (i:=i) (hc.out i (by omega));refine fF ⟨k-1,by omega,i+1,xs++[(x,a)],up fa i (some (x.args,a)),U,rfl,by omega,((((s4.trans s5).trans I).trans s7).trans s8).trans (s9.trans z),by simp[aq],?_,X⟩;rw[M];have:=hc.snoc x a
  rwa [aq]at this
 refine hY ?_;obtain rfl:i=u.ej.length:=by omega
 rw[I2]at hc;have nb:=g.nb;refine oF (H4.ld 4 rfl rfl) (eh u4.b.len ?_);clear hk k
 have H4:ev F h4 (fU eR (λ_:Nat=>Option.none)::fg xz fJ [] .ei::fU eR fa::fg yL gK xs wv::eJ l3 30 [.I u.func,.I u.pc,wv,.ei,.ei]::eJ l2 30 [.I 0,.I 0,.ei,.ei,.ei]::eJ l1 30 (uC u vv vb vs)::cs):=
  (H4.add (p:=fg xz fJ [] .ei) .nil λ_ h=>h).zal
 refine PA (λk l h'=>∃(F':Nat->Prop) (i:Nat) (bs:List (Bk×V)) (fn:Nat->Option (List Nat×V)) (wb:V),l=[.ptr l1 0,.ptr l2 0,.ptr l3 0,vb,.I u.blocks.length,.I i]/\i+k=u.blocks.length/\Sn F h4 F' h'/\bs.length=i/\Yo (u.blocks.take i) bs fn/\
  ev F' h' (fU eR fn::fg xz fJ bs wb::fU eR fa::fg yL gK xs wv::eJ l3 30 [.I u.func,.I u.pc,wv,wb,.ei]::eJ l2 30 [.I 0,.I 0,.ei,.ei,.ei]::eJ l1 30 (uC u vv vb vs)::cs)) ?_ (k:=u.blocks.length)
  ⟨F,0,[],λ_=>Option.none,.ei,rfl,by omega,Sn.refl _ _,rfl,⟨rfl,λ_ _ _ h=>by simp at h,λ_ _=>rfl⟩,H4⟩
 rintro k _ _ _ _ _ _ S ⟨Y,i,bs,fn,wb,⟨⟩,hk,s5,au,Z,H5⟩;unfold Jg;have u5:=u4.since s5;by_cases hi:i<u.blocks.length
 ·refine gy ?_;have hB:=gN hi;have M:u.blocks.take (i+1)=u.blocks.take i++[u.blocks[i]]:=M4 hi;generalize u.blocks[i]=B at*;have aP:=(g.nJ i B hB).1;have aQ:=(g.nJ i B hB).2.1;have aR:=(g.nJ i B hB).2.2;obtain⟨lx,ox,bv,bn,bp,_,x1,x2,iv,iN,ip,_⟩:=u5.nJ hB;refine eh x1 (eh x2 ?_);refine gQ H5 rfl rfl (by simp only[ku,eQ,iv.one,iN.one,ip.one];rfl) λh6 G I=>?_;generalize S.next=lc at*;have e:∀{h:Hp} {cs:List Pc},ev Y h cs->ev Y (h.new (.cells 3 1 true false [])) (eJ h.next 3 []::cs)/\Sn Y h Y (h.new (.cells 3 1 true false [])):=λH=>H.yP 3 [];rw[C8,gO];obtain⟨J,s7⟩:=e G;generalize h6.new (.cells 3 1 true false [])=C at*;refine oF (J.ld 1 rfl rfl) ?_;rw[gO];obtain⟨t,s8⟩:=e J;generalize C.new (.cells 3 1 true false [])=T at*;refine oF (t.ld 2 rfl rfl) ?_;rw[gO];obtain⟨m,s9⟩:=e t;generalize T.new (.cells 3 1 true false [])=h9 at*;generalize h6.next=ra at*;generalize C.next=rb at*;generalize T.next=rc at*;refine oF (m.ld 3 rfl rfl) ?_;have aa:=(s7.trans s8).trans s9;refine⟨⟨m.get 0 rfl,bq⟩,m.ld 3 rfl rfl,⟨m.get 1 rfl,bq⟩,m.ld 3 rfl rfl,⟨m.get 2 rfl,bq⟩,?_⟩;have aH:=(iv.since I).since aa;have aI:=(iN.since I).since aa;have aJ:=(ip.since I).since aa;have m:=m.empty 2 rfl;simp only[oU,pJ]at m;obtain⟨a,hA,eA,nA,q,sA⟩:=m.OV 2 rfl (jL:=8) aH (by decide) (by decide) (by simp;omega);have ah:fi 3 1 8 (.slice ra 0 0) bv h9=some (.val a hA):=eA;rw[ah,en];simp only[oU,pJ,UA]at q;refine⟨nA,eh (gf _ _ _) ⟨q.ld 3 rfl rfl,⟨q.get 0 rfl,bq⟩,q.ld 3 rfl rfl,⟨q.get 1 rfl,bq⟩,?_⟩⟩;have q:=q.empty 1 rfl;simp only[oU,pJ]at q;obtain⟨K,hC,eC,nC,L,sC⟩:=q.OV 1 rfl (jL:=8) (aI.since sA) (by decide) (by decide) (by simp;omega);have ai:fi 3 1 8 (.slice rb 0 0) bn hA=some (.val K hC):=eC;rw[ai,en];simp only[oU,pJ,UA]at L;refine⟨nC,L.ld 3 rfl rfl,⟨L.get 0 rfl,bq⟩,?_⟩;have L:=L.empty 0 rfl;simp only[oU,pJ]at L;obtain⟨vp,hD,eD,nD,HD,sD⟩:=L.OV 0 rfl (jL:=8) ((aJ.since sA).since sC) (by decide) (by decide) (by simp;omega);have aK:fi 3 1 8 (.slice rc 0 0) bp hC=some (.val vp hD):=eD;rw[aK,en];simp only[oU,pJ,UA]at HD;have d:=HD.one 2 rfl;have aj:=HD.one 1 rfl;have aw:=HD.one 0 rfl;obtain⟨hE,eE,nE,HE,sE⟩:=HD.st 3 (o:=0) (u:=a) rfl (by simp[ku]) d;have ak:gq 1 (.ptr lc (0+0)) a hD=some (.val .undef hE):=eE;refine⟨nD,?_⟩;rw[ak,en];simp only[oU,pJ]at HE;obtain⟨hG,eG,nG,HG,sG⟩:=HE.st 3 (o:=3) (u:=K) rfl (by simp[ku]) aj;have al:gq 1 (.ptr lc (0+3)) K hE=some (.val .undef hG):=by rw[C7];exact eG
  refine⟨nE,eh (gf _ _ _) ?_⟩;rw[al,en];simp only[oU,pJ]at HG;obtain⟨hI,eI,nI,HI,sI⟩:=HG.st 3 (o:=4) (u:=vp) rfl (by simp[ku]) aw;have aL:gq 1 (.ptr lc (0+4)) vp hG=some (.val .undef hI):=by rw[C7];exact eI
  refine⟨nG,eh (gf _ _ _) ?_⟩;rw[aL,en];simp only[oU,pJ]at HI;have HI:ev Y hI (fg eN eR B.fh vp::fg eN eR B.next K::fg eN eR B.ej a::eJ lc 43 (ku B a K vp)::fU eR fn::fg xz fJ bs wb::fU eR fa::fg yL gK xs wv::eJ l3 30 [.I u.func,.I u.pc,wv,wb,.ei]::_):=HI;refine⟨nI,oF (HI.ld 8 rfl rfl) (eh (HI.mY 3 rfl rfl) ?_)⟩;obtain⟨HJ,sJ,rp⟩:=HI.jc 0 rfl;simp only[oU]at HJ;obtain⟨HK,sK,rv⟩:=HJ.jc 2 rfl;simp only[oU,pJ]at HK;have rp:=rp.since sK;have HK:=HK.tail.KW.KW;generalize (λl=>(Y l\/Loc vp l)\/Loc a l)=FK at*;rw[nM (sz:=6) (w:=ku B a K vp) rfl rfl (by simp only[ku,eQ,d,aj,aw];rfl),fu];obtain⟨ab,hL,eL,_,HL,sL⟩:=HK.rZ 2 rfl (jL:=96) (GA:=43) (y:=(B,K)) (w:=ku B a K vp) (ro:=false) ⟨a,vp,rfl,rv,rp,aj⟩ (by decide) (by decide) (by omega);have N:fi 43 6 96 wb (.slice hI.next 0 1) (hI.new (.cells 43 6 true false (ku B a K vp)))=some (.val ab hL):=eL;rw[N,en];simp only[oU,pJ]at HL;obtain⟨hM,eM,_,HM,sM⟩:=HL.st 5 (o:=3) (u:=ab) rfl (by simp) (HL.one 2 rfl);refine eh (gf _ _ _) ?_;have O:gq 1 (.ptr l3 (0+3)) ab hL=some (.val .undef hM):=by rw[C7];exact eM
  rw[O,en];simp only[oU,pJ]at HM;have HN:=HM.RM (i:=i) (Z.out i (by omega));have ax:=((((((I.trans aa).trans sA).trans sC).trans sD).trans sE).trans sG).trans sI;refine fF ⟨k-1,by omega,FK,i+1,bs++[(B,K)],up fn i (some (B.next,K)),ab,rfl,by omega,s5.trans (((ax.trans sJ).trans sK).trans (sL.trans sM)),by simp[au],?_,HN⟩;rw[M];have:=Z.snoc B K
  rwa [au]at this
 refine hY ?_;have ns:=g.ns;obtain rfl:i=u.blocks.length:=by omega
 rw[I2]at Z;refine oF (H5.ld 6 rfl rfl) (eh u5.s.len ?_);clear hk k
 have H5:ev Y S (fU eR (λ_:KF=>Option.none)::fg (eL Q0) lC [] .ei::fU eR fn::fg xz fJ bs wb::fU eR fa::fg yL gK xs wv::eJ l3 30 [.I u.func,.I u.pc,wv,wb,.ei]::eJ l2 30 [.I 0,.I 0,.ei,.ei,.ei]::eJ l1 30 (uC u vv vb vs)::cs):=
  (H5.add (p:=fg (eL Q0) lC [] .ei) .nil λ_ h=>h).zal
 refine PE (λk l h'=>∃(F':Nat->Prop) (i:Nat) (ss:List (List (Fm×V×V))) (fl:KF->Option (List Nat×V)) (ws:V),l=[.ptr l2 0,.ptr l3 0,vs,.I u.eo.length,.I i]/\i+k=u.eo.length/\Sn Y S F' h'/\ss.length=i/\CpS (u.eo.take i) ss fl/\
  ev F' h' (fU eR fl::fg (eL Q0) lC ss ws::fU eR fn::fg xz fJ bs wb::fU eR fa::fg yL gK xs wv::eJ l3 30 [.I u.func,.I u.pc,wv,wb,ws]::eJ l2 30 [.I 0,.I 0,.ei,.ei,.ei]::eJ l1 30 (uC u vv vb vs)::cs)) ?_ (k:=u.eo.length)
  ⟨Y,0,[],λ_=>Option.none,.ei,rfl,by omega,Sn.refl _ _,rfl,⟨rfl,λ_ _ _ _ _ _ h=>by simp at h,λ_ _ _ _=>rfl⟩,H5⟩
 rintro k _ _ _ _ _ h6 ⟨D,i,ss,fl,ws,⟨⟩,hk,I,oS,ac,G⟩;unfold Jh;have u6:=u5.since I;by_cases hi:i<u.eo.length
 ·refine gy ?_;have hS:=gN hi;have M:u.eo.take (i+1)=u.eo.take i++[u.eo[i]]:=M4 hi;generalize u.eo[i]=fs at*;have aS:=(g.st i fs hS).1;obtain⟨lx,ox,f,_,x1,x2,_,xf⟩:=u6.st hS;refine eh x1 (eh x2 ?_);refine gQ G rfl rfl (by simp only[eQ,xf.one];rfl) λC J s7=>?_;generalize h6.next=lc at*;rw[fu];obtain⟨t,s8⟩:=J.yP lC [.ei];have t:ev D (C.new (.cells 52 1 true false [V.ei])) (eJ C.next 52 [.ei]::eJ lc 52 [f]::_):=t;have s8:Sn D C D (C.new (.cells 52 1 true false [V.ei])):=s8;generalize C.new (.cells 52 1 true false [V.ei])=T at*;generalize C.next=ld at*;have xf:=(xf.since s7).since s8;refine oF (t.ld 1 rfl rfl) (eh xf.len ?_)
  have t:ev D T (fU eR fl::fg Q0 No [] .ei::eJ ld 52 [.ei]::fg (eL Q0) lC ss ws::fU eR fn::fg xz fJ bs wb::fU eR fa::fg yL gK xs wv::eJ l3 30 [.I u.func,.I u.pc,wv,wb,ws]::eJ l2 30 [.I 0,.I 0,.ei,.ei,.ei]::eJ l1 30 (uC u vv vb vs)::cs):=
   (t.KW.sw.add (p:=fg Q0 No [] .ei) .nil λ_ h=>h).sw
  refine Ph (λk' l h'=>∃(j:Nat) (ys:List (Fm×V×V)) (A:KF->Option (List Nat×V)) (P:V),l=[.ptr l2 0,.ptr l3 0,.ptr ld 0,vs,.I u.eo.length,.I i,f,.I fs.length,.I j]/\j+k' = fs.length/\Sn D T D h'/\ys.length=j/\CpF i (fs.take j) ys A/\(∀s k b,s≠i->A (s,k,b)=fl (s,k,b))/\
   ev D h' (fU eR A::fg Q0 No ys P::eJ ld 52 [P]::fg (eL Q0) lC ss ws::fU eR fn::fg xz fJ bs wb::fU eR fa::fg yL gK xs wv::eJ l3 30 [.I u.func,.I u.pc,wv,wb,ws]::eJ l2 30 [.I 0,.I 0,.ei,.ei,.ei]::eJ l1 30 (uC u vv vb vs)::cs)) ?_ (k:=fs.length)
   ⟨0,[],fl,.ei,rfl,by omega,Sn.refl _ _,rfl,⟨rfl,λ_ _ _ _ h=>by simp at h,λk b _=>ac.out i k b (by omega)⟩,λ_ _ _ _=>rfl,t⟩
  rintro k' _ _ _ _ _ _ _ _ _ h9 ⟨j,ys,A,P,⟨⟩,aT,s9,ay,R,aA,m⟩;unfold Jq;have aM:=xf.since s9;by_cases hj:j<fs.length
  ·refine gy ?_;have hF:=gN hj;have aN:fs.take (j+1)=fs.take j++[fs[j]]:=M4 hj;have aU:=(g.st i fs hS).2 fs[j] (zI hj);generalize fs[j]=x at*;obtain⟨ly,oy,xa,xb,_,y1,y2,ya,yb⟩:=aM.lV hF;refine eh y1 (eh y2 ?_);refine gQ m rfl rfl (by simp only[Pj,eQ,ya.one,yb.one];rfl) λW c z=>?_;generalize h9.next=le at*;have e:∀{h:Hp} {cs:List Pc},ev D h cs->ev D (h.new (.cells 3 1 true false [])) (eJ h.next 3 []::cs)/\Sn D h D (h.new (.cells 3 1 true false [])):=λH=>H.yP 3 [];rw[C8,gO];obtain⟨X,am⟩:=e c;generalize W.new (.cells 3 1 true false [])=aB at*;refine oF (X.ld 1 rfl rfl) ?_;rw[gO];obtain⟨r,an⟩:=e X;generalize aB.new (.cells 3 1 true false [])=aO at*;generalize W.next=ra at*;generalize aB.next=rb at*;refine oF (r.ld 2 rfl rfl) ?_;refine⟨⟨r.get 0 rfl,bq⟩,r.ld 2 rfl rfl,⟨r.get 1 rfl,bq⟩,?_⟩;have ya:=((ya.since z).since am).since an;have yb:=((yb.since z).since am).since an;have r:=r.empty 1 rfl;simp only[oU,pJ]at r;obtain⟨a,hA,eA,nA,q,sA⟩:=r.OV 1 rfl (jL:=8) ya (by decide) (by decide) (by simp;omega);have ah:fi 3 1 8 (.slice ra 0 0) xa aO=some (.val a hA):=eA;rw[ah,en];simp only[oU,pJ,UA]at q;refine⟨nA,eh (gf _ _ _) ⟨q.ld 2 rfl rfl,⟨q.get 0 rfl,bq⟩,?_⟩⟩;have q:=q.empty 0 rfl;simp only[oU,pJ]at q;obtain⟨vc,hC,eC,nC,L,sC⟩:=q.OV 0 rfl (jL:=8) (yb.since sA) (by decide) (by decide) (by simp;omega);have ai:fi 3 1 8 (.slice rb 0 0) xb hA=some (.val vc hC):=eC;rw[ai,en];simp only[oU,pJ,UA]at L;have d:=L.one 1 rfl;have ao:=L.one 0 rfl;obtain⟨hE,eE,nE,HE,sE⟩:=L.st 2 (o:=2) (u:=a) rfl (by simp[Pj]) d;have ak:gq 1 (.ptr le (0+2)) a hC=some (.val .undef hE):=by rw[C7];exact eE
   refine⟨nC,?_⟩;rw[ak,en];simp only[oU,pJ]at HE;obtain⟨hG,eG,nG,HG,sG⟩:=HE.st 2 (o:=3) (u:=vc) rfl (by simp[Pj]) ao;have al:gq 1 (.ptr le (0+3)) vc hE=some (.val .undef hG):=by rw[C7];exact eG
   refine⟨nE,eh (gf _ _ _) ?_⟩;rw[al,en];simp only[oU,pJ]at HG;have HG:ev D hG (fg eN eR x.stack vc::fg eN eR x.locals a::eJ le 49 (Pj x a vc)::fU eR A::fg Q0 No ys P::eJ ld 52 [P]::_):=HG;refine⟨nG,oF (HG.ld 5 rfl rfl) (eh (HG.mY 2 rfl rfl) ?_)⟩;rw[nM (sz:=4) (w:=Pj x a vc) rfl rfl (by simp only[Pj,eQ,d,ao];rfl),fu];obtain⟨ad,hL,eL,_,HL,sL⟩:=HG.rZ 4 rfl (jL:=64) (GA:=49) (y:=(x,a,vc)) (w:=Pj x a vc) (ro:=false) ⟨rfl,d,ao⟩ (by decide) (by decide) (by omega);have N:fi 49 4 64 P (.slice hG.next 0 1) (hG.new (.cells 49 4 true false (Pj x a vc)))=some (.val ad hL):=eL;rw[N,en];simp only[oU,pJ]at HL;obtain⟨hM,eM,_,HM,sM⟩:=HL.st 5 (o:=0) (u:=ad) rfl (by simp) (HL.one 4 rfl);refine eh (gf _ _ _) ?_;have O:gq 1 (.ptr ld (0+0)) ad hL=some (.val .undef hM):=eM;rw[O,en];simp only[oU,pJ]at HM;have HN:=HM.zb8 (i:=(i,j,false)) (j:=(i,j,true)) (R.out j false (by omega)) (R.out j true (by omega)) (by simp);refine fF ⟨k'-1,by omega,j+1,ys++[(x,a,vc)],up (up A (i,j,false) (some (x.locals,a))) (i,j,true) (some (x.stack,vc)),ad,rfl,by omega,((((((s9.trans z).trans am).trans an).trans sA).trans sC).trans (sE.trans sG)).trans (sL.trans sM),by simp[ay],?_,?_,HN⟩
   ·rw[aN];have:=R.snoc x a vc
    rwa [ay]at this
   ·intro s k b hs;rw[iX _ _ (by simp[hs]),iX _ _ (by simp[hs])];exact aA s k b hs
  refine hY ?_;obtain rfl:j=fs.length:=by omega
  rw[I2]at R;obtain⟨c,z,rf⟩:=m.jc 1 rfl;simp only[oU,pJ]at c;generalize (λl=>D l\/Loc P l)=F7 at*;have c:=c.KW;refine oF (c.ld 7 rfl rfl) (eh (c.mY 1 rfl rfl) ?_);rw[nM (sz:=1) (w:=[P]) rfl rfl (by simp only[eQ,rf.one];rfl),fu];obtain⟨ae,hL,eL,_,HL,sL⟩:=c.rZ 2 rfl (jL:=24) (GA:=52) (y:=ys) (w:=[P]) (ro:=false) ⟨P,rfl,rf⟩ (by decide) (by decide) (by omega);have N:fi 52 1 24 ws (.slice h9.next 0 1) (h9.new (.cells 52 1 true false [P]))=some (.val ae hL):=eL;rw[N,en];simp only[oU,pJ]at HL;obtain⟨hM,eM,_,HM,sM⟩:=HL.st 7 (o:=4) (u:=ae) rfl (by simp) (HL.one 2 rfl);refine eh (gf _ _ _) ?_;have O:gq 1 (.ptr l3 (0+4)) ae hL=some (.val .undef hM):=by rw[C7];exact eM
  rw[O,en];simp only[oU,pJ]at HM;refine fF ⟨k-1,by omega,F7,i+1,ss++[ys],A,ae,rfl,by omega,((((I.trans s7).trans s8).trans s9).trans z).trans (sL.trans sM),by simp[oS],?_,HM.KW⟩;rw[M];have ag:=R;rw[<-oS]at ag;exact ac.snoc ag λs k b hs=>aA s k b (by omega)
 refine hY ?_;obtain rfl:i=u.eo.length:=by omega
 rw[I2]at ac;refine eh (G.mY 6 rfl rfl) ?_;obtain⟨C,e7,_,J,s7⟩:=G.Qy 7 (ws:=[.I u.func,.I u.pc,wv,wb,ws]) (n:=5) rfl rfl rfl (by simp only[eQ,G.one 5 rfl,G.one 3 rfl,G.one 1 rfl];rfl);rw[e7,en];simp only[oU,pJ]at J;refine eh (J.mY 7 rfl rfl) ?_;exact H D C wv wb ws xs bs ss fa fn fl (((ap.trans s4).trans s5).trans (I.trans s7)) hc Z ac J.zfZ
end
open Un Dm
section
variable{F F':Nat->Prop}{h h':Hp}{cs ds:List Pc}{Q:fq}{u:U}{vv vb vs:V}
def OR(cs:List Pc)(l:Nat):Prop:=∃(i:Nat)(c:Pc),cs[i]? =some c/\c.my l
theorem ev.zeN(H:ev F h cs):ev (λl=>F l\/OR cs l) h []:=
 ev.nil λl a=>a.elim (H.fl l) λ⟨i,c,hc,b⟩=>(c.Nn (H.ok i c hc) l b).1
theorem ev.back(H:ev F h cs){G:Nat->Prop}(s:Sn (λl=>F l\/OR cs l) h G h'):ev F h' cs where
 fl l a:=Ep (H.fl l a) s.next
 ok i c hc:=c.fk (H.ok i c hc) (λl a=>s.fk l (.inl a)) (λl a=>s.fk l (.inr ⟨i,c,hc,a⟩)) s.next
 Et:=H.Et
theorem Sn.back{G:Nat->Prop}(s:Sn (λl=>F l\/OR cs l) h G h'):Sn F h F h':=⟨s.next,λl a=>s.fk l (.inl a),λ_ h=>h⟩
theorem ev.zcW(H:ev F h cs){ty:Nat}{xs:List Nat}{v:V}(s:Sn (λl=>F l\/OR cs l) h (λl=>F l\/OR cs l) h') (k:ev (λl=>F l\/OR cs l) h' [fg eN ty xs v]):ev F h' (fg eN ty xs v::cs):=by
 have j:=k.ok 0 _ rfl;refine(H.back s).cons ?_ λi c hc l m d=>(j.vV m).2.2 (.inr ⟨i,c,hc,d⟩);rcases j with⟨f,g⟩|⟨t,ws,f,g,w,n,y,o⟩
 ·exact .inl ⟨f,g⟩
 ·exact .inr ⟨t,ws,f,g,by simp_all,n,by
   have p:∀ws xs,qX eN (λl=>F l\/OR cs l) h' ws xs->qX eN F h' ws xs:=λws xs=>by
    induction xs generalizing ws with
    |nil=>exact id
    |cons x xs q=>rintro⟨a,b,e,r,u⟩;exact⟨a,b,e,r,q b u⟩
   simp_all,o⟩
theorem QS{E:qf α} :∀ws xs ys,ys.length=xs.length->(∀(k:Nat) x y cs,xs[k]? =some x->ys[k]? =some y->E.rel F h x cs->E'.rel F' h y cs)->qX E F h ws xs->qX E' F' h ws ys
 |_,[],[],_,_,h=>h
 |ws,x::xs,y::ys,hl,hr,⟨a,b,e,r,hw⟩=>⟨a,b,e,hr 0 x y a rfl rfl r,QS b xs ys (by simp_all) (λk x y cs hx c=>hr (k+1) x y cs (by simp_all) (by simp_all)) hw⟩
theorem ev.Wb{E:qf α} (H:ev F h cs)(i:Nat){ty:Nat}{xs:List α}{ys:List β}{v:V}(hi:cs[i]? =some (fg E ty xs v))(d:E'.sz=E.sz)(a:ys.length=xs.length)(e:∀(k:Nat) x y cs,xs[k]? =some x->ys[k]? =some y->E.rel F h x cs->E'.rel F h y cs):ev F h (cs.set i (fg E' ty ys v)):=by
 refine H.swap hi ?_ λ_ h=>h;rcases H.row i hi with⟨b,c⟩|⟨t,ws,b,c,f,g,j,l⟩
 ·subst c;exact .inl ⟨b,wA9 a⟩
 ·exact .inr ⟨t,ws,by rw[a];exact b,c,f,by rw[d];exact g,QS ws xs ys a e j,l⟩
theorem il.Wb{α:Type}{E:qf α} {xs:List α}{ys:List β}{v:V}(hs:il E F h xs v)(f:E'.sz=E.sz)(c:∀l,F l->F' l)(d:ys.length=xs.length)(g:∀(k:Nat) x y cs,xs[k]? =some x->ys[k]? =some y->E.rel F h x cs->E'.rel F' h y cs):il E' F' h ys v:=by
 rcases hs with⟨b,a⟩|⟨l,o,ty,live,ro,ws,b,a,i,j,e,m⟩
 ·subst a;exact .inl ⟨b,wA9 d⟩
 ·exact .inr ⟨l,o,ty,live,ro,ws,by simp_all,c l a,by simp_all,by grind,e,by grind[QS]⟩
theorem zei{xs:List Nat}{v:V}(hs:il eN F h xs v)(f:xs.length<1000000)(x:Nat)(H:Q (.bool (xs.contains x)) h) :
  cP CS ni [v,.I x] h Q:=by
 refine BX ?_;refine Fy ?_;refine eh hs.len ?_;refine BQ (λk l h'=>∃i,l=[v,.I x,.I xs.length,.I (i:Nat)]/\h' = h/\i+k=xs.length/\∀j y,j<i->xs[j]? =some y->y≠x) ?_ (k:=xs.length) (by grind);rintro k _ _ _ _ h' ⟨i,⟨⟩,rfl,hk,a⟩;unfold tn;by_cases hi:i<xs.length
 ·refine gy ?_;have hx:=gN hi;generalize xs[i]=y at*
  let⟨l,o,_,b,c⟩:=hs.nat hx .i64
  refine eh b (eh c (fX ?_));by_cases e:x=y
  ·refine fW (by rw[e]) (eh (nW ..) ?_);rw[JO (by omega)]
   grind
  ·refine fP (by omega) (fF ⟨k-1,by omega,i+1,rfl,rfl,by omega,λj z d g=>?_⟩)
   grind
 ·refine hY (eh (nW ..) ?_);rw[Li (by omega)];have:xs.contains x=false:=by
   rw[wBg];intro h
   let⟨j,d⟩:=mn.1 (wBZ.1 h)
   exact by grind
  simp_all
def jy(az:List Int):Nat->Int:=λv=>az.getD v (-1)
theorem He{az:List Int}{v:Nat}{a:Int}(h:az[v]? =some a):jy az v=a:=by
 grind[jy]
theorem zbc{lt:Nat}{jC:V}{az:List Int}{G:Nat->Prop}(d:fe (.ptr lt 5) h=some jC)(hs:il eZ G h az jC)(K:az.length<=3000)(f:∀(v:Nat) a,az[v]? =some a->a<az.length){v:Nat}(hv:v<az.length)
  (H:yr (jy az) (az.length+1) v<az.length->Q (.I (yr (jy az) (az.length+1) v:Nat)) h):cP CS jN [.ptr lt 0,.I v] h Q:=by
 refine JR ?_;refine Gi (λk l h'=>∃n w,l=[.ptr lt 0,.I (w:Nat),.I (n:Nat)]/\h' = h/\n+k=az.length+1/\w<az.length/\yr (jy az) k w=yr (jy az) (az.length+1) v) ?_ (k:=az.length+1) (by grind);rintro k _ _ _ h' ⟨n,w,⟨⟩,rfl,hk,C,D⟩;unfold yh;have hx:=gN C;have I:=He hx;have J:=f w _ hx;generalize az[w]=a at*
 let⟨l,o,_,E,F⟩:=hs.int hx .i64
 have d:=d;refine eh (fS _ _) (eh (by rfl) (eh d (eh E (eh F (eh (nW ..) ?_)))));rw[show jI (V.bool (decide (0<=a))) (oB (some (V.ptr lt 0)) λg=>oB (gP g) λi=>oB (fI 5 i) λj=>oB (fe j h') λp=>oB (some (V.I w)) λq=>oB (gB 1 p q) λr=>oB (fe r h') λs=>oB (some (V.I w)) λt=>ez .neq 3 s t)=some (.bool (decide (0<=a)&&(a != (w:Int)))) from by
  simp_all]
 rw [iQ];rw[show jI (V.bool (decide (0<=a)&&(a != (w:Int)))) (oB (some (V.I n)) λu=>oB (some (V.ptr lt 0)) λx=>oB (gP x) λy=>oB (fI 5 y) λz=>oB (fe z h') λA=>oB (fE A) λB=>ez .leq 3 u B)=some (.bool ((decide (0<=a)&&(a != (w:Int)))&&decide ((n:Int)<=az.length))) from by
  simp[ fS,d,hs.len]]
 rw[iQ]
 cases k with
 | zero=>
   refine iB (fP (by grind) ?_)
   grind[yr,jy]
 | succ k=>
   rw[JO (show(n:Int)<=az.length by omega),Bool.and_true];have e:yr (jy az) (k+1) w=if 0<=jy az w/\jy az w≠(w:Int) then yr (jy az) k (jy az w).toNat else w:=rfl
   rw[I]at e;by_cases c:0<=a/\a≠(w:Int)
   ·refine iB (fW (by simp_all) ?_)
    refine eh (fS _ _) (eh (by rfl) (eh d (eh E (eh F (ka (m:=1) (by omega) (by omega) ?_)))));rw[if_pos c]at e;obtain⟨b,rfl⟩:=wBF c.1;exact⟨k,by omega,n+1,b,rfl,rfl,by omega,by omega,by simp_all⟩
   ·refine iB (fP (λh=>c ?_) ?_)
    ·rw[vU,zX,wB2]at h
     exact h
    ·rw[if_neg c]at e
     rw[e]at D;rw[<-D]at H;exact H C
theorem Nj(f:gj (uC u vv vb vs)=true)(hv:fE vv=some (.I u.ej.length))(y:u.ej.length<=3000)(g:ev F h cs)(H:∀h' v,Sn F h F h'->ev F h' (fg eZ eR ((List.range u.ej.length).map λ(i:Nat)=>(i:Int)) v::cs)->Q v h') :
  cP CS yH [.agg (uC u vv vb vs)] h Q:=by
 refine VT ?_;refine j4 g f λm b n=>?_;refine eh (by rfl) (eh (b.ld 0 rfl rfl) (eh hv ?_));rw[jE rfl (by decide) (by omega),fu];obtain⟨p,q⟩:=b.make (E:=eZ) u.ej.length rfl rfl;generalize m.next=lr at*;refine eh (by rfl) ?_;refine Px (λk l h'=>∃(i:Nat) (ys:List Int),l=[.slice lr 0 u.ej.length,.I u.ej.length,.I i]/\i+k=u.ej.length/\ys.length=u.ej.length/\(∀j,j<i->ys[j]? =some (j:Int))/\Sn F h F h'/\ev F h' (fg eZ eR ys (.slice lr 0 u.ej.length)::eJ h.next 30 (uC u vv vb vs)::cs)) ?_ (k:=u.ej.length) ⟨0,_,rfl,by omega,Wt,by omega,n.trans q,p⟩;rintro k _ _ _ r ⟨i,ys,⟨⟩,hk,s,z,c,d⟩;unfold Jc;by_cases hi:i<u.ej.length
 ·refine gy ?_;obtain⟨l,o,A,t,w,_,x,s4⟩:=d.IH 0 rfl (k:=i) (by omega) rfl rfl rfl;refine eh t ?_;rw[w,en];refine fF ⟨k-1,by omega,i+1,ys.set i (i:Int),rfl,by omega,by simp[s],λj a=>?_,c.trans s4,x⟩
  grind
 ·refine hY ?_;have e:ys=(List.range u.ej.length).map λ(i:Nat)=>(i:Int):=by
   refine wBL λj=>?_;by_cases a:j<u.ej.length
   ·grind
   ·simp_all
  rw[<-e]at H;exact H r _ c d.KW
end
