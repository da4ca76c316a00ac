/- Parts. -/
import Derived.Test.YtpnddokajmjpbaaDoorM40
import Derived.Test.YtpnddokajmjpbaaDoorM39
namespace Go.Proofs.YtpnddokajmjpbaaDoor.Hx
open Go.Proofs.YtpnddokajmjpbaaDoor.Un Go.Proofs.YtpnddokajmjpbaaDoor.Dm
section
variable{F F':Nat->Prop}{h h':Hp}{cs:List Pc}{Q:fx}{u:U}{vv vb vs wv wb ws:V}{xs:List (Vl×V)}{bs:List (Bk×V)}{ss:List (List (Fm×V×V))}{fa fn:Nat->Option (List Nat×V)}{fl:KF->Option (List Nat×V)}
theorem ei.TD (hc:TK u.ee xs fa)(hb:Tq u.blocks bs fn)(hs:XD u.eh ss fl)(H:ei F h (eQ vW gy xs wv::eQ tO fE bs wb::eQ (eL Ny) kQ ss ws::fJ en fa::fJ en fn::fJ en fl::cs)) :
  ∃G,ei G h cs/\Sn F h G h/\zf G h u wv wb ws:=by
 obtain⟨G,m,g,d⟩:=H.OZ 6;have c:∀l,F l->G l:=λl n=>g.mono l n;refine⟨G,m,g,⟨?_,?_,?_⟩⟩
 ·refine ik.ofRow H 0 rfl c (d 0 _ (by decide) rfl) rfl (by rw[<-hc.fst];simp) λk x y ws hx b e=>?_;obtain⟨x,w⟩:=x;rw[<-hc.fst,wq,hx]at b;cases b;obtain⟨rfl,_⟩:=e;exact⟨w,rfl,II H 3 rfl c (d 3 _ (by decide) rfl) (hc.row k x w hx)⟩
 ·refine ik.ofRow H 1 rfl c (d 1 _ (by decide) rfl) rfl (by rw[<-hb.fst];simp) λk x y ws hx b e=>?_;obtain⟨x,w⟩:=x;rw[<-hb.fst,wq,hx]at b;cases b;obtain⟨o,p,rfl,q,ip,_⟩:=e;exact⟨o,w,p,rfl,q.mono c,II H 4 rfl c (d 4 _ (by decide) rfl) (hb.row k x w hx),ip.mono c⟩
 ·refine ik.ofRow H 2 rfl c (d 2 _ (by decide) rfl) rfl (by rw[<-hs.fst];simp) λk x y ws hx b e=>?_;rw[<-hs.fst,wq,hx]at b;cases b;obtain⟨f,rfl,r⟩:=e;refine⟨f,rfl,r.Xe rfl c (by simp) λj z y cs i b e=>?_⟩;rw[wq,i]at b;cases b;obtain⟨z,a,w⟩:=z;obtain⟨rfl,_,_⟩:=e;obtain⟨r1,r2⟩:=hs.loc k x j z a w hx i;exact⟨a,w,rfl,II H 5 rfl c (d 5 _ (by decide) rfl) r1,II H 5 rfl c (d 5 _ (by decide) rfl) r2⟩
theorem ei.Vb {α:Type}{E:nQ α}{L3 ty:Nat}{AJ:List (List α)}{v:V}{ds:List V}(H:ei F h cs)(i:Nat)(hi:cs[i]? =some (zO E L3 ty AJ v ds)){b:Nat}(hb:b<AJ.length){jr zF:Nat}{y:α}{w:List V}{ro:Bool}(g:E.rel F h y w)(z:0<E.sz)(m:jr<=1000)(hlen:AJ[b].length<1000000)
  {d r:V} {s:Hp} (u:ds[b]? =some d) (A:eR ty E.sz jr d (.slice h.next 0 1) (h.new (.cells zF E.sz true ro w))=some (.val r s)) {j:Nat} {c:Pc} (B:j≠i) (hc:cs[j]? =some c):c.ok F s:=by
 obtain⟨t,rfl,_,_,_,I,C,_,_⟩:=H.ok i _ hi;have hO:=C b _ d (gQ hb) u;have n:=mA.2 ⟨b,u⟩;have o:jI E ty F (h.new (.cells zF E.sz true ro w)) AJ[b] d:=hO.fc (λl a=>fk _ (H.fl l a)) (λl a=>fk _ (hO.sP a).2.1) (Nv _);have hx:jM (h.new (.cells zF E.sz true ro w)) E.sz (.slice h.next 0 1)=some (1,w):=lP (k:=0) (by rw[E.len g];simp);have D:(AJ[b].length+1)*jr<=1000000*1000:=Nat.mul_le_mul (by omega) m;obtain⟨r,G,x,_,p,_⟩:=o.append (jr:=jr) (ys:=[y]) hx ⟨w,[],by simp,E.fc (λl a=>fk _ (H.fl l a)) g,trivial⟩ (by rw[E.len g];simp) (E.one g) (by simp) z (λl a=>YZ (H.fl l a)) (by simp;omega) (by simp;omega);rw[A]at x;cases x;have J:(h.new (.cells zF E.sz true ro w)).next=h.next+1:=rfl;have f:=H.ok j c hc;refine c.fc f (λl a=>?_) (λl a=>?_) (by have:=p.next;omega)
 ·rw[p.fc l (by have:=H.fl l a;omega) λe=>(hO.sP e).2.2 a,fk _ (H.fl l a)]
 ·have q:=(c.IP f l a).1;rw[p.fc l (by omega) λe=>H.Bs j i c _ hc hi B l a (.inr ⟨d,n,e⟩),fk _ q]
def BX (u:U)(I:Nat->Nat)(i b:Nat):List Nat:=(List.range i).filter λt=>t != 0&&I t == b
theorem LX (u:U)(I:Nat->Nat)(i b:Nat):BX u I (i+1) b=if i≠0/\I i=b then BX u I i b++[i] else BX u I i b:=by
 unfold BX;rw[UD,Ws];by_cases c:i≠0/\I i=b
 ·rw[if_pos c,T7,if_pos (by rw[tN,Pk,CN];exact c)];rfl
 ·rw[if_neg c,T7,if_neg (by rw[tN,Pk,CN];exact c)];simp
theorem V0 (u:U)(I:Nat->Nat)(i b:Nat):(BX u I i b).length<=i:=by
 unfold BX;exact Ez (XP ..) (by simp)
theorem Zp {l ty:Nat}{a b c d e f g k:V}(H:ei F h cs)(i:Nat)(hi:cs[i]? =some (eo l ty [a,b,c,d,e,f,g,k])):gg 5 (.ptr l 0) h=some (.agg [a,b,c,d,e]):=by
 rw[yW (H.get i hi)];rfl
theorem RU (g:Good u)(ha:QA u)(H0:ei F h cs)(L:zf F h u vv vb vs)
  (H:∀F' h' az wv wb ws,Sn F h F' h'->ei F' h' cs->Mg u (jQ az)->az.length=u.ee.length->zf F' h' (iR u (jQ az)) wv wb ws->Q (.agg (uC (iR u (jQ az)) wv wb ws)) h') :
  cP CS sh [.agg (uC u vv vb vs)] h Q:=by
 refine IQ rfl rfl ?_;unfold Cm;have nv:=g.nv;have nb:=g.nb;have pn:∀{l o:Nat},iq (.ptr l o)=some (.ptr l o):=fT _ _;have pf:∀{l o k:Nat},fH k (.ptr l o)=some (.ptr l (o+k)):=ez _ _ _;have bq:∀{e sz:Nat} {a b:Bool} {cs:List V},O.beq (.cells e sz a b cs) (.cells e sz a b cs)=true:=O.gL _ _ _ _ _;refine mf H0 L.one λh1 H1 s1=>yV H1 λh2 H2 s2=>?_;generalize h.next=l1 at*;generalize h1.next=l2 at*;refine ed (H2.wH 1 rfl rfl) ?_;refine TL g H2 ((L.since s1).since s2) λF3 T s3 H3=>?_;refine pj (ig rfl ?_);have U:=(s1.trans s2).trans s3;have u3:=L.since U;refine ed (H3.wH 1 rfl rfl) (ed (H3.wH 1 rfl rfl) ?_);rw[gY];have g4:=fg T (.map [] 0);obtain⟨H4,s4⟩:=H3.new (p:=zbm (λl=>l=T.next) (T.new (.map [] 0))) (.map [] 0) (λl hl=>by subst hl;exact⟨rfl,IS _,H3.fresh⟩) λ_ e=>e;generalize T.new (.map [] 0)=h4 at*;generalize T.next=lm at*;refine⟨⟨g4,O.MP 0⟩,H4.wH 2 rfl rfl,H4.wH 2 rfl rfl,?_⟩;refine Q2 (KK g ha) H4 (u3.since s4) λF5 h5 wv wb ws xs bs ss fa fn fl s5 hc hb hs H5=>⟨s5.next,⟨((H5.ok 6 _ rfl) lm rfl).1.trans g4,O.MP 0⟩,H5.wH 8 rfl rfl,?_⟩
 have W:=(U.trans s4).trans s5;have u5:=L.since W;obtain⟨G,H6,s6,w6⟩:=H5.TD hc hb hs;have ax:=W.trans s6;refine Wi L.one (u5.since s6).v.len nv H6 λh7 kU s7 H7=>⟨s7.next,?_⟩
 have ea:=H7.one 0 rfl;have hp:fN [.int .i64 0,.int .i64 0,.ec,.ec,.ec,.ec,.ec,.j9] [(0,5),(5,1),(6,1),(7,1)] [(0,V.agg (uC u wv wb ws)),(1,kU),(3,.map lm)]=some (V.agg [.int .i64 u.func,.int .i64 u.pc,wv,wb,ws,kU,.ec,.map lm]):=by
  rcases H7.row 0 rfl with⟨rfl,_⟩|⟨t,aN,rfl,_⟩ <;> rfl
 refine ed hp ?_;have w7:=w6.since s7;refine Xh H7 (by simp only[eJ,w7.v.one,w7.b.one,w7.s.one,ea];rfl) λM s8=>?_;have g8:=((M.ok 2 _ rfl) lm rfl).1.trans g4;have X:=(M.ok 2 _ rfl) lm rfl;refine⟨⟨fg _ _,bq⟩,⟨g8,O.MP 0⟩,?_⟩;have M:=M.swap (i:=2) (p:=JS lm λ_=>none) rfl ⟨⟨[],0,g8,wCM,λk w=>⟨λh=>(nomatch h),λ⟨_,h⟩=>(nomatch h)⟩⟩,X.2⟩ λ_ e=>e;simp only[iO,kZ]at M;clear g8 X;generalize h7.new (.cells 97 1 true false [.int .i64 u.func,.int .i64 u.pc,wv,wb,ws,kU,.ec,.map lm])=Y at*;generalize h7.next=ln at*;have Z:=(ax.trans s7).trans s8;have u8:=L.since Z;refine oF (M.ld 4 rfl rfl) (ed u8.b.len ?_);rw[jk (z:=V.ec) rfl (by decide) (by omega),fq];obtain⟨H9,s9⟩:=M.ML (E:=eN) (L3:=hZ) (ty:=en) u.blocks.length;have H9:ei G (Y.new (.cells 23 1 true false (List.replicate u.blocks.length .ec))) _:=H9;have s9:Sn G Y G (Y.new (.cells 23 1 true false (List.replicate u.blocks.length .ec))):=s9;generalize Y.new (.cells 23 1 true false (List.replicate u.blocks.length .ec))=h9 at*;generalize Y.next=N at*;obtain⟨aO,ay,_,P,aa⟩:=H9.st 1 (o:=0+6) (u:= .slice N 0 u.blocks.length) rfl (by simp) rfl;refine ed pn (ed pf ?_);rw[ay,ef];simp only[iO,kZ]at P;have K:=(Z.trans s9).trans aa;refine ed (P.wH 5 rfl rfl) ?_;refine E9 g P (L.since K) λc aA dv A3 I seen post Gg ab ac rd ae ag aB hT hA=>?_;have ah:=K.trans ab;refine ed rd.len ?_;have aC:List.replicate u.blocks.length ([]:List Nat)=(List.range u.blocks.length).map (BX u I 0):=by
  refine ZV (by simp) λi h1 h2=>?_;simp[BX]
 rw[aC]at ac
 obtain ⟨J,hJ⟩:∃J:Nat->LP,J=λk l h'=>∃(i:Nat) (dl:List V),l=[.ptr l2 0,.ptr ln 0,dv,.int .i64 A3.length,.int .i64 i]/\i+k=u.blocks.length/\Sn c aA c h'/\
   ei c h' (zO eN hZ en ((List.range u.blocks.length).map (BX u I i)) (.slice N 0 u.blocks.length) dl::eo ln 97 [.int .i64 u.func,.int .i64 u.pc,wv,wb,ws,kU,.slice N 0 u.blocks.length,.map lm]::eQ eZ en ((List.range u.ee.length).map λ(i:Nat)=>(i:Int)) kU::JS lm (λ_=>none)::eo l2 gj [.int .i64 0,.int .i64 0,.ec,.ec,.ec]::eo l1 gj (uC u vv vb vs)::cs):=⟨_,rfl⟩
 refine Fw J (λk x2 x3 aP aQ aR r hi=>?_) (k:=u.blocks.length) ?_;rotate_left
 ·rw[hJ];exact⟨0,_,rfl,by omega,Sn.refl _ _,ac⟩
 rw[hJ]at hi;obtain⟨i,dl,⟨⟩,hk,x,m⟩:=hi;unfold yU;rw[ae];have ai:zf c r u wv wb ws:=((((w7.since s8).since s9).since aa).since ab).since x;by_cases hi:i<u.blocks.length;rotate_left
 ·refine iC ?_;obtain rfl:i=u.blocks.length:=by omega
  obtain⟨aS,A,B,r13⟩:=m.MZ 0 rfl;have A:=A.tail;refine XB g A (ai.since B) rfl r13 (λb hb=>?_) hT hA λaT aD az D q al sub hN=>?_
  ·rw[wq,XT hb];rfl
  have aE:=(ai.since B).since D;refine ed pn (ed (ez _ _ _) (ed (Zp q 0 rfl) (oN (q.ld 0 rfl rfl) ?_)));refine WW g ha al sub (q.perm [1,0,2,3] 4 (by decide) (by decide) (by simp)) aE λaj aF ak am an ao R ap=>⟨ao.next,?_⟩
  have R:ei aj aF (eo ln 97 _::eo l2 gj _::eo l1 gj _::cs):=R;obtain⟨aG,aH,aI,S,aq⟩:=R.VI 1 (ws:=uC (iR u (jQ az)) ak am an) (n:=5) rfl rfl rfl ap.one;rw[aH,ef];refine⟨aI,?_⟩;simp only[iO,kZ]at S;refine ed (S.wH 1 rfl rfl) ?_;exact H aj aG az ak am an (((((ah.trans x).trans B).trans D).trans ao).trans aq) S.tail.tail.tail hN al (ap.since aq)
 refine gw ?_
 have ar:∀{f dl},Sn c r c f->ei c f (zO eN hZ en ((List.range u.blocks.length).map (BX u I (i+1))) (.slice N 0 u.blocks.length) dl::eo ln 97 [.int .i64 u.func,.int .i64 u.pc,wv,wb,ws,kU,.slice N 0 u.blocks.length,.map lm]::eQ eZ en ((List.range u.ee.length).map λ(i:Nat)=>(i:Int)) kU::JS lm (λ_=>none)::eo l2 gj [.int .i64 0,.int .i64 0,.ec,.ec,.ec]::eo l1 gj (uC u vv vb vs)::cs)->
   mU CS Q (Cs J k) [.ptr l2 0,.ptr ln 0,dv,.int .i64 u.blocks.length,.int .i64 i] f:=λ{f dl} B A=>by
  refine Eu ?_;unfold xD;refine fM ⟨k-1,by omega,?_⟩;rw[hJ,ae];exact⟨i+1,dl,rfl,by omega,x.trans B,A⟩
 by_cases h0:i=0
 ·subst h0;obtain⟨l6,o6,_,q1,q2⟩:=(rd.since x).int ag .i64;refine ed q1 (ed q2 (Ve (gG (by omega) (ar (dl:=dl) (Sn.refl _ _) ?_))));have e:(List.range u.blocks.length).map (BX u I (0+1))=(List.range u.blocks.length).map (BX u I 0):=VS λb _=>by rw[LX,if_neg λh=>h.1 rfl]
  rw[e];exact m
 obtain⟨l6,o6,_,q1,q2⟩:=(rd.since x).int (aB i h0 hi) .i64;have aJ:=(hT.up i hi h0).1;refine ed q1 (ed q2 (Ve (ig (by omega) ?_)));have C:I i<((List.range u.blocks.length).map (BX u I i)).length:=by simpa using aJ
 have aK:((List.range u.blocks.length).map (BX u I i))[I i]'C=BX u I i (I i):=by simp
 have hlen:(((List.range u.blocks.length).map (BX u I i))[I i]'C).length<1000000:=by
  rw[aK];have:=V0 u I i (I i);omega
 obtain ⟨l,d,d',f,aD,hd,hl,e1,e2,e3,e4,e5,e6,q,D⟩:=m.Nl 0 rfl C (jr:=8) (zF:=3) (y:=i) (w:=[.int .i64 i]) (ro:=false) rfl (by decide) (by decide) hlen;have aL:=m.Vb 0 rfl C (jr:=8) (zF:=3) (y:=i) (w:=[.int .i64 i]) (ro:=false) rfl (by decide) (by decide) hlen hd e3 (j:=1) (by decide) rfl;have aM:eR 3 1 8 d (.slice r.next 0 1) (r.new (.cells 3 1 true false (gN [i])))=some (.val d' f):=e3;have cn:ev (.ptr ln (0+6)) r=some (.slice N 0 u.blocks.length):=m.ld 1 rfl rfl;have au:ev (.ptr ln (0+6)) f=some (.slice N 0 u.blocks.length):=jR aL.1 rfl;have aw:=(m.ok 1 _ rfl).2.1;refine oN cn (oN cn (ed e1 (ed e2 ?_)));rw[oI,gY];refine⟨⟨fg _ _,bq⟩,jj e2 (fk _ hl),jj cn (fk _ aw),jj cn (fk _ aw),?_⟩;rw[aM,ef];refine⟨e4,ed e1 ⟨au,?_⟩⟩;rw[e5,ef];refine⟨e6,ar (dl:=dl.set (I i) d') D ?_⟩;simp only[iO]at q;have e:((List.range u.blocks.length).map (BX u I i)).set (I i) (((List.range u.blocks.length).map (BX u I i))[I i]'C++[i])=(List.range u.blocks.length).map (BX u I (i+1)):=by
  refine ZV (by simp) λb h1 h2=>?_;rw[List.getElem_set];simp only[List.getElem_map,List.getElem_range];rw[LX];by_cases eb:I i=b
  ·subst eb;simp[h0]
  ·rw[if_neg eb,if_neg λh=>eb h.2]
 rw[<-e];exact q
end
open Go.Proofs.YtpnddokajmjpbaaDoor.Un Go.Proofs.YtpnddokajmjpbaaDoor.Dm
theorem QE (l:List V):fV l=l.all V.one:=by
 induction l with
 |nil=>rfl
 |cons a l b=>rw[eJ,b];rfl
theorem Qu {l ws:List V}(h:fV l=true)(a:fV ws=true)(n m:Nat):fV (l.take n++ws++l.drop m)=true:=by
 rw[QE,KQ]at*;intro x hx;rcases xX.1 hx with hx|hx
 ·rcases xX.1 hx with hx|hx
  ·exact h x (ZX hx)
  ·exact a x hx
 ·exact h x (List.mem_of_mem_drop hx)
section
variable{F F':Nat->Prop}{h h':Hp}{cs:List Pc}{Q:fx}{u:U}{vv vb vs:V}
theorem ei.stE {α:Type}{E:nQ α}{ty:Nat}{xs:List α}{v:V}(H:ei F h cs)(i:Nat)(hi:cs[i]? =some (eQ E ty xs v)){k:Nat}(a:k<xs.length){y:α}{ws:List V}(b:E.rel F h y ws) :
  ∃l o h',gD E.sz v (.int .i64 k)=some (.ptr l o)/\gB E.sz (.ptr l o) (.agg ws) h=some (.val .undef h')/\h.next<=h'.next/\ei F h' (cs.set i (eQ E ty (xs.set k y) v))/\Sn F h F h':=by
 rcases H.row i hi with⟨_,rfl⟩|⟨t,ds,rfl,c,d,g,f,j⟩
 ·simp at a
 ·obtain ⟨w,u,m,z⟩:=f.get (i:=k) (x:=xs[k]) (gQ a);have n:=E.len b
  obtain ⟨q,r⟩:=H.Ad (p:=eQ E ty (xs.set k y) (.slice t 0 xs.length)) (h':=h.put t (.cells ty E.sz true false (ds.take (k*E.sz)++ws++ds.drop (k*E.sz+E.sz)))) hi (jZ.put _ rfl c)
   (.inr ⟨t,_,by simp,c,d,fP _ c,oU.fc (h:=h) (λl s=>gf _ c λe=>d (e▸s)) (f.set a b),Qu j (E.one b) _ _⟩) λ_ h=> .inl h
  exact⟨t,k*E.sz,_,by rw[vL _ _ _ _ _ _ a,vI],Zt g n m (E.one b),iW _,q,r⟩
structure X7 (u:U) (P:Nat->Prop) (ys:List Vl):Prop where
 len:ys.length=u.ee.length
 one:∀(v:Nat) (x:Vl),u.ee[v]? =some x->(ys[v]? =some x\/ys[v]? =some (xH v x))/\(P v->ys[v]? =some (xH v x))
theorem X7.step {P b:Nat->Prop} {ys Tx:List Vl}(t:X7 u P ys){v:Nat}{x:Vl}(hx:u.ee[v]? =some x)(c:Tx[v]? =some (xH v x))(d:∀w,w≠v->Tx[w]? =ys[w]?)(f:Tx.length=ys.length)(g:∀w,b w->P w\/w=v):X7 u b Tx:=by
 refine⟨f.trans t.len,λw y a=>?_⟩;by_cases e:w=v
 ·subst e;rw[hx]at a;cases a;exact⟨.inr c,λ_=>c⟩
 ·rw[d w e];exact⟨(t.one w y a).1,λh=>(t.one w y a).2 ((g w h).elim id λh=>absurd h e)⟩
theorem X7.all {P:Nat->Prop}{ys:List Vl}(t:X7 u P ys)(h:∀v,v<u.ee.length->P v):ys=(zW u).ee:=by
 refine Wv λv=>?_;by_cases hv:v<u.ee.length
 ·have hx:=gQ hv;rw[(t.one v _ hx).2 (h v hv),OJ hx]
 ·have e:(zW u).ee.length=u.ee.length:=List.length_mapIdx;rw[Jp (by rw[t.len];omega),Jp (by omega)]
def PT (u:U)(i j v:Nat):Prop:=∃c k,At u v c k/\(c<i\/c=i/\k<j)
theorem Xq {u:U}{v:Nat}{x y:Vl}(h:y=x\/y=xH v x):(y.op=19\/y.op=20->x.op=19\/x.op=20)/\(¬(y.op=19\/y.op=20)->y=xH v x):=by
 by_cases c:x.op=19\/x.op=20
 ·refine⟨λ_=>c,λa=>h.elim (λe=>absurd (e▸c) a) id⟩
 ·rw[Gm c]at h⊢;have e:y=x:=h.elim id id;exact⟨λh=>e▸h,λ_=>e⟩
theorem WN (g:Good u)(H0:ei F h cs)(hu:zf F h u vv vb vs)
  (H:∀F' h' wv wb,Sn F h F' h'->ei F' h' cs->zf F' h' (zW u) wv wb vs->Q (.agg (uC (zW u) wv wb vs)) h') :
  cP CS mi [.agg (uC u vv vb vs)] h Q:=by
 refine Dx rfl rfl ?_;unfold wj;have nv:=g.nv;have nb:=g.nb;have pf:∀{l o k:Nat},fH k (.ptr l o)=some (.ptr l (o+k)):=ez _ _ _;refine mf H0 hu.one λI H1 s1=>yV H1 λm H2 s2=>?_;generalize h.next=l1 at*;generalize I.next=l2 at*;rw[DA,fq];obtain⟨H3,s3⟩:=H2.SE (E:=eV) (xs:=[]) gy (ws:=[]) (n:=0) rfl trivial rfl;have H3:ei F (m.new (.cells 42 6 true false [])) (eQ eV gy [] (.slice m.next 0 0)::_):=H3;have s3:Sn F m F (m.new (.cells 42 6 true false [])):=s3;generalize m.new (.cells 42 6 true false [])=M at*;generalize m.next=lz at*;have u3:=((hu.since s1).since s2).since s3;obtain⟨xv,Z,e4,_,H4,s4⟩:=H3.J8 0 rfl (jr:=64) u3.v (by decide) (by decide) (by simp;omega);refine oF (H3.ld 2 rfl rfl) ?_;rw[show eR 42 6 64 (.slice lz 0 0) vv M=_ from e4,ef];simp only[iO,LG]at H4;have aj:=((s1.trans s2).trans s3).trans s4
 obtain ⟨J,hJ⟩:∃J:Nat->LP,J=λk l h'=>∃(F':Nat->Prop) (i:Nat) (ys:List Vl) (d:V),l=[.ptr l1 0,.ptr l2 0,xv,d,.int .i64 i]/\i+k=u.blocks.length/\Sn F h F' h'/\X7 u (PT u i 0) ys/\
   ei F' h' (eQ eV gy ys xv::eQ eK fE (u.blocks.take i) d::eo l2 gj [.int .i64 0,.int .i64 0,.ec,.ec,.ec]::eo l1 gj (uC u vv vb vs)::cs):=⟨_,rfl⟩
 refine AX J (λk x1 x2 x3 d x5 h5 hi=>?_) (k:=u.blocks.length) ?_;rotate_left
 ·rw[hJ];refine⟨F,0,u.ee,.ec,rfl,by omega,aj,⟨rfl,λv x hx=>⟨.inl hx,λ⟨c,k,_,h⟩=>by omega⟩⟩,?_⟩;have:=(H4.add (p:=eQ eK fE [] .ec) .nil λ_ h=>h).sw;exact this
 rw[hJ]at hi;obtain⟨F5,i,ys,_,⟨⟩,hk,s5,t5,N⟩:=hi;unfold sZ;have u5:=hu.since s5;refine oF (N.ld 3 rfl rfl) (ed u5.b.len ?_);by_cases hi:i<u.blocks.length;rotate_left
 ·refine iC ?_;obtain rfl:i=u.blocks.length:=by omega
  have ey:=t5.all λv hv=>by
   obtain⟨b,j,A⟩:=g.AB v hv;exact⟨b,j,A,.inl (let⟨_,K,_⟩:=A;(iB.1 K).1)⟩
  subst ey;rw[IT]at N;obtain⟨h6,e6,_,H6,s6⟩:=N.st 3 (o:=0+2) (u:=xv) rfl (by simp[uC]) (N.one 0 rfl);refine ed pf ?_;rw[e6,ef];simp only[iO,kZ]at H6;obtain⟨h7,e7,_,q,s7⟩:=H6.st 3 (o:=0+3) (u:=d) rfl (by simp[uC]) (H6.one 1 rfl);refine ed pf ?_;rw[e7,ef];simp only[iO,kZ]at q;obtain⟨z,L,r8⟩:=q.kE 0 rfl;simp only[iO]at z;obtain⟨r,O,r9⟩:=z.kE 1 rfl;simp only[iO,kZ]at r;have aa:=((s6.trans s7).trans L).trans O;have w9:zf _ h7 (zW u) xv d vs:=⟨r8.since O,r9,(u5.since aa).s⟩
  have r:ei _ h7 (emp::emp::eo l2 gj _::eo l1 gj (uC (zW u) xv d vs)::cs):=r;refine ed (r.wH 3 rfl rfl) ?_;obtain⟨ab,P,_,f,C⟩:=r.VI 2 (ws:=uC (zW u) xv d vs) (n:=5) rfl rfl rfl w9.one;rw[P,ef];simp only[iO,kZ]at f;refine ed (f.wH 2 rfl rfl) ?_;exact H _ ab xv d ((s5.trans aa).trans C) f.tail.tail.tail.tail (w9.since C)
 refine gw ?_;have K:=gQ hi;have ak:=Nw hi;generalize u.blocks[i]=B at*;obtain⟨lb,ob,bv,R,S,_,y1,y2,iv,iN,ip,_⟩:=u5.mS K;refine oF (N.ld 3 rfl rfl) (ed y1 (ed y2 ?_));refine iK N rfl rfl (by simp only[kM,eJ,iv.one,iN.one,ip.one];rfl) λh6 H6 s6=>?_;generalize h5.next=lx at*;have ar:B.ee.length<=u.ee.length:=jy _ B.ee (Eh g K) λv hv=>by
  obtain⟨k,hk⟩:=mA.1 hv;exact g.l0 v i k ⟨B,K,hk⟩
 obtain ⟨J1,T⟩:∃J1:Nat->LP,J1=λk l h'=>∃(j:Nat) (ys:List Vl) (t:V),l=[.ptr l1 0,.ptr l2 0,xv,d,.int .i64 i,.ptr lx 0,t,.int .i64 j]/\j+k=B.ee.length/\Sn F5 h6 F5 h'/\X7 u (PT u i j) ys/\
   ei F5 h' (eQ eN en (B.ee.take j) t::eo lx 44 (kM B bv R S)::eQ eV gy ys xv::eQ eK fE (u.blocks.take i) d::eo l2 gj [.int .i64 0,.int .i64 0,.ec,.ec,.ec]::eo l1 gj (uC u vv vb vs)::cs):=⟨_,rfl⟩
 refine Bm J1 (λk1 x1 x2 x3 x4 x5 x6 t x8 h7 ac=>?_) (k:=B.ee.length) ?_;rotate_left
 ·rw[T];exact⟨0,ys,.ec,rfl,by omega,Sn.refl _ _,t5,H6.add (p:=eQ eN en [] .ec) .nil λ_ h=>h⟩
 clear t5 H6 N ys;rw[T]at ac;obtain⟨j,ys,_,⟨⟩,au,s7,t7,q⟩:=ac;unfold tv;have ae:=s6.trans s7;have U:=iv.since ae;refine oF (q.ld 1 rfl rfl) (ed U.len ?_);by_cases hj:j<B.ee.length;rotate_left
 ·refine iC ?_;obtain rfl:j=B.ee.length:=by omega
  rw[IT]at q;obtain⟨z,L,r8⟩:=q.kE 0 rfl;simp only[iO]at z;obtain⟨h9,e9,_,r,O⟩:=z.st 1 (o:=0+0) (u:=t) rfl (by simp[kM]) r8.one;refine ed pf ?_;rw[e9,ef];simp only[iO,kZ]at r;refine ed (r.wH 1 rfl rfl) ?_;have W:=(ae.trans L).trans O;have o1:fV (kM B t R S)=true:=by simp only[kM,eJ,r8.one,iN.one,ip.one];rfl
  rw[show iZ 44 6 1 (.agg [.ec,.int .i64 0,.int .i64 0,.ec,.ec,.int .i64 0]) [(0,.agg ((kM B bv R S).set (0+0) t))]=_ from mq rfl rfl o1,fq];obtain⟨al,ab,P,_,f,C⟩:=r.vF 3 rfl (jr:=96) (zF:=44) (y:=B) (w:=kM B t R S) (ro:=false) ⟨t,R,S,rfl,r8.since O,iN.since W,ip.since W⟩ (by decide) (by decide) (by simp;omega);rw[show eR 44 6 96 d (.slice h9.next 0 1) (h9.new (.cells 44 6 true false ((kM B bv R S).set (0+0) t)))=_ from P,ef];refine fM ⟨k-1,by omega,?_⟩;rw[hJ];simp only[iO,kZ]at f;refine⟨_,i+1,ys,al,rfl,by omega,(s5.trans W).trans C,⟨t7.len,λv x hx=>⟨(t7.one v x hx).1,λ⟨c,k,I,m⟩=>(t7.one v x hx).2 ⟨c,k,I,?_⟩⟩⟩,?_⟩
  ·rcases Nq c i with M|M
   ·exact .inl M
   ·have:c=i:=by omega
    subst this;obtain⟨B',Z,h5⟩:=I;rw[K]at Z;cases Z;exact .inr ⟨rfl,(iB.1 h5).1⟩
  ·rw[ak];exact f.tail.tail
 refine gw ?_;have hv:=gQ hj;have ag:=Nw hj;generalize B.ee[j]=v at*;have A:At u v i j:=⟨B,K,hv⟩
 have X:=g.l0 v i j A;have hx:=gQ X;generalize u.ee[v]=x at*;obtain⟨l3,o3,_,q1,q2⟩:=U.nat hv .i64;obtain⟨y,hy⟩:∃y,ys[v]? =some y:=⟨_,gQ (by rw[t7.len];exact X)⟩
 have D:v<ys.length:=by rw[t7.len];exact X
 have am:y=x\/y=xH v x:=by
  rcases(t7.one v x hx).1 with h|h <;> rw[hy]at h <;> cases h
  ·exact .inl rfl
  ·exact .inr rfl
 obtain ⟨an,ao⟩:=Xq (u:=u) am;obtain⟨l4,o4,w4,z1,_,⟨wa,ew,_⟩,z4⟩:=q.ixO 2 rfl D .i64;have ap:ys[v]=y:=Option.some.inj ((gQ D).symm.trans hy);rw[ap]at ew;subst ew;have z0:ev (.ptr l4 (o4+0)) h7=some (.int .i64 y.op):=z4 0 _ rfl;have ah:∀w,PT u i (j+1) w->PT u i j w\/w=v:=λw ⟨c,k,I,m⟩=>by
  rcases m with m|⟨rfl,m⟩
  ·exact .inl ⟨c,k,I,.inl m⟩
  ·by_cases e:k=j
   ·subst e;obtain⟨B',M,Z⟩:=I;rw[K]at M;cases M;rw[hv]at Z;exact .inr (Option.some.inj Z).symm
   ·exact .inl ⟨c,k,I,.inr ⟨rfl,by omega⟩⟩
 have ai:∀{Y G},Sn F5 h7 F5 Y->X7 u (PT u i (j+1)) G->ei F5 Y (eQ eN en (B.ee.take j) t::eo lx 44 (kM B bv R S)::eQ eV gy G xv::eQ eK fE (u.blocks.take i) d::eo l2 gj [.int .i64 0,.int .i64 0,.ec,.ec,.ec]::eo l1 gj (uC u vv vb vs)::cs)->
   ku CS Q (Cs J k) (Cs J1 k1) [.ptr l1 0,.ptr l2 0,xv,d,.int .i64 i,.ptr lx 0,t,.int .i64 j] Y:=λ{Y G} L t8 z=>by
  refine As ?_;unfold rE;obtain⟨l5,o5,_,p1,p2⟩:=(U.since L).nat hv .i64;refine oF (z.ld 1 rfl rfl) (ed p1 (ed p2 ?_));rw[oI,fq];obtain⟨aq,h9,e9,_,r,O⟩:=z.vF 0 rfl (jr:=8) (zF:=3) (y:=v) (w:=gN [v]) (ro:=false) rfl (by decide) (by decide) (by simp;omega);rw[show eR 3 1 8 t (.slice Y.next 0 1) (Y.new (.cells 3 1 true false (gN [v])))=_ from e9,ef];refine fM ⟨k1-1,by omega,?_⟩;rw[T];simp only[iO]at r;exact⟨j+1,G,aq,rfl,by omega,(s7.trans L).trans O,t8,by rw[ag];exact r⟩
 refine oF (q.ld 1 rfl rfl) (ed q1 (ed q2 (ed z1 (oF z0 (ed (iA ..) (ed (a:= .bool (decide (y.op=19\/y.op=20))) ?_ (jH ?_)))))))
 ·simp only[fh,iA,wM];congr 2;rw[U6,K6,CN,CN,DY];omega
 by_cases c:y.op=19\/y.op=20
 ·refine ig (I9 c) (oF (q.ld 1 rfl rfl) (ed q1 (ed q2 (oF (q.ld 1 rfl rfl) (ed q1 (ed q2 ?_))))));refine ed (show _=some (.agg (ll ⟨2,0,0,(v:Int),[],0⟩ .ec)) from rfl) ?_;obtain⟨l6,o6,Y,p1,p2,n8,z,L⟩:=q.stE 2 rfl D (y:=⟨2,0,0,(v:Int),[],0⟩) (ws:=ll ⟨2,0,0,(v:Int),[],0⟩ .ec) ⟨.ec,rfl,.inl ⟨rfl,rfl⟩⟩;refine ed p1 ?_;rw[show gB 6 (.ptr l6 o6) _ h7=_ from p2,ef];simp only[iO,kZ]at z;refine⟨n8,ai L (t7.step hx (Tx:=ys.set v ⟨2,0,0,(v:Int),[],0⟩) ?_ (λw hw=>AR λe=>hw e.symm) (by simp) ah) z⟩;rw[Ct D,LW (an c)]
 ·refine gG (by rw[DY];exact c) (ai (Sn.refl _ _) (t7.step hx (hy.trans (congrArg some (ao c))) (λ_ _=>rfl) rfl ah) q)
end
open Go.Proofs.YtpnddokajmjpbaaDoor.Un Go.Proofs.YtpnddokajmjpbaaDoor.Dm
section
variable{F F':Nat->Prop}{h h':Hp}{cs ds:List Pc}{Q:fx}{u:U}{vv vb vs:V}
theorem Th (H:Q (.bool true) h):cP CS nR [] h Q:=by
 obtain⟨fn,c,a,hb⟩:=Km;exact cP.known a hb (show CS.K nR [] h=some (.bool true) from rfl) rfl rfl H
theorem Qt {op:Nat}(H:Q (.bool (iM op)) h):cP CS lX [.int .i64 op] h Q:=by
 refine Cv rfl rfl ?_;unfold vC;refine ed (mY ..) (ed (a:= .bool (iM op)) ?_ H);unfold iM;by_cases c:2<=op
 ·rw[I9 c,I9 (show(2:Int)<=op by omega)];show er .leq 3 (.int .i64 op) (.int .i64 16)=_;rw[Kk,YY];congr 2;exact decide_eq_decide.2 (by omega)
 ·rw[K3 c,K3 (show ¬(2:Int)<=op by omega)];rfl
theorem SB {x y:Vl}(c:iM x.op=true)(d:x.op=y.op):(gJ x).length=(gJ y).length:=by
 rw[DL]at c;unfold gJ;have a:¬x.op=21:=by omega
 have b:¬x.op=20:=by omega
 rw[<-d,if_neg a,if_neg a,if_neg b,if_neg b];split
 ·rfl
 ·split <;> rfl
theorem UL (K:ei F h cs){x y:Vl}{s t:V}(u:iM x.op=true)(hx:ik eN F h x.args s)(v:ik eN F h y.args t)
  (H:∀F' h' r,Sn F h F' h'->ei F' h' cs->(r=true->x.op=y.op/\(x.op=2->x.n=y.n)/\gJ x=gJ y)->Q (.bool r) h'):cP CS lG [.agg (ll x s),.agg (ll y t)] h Q:=by
 refine BF rfl rfl ?_;unfold tT;have pf:∀{l o k:Nat},fH k (.ptr l o)=some (.ptr l (o+k)):=ez _ _ _;refine mf K (by simp only[ll,eJ,hx.one];rfl) λp L w=>mf L (by simp only[ll,eJ,(v.since w).one];rfl) λf g M=>?_;have d:=w.trans M;have z:ev (.ptr h.next (0+0)) f=some (.int .i64 x.op):=g.ld 1 rfl rfl;have N:ev (.ptr h.next (0+3)) f=some (.int .i64 x.n):=g.ld 1 rfl rfl;have O:ev (.ptr p.next (0+0)) f=some (.int .i64 y.op):=g.ld 0 rfl rfl;have P:ev (.ptr p.next (0+3)) f=some (.int .i64 y.n):=g.ld 0 rfl rfl;generalize h.next=l1 at*;generalize p.next=l2 at*;refine oF z (oF O (ed (tX ..) (ed (a:= .bool (decide (¬(x.op=y.op/\(x.op=2->x.n=y.n))))) ?_ (jH ?_))))
 ·simp only[fh,ez,z,N,P,iA,tX,wM,ji];congr 2;rw[U6,K6,tN,Pk,Pk,CN,DY];constructor
  ·rintro(h|⟨p,f⟩) ⟨R,q⟩
   ·omega
   ·exact f (q (by omega))
  ·intro h;by_cases c:x.op=y.op
   ·by_cases c2:x.op=2
    ·exact .inr ⟨by omega,λe=>h ⟨c,λ_=>e⟩⟩
    ·exact absurd ⟨c,λe=>absurd e c2⟩ h
   ·exact .inl (by omega)
 by_cases c:x.op=y.op/\(x.op=2->x.n=y.n);rotate_left
 ·exact ig (I9 c) (H F f false d g.tail.tail λh=>by cases h)
 refine gG (by rw[DY];exact λh=>h c) ?_;have S:=SB u c.1;have T:=Lv u;refine ed (g.wH 1 rfl rfl) (B7 g (hx.since d) λF3 R xv A B r3=>ed (B.wH 0 rfl rfl) (B7 B ((v.since d).since A) λC q U D E r4=>?_));have r3:=r3.since D;have m:=(d.trans A).trans D;refine zI (λk l h'=>∃i:Nat,l=[xv,U,.int .i64 (i:Nat)]/\i+k=(gJ x).length/\h' = q/\∀j,j<i->(gJ x)[j]? = (gJ y)[j]?) ?_ (k:=(gJ x).length) ⟨0,rfl,by omega,rfl,λj h=>by omega⟩;rintro k _ _ _ G ⟨i,⟨⟩,hk,rfl,I⟩;unfold qt;refine ed r3.len ?_;by_cases hi:i<(gJ x).length;rotate_left
 ·refine iC (H C G true m E.tail.tail λ_=>⟨c.1,c.2,?_⟩);refine Wv λj=>?_;by_cases J:j<i
  ·exact I j J
  ·rw[Jp (by omega),Jp (by omega)]
 refine gw ?_;have a1:=gQ hi;have a2:=gQ (show i<(gJ y).length by omega);generalize (gJ x)[i]=a at*;generalize (gJ y)[i]=b at*;obtain⟨l3,o3,_,W,X⟩:=r3.nat a1 .i64;obtain⟨l4,o4,_,Y,Z⟩:=r4.nat a2 .i64;refine ed W (ed X (ed Y (ed Z (E6 ?_))));by_cases e:a=b
 ·subst e;refine ig rfl (fM ⟨k-1,by omega,i+1,rfl,by omega,rfl,λj J=>?_⟩);by_cases ej:j=i
  ·subst ej;rw[a1,a2]
  ·exact I j (by omega)
 ·exact gG (by omega) (H C G false m E.tail.tail λh=>by cases h)
theorem PE (g:Good u){lu A:Nat}{bk:List Nat}{c t:V}{Ir:List (List Bool)}(H0:ei F h (eQ eN en bk c::eo lu A (uC u vv vb vs)::cs))(hu:zf F h u vv vb vs)(B:∀v b k,At u v b k->bk[v]? =some b)(rd:ik (eL eB) F h Ir t)(hD:Yw u.blocks.length (next u) Ir)
  (S:∀(a b i j p m:Nat) (x y:Vl),u.ee[a]? =some x->u.ee[b]? =some y->iM x.op=true->a≠b->x.op=y.op->(x.op=2->x.n=y.n)->gJ x=gJ y->At u a p i->At u b m j->¬mg (next u) p m) (H:∀h',Q (.bool true) h') :
  j4 CS Q [.ptr lu 0,c,t,.int .i64 0] h:=by
 have nv:=g.nv;have pf:∀{l o k:Nat},fH k (.ptr l o)=some (.ptr l (o+k)):=ez _ _ _;obtain⟨I,T⟩:∃I:Nat->LP,I=λk l h'=>∃(F':Nat->Prop) (i:Nat),l=[.ptr lu 0,c,t,.int .i64 i]/\i+k=u.ee.length/\Sn F h F' h'/\ei F' h' (eQ eN en bk c::eo lu A (uC u vv vb vs)::cs):=⟨_,rfl⟩
 refine vP I (λk x3 x4 x8 x9 U hi=>?_) (k:=u.ee.length) ?_;rotate_left
 ·rw[T];exact⟨F,0,rfl,by omega,Sn.refl _ _,H0⟩
 rw[T]at hi;obtain⟨F1,a,⟨⟩,hk,K,C⟩:=hi;clear H0;unfold nt;have W:=hu.since K;refine oF (C.ld 1 rfl rfl) (ed W.v.len ?_);by_cases ha:a<u.ee.length;rotate_left
 ·exact iC (H U)
 refine gw ?_;have hx:=gQ ha;generalize u.ee[a]=x at*;obtain⟨l2,o2,xa,_,L,X,xs,xl⟩:=W.val hx;have D:∀{M w},Sn F h M w->ei M w (eQ eN en bk c::eo lu A (uC u vv vb vs)::cs)->iP CS Q (Cs I k) [.ptr lu 0,c,t,.int .i64 a] w:=λ{M w} s2 H2=>by
  refine uU ?_;unfold mQ;refine fM ⟨k-1,by omega,?_⟩;rw[T];exact⟨M,a+1,rfl,by omega,s2,H2⟩
 refine oF (C.ld 1 rfl rfl) (ed L (oF xl.op (Qt (pj ?_))))
 cases hp:iM x.op with
 |false=>exact gG (by simp) (D K C)
 |true=>
 refine ig rfl ?_;obtain⟨p,ia,d⟩:=g.AB a ha;obtain⟨N,q⟩:∃N:Nat->LP,N=λk l h'=>∃(F':Nat->Prop) (i:Nat),l=[.ptr lu 0,c,t,.int .i64 a,.int .i64 i]/\i+k=u.ee.length/\Sn F h F' h'/\ei F' h' (eQ eN en bk c::eo lu A (uC u vv vb vs)::cs):=⟨_,rfl⟩
 refine vQ N (λk3 x3 x4 x8 x9 ag h3 hi=>?_) (k:=u.ee.length) ?_;rotate_left
 ·rw[q];exact⟨F1,0,rfl,by omega,K,C⟩
 rw[q]at hi;obtain⟨F3,b,⟨⟩,ah,O,E⟩:=hi;clear L X xs xl C K W;unfold ny;have Y:=hu.since O;refine oF (E.ld 1 rfl rfl) (ed Y.v.len ?_);by_cases hb:b<u.ee.length;rotate_left
 ·exact iC (D O E)
 refine gw ?_;have wm:∀{G J},Sn F h G J->ei G J (eQ eN en bk c::eo lu A (uC u vv vb vs)::cs)->oP (er .add 3 (V.int .i64 b) (V.int .i64 1)) λZ=>Cs N k3 [.ptr lu 0,c,t,.int .i64 a,Z] J:=λ{G J} P z=>by
  refine fM ⟨k3-1,by omega,?_⟩;rw[q];exact⟨G,b+1,rfl,by omega,P,z⟩
 refine ed (tX ..) ?_;by_cases e:a=b
 ·subst e;rw[show((a:Int) != (a:Int))=false by simp];refine gz (gz (gz (gz (gz (gz (gz (gz (gz (gz (Cr ⟨iW _,ed (JG ..) ?_⟩))))))))));rw[if_neg (by simp)];exact ed (a:= .bool false) (by rw[FM]) (jH (gG (by simp) (wm O E)))
 rw[show((a:Int) != (b:Int))=true by rw[Pk];omega];have hy:=gQ hb;generalize u.ee[b]=y at*;obtain⟨l4,o4,xa,_,L,X,xs,_⟩:=Y.val hx;obtain⟨l5,o5,ya,_,y1,y2,ys,_⟩:=Y.val hy;have cv:ev (.ptr lu (0+2)) h3=some vv:=E.ld 1 rfl rfl;refine fY (ed pf (fY (ed cv (fY (ed rfl (fY (ed L (fY (ed X (fY (ed pf (fY (ed cv (fY (ed rfl (fY (ed y1 (fY (ed y2 (zR ?_))))))))))))))))))));refine UL E hp xs ys λG J r P z hr=>⟨P.next,ed (JG ..) ?_⟩
 rw[if_pos rfl];have s:=O.trans P
 cases r with
 | false=>
   refine ed (a:= .bool false) (by rw[FM]) (jH (gG (by simp) (wm s z)))
 | true=>
   obtain⟨U,w,aa⟩:=hr rfl;obtain⟨m,ib,f⟩:=g.AB b hb;have ab:=S a b ia ib p m x y hx hy hp e U w aa d f;have ac:p<u.blocks.length:=let⟨_,h,_⟩:=d;(iB.1 h).1
   have ae:m<u.blocks.length:=let⟨_,h,_⟩:=f;(iB.1 h).1
   obtain ⟨row,d1,d2,d3⟩:=hD.2 p ac;have d4:row[m]? =some false:=by
     have R:=gQ (l:=row) (i:=m) (by omega);cases hq:row[m]
     ·rw[hq]at R;exact R
     ·rw[hq]at R;exact absurd ((d3 m ae).1 R) ab
   obtain⟨l6,o6,p1,p2⟩:=z.HX 0 rfl (B a p ia d) .i64;obtain⟨l7,o7,q1,q2⟩:=z.HX 0 rfl (B b m ib f) .i64;obtain⟨l8,o8,rv,_,t1,t2,t3⟩:=(rd.since s).list d1 .i64;obtain⟨l9,o9,_,w1,w2⟩:=t3.bool d4 .i64;refine ed (a:= .bool false) ?_ (jH (gG (by simp) (wm s z)));rw[vD];simp only[fh,p1,p2,q1,q2,t1,t2,w1,w2]
theorem Lm {ops c:List Int}{np:Int}{vo T:V}(H0:ei F h cs)(U:ik (eI .i64) F h ops vo)(W:ik (eI .i64) F h c T)(ho:ops.length<9223372036854775808)(H:∀h',Q (.bool true) h') :
  cP CS lF [.agg [vo,T,.int .i64 np]] h Q:=by
 refine xW rfl rfl ?_;unfold oV;have pf:∀{l o k:Nat},fH k (.ptr l o)=some (.ptr l (o+k)):=ez _ _ _;refine mf H0 (by simp only[eJ,U.one,W.one];rfl) λA H1 s1=>?_;refine ed (H1.wH 0 rfl rfl) ?_;refine Wk H1 (U.since s1) (W.since s1) ho λF2 L w2 s2 H2 hw=>?_;have g0:Good (GG ops c np):=RZ ops c np;have a0:=V6 ops c np;generalize GG ops c np=u0 at*;obtain⟨am,an,ao,rfl,w1,w2,w3⟩:=hw;refine WN g0 H2.tail ⟨w1,w2,w3⟩ λF3 O ap aq s3 H3 u3=>?_;have g1:=RR g0;have a1:QA (zW u0):=λv x hx=>by
  rcases oL hx with hx|rfl
  ·exact Ez (a0 x (xQ hx)) (by decide)
  ·exact Gl _
 generalize zW u0=D at*;refine RU g1 a1 H3 u3 λF4 P az vv vb vs s4 H4 d ar u4=>?_;have G:∀v,D.ee.length<=v->jQ az v = -1:=λv hv=>by
  unfold jQ;rw[E3,Jp (by omega)];rfl
 have g:Good (iR D (jQ az)):=Te g1 (d.fit g1 G)
 have ae:∀(a b i j ba bb:Nat) (x y:Vl),(iR D (jQ az)).ee[a]? =some x->(iR D (jQ az)).ee[b]? =some y->iM x.op=true->a≠b->x.op=y.op->(x.op=2->x.n=y.n)->gJ x=gJ y->At (iR D (jQ az)) a ba i->At (iR D (jQ az)) b bb j->¬mg (next (iR D (jQ az))) ba bb:=
  λa b i j ba bb x y hx hy hp ag ho hn R ha hb hd=>T3 g1 d G hx hy hp ag ho hn R ha hb hd
 generalize iR D (jQ az)=u at*;have nv:=g.nv;have nb:=g.nb;have Ju:=g.Ju;refine iK H4 rfl rfl u4.one λh5 H5 s5=>?_;generalize P.next=lu at*;refine Th (ed rfl (fK (ed (H5.wH 0 rfl rfl) (xi ?_))));refine OI g H5 (u4.since s5) λp S s6 H6=>?_;refine ed rfl (jH (gG (by simp) ?_));have R:=(u4.since s5).since s6;refine oF (H6.ld 0 rfl rfl) (ed R.v.len ?_);rw[jk (z:=V.int .i64 0) rfl (by decide) (by omega),fq];obtain⟨H7,s7⟩:=H6.make (E:=eN) (ty:=en) (y:=0) (u:=V.int .i64 0) u.ee.length rfl rfl;have H7:ei p (S.new (.cells 3 1 true false (List.replicate u.ee.length (V.int .i64 0)))) _:=H7;have s7:Sn p S p (S.new (.cells 3 1 true false (List.replicate u.ee.length (V.int .i64 0)))):=s7;generalize S.new (.cells 3 1 true false (List.replicate u.ee.length (V.int .i64 0)))=X at*;generalize S.next=lb at*;refine oF (H7.ld 1 rfl rfl) (ed (R.since s7).b.len ?_);rw[jk (z:=V.ec) rfl (by decide) (by omega),fq];obtain⟨H8,s8⟩:=H7.make (E:=eL eN) (ty:=hZ) (y:=[]) (u:= .ec) u.blocks.length Vs rfl;have H8:ei p (X.new (.cells 23 1 true false (List.replicate u.blocks.length V.ec))) _:=H8;have s8:Sn p X p (X.new (.cells 23 1 true false (List.replicate u.blocks.length V.ec))):=s8;generalize X.new (.cells 23 1 true false (List.replicate u.blocks.length V.ec))=h8 at*;generalize X.next=ln at*;have ah:=s7.trans s8
 obtain ⟨I,hI⟩:∃I:Nat->LP,I=λk l h'=>∃(i:Nat) (bk:List Nat) (AJ:List (List Nat)),l=[.ptr lu 0,.slice lb 0 u.ee.length,.slice ln 0 u.blocks.length,.int .i64 i]/\i+k=u.blocks.length/\Sn p S p h'/\bk.length=u.ee.length/\(∀v b k,At u v b k->b<i->bk[v]? =some b)/\AJ.length=u.blocks.length/\(∀j:Nat,j<i->AJ[j]? =some (Un.next u j))/\
   ei p h' (eQ (eL eN) hZ AJ (.slice ln 0 u.blocks.length)::eQ eN en bk (.slice lb 0 u.ee.length)::eo lu 30 (uC u vv vb vs)::cs):=⟨_,rfl⟩
 refine vS I (λk x3 x4 x5 x6 h9 hi=>?_) (k:=u.blocks.length) ?_;rotate_left
 ·rw[hI];exact⟨0,_,_,rfl,by omega,ah,Nt,λv b k _ h=>by omega,Nt,λj hj=>by omega,H8⟩
 clear H8;rw[hI]at hi;obtain⟨i,bk,AJ,⟨⟩,hk,s9,q,f,Y,Z,H9⟩:=hi;unfold mX;have u9:=R.since s9;refine oF (H9.ld 2 rfl rfl) (ed u9.b.len ?_);by_cases hi:i<u.blocks.length;rotate_left
 ·refine iC ?_;obtain rfl:i=u.blocks.length:=by omega
  obtain⟨r,M,ZU⟩:=H9.kE 0 rfl;refine QP (O4 g Y Z) r.tail ZU λau ai dv Ir C m r11 hD=>?_;exact PE g m ((u9.since M).since C) (λv b k s=>f v b k s (let⟨_,h,_⟩:=s;(iB.1 h).1)) r11 hD ae H
 refine gw ?_;have J:=gQ hi;generalize u.blocks[i]=B at*;obtain⟨l1,o1,bv,bn,bp,_,x1,x2,iv,iN,ip,xb⟩:=u9.mS J;refine oF (H9.ld 2 rfl rfl) (ed x1 (oF xb.next ?_));obtain⟨l6,o6,aj,e1,e2,_,r,M⟩:=H9.G7 0 rfl (k:=i) (y:=B.next) (u:=bn) (by omega) rfl iN.one ⟨bn,rfl,iN⟩;refine ed e1 ?_;rw[e2,ef];simp only[iO]at r;have aa:∀j:Nat,j<i+1->(AJ.set i B.next)[j]? =some (Un.next u j):=λj hj=>by
  by_cases e:j=i
  ·subst e;rw[Ct (by omega)];unfold next
   rw[J]
  ·rw[AR λh=>e h.symm];exact Z j (by omega)
 generalize ak:AJ.set i B.next=t at*;have ab:t.length=u.blocks.length:=by rw[<-ak,Nu];exact Y
 obtain ⟨I2,N⟩:∃I2:Nat->LP,I2=λk l h'=>∃(j:Nat) (bk:List Nat),l=[.ptr lu 0,.slice lb 0 u.ee.length,.slice ln 0 u.blocks.length,.int .i64 i,.int .i64 j]/\j+k=B.ee.length/\Sn p aj p h'/\bk.length=u.ee.length/\(∀v b k,At u v b k->(b<i\/b=i/\k<j)->bk[v]? =some b)/\
   ei p h' (eQ (eL eN) hZ t (.slice ln 0 u.blocks.length)::eQ eN en bk (.slice lb 0 u.ee.length)::eo lu 30 (uC u vv vb vs)::cs):=⟨_,rfl⟩
 refine vG I2 (λk2 x3 x4 x5 x6 x7 ai hi=>?_) (k:=B.ee.length) ?_;rotate_left
 ·rw[N];exact⟨0,bk,rfl,by omega,Sn.refl _ _,q,λv b k A L=>f v b k A (by omega),r⟩
 clear x1 x2 iv iN ip xb H9 r f q;rw[N]at hi;obtain⟨j,bk,⟨⟩,aw,C,q,f,m⟩:=hi;unfold nH;have K:=(s9.trans M).trans C;obtain⟨l1,o1,bv,bn,bp,_,x1,x2,iv,iN,ip,xb⟩:=(R.since K).mS J;have ax:B.ee.length<=u.ee.length:=jy _ B.ee (Eh g J) λv hv=>by
  obtain⟨k,hk⟩:=mA.1 hv;exact g.l0 v i k ⟨B,J,hk⟩
 refine oF (m.ld 2 rfl rfl) (ed x1 (oF xb.ee (ed iv.len ?_)));by_cases hj:j<B.ee.length;rotate_left
 ·refine iC (fM ⟨k-1,by omega,?_⟩);rw[hI];refine⟨i+1,bk,t,rfl,by omega,K,q,λv b k A L=>f v b k A ?_,ab,aa,m⟩;by_cases e:b=i
  ·subst e;obtain⟨B',O,P⟩:=A;rw[J]at O;cases O;exact .inr ⟨rfl,by have:=(iB.1 P).1;omega⟩
  ·exact .inl (by omega)
 refine gw ?_;have hv:=gQ hj;generalize B.ee[j]=v at*;have s:At u v i j:=⟨B,J,hv⟩
 have ay:=g.l0 v i j s;obtain⟨l7,o7,_,q1,q2⟩:=iv.nat hv .i64;obtain⟨l8,o8,aA,e1,e2,_,ac,al⟩:=m.G7 1 rfl (k:=v) (y:=i) (u:= .int .i64 i) (by omega) rfl rfl rfl;refine oF (m.ld 2 rfl rfl) (ed x1 (oF xb.ee (ed q1 (ed q2 (ed e1 ?_)))));rw[e2,ef];simp only[iO,kZ]at ac;refine fM ⟨k2-1,by omega,?_⟩;rw[N];refine⟨j+1,_,rfl,by omega,C.trans al,by rw[Nu];exact q,λw b k A L=>?_,ac⟩;by_cases e:w=v
 ·subst e;obtain⟨rfl,rfl⟩:=g.EI _ _ _ _ _ s A;exact Ct (by omega)
 ·rw [AR λh=>e h.symm];refine f w b k A ?_;rcases L with L|⟨rfl,L⟩
  ·exact .inl L
  ·refine .inr ⟨rfl,?_⟩;by_cases ek:k=j
   ·subst ek;obtain⟨B',O,P⟩:=A;rw[J]at O;cases O;rw[hv]at P;exact absurd (Option.some.inj P).symm e
   ·omega
end
