/- Parts. -/
import Derived.Test.YtnehpeeglbgfpaaDoorM37
set_option maxHeartbeats 4000000
namespace Go.Proofs.YtnehpeeglbgfpaaDoor.Hx
open Un Dm
def SA(u:U)(b:Nat)(T:Bk)(q m x:Nat):Prop:=∃(a c v:Nat)(xv:Vl),(c<q\/(c=q/\a<m))/\T.fk[a]? =some b/\T.ee[c]? =some v/\u.ee[v]? =some xv/\xv.op=21/\xv.args[a]? =some x
theorem ON(u:U)(b:Nat)(T:Bk)(x:Nat):¬SA u b T 0 0 x:=λ⟨_,_,_,_,h,_⟩=>by omega
theorem KL{u:U}{b:Nat}{T:Bk}{m q v x:Nat}{xv:Vl}(l:T.ee[q]? =some v)(n:u.ee[v]? =some xv)(h:xv.op=21):SA u b T q (m+1) x↔SA u b T q m x\/(T.fk[m]? =some b/\xv.args[m]? =some x):=by
 constructor
 ·rintro⟨d,f,i,a,j,g,c,k,p,o⟩;by_cases e:d=m/\f=q
  ·obtain⟨rfl,rfl⟩:=e;rw[l]at c;cases c;rw[n]at k;cases k;exact .inr ⟨g,o⟩
  ·exact .inl ⟨d,f,i,a,by omega,g,c,k,p,o⟩
 ·rintro(⟨d,f,i,a,j,g⟩|⟨j,c⟩)
  ·exact⟨d,f,i,a,by omega,g⟩
  ·exact⟨m,q,v,xv,.inr ⟨rfl,by omega⟩,j,l,n,h,c⟩
theorem Ql{u:U}{b:Nat}{T:Bk}{q x:Nat}:SA u b T q T.fk.length x↔SA u b T (q+1) 0 x:=by
 constructor
 ·rintro⟨d,e,f,a,g,c⟩;exact⟨d,e,f,a,by omega,c⟩
 ·rintro⟨d,e,f,a,g,c,h⟩;have:=(jv.1 c).1;exact⟨d,e,f,a,by omega,c,h⟩
theorem Sc{u:U}(g:Good u){t b j:Nat}{T:Bk}(e:u.blocks[t]? =some T)(o:t∈next u b)(p:∀(i v:Nat)(x:Vl),i<j->T.ee[i]? =some v->u.ee[v]? =some x->x.op=21)
  (q:∀(v:Nat) (x:Vl),T.ee[j]? =some v->u.ee[v]? =some x->x.op≠21) (w:Nat):SA u b T j 0 w↔QV u b T T.fk.length 0 w:=by
 constructor
 ·rintro⟨k,f,c,a,_,h,d⟩;exact⟨k,f,c,a,.inl (jv.1 h).1,h,d⟩
 ·rintro⟨k,f,c,a,_,h,d,m,n,r⟩;have s:gW u t c:=by
   unfold gW gZ gh;rw[e,m];refine⟨vS d,?_⟩;show il a.op=true;unfold il;rw[n];rfl
  obtain ⟨i,hi⟩:=mq.1 ((HN g e o p q c).2 s);have l:i<j:=by
   have:=(jv.1 hi).1;rw[JN]at this;omega
  rw[TD l]at hi;have:=(g.HJ c t i t f ⟨T,e,hi⟩ ⟨T,e,d⟩).2;exact⟨k,f,c,a,.inl (by omega),h,d,m,n,r⟩
section
variable{F F':Nat->Prop}{h h':Hp}{cs:List Pc}{Q:fu}{u:U}{vv vb vs:V}{lb bx:Nat}{iX fR lw:V}{ins:List (List Bool)}{po:Pc}
theorem RA{ag:mC}{ah:rW}{R S:V}{b:Nat}{B:Bk}{bv U bp:V}{l0:List Bool}(g:Good u)
  (H0:en F h (eE bx 44 (kJ B bv U bp)::MI u vv vb vs lb iX lw ins po l0 cs)) (hu:zr F h u vv vb vs) (hB:u.blocks[b]? =some B) (iN:iB eN F h B.next U) (aG:l0.length=u.ee.length)
  (H:∀h' l,Sn F h F h'->en F h' (eE bx 44 (kJ B bv U bp)::MI u vv vb vs lb iX lw ins po l cs)->l.length=u.ee.length->(∀w,On l w↔On l0 w\/CG u b w\/(B.fin=2/\w=B.cond))->
   iI CS Q ag ah (.ptr lb 0) iX fR R S (.I b) lw (.ptr bx 0) h') :
  jE CS Q ag ah (.ptr lb 0) iX fR R S (.I b) lw (.ptr bx 0) (.I (0:Nat)) h:=by
 have nv:=g.nv;have nb:=g.nb;have aH:next u b=B.next:=by unfold next;rw[hB]
 have aY:=Ej g hB;unfold MI at H0 H
 refine wY (λk J o r d f K s L j h'=>∃(n:Nat) (l:List Bool),J = .ptr lb 0/\o=iX/\r=fR/\d=R/\f=S/\K = .I b/\s=lw/\L = .ptr bx 0/\j = .I n/\n+k=B.next.length/\Sn F h F h'/\l.length=u.ee.length/\
  en F h' (eE bx 44 (kJ B bv U bp)::ft eB fo l lw::ft (eL eB) fy ins iX::po::eE lb 29 (uC u vv vb vs)::cs)/\∀w,On l w↔On l0 w\/UX u b B n w) ?_ (k:=B.next.length)
  ⟨0,l0,rfl,rfl,rfl,rfl,rfl,rfl,rfl,rfl,rfl,by omega,Sn.refl _ _,aG,H0,λw=>by
    constructor
    ·exact .inl
    ·rintro(c|⟨n',_,_,c,_⟩)
     ·exact c
     ·omega⟩
 rintro k J o r d f K s L j h3 ⟨n,l,rfl,e2,e3,e4,e6,rfl,e8,rfl,rfl,hk,s3,hl,M,ho⟩;subst o r d f s;unfold pH;have ai:=hu.since s3;have aj:=iN.since s3;refine oF (M.ld 0 rfl rfl) (ec aj.len ?_);by_cases hn:n<B.next.length;rotate_left
 ·refine jZ ?_;obtain rfl:n=B.next.length:=by omega
  refine oF (M.ld 0 rfl rfl) (ec (hD _ _ _ _) (jL ?_));rw[show((B.fin:Int) == 2)=(B.fin == 2) from Fw _ 2]
  cases hf:B.fin == 2 with
  | true=>
    refine hV rfl ?_;have aI:B.fin=2:=by simpa using hf
    have hc:B.cond<u.ee.length:=by
      rcases g.fin b B hB with⟨e,_⟩|⟨_,_,e⟩|⟨e,_⟩
      ·omega
      ·exact qM e
      ·omega
    obtain⟨l5,o5,h5,e1,e2,_,H5,s5⟩:=M.zm 1 rfl (k:=B.cond) (y:=true) (u:=V.bool true) (show B.cond<l.length by omega) rfl rfl rfl;refine oF (M.ld 0 rfl rfl) (ec e1 ?_);rw[e2,eh];simp only[Bt,pP]at H5;refine H h5 _ (s3.trans s5) H5 (by simp[hl]) λw=>?_;rw[oI (by omega),ho w,IZ hB];constructor
    ·rintro(⟨c,_⟩|⟨_,c|c⟩)
     ·exact .inr (.inr ⟨aI,c⟩)
     ·exact .inl c
     ·exact .inr (.inl c)
    ·intro c
     by_cases e:w=B.cond
     ·exact .inl ⟨e,rfl⟩
     ·refine .inr ⟨e,?_⟩
      rcases c with c|c|c
      ·exact .inl c
      ·exact .inr c
      ·exact absurd c.2 e
  | false=>
    refine gJ (by simp) (H h3 l s3 M hl λw=>?_);rw[ho w,IZ hB];constructor
    ·exact λc=>c.imp id .inl
    ·rintro(c|c|c)
     ·exact .inl c
     ·exact .inr c
     ·rw[c.1]at hf;simp at hf
 refine ij ?_;have W:B.next[n]∈next u b:=by rw[aH];exact B9 hn
 have ak:B.next[n]<u.blocks.length:=g.nx b _ W;obtain⟨t,ht⟩:∃t,B.next[n]? =some t:=⟨_,iQ hn⟩
 obtain⟨_,aJ⟩:=jv.1 ht;rw[aJ]at ak W;obtain⟨T,X⟩:∃T,u.blocks[t]? =some T:=⟨_,iQ ak⟩
 obtain⟨l4,o4,aK,j1,j2⟩:=aj.nat ht .i64;obtain⟨l6,o6,tv,tn,tp,aL,k1,k2,kv,kN,kp,_⟩:=ai.vT X;refine oF (M.ld 4 rfl rfl) (oF (M.ld 0 rfl rfl) (ec j1 (ec j2 (ec k1 (ec k2 ?_)))));rw[hN];obtain⟨H4,s4⟩:=M.GZ 44 [V.ed,V.I 0,V.I 0,V.ed,V.ed,V.I 0];have g4:(h3.new (.cells 44 1 true false [V.ed,V.I 0,V.I 0,V.ed,V.ed,V.I 0])).get h3.next=some (.cells 44 1 true false [V.ed,V.I 0,V.I 0,V.ed,V.ed,V.I 0]):=ey _ _;generalize h3.new (.cells 44 1 true false [V.ed,V.I 0,V.I 0,V.ed,V.ed,V.I 0])=h4 at*;refine⟨⟨g4,O.ie _ _ _ _ _⟩,DI k2 (s4.eC _ aL),mm j2 (s4.eC _ aK),H4.ld 1 rfl rfl,H4.ld 5 rfl rfl,?_⟩;obtain⟨h5,e5,n5,H5,s5⟩:=H4.Vo 0 (ws:=kJ T tv tn tp) (n:=6) rfl rfl rfl (by simp only[kJ,eR,kv.one,kN.one,kp.one];rfl);rw[e5,eh];simp only[pP]at H5;refine⟨n5,?_⟩;generalize h3.next=tx at*;have G:=s4.trans s5;have aM:=kv.since G;have aN:=kp.since G;have aO:=ai.since G;have aZ:=Hb g X;have a0:=nR g X
 refine xz (λk J o r d f K s L j z A h'=>∃(q:Nat) (l2:List Bool),J = .ptr lb 0/\o=iX/\r=fR/\d=R/\f=S/\K = .I b/\s=lw/\L = .ptr bx 0/\j = .I n/\z = .ptr tx 0/\A = .I q/\q+k=T.ee.length/\
  Sn F h5 F h'/\l2.length=u.ee.length/\en F h' (eE tx 44 (kJ T tv tn tp)::eE bx 44 (kJ B bv U bp)::ft eB fo l2 lw::ft (eL eB) fy ins iX::po::eE lb 29 (uC u vv vb vs)::cs)/\
  (∀(i v:Nat) (x:Vl),i<q->T.ee[i]? =some v->u.ee[v]? =some x->x.op=21)/\∀w,On l2 w↔On l w\/SA u b T q 0 w) ?_ (k:=T.ee.length)
  ⟨0,l,rfl,rfl,rfl,rfl,rfl,rfl,rfl,rfl,rfl,rfl,rfl,by omega,Sn.refl _ _,hl,H5,λi _ _ h=>by omega,λw=>⟨.inl,λc=>c.elim id λC=>absurd C (ON _ _ _ _)⟩⟩
 rintro k3 J o r d f K s L j z A E ⟨q,l2,rfl,e2,e3,e4,e6,rfl,e8,rfl,rfl,rfl,rfl,a1,s7,al,H7,am,an⟩;subst o r d f s;unfold o0;have Y:=aM.since s7;have ao:=aO.since s7;refine oF (H7.ld 0 rfl rfl) (ec Y.len (ec (mU _ _ _ _) ?_))
 have N:(∀(v:Nat) (x:Vl),T.ee[q]? =some v->u.ee[v]? =some x->x.op≠21)->∃k',k' < k/\∃(n:Nat) (l:List Bool),V.ptr lb 0 = .ptr lb 0/\iX=iX/\fR=fR/\R=R/\S=S/\V.I b = .I b/\lw=lw/\V.ptr bx 0 = .ptr bx 0/\V.I ((B.next.length-k+1:Nat):Int) = .I n/\n+k' = B.next.length/\Sn F h F E/\l.length=u.ee.length/\
   en F E (eE bx 44 (kJ B bv U bp)::ft eB fo l lw::ft (eL eB) fy ins iX::po::eE lb 29 (uC u vv vb vs)::cs)/\∀w,On l w↔On l0 w\/UX u b B n w:=by
  intro aP;refine⟨k-1,by omega,n+1,l2,rfl,rfl,rfl,rfl,rfl,rfl,rfl,rfl,by rw[show B.next.length-k+1=n+1 by omega],by omega,(s3.trans G).trans s7,al,H7.tail,λw=>?_⟩;rw[an w,ho w,Kb ht X,or_assoc,Sc g X W am aP w]
 by_cases hq:q<T.ee.length;rotate_left
 ·rw[ML (by omega)];refine ec (BR _) (jL (gJ (by simp) ?_));refine gv ?_;rw[show n+1=B.next.length-k+1 by omega];refine N λv x c _=>?_;have:=(jv.1 c).1;omega
 rw[OH (by omega)];obtain⟨v,Z⟩:∃v,T.ee[q]? =some v:=⟨_,iQ hq⟩
 have aq:At u v t q:=⟨T,X,Z⟩
 have aQ:v<u.ee.length:=g.vX v t q aq;obtain⟨x,P⟩:∃x,u.ee[v]? =some x:=⟨_,iQ aQ⟩
 obtain ⟨M5,a2,_,q1,q2⟩:=Y.nat Z .i64;obtain⟨FX,aR,xw,_,r1,_,_,ra⟩:=ao.val P;have l3:er (.ptr lb (0+2)) E=some vv:=H7.ld 5 rfl rfl;have aS:er (.ptr tx (0+0)) E=some tv:=H7.ld 0 rfl rfl;have aT:er (.ptr FX (aR+0)) E=some (.I x.op):=ra.op;have eA:kH (.bool true) (oB (fP 2 (V.ptr lb 0)) λar=>oB (er ar E) λau=>oB (fP 0 (V.ptr tx 0)) λaw=>oB (er aw E) λax=>oB (some (V.I q)) λay=>oB (gM 1 ax ay) λaz=>oB (er az E) λaA=>oB (gM 6 au aA) λaB=>oB (fP 0 aB) λaC=>oB (er aC E) λaD=>ej .eql 3 aD (V.I 21))=some (.bool (x.op == 21)):=by
  simp only[fg,fM,l3,aS,q1,q2,r1,aT,hD,DM];rw[show((x.op:Int) == 21)=(x.op == 21) from Fw _ 21]
 refine ec eA (jL ?_)
 cases hc:x.op == 21 with
 | false=>
   refine gJ (by simp) ?_;refine iE (m:=1) (by omega) (by omega) ?_;rw[show n+1=B.next.length-k+1 by omega];refine N λv' x' c C=>?_;rw[Z]at c;cases c;rw[P]at C;cases C
   simpa using hc
 | true =>
   have D:x.op=21:=by simpa using hc
   have a3:=(g.Rm _ _ _ _ _ aq P D X).2;refine hV rfl ?_
   refine vZ (λk J o r d f K s L j z A aE h'=>∃(m:Nat) (l3:List Bool),J = .ptr lb 0/\o=iX/\r=fR/\d=R/\f=S/\K = .I (b:Nat)/\s=lw/\L = .ptr bx 0/\j = .I (n:Nat)/\z = .ptr tx 0/\A = .I (q:Nat)/\aE = .I (m:Nat)/\m+k=T.fk.length/\
     Sn F E F h'/\l3.length=u.ee.length/\en F h' (eE tx 44 (kJ T tv tn tp)::eE bx 44 (kJ B bv U bp)::ft eB fo l3 lw::ft (eL eB) fy ins iX::po::eE lb 29 (uC u vv vb vs)::cs)/\
     ∀w,On l3 w↔On l w\/SA u b T q m w) ?_ (k:=T.fk.length)
     ⟨0,l2,rfl,rfl,rfl,rfl,rfl,rfl,rfl,rfl,rfl,rfl,rfl,rfl,by omega,Sn.refl _ _,al,H7,an⟩
   rintro k4 J o r d f K s L j z A aE h8 ⟨m,I,rfl,e2,e3,e4,e6,rfl,e8,rfl,rfl,rfl,rfl,rfl,a4,s8,aa,H8,ab⟩;subst o r d f s;unfold oE;have aF:=(aN.since s7).since s8;have aU:=Y.since s8;have aV:=ao.since s8;refine oF (H8.ld 0 rfl rfl) (ec aF.len ?_);by_cases hm:m<T.fk.length;rotate_left
   ·refine jZ ?_
    obtain rfl:m=T.fk.length:=by omega
    refine iE (m:=1) (by omega) (by omega) ⟨k3-1,by omega,q+1,I,rfl,rfl,rfl,rfl,rfl,rfl,rfl,rfl,rfl,rfl,rfl,by omega,s7.trans s8,aa,H8,λi v' x' hi ac ae=>?_,λw=>?_⟩
    ·rcases HB i q with c|c
     ·exact am i v' x' c ac ae
     ·obtain rfl:i=q:=by omega
      rw[Z]at ac;cases ac;rw[P]at ae;cases ae;exact D
    ·rw[ab w,Ql]
   refine ij ?_;obtain⟨p,hp⟩:∃p,T.fk[m]? =some p:=⟨_,iQ hm⟩
   obtain⟨Sb,a5,_,p1,p2⟩:=aF.nat hp .i64;refine oF (H8.ld 0 rfl rfl) (ec p1 (ec p2 (ec (hD _ _ _ _) (jL ?_))));rw[Fw]
   cases hpb:p == b with
   | true =>
     refine hV rfl ?_;rw[I8]at hpb;subst hpb;obtain⟨a,ha⟩:∃a,x.args[m]? =some a:=⟨_,iQ (show m<x.args.length by omega)⟩
     have a6:a<u.ee.length:=by
       refine qM (g.use v x P a ?_);unfold lT;rw[if_pos D];exact vS ha
     obtain⟨Uz,a7,_,q3,q4⟩:=aU.nat Z .i64;obtain⟨a8,a9,ba,_,r2,_,aW,aX⟩:=aV.val P;obtain⟨bb,bc,_,t1,t2⟩:=aW.nat ha .i64;obtain⟨bd,be,h9,e1,e2,n9,H9,s9⟩:=H8.zm 2 rfl (k:=a) (y:=true) (u:=V.bool true) (show a<I.length by omega) rfl rfl rfl;refine oF (H8.ld 5 rfl rfl) (oF (H8.ld 0 rfl rfl) (ec q3 (ec q4 (ec r2 (oF aX.args (ec t1 (ec t2 (ec e1 ?_))))))));rw[e2,eh];simp only[Bt,pP]at H9;refine⟨n9,nW ?_⟩;unfold kL;refine iE (m:=1) (by omega) (by omega) ⟨k4-1,by omega,m+1,I.set a true,rfl,rfl,rfl,rfl,rfl,rfl,rfl,rfl,rfl,rfl,rfl,rfl,by omega,s8.trans s9,by simp[aa],H9,λw=>?_⟩;rw[oI (by omega),ab w,KL Z P D];constructor
     ·rintro(⟨rfl,_⟩|⟨_,c|c⟩)
      ·exact .inr (.inr ⟨hp,ha⟩)
      ·exact .inl c
      ·exact .inr (.inl c)
     ·intro c
      by_cases e:w=a
      ·exact .inl ⟨e,rfl⟩
      ·refine .inr ⟨e,?_⟩
       rcases c with C|C|⟨_,C⟩
       ·exact .inl C
       ·exact .inr C
       ·rw[ha]at C
        exact absurd (Option.some.inj C).symm e
   | false=>
     refine gJ (by simp) (nW ?_);unfold kL;refine iE (m:=1) (by omega) (by omega) ⟨k4-1,by omega,m+1,I,rfl,rfl,rfl,rfl,rfl,rfl,rfl,rfl,rfl,rfl,rfl,rfl,by omega,s8,aa,H8,λw=>?_⟩;rw[ab w,KL Z P D];constructor
     ·exact λh=>h.imp id .inl
     ·rintro (c|c|⟨c,_⟩)
      ·exact .inl c
      ·exact .inr c
      ·rw[hp]at c
       obtain rfl:=Option.some.inj c;simp at hpb
end
open Un Dm
section
variable{F F':Nat->Prop}{h h':Hp}{cs:List Pc}{Q:fu}{u:U}{vv vb vs:V}{lb bx:Nat}{iX fR lw:V}{ins:List (List Bool)}{po:Pc}
theorem G0{K:Hp->Prop}{l:List Bool}{v:V}{s:Nat}(g:Good u)(k:en F h (ft eB fo l v::cs))(m:zr F h u vv vb vs)(n:l.length=u.ee.length)(o:s<u.ef.length)
  (H:∀F' h' b,Sn F h F' h'->en F' h' (ft eB fo b v::cs)->b.length=u.ee.length->(∀x,On b x↔On l x\/x∈mS u s)->K h') :
  oP (gM 1 vs (.I s)) λp=>oP (hH 1 p h) λf=>cP CS hC [f] h λw i=>cP CS gD [v,w] i λ_ c=>K c:=by
 obtain⟨fs,a⟩:∃fs,u.ef[s]? =some fs:=⟨_,iQ o⟩
 obtain⟨E,o1,f,_,q,r,_,t⟩:=m.st a;refine ec q (ec r ?_);have j:=IU g s fs a;refine Oq k t j λy i w s1 z r1=>?_;have d:=D0 g a;have hlen:=BT (fs:=fs) j.2;refine IX z r1 (by omega) (λx A=>by rw[n];exact d x A) λc l2 B C D e=>?_;refine H y c l2 (s1.trans B) C (by omega) λx=>?_;rw[e x];unfold mS;rw[a]
theorem Uo{c:mC}{d:rW}{o p:V}{b:Nat}{B:Bk}{q r s:V}{j:List Bool}(g:Good u)
  (a:en F h (eE bx 44 (kJ B q r s)::MI u vv vb vs lb iX lw ins po j cs)) (t:zr F h u vv vb vs) (v:u.blocks[b]? =some B) (f:j.length=u.ee.length)
  (H:∀F' h' l,Sn F h F' h'->en F' h' (eE bx 44 (kJ B q r s)::MI u vv vb vs lb iX lw ins po l cs)->l.length=u.ee.length->(∀w,On l w↔On j w\/(B.fin=3/\w∈mS u B.state))->
   iG CS Q c d (.ptr lb 0) iX fR o p (.I b) lw (.ptr bx 0) h') :
  iI CS Q c d (.ptr lb 0) iX fR o p (.I b) lw (.ptr bx 0) h:=by
 unfold MI at a H;refine wx ?_;unfold od;refine oF (a.ld 0 rfl rfl) (ec (hD _ _ _ _) (jL ?_));rw[show((B.fin:Int) == 3)=(B.fin == 3) from Fw _ 3]
 cases hf:B.fin == 3 with
 | false=>
   refine gJ (by simp) (H F h j (Sn.refl _ _) a f λw=>⟨.inl,?_⟩);rintro(i|⟨i,_⟩)
   ·exact i
   ·rw[i]at hf;simp at hf
 | true=>
   refine hV rfl ?_;have k:B.fin=3:=by simpa using hf
   have x:B.state<u.ef.length:=by
     rcases g.fin b B v with⟨e,_⟩|⟨e,_⟩|⟨_,_,e⟩
     ·omega
     ·omega
     ·exact e
   refine oF (a.ld 4 rfl rfl) (oF (a.ld 0 rfl rfl) ?_);refine G0 g a.sw t f x λy i z s1 A m n=>H y i z s1 A.sw m λw=>?_;rw[n w];exact⟨λh=>h.imp id λh=>⟨k,h⟩,λh=>h.imp id λh=>h.2⟩
theorem Rj{G:mC}{I:rW}{Z x6:V}{b:Nat}{B:Bk}{X bn bp:V}{p:List Bool}(g:Good u)
  (H0:en F h (eE bx 44 (kJ B X bn bp)::MI u vv vb vs lb iX lw ins po p cs)) (hu:zr F h u vv vb vs) (hB:u.blocks[b]? =some B) (iv:iB eN F h B.ee X) (aq:p.length=u.ee.length)
  (H:∀F' h' cur v,Sn F h F' h'->en F' h' (ft eB fo cur v::MI u vv vb vs lb iX lw ins po p cs)->cur.length=u.ee.length->(∀w,On cur w↔vw u b (On p) w)->
   iH CS Q G I (.ptr lb 0) iX fR Z x6 (.I b) lw v h') :
  iG CS Q G I (.ptr lb 0) iX fR Z x6 (.I b) lw (.ptr bx 0) h:=by
 have nv:=g.nv;have nb:=g.nb;have ar:gZ u b=B.ee:=by unfold gZ;rw[hB]
 unfold MI at H0 H;refine wk ?_;unfold oH;rw[yf,fF];obtain⟨H2,s2⟩:=H0.JX (E:=eB) (xs:=[]) (ws:=[]) (n:=0) fo rfl trivial rfl;have H2:en F (h.new (.cells 4 1 true false [])) (ft eB fo [] (.slice h.next 0 0)::_):=H2;have s2:Sn F h F (h.new (.cells 4 1 true false [])):=s2;generalize h.new (.cells 4 1 true false [])=h2 at*;obtain⟨q,h3,e3,n3,H3,s3⟩:=H2.Re 0 2 rfl rfl (lD:=1) (by decide) (by decide) (by simp;omega);have au:fh 4 1 1 (.slice h.next 0 0) lw h2=some (.val q h3):=e3;rw[au,eh];simp only[pP,Lg]at H3;have aa:=s2.trans s3;have aw:=iv.since aa;have ax:=nR g hB;have t:∀n:Nat,n<=3000->jw .i64 (((n:Nat):Int)-1)=(n:Int)-1:=λn hn=>by rw[iR (by simp only[Fe];omega)]
 refine oF (H3.ld 1 rfl rfl) (ec aw.len (ec (hZ _ _ _ _) ?_));rw[t _ ax]
 refine xu (λk x1 x2 x3 c e x7 x8 x9 f r h'=>∃(F':Nat->Prop) (l d:List Nat) (cur:List Bool),x1 = .ptr lb 0/\x2=iX/\x3=fR/\c=Z/\e=x6/\x7 = .I b/\x8=lw/\x9 = .ptr bx 0/\f=q/\r = .I ((l.length:Int)-1)/\k=l.length/\B.ee=l++d/\Sn F h F' h'/\cur.length=u.ee.length/\
  en F' h' (ft eB fo cur q::eE bx 44 (kJ B X bn bp)::ft eB fo p lw::ft (eL eB) fy ins iX::po::eE lb 29 (uC u vv vb vs)::cs)/\∀w,bk u l.reverse (On cur) w↔vw u b (On p) w) ?_ (k:=B.ee.length)
  ⟨F,B.ee,[],p,rfl,rfl,rfl,rfl,rfl,rfl,rfl,rfl,rfl,rfl,rfl,by simp,aa,aq,H3,λw=>by unfold vw;rw[ar]⟩
 rintro k x1 x2 x3 c e x7 x8 x9 f r J ⟨F6,l,d,cur,rfl,e2,e3,e4,e6,rfl,e8,rfl,aQ,rfl,hk,K,Y,L,H6,i⟩;subst x2 x3 c e x8 f;unfold oV;have ay:l.length<=B.ee.length:=by rw[K,Hm];omega
 rcases gO l with rfl|⟨s,v,rfl⟩
 ·refine BH (gJ (by simp) ?_);exact H F6 J cur q Y H6.uf L λw=>i w
 have M:((s++[v]).length:Int)-1=(s.length:Nat):=by simp
 rw[M];refine BH (hV (by omega) ?_);have j:B.ee[s.length]? =some v:=by rw[K];simp
 have az:At u v b s.length:=⟨B,hB,j⟩
 have aA:=g.vX v b _ az;obtain⟨x,N⟩:∃x,u.ee[v]? =some x:=⟨_,iQ aA⟩
 have ab:iB eN F6 J B.ee X:=iv.since Y;have aB:=hu.since Y;obtain⟨l7,o7,aC,p1,p2⟩:=ab.nat j .i64;obtain⟨l8,o8,xw,aD,r1,r2,ac,_⟩:=aB.val N;refine oF (H6.ld 5 rfl rfl) (oF (H6.ld 1 rfl rfl) (ec p1 (ec p2 (ec r1 (ec r2 ?_)))));rw[hN];obtain⟨H7,s7⟩:=H6.GZ 46 [V.I 0,V.I 0,V.I 0,V.I 0,V.ed,V.I 0];have g7:(J.new (.cells 46 1 true false [V.I 0,V.I 0,V.I 0,V.I 0,V.ed,V.I 0])).get J.next=some (.cells 46 1 true false [V.I 0,V.I 0,V.I 0,V.I 0,V.ed,V.I 0]):=ey _ _;generalize J.new (.cells 46 1 true false [V.I 0,V.I 0,V.I 0,V.I 0,V.ed,V.I 0])=h7 at*;refine⟨⟨g7,O.ie _ _ _ _ _⟩,DI r2 (s7.eC _ aD),mm p2 (s7.eC _ aC),H7.ld 2 rfl rfl,H7.ld 6 rfl rfl,?_⟩;obtain⟨h8,e8,n8,P,s8⟩:=H7.Vo 0 (ws:=qq x xw) (n:=6) rfl rfl rfl (by simp only[qq,eR,ac.one];rfl);rw[e8,eh];simp only[pP]at P;refine⟨n8,?_⟩;generalize J.next=xc at*;have m:=s7.trans s8;have P:=P.sw;have ae:er (.ptr xc (0+0)) h8=some (.I x.op):=P.ld 1 rfl rfl;refine oF ae (ec (hD _ _ _ _) ?_);have eH:qe (.bool ((x.op:Int) == 21)) (oB (fP 0 (V.ptr xc 0)) λag=>oB (er ag h8) λah=>ej .eql 3 ah (V.I 1))=some (.bool (gh u v)):=by
  simp only[fg,fM,ae,hD,ko];unfold gh;rw[N];show _=some (V.bool (il x.op));unfold il;rw[show((x.op:Int) == 21)=(x.op == 21) from Fw _ 21,show((x.op:Int) == 1)=(x.op == 1) from Fw _ 1,Bool.or_comm]
 refine ec eH (jL ?_);rw[List.reverse_append]at i;simp only[List.reverse_cons,List.reverse_nil,Lg,Ve]at i
 cases hq:gh u v with
 | true=>
   refine hV rfl (H F6 h8 cur q (Y.trans m) P.uf.uf L λw=>?_);rw[<-i w];unfold bk
   rw[if_pos hq]
 | false =>
   refine gJ (by simp) ?_;obtain⟨l9,o9,_,p3,p4⟩:=(ab.since m).nat j .i64;obtain⟨M5,aR,aS,aE,aF,_,R,S⟩:=P.zm 0 rfl (k:=v) (y:=false) (u:=V.bool false) (show v<cur.length by omega) rfl rfl rfl;refine oF (P.ld 2 rfl rfl) (ec p3 (ec p4 (ec aE ?_)));rw[aF,eh];simp only[Bt,pP]at R;have ai:=(ac.since m).since S;refine ec (R.HY 1 rfl rfl) ?_;refine FK R ai λaG aT vu aj aH aI=>?_;have T:=Eu g N;have ak:∀y∈lT x,y<u.ee.length:=λy hy=>qM (g.use v x N y hy);have U:(cur.set v false).length=u.ee.length:=by rw[OI];exact L
   refine IX aH aI (by have:=zI T;omega) (λy hy=>by rw[U];exact ak y hy) λW Sb al o aP z=>?_;have A:er (.ptr xc (0+0)) W=some (.I (x.op:Nat)):=o.ld 1 rfl rfl;refine oF A (ec (hD _ _ _ _) ?_);have aJ:qe (.bool ((x.op:Int) == 22)) (oB (fP 0 (.ptr xc 0)) λaK=>oB (er aK W) λaL=>ej .eql 3 aL (V.I 23))=some (.bool (leaves x.op)):=by
     simp only[fM,fg,A,hD,ko];unfold leaves;rw[show((x.op:Int) == 22)=(x.op == 22) from Fw _ 22,show((x.op:Int) == 23)=(x.op == 23) from Fw _ 23]
   refine ec aJ (jL ?_);have am:=(((Y.trans m).trans S).trans aj).trans al;have an:=hu.since am;have C:∀y,On (cur.set v false) y↔On cur y/\y≠v:=λy=>by
     rw[oI (by omega)];constructor
     ·rintro(⟨_,h⟩|⟨h1,h2⟩)
      ·cases h
      ·exact⟨h2,h1⟩
     ·exact λh=> .inr ⟨h.2,h.1⟩
   have fin:∀(F':Nat->Prop) (h':Hp) (a:List Bool),Sn F6 J F' h'->en F' h' (ft eB fo a q::eE xc 46 (qq x xw)::eE bx 44 (kJ B X bn bp)::ft eB fo p lw::ft (eL eB) fy ins iX::po::eE lb 29 (uC u vv vb vs)::cs)->a.length=u.ee.length->
       (∀y,On a y↔(On cur y/\y≠v)\/y∈rV u v)->js CS Q G I (λx1 x2 x3 c e x7 x8 x9 f r h'=>∃k',k' < k/\∃(F':Nat->Prop) (l d:List Nat) (cur:List Bool),x1 = .ptr lb 0/\x2=iX/\x3=fR/\c=Z/\e=x6/\x7 = .I (b:Nat)/\x8=lw/\x9 = .ptr bx 0/\f=q/\r = .I ((l.length:Int)-1)/\k' = l.length/\B.ee=l++d/\Sn F h F' h'/\cur.length=u.ee.length/\
         en F' h' (ft eB fo cur q::eE bx 44 (kJ B X bn bp)::ft eB fo p lw::ft (eL eB) fy ins iX::po::eE lb 29 (uC u vv vb vs)::cs)/\∀w,bk u l.reverse (On cur) w↔vw u b (On p) w)
         (.ptr lb 0) iX fR Z x6 (.I (b:Nat)) lw (.ptr bx 0) q (.I (s.length:Nat)) h':=by
     intro F' h' a s' H' ao aM;refine wi ?_;unfold og;refine ec (hZ _ _ _ _) ?_;rw[t s.length (by simp at ay;omega)];refine⟨s.length,by rw[hk];simp,F',s,v::d,a,rfl,rfl,rfl,rfl,rfl,rfl,rfl,rfl,rfl,rfl,rfl,by rw[K];simp,Y.trans s',ao,H'.uf,λw=>?_⟩;rw[<-i w]
     conv=>rhs;unfold bk
     rw[if_neg (by rw[hq];simp)];exact vA aM w
   have D:=((m.trans S).trans aj).trans al
   cases hlv:leaves x.op with
   | false=>
     refine gJ (by simp) (fin aG W Sb D o (by omega) λy=>?_);rw[z y,C y];unfold rV;rw[N]
     simp[hlv]
   | true=>
     refine hV rfl ?_;have M:=g.leave v x N hlv;refine oF (o.ld 6 rfl rfl) (oF (o.ld 1 rfl rfl) ?_);refine G0 g o an (by omega) M λF' h' l' s' H' aN aO=>fin F' h' l' (D.trans s') H' aN λy=>?_;rw[aO y,z y,C y];unfold rV;rw[N];simp[hlv,or_assoc]
end
