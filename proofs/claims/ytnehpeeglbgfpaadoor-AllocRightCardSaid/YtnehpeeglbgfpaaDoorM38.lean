/- Parts. -/
import Derived.Test.YtnehpeeglbgfpaaDoorM37
set_option maxHeartbeats 4000000
namespace Go.Proofs.YtnehpeeglbgfpaaDoor.Hx
open Un Dm
def Uu(u:U)(b:Nat)(T:Bk)(q m x:Nat):Prop:=∃(a c v:Nat)(xv:Vl),(c<q\/(c=q/\a<m))/\T.ft[a]? =some b/\T.ee[c]? =some v/\u.ee[v]? =some xv/\xv.op=21/\xv.args[a]? =some x
theorem Si(u:U)(b:Nat)(T:Bk)(x:Nat):¬Uu u b T 0 0 x:=λ⟨_,_,_,_,h,_⟩=>by omega
theorem LW{u:U}{b:Nat}{T:Bk}{m q v x:Nat}{xv:Vl}(l:T.ee[q]? =some v)(n:u.ee[v]? =some xv)(h:xv.op=21):Uu u b T q (m+1) x↔Uu u b T q m x\/(T.ft[m]? =some b/\xv.args[m]? =some x):=by
 constructor
 ·rintro⟨d,f,i,a,j,g,c,k,p,o⟩;by_cases e:d=m/\f=q
  ·obtain⟨rfl,rfl⟩:=e;rw[l]at c;cases c;rw[n]at k;cases k;exact .inr ⟨g,o⟩
  ·exact .inl ⟨d,f,i,a,by omega,g,c,k,p,o⟩
 ·rintro(⟨d,f,i,a,j,g⟩|⟨j,c⟩)
  ·exact⟨d,f,i,a,by omega,g⟩
  ·exact⟨m,q,v,xv,.inr ⟨rfl,by omega⟩,j,l,n,h,c⟩
theorem Rb{u:U}{b:Nat}{T:Bk}{q x:Nat}:Uu u b T q T.ft.length x↔Uu u b T (q+1) 0 x:=by
 constructor
 ·rintro⟨d,e,f,a,g,c⟩;exact⟨d,e,f,a,by omega,c⟩
 ·rintro⟨d,e,f,a,g,c,h⟩;have:=(jw.1 c).1;exact⟨d,e,f,a,by omega,c,h⟩
theorem SQ{u:U}(g:Good u){t b j:Nat}{T:Bk}(e:u.blocks[t]? =some T)(o:t∈next u b)(p:∀(i v:Nat)(x:Vl),i<j->T.ee[i]? =some v->u.ee[v]? =some x->x.op=21)
  (q:∀(v:Nat) (x:Vl),T.ee[j]? =some v->u.ee[v]? =some x->x.op≠21) (w:Nat):Uu u b T j 0 w↔SG u b T T.ft.length 0 w:=by
 constructor
 ·rintro⟨k,f,c,a,_,h,d⟩;exact⟨k,f,c,a,.inl (jw.1 h).1,h,d⟩
 ·rintro⟨k,f,c,a,_,h,d,m,n,r⟩;have s:gw u t c:=by
   unfold gw ik gi;rw[e,m];refine⟨xu d,?_⟩;show iC a.op=true;unfold iC;rw[n];rfl
  obtain ⟨i,hi⟩:=mM.1 ((Jr g e o p q c).2 s);have l:i<j:=by
   have:=(jw.1 hi).1;rw[MI]at this;omega
  rw[Vo l]at hi;have:=(g.JC c t i t f ⟨T,e,hi⟩ ⟨T,e,d⟩).2;exact⟨k,f,c,a,.inl (by omega),h,d,m,n,r⟩
section
variable{F F':Nat->Prop}{h h':Hp}{cs:List Pc}{Q:fm}{u:U}{vv vb vs:V}{lb bx:Nat}{iT fR lw:V}{ins:List (List Bool)}{po:Pc}
theorem Tu{ag:ly}{ah:tg}{R S:V}{b:Nat}{B:Bk}{bv U bp:V}{l0:List Bool}(g:Good u)
  (H0:er F h (ey bx 44 (lC B bv U bp)::Oh u vv vb vs lb iT lw ins po l0 cs)) (hu:Af F h u vv vb vs) (hB:u.blocks[b]? =some B) (iN:iL eN F h B.next U) (aG:l0.length=u.ee.length)
  (H:∀h' l,Sn F h F h'->er F h' (ey bx 44 (lC B bv U bp)::Oh u vv vb vs lb iT lw ins po l cs)->l.length=u.ee.length->(∀w,On l w↔On l0 w\/DJ u b w\/(B.fin=2/\w=B.cond))->
   iV CS Q ag ah (.ptr lb 0) iT fR R S (.I b) lw (.ptr bx 0) h') :
  j7 CS Q ag ah (.ptr lb 0) iT fR R S (.I b) lw (.ptr bx 0) (.I (0:Nat)) h:=by
 have nv:=g.nv;have nb:=g.nb;have aH:next u b=B.next:=by unfold next;rw[hB]
 have aY:=ES g hB;unfold Oh at H0 H
 refine ya (λk J o r d f K s L j h'=>∃(n:Nat) (l:List Bool),J = .ptr lb 0/\o=iT/\r=fR/\d=R/\f=S/\K = .I b/\s=lw/\L = .ptr bx 0/\j = .I n/\n+k=B.next.length/\Sn F h F h'/\l.length=u.ee.length/\
  er F h' (ey bx 44 (lC B bv U bp)::fo eB fx l lw::fo (eL eB) fL ins iT::po::ey lb 29 (uC u vv vb vs)::cs)/\∀w,On l w↔On l0 w\/Wu u b B n w) ?_ (k:=B.next.length)
  ⟨0,l0,rfl,rfl,rfl,rfl,rfl,rfl,rfl,rfl,rfl,by omega,Sn.refl _ _,aG,H0,λw=>by
    constructor
    ·exact .inl
    ·rintro(c|⟨n',_,_,c,_⟩)
     ·exact c
     ·omega⟩
 rintro k J o r d f K s L j h3 ⟨n,l,rfl,e2,e3,e4,e6,rfl,e8,rfl,rfl,hk,s3,hl,M,ho⟩;subst o r d f s;unfold pU;have ai:=hu.since s3;have aj:=iN.since s3;refine oF (M.ld 0 rfl rfl) (ec aj.len ?_);by_cases hn:n<B.next.length;rotate_left
 ·refine jG ?_;obtain rfl:n=B.next.length:=by omega
  refine oF (M.ld 0 rfl rfl) (ec (ig _ _ _ _) (je ?_));rw[show((B.fin:Int) == 2)=(B.fin == 2) from G6 _ 2]
  cases hf:B.fin == 2 with
  | true=>
    refine gU rfl ?_;have aI:B.fin=2:=by simpa using hf
    have hc:B.cond<u.ee.length:=by
      rcases g.fin b B hB with⟨e,_⟩|⟨_,_,e⟩|⟨e,_⟩
      ·omega
      ·exact rV e
      ·omega
    obtain⟨l5,o5,h5,e1,e2,_,H5,s5⟩:=M.AD 1 rfl (k:=B.cond) (y:=true) (u:=V.bool true) (show B.cond<l.length by omega) rfl rfl rfl;refine oF (M.ld 0 rfl rfl) (ec e1 ?_);rw[e2,ej];simp only[AT,ot]at H5;refine H h5 _ (s3.trans s5) H5 (by simp[hl]) λw=>?_;rw[rL (by omega),ho w,KW hB];constructor
    ·rintro(⟨c,_⟩|⟨_,c|c⟩)
     ·exact .inr (.inr ⟨aI,c⟩)
     ·exact .inl c
     ·exact .inr (.inl c)
    ·intro c
     by_cases e:w=B.cond
     ·exact .inl ⟨e,rfl⟩
     ·refine .inr ⟨e,?_⟩
      rcases c with c|c|c
      ·exact .inl c
      ·exact .inr c
      ·exact absurd c.2 e
  | false=>
    refine gB (by simp) (H h3 l s3 M hl λw=>?_);rw[ho w,KW hB];constructor
    ·exact λc=>c.imp id .inl
    ·rintro(c|c|c)
     ·exact .inl c
     ·exact .inr c
     ·rw[c.1]at hf;simp at hf
 refine hV ?_;have W:B.next[n]∈next u b:=by rw[aH];exact Cj hn
 have ak:B.next[n]<u.blocks.length:=g.nx b _ W;obtain⟨t,ht⟩:∃t,B.next[n]? =some t:=⟨_,iH hn⟩
 obtain⟨_,aJ⟩:=jw.1 ht;rw[aJ]at ak W;obtain⟨T,X⟩:∃T,u.blocks[t]? =some T:=⟨_,iH ak⟩
 obtain⟨l4,o4,aK,j1,j2⟩:=aj.nat ht .i64;obtain⟨l6,o6,tv,tn,tp,aL,k1,k2,kv,kN,kp,_⟩:=ai.wh X;refine oF (M.ld 4 rfl rfl) (oF (M.ld 0 rfl rfl) (ec j1 (ec j2 (ec k1 (ec k2 ?_)))));rw[ij];obtain⟨H4,s4⟩:=M.GG 44 [V.ed,V.I 0,V.I 0,V.ed,V.ed,V.I 0];have g4:(h3.new (.cells 44 1 true false [V.ed,V.I 0,V.I 0,V.ed,V.ed,V.I 0])).get h3.next=some (.cells 44 1 true false [V.ed,V.I 0,V.I 0,V.ed,V.ed,V.I 0]):=ez _ _;generalize h3.new (.cells 44 1 true false [V.ed,V.I 0,V.I 0,V.ed,V.ed,V.I 0])=h4 at*;refine⟨⟨g4,O.ie _ _ _ _ _⟩,Fu k2 (s4.eD _ aL),mN j2 (s4.eD _ aK),H4.ld 1 rfl rfl,H4.ld 5 rfl rfl,?_⟩;obtain⟨h5,e5,n5,H5,s5⟩:=H4.WC 0 (ws:=lC T tv tn tp) (n:=6) rfl rfl rfl (by simp only[lC,fc,kv.one,kN.one,kp.one];rfl);rw[e5,ej];simp only[ot]at H5;refine⟨n5,?_⟩;generalize h3.next=tx at*;have G:=s4.trans s5;have aM:=kv.since G;have aN:=kp.since G;have aO:=ai.since G;have aZ:=He g X;have a0:=mP g X
 refine yd (λk J o r d f K s L j z A h'=>∃(q:Nat) (l2:List Bool),J = .ptr lb 0/\o=iT/\r=fR/\d=R/\f=S/\K = .I b/\s=lw/\L = .ptr bx 0/\j = .I n/\z = .ptr tx 0/\A = .I q/\q+k=T.ee.length/\
  Sn F h5 F h'/\l2.length=u.ee.length/\er F h' (ey tx 44 (lC T tv tn tp)::ey bx 44 (lC B bv U bp)::fo eB fx l2 lw::fo (eL eB) fL ins iT::po::ey lb 29 (uC u vv vb vs)::cs)/\
  (∀(i v:Nat) (x:Vl),i<q->T.ee[i]? =some v->u.ee[v]? =some x->x.op=21)/\∀w,On l2 w↔On l w\/Uu u b T q 0 w) ?_ (k:=T.ee.length)
  ⟨0,l,rfl,rfl,rfl,rfl,rfl,rfl,rfl,rfl,rfl,rfl,rfl,by omega,Sn.refl _ _,hl,H5,λi _ _ h=>by omega,λw=>⟨.inl,λc=>c.elim id λC=>absurd C (Si _ _ _ _)⟩⟩
 rintro k3 J o r d f K s L j z A E ⟨q,l2,rfl,e2,e3,e4,e6,rfl,e8,rfl,rfl,rfl,rfl,a1,s7,al,H7,am,an⟩;subst o r d f s;unfold qc;have Y:=aM.since s7;have ao:=aO.since s7;refine oF (H7.ld 0 rfl rfl) (ec Y.len (ec (jo _ _ _ _) ?_))
 have N:(∀(v:Nat) (x:Vl),T.ee[q]? =some v->u.ee[v]? =some x->x.op≠21)->∃k',k' < k/\∃(n:Nat) (l:List Bool),V.ptr lb 0 = .ptr lb 0/\iT=iT/\fR=fR/\R=R/\S=S/\V.I b = .I b/\lw=lw/\V.ptr bx 0 = .ptr bx 0/\V.I ((B.next.length-k+1:Nat):Int) = .I n/\n+k' = B.next.length/\Sn F h F E/\l.length=u.ee.length/\
   er F E (ey bx 44 (lC B bv U bp)::fo eB fx l lw::fo (eL eB) fL ins iT::po::ey lb 29 (uC u vv vb vs)::cs)/\∀w,On l w↔On l0 w\/Wu u b B n w:=by
  intro aP;refine⟨k-1,by omega,n+1,l2,rfl,rfl,rfl,rfl,rfl,rfl,rfl,rfl,by rw[show B.next.length-k+1=n+1 by omega],by omega,(s3.trans G).trans s7,al,H7.tail,λw=>?_⟩;rw[an w,ho w,Ms ht X,or_assoc,SQ g X W am aP w]
 by_cases hq:q<T.ee.length;rotate_left
 ·rw[OI (by omega)];refine ec (CY _) (je (gB (by simp) ?_));refine gq ?_;rw[show n+1=B.next.length-k+1 by omega];refine N λv x c _=>?_;have:=(jw.1 c).1;omega
 rw[Qy (by omega)];obtain⟨v,Z⟩:∃v,T.ee[q]? =some v:=⟨_,iH hq⟩
 have aq:At u v t q:=⟨T,X,Z⟩
 have aQ:v<u.ee.length:=g.vR v t q aq;obtain⟨x,P⟩:∃x,u.ee[v]? =some x:=⟨_,iH aQ⟩
 obtain ⟨MK,a2,_,q1,q2⟩:=Y.nat Z .i64;obtain⟨Ir,aR,xw,_,r1,_,_,ra⟩:=ao.val P;have l3:en (.ptr lb (0+2)) E=some vv:=H7.ld 5 rfl rfl;have aS:en (.ptr tx (0+0)) E=some tv:=H7.ld 0 rfl rfl;have aT:en (.ptr Ir (aR+0)) E=some (.I x.op):=ra.op;have eA:jq (.bool true) (oB (fI 2 (V.ptr lb 0)) λar=>oB (en ar E) λau=>oB (fI 0 (V.ptr tx 0)) λaw=>oB (en aw E) λax=>oB (some (V.I q)) λay=>oB (gy 1 ax ay) λaz=>oB (en az E) λaA=>oB (gy 6 au aA) λaB=>oB (fI 0 aB) λaC=>oB (en aC E) λaD=>ef .eql 3 aD (V.I 21))=some (.bool (x.op == 21)):=by
  simp only[eQ,fH,l3,aS,q1,q2,r1,aT,ig,EU];rw[show((x.op:Int) == 21)=(x.op == 21) from G6 _ 21]
 refine ec eA (je ?_)
 cases hc:x.op == 21 with
 | false=>
   refine gB (by simp) ?_;refine iA (m:=1) (by omega) (by omega) ?_;rw[show n+1=B.next.length-k+1 by omega];refine N λv' x' c C=>?_;rw[Z]at c;cases c;rw[P]at C;cases C
   simpa using hc
 | true =>
   have D:x.op=21:=by simpa using hc
   have a3:=(g.T3 _ _ _ _ _ aq P D X).2;refine gU rfl ?_
   refine xi (λk J o r d f K s L j z A aE h'=>∃(m:Nat) (l3:List Bool),J = .ptr lb 0/\o=iT/\r=fR/\d=R/\f=S/\K = .I (b:Nat)/\s=lw/\L = .ptr bx 0/\j = .I (n:Nat)/\z = .ptr tx 0/\A = .I (q:Nat)/\aE = .I (m:Nat)/\m+k=T.ft.length/\
     Sn F E F h'/\l3.length=u.ee.length/\er F h' (ey tx 44 (lC T tv tn tp)::ey bx 44 (lC B bv U bp)::fo eB fx l3 lw::fo (eL eB) fL ins iT::po::ey lb 29 (uC u vv vb vs)::cs)/\
     ∀w,On l3 w↔On l w\/Uu u b T q m w) ?_ (k:=T.ft.length)
     ⟨0,l2,rfl,rfl,rfl,rfl,rfl,rfl,rfl,rfl,rfl,rfl,rfl,rfl,by omega,Sn.refl _ _,al,H7,an⟩
   rintro k4 J o r d f K s L j z A aE h8 ⟨m,I,rfl,e2,e3,e4,e6,rfl,e8,rfl,rfl,rfl,rfl,rfl,a4,s8,aa,H8,ab⟩;subst o r d f s;unfold pq;have aF:=(aN.since s7).since s8;have aU:=Y.since s8;have aV:=ao.since s8;refine oF (H8.ld 0 rfl rfl) (ec aF.len ?_);by_cases hm:m<T.ft.length;rotate_left
   ·refine jG ?_
    obtain rfl:m=T.ft.length:=by omega
    refine iA (m:=1) (by omega) (by omega) ⟨k3-1,by omega,q+1,I,rfl,rfl,rfl,rfl,rfl,rfl,rfl,rfl,rfl,rfl,rfl,by omega,s7.trans s8,aa,H8,λi v' x' hi ac ae=>?_,λw=>?_⟩
    ·rcases Ji i q with c|c
     ·exact am i v' x' c ac ae
     ·obtain rfl:i=q:=by omega
      rw[Z]at ac;cases ac;rw[P]at ae;cases ae;exact D
    ·rw[ab w,Rb]
   refine hV ?_;obtain⟨p,hp⟩:∃p,T.ft[m]? =some p:=⟨_,iH hm⟩
   obtain⟨UR,a5,_,p1,p2⟩:=aF.nat hp .i64;refine oF (H8.ld 0 rfl rfl) (ec p1 (ec p2 (ec (ig _ _ _ _) (je ?_))));rw[G6]
   cases hpb:p == b with
   | true =>
     refine gU rfl ?_;rw[Jg]at hpb;subst hpb;obtain⟨a,ha⟩:∃a,x.args[m]? =some a:=⟨_,iH (show m<x.args.length by omega)⟩
     have a6:a<u.ee.length:=by
       refine rV (g.use v x P a ?_);unfold mD;rw[if_pos D];exact xu ha
     obtain⟨Wy,a7,_,q3,q4⟩:=aU.nat Z .i64;obtain⟨Wh,a8,a9,_,r2,_,aW,aX⟩:=aV.val P;obtain⟨ba,bb,_,t1,t2⟩:=aW.nat ha .i64;obtain⟨bc,bd,h9,e1,e2,n9,H9,s9⟩:=H8.AD 2 rfl (k:=a) (y:=true) (u:=V.bool true) (show a<I.length by omega) rfl rfl rfl;refine oF (H8.ld 5 rfl rfl) (oF (H8.ld 0 rfl rfl) (ec q3 (ec q4 (ec r2 (oF aX.args (ec t1 (ec t2 (ec e1 ?_))))))));rw[e2,ej];simp only[AT,ot]at H9;refine⟨n9,pk ?_⟩;unfold lG;refine iA (m:=1) (by omega) (by omega) ⟨k4-1,by omega,m+1,I.set a true,rfl,rfl,rfl,rfl,rfl,rfl,rfl,rfl,rfl,rfl,rfl,rfl,by omega,s8.trans s9,by simp[aa],H9,λw=>?_⟩;rw[rL (by omega),ab w,LW Z P D];constructor
     ·rintro(⟨rfl,_⟩|⟨_,c|c⟩)
      ·exact .inr (.inr ⟨hp,ha⟩)
      ·exact .inl c
      ·exact .inr (.inl c)
     ·intro c
      by_cases e:w=a
      ·exact .inl ⟨e,rfl⟩
      ·refine .inr ⟨e,?_⟩
       rcases c with C|C|⟨_,C⟩
       ·exact .inl C
       ·exact .inr C
       ·rw[ha]at C
        exact absurd (Option.some.inj C).symm e
   | false=>
     refine gB (by simp) (pk ?_);unfold lG;refine iA (m:=1) (by omega) (by omega) ⟨k4-1,by omega,m+1,I,rfl,rfl,rfl,rfl,rfl,rfl,rfl,rfl,rfl,rfl,rfl,rfl,by omega,s8,aa,H8,λw=>?_⟩;rw[ab w,LW Z P D];constructor
     ·exact λh=>h.imp id .inl
     ·rintro (c|c|⟨c,_⟩)
      ·exact .inl c
      ·exact .inr c
      ·rw[hp]at c
       obtain rfl:=Option.some.inj c;simp at hpb
end
open Un Dm
section
variable{F F':Nat->Prop}{h h':Hp}{cs:List Pc}{Q:fm}{u:U}{vv vb vs:V}{lb bx:Nat}{iT fR lw:V}{ins:List (List Bool)}{po:Pc}
theorem Im{K:Hp->Prop}{l:List Bool}{v:V}{s:Nat}(g:Good u)(k:er F h (fo eB fx l v::cs))(m:Af F h u vv vb vs)(n:l.length=u.ee.length)(o:s<u.eh.length)
  (H:∀F' h' b,Sn F h F' h'->er F' h' (fo eB fx b v::cs)->b.length=u.ee.length->(∀x,On b x↔On l x\/x∈nG u s)->K h') :
  oP (gy 1 vs (.I s)) λp=>oP (fZ 1 p h) λf=>cP CS iq [f] h λw i=>cP CS gP [v,w] i λ_ c=>K c:=by
 obtain⟨fs,a⟩:∃fs,u.eh[s]? =some fs:=⟨_,iH o⟩
 obtain⟨E,o1,f,_,q,r,_,t⟩:=m.st a;refine ec q (ec r ?_);have j:=Kv g s fs a;refine PU k t j λy i w s1 z r1=>?_;have d:=FO g a;have hlen:=De (fs:=fs) j.2;refine Ks z r1 (by omega) (λx A=>by rw[n];exact d x A) λc l2 B C D e=>?_;refine H y c l2 (s1.trans B) C (by omega) λx=>?_;rw[e x];unfold nG;rw[a]
theorem VL{c:ly}{d:tg}{o p:V}{b:Nat}{B:Bk}{q r s:V}{j:List Bool}(g:Good u)
  (a:er F h (ey bx 44 (lC B q r s)::Oh u vv vb vs lb iT lw ins po j cs)) (t:Af F h u vv vb vs) (v:u.blocks[b]? =some B) (f:j.length=u.ee.length)
  (H:∀F' h' l,Sn F h F' h'->er F' h' (ey bx 44 (lC B q r s)::Oh u vv vb vs lb iT lw ins po l cs)->l.length=u.ee.length->(∀w,On l w↔On j w\/(B.fin=3/\w∈nG u B.state))->
   iU CS Q c d (.ptr lb 0) iT fR o p (.I b) lw (.ptr bx 0) h') :
  iV CS Q c d (.ptr lb 0) iT fR o p (.I b) lw (.ptr bx 0) h:=by
 unfold Oh at a H;refine xo ?_;unfold oX;refine oF (a.ld 0 rfl rfl) (ec (ig _ _ _ _) (je ?_));rw[show((B.fin:Int) == 3)=(B.fin == 3) from G6 _ 3]
 cases hf:B.fin == 3 with
 | false=>
   refine gB (by simp) (H F h j (Sn.refl _ _) a f λw=>⟨.inl,?_⟩);rintro(i|⟨i,_⟩)
   ·exact i
   ·rw[i]at hf;simp at hf
 | true=>
   refine gU rfl ?_;have k:B.fin=3:=by simpa using hf
   have x:B.state<u.eh.length:=by
     rcases g.fin b B v with⟨e,_⟩|⟨e,_⟩|⟨_,_,e⟩
     ·omega
     ·omega
     ·exact e
   refine oF (a.ld 4 rfl rfl) (oF (a.ld 0 rfl rfl) ?_);refine Im g a.sw t f x λy i z s1 A m n=>H y i z s1 A.sw m λw=>?_;rw[n w];exact⟨λh=>h.imp id λh=>⟨k,h⟩,λh=>h.imp id λh=>h.2⟩
theorem Tg{G:ly}{I:tg}{Z x6:V}{b:Nat}{B:Bk}{X bn bp:V}{p:List Bool}(g:Good u)
  (H0:er F h (ey bx 44 (lC B X bn bp)::Oh u vv vb vs lb iT lw ins po p cs)) (hu:Af F h u vv vb vs) (hB:u.blocks[b]? =some B) (iv:iL eN F h B.ee X) (aq:p.length=u.ee.length)
  (H:∀F' h' cur v,Sn F h F' h'->er F' h' (fo eB fx cur v::Oh u vv vb vs lb iT lw ins po p cs)->cur.length=u.ee.length->(∀w,On cur w↔wZ u b (On p) w)->
   iW CS Q G I (.ptr lb 0) iT fR Z x6 (.I b) lw v h') :
  iU CS Q G I (.ptr lb 0) iT fR Z x6 (.I b) lw (.ptr bx 0) h:=by
 have nv:=g.nv;have nb:=g.nb;have ar:ik u b=B.ee:=by unfold ik;rw[hB]
 unfold Oh at H0 H;refine xh ?_;unfold oW;rw[wJ,fJ];obtain⟨H2,s2⟩:=H0.KX (E:=eB) (xs:=[]) (ws:=[]) (n:=0) fx rfl trivial rfl;have H2:er F (h.new (.cells 4 1 true false [])) (fo eB fx [] (.slice h.next 0 0)::_):=H2;have s2:Sn F h F (h.new (.cells 4 1 true false [])):=s2;generalize h.new (.cells 4 1 true false [])=h2 at*;obtain⟨q,h3,e3,n3,H3,s3⟩:=H2.RG 0 2 rfl rfl (lV:=1) (by decide) (by decide) (by simp;omega);have au:fh 4 1 1 (.slice h.next 0 0) lw h2=some (.val q h3):=e3;rw[au,ej];simp only[ot,LR]at H3;have aa:=s2.trans s3;have aw:=iv.since aa;have ax:=mP g hB;have t:∀n:Nat,n<=3000->jt .i64 (((n:Nat):Int)-1)=(n:Int)-1:=λn hn=>by rw[iO (by simp only[Fb];omega)]
 refine oF (H3.ld 1 rfl rfl) (ec aw.len (ec (iy _ _ _ _) ?_));rw[t _ ax]
 refine ym (λk x1 x2 x3 c e x7 x8 x9 f r h'=>∃(F':Nat->Prop) (l d:List Nat) (cur:List Bool),x1 = .ptr lb 0/\x2=iT/\x3=fR/\c=Z/\e=x6/\x7 = .I b/\x8=lw/\x9 = .ptr bx 0/\f=q/\r = .I ((l.length:Int)-1)/\k=l.length/\B.ee=l++d/\Sn F h F' h'/\cur.length=u.ee.length/\
  er F' h' (fo eB fx cur q::ey bx 44 (lC B X bn bp)::fo eB fx p lw::fo (eL eB) fL ins iT::po::ey lb 29 (uC u vv vb vs)::cs)/\∀w,bk u l.reverse (On cur) w↔wZ u b (On p) w) ?_ (k:=B.ee.length)
  ⟨F,B.ee,[],p,rfl,rfl,rfl,rfl,rfl,rfl,rfl,rfl,rfl,rfl,rfl,by simp,aa,aq,H3,λw=>by unfold wZ;rw[ar]⟩
 rintro k x1 x2 x3 c e x7 x8 x9 f r J ⟨F6,l,d,cur,rfl,e2,e3,e4,e6,rfl,e8,rfl,aQ,rfl,hk,K,Y,L,H6,i⟩;subst x2 x3 c e x8 f;unfold qe;have ay:l.length<=B.ee.length:=by rw[K,Ja];omega
 rcases gY l with rfl|⟨s,v,rfl⟩
 ·refine CL (gB (by simp) ?_);exact H F6 J cur q Y H6.vL L λw=>i w
 have M:((s++[v]).length:Int)-1=(s.length:Nat):=by simp
 rw[M];refine CL (gU (by omega) ?_);have j:B.ee[s.length]? =some v:=by rw[K];simp
 have az:At u v b s.length:=⟨B,hB,j⟩
 have aA:=g.vR v b _ az;obtain⟨x,N⟩:∃x,u.ee[v]? =some x:=⟨_,iH aA⟩
 have ab:iL eN F6 J B.ee X:=iv.since Y;have aB:=hu.since Y;obtain⟨l7,o7,aC,p1,p2⟩:=ab.nat j .i64;obtain⟨l8,o8,xw,aD,r1,r2,ac,_⟩:=aB.val N;refine oF (H6.ld 5 rfl rfl) (oF (H6.ld 1 rfl rfl) (ec p1 (ec p2 (ec r1 (ec r2 ?_)))));rw[ij];obtain⟨H7,s7⟩:=H6.GG 46 [V.I 0,V.I 0,V.I 0,V.I 0,V.ed,V.I 0];have g7:(J.new (.cells 46 1 true false [V.I 0,V.I 0,V.I 0,V.I 0,V.ed,V.I 0])).get J.next=some (.cells 46 1 true false [V.I 0,V.I 0,V.I 0,V.I 0,V.ed,V.I 0]):=ez _ _;generalize J.new (.cells 46 1 true false [V.I 0,V.I 0,V.I 0,V.I 0,V.ed,V.I 0])=h7 at*;refine⟨⟨g7,O.ie _ _ _ _ _⟩,Fu r2 (s7.eD _ aD),mN p2 (s7.eD _ aC),H7.ld 2 rfl rfl,H7.ld 6 rfl rfl,?_⟩;obtain⟨h8,e8,n8,P,s8⟩:=H7.WC 0 (ws:=qT x xw) (n:=6) rfl rfl rfl (by simp only[qT,fc,ac.one];rfl);rw[e8,ej];simp only[ot]at P;refine⟨n8,?_⟩;generalize J.next=xc at*;have m:=s7.trans s8;have P:=P.sw;have ae:en (.ptr xc (0+0)) h8=some (.I x.op):=P.ld 1 rfl rfl;refine oF ae (ec (ig _ _ _ _) ?_);have eH:mh (.bool ((x.op:Int) == 21)) (oB (fI 0 (V.ptr xc 0)) λag=>oB (en ag h8) λah=>ef .eql 3 ah (V.I 1))=some (.bool (gi u v)):=by
  simp only[eQ,fH,ae,ig,iM];unfold gi;rw[N];show _=some (V.bool (iC x.op));unfold iC;rw[show((x.op:Int) == 21)=(x.op == 21) from G6 _ 21,show((x.op:Int) == 1)=(x.op == 1) from G6 _ 1,Bool.or_comm]
 refine ec eH (je ?_);rw[List.reverse_append]at i;simp only[List.reverse_cons,List.reverse_nil,LR,W3]at i
 cases hq:gi u v with
 | true=>
   refine gU rfl (H F6 h8 cur q (Y.trans m) P.vL.vL L λw=>?_);rw[<-i w];unfold bk
   rw[if_pos hq]
 | false =>
   refine gB (by simp) ?_;obtain⟨l9,o9,_,p3,p4⟩:=(ab.since m).nat j .i64;obtain⟨MK,aR,aS,aE,aF,_,R,S⟩:=P.AD 0 rfl (k:=v) (y:=false) (u:=V.bool false) (show v<cur.length by omega) rfl rfl rfl;refine oF (P.ld 2 rfl rfl) (ec p3 (ec p4 (ec aE ?_)));rw[aF,ej];simp only[AT,ot]at R;have ai:=(ac.since m).since S;refine ec (R.CI 1 rfl rfl) ?_;refine Hl R ai λaG aT vu aj aH aI=>?_;have T:=Fp g N;have ak:∀y∈mD x,y<u.ee.length:=λy hy=>rV (g.use v x N y hy);have U:(cur.set v false).length=u.ee.length:=by rw[TF];exact L
   refine Ks aH aI (by have:=AR T;omega) (λy hy=>by rw[U];exact ak y hy) λW UR al o aP z=>?_;have A:en (.ptr xc (0+0)) W=some (.I (x.op:Nat)):=o.ld 1 rfl rfl;refine oF A (ec (ig _ _ _ _) ?_);have aJ:mh (.bool ((x.op:Int) == 22)) (oB (fI 0 (.ptr xc 0)) λaK=>oB (en aK W) λaL=>ef .eql 3 aL (V.I 23))=some (.bool (leaves x.op)):=by
     simp only[fH,eQ,A,ig,iM];unfold leaves;rw[show((x.op:Int) == 22)=(x.op == 22) from G6 _ 22,show((x.op:Int) == 23)=(x.op == 23) from G6 _ 23]
   refine ec aJ (je ?_);have am:=(((Y.trans m).trans S).trans aj).trans al;have an:=hu.since am;have C:∀y,On (cur.set v false) y↔On cur y/\y≠v:=λy=>by
     rw[rL (by omega)];constructor
     ·rintro(⟨_,h⟩|⟨h1,h2⟩)
      ·cases h
      ·exact⟨h2,h1⟩
     ·exact λh=> .inr ⟨h.2,h.1⟩
   have fin:∀(F':Nat->Prop) (h':Hp) (a:List Bool),Sn F6 J F' h'->er F' h' (fo eB fx a q::ey xc 46 (qT x xw)::ey bx 44 (lC B X bn bp)::fo eB fx p lw::fo (eL eB) fL ins iT::po::ey lb 29 (uC u vv vb vs)::cs)->a.length=u.ee.length->
       (∀y,On a y↔(On cur y/\y≠v)\/y∈sY u v)->jO CS Q G I (λx1 x2 x3 c e x7 x8 x9 f r h'=>∃k',k' < k/\∃(F':Nat->Prop) (l d:List Nat) (cur:List Bool),x1 = .ptr lb 0/\x2=iT/\x3=fR/\c=Z/\e=x6/\x7 = .I (b:Nat)/\x8=lw/\x9 = .ptr bx 0/\f=q/\r = .I ((l.length:Int)-1)/\k' = l.length/\B.ee=l++d/\Sn F h F' h'/\cur.length=u.ee.length/\
         er F' h' (fo eB fx cur q::ey bx 44 (lC B X bn bp)::fo eB fx p lw::fo (eL eB) fL ins iT::po::ey lb 29 (uC u vv vb vs)::cs)/\∀w,bk u l.reverse (On cur) w↔wZ u b (On p) w)
         (.ptr lb 0) iT fR Z x6 (.I (b:Nat)) lw (.ptr bx 0) q (.I (s.length:Nat)) h':=by
     intro F' h' a s' H' ao aM;refine xb ?_;unfold pg;refine ec (iy _ _ _ _) ?_;rw[t s.length (by simp at ay;omega)];refine⟨s.length,by rw[hk];simp,F',s,v::d,a,rfl,rfl,rfl,rfl,rfl,rfl,rfl,rfl,rfl,rfl,rfl,by rw[K];simp,Y.trans s',ao,H'.vL,λw=>?_⟩;rw[<-i w]
     conv=>rhs;unfold bk
     rw[if_neg (by rw[hq];simp)];exact wR aM w
   have D:=((m.trans S).trans aj).trans al
   cases hlv:leaves x.op with
   | false=>
     refine gB (by simp) (fin aG W UR D o (by omega) λy=>?_);rw[z y,C y];unfold sY;rw[N]
     simp[hlv]
   | true=>
     refine gU rfl ?_;have M:=g.leave v x N hlv;refine oF (o.ld 6 rfl rfl) (oF (o.ld 1 rfl rfl) ?_);refine Im g o an (by omega) M λF' h' l' s' H' aN aO=>fin F' h' l' (D.trans s') H' aN λy=>?_;rw[aO y,z y,C y];unfold sY;rw[N];simp[hlv,or_assoc]
end
