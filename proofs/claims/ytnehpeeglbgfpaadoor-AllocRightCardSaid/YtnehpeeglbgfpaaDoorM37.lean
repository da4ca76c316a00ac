/- Parts. -/
import Derived.Test.YtnehpeeglbgfpaaDoorM29
import Derived.Test.YtnehpeeglbgfpaaDoorM33
set_option maxHeartbeats 4000000
namespace Go.Proofs.YtnehpeeglbgfpaaDoor.Hx
open Un Dm
section
variable{F F':Nat->Prop}{h h':Hp}{cs:List Pc}{Q:fm}{u:U}{vv vb vs:V}
theorem iL.Y6{fs:List Fm}{f:V}(a:iL eF F h fs f){i:Nat}{x:Fm}(d:fs[i]? =some x) :
  ∃l o a b,F l/\gy 4 f (.I i)=some (.ptr l o)/\en (.ptr l (o+2)) h=some a/\en (.ptr l (o+3)) h=some b/\iL eN F h x.locals a/\iL eN F h x.stack b:=by
 obtain⟨hi,rfl⟩:=jw.1 d;obtain⟨l,o,w,e,g,m,⟨a,b,rfl,j,k⟩,c⟩:=a.ix hi .i64;exact⟨l,o,a,b,e,g,c 2 a rfl,c 3 b rfl,j,k⟩
theorem De:∀{fs:List Fm},(∀f∈fs,f.locals.length<=40/\f.stack.length<=60)->(jh fs).length<=fs.length*100
 |[],_=>by simp[jh]
 | f::fs,hf=>by
   have a:=De (fs:=fs) λf b=>hf f (V4 _ b);obtain⟨c,d⟩:=hf f (M9 ..);unfold jh at a⊢;simp only[Wg,Ja,MX];omega
theorem Ks{l:List Bool}{v w:V}{ws:List Nat}(q:er F h (fo eB fx l v::cs))(g:iL eN F h ws w)(A:ws.length<1000000)(r:∀x∈ws,x<l.length)
  (H:∀h' b,Sn F h F h'->er F h' (fo eB fx b v::cs)->b.length=l.length->(∀x,On b x↔On l x\/x∈ws)->Q (.tuple []) h'):cP CS gP [v,w] h Q:=by
 refine Aw rfl rfl ?_;unfold sS
 refine yi (λk d f j h'=>∃(i:Nat) (b:List Bool),d=v/\f=w/\j = .I i/\i+k=ws.length/\Sn F h F h'/\er F h' (fo eB fx b v::cs)/\b.length=l.length/\∀x,On b x↔On l x\/x∈ws.take i) ?_ (k:=ws.length)
  ⟨0,l,rfl,rfl,rfl,by omega,Sn.refl _ _,q,rfl,λx=>by simp⟩
 rintro k d f j a ⟨i,m,e0,e1,rfl,B,s1,n,c,o⟩;subst d f;unfold qn;refine ec (g.since s1).len ?_;by_cases hi:i<ws.length;rotate_left
 ·refine jG (H a m s1 n c λx=>?_);rw[o x,JE (by omega)]
 refine hV ?_;obtain⟨l2,o2,_,s,t⟩:=(g.since s1).nat (iH hi) .i64;have C:=r _ (Cj hi);obtain⟨l3,D,E,e1,e2,_,p,z⟩:=n.AD 0 rfl (k:=ws[i]) (y:=true) (u:=V.bool true) (by omega) rfl rfl rfl;refine ec s (ec t (ec e1 ?_));rw[e2,ej];simp only[ot]at p;refine gq ⟨k-1,by omega,i+1,m.set ws[i] true,rfl,rfl,rfl,by omega,s1.trans z,p,by simp[c],λx=>?_⟩;rw[rL (by omega),KM hi,o x];simp only[and_true,AI,Ig];constructor
 ·rintro(a|⟨_,a|a⟩)
  ·exact .inr (.inr a)
  ·exact .inl a
  ·exact .inr (.inl a)
 ·rintro(a|a|a)
  ·by_cases e:x=ws[i]
   ·exact .inl e
   ·exact .inr ⟨e,.inl a⟩
  ·by_cases e:x=ws[i]
   ·exact .inl e
   ·exact .inr ⟨e,.inr a⟩
  ·exact .inl a
theorem PU{fs:List Fm}{f:V}(G:er F h cs)(t:iL eF F h fs f)(i:fs.length<=30/\∀f∈fs,f.locals.length<=40/\f.stack.length<=60)
  (H:∀F' h' v,Sn F h F' h'->er F' h' cs->iL eN F' h' (jh fs) v->Q v h'):cP CS iq [.agg [f]] h Q:=by
 refine zb rfl rfl ?_;unfold qO;refine qx G (by simp only[fc,t.one];rfl) λu m s1=>?_;generalize h.next=bx at*;have m:er F u (fo eN fy [] .ed::ey bx 53 [f]::cs):=m.add .nil λ_ h=>h
 refine wP (λk w n x h'=>∃(j:Nat) (v:V),w = .ptr bx 0/\n=v/\x = .I j/\j+k=fs.length/\Sn F u F h'/\er F h' (fo eN fy (jh (fs.take j)) v::ey bx 53 [f]::cs)) ?_ (k:=fs.length)
  ⟨0,_,rfl,rfl,rfl,by omega,Sn.refl _ _,m⟩
 rintro k w n x I ⟨j,v,rfl,y,rfl,U,p,b⟩;subst n;unfold nz;have e:=(t.since s1).since p;refine oF (b.ld 1 rfl rfl) (ec e.len ?_);by_cases hj:j<fs.length;rotate_left
 ·refine jG ?_;rw[JE (by omega)]at b;obtain⟨d,g,r3⟩:=b.mi 0 rfl;simp only[ot]at d;exact H _ _ _ ((s1.trans p).trans g) d.tail.tail r3
 refine hV ?_;obtain⟨l,o,a,c,J,z,K,A,L,M⟩:=e.Y6 (iH hj);obtain⟨W,X⟩:=i.2 _ (Cj hj);have hlen:=De (fs:=fs.take j) λf N=>i.2 f (Wn N);rw[MI]at hlen;have q:(jh (fs.take j)).length<=3000:=by
  have:=i.1;have:min j fs.length<=30:=by omega
  omega
 refine oF (b.ld 1 rfl rfl) (ec z (oF K (oF (b.ld 1 rfl rfl) (ec z (oF A ?_)))));obtain⟨B,C,y,O,d,g⟩:=b.Nj 0 rfl (lV:=8) L (by decide) (by decide) (by omega);have r:fh 3 1 8 v a I=some (.val B C):=y;rw[r,ej];simp only[ot]at d;refine⟨O,mN A (g.eD _ J),d.ld 1 rfl rfl,?_⟩;obtain⟨D,P,e4,R,E,S⟩:=d.Nj 0 rfl (lV:=8) (M.since g) (by decide) (by decide) (by simp only[Ja];omega);have s:fh 3 1 8 B c C=some (.val D P):=e4;rw[s,ej];simp only[ot]at E;refine⟨R,gq ⟨k-1,by omega,j+1,D,rfl,rfl,rfl,by omega,(p.trans g).trans S,?_⟩⟩;have T:jh (fs.take (j+1))=jh (fs.take j)++fs[j].locals++fs[j].stack:=by
  rw[KM hj];unfold jh;simp only[Xx,Wg,List.flatMap_nil,IN,MQ]
 rw[T];exact E
end
open Un Dm
theorem Jr{u:U}(g:Good u){t b j:Nat}{T:Bk}(f:u.blocks[t]? =some T)(r:t∈next u b)(s:∀(i v:Nat)(x:Vl),i<j->T.ee[i]? =some v->u.ee[v]? =some x->x.op=21)
  (y:∀(v:Nat) (x:Vl),T.ee[j]? =some v->u.ee[v]? =some x->x.op≠21) (w:Nat):w∈T.ee.take j↔gw u t w:=by
 have p:ik u t=T.ee:=by unfold ik;rw[f]
 unfold gw;rw[p];have t0:t≠0:=λe=>by
  have c:b∈Un.ahead u t:=zm.2 r;rw[e,g.KD]at c;cases c
 have two:∀(v x k:Nat) (X:Vl),T.ee[k]? =some v->u.ee[v]? =some X->gi u v=true->X.op=21:=by
  intro v _ k X h q a;unfold gi at a;rw[q]at a;have a:iC X.op=true:=a;unfold iC at a;rw[IY,Jg,Jg]at a;rcases a with e|e
  ·exact absurd (g.par v t k X ⟨T,f,h⟩ q e) t0
  ·exact e
 constructor
 ·intro n;refine⟨Wn n,?_⟩;obtain⟨i,hi⟩:=mM.1 n;have l:i<j:=by
   have:=(jw.1 hi).1;rw[MI]at this;omega
  rw[Vo l]at hi;have d:=g.vR w t i ⟨T,f,hi⟩;have m:=iH d;have c:=s i w _ l hi m;unfold gi;rw[m];show iC _=true;unfold iC;rw[c];rfl
 ·rintro⟨n,a⟩;obtain⟨k,h⟩:=mM.1 n;rcases Ji k j with c|c
  ·exact xu ((Vo c).trans h)
  ·exfalso;have z:=(jw.1 h).1;have o:=iH (show j<T.ee.length by omega);have A:=Good.DN g (w:=T.ee[j]) (j:=j) ⟨T,f,h⟩ a ⟨T,f,o⟩ c;have d:=g.vR _ t j ⟨T,f,o⟩;have m:=iH d;exact y _ _ o m (two _ 0 _ _ o m A)
section
variable{F F':Nat->Prop}{h h':Hp}{cs:List Pc}{Q:fm}{u:U}{vv vb vs:V}{lb bx:Nat}{iT fR lw:V}{ins:List (List Bool)}{po:Pc}
def Oh(u:U)(vv vb vs:V)(lb:Nat)(iT lw:V)(ins:List (List Bool))(po:Pc)(l:List Bool)(cs:List Pc):List Pc:=fo eB fx l lw::fo (eL eB) fL ins iT::po::ey lb 29 (uC u vv vb vs)::cs
theorem Ya{Z:ly}{aa:tg}{J K:V}{b:Nat}{B:Bk}{W L X:V}{l0:List Bool}(g:Good u)
  (H0:er F h (ey bx 44 (lC B W L X)::Oh u vv vb vs lb iT lw ins po l0 cs)) (hu:Af F h u vv vb vs) (hB:u.blocks[b]? =some B) (iN:iL eN F h B.next L) (a0:ins.length=u.blocks.length) (aF:∀r∈ins,r.length=u.ee.length)
  (aG:l0.length=u.ee.length) (aH:∀w,¬On l0 w)
  (H:∀h' l,Sn F h F h'->er F h' (ey bx 44 (lC B W L X)::Oh u vv vb vs lb iT lw ins po l cs)->l.length=u.ee.length->(∀w,On l w↔ln (iz ins) (gw u) (next u b) (λ_=>False) w)->
   j7 CS Q Z aa (.ptr lb 0) iT fR J K (.I b) lw (.ptr bx 0) (.I (0:Nat)) h') :
  lY CS Q Z aa (.ptr lb 0) iT fR J K (.I b) lw (.ptr bx 0) (.I (0:Nat)) h:=by
 have nv:=g.nv;have nb:=g.nb;have ab:next u b=B.next:=by unfold next;rw[hB]
 have a1:=ES g hB;unfold Oh at H0 H
 refine yC (λk D p q c d E s G f h'=>∃(n:Nat) (l:List Bool),D = .ptr lb 0/\p=iT/\q=fR/\c=J/\d=K/\E = .I b/\s=lw/\G = .ptr bx 0/\f = .I n/\n+k=B.next.length/\Sn F h F h'/\l.length=u.ee.length/\
  er F h' (ey bx 44 (lC B W L X)::fo eB fx l lw::fo (eL eB) fL ins iT::po::ey lb 29 (uC u vv vb vs)::cs)/\∀w,On l w↔ln (iz ins) (gw u) (B.next.take n) (λ_=>False) w) ?_ (k:=B.next.length)
  ⟨0,l0,rfl,rfl,rfl,rfl,rfl,rfl,rfl,rfl,rfl,by omega,Sn.refl _ _,aG,H0,λw=>by
   simp only[Wi,ln,iff_false];exact aH w⟩
 rintro k D p q c d E s G f M ⟨n,l,rfl,e2,e3,e4,e6,rfl,e8,rfl,rfl,hk,s3,hl,H3,ho⟩;subst p q c d s;unfold pQ;have aI:=hu.since s3;have ac:=iN.since s3;refine oF (H3.ld 0 rfl rfl) (ec ac.len ?_);by_cases hn:n<B.next.length;rotate_left
 ·refine jG ?_;exact H M l s3 H3 hl λw=>by rw[ho w,ab,JE (by omega)]
 refine hV ?_;have N:B.next[n]∈next u b:=by rw[ab];exact Cj hn
 have ae:B.next[n]<u.blocks.length:=g.nx b _ N;obtain⟨t,ht⟩:∃t,B.next[n]? =some t:=⟨_,iH hn⟩
 obtain⟨_,ag⟩:=jw.1 ht;rw[ag]at ae N;obtain⟨T,hT⟩:∃T,u.blocks[t]? =some T:=⟨_,iH ae⟩
 obtain⟨r,hr⟩:∃r,ins[t]? =some r:=⟨_,iH (show t<ins.length by omega)⟩
 have a2:=aF r (xu hr);obtain⟨l4,o4,_,j1,j2⟩:=ac.nat ht .i64;refine oF (H3.ld 0 rfl rfl) (ec j1 (ec j2 ?_))
 refine xZ (λk D p q c d E s G f ah ai h'=>∃(j:Nat) (A:List Bool),D = .ptr lb 0/\p=iT/\q=fR/\c=J/\d=K/\E = .I b/\s=lw/\G = .ptr bx 0/\f = .I n/\ah = .I t/\ai = .I j/\j+k=r.length/\
  Sn F M F h'/\A.length=u.ee.length/\er F h' (ey bx 44 (lC B W L X)::fo eB fx A lw::fo (eL eB) fL ins iT::po::ey lb 29 (uC u vv vb vs)::cs)/\∀w,On A w↔On l w\/(w<j/\On r w)) ?_ (k:=r.length)
  ⟨0,l,rfl,rfl,rfl,rfl,rfl,rfl,rfl,rfl,rfl,rfl,rfl,by omega,Sn.refl _ _,hl,H3,λw=>by simp⟩
 rintro k2 D p q c d E s G f ah ai h5 ⟨j,A,rfl,e2,e3,e4,e6,rfl,e8,rfl,rfl,rfl,rfl,a3,s5,aj,Y,O⟩;subst p q c d s;unfold pM;have P:=aI.since s5;refine oF (Y.ld 4 rfl rfl) (ec P.v.len ?_);by_cases hj:j<r.length
 ·refine hV ?_;obtain⟨y,hy⟩:∃y,r[j]? =some y:=⟨_,iH hj⟩
  obtain⟨z,hz⟩:∃z,A[j]? =some z:=⟨_,iH (show j<A.length by omega)⟩
  obtain ⟨l6,o6,w6,m1,m2,m3⟩:=Y.OG 2 rfl hr;obtain⟨l7,o7,_,p1,p2⟩:=m3.bool hy .i64;obtain⟨l8,o8,q1,q2⟩:=Y.Gf 1 rfl hz .i64;obtain⟨l9,o9,h9,e1,e2,_,H9,s9⟩:=Y.AD 1 rfl (k:=j) (y:=(z ||y)) (u:=V.bool (z ||y)) (show j<A.length by omega) rfl rfl rfl;have eO:mh (.bool z) (oB (some iT) λaJ=>oB (some (V.I t)) λaK=>oB (gy 1 aJ aK) λaL=>oB (en aL h5) λaM=>oB (some (V.I j)) λaN=>oB (gy 1 aM aN) λaO=>en aO h5)=some (.bool (z ||y)):=by
   simp only[eQ,m1,m2,p1,p2,iM]
  refine ec q1 (ec q2 (ec eO (ec e1 ?_)));rw[e2,ej];simp only[AT,ot]at H9;refine gq ⟨k2-1,by omega,j+1,A.set j (z ||y),rfl,rfl,rfl,rfl,rfl,rfl,rfl,rfl,rfl,rfl,rfl,by omega,s5.trans s9,by simp[aj],H9,λw=>?_⟩;rw[rL (by omega),O w];by_cases e:w=j
  ·subst e;have aP:On l w↔z=true:=by
    have a:=O w;unfold On at a⊢;rw[hz]at a;constructor
    ·intro o;have:=a.2 (.inl o);simpa using this
    ·intro o;subst o;rcases a.1 rfl with M|M
     ·exact M
     ·omega
   have aQ:On r w↔y=true:=by unfold On;rw[hy];simp
   rw[aP,aQ];simp
  ·constructor
   ·rintro(⟨a,_⟩|⟨_,a|⟨a,o⟩⟩)
    ·exact absurd a e
    ·exact .inl a
    ·exact .inr ⟨by omega,o⟩
   ·rintro(a|⟨a,o⟩)
    ·exact .inr ⟨e,.inl a⟩
    ·exact .inr ⟨e,.inr ⟨by omega,o⟩⟩
 refine jG ?_;obtain⟨l6,o6,tv,tn,tp,_,k1,aR,kv,kN,kp,_⟩:=P.wh hT;refine oF (Y.ld 4 rfl rfl) (ec k1 (ec aR ?_));refine jy Y rfl rfl (by simp only[lC,fc,kv.one,kN.one,kp.one];rfl) λh6 H6 s6=>?_;generalize h5.next=tx at*;have aS:=kv.since s6;have aT:=P.since s6;have a4:=mP g hT;have aU:∀w,On A w↔On l w\/On r w:=λw=>by
  rw[O w];constructor
  ·exact λh=>h.imp id λh=>h.2
  ·exact λh=>h.imp id λh=>⟨by have:=Ny h;omega,h⟩
 refine yh (λk D p q c d E s G f ak al h'=>∃(m:Nat) (l2:List Bool),D = .ptr lb 0/\p=iT/\q=fR/\c=J/\d=K/\E = .I b/\s=lw/\G = .ptr bx 0/\f = .I n/\ak = .ptr tx 0/\al = .I m/\m+k=T.ee.length/\
  Sn F h6 F h'/\l2.length=u.ee.length/\er F h' (ey tx 44 (lC T tv tn tp)::ey bx 44 (lC B W L X)::fo eB fx l2 lw::fo (eL eB) fL ins iT::po::ey lb 29 (uC u vv vb vs)::cs)/\
  (∀(i v:Nat) (x:Vl),i<m->T.ee[i]? =some v->u.ee[v]? =some x->x.op=21)/\∀w,On l2 w↔On A w/\¬(w∈T.ee.take m)) ?_ (k:=T.ee.length)
  ⟨0,A,rfl,rfl,rfl,rfl,rfl,rfl,rfl,rfl,rfl,rfl,rfl,by omega,Sn.refl _ _,aj,H6,λi _ _ h=>by omega,λw=>by simp⟩
 rintro k3 D p q c d E s G f ak al C ⟨m,l2,rfl,e2,e3,e4,e6,rfl,e8,rfl,rfl,rfl,rfl,a5,s7,am,H7,an,ao⟩;subst p q c d s;unfold pP;have aq:=aS.since s7;have aV:=aT.since s7;refine oF (H7.ld 0 rfl rfl) (ec aq.len (ec (jo _ _ _ _) ?_))
 have I:(∀(v:Nat) (x:Vl),T.ee[m]? =some v->u.ee[v]? =some x->x.op≠21)->∃k',k' < k/\∃(n:Nat) (l:List Bool),V.ptr lb 0 = .ptr lb 0/\iT=iT/\fR=fR/\J=J/\K=K/\V.I b = .I b/\lw=lw/\V.ptr bx 0 = .ptr bx 0/\V.I ((B.next.length-k+1:Nat):Int) = .I n/\n+k' = B.next.length/\Sn F h F C/\l.length=u.ee.length/\
   er F C (ey bx 44 (lC B W L X)::fo eB fx l lw::fo (eL eB) fL ins iT::po::ey lb 29 (uC u vv vb vs)::cs)/\∀w,On l w↔ln (iz ins) (gw u) (B.next.take n) (λ_=>False) w:=by
  intro aW;refine⟨k-1,by omega,n+1,l2,rfl,rfl,rfl,rfl,rfl,rfl,rfl,rfl,by rw[show B.next.length-k+1=n+1 by omega],by omega,((s3.trans s5).trans s6).trans s7,am,H7.tail,λw=>?_⟩;have R:B.next.take (n+1)=B.next.take n++[t]:=by rw[KM hn,ag]
  have e1:iz ins t w↔On r w:=⟨λ⟨r',a,o⟩=>by rw[hr]at a;cases a;exact o,λh=>⟨r,hr,h⟩⟩
  rw[R,KA,ao w,aU w,ho w,e1,Jr g hT N an aW w]
 by_cases hm:m<T.ee.length;rotate_left
 ·rw[OI (by omega)];refine ec (CY _) (je (gB (by simp) ?_));refine gq ?_;rw[show n+1=B.next.length-k+1 by omega];refine I λv x a _=>?_;have:=(jw.1 a).1;omega
 rw[Qy (by omega)];obtain⟨v,hv⟩:∃v,T.ee[m]? =some v:=⟨_,iH hm⟩
 have aX:v<u.ee.length:=g.vR v t m ⟨T,hT,hv⟩;obtain⟨x,hx⟩:∃x,u.ee[v]? =some x:=⟨_,iH aX⟩
 obtain ⟨MK,a6,_,q1,q2⟩:=aq.nat hv .i64;obtain⟨Ir,aY,xw,_,r1,_,_,ra⟩:=aV.val hx;have l3:en (.ptr lb (0+2)) C=some vv:=H7.ld 5 rfl rfl;have ar:en (.ptr tx (0+0)) C=some tv:=H7.ld 0 rfl rfl;have aZ:en (.ptr Ir (aY+0)) C=some (.I x.op):=ra.op;have eA:jq (.bool true) (oB (fI 2 (V.ptr lb 0)) λau=>oB (en au C) λaw=>oB (fI 0 (V.ptr tx 0)) λax=>oB (en ax C) λay=>oB (some (V.I m)) λaz=>oB (gy 1 ay az) λaA=>oB (en aA C) λaB=>oB (gy 6 aw aB) λaC=>oB (fI 0 aC) λaD=>oB (en aD C) λaE=>ef .eql 3 aE (V.I 21))=some (.bool (x.op == 21)):=by
  simp only[eQ,fH,l3,ar,q1,q2,r1,aZ,ig,EU];rw[show((x.op:Int) == 21)=(x.op == 21) from G6 _ 21]
 refine ec eA (je ?_)
 cases hq:x.op == 21 with
 | true=>
   refine gU rfl ?_;obtain⟨UR,a7,h8,e1,e2,_,H8,s8⟩:=H7.AD 2 rfl (k:=v) (y:=false) (u:=V.bool false) (show v<l2.length by omega) rfl rfl rfl;refine oF ar (ec q1 (ec q2 (ec e1 ?_)));rw[e2,ej];simp only[AT,ot]at H8;have R:T.ee.take (m+1)=T.ee.take m++[v]:=by
     obtain⟨a,rfl⟩:=jw.1 hv;exact KM a
   refine iA (m:=1) (by omega) (by omega) ⟨k3-1,by omega,m+1,l2.set v false,rfl,rfl,rfl,rfl,rfl,rfl,rfl,rfl,rfl,rfl,rfl,by omega,s7.trans s8,by simp[am],H8,λi v' x' hi S U=>?_,λw=>?_⟩
   ·rcases Ji i m with a|a
    ·exact an i v' x' a S U
    ·obtain rfl:i=m:=by omega
     rw[hv]at S;cases S;rw[hx]at U;cases U;simpa using hq
   ·rw[rL (by omega),ao w,R]
    simp only[AI,Ig];constructor
    ·rintro(⟨_,a⟩|⟨a,o,M⟩)
     ·cases a
     ·exact⟨o,λh4=>h4.elim M a⟩
    ·rintro⟨a,o⟩
     exact .inr ⟨λe=>o (.inr e),a,λh4=>o (.inl h4)⟩
 | false=>
   refine gB (by simp) ?_;refine iA (m:=1) (by omega) (by omega) ?_;rw[show n+1=B.next.length-k+1 by omega];refine I λv' x' a o=>?_;rw[hv]at a;cases a;rw[hx]at o;cases o;simpa using hq
end
