/- Parts. -/
import Derived.Test.YtcoaokdoecgcbaaGreatDoorM28
set_option maxHeartbeats 4000000
namespace Go.Proofs.YtcoaokdoecgcbaaGreatDoor.Hx
open Un Dm
theorem Jw{u:U}{r:List Nat}{P b:Nat->Prop}(h:∀w,P w↔b w)(w:Nat):bk u r P w↔bk u r b w:=⟨A4 (λx a=>(h x).1 a) w,A4 (λx a=>(h x).2 a) w⟩
section
variable{F F':Nat->Prop}{h h':Hp}{cs:List Pc}{Q:fo}{u:U}{vv vb vs:V}{lv:Nat}{qV jm:V}{ins outs:List (List Bool)}
theorem ZH(g:Good u)(H0:ej F h (fE (eL eB) hY ins qV::fE (eL eB) hY outs jm::ft lv me [.I u.func,.I u.pc,vv,vb,vs,qV,jm]::cs))(hu:Is F h u vv vb vs)
  (aa:ins.length=u.blocks.length) (M:∀r∈ins,r.length=u.ee.length) (aH:outs.length=u.blocks.length) {b:Nat} {B:Bk} (L:u.blocks[b]? =some B)
  (H:∀F' h' c row a,Sn F h F' h'->ej F' h' (fE (eL eB) hY (ins.set b row) qV::fE (eL eB) hY (outs.set b a) jm::ft lv me [.I u.func,.I u.pc,vv,vb,vs,qV,jm]::cs)->row.length=u.ee.length->a.length=u.ee.length->
   (∀w,On a w↔O1 u (jN u) (mH ins) b w)->(∀w,On row w↔JS u b (On a) w)->(c=false->ins[b]? =some row)->(c=true->ins[b]?≠some row)->Q (.bool c) h') :
  cP CS od [.ptr lv 0,.I b] h Q:=by
 refine Hk rfl rfl ?_;unfold yE;have nv:=g.nv;have nb:=g.nb;have aI:=(kE.1 L).1;have C0:Lk F h _ lv u vv vb vs qV jm:=⟨H0,⟨2,rfl⟩,hu⟩
 refine zdl g C0 (ii:=0) rfl aa M L λF1 f a vl s1 H1 N ab=>?_;refine oN (H1.ld 3 rfl rfl) ?_;rw[tY,hH];obtain⟨H2,s2⟩:=H1.NX (E:=eB) (xs:=[]) (ws:=[]) (n:=0) hC rfl trivial rfl;have H2:ej F1 (f.new (.cells 4 1 true false [])) (fE eB hC [] (.slice f.next 0 0)::fE eB hC a vl::_):=H2;have s2:Sn F1 f F1 (f.new (.cells 4 1 true false [])):=s2;have g2:(f.new (.cells 4 1 true false [])).get f.next=some (.cells 4 1 true false []):=eJ _ _;generalize f.new (.cells 4 1 true false [])=P at*;refine⟨⟨g2,O.jA _ _ _ _ _⟩,H2.ld 4 rfl rfl,?_⟩;obtain⟨v3,h3,e3,n3,H3,s3⟩:=H2.zek 0 1 rfl rfl (lE:=1) (by decide) (by decide) (by simp;omega);have ac:eQ 4 1 1 (.slice f.next 0 0) vl P=some (.val v3 h3):=e3;rw[ac,eh];simp only[AD,OJ]at H3;obtain⟨H4,s4,r4⟩:=H3.ji 0 rfl;simp only[AD]at H4;obtain⟨l5,o5,h5,e5,e6,n5,R,s5⟩:=H4.L9 3 rfl (k:=b) (y:=a) (u:=v3) (show b<outs.length by omega) rfl r4.one ⟨v3,rfl,r4⟩;refine⟨n3,ec e5 ⟨H3.ld 4 rfl rfl,?_⟩⟩;rw[e6,eh];refine⟨n5,?_⟩;simp only[OH,AD]at R;have R:=R.tail;have S:=(((s1.trans s2).trans s3).trans s4).trans s5;have C:=hu.since S;generalize (λl=>F1 l\/Loc v3 l)=F5 at*;have C5:Lk F5 h5 _ lv u vv vb vs qV jm:=⟨R,⟨3,rfl⟩,C⟩
 obtain⟨l6,o6,bv,bn,bp,_,i1,i2,iv,iN,ip,ba⟩:=C.AA L;refine ec (fi _ _) (ec (fN _ _ _) (oF (C5.ld 3 rfl) (ec i1 (oF ba.ee (ec iv.len ?_)))));have ae:=qT g L;have ag:jr u b=B.ee:=by unfold jr;rw[L]
 have t:∀n:Nat,n<=3000->iy .i64 (((n:Nat):Int)-1)=(n:Int)-1:=λn hn=>by rw[gS (by simp only[Cf];omega)]
 refine ec (iu _ _ _ _) ?_;rw[t _ ae];obtain⟨r0,p⟩:∃r,ins[b]? =some r:=⟨_,iz (show b<ins.length by omega)⟩
 have aF:=M r0 (zQ p)
 have fin:∀(x:Nat->Prop) (m:Hp) (cur:List Bool),Sn F5 h5 x m->ej x m (fE eB hC cur vl::fE (eL eB) hY ins qV::fE (eL eB) hY (outs.set b a) jm::ft lv me [.I u.func,.I u.pc,vv,vb,vs,qV,jm]::cs)->cur.length=u.ee.length->
   (∀w,On cur w↔JS u b (On a) w)->pq CS Q (.ptr lv 0) (.I b) vl (.bool false) vl (.I u.ee.length) (.I 0) m:=by
  intro x m cur D o e ah
  refine CR (λk T U G x8 I W X h'=>∃(i:Nat) (c:Bool),T = .ptr lv 0/\U = .I b/\G=vl/\x8 = .bool c/\I=vl/\W = .I u.ee.length/\X = .I i/\i+k=u.ee.length/\h' = m/\(c=false↔cur.take i=r0.take i)) ?_ (k:=u.ee.length)
   ⟨0,false,rfl,rfl,rfl,rfl,rfl,rfl,rfl,by omega,rfl,by simp⟩
  rintro k T U G x8 I W X h' ⟨i,c,rfl,rfl,e5,rfl,aJ,rfl,rfl,hk,rfl,q⟩;subst G I;unfold uQ;by_cases hi:i<u.ee.length
  ·refine gU ?_;obtain⟨y,hy⟩:∃y,cur[i]? =some y:=⟨_,iz (show i<cur.length by omega)⟩
   obtain⟨z,hz⟩:∃z,r0[i]? =some z:=⟨_,iz (show i<r0.length by omega)⟩
   obtain ⟨l7,o7,p1,p2⟩:=o.VH 0 rfl hy .i64;obtain⟨l8,o8,w8,q1,q2,q3⟩:=o.zcV 1 rfl p;obtain⟨l9,o9,_,t1,t2⟩:=q3.bool hz .i64;have ai:eC (.ptr lv (0+5)) h' = some qV:=o.ld 3 rfl rfl;have eO:mm (.bool c) (oB (some (V.bool y)) λaj=>oB (some (V.ptr lv 0)) λak=>oB (gq ak) λal=>oB (fK 5 al) λam=>oB (eC am h') λan=>oB (some (V.I b)) λao=>oB (gP 1 an ao) λaq=>oB (eC aq h') λar=>oB (some (V.I i)) λau=>oB (gP 1 ar au) λaw=>oB (eC aw h') λax=>ef .neq 4 aj ax)=some (.bool (c ||(y != z))):=by
    simp only[eD,fi,fN,ai,q1,q2,t1,t2];rw[show ef .neq 4 (V.bool y) (V.bool z)=some (.bool (y != z)) from Pl y z,iC]
   refine ec p1 (ec p2 (ec eO ?_));refine gf ⟨k-1,by omega,i+1,c ||(y != z),rfl,rfl,rfl,rfl,rfl,rfl,rfl,by omega,rfl,?_⟩;obtain⟨ay,rfl⟩:=kE.1 hy;obtain⟨az,rfl⟩:=kE.1 hz;rw[Nt ay,Nt az,wBj,q];constructor
   ·rintro⟨f,P⟩;rw[f];congr 2;simpa using P
   ·intro f;obtain⟨P,h3⟩:=List.append_inj f (by simp;omega);refine⟨P,?_⟩;simp at h3;simp[h3]
  ·refine iY ?_;obtain rfl:i=u.ee.length:=by omega
   obtain⟨H7,s7,r7⟩:=o.ji 0 rfl;simp only[AD]at H7;obtain⟨l8,o8,h8,e8,e9,n8,H8,s8⟩:=H7.L9 1 rfl (k:=b) (y:=cur) (u:=vl) (show b<ins.length by omega) rfl r7.one ⟨vl,rfl,r7⟩;refine oN (o.ld 3 rfl rfl) (ec e8 ?_);rw[e9,eh];simp only[OH,AD]at H8;rw[Uj (by omega),Uj (by omega)]at q;refine H _ _ c cur a (((S.trans D).trans s7).trans s8) H8.tail e N ab ah (λhc=>?_) λhc he=>?_
   ·rw[q.1 hc];exact p
   ·rw[p]at he;have:=q.2 (Option.some.inj he).symm;rw[hc]at this;cases this
 refine DA (λk T U G x6 x7 h'=>∃(F':Nat->Prop) (l d:List Nat) (cur:List Bool),T = .ptr lv 0/\U = .I b/\G=vl/\x6=bv/\x7 = .I ((l.length:Int)-1)/\k=l.length/\B.ee=l++d/\Sn F5 h5 F' h'/\cur.length=u.ee.length/\
  ej F' h' (fE eB hC cur vl::fE (eL eB) hY ins qV::fE (eL eB) hY (outs.set b a) jm::ft lv me [.I u.func,.I u.pc,vv,vb,vs,qV,jm]::cs)/\∀w,bk u l.reverse (On cur) w↔JS u b (On a) w) ?_ (k:=B.ee.length)
  ⟨F5,B.ee,[],a,rfl,rfl,rfl,rfl,rfl,rfl,by simp,Sn.refl _ _,N,R,λw=>by unfold JS;rw[ag]⟩
 rintro k T U G x6 x7 m ⟨x,l,d,cur,rfl,rfl,aK,aL,rfl,hk,J,D,e,o,j⟩;subst G x6;unfold ua;have K:=o.len 0 (xs:=cur) rfl;rw[e]at K;have OM:l.length<=B.ee.length:=by rw[J,oQ];omega
 refine ec (jc _ _ _ _) ?_;rcases iQ l with rfl|⟨s,v,rfl⟩
 ·rw[show decide ((0:Int)<=(([]:List Nat).length:Int)-1)=false from rfl];refine qx (qx (qx (qx (qx (YJ (ec (T1 _) (gh (gD (by simp) (ec K ?_)))))))));exact fin x m cur D o e λw=>(j w)
 ·rw[XJ (by simp)];have aA:((s++[v]).length:Int)-1=(s.length:Nat):=by simp
  rw[aA];have A:B.ee[s.length]? =some v:=by rw[J];simp
  have aB:At u v b s.length:=⟨B,L,A⟩
  have Y:=g.DW v b _ aB;have aC:iH eN x m B.ee bv:=iv.since D;have aD:=C.since D;have C6:Lk x m _ lv u vv vb vs qV jm:=⟨o,⟨3,rfl⟩,aD⟩
  obtain⟨l7,o7,_,p1,p2⟩:=aC.nat A .i64;refine jH (ec rfl (jH (ec rfl (jH (ec rfl (jH (ec p1 (jH (ec p2 (NQ ?_))))))))));refine DM C6 Y ?_;rw[List.reverse_append]at j;simp only[List.reverse_cons,List.reverse_nil,OJ,List.singleton_append]at j
  cases hq:hD u v with
  | true=>
    refine ec rfl (gh (gD (by simp) (ec K ?_)));refine fin x m cur D o e λw=>?_;rw[<-j w];unfold bk
    rw[if_pos hq]
  | false=>
    refine ec rfl (gh (gN rfl (ec p1 (ec p2 ?_))));refine Tz g C6 e Y λF7 h7 Z s7 H7 aG aE=>?_;refine ec (iu _ _ _ _) ?_;rw[t s.length (by simp at OM;omega)];refine⟨s.length,by rw[hk];simp,F7,s,v::d,Z,rfl,rfl,rfl,rfl,rfl,rfl,by rw[J];simp,D.trans s7,by omega,H7,λw=>?_⟩;rw[<-j w]
    conv=>rhs;unfold bk
    rw[if_neg (by rw[hq];simp)];exact Jw aE w
end
open Un Dm
def Bz:List Bool->Nat
 |[]=>0
 |true::l=>Bz l
 |false::l=>Bz l+1
def mK:List (List Bool)->Nat
 |[]=>0
 |r::l=>Bz r+mK l
theorem Qd:∀{l r:List Bool},l.length=r.length->(∀w,On r w->On l w)->Bz l<=Bz r/\(l≠r->Bz l<Bz r)
 |[],[],_,_=>⟨jv _,λh=>absurd rfl h⟩
 |[],_::_,h,_=>by simp at h
 |_::_,[],h,_=>by simp at h
 | a ::l,b::r,h,hw=>by
   obtain⟨g,f⟩:=Qd (l:=l) (r:=r) (by simpa using h) λw c=>hw (w+1) c;have h0:=hw 0;unfold On at h0;simp only[wBd,Option.some.injEq]at h0;cases a <;> cases b <;> simp only[Bz]
   ·refine⟨by omega,λd=>?_⟩
    have:=f λe=>d (by rw[e]);omega
   ·exact absurd (h0 rfl) (by simp)
   ·refine⟨by omega,λ_=>by omega⟩
   ·refine⟨g,λd=>f λe=>d (by rw[e])⟩
theorem Ip:∀{ins:List (List Bool)}{b:Nat}{r row:List Bool},ins[b]? =some r->mK (ins.set b row)+Bz r=mK ins+Bz row
 |[],_,_,_,h=>by simp at h
 | x::ins,0,r,row,h=>by
   obtain rfl:x=r:=by simpa using h
   simp only[AD,mK]
   omega
 | x::ins,b+1,r,row,h=>by
   have:=Ip (ins:=ins) (b:=b) (r:=r) (row:=row) (by simpa using h);simp only[OH,mK];omega
theorem Tl{ins:List (List Bool)}{b:Nat}{row:List Bool}(a:b<ins.length)(c w:Nat):mH (ins.set b row) c w↔(c=b/\On row w)\/(c≠b/\mH ins c w):=by
 unfold mH;by_cases e:c=b
 ·subst e;rw[OY a];constructor
  ·rintro⟨r,d,f⟩;cases d;exact .inl ⟨rfl,f⟩
  ·rintro(⟨_,h⟩|⟨h,_⟩)
   ·exact⟨row,rfl,h⟩
   ·exact absurd rfl h
 ·rw [QI λh=>e h.symm];constructor
  ·exact λh=> .inr ⟨e,h⟩
  ·rintro(⟨h,_⟩|⟨_,h⟩)
   ·exact absurd h e
   ·exact h
theorem Jx{ins:List (List Bool)}{b:Nat}{r:List Bool}(h:ins[b]? =some r)(w:Nat):mH ins b w↔On r w:=⟨λ⟨r',c,a⟩=>by rw[h]at c;cases c;exact a,λa=>⟨r,h,a⟩⟩
structure Zo (u:U) (ins:List (List Bool)):Prop where
 len:ins.length=u.blocks.length
 row:∀r∈ins,r.length=u.ee.length
theorem Zo.set{u:U}{ins:List (List Bool)}(h:Zo u ins){b:Nat}{row:List Bool}(a:row.length=u.ee.length):Zo u (ins.set b row):=
 ⟨by rw[X1];exact h.len,λr c=>by
  rcases wBF c with d|rfl
  ·exact h.row r d
  ·exact a⟩
section
variable{F F':Nat->Prop}{h h':Hp}{cs:List Pc}{Q:fo}{u:U}{vv vb vs:V}
theorem Wl(g:Good u)(H0:ej F h cs)(hu:Is F h u vv vb vs)
  (H:∀F' h' lv qV jm ins outs,Sn F h F' h'->ej F' h' (fE (eL eB) hY ins qV::fE (eL eB) hY outs jm::ft lv me [.I u.func,.I u.pc,vv,vb,vs,qV,jm]::cs)->Zo u ins->Zo u outs->rk u (jN u) (mH ins) (mH outs)->Q (.ptr lv 0) h') :
  cP CS uD [.agg (uC u vv vb vs)] h Q:=by
 refine Rb rfl rfl ?_;unfold JR;have nv:=g.nv;have nb:=g.nb;have XW:=g.XW;refine rL H0 hu.one λA H1 s1=>?_;refine ec (H1.zB 0 rfl rfl) (ec (show _=some (V.agg [.I u.func,.I u.pc,vv,vb,vs,.ed,.ed]) from rfl) ?_);have u1:=hu.since s1;refine rL H1 (by simp only[fe,u1.v.one,u1.b.one,u1.s.one];rfl) λh2 H2 s2=>?_;have u2:=u1.since s2;generalize h.next=lb at*;generalize A.next=lv at*;refine oF (H2.ld 1 rfl rfl) (ec u2.b.len ?_)
 have Y:ej F h2 (fE (eL eB) hY [] .ed::fE (eL eB) hY [] .ed::ft lv me [.I u.func,.I u.pc,vv,vb,vs,.ed,.ed]::ft lb 34 (uC u vv vb vs)::cs):=
  (H2.add (p:=fE (eL eB) hY [] .ed) .nil λ_ h=>h).add (p:=fE (eL eB) hY [] .ed) .nil λ_ h=>h
 have aF:=s1.trans s2;have aG:∀n,gz (List.replicate n (V.bool false))=true:=IJ rfl
 refine Me (λk x1 U ae ag h'=>∃(F':Nat->Prop) (i:Nat) (qV jm:V),x1 = .ptr lb 0/\U = .ptr lv 0/\ae = .I u.blocks.length/\ag = .I i/\i+k=u.blocks.length/\Sn F h F' h'/\
  ej F' h' (fE (eL eB) hY (List.replicate i (List.replicate u.ee.length false)) qV::fE (eL eB) hY (List.replicate i (List.replicate u.ee.length false)) jm::ft lv me [.I u.func,.I u.pc,vv,vb,vs,qV,jm]::ft lb 34 (uC u vv vb vs)::cs)) ?_ (k:=u.blocks.length)
  ⟨F,0,_,_,rfl,rfl,rfl,rfl,by omega,aF,Y⟩
 rintro k x1 U ae ag J ⟨F3,i,qV,jm,rfl,rfl,rfl,rfl,hk,s3,Y⟩;unfold Ex;have u3:=hu.since s3;by_cases hi:i<u.blocks.length
 ·refine gU ?_;refine ec (fi ..) (ec (fN ..) (ec (Y.ld 2 rfl rfl) (ec (fN ..) (ec (Y.ld 3 rfl rfl) (ec u3.v.len ?_)))));rw[pC (z:=V.bool false) rfl (by decide) (by omega),hH];obtain⟨H4,s4,r4⟩:=Y.Wa (E:=eB) (xs:=List.replicate u.ee.length false) (n:=u.ee.length) hC rfl (by simp) (pU.rep (y:=false) rfl u.ee.length);have g4:(J.new (.cells hC 1 true false (List.replicate u.ee.length (V.bool false)))).get J.next=some (.cells 4 1 true false (List.replicate u.ee.length (V.bool false))):=eJ _ _;generalize J.new (.cells hC 1 true false (List.replicate u.ee.length (V.bool false)))=C at*;generalize aH:(λl=>F3 l\/l=J.next)=F4 at*;have f4:F4 J.next:=by rw[<-aH];exact .inr rfl
  have eP:∀v:V,v.one=true->iK 130 1 1 V.ed [(0,v)]=some (.cells 130 1 true false [v],λl=> .slice l 0 1):=λv hv=>V1 rfl hv;rw[eP _ rfl,hH];obtain⟨K,Z,r5⟩:=H4.Wa (E:=eL eB) (xs:=[List.replicate u.ee.length false]) (ws:=[.slice J.next 0 u.ee.length]) (n:=1) hY rfl rfl ⟨[_],[],rfl,⟨_,rfl,r4⟩,trivial⟩;have g5:(C.new (.cells hY 1 true false [.slice J.next 0 u.ee.length])).get C.next=some (.cells 130 1 true false [.slice J.next 0 u.ee.length]):=eJ _ _;show oP (gq (.ptr lv 0)) _;generalize C.new (.cells hY 1 true false [.slice J.next 0 u.ee.length])=L at*;generalize aI:(λl=>F4 l\/l=C.next)=F5 at*;have f5:F5 C.next:=by rw[<-aI];exact .inr rfl
  refine ec (fi ..) (ec (fN ..) (ec (K.ld 2 rfl rfl) (ec (fN ..) (ec (K.ld 3 rfl rfl) (ec ((u3.since s4).since Z).v.len ?_)))));rw[pC (z:=V.bool false) rfl (by decide) (by omega),hH];obtain⟨H6,S,r6⟩:=K.Wa (E:=eB) (xs:=List.replicate u.ee.length false) (n:=u.ee.length) hC rfl (by simp) (pU.rep (y:=false) rfl u.ee.length);have g6:(L.new (.cells hC 1 true false (List.replicate u.ee.length (V.bool false)))).get L.next=some (.cells 4 1 true false (List.replicate u.ee.length (V.bool false))):=eJ _ _;generalize L.new (.cells hC 1 true false (List.replicate u.ee.length (V.bool false)))=h6 at*;generalize aJ:(λl=>F5 l\/l=L.next)=F6 at*;have f6:F6 L.next:=by rw[<-aJ];exact .inr rfl
  rw[eP _ rfl,hH];obtain⟨H7,W,r7⟩:=H6.Wa (E:=eL eB) (xs:=[List.replicate u.ee.length false]) (ws:=[.slice L.next 0 u.ee.length]) (n:=1) hY rfl rfl ⟨[_],[],rfl,⟨_,rfl,r6⟩,trivial⟩;have g7:(h6.new (.cells hY 1 true false [.slice L.next 0 u.ee.length])).get h6.next=some (.cells 130 1 true false [.slice L.next 0 u.ee.length]):=eJ _ _;generalize h6.new (.cells hY 1 true false [.slice L.next 0 u.ee.length])=h7 at*;generalize aK:(λl=>F6 l\/l=h6.next)=F7 at*;have f7:F7 h6.next:=by rw[<-aK];exact .inr rfl
  have ah:=(W.fh _ f6).trans g6;have aL:=((S.trans W).fh _ f5).trans g5;have aM:=(((Z.trans S).trans W).fh _ f4).trans g4;refine⟨⟨g7,O.jA _ _ _ _ _⟩,⟨ah,O.jA _ _ _ _ _⟩,H7.ld 3 rfl rfl,H7.ld 2 rfl rfl,⟨aL,O.jA _ _ _ _ _⟩,⟨aM,O.jA _ _ _ _ _⟩,H7.ld 3 rfl rfl,H7.ld 2 rfl rfl,?_⟩;have aN:=(r5.since S).since W;obtain⟨v8,h8,e8,n8,H8,s8⟩:=H7.O9 0 rfl (lE:=24) aN (by decide) (by decide) (by simp;omega);have aO:eQ 130 1 24 qV (.slice C.next 0 1) h7=some (.val v8 h8):=e8;rw[aO,eh];simp only[AD]at H8;refine⟨n8,⟨(s8.fh _ f7).trans g7,O.jA _ _ _ _ _⟩,⟨(s8.fh _ (W.mono _ f6)).trans ah,O.jA _ _ _ _ _⟩,H8.ld 3 rfl rfl,H8.ld 2 rfl rfl,?_⟩;obtain⟨v9,h9,e9,n9,H9,s9⟩:=H8.O9 1 rfl (lE:=24) (r7.since s8) (by decide) (by decide) (by simp;omega);have aP:eQ 130 1 24 jm (.slice h6.next 0 1) h8=some (.val v9 h9):=e9;rw[aP,eh];simp only[OH,AD]at H9;have o8:=H9.one 0 rfl;have o9:=H9.one 1 rfl;refine⟨n9,ec (fi _ _) (ec (fN _ _ _) ?_)⟩;obtain⟨a3,aQ,aR,ai,aS⟩:=H9.st 2 (o:=5) (u:=v8) rfl (by simp) o8;rw[show V.ptr lv (0+5)=V.ptr lv 5 from rfl,aQ,eh];simp only[OH,AD]at ai;obtain⟨a4,aT,aU,aa,aV⟩:=ai.st 2 (o:=6) (u:=v9) rfl (by simp) o9;refine⟨aR,ec (fi _ _) (ec (fN _ _ _) ?_)⟩;rw[show V.ptr lv (0+6)=V.ptr lv 6 from rfl,aT,eh];simp only[OH,AD]at aa;have aj:List.replicate i (List.replicate u.ee.length false)++[List.replicate u.ee.length false]=List.replicate (i+1) (List.replicate u.ee.length false):=by rw[List.replicate_succ']
  rw[aj]at aa;have sx:=(((((((s3.trans s4).trans Z).trans S).trans W).trans s8).trans s9).trans aS).trans aV;exact⟨aU,gf ⟨k-1,by omega,F7,i+1,v8,v9,rfl,rfl,rfl,rfl,by omega,sx,aa⟩⟩
 refine iY ?_;obtain rfl:i=u.blocks.length:=by omega
 refine ec (Y.zB 3 rfl rfl) ?_;refine JG g Y u3 λF4 C vo seen post s4 H4 G ro=>?_;have aW:=JO g G;have ak:post.reverse.length=u.blocks.length:=by simpa using aW
 have al:=J8 g G;have aX:=s3.trans s4;have am:Zo u (List.replicate u.blocks.length (List.replicate u.ee.length false)):=⟨by simp,λr hr=>by rw[wBp hr];simp⟩
 have an:mH (List.replicate u.blocks.length (List.replicate u.ee.length false))=λ_ _=>False:=by
  funext b w;refine propext ⟨λ⟨r,A,h2⟩=>?_,λh=>h.elim⟩;rw[wBp (zQ A)]at h2;have:=wBp (zQ h2);cases this
 refine Mx (λk U x4 x5 h'=>∃(F':Nat->Prop) (c:Bool) (ins outs:List (List Bool)),U = .ptr lv 0/\x4=vo/\x5 = .bool c/\k=mK ins+(if c=true then 1 else 0)/\Uu u (jN u) (mH ins)/\Zo u ins/\Zo u outs/\
  (c=false->∀b,b<u.blocks.length->(∀w,mH outs b w↔O1 u (jN u) (mH ins) b w)/\∀w,mH ins b w↔JS u b (mH outs b) w)/\Sn F4 C F' h'/\
  ej F' h' (fE (eL eB) hY ins qV::fE (eL eB) hY outs jm::ft lv me [.I u.func,.I u.pc,vv,vb,vs,qV,jm]::ft lb 34 (uC u vv vb vs)::cs)) ?_
  (k:=mK (List.replicate u.blocks.length (List.replicate u.ee.length false))+1)
  ⟨F4,true,_,_,rfl,rfl,rfl,rfl,by rw[an];exact .start _ _,am,am,λh=>(by cases h),Sn.refl _ _,H4⟩
 clear hk k;rintro k U x4 x5 L ⟨F5,c,ins,outs,rfl,e4,rfl,hk,M,ao,aq,hc,Z,K⟩;subst x4;unfold Ew
 cases c with
 | false =>
   refine gh (gD (by simp) ?_);have N:=hc rfl;exact H F5 L lv qV jm ins outs (aX.trans Z) ⟨K.fl,λi c hc=>by
       match i,hc with
       |0,hc=>exact K.ok 0 c hc
       |1,hc=>exact K.ok 1 c hc
       |2,hc=>exact K.ok 2 c hc
       |i+3,hc=>exact K.ok (i+4) c hc,λi j c d hc hd hn=>by
       have ar:∀(i:Nat) (c:Pc),(fE (eL eB) hY ins qV::fE (eL eB) hY outs jm::ft lv me [.I u.func,.I u.pc,vv,vb,vs,qV,jm]::cs)[i]? =some c->
           (fE (eL eB) hY ins qV::fE (eL eB) hY outs jm::ft lv me [.I u.func,.I u.pc,vv,vb,vs,qV,jm]::ft lb 34 (uC u vv vb vs)::cs)[if i<3 then i else i+1]? =some c:=by
         intro i c hc
         match i,hc with
         |0,hc=>exact hc
         |1,hc=>exact hc
         |2,hc=>exact hc
         |i+3,hc=>rw[if_neg (by omega)];exact hc
       refine K.Kv _ _ c d (ar i c hc) (ar j d hd) ?_
       split <;> split <;> omega⟩ ao aq ⟨λb w P=>(N b P).1 w,λb w P=>(N b P).2 w,M.least⟩
 | true =>
   refine gh (gN rfl ?_);have lo:=(ro.since Z).len;rw[ak]at lo;refine ec lo (zr (by omega) (by omega) ?_);have au:∀n:Nat,n<=3000->iy .i64 (((n:Nat):Int)-1)=(n:Int)-1:=λn hn=>by rw[gS (by simp only[Cf];omega)]
   rw[show((u.blocks.length-1:Nat):Int)=(u.blocks.length:Int)-1 by omega]
   refine Mh (λk U x4 x5 x6 h'=>∃(F':Nat->Prop) (j:Nat) (c:Bool) (a outs:List (List Bool)),U = .ptr lv 0/\x4=vo/\x5 = .bool c/\x6 = .I ((j:Int)-1)/\k=j/\j<=u.blocks.length/\Uu u (jN u) (mH a)/\Zo u a/\Zo u outs/\mK a<=mK ins/\(c=true->mK a<mK ins)/\
     (c=false->∀i b,j<=i->post.reverse[i]? =some b->(∀w,mH outs b w↔O1 u (jN u) (mH a) b w)/\∀w,mH a b w↔JS u b (mH outs b) w)/\Sn F4 C F' h'/\
     ej F' h' (fE (eL eB) hY a qV::fE (eL eB) hY outs jm::ft lv me [.I u.func,.I u.pc,vv,vb,vs,qV,jm]::ft lb 34 (uC u vv vb vs)::cs)) ?_ (k:=u.blocks.length)
     ⟨F5,u.blocks.length,false,ins,outs,rfl,rfl,rfl,rfl,rfl,jv _,M,ao,aq,jv _,λh=>(by cases h),λ_ i b hi P=>by
       have:=(kE.1 P).1;omega,Z,K⟩
   rintro k2 U x4 x5 x6 h6 ⟨F6,j,c,a,f,rfl,e4,rfl,rfl,a5,hj,x,q,D,a6,X,aw,S,H6⟩;subst x4;unfold Ea
   cases j with
   | zero=>
     refine PS (gD (by omega) ?_);refine⟨mK a+(if c=true then 1 else 0),?_,F6,c,a,f,rfl,rfl,rfl,rfl,x,q,D,λaY b P=>?_,S,H6⟩
     ·rw[hk,if_pos rfl]
      cases c with
      |true=>have:=X rfl;rw[if_pos rfl];omega
      |false=>rw[if_neg (by simp)];omega
     ·obtain⟨i,hi⟩:=oR.1 (YB.2 (al b P))
      exact aw aY i b (Ll _) hi
   | succ j =>
     rw[show(((j+1:Nat):Int)-1)=(j:Nat) by omega];refine PS (gN (by omega) ?_);obtain⟨b,P⟩:∃b,post.reverse[j]? =some b:=⟨_,iz (show j<post.reverse.length by omega)⟩
     have R:b<u.blocks.length:=G.pre b (YB.1 (zQ P));obtain⟨B,hB⟩:∃B,u.blocks[b]? =some B:=⟨_,iz R⟩
     obtain⟨l7,o7,_,p1,p2⟩:=(ro.since S).nat P .i64;refine ec p1 (ec p2 ?_);refine ZH g H6 ((u3.since s4).since S) q.len q.row D.len hB λF7 h7 c' row I W H7 aZ ax ay az N a0=>?_;refine ec (iC _ _) (ec (iu _ _ _ _) ?_);rw[au j (by omega)];obtain⟨r0,T⟩:∃r,a[b]? =some r:=⟨_,iz (show b<a.length by rw[q.len];exact R)⟩
     have a2:=q.row r0 (zQ T);have aA:∀w,On row w↔Un.Tr u (jN u) (mH a) b w:=λw=>by rw[az w];exact Jw ay w
     have aB:b<a.length:=by rw[q.len];exact R
     have aC:b<f.length:=by rw[D.len];exact R
     have aD:mH (a.set b row)=rW (mH a) b (Un.Tr u (jN u) (mH a) b):=by
       funext c w;refine propext ?_;rw[Tl aB];unfold rW;rw[aA w]
     have aE:∀w,On r0 w->On row w:=λw hw=>(aA w).2 (x.up b w ((Jx T w).2 hw));obtain⟨f1,f2⟩:=Qd (l:=row) (r:=r0) (by omega) aE;have f3:=Ip (row:=row) T;refine⟨j,by omega,F7,j,c' ||c,a.set b row,f.set b I,rfl,rfl,rfl,rfl,rfl,by omega,by rw[aD];exact x.step R,q.set aZ,D.set ax,by omega,λt=>?_,λt i b' hi ab=>?_,S.trans W,H7⟩
     ·cases hq:c' with
      | true=>
        have A:=a0 hq;have:=f2 λe=>A (by rw[e];exact T)
        omega
      | false=>
        rw[hq]at t;have:=X (by simpa using t);omega
     ·rw[wBj]at t
      have ac:a.set b row=a:=by
        have A:=N t.1;refine wB1 λm=>?_;by_cases e:m=b
        ·subst e
         rw[OY aB,A]
        ·rw[QI λh=>e h.symm]
      rw[ac];by_cases e:b' = b
      ·subst e
       have A:∀w,mH (f.set b' I) b' w↔On I w:=λw=>Jx (OY aC) w;refine⟨λw=>by rw[A w,ay w],λw=>?_⟩;rw[Jx (N t.1) w,az w];exact(Jw A w).symm
      ·have a1:j+1<=i:=by
         rcases Tu j i with A|A
         ·exact A
         ·obtain rfl:i=j:=by omega
          rw[P]at ab;exact absurd (Option.some.inj ab).symm e
       obtain ⟨A,h2⟩:=aw t.2 i b' a1 ab;have J:∀w,mH (f.set b I) b' w↔mH f b' w:=λw=>by
         rw[Tl aC];constructor
         ·rintro(⟨C,_⟩|⟨_,C⟩)
          ·exact absurd C e
          ·exact C
         ·exact λC=> .inr ⟨e,C⟩
       exact⟨λw=>by rw[J w];exact A w,λw=>by rw[h2 w];exact(Jw J w).symm⟩
end
