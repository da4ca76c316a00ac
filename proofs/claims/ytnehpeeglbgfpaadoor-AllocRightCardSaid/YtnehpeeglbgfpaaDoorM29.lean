/- Parts. -/
import Derived.Test.YtnehpeeglbgfpaaDoorM28
set_option maxHeartbeats 4000000
namespace Go.Proofs.YtnehpeeglbgfpaaDoor.Hx
open Un Dm
theorem wR{u:U}{r:List Nat}{P b:Nat->Prop}(h:∀w,P w↔b w)(w:Nat):bk u r P w↔bk u r b w:=⟨xL (λx a=>(h x).1 a) w,xL (λx a=>(h x).2 a) w⟩
theorem Np(a b:Bool):ef .neq fx (.bool a) (.bool b)=some (.bool (a != b)):=zn a b
section
variable{F F':Nat->Prop}{h h':Hp}{cs:List Pc}{Q:fm}{u:U}{vv vb vs:V}{lv:Nat}{iT fR:V}{ins outs:List (List Bool)}
theorem Ro(g:Good u)(H0:er F h (fo (eL eB) fL ins iT::fo (eL eB) fL outs fR::ey lv kU [.I u.func,.I u.pc,vv,vb,vs,iT,fR]::cs))(hu:Af F h u vv vb vs)
  (aa:ins.length=u.blocks.length) (M:∀r∈ins,r.length=u.ee.length) (aI:outs.length=u.blocks.length) {b:Nat} {B:Bk} (L:u.blocks[b]? =some B)
  (H:∀F' h' c row a,Sn F h F' h'->er F' h' (fo (eL eB) fL (ins.set b row) iT::fo (eL eB) fL (outs.set b a) fR::ey lv kU [.I u.func,.I u.pc,vv,vb,vs,iT,fR]::cs)->row.length=u.ee.length->a.length=u.ee.length->
   (∀w,On a w↔Cw u (gw u) (iz ins) b w)->(∀w,On row w↔wZ u b (On a) w)->(c=false->ins[b]? =some row)->(c=true->ins[b]?≠some row)->Q (.bool c) h') :
  cP CS ml [.ptr lv 0,.I b] h Q:=by
 refine Ca rfl rfl ?_;unfold vy;have nv:=g.nv;have nb:=g.nb;have aJ:=(jw.1 L).1;have C0:Lk F h _ lv u vv vb vs iT fR:=⟨H0,⟨2,rfl⟩,hu⟩
 refine VI g C0 (ii:=0) rfl aa M L λF1 f a vl s1 H1 N ab=>?_;refine oN (H1.ld 3 rfl rfl) ?_;rw[wJ,ij];obtain⟨H2,s2⟩:=H1.KX (E:=eB) (xs:=[]) (ws:=[]) (n:=0) fx rfl trivial rfl;have H2:er F1 (f.new (.cells 4 1 true false [])) (fo eB fx [] (.slice f.next 0 0)::fo eB fx a vl::_):=H2;have s2:Sn F1 f F1 (f.new (.cells 4 1 true false [])):=s2;have g2:(f.new (.cells 4 1 true false [])).get f.next=some (.cells 4 1 true false []):=ez _ _;generalize f.new (.cells 4 1 true false [])=P at*;refine⟨⟨g2,O.ie _ _ _ _ _⟩,H2.ld 4 rfl rfl,?_⟩;obtain⟨v3,h3,e3,n3,H3,s3⟩:=H2.RG 0 1 rfl rfl (lV:=1) (by decide) (by decide) (by simp;omega);have ac:fh 4 1 1 (.slice f.next 0 0) vl P=some (.val v3 h3):=e3;rw[ac,ej];simp only[ot,LR]at H3;obtain⟨H4,s4,r4⟩:=H3.mi 0 rfl;simp only[ot]at H4;obtain⟨l5,o5,h5,e5,e6,n5,R,s5⟩:=H4.AD 3 rfl (k:=b) (y:=a) (u:=v3) (show b<outs.length by omega) rfl r4.one ⟨v3,rfl,r4⟩;refine⟨n3,ec e5 ⟨H3.ld 4 rfl rfl,?_⟩⟩;rw[e6,ej];refine⟨n5,?_⟩;simp only[AT,ot]at R;have R:=R.tail;have S:=(((s1.trans s2).trans s3).trans s4).trans s5;have C:=hu.since S;generalize (λl=>F1 l\/Loc v3 l)=F5 at*;have C5:Lk F5 h5 _ lv u vv vb vs iT fR:=⟨R,⟨3,rfl⟩,C⟩
 obtain⟨l6,o6,bv,bn,bp,_,i1,i2,iv,iN,ip,ba⟩:=C.wh L;refine ec (fj _ _) (ec (fH _ _ _) (oF (C5.ld 3 rfl) (ec i1 (oF ba.ee (ec iv.len ?_)))));have ae:=mP g L;have ag:ik u b=B.ee:=by unfold ik;rw[L]
 have t:∀n:Nat,n<=3000->jt .i64 (((n:Nat):Int)-1)=(n:Int)-1:=λn hn=>by rw[iO (by simp only[Fb];omega)]
 refine ec (iy _ _ _ _) ?_;rw[t _ ae];obtain⟨r0,p⟩:∃r,ins[b]? =some r:=⟨_,iH (show b<ins.length by omega)⟩
 have aG:=M r0 (xu p)
 have fin:∀(x:Nat->Prop) (m:Hp) (cur:List Bool),Sn F5 h5 x m->er x m (fo eB fx cur vl::fo (eL eB) fL ins iT::fo (eL eB) fL (outs.set b a) fR::ey lv kU [.I u.func,.I u.pc,vv,vb,vs,iT,fR]::cs)->cur.length=u.ee.length->
   (∀w,On cur w↔wZ u b (On a) w)->mH CS Q (.ptr lv 0) (.I b) vl (.bool false) vl (.I u.ee.length) (.I 0) m:=by
  intro x m cur D o e ah
  refine zG (λk T U G x8 I W X h'=>∃(i:Nat) (c:Bool),T = .ptr lv 0/\U = .I b/\G=vl/\x8 = .bool c/\I=vl/\W = .I u.ee.length/\X = .I i/\i+k=u.ee.length/\h' = m/\(c=false↔cur.take i=r0.take i)) ?_ (k:=u.ee.length)
   ⟨0,false,rfl,rfl,rfl,rfl,rfl,rfl,rfl,by omega,rfl,by simp⟩
  rintro k T U G x8 I W X h' ⟨i,c,rfl,rfl,e5,rfl,aK,rfl,rfl,hk,rfl,q⟩;subst G I;unfold sH;by_cases hi:i<u.ee.length
  ·refine hV ?_;obtain⟨y,hy⟩:∃y,cur[i]? =some y:=⟨_,iH (show i<cur.length by omega)⟩
   obtain⟨z,hz⟩:∃z,r0[i]? =some z:=⟨_,iH (show i<r0.length by omega)⟩
   obtain ⟨l7,o7,p1,p2⟩:=o.Gf 0 rfl hy .i64;obtain⟨l8,o8,w8,q1,q2,q3⟩:=o.OG 1 rfl p;obtain⟨l9,o9,_,t1,t2⟩:=q3.bool hz .i64;have ai:en (.ptr lv (0+5)) h' = some iT:=o.ld 3 rfl rfl;have eO:mh (.bool c) (oB (some (V.bool y)) λaj=>oB (some (V.ptr lv 0)) λak=>oB (iu ak) λal=>oB (fI 5 al) λam=>oB (en am h') λan=>oB (some (V.I b)) λao=>oB (gy 1 an ao) λaq=>oB (en aq h') λar=>oB (some (V.I i)) λau=>oB (gy 1 ar au) λaw=>oB (en aw h') λax=>ef .neq 4 aj ax)=some (.bool (c ||(y != z))):=by
    simp only[eQ,fj,fH,ai,q1,q2,t1,t2];rw[show ef .neq 4 (V.bool y) (V.bool z)=some (.bool (y != z)) from zn y z,iM]
   refine ec p1 (ec p2 (ec eO ?_));refine gq ⟨k-1,by omega,i+1,c ||(y != z),rfl,rfl,rfl,rfl,rfl,rfl,rfl,by omega,rfl,?_⟩;obtain⟨ay,rfl⟩:=jw.1 hy;obtain⟨az,rfl⟩:=jw.1 hz;rw[KM ay,KM az,WG,q];constructor
   ·rintro⟨f,P⟩;rw[f];congr 2;simpa using P
   ·intro f;obtain⟨P,h3⟩:=List.append_inj f (by simp;omega);refine⟨P,?_⟩;simp at h3;simp[h3]
  ·refine jG ?_;obtain rfl:i=u.ee.length:=by omega
   obtain⟨H7,s7,r7⟩:=o.mi 0 rfl;simp only[ot]at H7;obtain⟨l8,o8,h8,e8,e9,n8,H8,s8⟩:=H7.AD 1 rfl (k:=b) (y:=cur) (u:=vl) (show b<ins.length by omega) rfl r7.one ⟨vl,rfl,r7⟩;refine oN (o.ld 3 rfl rfl) (ec e8 ?_);rw[e9,ej];simp only[AT,ot]at H8;rw[JE (by omega),JE (by omega)]at q;refine H _ _ c cur a (((S.trans D).trans s7).trans s8) H8.tail e N ab ah (λhc=>?_) λhc he=>?_
   ·rw[q.1 hc];exact p
   ·rw[p]at he;have:=q.2 (Option.some.inj he).symm;rw[hc]at this;cases this
 refine z8 (λk T U G x6 x7 h'=>∃(F':Nat->Prop) (l d:List Nat) (cur:List Bool),T = .ptr lv 0/\U = .I b/\G=vl/\x6=bv/\x7 = .I ((l.length:Int)-1)/\k=l.length/\B.ee=l++d/\Sn F5 h5 F' h'/\cur.length=u.ee.length/\
  er F' h' (fo eB fx cur vl::fo (eL eB) fL ins iT::fo (eL eB) fL (outs.set b a) fR::ey lv kU [.I u.func,.I u.pc,vv,vb,vs,iT,fR]::cs)/\∀w,bk u l.reverse (On cur) w↔wZ u b (On a) w) ?_ (k:=B.ee.length)
  ⟨F5,B.ee,[],a,rfl,rfl,rfl,rfl,rfl,rfl,by simp,Sn.refl _ _,N,R,λw=>by unfold wZ;rw[ag]⟩
 rintro k T U G x6 x7 m ⟨x,l,d,cur,rfl,rfl,aL,aM,rfl,hk,J,D,e,o,j⟩;subst G x6;unfold rG;have K:=o.len 0 (xs:=cur) rfl;rw[e]at K;have aA:l.length<=B.ee.length:=by rw[J,Ja];omega
 refine ec (nU _ _ _ _) ?_;rcases gY l with rfl|⟨s,v,rfl⟩
 ·rw[show decide ((0:Int)<=(([]:List Nat).length:Int)-1)=false from rfl];refine nR (nR (nR (nR (nR (Rz (ec (CY _) (je (gB (by simp) (ec K ?_)))))))));exact fin x m cur D o e λw=>(j w)
 ·rw[Qy (by simp)];have aB:((s++[v]).length:Int)-1=(s.length:Nat):=by simp
  rw[aB];have A:B.ee[s.length]? =some v:=by rw[J];simp
  have aC:At u v b s.length:=⟨B,L,A⟩
  have Y:=g.vR v b _ aC;have aD:iL eN x m B.ee bv:=iv.since D;have aE:=C.since D;have C6:Lk x m _ lv u vv vb vs iT fR:=⟨o,⟨3,rfl⟩,aE⟩
  obtain⟨l7,o7,_,p1,p2⟩:=aD.nat A .i64;refine jl (ec rfl (jl (ec rfl (jl (ec rfl (jl (ec p1 (jl (ec p2 (Hj ?_))))))))));refine Aa C6 Y ?_;rw[List.reverse_append]at j;simp only[List.reverse_cons,List.reverse_nil,LR,W3]at j
  cases hq:gi u v with
  | true=>
    refine ec rfl (je (gB (by simp) (ec K ?_)));refine fin x m cur D o e λw=>?_;rw[<-j w];unfold bk
    rw[if_pos hq]
  | false=>
    refine ec rfl (je (gU rfl (ec p1 (ec p2 ?_))));refine LG g C6 e Y λF7 h7 Z s7 H7 aH aF=>?_;refine ec (iy _ _ _ _) ?_;rw[t s.length (by simp at aA;omega)];refine⟨s.length,by rw[hk];simp,F7,s,v::d,Z,rfl,rfl,rfl,rfl,rfl,rfl,by rw[J];simp,D.trans s7,by omega,H7,λw=>?_⟩;rw[<-j w]
    conv=>rhs;unfold bk
    rw[if_neg (by rw[hq];simp)];exact wR aF w
end
open Un Dm
def yf:List Bool->Nat
 |[]=>0
 |true::l=>yf l
 |false::l=>yf l+1
def gQ:List (List Bool)->Nat
 |[]=>0
 |r::l=>yf r+gQ l
theorem BR:∀{l r:List Bool},l.length=r.length->(∀w,On r w->On l w)->yf l<=yf r/\(l≠r->yf l<yf r)
 |[],[],_,_=>⟨jn _,λh=>absurd rfl h⟩
 |[],_::_,h,_=>by simp at h
 |_::_,[],h,_=>by simp at h
 | a ::l,b::r,h,hw=>by
   obtain⟨g,f⟩:=BR (l:=l) (r:=r) (by simpa using h) λw c=>hw (w+1) c;have h0:=hw 0;unfold On at h0;simp only[YI,Option.some.injEq]at h0;cases a <;> cases b <;> simp only[yf]
   ·refine⟨by omega,λd=>?_⟩
    have:=f λe=>d (by rw[e]);omega
   ·exact absurd (h0 rfl) (by simp)
   ·refine⟨by omega,λ_=>by omega⟩
   ·refine⟨g,λd=>f λe=>d (by rw[e])⟩
theorem tI:∀{ins:List (List Bool)}{b:Nat}{r row:List Bool},ins[b]? =some r->gQ (ins.set b row)+yf r=gQ ins+yf row
 |[],_,_,_,h=>by simp at h
 | x::ins,0,r,row,h=>by
   obtain rfl:x=r:=by simpa using h
   simp only[ot,gQ]
   omega
 | x::ins,b+1,r,row,h=>by
   have:=tI (ins:=ins) (b:=b) (r:=r) (row:=row) (by simpa using h);simp only[AT,gQ];omega
theorem Eb{ins:List (List Bool)}{b:Nat}{row:List Bool}(a:b<ins.length)(c w:Nat):iz (ins.set b row) c w↔(c=b/\On row w)\/(c≠b/\iz ins c w):=by
 unfold iz;by_cases e:c=b
 ·subst e;rw[G2 a];constructor
  ·rintro⟨r,d,f⟩;cases d;exact .inl ⟨rfl,f⟩
  ·rintro(⟨_,h⟩|⟨h,_⟩)
   ·exact⟨row,rfl,h⟩
   ·exact absurd rfl h
 ·rw [Iv λh=>e h.symm];constructor
  ·exact λh=> .inr ⟨e,h⟩
  ·rintro(⟨h,_⟩|⟨_,h⟩)
   ·exact absurd h e
   ·exact h
theorem rJ{ins:List (List Bool)}{b:Nat}{r:List Bool}(h:ins[b]? =some r)(w:Nat):iz ins b w↔On r w:=⟨λ⟨r',c,a⟩=>by rw[h]at c;cases c;exact a,λa=>⟨r,h,a⟩⟩
structure Jv (u:U) (ins:List (List Bool)):Prop where
 len:ins.length=u.blocks.length
 row:∀r∈ins,r.length=u.ee.length
theorem Jv.set{u:U}{ins:List (List Bool)}(h:Jv u ins){b:Nat}{row:List Bool}(a:row.length=u.ee.length):Jv u (ins.set b row):=
 ⟨by rw[TF];exact h.len,λr c=>by
  rcases VJ c with d|rfl
  ·exact h.row r d
  ·exact a⟩
section
variable{F F':Nat->Prop}{h h':Hp}{cs:List Pc}{Q:fm}{u:U}{vv vb vs:V}
theorem OS(g:Good u)(H0:er F h cs)(hu:Af F h u vv vb vs)
  (H:∀F' h' lv iT fR ins outs,Sn F h F' h'->er F' h' (fo (eL eB) fL ins iT::fo (eL eB) fL outs fR::ey lv kU [.I u.func,.I u.pc,vv,vb,vs,iT,fR]::cs)->Jv u ins->Jv u outs->lR u (gw u) (iz ins) (iz outs)->Q (.ptr lv 0) h') :
  cP CS rl [.agg (uC u vv vb vs)] h Q:=by
 refine Kf rfl rfl ?_;unfold Ee;have nv:=g.nv;have nb:=g.nb;have Oz:=g.Oz;refine qx H0 hu.one λA H1 s1=>?_;refine ec (H1.CI 0 rfl rfl) (ec (show _=some (V.agg [.I u.func,.I u.pc,vv,vb,vs,.ed,.ed]) from rfl) ?_);have u1:=hu.since s1;refine qx H1 (by simp only[fc,u1.v.one,u1.b.one,u1.s.one];rfl) λh2 H2 s2=>?_;have u2:=u1.since s2;generalize h.next=lb at*;generalize A.next=lv at*;refine oF (H2.ld 1 rfl rfl) (ec u2.b.len ?_)
 have Y:er F h2 (fo (eL eB) fL [] .ed::fo (eL eB) fL [] .ed::ey lv kU [.I u.func,.I u.pc,vv,vb,vs,.ed,.ed]::ey lb 29 (uC u vv vb vs)::cs):=
  (H2.add (p:=fo (eL eB) fL [] .ed) .nil λ_ h=>h).add (p:=fo (eL eB) fL [] .ed) .nil λ_ h=>h
 have aF:=s1.trans s2;have aG:∀n,gh (List.replicate n (V.bool false))=true:=z0 rfl
 refine GB (λk x1 U ae ag h'=>∃(F':Nat->Prop) (i:Nat) (iT fR:V),x1 = .ptr lb 0/\U = .ptr lv 0/\ae = .I u.blocks.length/\ag = .I i/\i+k=u.blocks.length/\Sn F h F' h'/\
  er F' h' (fo (eL eB) fL (List.replicate i (List.replicate u.ee.length false)) iT::fo (eL eB) fL (List.replicate i (List.replicate u.ee.length false)) fR::ey lv kU [.I u.func,.I u.pc,vv,vb,vs,iT,fR]::ey lb 29 (uC u vv vb vs)::cs)) ?_ (k:=u.blocks.length)
  ⟨F,0,_,_,rfl,rfl,rfl,rfl,by omega,aF,Y⟩
 rintro k x1 U ae ag J ⟨F3,i,iT,fR,rfl,rfl,rfl,rfl,hk,s3,Y⟩;unfold Aj;have u3:=hu.since s3;by_cases hi:i<u.blocks.length
 ·refine hV ?_;refine ec (fj ..) (ec (fH ..) (ec (Y.ld 2 rfl rfl) (ec (fH ..) (ec (Y.ld 3 rfl rfl) (ec u3.v.len ?_)))));rw[kM (z:=V.bool false) rfl (by decide) (by omega),ij];obtain⟨H4,s4,r4⟩:=Y.JF (E:=eB) (xs:=List.replicate u.ee.length false) (n:=u.ee.length) fx rfl (by simp) (mE.rep (y:=false) rfl u.ee.length);have g4:(J.new (.cells fx 1 true false (List.replicate u.ee.length (V.bool false)))).get J.next=some (.cells 4 1 true false (List.replicate u.ee.length (V.bool false))):=ez _ _;generalize J.new (.cells fx 1 true false (List.replicate u.ee.length (V.bool false)))=C at*;generalize aH:(λl=>F3 l\/l=J.next)=F4 at*;have f4:F4 J.next:=by rw[<-aH];exact .inr rfl
  have eP:∀v:V,v.one=true->ju 59 1 1 V.ed [(0,v)]=some (.cells 59 1 true false [v],λl=> .slice l 0 1):=λv hv=>KB rfl hv;rw[eP _ rfl,ij];obtain⟨K,Z,r5⟩:=H4.JF (E:=eL eB) (xs:=[List.replicate u.ee.length false]) (ws:=[.slice J.next 0 u.ee.length]) (n:=1) fL rfl rfl ⟨[_],[],rfl,⟨_,rfl,r4⟩,trivial⟩;have g5:(C.new (.cells fL 1 true false [.slice J.next 0 u.ee.length])).get C.next=some (.cells 59 1 true false [.slice J.next 0 u.ee.length]):=ez _ _;show oP (iu (.ptr lv 0)) _;generalize C.new (.cells fL 1 true false [.slice J.next 0 u.ee.length])=L at*;generalize aI:(λl=>F4 l\/l=C.next)=F5 at*;have f5:F5 C.next:=by rw[<-aI];exact .inr rfl
  refine ec (fj ..) (ec (fH ..) (ec (K.ld 2 rfl rfl) (ec (fH ..) (ec (K.ld 3 rfl rfl) (ec ((u3.since s4).since Z).v.len ?_)))));rw[kM (z:=V.bool false) rfl (by decide) (by omega),ij];obtain⟨H6,S,r6⟩:=K.JF (E:=eB) (xs:=List.replicate u.ee.length false) (n:=u.ee.length) fx rfl (by simp) (mE.rep (y:=false) rfl u.ee.length);have g6:(L.new (.cells fx 1 true false (List.replicate u.ee.length (V.bool false)))).get L.next=some (.cells 4 1 true false (List.replicate u.ee.length (V.bool false))):=ez _ _;generalize L.new (.cells fx 1 true false (List.replicate u.ee.length (V.bool false)))=h6 at*;generalize aJ:(λl=>F5 l\/l=L.next)=F6 at*;have f6:F6 L.next:=by rw[<-aJ];exact .inr rfl
  rw[eP _ rfl,ij];obtain⟨H7,W,r7⟩:=H6.JF (E:=eL eB) (xs:=[List.replicate u.ee.length false]) (ws:=[.slice L.next 0 u.ee.length]) (n:=1) fL rfl rfl ⟨[_],[],rfl,⟨_,rfl,r6⟩,trivial⟩;have g7:(h6.new (.cells fL 1 true false [.slice L.next 0 u.ee.length])).get h6.next=some (.cells 59 1 true false [.slice L.next 0 u.ee.length]):=ez _ _;generalize h6.new (.cells fL 1 true false [.slice L.next 0 u.ee.length])=h7 at*;generalize aK:(λl=>F6 l\/l=h6.next)=F7 at*;have f7:F7 h6.next:=by rw[<-aK];exact .inr rfl
  have ah:=(W.eD _ f6).trans g6;have aL:=((S.trans W).eD _ f5).trans g5;have aM:=(((Z.trans S).trans W).eD _ f4).trans g4;refine⟨⟨g7,O.ie _ _ _ _ _⟩,⟨ah,O.ie _ _ _ _ _⟩,H7.ld 3 rfl rfl,H7.ld 2 rfl rfl,⟨aL,O.ie _ _ _ _ _⟩,⟨aM,O.ie _ _ _ _ _⟩,H7.ld 3 rfl rfl,H7.ld 2 rfl rfl,?_⟩;have aN:=(r5.since S).since W;obtain⟨v8,h8,e8,n8,H8,s8⟩:=H7.Nj 0 rfl (lV:=24) aN (by decide) (by decide) (by simp;omega);have aO:fh 59 1 24 iT (.slice C.next 0 1) h7=some (.val v8 h8):=e8;rw[aO,ej];simp only[ot]at H8;refine⟨n8,⟨(s8.eD _ f7).trans g7,O.ie _ _ _ _ _⟩,⟨(s8.eD _ (W.mono _ f6)).trans ah,O.ie _ _ _ _ _⟩,H8.ld 3 rfl rfl,H8.ld 2 rfl rfl,?_⟩;obtain⟨v9,h9,e9,n9,H9,s9⟩:=H8.Nj 1 rfl (lV:=24) (r7.since s8) (by decide) (by decide) (by simp;omega);have aP:fh 59 1 24 fR (.slice h6.next 0 1) h8=some (.val v9 h9):=e9;rw[aP,ej];simp only[AT,ot]at H9;have o8:=H9.one 0 rfl;have o9:=H9.one 1 rfl;refine⟨n9,ec (fj _ _) (ec (fH _ _ _) ?_)⟩;obtain⟨a3,aQ,aR,ai,aS⟩:=H9.st 2 (o:=5) (u:=v8) rfl (by simp) o8;rw[show V.ptr lv (0+5)=V.ptr lv 5 from rfl,aQ,ej];simp only[AT,ot]at ai;obtain⟨a4,aT,aU,aa,aV⟩:=ai.st 2 (o:=6) (u:=v9) rfl (by simp) o9;refine⟨aR,ec (fj _ _) (ec (fH _ _ _) ?_)⟩;rw[show V.ptr lv (0+6)=V.ptr lv 6 from rfl,aT,ej];simp only[AT,ot]at aa;have aj:List.replicate i (List.replicate u.ee.length false)++[List.replicate u.ee.length false]=List.replicate (i+1) (List.replicate u.ee.length false):=by rw[List.replicate_succ']
  rw[aj]at aa;have sx:=(((((((s3.trans s4).trans Z).trans S).trans W).trans s8).trans s9).trans aS).trans aV;exact⟨aU,gq ⟨k-1,by omega,F7,i+1,v8,v9,rfl,rfl,rfl,rfl,by omega,sx,aa⟩⟩
 refine jG ?_;obtain rfl:i=u.blocks.length:=by omega
 refine ec (Y.CI 3 rfl rfl) ?_;refine DP g Y u3 λF4 C vo seen post s4 H4 G ro=>?_;have aW:=DE g G;have ak:post.reverse.length=u.blocks.length:=by simpa using aW
 have al:=D0 g G;have aX:=s3.trans s4;have am:Jv u (List.replicate u.blocks.length (List.replicate u.ee.length false)):=⟨by simp,λr hr=>by rw[SA hr];simp⟩
 have an:iz (List.replicate u.blocks.length (List.replicate u.ee.length false))=λ_ _=>False:=by
  funext b w;refine propext ⟨λ⟨r,A,h2⟩=>?_,λh=>h.elim⟩;rw[SA (xu A)]at h2;have:=SA (xu h2);cases this
 refine GC (λk U x4 x5 h'=>∃(F':Nat->Prop) (c:Bool) (ins outs:List (List Bool)),U = .ptr lv 0/\x4=vo/\x5 = .bool c/\k=gQ ins+(if c=true then 1 else 0)/\K3 u (gw u) (iz ins)/\Jv u ins/\Jv u outs/\
  (c=false->∀b,b<u.blocks.length->(∀w,iz outs b w↔Cw u (gw u) (iz ins) b w)/\∀w,iz ins b w↔wZ u b (iz outs b) w)/\Sn F4 C F' h'/\
  er F' h' (fo (eL eB) fL ins iT::fo (eL eB) fL outs fR::ey lv kU [.I u.func,.I u.pc,vv,vb,vs,iT,fR]::ey lb 29 (uC u vv vb vs)::cs)) ?_
  (k:=gQ (List.replicate u.blocks.length (List.replicate u.ee.length false))+1)
  ⟨F4,true,_,_,rfl,rfl,rfl,rfl,by rw[an];exact .start _ _,am,am,λh=>(by cases h),Sn.refl _ _,H4⟩
 clear hk k;rintro k U x4 x5 L ⟨F5,c,ins,outs,rfl,e4,rfl,hk,M,ao,aq,hc,Z,K⟩;subst x4;unfold Ao
 cases c with
 | false =>
   refine je (gB (by simp) ?_);have N:=hc rfl;exact H F5 L lv iT fR ins outs (aX.trans Z) ⟨K.fl,λi c hc=>by
       match i,hc with
       |0,hc=>exact K.ok 0 c hc
       |1,hc=>exact K.ok 1 c hc
       |2,hc=>exact K.ok 2 c hc
       |i+3,hc=>exact K.ok (i+4) c hc,λi j c d hc hd hn=>by
       have ar:∀(i:Nat) (c:Pc),(fo (eL eB) fL ins iT::fo (eL eB) fL outs fR::ey lv kU [.I u.func,.I u.pc,vv,vb,vs,iT,fR]::cs)[i]? =some c->
           (fo (eL eB) fL ins iT::fo (eL eB) fL outs fR::ey lv kU [.I u.func,.I u.pc,vv,vb,vs,iT,fR]::ey lb 29 (uC u vv vb vs)::cs)[if i<3 then i else i+1]? =some c:=by
         intro i c hc
         match i,hc with
         |0,hc=>exact hc
         |1,hc=>exact hc
         |2,hc=>exact hc
         |i+3,hc=>rw[if_neg (by omega)];exact hc
       refine K.B5 _ _ c d (ar i c hc) (ar j d hd) ?_
       split <;> split <;> omega⟩ ao aq ⟨λb w P=>(N b P).1 w,λb w P=>(N b P).2 w,M.least⟩
 | true =>
   refine je (gU rfl ?_);have lo:=(ro.since Z).len;rw[ak]at lo;refine ec lo (tM (by omega) (by omega) ?_);have au:∀n:Nat,n<=3000->jt .i64 (((n:Nat):Int)-1)=(n:Int)-1:=λn hn=>by rw[iO (by simp only[Fb];omega)]
   rw[show((u.blocks.length-1:Nat):Int)=(u.blocks.length:Int)-1 by omega]
   refine GK (λk U x4 x5 x6 h'=>∃(F':Nat->Prop) (j:Nat) (c:Bool) (a outs:List (List Bool)),U = .ptr lv 0/\x4=vo/\x5 = .bool c/\x6 = .I ((j:Int)-1)/\k=j/\j<=u.blocks.length/\K3 u (gw u) (iz a)/\Jv u a/\Jv u outs/\gQ a<=gQ ins/\(c=true->gQ a<gQ ins)/\
     (c=false->∀i b,j<=i->post.reverse[i]? =some b->(∀w,iz outs b w↔Cw u (gw u) (iz a) b w)/\∀w,iz a b w↔wZ u b (iz outs b) w)/\Sn F4 C F' h'/\
     er F' h' (fo (eL eB) fL a iT::fo (eL eB) fL outs fR::ey lv kU [.I u.func,.I u.pc,vv,vb,vs,iT,fR]::ey lb 29 (uC u vv vb vs)::cs)) ?_ (k:=u.blocks.length)
     ⟨F5,u.blocks.length,false,ins,outs,rfl,rfl,rfl,rfl,rfl,jn _,M,ao,aq,jn _,λh=>(by cases h),λ_ i b hi P=>by
       have:=(jw.1 P).1;omega,Z,K⟩
   rintro k2 U x4 x5 x6 h6 ⟨F6,j,c,a,f,rfl,e4,rfl,rfl,a5,hj,x,q,D,a6,X,aw,S,H6⟩;subst x4;unfold Ar
   cases j with
   | zero=>
     refine CL (gB (by omega) ?_);refine⟨gQ a+(if c=true then 1 else 0),?_,F6,c,a,f,rfl,rfl,rfl,rfl,x,q,D,λaY b P=>?_,S,H6⟩
     ·rw[hk,if_pos rfl]
      cases c with
      |true=>have:=X rfl;rw[if_pos rfl];omega
      |false=>rw[if_neg (by simp)];omega
     ·obtain⟨i,hi⟩:=mM.1 (Qw.2 (al b P))
      exact aw aY i b (GM _) hi
   | succ j =>
     rw[show(((j+1:Nat):Int)-1)=(j:Nat) by omega];refine CL (gU (by omega) ?_);obtain⟨b,P⟩:∃b,post.reverse[j]? =some b:=⟨_,iH (show j<post.reverse.length by omega)⟩
     have R:b<u.blocks.length:=G.pre b (Qw.1 (xu P));obtain⟨B,hB⟩:∃B,u.blocks[b]? =some B:=⟨_,iH R⟩
     obtain⟨l7,o7,_,p1,p2⟩:=(ro.since S).nat P .i64;refine ec p1 (ec p2 ?_);refine Ro g H6 ((u3.since s4).since S) q.len q.row D.len hB λF7 h7 c' row I W H7 aZ ax ay az N a0=>?_;refine ec (iM _ _) (ec (iy _ _ _ _) ?_);rw[au j (by omega)];obtain⟨r0,T⟩:∃r,a[b]? =some r:=⟨_,iH (show b<a.length by rw[q.len];exact R)⟩
     have a2:=q.row r0 (xu T);have aA:∀w,On row w↔Un.Tr u (gw u) (iz a) b w:=λw=>by rw[az w];exact wR ay w
     have aB:b<a.length:=by rw[q.len];exact R
     have aC:b<f.length:=by rw[D.len];exact R
     have aD:iz (a.set b row)=oH (iz a) b (Un.Tr u (gw u) (iz a) b):=by
       funext c w;refine propext ?_;rw[Eb aB];unfold oH;rw[aA w]
     have aE:∀w,On r0 w->On row w:=λw hw=>(aA w).2 (x.up b w ((rJ T w).2 hw));obtain⟨f1,f2⟩:=BR (l:=row) (r:=r0) (by omega) aE;have f3:=tI (row:=row) T;refine⟨j,by omega,F7,j,c' ||c,a.set b row,f.set b I,rfl,rfl,rfl,rfl,rfl,by omega,by rw[aD];exact x.step R,q.set aZ,D.set ax,by omega,λt=>?_,λt i b' hi ab=>?_,S.trans W,H7⟩
     ·cases hq:c' with
      | true=>
        have A:=a0 hq;have:=f2 λe=>A (by rw[e];exact T)
        omega
      | false=>
        rw[hq]at t;have:=X (by simpa using t);omega
     ·rw[WG]at t
      have ac:a.set b row=a:=by
        have A:=N t.1;refine Wd λm=>?_;by_cases e:m=b
        ·subst e
         rw[G2 aB,A]
        ·rw[Iv λh=>e h.symm]
      rw[ac];by_cases e:b' = b
      ·subst e
       have A:∀w,iz (f.set b' I) b' w↔On I w:=λw=>rJ (G2 aC) w;refine⟨λw=>by rw[A w,ay w],λw=>?_⟩;rw[rJ (N t.1) w,az w];exact(wR A w).symm
      ·have a1:j+1<=i:=by
         rcases Ji j i with A|A
         ·exact A
         ·obtain rfl:i=j:=by omega
          rw[P]at ab;exact absurd (Option.some.inj ab).symm e
       obtain ⟨A,h2⟩:=aw t.2 i b' a1 ab;have J:∀w,iz (f.set b I) b' w↔iz f b' w:=λw=>by
         rw[Eb aC];constructor
         ·rintro(⟨C,_⟩|⟨_,C⟩)
          ·exact absurd C e
          ·exact C
         ·exact λC=> .inr ⟨e,C⟩
       exact⟨λw=>by rw[J w];exact A w,λw=>by rw[h2 w];exact(wR J w).symm⟩
end
