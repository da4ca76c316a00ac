/- Parts. -/
import Derived.Test.YtcoaokdoecgcbaaGreatDoorM28
set_option maxHeartbeats 4000000
namespace Go.Proofs.YtcoaokdoecgcbaaGreatDoor.Hx
open Un Dm
theorem M4{u:U}{r:List Nat}{P b:Nat->Prop}(h:∀w,P w↔b w)(w:Nat):bk u r P w↔bk u r b w:=⟨Ct (λx a=>(h x).1 a) w,Ct (λx a=>(h x).2 a) w⟩
section
variable{F F':Nat->Prop}{h h':Hp}{cs:List Pc}{Q:fj}{u:U}{vv vb vs:V}{lv:Nat}{tu jI:V}{ins outs:List (List Bool)}
theorem zb0(g:Good u)(H0:ej F h (ft (eL eB) im ins tu::ft (eL eB) im outs jI::eD lv mG [.I u.func,.I u.pc,vv,vb,vs,tu,jI]::cs))(hu:EZ F h u vv vb vs)
  (aa:ins.length=u.blocks.length) (M:∀r∈ins,r.length=u.ee.length) (aF:outs.length=u.blocks.length) {b:Nat} {B:Bk} (L:u.blocks[b]? =some B)
  (H:∀F' h' c row a,Sn F h F' h'->ej F' h' (ft (eL eB) im (ins.set b row) tu::ft (eL eB) im (outs.set b a) jI::eD lv mG [.I u.func,.I u.pc,vv,vb,vs,tu,jI]::cs)->row.length=u.ee.length->a.length=u.ee.length->
   (∀w,On a w↔PO u (iu u) (nD ins) b w)->(∀w,On row w↔Ma u b (On a) w)->(c=false->ins[b]? =some row)->(c=true->ins[b]?≠some row)->Q (.bool c) h') :
  cP CS uo [.ptr lv 0,.I b] h Q:=by
 refine JZ ?_;have nv:=g.nv;have nb:=g.nb;have aG:=(ke.1 L).1;have C0:Lk F h _ lv u vv vb vs tu jI:=⟨H0,⟨2,rfl⟩,hu⟩
 refine zf2 g C0 (ii:=0) rfl aa M L λF1 f a vl s1 H1 N ab=>?_;refine oN (H1.ld 3 rfl rfl) ?_;rw[za,gI];obtain⟨H2,s2⟩:=H1.Ra (E:=eB) (xs:=[]) (ws:=[]) (n:=0) hV rfl trivial rfl;have H2:ej F1 (f.new (.cells 4 1 true false [])) (ft eB hV [] (.slice f.next 0 0)::ft eB hV a vl::_):=H2;have s2:Sn F1 f F1 (f.new (.cells 4 1 true false [])):=s2;have g2:(f.new (.cells 4 1 true false [])).get f.next=some (.cells 4 1 true false []):=fh _ _;generalize f.new (.cells 4 1 true false [])=P at*;refine⟨⟨g2,O.jS _ _ _ _ _⟩,H2.ld 4 rfl rfl,?_⟩;obtain⟨v3,h3,e3,n3,H3,s3⟩:=H2.zeP 0 1 rfl rfl (iU:=1) (by decide) (by decide) (by simp;omega);have ac:fg 4 1 1 (.slice f.next 0 0) vl P=some (.val v3 h3):=e3;rw[ac,eh];simp only[DR,RL]at H3;obtain⟨H4,s4,r4⟩:=H3.hY 0 rfl;simp only[DR]at H4;obtain⟨l5,o5,h5,e5,e6,n5,R,s5⟩:=H4.M7 3 rfl (k:=b) (y:=a) (u:=v3) (show b<outs.length by omega) rfl r4.one ⟨v3,rfl,r4⟩;refine⟨n3,ec e5 ⟨H3.ld 4 rfl rfl,?_⟩⟩;rw[e6,eh];refine⟨n5,?_⟩;simp only[M8,DR]at R;have R:=R.tail;have S:=(((s1.trans s2).trans s3).trans s4).trans s5;have C:=hu.since S;generalize (λl=>F1 l\/Loc v3 l)=F5 at*;have C5:Lk F5 h5 _ lv u vv vb vs tu jI:=⟨R,⟨3,rfl⟩,C⟩
 obtain⟨l6,o6,bv,bn,bp,_,i1,i2,iv,iN,ip,ba⟩:=C.B8 L;refine ec (eC _ _) (ec (fo _ _ _) (oF (C5.ld 3 rfl) (ec i1 (oF ba.ee (ec iv.len ?_)))));have ad:=tB g L;have ae:iD u b=B.ee:=by unfold iD;rw[L]
 have t:∀n:Nat,n<=3000->jo .i64 (((n:Nat):Int)-1)=(n:Int)-1:=λn hn=>by rw[gG (by simp only[ml];omega)]
 refine ec (jx _ _ _ _) ?_;rw[t _ ad];obtain⟨r0,p⟩:∃r,ins[b]? =some r:=⟨_,hZ (show b<ins.length by omega)⟩
 have aD:=M r0 (yN p)
 have fin:∀(x:Nat->Prop) (m:Hp) (cur:List Bool),Sn F5 h5 x m->ej x m (ft eB hV cur vl::ft (eL eB) im ins tu::ft (eL eB) im (outs.set b a) jI::eD lv mG [.I u.func,.I u.pc,vv,vb,vs,tu,jI]::cs)->cur.length=u.ee.length->
   (∀w,On cur w↔Ma u b (On a) w)->qo Q (.ptr lv 0) (.I b) vl (.bool false) vl (.I u.ee.length) (.I 0) m:=by
  intro x m cur D o e ag
  refine FL (λk T U G x8 I W X h'=>∃(i:Nat) (c:Bool),T = .ptr lv 0/\U = .I b/\G=vl/\x8 = .bool c/\I=vl/\W = .I u.ee.length/\X = .I i/\i+k=u.ee.length/\h' = m/\(c=false↔cur.take i=r0.take i)) ?_ (k:=u.ee.length)
   ⟨0,false,rfl,rfl,rfl,rfl,rfl,rfl,rfl,by omega,rfl,by simp⟩
  rintro k T U G x8 I W X h' ⟨i,c,rfl,rfl,e5,rfl,aH,rfl,rfl,hk,rfl,q⟩;subst G I;unfold qf;by_cases hi:i<u.ee.length
  ·refine gy ?_;obtain⟨y,hy⟩:∃y,cur[i]? =some y:=⟨_,hZ (show i<cur.length by omega)⟩
   obtain⟨z,hz⟩:∃z,r0[i]? =some z:=⟨_,hZ (show i<r0.length by omega)⟩
   obtain ⟨l7,o7,p1,p2⟩:=o.Yw 0 rfl hy .i64;obtain⟨l8,o8,w8,q1,q2,q3⟩:=o.zff 1 rfl p;obtain⟨l9,o9,_,t1,t2⟩:=q3.bool hz .i64;have ah:ez (.ptr lv (0+5)) h' = some tu:=o.ld 3 rfl rfl;have eO:mi (.bool c) (oB (some (V.bool y)) λai=>oB (some (V.ptr lv 0)) λaj=>oB (fR aj) λak=>oB (fJ 5 ak) λal=>oB (ez al h') λam=>oB (some (V.I b)) λan=>oB (gM 1 am an) λao=>oB (ez ao h') λaq=>oB (some (V.I i)) λar=>oB (gM 1 aq ar) λau=>oB (ez au h') λaw=>ef .neq 4 ai aw)=some (.bool (c ||(y != z))):=by
    simp only[eQ,eC,fo,ah,q1,q2,t1,t2];rw[show ef .neq 4 (V.bool y) (V.bool z)=some (.bool (y != z)) from R0 y z,jj]
   refine ec p1 (ec p2 (ec eO ?_));refine fG ⟨k-1,by omega,i+1,c ||(y != z),rfl,rfl,rfl,rfl,rfl,rfl,rfl,by omega,rfl,?_⟩;obtain⟨ax,rfl⟩:=ke.1 hy;obtain⟨ay,rfl⟩:=ke.1 hz;rw[Ho ax,Ho ay,wBe,q];constructor
   ·rintro⟨f,P⟩;rw[f];congr 2;simpa using P
   ·intro f;obtain⟨P,h3⟩:=List.append_inj f (by simp;omega);refine⟨P,?_⟩;simp at h3;simp[h3]
  ·refine iA ?_;obtain rfl:i=u.ee.length:=by omega
   obtain⟨H7,s7,r7⟩:=o.hY 0 rfl;simp only[DR]at H7;obtain⟨l8,o8,h8,e8,e9,n8,H8,s8⟩:=H7.M7 1 rfl (k:=b) (y:=cur) (u:=vl) (show b<ins.length by omega) rfl r7.one ⟨vl,rfl,r7⟩;refine oN (o.ld 3 rfl rfl) (ec e8 ?_);rw[e9,eh];simp only[M8,DR]at H8;rw[Xb (by omega),Xb (by omega)]at q;refine H _ _ c cur a (((S.trans D).trans s7).trans s8) H8.tail e N ab ag (λhc=>?_) λhc he=>?_
   ·rw[q.1 hc];exact p
   ·rw[p]at he;have:=q.2 (Option.some.inj he).symm;rw[hc]at this;cases this
 refine Fz (λk T U G x6 x7 h'=>∃(F':Nat->Prop) (l d:List Nat) (cur:List Bool),T = .ptr lv 0/\U = .I b/\G=vl/\x6=bv/\x7 = .I ((l.length:Int)-1)/\k=l.length/\B.ee=l++d/\Sn F5 h5 F' h'/\cur.length=u.ee.length/\
  ej F' h' (ft eB hV cur vl::ft (eL eB) im ins tu::ft (eL eB) im (outs.set b a) jI::eD lv mG [.I u.func,.I u.pc,vv,vb,vs,tu,jI]::cs)/\∀w,bk u l.reverse (On cur) w↔Ma u b (On a) w) ?_ (k:=B.ee.length)
  ⟨F5,B.ee,[],a,rfl,rfl,rfl,rfl,rfl,rfl,by simp,Sn.refl _ _,N,R,λw=>by unfold Ma;rw[ae]⟩
 rintro k T U G x6 x7 m ⟨x,l,d,cur,rfl,rfl,aI,aJ,rfl,hk,J,D,e,o,j⟩;subst G x6;unfold qe;have K:=o.len 0 (xs:=cur) rfl;rw[e]at K;have NP:l.length<=B.ee.length:=by rw[J,qu];omega
 refine ec (jK _ _ _ _) ?_;rcases jh l with rfl|⟨s,v,rfl⟩
 ·rw[show decide ((0:Int)<=(([]:List Nat).length:Int)-1)=false from rfl];refine sX (sX (sX (sX (sX (zb6 (ec (yC _) (fX (fH (by simp) (ec K ?_)))))))));exact fin x m cur D o e λw=>(j w)
 ·rw[Ov (by simp)];have pO:((s++[v]).length:Int)-1=(s.length:Nat):=by simp
  rw[pO];have A:B.ee[s.length]? =some v:=by rw[J];simp
  have az:At u v b s.length:=⟨B,L,A⟩
  have Y:=g.uP v b _ az;have aA:hD eN x m B.ee bv:=iv.since D;have aB:=C.since D;have C6:Lk x m _ lv u vv vb vs tu jI:=⟨o,⟨3,rfl⟩,aB⟩
  obtain⟨l7,o7,_,p1,p2⟩:=aA.nat A .i64;refine gY (ec rfl (gY (ec rfl (gY (ec rfl (gY (ec p1 (gY (ec p2 (Ci ?_))))))))));refine FO C6 Y ?_;rw[List.reverse_append]at j;simp only[List.reverse_cons,List.reverse_nil,RL,List.singleton_append]at j
  cases hq:gJ u v with
  | true=>
    refine ec rfl (fX (fH (by simp) (ec K ?_)));refine fin x m cur D o e λw=>?_;rw[<-j w];unfold bk
    rw[if_pos hq]
  | false=>
    refine ec rfl (fX (fO rfl (ec p1 (ec p2 ?_))));refine Vq g C6 e Y λF7 h7 Z s7 H7 aE aC=>?_;refine ec (jx _ _ _ _) ?_;rw[t s.length (by simp at NP;omega)];refine⟨s.length,by rw[hk];simp,F7,s,v::d,Z,rfl,rfl,rfl,rfl,rfl,rfl,by rw[J];simp,D.trans s7,by omega,H7,λw=>?_⟩;rw[<-j w]
    conv=>rhs;unfold bk
    rw[if_neg (by rw[hq];simp)];exact M4 aC w
def Dx:List Bool->Nat
 |[]=>0
 |true::l=>Dx l
 |false::l=>Dx l+1
def nK:List (List Bool)->Nat
 |[]=>0
 |r::l=>Dx r+nK l
theorem SX:∀{l r:List Bool},l.length=r.length->(∀w,On r w->On l w)->Dx l<=Dx r/\(l≠r->Dx l<Dx r)
 |[],[],_,_=>⟨jJ _,λh=>absurd rfl h⟩
 |[],_::_,h,_=>by simp at h
 |_::_,[],h,_=>by simp at h
 | a ::l,b::r,h,hw=>by
   obtain⟨g,f⟩:=SX (l:=l) (r:=r) (by simpa using h) λw c=>hw (w+1) c;have h0:=hw 0;unfold On at h0;simp only[List.getElem?_cons_zero,Option.some.injEq]at h0;cases a <;> cases b <;> simp only[Dx]
   ·refine⟨by omega,λd=>?_⟩
    have:=f λe=>d (by rw[e]);omega
   ·exact absurd (h0 rfl) (by simp)
   ·refine⟨by omega,λ_=>by omega⟩
   ·refine⟨g,λd=>f λe=>d (by rw[e])⟩
theorem KB:∀{ins:List (List Bool)}{b:Nat}{r row:List Bool},ins[b]? =some r->nK (ins.set b row)+Dx r=nK ins+Dx row
 |[],_,_,_,h=>by simp at h
 | x::ins,0,r,row,h=>by
   obtain rfl:x=r:=by simpa using h
   simp only[DR,nK]
   omega
 | x::ins,b+1,r,row,h=>by
   have:=KB (ins:=ins) (b:=b) (r:=r) (row:=row) (by simpa using h);simp only[M8,nK];omega
theorem UU{ins:List (List Bool)}{b:Nat}{row:List Bool}(a:b<ins.length)(c w:Nat):nD (ins.set b row) c w↔(c=b/\On row w)\/(c≠b/\nD ins c w):=by
 unfold nD;by_cases e:c=b
 ·subst e;rw[Tt a];constructor
  ·rintro⟨r,d,f⟩;cases d;exact .inl ⟨rfl,f⟩
  ·rintro(⟨_,h⟩|⟨h,_⟩)
   ·exact⟨row,rfl,h⟩
   ·exact absurd rfl h
 ·rw [VL λh=>e h.symm];constructor
  ·exact λh=> .inr ⟨e,h⟩
  ·rintro(⟨h,_⟩|⟨_,h⟩)
   ·exact absurd h e
   ·exact h
theorem Mr{ins:List (List Bool)}{b:Nat}{r:List Bool}(h:ins[b]? =some r)(w:Nat):nD ins b w↔On r w:=⟨λ⟨r',c,a⟩=>by rw[h]at c;cases c;exact a,λa=>⟨r,h,a⟩⟩
structure Shp (u:U) (ins:List (List Bool)):Prop where
 len:ins.length=u.blocks.length
 row:∀r∈ins,r.length=u.ee.length
theorem Shp.set{u:U}{ins:List (List Bool)}(h:Shp u ins){b:Nat}{row:List Bool}(a:row.length=u.ee.length):Shp u (ins.set b row):=
 ⟨by rw[wBF];exact h.len,λr c=>by
  rcases wBG c with d|rfl
  ·exact h.row r d
  ·exact a⟩
theorem Za(g:Good u)(H0:ej F h cs)(hu:EZ F h u vv vb vs)
  (H:∀F' h' lv tu jI ins outs,Sn F h F' h'->ej F' h' (ft (eL eB) im ins tu::ft (eL eB) im outs jI::eD lv mG [.I u.func,.I u.pc,vv,vb,vs,tu,jI]::cs)->Shp u ins->Shp u outs->mn u (iu u) (nD ins) (nD outs)->Q (.ptr lv 0) h') :
  cP CS AJ [.agg (uC u vv vb vs)] h Q:=by
 refine TB ?_;have nv:=g.nv;have nb:=g.nb;have Xi:=g.Xi;refine oC H0 hu.one λA H1 s1=>?_;refine ec (H1.tj 0 rfl rfl) (ec (show _=some (V.agg [.I u.func,.I u.pc,vv,vb,vs,.ed,.ed]) from rfl) ?_);have u1:=hu.since s1;refine oC H1 (by simp only[fe,u1.v.one,u1.b.one,u1.s.one];rfl) λh2 H2 s2=>?_;have u2:=u1.since s2;generalize h.next=lb at*;generalize A.next=lv at*;refine oF (H2.ld 1 rfl rfl) (ec u2.b.len ?_)
 have Y:ej F h2 (ft (eL eB) im [] .ed::ft (eL eB) im [] .ed::eD lv mG [.I u.func,.I u.pc,vv,vb,vs,.ed,.ed]::eD lb 34 (uC u vv vb vs)::cs):=
  (H2.add (p:=ft (eL eB) im [] .ed) .nil λ_ h=>h).add (p:=ft (eL eB) im [] .ed) .nil λ_ h=>h
 have aD:=s1.trans s2;have aE:∀n,gi (List.replicate n (V.bool false))=true:=Lq rfl
 refine OY (λk x1 U ad gL h'=>∃(F':Nat->Prop) (i:Nat) (tu jI:V),x1 = .ptr lb 0/\U = .ptr lv 0/\ad = .I u.blocks.length/\gL = .I i/\i+k=u.blocks.length/\Sn F h F' h'/\
  ej F' h' (ft (eL eB) im (List.replicate i (List.replicate u.ee.length false)) tu::ft (eL eB) im (List.replicate i (List.replicate u.ee.length false)) jI::eD lv mG [.I u.func,.I u.pc,vv,vb,vs,tu,jI]::eD lb 34 (uC u vv vb vs)::cs)) ?_ (k:=u.blocks.length)
  ⟨F,0,_,_,rfl,rfl,rfl,rfl,by omega,aD,Y⟩
 rintro k x1 U ad gL J ⟨F3,i,tu,jI,rfl,rfl,rfl,rfl,hk,s3,Y⟩;unfold zN;have u3:=hu.since s3;by_cases hi:i<u.blocks.length
 ·refine gy ?_;refine ec (eC ..) (ec (fo ..) (ec (Y.ld 2 rfl rfl) (ec (fo ..) (ec (Y.ld 3 rfl rfl) (ec u3.v.len ?_)))));rw[pG (z:=V.bool false) rfl (by decide) (by omega),gI];obtain⟨H4,s4,r4⟩:=Y.Y8 (E:=eB) (xs:=List.replicate u.ee.length false) (n:=u.ee.length) hV rfl (by simp) (rL.rep (y:=false) rfl u.ee.length);have g4:(J.new (.cells hV 1 true false (List.replicate u.ee.length (V.bool false)))).get J.next=some (.cells 4 1 true false (List.replicate u.ee.length (V.bool false))):=fh _ _;generalize J.new (.cells hV 1 true false (List.replicate u.ee.length (V.bool false)))=C at*;generalize aF:(λl=>F3 l\/l=J.next)=F4 at*;have f4:F4 J.next:=by rw[<-aF];exact .inr rfl
  have eP:∀v:V,v.one=true->iO 130 1 1 V.ed [(0,v)]=some (.cells 130 1 true false [v],λl=> .slice l 0 1):=λv hv=>YD rfl hv;rw[eP _ rfl,gI];obtain⟨K,Z,r5⟩:=H4.Y8 (E:=eL eB) (xs:=[List.replicate u.ee.length false]) (ws:=[.slice J.next 0 u.ee.length]) (n:=1) im rfl rfl ⟨[_],[],rfl,⟨_,rfl,r4⟩,trivial⟩;have g5:(C.new (.cells im 1 true false [.slice J.next 0 u.ee.length])).get C.next=some (.cells 130 1 true false [.slice J.next 0 u.ee.length]):=fh _ _;show oP (fR (.ptr lv 0)) _;generalize C.new (.cells im 1 true false [.slice J.next 0 u.ee.length])=L at*;generalize aG:(λl=>F4 l\/l=C.next)=F5 at*;have f5:F5 C.next:=by rw[<-aG];exact .inr rfl
  refine ec (eC ..) (ec (fo ..) (ec (K.ld 2 rfl rfl) (ec (fo ..) (ec (K.ld 3 rfl rfl) (ec ((u3.since s4).since Z).v.len ?_)))));rw[pG (z:=V.bool false) rfl (by decide) (by omega),gI];obtain⟨H6,S,r6⟩:=K.Y8 (E:=eB) (xs:=List.replicate u.ee.length false) (n:=u.ee.length) hV rfl (by simp) (rL.rep (y:=false) rfl u.ee.length);have g6:(L.new (.cells hV 1 true false (List.replicate u.ee.length (V.bool false)))).get L.next=some (.cells 4 1 true false (List.replicate u.ee.length (V.bool false))):=fh _ _;generalize L.new (.cells hV 1 true false (List.replicate u.ee.length (V.bool false)))=h6 at*;generalize aH:(λl=>F5 l\/l=L.next)=F6 at*;have f6:F6 L.next:=by rw[<-aH];exact .inr rfl
  rw[eP _ rfl,gI];obtain⟨H7,W,r7⟩:=H6.Y8 (E:=eL eB) (xs:=[List.replicate u.ee.length false]) (ws:=[.slice L.next 0 u.ee.length]) (n:=1) im rfl rfl ⟨[_],[],rfl,⟨_,rfl,r6⟩,trivial⟩;have g7:(h6.new (.cells im 1 true false [.slice L.next 0 u.ee.length])).get h6.next=some (.cells 130 1 true false [.slice L.next 0 u.ee.length]):=fh _ _;generalize h6.new (.cells im 1 true false [.slice L.next 0 u.ee.length])=h7 at*;generalize aI:(λl=>F6 l\/l=h6.next)=F7 at*;have f7:F7 h6.next:=by rw[<-aI];exact .inr rfl
  have ae:=(W.fy _ f6).trans g6;have aJ:=((S.trans W).fy _ f5).trans g5;have aK:=(((Z.trans S).trans W).fy _ f4).trans g4;refine⟨⟨g7,O.jS _ _ _ _ _⟩,⟨ae,O.jS _ _ _ _ _⟩,H7.ld 3 rfl rfl,H7.ld 2 rfl rfl,⟨aJ,O.jS _ _ _ _ _⟩,⟨aK,O.jS _ _ _ _ _⟩,H7.ld 3 rfl rfl,H7.ld 2 rfl rfl,?_⟩;have aL:=(r5.since S).since W;obtain⟨v8,h8,e8,n8,H8,s8⟩:=H7.WI 0 rfl (iU:=24) aL (by decide) (by decide) (by simp;omega);have aM:fg 130 1 24 tu (.slice C.next 0 1) h7=some (.val v8 h8):=e8;rw[aM,eh];simp only[DR]at H8;refine⟨n8,⟨(s8.fy _ f7).trans g7,O.jS _ _ _ _ _⟩,⟨(s8.fy _ (W.mono _ f6)).trans ae,O.jS _ _ _ _ _⟩,H8.ld 3 rfl rfl,H8.ld 2 rfl rfl,?_⟩;obtain⟨v9,h9,e9,n9,H9,s9⟩:=H8.WI 1 rfl (iU:=24) (r7.since s8) (by decide) (by decide) (by simp;omega);have aN:fg 130 1 24 jI (.slice h6.next 0 1) h8=some (.val v9 h9):=e9;rw[aN,eh];simp only[M8,DR]at H9;have o8:=H9.one 0 rfl;have o9:=H9.one 1 rfl;refine⟨n9,ec (eC _ _) (ec (fo _ _ _) ?_)⟩;obtain⟨a1,aO,aP,ag,aQ⟩:=H9.st 2 (o:=5) (u:=v8) rfl (by simp) o8;rw[show V.ptr lv (0+5)=V.ptr lv 5 from rfl,aO,eh];simp only[M8,DR]at ag;obtain⟨a2,aR,aS,aa,aT⟩:=ag.st 2 (o:=6) (u:=v9) rfl (by simp) o9;refine⟨aP,ec (eC _ _) (ec (fo _ _ _) ?_)⟩;rw[show V.ptr lv (0+6)=V.ptr lv 6 from rfl,aR,eh];simp only[M8,DR]at aa;have ah:List.replicate i (List.replicate u.ee.length false)++[List.replicate u.ee.length false]=List.replicate (i+1) (List.replicate u.ee.length false):=by rw[List.replicate_succ']
  rw[ah]at aa;have sx:=(((((((s3.trans s4).trans Z).trans S).trans W).trans s8).trans s9).trans aQ).trans aT;exact⟨aS,fG ⟨k-1,by omega,F7,i+1,v8,v9,rfl,rfl,rfl,rfl,by omega,sx,aa⟩⟩
 refine iA ?_;obtain rfl:i=u.blocks.length:=by omega
 refine ec (Y.tj 3 rfl rfl) ?_;refine M3 g Y u3 λF4 C vo seen post s4 H4 G ro=>?_;have aU:=Mw g G;have ai:post.reverse.length=u.blocks.length:=by simpa using aU
 have aj:=LV g G;have aV:=s3.trans s4;have ak:Shp u (List.replicate u.blocks.length (List.replicate u.ee.length false)):=⟨by simp,λr hr=>by rw[wBd hr];simp⟩
 have al:nD (List.replicate u.blocks.length (List.replicate u.ee.length false))=λ_ _=>False:=by
  funext b w;refine propext ⟨λ⟨r,A,h2⟩=>?_,λh=>h.elim⟩;rw[wBd (yN A)]at h2;have:=wBd (yN h2);cases this
 refine OU (λk U x4 x5 h'=>∃(F':Nat->Prop) (c:Bool) (ins outs:List (List Bool)),U = .ptr lv 0/\x4=vo/\x5 = .bool c/\k=nK ins+(if c=true then 1 else 0)/\Xx u (iu u) (nD ins)/\Shp u ins/\Shp u outs/\
  (c=false->∀b,b<u.blocks.length->(∀w,nD outs b w↔PO u (iu u) (nD ins) b w)/\∀w,nD ins b w↔Ma u b (nD outs b) w)/\Sn F4 C F' h'/\
  ej F' h' (ft (eL eB) im ins tu::ft (eL eB) im outs jI::eD lv mG [.I u.func,.I u.pc,vv,vb,vs,tu,jI]::eD lb 34 (uC u vv vb vs)::cs)) ?_
  (k:=nK (List.replicate u.blocks.length (List.replicate u.ee.length false))+1)
  ⟨F4,true,_,_,rfl,rfl,rfl,rfl,by rw[al];exact .start _ _,ak,ak,λh=>(by cases h),Sn.refl _ _,H4⟩
 clear hk k;rintro k U x4 x5 L ⟨F5,c,ins,outs,rfl,e4,rfl,hk,M,am,an,hc,Z,K⟩;subst x4;unfold zE
 cases c with
 | false =>
   refine fX (fH (by simp) ?_);have N:=hc rfl;exact H F5 L lv tu jI ins outs (aV.trans Z) ⟨K.fl,λi c hc=>by
       match i,hc with
       |0,hc=>exact K.ok 0 c hc
       |1,hc=>exact K.ok 1 c hc
       |2,hc=>exact K.ok 2 c hc
       |i+3,hc=>exact K.ok (i+4) c hc,λi j c d hc hd hn=>by
       have ao:∀(i:Nat) (c:Pc),(ft (eL eB) im ins tu::ft (eL eB) im outs jI::eD lv mG [.I u.func,.I u.pc,vv,vb,vs,tu,jI]::cs)[i]? =some c->
           (ft (eL eB) im ins tu::ft (eL eB) im outs jI::eD lv mG [.I u.func,.I u.pc,vv,vb,vs,tu,jI]::eD lb 34 (uC u vv vb vs)::cs)[if i<3 then i else i+1]? =some c:=by
         intro i c hc
         match i,hc with
         |0,hc=>exact hc
         |1,hc=>exact hc
         |2,hc=>exact hc
         |i+3,hc=>rw[if_neg (by omega)];exact hc
       refine K.Hj _ _ c d (ao i c hc) (ao j d hd) ?_
       split <;> split <;> omega⟩ am an ⟨λb w P=>(N b P).1 w,λb w P=>(N b P).2 w,M.least⟩
 | true =>
   refine fX (fO rfl ?_);have lo:=(ro.since Z).len;rw[ai]at lo;refine ec lo (vz (by omega) (by omega) ?_);have aq:∀n:Nat,n<=3000->jo .i64 (((n:Nat):Int)-1)=(n:Int)-1:=λn hn=>by rw[gG (by simp only[ml];omega)]
   rw[show((u.blocks.length-1:Nat):Int)=(u.blocks.length:Int)-1 by omega]
   refine OS (λk U x4 x5 x6 h'=>∃(F':Nat->Prop) (j:Nat) (c:Bool) (a outs:List (List Bool)),U = .ptr lv 0/\x4=vo/\x5 = .bool c/\x6 = .I ((j:Int)-1)/\k=j/\j<=u.blocks.length/\Xx u (iu u) (nD a)/\Shp u a/\Shp u outs/\nK a<=nK ins/\(c=true->nK a<nK ins)/\
     (c=false->∀i b,j<=i->post.reverse[i]? =some b->(∀w,nD outs b w↔PO u (iu u) (nD a) b w)/\∀w,nD a b w↔Ma u b (nD outs b) w)/\Sn F4 C F' h'/\
     ej F' h' (ft (eL eB) im a tu::ft (eL eB) im outs jI::eD lv mG [.I u.func,.I u.pc,vv,vb,vs,tu,jI]::eD lb 34 (uC u vv vb vs)::cs)) ?_ (k:=u.blocks.length)
     ⟨F5,u.blocks.length,false,ins,outs,rfl,rfl,rfl,rfl,rfl,jJ _,M,am,an,jJ _,λh=>(by cases h),λ_ i b hi P=>by
       have:=(ke.1 P).1;omega,Z,K⟩
   rintro k2 U x4 x5 x6 h6 ⟨F6,j,c,a,f,rfl,e4,rfl,rfl,a3,hj,x,q,D,a4,X,ar,S,H6⟩;subst x4;unfold zS
   cases j with
   | zero=>
     refine MG (kw ?_);refine⟨nK a+(if c=true then 1 else 0),?_,F6,c,a,f,rfl,rfl,rfl,rfl,x,q,D,λaW b P=>?_,S,H6⟩
     ·rw[hk,if_pos rfl]
      cases c with
      |true=>have:=X rfl;rw[if_pos rfl];omega
      |false=>rw[if_neg (by simp)];omega
     ·obtain⟨i,hi⟩:=mz.1 (wA7.2 (aj b P))
      exact ar aW i b (PM _) hi
   | succ j =>
     rw[show(((j+1:Nat):Int)-1)=(j:Nat) by omega];refine MG (io ?_);obtain⟨b,P⟩:∃b,post.reverse[j]? =some b:=⟨_,hZ (show j<post.reverse.length by omega)⟩
     have R:b<u.blocks.length:=G.pre b (wA7.1 (yN P));obtain⟨B,hB⟩:∃B,u.blocks[b]? =some B:=⟨_,hZ R⟩
     obtain⟨l7,o7,_,p1,p2⟩:=(ro.since S).nat P .i64;refine ec p1 (ec p2 ?_);refine zb0 g H6 ((u3.since s4).since S) q.len q.row D.len hB λF7 h7 c' row I W H7 aX au aw ax N aY=>?_;refine ec (jj _ _) (ec (jx _ _ _ _) ?_);rw[aq j (by omega)];obtain⟨r0,T⟩:∃r,a[b]? =some r:=⟨_,hZ (show b<a.length by rw[q.len];exact R)⟩
     have a0:=q.row r0 (yN T);have ay:∀w,On row w↔Un.Tr u (iu u) (nD a) b w:=λw=>by rw[ax w];exact M4 aw w
     have az:b<a.length:=by rw[q.len];exact R
     have aA:b<f.length:=by rw[D.len];exact R
     have aB:nD (a.set b row)=wH (nD a) b (Un.Tr u (iu u) (nD a) b):=by
       funext c w;refine propext ?_;rw[UU az];unfold wH;rw[ay w]
     have aC:∀w,On r0 w->On row w:=λw hw=>(ay w).2 (x.up b w ((Mr T w).2 hw));obtain⟨f1,f2⟩:=SX (l:=row) (r:=r0) (by omega) aC;have f3:=KB (row:=row) T;refine⟨j,by omega,F7,j,c' ||c,a.set b row,f.set b I,rfl,rfl,rfl,rfl,rfl,by omega,by rw[aB];exact x.step R,q.set aX,D.set au,by omega,λt=>?_,λt i b' hi ab=>?_,S.trans W,H7⟩
     ·cases hq:c' with
      | true=>
        have A:=aY hq;have:=f2 λe=>A (by rw[e];exact T)
        omega
      | false=>
        rw[hq]at t;have:=X (by simpa using t);omega
     ·rw[wBe]at t
      have ac:a.set b row=a:=by
        have A:=N t.1;refine wBw λm=>?_;by_cases e:m=b
        ·subst e
         rw[Tt az,A]
        ·rw[VL λh=>e h.symm]
      rw[ac];by_cases e:b' = b
      ·subst e
       have A:∀w,nD (f.set b' I) b' w↔On I w:=λw=>Mr (Tt aA) w;refine⟨λw=>by rw[A w,aw w],λw=>?_⟩;rw[Mr (N t.1) w,ax w];exact(M4 A w).symm
      ·have aZ:j+1<=i:=by
         rcases Sf j i with A|A
         ·exact A
         ·obtain rfl:i=j:=by omega
          rw[P]at ab;exact absurd (Option.some.inj ab).symm e
       obtain ⟨A,h2⟩:=ar t.2 i b' aZ ab;have J:∀w,nD (f.set b I) b' w↔nD f b' w:=λw=>by
         rw[UU aA];constructor
         ·rintro(⟨C,_⟩|⟨_,C⟩)
          ·exact absurd C e
          ·exact C
         ·exact λC=> .inr ⟨e,C⟩
       exact⟨λw=>by rw[J w];exact A w,λw=>by rw[h2 w];exact(M4 J w).symm⟩
