/- Parts. -/
import Derived.Test.YtpnddokajmjpbaaDoorM22
namespace Go.Proofs.YtpnddokajmjpbaaDoor.Hx
open Go.Proofs.YtpnddokajmjpbaaDoor.Un
section
variable{F F' G G':Nat->Prop}{h h':Hp}{lu lkn lbl:Nat}{ops:List Int}{t t':Dt}{R R':Rw}{Q:QP1}
theorem Ec {x:Vl}{w:List V}(D:Dw F G h lu lkn lbl t R)(hq:R.cc=R.vc)(u:eV.rel F h x w)(v:t.s.vals.length<1000)(hc:t.s.cur.length<1000)(J:t.s.known.length<1000){K:Hp->Prop}
  (H:∀h' R',Kp F G h h'->Dw F G h' lu lkn lbl {t with s:=putK t.s x} R'->R'.cc=R'.vc->K h') :
  cP CS eo [.agg w,.ptr lu 0,.ptr lbl 0] h λd b=>(h.next<=b.next/\alO (pBS 3 1 1 (V.int .i64 0) [(0,d)]) b λo e c=>((c.get b.next=some o/\O.beq o o=true)/\(pLd (.ptr lkn 0) c=some R.vk/\valP (happend 3 1 8 R.vk e c) λf g=>(c.next<=g.next/\valP (pSt 1 (.ptr lkn 0) f g) λ_ n=>(g.next<=n.next/\K n))))):=by
 refine Fb D hq u v hc λa R1 p q i j=>⟨p.next,?_⟩
 rw[<-j];have y:pBS 3 1 1 (V.int .i64 0) [(0,V.int .i64 t.s.vals.length)]=some (.cells 3 1 true false [V.int .i64 t.s.vals.length],λl=> .slice l 0 1):=rfl;rw[y,fD];have r:=q.grow (Chg.new a (.cells 3 1 true false [V.int .i64 t.s.vals.length]));have z:xcells (a.new (.cells 3 1 true false [V.int .i64 t.s.vals.length])) 1 (.slice a.next 0 1)=some (1,[V.int .i64 t.s.vals.length]):=jl (k:=0) rfl;obtain⟨A,B,b,a1,a2,a3,a4,C,E⟩:=r.appK (ys:=[t.s.vals.length]) z ⟨[V.int .i64 t.s.vals.length],[],rfl,rfl,trivial⟩ rfl rfl (by simp) (by show t.s.known.length+1<_;omega);have m:happend 3 1 8 R1.vk (.slice a.next 0 1) (a.new (.cells 3 1 true false [V.int .i64 t.s.vals.length]))=some (.val A B):=a1;refine⟨⟨ef _ _,O.beq_cells _ _ _ _ _⟩,r.ldK,?_⟩;simp only[m,ec,a3];have I:=(q.kpNew (.cells 3 1 true false [V.int .i64 t.s.vals.length])).trans C λ_ h=>h;exact⟨a2,a4,H _ _ (p.trans I λ_ h=>h) E i⟩
theorem IP {cs:List Pc}{y:List Int}{np:Int}{vo vs:V}(P:Hold F h cs)(aj:SlR (eI .i64) F h ops vo)(al:SlR (eI .i64) F h y vs)(ho:ops.length<9223372036854775808)
  (H:∀F' h' w,Sn F h F' h'->Hold F' h' cs->eUn.rel F' h' (unitM ops y np) w->Q (.agg w) h'):cP CS iV [.agg [vo,vs,.int .i64 np]] h Q:=by
 refine wH rfl rfl ?_;unfold qR;have o1:allOne [vo,vs,.int .i64 np]=true:=by simp only[ee,aj.one,al.one];rfl
 rw[vE o1,ev,ev];have n1:(h.new (.cells 25 1 true false [vo,vs,.int .i64 np])).next=h.next+1:=rfl;have g1:(h.new (.cells 25 1 true false [vo,vs,.int .i64 np])).get h.next=_:=ef _ _;have c1:Grows h (h.new (.cells 25 1 true false [vo,vs,.int .i64 np])):=Chg.new _ _;generalize h.new (.cells 25 1 true false [vo,vs,.int .i64 np])=u at*;have n2:(u.new (.cells 30 1 true false [(V.int .i64 0),(V.int .i64 0),V.nilSlice,V.nilSlice,V.nilSlice])).next=u.next+1:=rfl;have g2:(u.new (.cells 30 1 true false [(V.int .i64 0),(V.int .i64 0),V.nilSlice,V.nilSlice,V.nilSlice])).get u.next=_:=ef _ _;have c2:=c1.trans (Chg.new u (.cells 30 1 true false [(V.int .i64 0),(V.int .i64 0),V.nilSlice,V.nilSlice,V.nilSlice]));have am:=(er (h:=u) (.cells 30 1 true false [(V.int .i64 0),(V.int .i64 0),V.nilSlice,V.nilSlice,V.nilSlice]) (l:=h.next) (by omega)).trans g1;generalize u.new (.cells 30 1 true false [(V.int .i64 0),(V.int .i64 0),V.nilSlice,V.nilSlice,V.nilSlice])=j at*;have eB:pBuild [(V.int .i64 0),(V.int .i64 0),V.nilSlice,V.nilSlice,V.nilSlice] [(0,1),(1,1),(2,1),(3,1),(4,1)] [(0,(V.int .i64 1)),(1,(V.int .i64 2)),(4,V.nilSlice)]=some (.agg [.int .i64 1,.int .i64 2,.nilSlice,.nilSlice,.nilSlice]):=rfl;refine d9 eB ?_;rw[ev];have n3:(j.new (.cells 30 1 true false [(V.int .i64 0),(V.int .i64 0),V.nilSlice,V.nilSlice,V.nilSlice])).next=j.next+1:=rfl;have g3:(j.new (.cells 30 1 true false [(V.int .i64 0),(V.int .i64 0),V.nilSlice,V.nilSlice,V.nilSlice])).get j.next=_:=ef _ _;have c3:=c2.trans (Chg.new j (.cells 30 1 true false [(V.int .i64 0),(V.int .i64 0),V.nilSlice,V.nilSlice,V.nilSlice]));have an:=(er (h:=j) (.cells 30 1 true false [(V.int .i64 0),(V.int .i64 0),V.nilSlice,V.nilSlice,V.nilSlice]) (l:=h.next) (by omega)).trans am;have ao:=(er (h:=j) (.cells 30 1 true false [(V.int .i64 0),(V.int .i64 0),V.nilSlice,V.nilSlice,V.nilSlice]) (l:=u.next) (by omega)).trans g2;generalize j.new (.cells 30 1 true false [(V.int .i64 0),(V.int .i64 0),V.nilSlice,V.nilSlice,V.nilSlice])=A at*;have l2:j.next<A.next:=by omega
 have e4:=xL (n:=5) (ws:=[.int .i64 1,.int .i64 2,.nilSlice,.nilSlice,.nilSlice]) g3 rfl rfl rfl;rw[e4,ec];have n4:(A.put j.next (.cells 30 1 true false [.int .i64 1,.int .i64 2,.nilSlice,.nilSlice,.nilSlice])).next=A.next:=rfl;have g4:=fd (.cells 30 1 true false [.int .i64 1,.int .i64 2,.nilSlice,.nilSlice,.nilSlice]) l2;have ae:=(fg (.cells 30 1 true false [.int .i64 1,.int .i64 2,.nilSlice,.nilSlice,.nilSlice]) l2 (m:=h.next) (by omega)).trans an;have ap:=(fg (.cells 30 1 true false [.int .i64 1,.int .i64 2,.nilSlice,.nilSlice,.nilSlice]) l2 (m:=u.next) (by omega)).trans ao
 have c4:Grows h (A.put j.next (.cells 30 1 true false [.int .i64 1,.int .i64 2,.nilSlice,.nilSlice,.nilSlice])):=
  c3.trans' (Chg.put (S:=λl=>l=j.next) (.cells 30 1 true false [.int .i64 1,.int .i64 2,.nilSlice,.nilSlice,.nilSlice]) rfl l2) λl d e=>by omega
 generalize A.put j.next (.cells 30 1 true false [.int .i64 1,.int .i64 2,.nilSlice,.nilSlice,.nilSlice])=r at*;refine d9 (ed _ _ _) (d9 (gZ ae rfl) ?_);show cP CS fK [.int .i64 np,.int .i64 ((5:Nat):Int)] r _;refine Dg (by decide) (by decide) ?_;rw[ev];have g5:(r.new (.cells 23 1 true false [V.nilSlice])).get r.next=_:=ef _ _;have n5:(r.new (.cells 23 1 true false [V.nilSlice])).next=r.next+1:=rfl;have c5:=c4.trans (Chg.new r (.cells 23 1 true false [V.nilSlice]));have k5:∀l,l<r.next->(r.new (.cells 23 1 true false [V.nilSlice])).get l=r.get l:=λl d=>er _ d;generalize r.new (.cells 23 1 true false [V.nilSlice])=p at*;have aq:pBuild [V.nilSlice,(V.int .i64 0),(V.int .i64 0),V.nilSlice,V.nilSlice,(V.int .i64 0)] [(0,1),(1,1),(2,1),(3,1),(4,1),(5,1)] []=some (.agg [V.nilSlice,(V.int .i64 0),(V.int .i64 0),V.nilSlice,V.nilSlice,(V.int .i64 0)]):=rfl;refine d9 aq ?_;rw[ev];have g6:(p.new (.cells 44 1 true false [V.nilSlice,(V.int .i64 0),(V.int .i64 0),V.nilSlice,V.nilSlice,(V.int .i64 0)])).get p.next=_:=ef _ _;have n6:(p.new (.cells 44 1 true false [V.nilSlice,(V.int .i64 0),(V.int .i64 0),V.nilSlice,V.nilSlice,(V.int .i64 0)])).next=p.next+1:=rfl;have c6:=c5.trans (Chg.new p (.cells 44 1 true false [V.nilSlice,(V.int .i64 0),(V.int .i64 0),V.nilSlice,V.nilSlice,(V.int .i64 0)]));have k6:∀l,l<p.next->(p.new (.cells 44 1 true false [V.nilSlice,(V.int .i64 0),(V.int .i64 0),V.nilSlice,V.nilSlice,(V.int .i64 0)])).get l=p.get l:=λl d=>er _ d;generalize p.new (.cells 44 1 true false [V.nilSlice,(V.int .i64 0),(V.int .i64 0),V.nilSlice,V.nilSlice,(V.int .i64 0)])=h6 at*;have l5:p.next<h6.next:=by omega
 have e7:=xL (n:=6) (ws:=[V.nilSlice,(V.int .i64 0),(V.int .i64 0),V.nilSlice,V.nilSlice,(V.int .i64 0)]) g6 rfl rfl rfl;rw[e7,ec,ev];have g7:=fd (.cells 44 1 true false [V.nilSlice,(V.int .i64 0),(V.int .i64 0),V.nilSlice,V.nilSlice,(V.int .i64 0)]) l5;have n7:(h6.put p.next (.cells 44 1 true false [V.nilSlice,(V.int .i64 0),(V.int .i64 0),V.nilSlice,V.nilSlice,(V.int .i64 0)])).next=h6.next:=rfl;have k7:∀l,l≠p.next->(h6.put p.next (.cells 44 1 true false [V.nilSlice,(V.int .i64 0),(V.int .i64 0),V.nilSlice,V.nilSlice,(V.int .i64 0)])).get l=h6.get l:=λl d=>fg _ l5 λe=>d e.symm
 have c7:Grows h (h6.put p.next (.cells 44 1 true false [V.nilSlice,(V.int .i64 0),(V.int .i64 0),V.nilSlice,V.nilSlice,(V.int .i64 0)])):=
  c6.trans' (Chg.put (S:=λl=>l=p.next) (.cells 44 1 true false [V.nilSlice,(V.int .i64 0),(V.int .i64 0),V.nilSlice,V.nilSlice,(V.int .i64 0)]) rfl l5) λl d e=>by have:=c4.next;omega
 generalize h6.put p.next (.cells 44 1 true false [V.nilSlice,(V.int .i64 0),(V.int .i64 0),V.nilSlice,V.nilSlice,(V.int .i64 0)])=t at*;have g8:(t.new (.cells 70 1 true false [V.nilFunc])).get t.next=_:=ef _ _;have n8:(t.new (.cells 70 1 true false [V.nilFunc])).next=t.next+1:=rfl;have c8:=c7.trans (Chg.new t (.cells 70 1 true false [V.nilFunc]));have k8:∀l,l<t.next->(t.new (.cells 70 1 true false [V.nilFunc])).get l=t.get l:=λl d=>er _ d;generalize t.new (.cells 70 1 true false [V.nilFunc])=h8 at*;have l7:t.next<h8.next:=by omega
 have e9:=ju (o:=0) (v:= .func eo [] [.ptr j.next 0,.ptr p.next 0]) (cs':=[.func eo [] [.ptr j.next 0,.ptr p.next 0]]) g8 (by simp) rfl rfl;rw[e9,ec];have g9:=fd (.cells 70 1 true false [.func eo [] [.ptr j.next 0,.ptr p.next 0]]) l7;have n9:(h8.put t.next (.cells 70 1 true false [.func eo [] [.ptr j.next 0,.ptr p.next 0]])).next=h8.next:=rfl;have R:∀l,l≠t.next->(h8.put t.next (.cells 70 1 true false [.func eo [] [.ptr j.next 0,.ptr p.next 0]])).get l=h8.get l:=λl d=>fg _ l7 λe=>d e.symm
 have c9:Grows h (h8.put t.next (.cells 70 1 true false [.func eo [] [.ptr j.next 0,.ptr p.next 0]])):=
  c8.trans' (Chg.put (S:=λl=>l=t.next) (.cells 70 1 true false [.func eo [] [.ptr j.next 0,.ptr p.next 0]]) rfl l7) λl d e=>by have:=c7.next;omega
 generalize h8.put t.next (.cells 70 1 true false [.func eo [] [.ptr j.next 0,.ptr p.next 0]])=J at*;have C:∀l,l≠p.next->l≠t.next->l<r.next->J.get l=r.get l:=λl a b c=>by rw[R l b,k8 l (by omega),k7 l a,k6 l (by omega),k5 l c]
 have nn:u.next=h.next+1/\j.next=h.next+2/\r.next=h.next+3/\p.next=h.next+4/\t.next=h.next+5/\J.next=h.next+6:=by omega
 obtain⟨m1,m2,m4,m5,m7,m9⟩:=nn;have r1:J.get h.next=some (.cells 25 1 true false [vo,vs,.int .i64 np]):=by rw[C _ (by omega) (by omega) (by omega)];exact ae
 have r2:J.get u.next=some (.cells 30 1 true false [(V.int .i64 0),(V.int .i64 0),V.nilSlice,V.nilSlice,V.nilSlice]):=by rw[C _ (by omega) (by omega) (by omega)];exact ap
 have r3:J.get j.next=some (.cells 30 1 true false [.int .i64 1,.int .i64 2,.nilSlice,.nilSlice,.nilSlice]):=by rw[C _ (by omega) (by omega) (by omega)];exact g4
 have r4:J.get r.next=some (.cells 23 1 true false [V.nilSlice]):=by rw[R _ (by omega),k8 _ (by omega),k7 _ (by omega),k6 _ (by omega)];exact g5
 have r5:J.get p.next=some (.cells 44 1 true false [V.nilSlice,(V.int .i64 0),(V.int .i64 0),V.nilSlice,V.nilSlice,(V.int .i64 0)]):=by rw[R _ (by omega),k8 _ (by omega)];exact g7
 have ag:∀c∈cs,∀l,c.foot l->l<h.next/\¬F l:=λc hc l d=>by
  obtain⟨i,hi⟩:=wAD.1 hc;exact c.inn (P.ok i c hi) l d
 have aD:∀i l,comp j.next r.next p.next ⟨.nilSlice,.nilSlice,.nilSlice,.nilSlice,.nilSlice,.nilSlice,.nilSlice⟩ i l->h.next+2<=l/\l<=h.next+4:=by
  intro i l d
  match i,d with
  |0,d=>have:l=j.next:=d;omega
  |1,d=>have:l=r.next:=d;omega
  |2,d=>have:l=p.next:=d;omega
  |3,d=>exact d.elim
  |4,d=>exact d.elim
  |5,d=>exact d.elim
  |6,d=>exact d.elim
  |7,d=>exact d.elim
 have D9:Dw (λl=>F l\/l=h.next\/l=t.next) (λl=>(∃c∈cs,c.foot l)\/l=u.next) J j.next r.next p.next ⟨⟨[],[],[],[],0⟩,[],[]⟩ ⟨.nilSlice,.nilSlice,.nilSlice,.nilSlice,.nilSlice,.nilSlice,.nilSlice⟩:=
  { fl := λl d=>by rcases d with d|rfl|rfl;have:=P.fl l d;omega;omega;omega
    gu:=r3
    gk:=r4
    gb:=r5
    nu:=⟨by omega,by rintro(d|d|d);have:=P.fl _ d;omega;omega;omega⟩
    nk:=⟨by omega,by rintro(d|d|d);have:=P.fl _ d;omega;omega;omega⟩
    nb:=⟨by omega,by rintro(d|d|d);have:=P.fl _ d;omega;omega;omega⟩
    ov:= .nil
    ob:= .nil
    os:= .nil
    ok:= .nil
    oc:= .nil
    sp:= .nil
    kc:=λ_ h=>h.elim
    gx := λl d=>by
      have hb:(l<h.next/\¬F l)\/l=u.next:=by
        rcases d with⟨c,hc,d⟩|d
        ·exact .inl (ag c hc l d)
        ·exact .inr d
      refine⟨by omega,?_,λi hi=>?_⟩
      ·rintro (A|A|A)
       ·rcases hb with r|r
        ·exact r.2 A
        ·have:=P.fl _ A;omega
       ·omega
       ·omega
      ·have:=aD i l hi;omega}
 have ah:Kp F (λl=>∃c∈cs,c.foot l) h J:=⟨c9.next,λl d=>c9.keep l (by
  rcases d with d|⟨c,hc,d⟩
  ·exact P.fl l d
  ·exact(ag c hc l d).1) λh=>h⟩
 have N:J.get t.next=some (.cells 70 1 true false [.func eo [] [.ptr j.next 0,.ptr p.next 0]]):=g9;clear e4 e7 e9 eB aq g1 am an ae g2 ao ap g3 g4 g5 g6 g7 g8 g9 k5 k6 k7 k8 R C c1 c2 c3 c4 c5 c6 c7 c8 r3 r4 r5;have ar:SlR (eI .i64) (λl=>F l\/l=h.next\/l=t.next) J ops vo:=(aj.keep λl d=>ah.keep l (.inl d)).mono λ_ h=> .inl h;have au:SlR (eI .i64) (λl=>F l\/l=h.next\/l=t.next) J y vs:=(al.keep λl d=>ah.keep l (.inl d)).mono λ_ h=> .inl h;have a5:=zz np (m:=5) (by decide)
 refine uq (λk x1 x2 x3 x4 x5 x6 x7 x8 hh=>∃(R':Rw) (i:Nat) (s:Ds),x1 = .ptr h.next 0/\x2 = .ptr u.next 0/\x3 = .ptr j.next 0/\x4 = .int .i64 (pickN np 5:Nat)/\x5 = .ptr r.next 0/\x6 = .ptr p.next 0/\x7 = .ptr t.next 0/\x8 = .int .i64 i/\
  i+k=pickN np 5/\Kp (λl=>F l\/l=h.next\/l=t.next) (λl=>(∃c∈cs,c.foot l)\/l=u.next) J hh/\Dw (λl=>F l\/l=h.next\/l=t.next) (λl=>(∃c∈cs,c.foot l)\/l=u.next) hh j.next r.next p.next ⟨s,[],[]⟩ R'/\R'.cc=R'.vc/\
  s.vals.length=i/\s.cur.length=i/\s.known.length=i/\s.states=[]/\params k i s=params (pickN np 5) 0 ⟨[],[],[],[],0⟩/\s.pos=0) ?_ (k:=pickN np 5)
  ⟨_,0,⟨[],[],[],[],0⟩,rfl,rfl,rfl,rfl,rfl,rfl,rfl,rfl,by omega,Kp.refl _ _ _,D9,rfl,rfl,rfl,rfl,rfl,rfl,rfl⟩
 rintro k x1 x2 x3 x4 x5 x6 x7 x8 hh ⟨R1,i,s,rfl,rfl,rfl,rfl,rfl,rfl,rfl,rfl,a6,kk,D,hq,s1,s2,s3,s4,hp,Z⟩;unfold nY;have lput:pLd (.ptr t.next 0) hh=some (.func eo [] [.ptr j.next 0,.ptr p.next 0]):=gZ (by rw[kk.keep _ (.inl (.inr (.inr rfl)))];exact N) rfl;by_cases hlt:i<pickN np 5
 ·refine ltYes ?_;refine d9 D.ldK (d9 lput ?_);have eP:∀i:Nat,pBuild [(V.int .i64 0),(V.int .i64 0),(V.int .i64 0),(V.int .i64 0),V.nilSlice,(V.int .i64 0)] [(0,1),(1,1),(2,1),(3,1),(4,1),(5,1)] [(0,(V.int .i64 1)),(3,.int .i64 (i:Nat))]=some (.agg (vlC (vl 1 0 0 (i:Nat) [] 0) .nilSlice)):=λ_=>rfl;refine d9 (eP _) ?_;show cP CS eo [.agg (vlC (vl 1 0 0 (i:Nat) [] 0) .nilSlice),.ptr j.next 0,.ptr p.next 0] hh _;refine Ec D hq ⟨_,rfl,.nil⟩ (by show s.vals.length<_;omega) (by show s.cur.length<_;omega) (by show s.known.length<_;omega) λf R2 k2 T ai=>?_;refine addOne ?_;obtain⟨k',rfl⟩:∃k',k=k' + 1:=⟨k-1,by omega⟩
  exact⟨k',by omega,R2,i+1,putK s (vl 1 0 0 (i:Nat) [] 0),rfl,rfl,rfl,rfl,rfl,rfl,rfl,rfl,by omega,kk.trans k2 λ_ h=>h,T,ai,by simp[putK,s1],by simp[putK,s2],by simp[putK,s3],s4,by rw[<-hp];rfl,Z⟩
 refine ltNo ?_;obtain rfl:k=0:=by omega
 have hs:s=params (pickN np 5) 0 ⟨[],[],[],[],0⟩:=hp;refine d9 D.ldK (d9 lput ?_);have eP:pBuild [(V.int .i64 0),(V.int .i64 0),(V.int .i64 0),(V.int .i64 0),V.nilSlice,(V.int .i64 0)] [(0,1),(1,1),(2,1),(3,1),(4,1),(5,1)] [(0,(V.int .i64 2)),(3,(V.int .i64 5))]=some (.agg (vlC (vl 2 0 0 5 [] 0) .nilSlice)):=rfl;refine d9 eP ?_;show cP CS eo [.agg (vlC (vl 2 0 0 5 [] 0) .nilSlice),.ptr j.next 0,.ptr p.next 0] hh _;refine Ec D hq ⟨_,rfl,.nil⟩ (by show s.vals.length<_;omega) (by show s.cur.length<_;omega) (by show s.known.length<_;omega) λf R2 k2 T ai=>?_;have kq:=kk.trans k2 λ_ h=>h;have T:Dw _ _ f j.next r.next p.next ⟨putK s (vl 2 0 0 5 [] 0),[],[]⟩ R2:=T;have nh:J.next<=f.next:=kq.next;rw[ev];have D3:=T.grow (Chg.new f (.cells 3 1 true false [V.int .i64 0]));have g3:(f.new (.cells 3 1 true false [V.int .i64 0])).get f.next=_:=ef _ _;have aE:=kq.trans (T.kpNew (.cells 3 1 true false [V.int .i64 0])) λ_ h=>h
 have E:∀l,f.next<=l->¬(F l\/l=h.next\/l=t.next)/\¬((∃c∈cs,c.foot l)\/l=u.next)/\∀i,¬comp j.next r.next p.next R2 i l:=λl d=>
  ⟨λhf=>by have:=T.fl l hf;omega,λhg=>by have:=(T.gx l hg).1;omega,λi hi=>by have:=(T.sig hi).2.1;omega⟩
 have a7:(f.new (.cells 3 1 true false [V.int .i64 0])).next=f.next+1:=rfl;generalize f.new (.cells 3 1 true false [V.int .i64 0])=U at*;have aF:=ju (o:=0) (v:=V.int .i64 0) (cs':=[V.int .i64 0]) g3 (by simp) rfl rfl;rw[aF,ec];obtain⟨D4,k4⟩:=D3.other (Chg.put (S:=λl=>l=f.next) (.cells 3 1 true false [V.int .i64 0]) rfl (by omega)) λl e=>by subst e;exact E _ (wAF _)
 have g4:=fd (.cells 3 1 true false [V.int .i64 0]) (show f.next<U.next by omega);have a8:(U.put f.next (.cells 3 1 true false [V.int .i64 0])).next=U.next:=rfl;have aG:=aE.trans k4 λ_ h=>h;generalize U.put f.next (.cells 3 1 true false [V.int .i64 0])=g at*;rw[ev];have D5:=D4.grow (Chg.new g (.cells 71 1 true false [V.nilFunc]));have aH:=aG.trans (D4.kpNew (.cells 71 1 true false [V.nilFunc])) λ_ h=>h;have g5:(g.new (.cells 71 1 true false [V.nilFunc])).get g.next=_:=ef _ _;have aI:=(er (h:=g) (.cells 71 1 true false [V.nilFunc]) (l:=f.next) (by omega)).trans g4;have a9:(g.new (.cells 71 1 true false [V.nilFunc])).next=g.next+1:=rfl;generalize g.new (.cells 71 1 true false [V.nilFunc])=O at*;have aJ:=ju (o:=0) (v:= .func eh [] [.ptr f.next 0,.ptr h.next 0]) (cs':=[.func eh [] [.ptr f.next 0,.ptr h.next 0]]) g5 (by simp) rfl rfl;rw[aJ,ec];obtain⟨D6,k6⟩:=D5.other (Chg.put (S:=λl=>l=g.next) (.cells 71 1 true false [.func eh [] [.ptr f.next 0,.ptr h.next 0]]) rfl (by omega)) λl e=>by subst e;exact E _ (by omega)
 have g6:=fd (.cells 71 1 true false [.func eh [] [.ptr f.next 0,.ptr h.next 0]]) (show g.next<O.next by omega);have aK:=(fg (.cells 71 1 true false [.func eh [] [.ptr f.next 0,.ptr h.next 0]]) (show g.next<O.next by omega) (m:=f.next) (by omega)).trans aI;have ba:(O.put g.next (.cells 71 1 true false [.func eh [] [.ptr f.next 0,.ptr h.next 0]])).next=O.next:=rfl;have aL:=aH.trans k6 λ_ h=>h;generalize O.put g.next (.cells 71 1 true false [.func eh [] [.ptr f.next 0,.ptr h.next 0]])=q at*;rw[ev];have D7:=D6.grow (Chg.new q (.cells 72 1 true false [V.nilFunc]));have aM:=aL.trans (D6.kpNew (.cells 72 1 true false [V.nilFunc])) λ_ h=>h;have g7:(q.new (.cells 72 1 true false [V.nilFunc])).get q.next=_:=ef _ _;have aN:=(er (h:=q) (.cells 72 1 true false [V.nilFunc]) (l:=f.next) (by omega)).trans aK;have aO:=(er (h:=q) (.cells 72 1 true false [V.nilFunc]) (l:=g.next) (by omega)).trans g6;have bb:(q.new (.cells 72 1 true false [V.nilFunc])).next=q.next+1:=rfl;generalize q.new (.cells 72 1 true false [V.nilFunc])=M at*;have aP:=ju (o:=0) (v:= .func eJ [] [.ptr j.next 0,.ptr g.next 0,.ptr r.next 0]) (cs':=[.func eJ [] [.ptr j.next 0,.ptr g.next 0,.ptr r.next 0]]) g7 (by simp) rfl rfl;rw[aP,ec];obtain⟨D8,k8⟩:=D7.other (Chg.put (S:=λl=>l=q.next) (.cells 72 1 true false [.func eJ [] [.ptr j.next 0,.ptr g.next 0,.ptr r.next 0]]) rfl (by omega)) λl e=>by subst e;exact E _ (by omega)
 have g8:=fd (.cells 72 1 true false [.func eJ [] [.ptr j.next 0,.ptr g.next 0,.ptr r.next 0]]) (show q.next<M.next by omega);have aQ:=(fg (.cells 72 1 true false [.func eJ [] [.ptr j.next 0,.ptr g.next 0,.ptr r.next 0]]) (show q.next<M.next by omega) (m:=f.next) (by omega)).trans aN;have aR:=(fg (.cells 72 1 true false [.func eJ [] [.ptr j.next 0,.ptr g.next 0,.ptr r.next 0]]) (show q.next<M.next by omega) (m:=g.next) (by omega)).trans aO;have bc:(M.put q.next (.cells 72 1 true false [.func eJ [] [.ptr j.next 0,.ptr g.next 0,.ptr r.next 0]])).next=M.next:=rfl;have G:=aM.trans k8 λ_ h=>h;generalize M.put q.next (.cells 72 1 true false [.func eJ [] [.ptr j.next 0,.ptr g.next 0,.ptr r.next 0]])=I at*;have aa:I.get h.next=some (.cells 25 1 true false [vo,vs,.int .i64 np]):=by rw[G.keep _ (.inl (.inr (.inl rfl)))];exact r1
 have ab:I.get u.next=some (.cells 30 1 true false [(V.int .i64 0),(V.int .i64 0),V.nilSlice,V.nilSlice,V.nilSlice]):=by rw[G.keep _ (.inr (.inr rfl))];exact r2
 have aw:I.get t.next=some (.cells 70 1 true false [.func eo [] [.ptr j.next 0,.ptr p.next 0]]):=by rw[G.keep _ (.inl (.inr (.inr rfl)))];exact N
 have q8:Dq (λl=>(F l\/l=h.next\/l=t.next)\/l=g.next\/l=q.next) (λl=>((∃c∈cs,c.foot l)\/l=u.next)\/l=f.next) I ⟨h.next,j.next,r.next,p.next,t.next,f.next,g.next,q.next⟩ ops ⟨putK s (vl 2 0 0 5 [] 0),[],[]⟩ R2:=
  { D :=(D8.more (F':=λl=>(F l\/l=h.next\/l=t.next)\/l=g.next\/l=q.next) (λ_ h=> .inl h) λl d=>d.imp id λd=>⟨by omega,(E l (by omega)).2.2,(E l (by omega)).2.1⟩).gmore λl d=>d.imp id λe=>by
      subst e;refine⟨by omega,?_,(E _ (wAF _)).2.2⟩;rintro(A|A)
      ·exact(E _ (wAF _)).1 A
      ·omega
    hq:=ai
    gl:= .inr rfl
    ga:=by
      have:(putK s (vl 2 0 0 5 [] 0)).pos=0:=Z;rw[show((⟨putK s (vl 2 0 0 5 [] 0),[],[]⟩:Dt).s.pos:Nat)=0 from this];exact aQ
    fr:= .inl (.inr (.inl rfl))
    gr:=⟨vo,vs,.int .i64 np,aa,(ar.keep λl d=>G.keep l (.inl d)).mono λ_ h=> .inl h⟩
    fp:= .inl (.inr (.inr rfl))
    gp:=⟨_,aw⟩
    fn:= .inr (.inl rfl)
    gn:=⟨_,aR⟩
    fs:= .inr (.inr rfl)
    gs:=⟨_,g8⟩ }
 have aS:Sm (putK s (vl 2 0 0 5 [] 0)) 10:=⟨by simp[putK];omega,by simp[putK];omega,by simp[putK];omega,by simp[putK,s4],by simp[putK]⟩
 have ax:SlR (eI .i64) (λl=>(F l\/l=h.next\/l=t.next)\/l=g.next\/l=q.next) I y vs:=(au.keep λl d=>G.keep l (.inl d)).mono λ_ h=> .inl h;have K:Kp F (λl=>∃c∈cs,c.foot l) h I:=ah.trans ⟨G.next,λl d=>G.keep l (d.imp .inl .inl)⟩ λ_ h=>h;show calP CS (hcall (fRow ⟨h.next,j.next,r.next,p.next,t.next,f.next,g.next,q.next⟩) []) I _;refine wD q8 ho aS (by omega) λF9 bd R9 f9 R q9 n9=>?_
 refine Kl (vo:=vo) (vs:=vs) (nv:= .int .i64 np) ho q9 (n9.le (by omega)) rfl (by rw[R.keep _ (.inl (.inl (.inr (.inl rfl))))];exact aa) ((ax.keep λl d=>R.keep l (.inl d)).mono f9) (.inl (.inr rfl)) (by show u.next≠f.next;omega)
  ⟨_,(R.keep _ (.inr ⟨.inl (.inr rfl),by show u.next≠f.next;omega⟩)).trans ab,rfl⟩ λW z R10 t1 aT aU x aV=>?_
 have ay:(λl=>((∃c∈cs,c.foot l)\/l=u.next)\/l=f.next) u.next:= .inl (.inr rfl);have B:=R.trans aU f9;have aA:z.get u.next=some (.cells 30 1 true false [(V.int .i64 0),(V.int .i64 0),V.nilSlice,V.nilSlice,V.nilSlice]):=by rw[B.keep _ (.inr ⟨ay,by show u.next≠f.next;omega⟩)];exact ab
 have aB:u.next<z.next:=by have:=B.next;omega
 have ow:allOne [.int .i64 1,.int .i64 2,R10.vv,R10.vb,R10.vs]=true:=by simp only[ee,x.D.ov.one,x.D.ob.one,x.D.os.one];rfl
 have aW:=xL (n:=5) (ws:=[.int .i64 1,.int .i64 2,R10.vv,R10.vb,R10.vs]) aA rfl rfl ow;rw[aW,ec];have aX:=fd (.cells 30 1 true false [.int .i64 1,.int .i64 2,R10.vv,R10.vb,R10.vs]) aB;refine d9 (uL aX rfl) ?_;have X:=x.D.gx u.next ay;have ne:∀l,W l\/Loc R10.vv l\/Loc R10.vb l\/Loc R10.vs l->l≠u.next:=by
  rintro l (d|d|d|d) rfl
  ·exact X.2.1 d
  ·exact X.2.2 3 d
  ·exact X.2.2 4 d
  ·exact X.2.2 5 d
 have Y:∀l,l≠u.next->(z.put u.next (.cells 30 1 true false [.int .i64 1,.int .i64 2,R10.vv,R10.vb,R10.vs])).get l=z.get l:=λl d=>fg _ aB λe=>d e.symm;have L:∀l,F l->W l:=λl d=>aT l (f9 l (.inl (.inl d)));have ac:∀l,F l->z.get l=h.get l:=λl d=>(B.keep l (.inl (.inl (.inl d)))).trans (K.keep l (.inl d));refine H (λl=>W l\/Loc R10.vv l\/Loc R10.vb l\/Loc R10.vs l) _ _ ⟨by have:=B.next;have:=K.next;show h.next<=z.next;omega,λl d=>(Y l (ne l (.inl (L l d)))).trans (ac l d),λl d=> .inl (L l d)⟩ ?_ ?_
 ·refine ⟨λl d=>?_,λi c hc=>?_,P.dis⟩
  ·show l<z.next;rcases d with d|d|d|d
   ·exact x.D.fl l d
   ·exact(x.D.ov.tyOf d).2.1
   ·exact(x.D.ob.tyOf d).2.1
   ·exact(x.D.os.tyOf d).2.1
  ·have aY:=P.ok i c hc;have hm:=wAD.2 ⟨i,hc⟩;have aC:∀l,c.foot l->l<h.next:=λl d=>(ag c hm l d).1;have kc:∀l,c.foot l->(z.put u.next (.cells 30 1 true false [.int .i64 1,.int .i64 2,R10.vv,R10.vb,R10.vs])).get l=h.get l:=λl d=>by
    have:=aC l d;rw[Y l (by omega),B.keep l (.inr ⟨.inl (.inl ⟨c,hm,d⟩),by show l≠f.next;omega⟩)];exact K.keep l (.inr ⟨c,hm,d⟩)
   refine c.mono (c.keep aY (λl d=>(Y l (ne l (.inl (L l d)))).trans (ac l d)) kc (by have:=B.next;have:=K.next;show h.next<=z.next;omega)) (λl d=> .inl (L l d)) λl d aZ=>?_;have gx:=x.D.gx l (.inl (.inl ⟨c,hm,d⟩));rcases aZ with A|A|A|A
   ·exact gx.2.1 A
   ·exact gx.2.2 3 A
   ·exact gx.2.2 4 A
   ·exact gx.2.2 5 A
 ·have eu:unitM ops y np=⟨1,2,t1.s.vals,t1.blocks,t1.s.states⟩:=by
   rw[aV];unfold unitM;rw[hs]
  rw[eu];have k2:∀l,W l\/Loc R10.vv l\/Loc R10.vb l\/Loc R10.vs l->(z.put u.next (.cells 30 1 true false [.int .i64 1,.int .i64 2,R10.vv,R10.vb,R10.vs])).get l=z.get l:=λl d=>Y l (ne l d);exact⟨R10.vv,R10.vb,R10.vs,rfl,(x.D.ov.slR (λ_ h=> .inl h) λ_ h=> .inr (.inl h)).keep k2,(x.D.ob.slR (λ_ h=> .inl h) λ_ h=> .inr (.inr (.inl h))).keep k2,(x.D.os.slR (λ_ h=> .inl h) λ_ h=> .inr (.inr (.inr h))).keep k2⟩
end
