/- Parts. -/
import Derived.Test.YtkpicojjjifmgaaGreatDoorM23
import Derived.Test.YtkpicojjjifmgaaGreatDoorM16
namespace Go.Proofs.YtkpicojjjifmgaaGreatDoor.Hx
open Un
def eZ:ri Int where
 sz:=1
 rel _ _ n cs:=cs=[.I n]
 len h:=by subst h;rfl
 one h:=by subst h;rfl
 fm _ h:=h
 mono _ h:=h
def eW:ri (Nat×Nat) where
 sz:=2
 rel _ _ x cs:=cs=[.I (x.1:Nat),.I (x.2:Nat)]
 len h:=by subst h;rfl
 one h:=by subst h;rfl
 fm _ h:=h
 mono _ h:=h
structure ym (F:Nat->Prop) (h:Hp) (u:U) (vv vb vs:V):Prop where
 v:iq eV F h u.eh vv
 b:iq eK F h u.blocks vb
 s:iq eT F h u.en vs
theorem ym.fm{F:Nat->Prop}{h h':Hp}{u:U}{vv vb vs:V}(c:∀l,F l->h'.get l=h.get l)(a:ym F h u vv vb vs):ym F h' u vv vb vs:=⟨a.v.fm c,a.b.fm c,a.s.fm c⟩
theorem ym.mono{F F':Nat->Prop}{h:Hp}{u:U}{vv vb vs:V}(c:∀l,F l->F' l)(a:ym F h u vv vb vs):ym F' h u vv vb vs:=⟨a.v.mono c,a.b.mono c,a.s.mono c⟩
theorem ym.one{F:Nat->Prop}{h:Hp}{u:U}{vv vb vs:V}(a:ym F h u vv vb vs):gG (uC u vv vb vs)=true:=by simp only[uC,ey,a.v.one,a.b.one,a.s.one];rfl
theorem iq.since{α:Type}{E:ri α}{F F':Nat->Prop}{h h':Hp}{xs:List α}{v:V}(hs:iq E F h xs v)(s:Sn F h F' h'):iq E F' h' xs v:=(hs.fm s.fm).mono s.mono
theorem ym.since{F F':Nat->Prop}{h h':Hp}{u:U}{vv vb vs:V}(a:ym F h u vv vb vs)(s:Sn F h F' h'):ym F' h' u vv vb vs:=(a.fm s.fm).mono s.mono
section
variable{F F':Nat->Prop}{h h':Hp}{cs:List Pc}{Q:fy}{u:U}{vv vb vs:V}
structure zd0 (h:Hp) (l o:Nat) (x:Vl) (w:V):Prop where
 op:eQ (.ptr l (o+0)) h=some (.I x.op)
 a:eQ (.ptr l (o+1)) h=some (.I x.a)
 b:eQ (.ptr l (o+2)) h=some (.I x.b)
 n:eQ (.ptr l (o+3)) h=some (.I x.n)
 args:eQ (.ptr l (o+4)) h=some w
 st:eQ (.ptr l (o+5)) h=some (.I x.state)
structure zcy (h:Hp) (l o:Nat) (x:Bk) (v n p:V):Prop where
 eh:eQ (.ptr l (o+0)) h=some v
 fin:eQ (.ptr l (o+1)) h=some (.I x.fin)
 cond:eQ (.ptr l (o+2)) h=some (.I x.cond)
 next:eQ (.ptr l (o+3)) h=some n
 fh:eQ (.ptr l (o+4)) h=some p
 st:eQ (.ptr l (o+5)) h=some (.I x.state)
theorem ym.val(a:ym F h u vv vb vs){i:Nat}{x:Vl}(c:u.eh[i]? =some x) :
  ∃l o w,F l/\gJ 6 vv (.I i)=some (.ptr l o)/\fY 6 (.ptr l o) h=some (.agg (mI x w))/\iq eN F h x.args w/\zd0 h l o x w:=by
 obtain⟨hi,rfl⟩:=jR.1 c;obtain⟨l,o,w,d,e,f,⟨a,rfl,g⟩,b⟩:=a.v.ix hi .i64;exact⟨l,o,a,d,e,f,g,⟨b 0 _ rfl,b 1 _ rfl,b 2 _ rfl,b 3 _ rfl,b 4 _ rfl,b 5 _ rfl⟩⟩
theorem ym.oW(a:ym F h u vv vb vs){i:Nat}{x:Bk}(d:u.blocks[i]? =some x) :
  ∃l o v n p,F l/\gJ 6 vb (.I i)=some (.ptr l o)/\fY 6 (.ptr l o) h=some (.agg (kE x v n p))/\iq eN F h x.eh v/\iq eN F h x.next n/\iq eN F h x.fh p/\zcy h l o x v n p:=by
 obtain⟨hi,rfl⟩:=jR.1 d;obtain⟨l,o,w,e,f,g,⟨v,n,p,rfl,j,k,m⟩,c⟩:=a.b.ix hi .i64;exact⟨l,o,v,n,p,e,f,g,j,k,m,⟨c 0 _ rfl,c 1 _ rfl,c 2 _ rfl,c 3 _ rfl,c 4 _ rfl,c 5 _ rfl⟩⟩
theorem ym.st(a:ym F h u vv vb vs){i:Nat}{x:List Fm}(b:u.en[i]? =some x) :
  ∃l o f,F l/\gJ 1 vs (.I i)=some (.ptr l o)/\fY 1 (.ptr l o) h=some (.agg [f])/\eQ (.ptr l o) h=some f/\iq eF F h x f:=by
 obtain⟨hi,rfl⟩:=jR.1 b;obtain⟨l,o,w,c,d,e,⟨f,rfl,g⟩,j⟩:=a.s.ix hi .i64;exact⟨l,o,f,c,d,e,j 0 f rfl,g⟩
theorem iq.pg{fs:List Fm}{f:V}(a:iq eF F h fs f){i:Nat}{x:Fm}(c:fs[i]? =some x) :
  ∃l o a b,F l/\gJ 4 f (.I i)=some (.ptr l o)/\fY 4 (.ptr l o) h=some (.agg (JD x a b))/\iq eN F h x.locals a/\iq eN F h x.stack b:=by
 obtain⟨hi,rfl⟩:=jR.1 c;obtain⟨l,o,w,d,e,g,⟨a,b,rfl,j,k⟩,_⟩:=a.ix hi .i64;exact⟨l,o,a,b,d,e,g,j,k⟩
theorem iq.nat{xs:List Nat}{v:V}(a:iq eN F h xs v){i x:Nat}(b:xs[i]? =some x)(kd:IntKind):∃l o,F l/\gJ 1 v (.int kd (i:Nat))=some (.ptr l o)/\eQ (.ptr l o) h=some (.I x):=by
 obtain ⟨hi,rfl⟩:=jR.1 b;obtain⟨l,o,w,c,d,e,f⟩:=a.TS hi kd rfl;obtain rfl:w = .I (xs[i]:Nat):=by
  have:[w]=[V.I (xs[i]:Nat)]:=f;simpa using this
 exact⟨l,o,c,d,e⟩
theorem iq.int{xs:List Int}{v:V}(a:iq eZ F h xs v){i:Nat}{x:Int}(b:xs[i]? =some x)(kd:IntKind):∃l o,F l/\gJ 1 v (.int kd (i:Nat))=some (.ptr l o)/\eQ (.ptr l o) h=some (.I x):=by
 obtain ⟨hi,rfl⟩:=jR.1 b;obtain⟨l,o,w,c,d,e,f⟩:=a.TS hi kd rfl;obtain rfl:w = .I xs[i]:=by
  have:[w]=[V.I xs[i]]:=f;simpa using this
 exact⟨l,o,c,d,e⟩
theorem iq.bool{xs:List Bool}{v:V}(a:iq eB F h xs v){i:Nat}{x:Bool}(b:xs[i]? =some x)(kd:IntKind):∃l o,F l/\gJ 1 v (.int kd (i:Nat))=some (.ptr l o)/\eQ (.ptr l o) h=some (.bool x):=by
 obtain ⟨hi,rfl⟩:=jR.1 b;obtain⟨l,o,w,c,d,e,f⟩:=a.TS hi kd rfl;obtain rfl:w = .bool xs[i]:=by
  have:[w]=[V.bool xs[i]]:=f;simpa using this
 exact⟨l,o,c,d,e⟩
theorem iq.list{α:Type}{E:ri α}{xs:List (List α)}{v:V}(a:iq (eL E) F h xs v){i:Nat}{x:List α}(b:xs[i]? =some x)(kd:IntKind):∃l o w,F l/\gJ 1 v (.int kd (i:Nat))=some (.ptr l o)/\eQ (.ptr l o) h=some w/\iq E F h x w:=by
 obtain⟨hi,rfl⟩:=jR.1 b;obtain⟨l,o,w,c,d,e,f,g,j⟩:=a.TS hi kd rfl;obtain rfl:w=f:=by simpa using g
 exact⟨l,o,w,c,d,e,j⟩
theorem xe{t:Nat}{k:IntKind}{a b:Int}{A B:Prop}(h:if a=b then B else A):oP (ev .neq t (.int k a) (.int k b)) λv=>bP v A B:=by
 simp only[nP,gX,yz,wCD];by_cases e:a=b
 ·rw[if_pos e]at h;rw[if_neg (λh=>h e)];exact h
 ·rw[if_neg e]at h;rw[if_pos e];exact h
theorem UI{t:Nat}{k:IntKind}{a b:Int}{A B:Prop}(h:if b<=a then A else B):oP (ev .geq t (.int k a) (.int k b)) λv=>bP v A B:=by
 simp only[nW,gX,yz,BP];exact h
theorem V5(a b:Nat):((a:Int) == (b:Int))=(a == b):=by
 rw[V4,C9,C9];omega
theorem il{t:Nat}{k:IntKind}{a b:Int}{K:V->Prop}(h:K (.bool (decide (a=b)))):oP (ev .eql t (.int k a) (.int k b)) K:=by
 rw[gI];have:(a == b)=decide (a=b):=by by_cases e:a=b <;> simp[e]
 rw[this];exact h
def tu(op:Nat):Nat:=if two op=true then 2 else if pY op=true then 1 else 0
theorem Mf{op:Nat}(H:Q (.I (tu op:Nat)) h):cP CS uV [.I op] h Q:=by
 refine Qj rfl rfl ?_;unfold KM;have r9:∀b:Bool,(b=true->pY op=true/\two op≠true)->(b=false->pY op≠true/\two op≠true)->lT CS Q (.bool b) h:=by
  intro b m o;refine LV ?_;unfold E9;rw[ir];unfold tu at H
  cases b with
  |true=>rw[if_neg (m rfl).2,if_pos (m rfl).1]at H;exact H
  |false=>rw[if_neg (o rfl).2,if_neg (o rfl).1]at H;exact H
 have r4:∀b:Bool,b=two op->iz CS Q (.I op) (.bool b) h:=by
  intro b p;refine LH ?_;unfold Fy;rw[ir]
  cases b with
  |true=>unfold tu at H;rw[if_pos p.symm]at H;exact H
  | false=>
    have c:two op≠true:=by rw[<-p];simp
    rw[if_neg (by simp)];refine il ?_;rw[ir];split
    ·rename_i e;refine r9 _ (λ_=>⟨?_,c⟩) λh=>absurd (h.symm.trans e) (by simp)
     have:op=8:=by simp at e;omega
     subst this;rfl
    rename_i d;refine il ?_;rw[ir];split
    ·rename_i e;refine r9 _ (λ_=>⟨?_,c⟩) λh=>absurd (h.symm.trans e) (by simp)
     have:op=9:=by simp at e;omega
     subst this;rfl
    rename_i f;refine il ?_;rw[ir];split
    ·rename_i e;refine r9 _ (λ_=>⟨?_,c⟩) λh=>absurd (h.symm.trans e) (by simp)
     have:op=15:=by simp at e;omega
     subst this;rfl
    rename_i g;refine il ?_;rw[ir];split
    ·rename_i e;refine r9 _ (λ_=>⟨?_,c⟩) λh=>absurd (h.symm.trans e) (by simp)
     have:op=16:=by simp at e;omega
     subst this;rfl
    rename_i i;refine il ?_;rw[ir];split
    ·rename_i e;refine r9 _ (λ_=>⟨?_,c⟩) λh=>absurd (h.symm.trans e) (by simp)
     have:op=17:=by simp at e;omega
     subst this;rfl
    rename_i j;refine il ?_;simp at d f g i j;refine r9 _ (λe=>⟨?_,c⟩) λe=>⟨?_,c⟩
    ·have:op=22:=by simp at e;omega
     subst this;rfl
    ·have e:=of_decide_eq_false e
     intro hq;unfold pY at hq;simp only[Nc,C9]at hq;omega
 have a:∀n:Nat,(op:Int)=n->(two n=true)->two op=true:=λn e h=>by
  have:op=n:=by omega
  subst this;exact h
 refine il ?_;rw[ir];split
 ·rename_i e;exact r4 _ (e.trans (a 3 (by simpa using e) rfl).symm)
 rename_i d;refine il ?_;rw[ir];split
 ·rename_i e;exact r4 _ (e.trans (a 4 (by simpa using e) rfl).symm)
 rename_i f;refine il ?_;rw[ir];split
 ·rename_i e;exact r4 _ (e.trans (a 5 (by simpa using e) rfl).symm)
 rename_i g;refine il ?_;rw[ir];split
 ·rename_i e;exact r4 _ (e.trans (a 6 (by simpa using e) rfl).symm)
 rename_i i;refine il ?_;rw[ir];split
 ·rename_i e;exact r4 _ (e.trans (a 7 (by simpa using e) rfl).symm)
 rename_i j;refine il ?_;rw[ir];split
 ·rename_i e;exact r4 _ (e.trans (a 10 (by simpa using e) rfl).symm)
 rename_i q;refine il ?_;rw[ir];split
 ·rename_i e;exact r4 _ (e.trans (a 11 (by simpa using e) rfl).symm)
 rename_i r;refine il ?_;rw[ir];split
 ·rename_i e;exact r4 _ (e.trans (a 12 (by simpa using e) rfl).symm)
 rename_i s;refine il ?_;rw[ir];split
 ·rename_i e;exact r4 _ (e.trans (a 13 (by simpa using e) rfl).symm)
 rename_i t;refine il ?_;rw[ir];split
 ·rename_i e;exact r4 _ (e.trans (a 14 (by simpa using e) rfl).symm)
 rename_i K6;refine il ?_;rw[ir];split
 ·rename_i e;exact r4 _ (e.trans (a 18 (by simpa using e) rfl).symm)
 rename_i k;refine il ?_;rw[ir];split
 ·rename_i e;exact r4 _ (e.trans (a 19 (by simpa using e) rfl).symm)
 rename_i l;refine il (r4 _ ?_);simp at d f g i j q r s t K6 k l;rw[V4];unfold two;simp only[BP,Nc,vR,C9];omega
theorem GJ{op:Nat}(H:Q (.bool (leaves op)) h):cP CS nT [.I op] h Q:=by
 refine Pg rfl rfl ?_;unfold IV;have e:leaves op=(((op:Int) == 22) ||((op:Int) == 23)):=by
  unfold leaves;rw[show((op:Int) == 22)=(op == 22) from V5 op 22,show((op:Int) == 23)=(op == 23) from V5 op 23]
 simp only[gI,gX,fi,qK];rw[<-e];exact H
theorem Ag{a b:Nat}(H:Q (.bool (decide (a<b))) h):cP CS kR [.I a,.I b] h Q:=by
 refine QD rfl rfl ?_;unfold KP;simp only[nW,gX,fi,jO,ke];have e:(decide ((0:Int)<=(a:Nat))&&decide (((a:Nat):Int)<(b:Nat)))=decide (a<b):=by
  rw[V4];simp only[vR,BP];omega
 rw[e];exact H
theorem Ax{xs:List Nat}{a b:V}(c:iq eN F h xs a)(d:iq eN F h xs b)(r:xs.length<1000000000)(H:Q (.bool true) h):cP CS g0 [a,b] h Q:=by
 refine DT rfl rfl ?_;unfold w4;refine ee c.len (ee d.len (xe (gv rfl (ee c.len ?_))));refine A7 (λk e f g j h'=>∃i:Nat,e=a/\f=b/\g = .I xs.length/\j = .I (i:Nat)/\i+k=xs.length/\h' = h) ?_ (k:=xs.length) ⟨0,rfl,rfl,rfl,rfl,by omega,rfl⟩;rintro k e f g j h' ⟨i,rfl,rfl,rfl,rfl,s,rfl⟩;unfold rY;by_cases hi:i<xs.length
 ·refine gB ?_;obtain⟨l,o,_,m,n⟩:=c.nat (hO hi) .i64;obtain⟨t,u,_,p,q⟩:=d.nat (hO hi) .i64;refine ee m (ee n (ee p (ee q (xe (gv rfl ?_)))));exact fM ⟨k-1,by omega,i+1,rfl,rfl,rfl,rfl,by omega,rfl⟩
 ·exact iJ H
end
open Un
theorem zdG:∀{l:List Nat}(h:0<l.length),l.take 1=[l[0]]
 |y::l,_=>by simp
theorem Lp(x:Vl):jk x=([x.a,x.b].take (tu x.op))++(if x.op=20 then x.args.take 1 else if x.op=21 then x.args else[]):=by
 unfold jk tu;by_cases c:x.op=21
 ·rw[c];simp[two,pY]
 ·rw [if_neg c];by_cases d:x.op=20
  ·rw[d];simp[two]
  ·rw [if_neg d,if_neg d,if_neg c];by_cases e:two x.op=true
   ·simp[e]
   ·by_cases f:pY x.op=true
    ·simp[e,f]
    ·simp[e,f]
section
variable{F F':Nat->Prop}{h h':Hp}{cs:List Pc}{Q:fy}{u:U}{vv vb vs:V}
theorem I0{x:Vl}(c:x.op=21\/x.op=20->x.args.length<=700):(jk x).length<=1000:=by
 rw[Lp];by_cases b:x.op=20
 ·rw[if_pos b];simp;omega
 ·rw[if_neg b];by_cases a:x.op=21
  ·have:=c (.inl a);rw[if_pos a];simp;omega
  ·rw[if_neg a];simp;omega
theorem IT(Z:eo F h cs){x:Vl}{c:V}(W:iq eN F h x.args c)(J:x.op=21\/x.op=20->x.args.length<=1000000)(H:∀F' h' v,Sn F h F' h'->eo F' h' cs->iq eN F' h' (jk x) v->Q v h'):cP CS pA [.agg (mI x c)] h Q:=by
 refine Ty rfl rfl ?_;unfold MJ;have o1:gG (mI x c)=true:=by simp only[mI,ey,W.one];rfl
 rw [Dz o1,fG];obtain⟨K,L⟩:=Z.zI hK (mI x c);have n1:(h.new (.cells 45 1 true false (mI x c))).next=h.next+1:=rfl;have K:eo F (h.new (.cells 45 1 true false (mI x c))) (ez h.next hK (mI x c)::cs):=K;have L:Sn F h F (h.new (.cells 45 1 true false (mI x c))):=L;generalize h.new (.cells 45 1 true false (mI x c))=d at*;rw[Fi,hV];obtain⟨w,M⟩:=K.VC (E:=eN) (xs:=[]) (ws:=[]) (n:=0) eJ rfl trivial rfl;have w:eo F (d.new (.cells 3 1 true false [])) (eR eN eJ [] (.slice d.next 0 0)::ez h.next hK (mI x c)::cs):=w;have M:Sn F d F (d.new (.cells 3 1 true false [])):=M;have g2:(d.new (.cells 3 1 true false [])).get d.next=some (.cells 3 1 true false []):=fj _ _;have n2:(d.new (.cells 3 1 true false [])).next=d.next+1:=rfl;generalize d.new (.cells 3 1 true false [])=k at*;refine oF (w.ld 1 rfl rfl) (oF (w.ld 1 rfl rfl) ?_);rw[nx2,hV];obtain⟨o,N⟩:=w.VC (E:=eN) (xs:=[x.a,x.b]) (ws:=hZ [x.a,x.b]) (n:=2) eJ rfl (yy _ _ _) (Mi _);have o:eo F (k.new (.cells 3 1 true false (hZ [x.a,x.b]))) (eR eN eJ [x.a,x.b] (.slice k.next 0 2)::eR eN eJ [] (.slice d.next 0 0)::ez h.next hK (mI x c)::cs):=o;have N:Sn F k F (k.new (.cells 3 1 true false (hZ [x.a,x.b]))):=N;have X:(k.new (.cells 3 1 true false (hZ [x.a,x.b]))).get k.next=some (.cells 3 1 true false (hZ [x.a,x.b])):=fj _ _;have y:(k.new (.cells 3 1 true false (hZ [x.a,x.b]))).get d.next=some (.cells 3 1 true false []):=(fo _ (by omega)).trans g2;generalize k.new (.cells 3 1 true false (hZ [x.a,x.b]))=h3 at*;refine oF (o.ld 2 rfl rfl) ⟨⟨X,O.iK _ _ _ _ _⟩,o.ld 2 rfl rfl,o.ld 2 rfl rfl,⟨y,O.iK _ _ _ _ _⟩,?_⟩;refine Mf ⟨jK _,?_⟩;have hp:tu x.op<=2:=by
  unfold tu;split
  ·omega
  ·split <;> omega
 obtain⟨z,P,Y⟩:=o.zbx 0 rfl (n:=tu x.op) hp;refine ee P ⟨⟨X,O.iK _ _ _ _ _⟩,o.ld 2 rfl rfl,o.ld 2 rfl rfl,⟨y,O.iK _ _ _ _ _⟩,?_⟩;simp only[jo]at Y;obtain⟨i,u,R,n5,p,s5⟩:=Y.ZL 1 0 rfl rfl (j7:=8) (by decide) (by decide) (by simp;omega);have A:fg 3 1 8 (.slice d.next 0 0) z h3=some (.val i u):=R;rw[A,ei];refine⟨n5,?_⟩;simp only[l0,jo,No]at p;have B:=((L.trans M).trans N).trans s5;have q:iq eN F u x.args c:=(W.fm B.fm)
 have r:∀(F':Nat->Prop) (h':Hp) (v:V) (l:List Nat),Sn F u F' h'->eo F' h' (eR eN eJ ([x.a,x.b].take (tu x.op)) z::eR eN eJ l v::ez h.next hK (mI x c)::cs)->l=jk x->uc CS Q v h':=by
  intro F' h' v l sF HF S;subst S;refine NA ?_;unfold Hh;obtain⟨C,D,r6⟩:=HF.ma 1 rfl;exact H _ _ v ((B.trans sF).trans D) C.tail.tail.tail r6
 refine oF (p.ld 2 rfl rfl) ?_;by_cases j:x.op=20
 ·have J:=J (.inr j);refine gi (gv (by omega) ?_);refine oF (p.ld 2 rfl rfl) (oF (p.ld 2 rfl rfl) (ee q.len (ee (Xd _ _ _ _) ?_)));have em:(if false=true then max (1:Int) (x.args.length:Nat) else min (1:Int) (x.args.length:Nat))=((min 1 x.args.length:Nat):Int):=by simp;omega
  rw[em];obtain⟨T,U,G⟩:=q.cut (lo:=none) (hi:=some (.I ((min 1 x.args.length:Nat):Int))) (m:=0) (n:=min 1 x.args.length) rfl (GG _ _ _) (Na _) (by omega);refine ee U ?_;rw[Yr]at G;obtain⟨f,I,s,n6,C,D⟩:=p.Nt 1 rfl (j7:=8) G (by decide) (by decide) (by simp;omega);have g:fg 3 1 8 i T u=some (.val f I):=s;rw[g,ei];refine r F I f _ D C ?_;rw[Lp,if_pos j];congr 1;rcases Nat.eq_zero_or_pos x.args.length with e|e
  ·rw[Wi e];rfl
  ·rw[wBm e]
 refine gi (gg (by omega) ?_);by_cases t:x.op=21
 ·have J:=J (.inl t);refine gi (gv (by omega) ?_);refine oF (p.ld 2 rfl rfl) ?_;obtain⟨f,I,s,n6,C,D⟩:=p.Nt 1 rfl (j7:=8) q (by decide) (by decide) (by simp;omega);have g:fg 3 1 8 i c u=some (.val f I):=s;rw[g,ei];refine r F I f _ D C ?_;rw[Lp,if_neg j,if_pos t]
 ·refine gi (gg (by omega) ?_);refine r F u i _ (Sn.refl _ _) p ?_;rw[Lp,if_neg j,if_neg t,GP]
def NH(op:Nat):Bool:=two op&&op != 20
theorem ME(K:eo F h cs){x:Vl}{g:V}(y:iq eN F h x.args g)(H:∀F' h' v,Sn F h F' h'->eo F' h' cs->iq eN F' h' (jk x) v->Q v h'):cP CS jX [.agg (mI x g)] h Q:=by
 refine EC rfl rfl ?_;unfold xu;have L:gG (mI x g)=true:=by simp only[mI,ey,y.one];rfl
 rw [Dz L,fG];obtain⟨c,p⟩:=K.zI hK (mI x g);have c:eo F (h.new (.cells 45 1 true false (mI x g))) (ez h.next hK (mI x g)::cs):=c;have p:Sn F h F (h.new (.cells 45 1 true false (mI x g))):=p;generalize h.new (.cells 45 1 true false (mI x g))=r at*;have j:=y.fm p.fm;have fin:∀(xs:List Nat),xs=jk x->Q (.slice r.next 0 xs.length) (r.new (.cells 3 1 true false (hZ xs))):=by
  intro xs e;obtain⟨s,z,M⟩:=c.ZW (E:=eN) (n:=xs.length) eJ rfl (yy F r xs) false;have:=H _ _ _ (p.trans z) s.tail (by rw[<-e];exact M);exact this
 have r9:∀b:Bool,(b=true->pY x.op=true/\NH x.op≠true)->(b=false->pY x.op≠true/\NH x.op≠true)->iy CS Q (.ptr h.next 0) (.I x.op) (.bool b) r:=by
  intro b u N;refine BU ?_;unfold tC;rw[ir]
  cases b with
  | true=>
    rw[if_pos rfl];obtain⟨a1,a2⟩:=u rfl;refine oF (c.ld 0 rfl rfl) ?_;rw[show jG 3 1 1 (V.I 0) [(0,V.I (x.a:Nat))]=some (.cells 3 1 true false (hZ [x.a]),λl=> .slice l 0 1) from rfl,fG];refine fin [x.a] ?_;unfold NH at a2;unfold pY at a1;unfold jk two pY;simp only[Nc,C9]at a1
    rcases a1 with((((e|e)|e)|e)|e)|e <;> rw[e] <;> rfl
  | false=>
    rw[if_neg (by simp)];obtain⟨a1,a2⟩:=N rfl;by_cases k:x.op=20
    ·refine gi (gv (by omega) ?_)
     refine oF (c.ld 0 rfl rfl) (ee j.len ?_);have A:jk x=x.a::x.b::x.args.take 1:=by unfold jk;rw[k];rfl
     by_cases P:x.args.length=0
     ·refine gi (gv (by omega) ?_)
      refine oF (c.ld 0 rfl rfl) (oF (c.ld 0 rfl rfl) ?_);rw[nx2,fG];refine fin [x.a,x.b] ?_;rw[A,Wi P];rfl
     ·refine gi (gg (by omega) ?_)
      obtain⟨l,o,R,S,B⟩:=j.nat (i:=0) (hO (by omega)) .i64;refine oF (c.ld 0 rfl rfl) (oF (c.ld 0 rfl rfl) (oF (c.ld 0 rfl rfl) (ee S (ee B ?_))));rw[show jG 3 1 3 (V.I 0) [(0,V.I (x.a:Nat)),(1,V.I (x.b:Nat)),(2,V.I (x.args[0]:Nat))]=some (.cells 3 1 true false (hZ [x.a,x.b,x.args[0]]),λl=> .slice l 0 3) from rfl,hV];obtain⟨s,z⟩:=c.grow (mA.new r (.cells 3 1 true false (hZ [x.a,x.b,x.args[0]])));refine⟨⟨fj _ _,O.iK _ _ _ _ _⟩,iL B (fo _ (c.fl _ R)),s.ld 0 rfl rfl,s.ld 0 rfl rfl,s.ld 0 rfl rfl,fin [x.a,x.b,x.args[0]] ?_⟩;rw[A,zdG (show 0<x.args.length by omega)]
    refine gi (gg (by omega) ?_);by_cases t:x.op=21
    ·refine gi (gv (by omega) ?_)
     refine oF (c.ld 0 rfl rfl) ?_;refine H _ _ _ p c.tail ?_;have:jk x=x.args:=by unfold jk;rw[if_pos t]
     rw[this];exact j
    ·refine gi (gg (by omega) ?_)
     refine H _ _ _ p c.tail ?_;have:jk x=[]:=by
       unfold jk;rw[if_neg t,if_neg k,if_neg,if_neg a1];intro e;apply a2;unfold NH;rw[e];simpa using k
     rw[this];exact .nil
 have r4:∀b:Bool,b=NH x.op->gf CS Q (.ptr h.next 0) (.I x.op) (.bool b) r:=by
  intro b f;refine BZ ?_;unfold ua;rw[ir]
  cases b with
  | true=>
    rw[if_pos rfl];refine oF (c.ld 0 rfl rfl) (oF (c.ld 0 rfl rfl) ?_);rw[nx2,fG];refine fin [x.a,x.b] ?_;unfold NH at f;have f:=f.symm;rw[vR,wCD]at f;unfold jk;rw[if_neg,if_neg f.2,if_pos f.1];intro e;rw[e]at f
    exact absurd f.1 (by decide)
  | false=>
    have m:NH x.op≠true:=by rw[<-f];simp
    rw[if_neg (by simp)];refine il ?_;rw[ir];split
    ·rename_i e;refine r9 _ (λ_=>⟨?_,m⟩) λh=>absurd (h.symm.trans e) (by simp)
     have:x.op=8:=by simp at e;omega
     rw[this];rfl
    rename_i C;have C:x.op≠8:=λe=>C (by rw[e];rfl);refine il ?_;rw[ir];split
    ·rename_i e;refine r9 _ (λ_=>⟨?_,m⟩) λh=>absurd (h.symm.trans e) (by simp)
     have:x.op=9:=by simp at e;omega
     rw[this];rfl
    rename_i D;have D:x.op≠9:=λe=>D (by rw[e];rfl);refine il ?_;rw[ir];split
    ·rename_i e;refine r9 _ (λ_=>⟨?_,m⟩) λh=>absurd (h.symm.trans e) (by simp)
     have:x.op=15:=by simp at e;omega
     rw[this];rfl
    rename_i G;have G:x.op≠15:=λe=>G (by rw[e];rfl);refine il ?_;rw[ir];split
    ·rename_i e;refine r9 _ (λ_=>⟨?_,m⟩) λh=>absurd (h.symm.trans e) (by simp)
     have:x.op=16:=by simp at e;omega
     rw[this];rfl
    rename_i I;have I:x.op≠16:=λe=>I (by rw[e];rfl);refine il ?_;rw[ir];split
    ·rename_i e;refine r9 _ (λ_=>⟨?_,m⟩) λh=>absurd (h.symm.trans e) (by simp)
     have:x.op=17:=by simp at e;omega
     rw[this];rfl
    rename_i J;have J:x.op≠17:=λe=>J (by rw[e];rfl);refine il ?_;refine r9 _ (λe=>⟨?_,m⟩) λe=>⟨?_,m⟩
    ·have:x.op=22:=by simp at e;omega
     rw[this];rfl
    ·have e:=of_decide_eq_false e
     intro hq;unfold pY at hq;simp only[Nc,C9]at hq;omega
 have d:∀n:Nat,(x.op:Int)=n->(NH n=true)->NH x.op=true:=λn e h=>by
  have:x.op=n:=by omega
  rw[this];exact h
 refine oF (c.ld 0 rfl rfl) ?_;refine il ?_;rw[ir];split
 ·rename_i e;exact r4 _ (e.trans (d 3 (by simpa using e) rfl).symm)
 rename_i T;refine il ?_;rw[ir];split
 ·rename_i e;exact r4 _ (e.trans (d 4 (by simpa using e) rfl).symm)
 rename_i U;refine il ?_;rw[ir];split
 ·rename_i e;exact r4 _ (e.trans (d 5 (by simpa using e) rfl).symm)
 rename_i W;refine il ?_;rw[ir];split
 ·rename_i e;exact r4 _ (e.trans (d 6 (by simpa using e) rfl).symm)
 rename_i X;refine il ?_;rw[ir];split
 ·rename_i e;exact r4 _ (e.trans (d 7 (by simpa using e) rfl).symm)
 rename_i Y;refine il ?_;rw[ir];split
 ·rename_i e;exact r4 _ (e.trans (d 10 (by simpa using e) rfl).symm)
 rename_i Z;refine il ?_;rw[ir];split
 ·rename_i e;exact r4 _ (e.trans (d 11 (by simpa using e) rfl).symm)
 rename_i f6;refine il ?_;rw[ir];split
 ·rename_i e;exact r4 _ (e.trans (d 12 (by simpa using e) rfl).symm)
 rename_i f7;refine il ?_;rw[ir];split
 ·rename_i e;exact r4 _ (e.trans (d 13 (by simpa using e) rfl).symm)
 rename_i f8;refine il ?_;rw[ir];split
 ·rename_i e;exact r4 _ (e.trans (d 14 (by simpa using e) rfl).symm)
 rename_i f9;refine il ?_;rw[ir];split
 ·rename_i e;exact r4 _ (e.trans (d 18 (by simpa using e) rfl).symm)
 rename_i w;refine il (r4 _ ?_);rw[V4];unfold NH two;simp only[BP,Nc,vR,C9,wCD];constructor
 ·intro e;omega
 ·intro e;have q:∀n:Nat,¬decide ((x.op:Int)=(n:Nat))=true->x.op≠n:=λn h e=>h (by rw[e];simp);have k0:=q 3 T;have k1:=q 4 U;have k2:=q 5 W;have k3:=q 6 X;have k4:=q 7 Y;have k5:=q 10 Z;have k6:=q 11 f6;have k7:=q 12 f7;have k8:=q 13 f8;have k9:=q 14 f9;have Nb:=q 18 w;omega
end
open Un
theorem pf{l o k:Nat}:fI k (.ptr l o)=some (.ptr l (o+k)):=fe _ _ _
theorem pn{l o:Nat}:iF (.ptr l o)=some (.ptr l o):=gj _ _
theorem bq{e sz:Nat}{a b:Bool}{cs:List V}:O.beq (.cells e sz a b cs) (.cells e sz a b cs)=true:=O.iK _ _ _ _ _
theorem fE{X:Option V}{K:V->Prop}(h:oP X K):oP (fD false (.bool false)) λb=>oP (gV b X) K:=h
theorem fU{X:Option V}{K:V->Prop}(h:oP X K):oP (fD true (.bool true)) λb=>oP (gV b X) K:=h
theorem im{X:Option V}{K:V->Prop}(h:K .undef):oP (fD true (.bool false)) λb=>oP (gV b X) K:=h
theorem N0{X:Option V}{K:V->Prop}(h:K .undef):oP (fD false (.bool true)) λb=>oP (gV b X) K:=h
theorem po{C:ft}{f:Nat}{a:List V}{h:Hp}{K:fy}(H:cP C f a h K):oP (fD false (.bool false)) λb=>oP (gC b (some (f,a))) λy=>qo C y h K:=H
theorem vf{C:ft}{f:Nat}{a:List V}{h:Hp}{K:fy}(H:cP C f a h K):oP (fD true (.bool true)) λb=>oP (gC b (some (f,a))) λy=>qo C y h K:=H
theorem EY{C:ft}{f:Nat}{a:List V}{h:Hp}{K:fy}(H:K .undef h):oP (fD true (.bool false)) λb=>oP (gC b (some (f,a))) λy=>qo C y h K:=H
theorem qt{b:Bool}{A B:Prop}(h:if b=true then B else A):oP (pI .not (.bool b)) λv=>bP v A B:=by
 cases b <;> exact h
theorem T7{b:Bool}{K:V->Prop}(h:K (.bool (!b))):oP (pI .not (.bool b)) K:=h
section
variable{F F':Nat->Prop}{h h':Hp}{cs:List Pc}{Q:fy}{u:U}{vv vb vs:V}
theorem gY{T n:Nat}{b ws:List V}{K:fy}(H:eo F h cs)(d:b.length=n)(e:ws.length=n)(c:gG ws=true)(f:∀a,eo F a (ez h.next T ws::cs)->Sn F h F a->K (.ptr h.next 0) a) :
  hX (some (O.cells T 1 true false b,λl=>V.ptr l 0)) h λv c=>fk (gM n v (.agg ws) c) λ_ a=>K v a:=by
 rw[fG];obtain⟨g,i⟩:=H.zI T b;obtain⟨a,j,_,k,m⟩:=g.WS 0 rfl e d c;rw[j,ei];exact f a k (i.trans m)
theorem jS{T:Nat}{ws:List V}{K:fy}(H:eo F h cs)(b:gG ws=true)(c:∀a,eo F a (ez h.next T ws::cs)->Sn F h F a->K (.ptr h.next 0) a):hX (lX T (.agg ws)) h K:=by
 rw[Dz b,fG];obtain⟨d,e⟩:=H.zI T ws;exact c _ d e
theorem Pq{T:Nat}(xs:List Nat){ps:Option (O×(Nat->V))}(b:ps=some (O.cells T 1 true false (hZ xs),λl=> .slice l 0 xs.length)){K:fy}(H:eo F h cs)
  (c:∀F' a v,eo F' a cs->Sn F h F' a->iq eN F' a xs v->K v a):hX ps h K:=by
 subst b;rw[fG];obtain⟨d,e,r1⟩:=H.ZW (E:=eN) T rfl (yy F h xs) false;exact c _ _ _ d e r1
theorem oV{T:Nat}(x:Nat):jG T 1 1 (V.I 0) [(0,V.I x)]=some (.cells T 1 true false (hZ [x]),λl=> .slice l 0 1):=rfl
structure Ck (F:Nat->Prop) (h:Hp) (cs:List Pc) (lc:Nat) (u:U) (vv vb vs bl pl Fc:V):Prop where
 H:eo F h cs
 c:∃(i ty:Nat),cs[i]? =some (ez lc ty [.I u.func,.I u.pc,vv,vb,vs,bl,pl,Fc])
 u:ym F h u vv vb vs
variable{lc:Nat}{bl pl Fc:V}
theorem Ck.since(C:Ck F h cs lc u vv vb vs bl pl Fc)(s:Sn F h F' h')(a:eo F' h' cs):Ck F' h' cs lc u vv vb vs bl pl Fc:=⟨a,C.c,C.u.since s⟩
theorem Ck.cons(C:Ck F h cs lc u vv vb vs bl pl Fc)(s:Sn F h F' h'){p:Pc} (a:eo F' h' (p::cs)):Ck F' h' (p::cs) lc u vv vb vs bl pl Fc:=
 ⟨a,let⟨i,ty,hc⟩:=C.c;⟨i+1,ty,hc⟩,C.u.since s⟩
theorem Ck.ld(C:Ck F h cs lc u vv vb vs bl pl Fc)(o:Nat){y:V}(a:[.I u.func,.I u.pc,vv,vb,vs,bl,pl,Fc][o]? =some y):eQ (.ptr lc o) h=some y:=
 let⟨i,_,hc⟩:=C.c;C.H.ld i hc a
theorem MK{a0 c:V}{n:Nat}(l:n<1000000)(P:(Nat->Prop)->Hp->Prop)(h0:P F h)
  (step:∀i,i<n->∀F' h',P F' h'->∀e:V->Hp->Prop,(∀a b,P a b->e (.bool true) b)->ic CS (gh c [.I (i:Nat)]) h' e) (H:∀F' h',P F' h'->Q (.bool true) h') :
  cP CS jW [a0,.I n,c] h Q:=by
 refine IS rfl rfl ?_;unfold Br;refine FX (λk f g j h'=>∃(F':Nat->Prop) (i:Nat),f = .I n/\g=c/\j = .I i/\i+k=n/\P F' h') ?_ (k:=n) ⟨F,0,rfl,rfl,rfl,by omega,h0⟩;rintro k f g j h' ⟨F',i,rfl,rfl,rfl,m,hp⟩;unfold yL;by_cases hi:i<n
 ·refine gB ?_;refine step i hi F' h' hp _ λa b d=>?_;refine qt (gv rfl ?_);exact fM ⟨k-1,by omega,a,i+1,rfl,rfl,rfl,by omega,d⟩
 ·exact iJ (H F' h' hp)
theorem Jt(C:Ck F h cs lc u vv vb vs bl pl Fc){l:List Nat}{v:V}(b:iq eN F h l v)(r:l.length<1000000)(j:∀w∈l,xP u w)(H:Q (.bool true) h):cP CS jq [.ptr lc 0,v] h Q:=by
 refine GY rfl rfl ?_;unfold zt;refine ee b.len ?_;refine Eb (λk c d e f h'=>∃i:Nat,c = .ptr lc 0/\d=v/\e = .I l.length/\f = .I (i:Nat)/\i+k=l.length/\h' = h) ?_ (k:=l.length) ⟨0,rfl,rfl,rfl,rfl,by omega,rfl⟩;rintro k c d e f h' ⟨i,rfl,rfl,rfl,rfl,s,rfl⟩;unfold wM;by_cases hi:i<l.length
 ·refine gB ?_;obtain⟨l1,t,_,m,n⟩:=b.nat (hO hi) .i64;obtain⟨x,g,gx⟩:=j _ (zd hi);have a:=(jR.1 g).1;refine ee m (ee n (ee (gj _ _) (ee (fe _ _ _) (oF (C.ld 2 rfl) (ee C.u.v.len ?_)))));refine Ag (qt (gv (by simpa using a) ?_));obtain⟨l2,y,z,_,o,_,_,p⟩:=C.u.val g;refine ee (gj _ _) (ee (fe _ _ _) (oF (C.ld 2 rfl) (ee o (oF p.op ?_))));have q:x.op<19\/x.op=21:=by
   unfold Jm at gx;simpa using gx
  refine il (jd (gg (by simp;omega) ?_));refine il (jd (gg (by simp;omega) ?_));refine il (jd (gg (by simp;omega) ?_));refine il ?_;rw[Lh (by omega)];refine CO ?_;unfold uY;refine jd (gg (by simp) ?_);exact fM ⟨k-1,by omega,i+1,rfl,rfl,rfl,rfl,by omega,rfl⟩
 ·exact iJ H
theorem Xo(C:Ck F h cs lc u vv vb vs bl pl Fc){i:Nat}{fs:List Fm}(hs:u.en[i]? =some fs)(G:1<=fs.length/\fs.length<=30)(x:∀f∈fs,f.locals.length<=40/\f.stack.length<=60/\(∀v∈f.locals,xP u v)/\∀v∈f.stack,xP u v)
  (H:∀h',Sn F h F h'->eo F h' cs->Q (.bool true) h'):cP CS mF [.ptr lc 0,.I i] h Q:=by
 refine GX rfl rfl ?_;unfold zq;obtain⟨l1,I,f,_,y,z,_,q⟩:=C.u.st hs;refine ee (gj _ _) (ee (fe _ _ _) (oF (C.ld 4 rfl) (ee y (ee z ?_))));refine gY C.H rfl rfl (by simp[q.one]) λJ n r=>?_;have s:=q.since r;refine oF (n.ld 0 rfl rfl) (ee s.len (il ?_));rw[Lh (by omega),mU,fe,fi,n.ld 0 (o:=0+0) rfl rfl,fi,s.len,fi,nQ];refine ee rfl (jd (gg (by simp;omega) ?_));refine oF (n.ld 0 rfl rfl) (ee s.len ?_);have C2:=C.since r n.tail
 refine Di (λk w c d e h'=>∃j:Nat,w = .ptr lc 0/\c=f/\d = .I fs.length/\e = .I (j:Nat)/\j+k=fs.length/\Sn F h F h'/\Ck F h' cs lc u vv vb vs bl pl Fc) ?_ (k:=fs.length)
  ⟨0,rfl,rfl,rfl,rfl,by omega,r,C2⟩
 rintro k w c d e h' ⟨j,rfl,rfl,rfl,rfl,K,s',t⟩;unfold wJ;by_cases hj:j<fs.length
 ·refine gB ?_;obtain⟨l3,L,a,b,_,A,B,g,l⟩:=(q.since s').pg (hO hj);refine ee A (ee B ?_);obtain⟨M,N,D,E⟩:=x _ (zd hj);refine gY t.H rfl rfl (by simp only[JD,ey,g.one,l.one];rfl) λO m p=>?_;have g:=g.since p;have l:=l.since p;have C3:=t.since p m.tail;refine oF (m.ld 0 rfl rfl) (ee g.len ?_);refine ee (nQ _ _ _ _) ?_;rw[Lh (by omega),mU,fe,fi,m.ld 0 (o:=0+3) rfl rfl,fi,l.len,fi,nQ,Lh (by omega)];refine ee rfl (fE (ee rfl (fE (ee (fe _ _ _) (fE (ee (m.ld 0 rfl rfl) (po ?_)))))));refine Jt C3 g (by omega) D (ee rfl (fE (ee rfl (fE (ee (fe _ _ _) (fE (ee (m.ld 0 rfl rfl) (po ?_))))))));refine Jt C3 l (by omega) E (ee rfl (jd (gg (by simp) ?_)));exact fM ⟨k-1,by omega,j+1,rfl,rfl,rfl,rfl,by omega,s'.trans p,C3⟩
 ·exact iJ (H h' s' t.H)
end
