/- Parts. -/
import Derived.Test.YtpnddokajmjpbaaDoorM23
import Derived.Test.YtpnddokajmjpbaaDoorM16
namespace Go.Proofs.YtpnddokajmjpbaaDoor.Hx
open Go.Proofs.YtpnddokajmjpbaaDoor.Un
def eZ:Enc Int where
 sz:=1
 rel _ _ n cs:=cs=[.int .i64 n]
 len h:=by subst h;rfl
 one h:=by subst h;rfl
 keep _ h:=h
 mono _ h:=h
def eW:Enc (Nat×Nat) where
 sz:=2
 rel _ _ x cs:=cs=[.int .i64 (x.1:Nat),.int .i64 (x.2:Nat)]
 len h:=by subst h;rfl
 one h:=by subst h;rfl
 keep _ h:=h
 mono _ h:=h
structure URd (F:Nat->Prop) (h:Hp) (u:U) (vv vb vs:V):Prop where
 v:SlR eV F h u.vals vv
 b:SlR eK F h u.blocks vb
 s:SlR eT F h u.states vs
theorem URd.keep{F:Nat->Prop}{h h':Hp}{u:U}{vv vb vs:V}(c:∀l,F l->h'.get l=h.get l)(a:URd F h u vv vb vs):URd F h' u vv vb vs:=⟨a.v.keep c,a.b.keep c,a.s.keep c⟩
theorem URd.mono{F F':Nat->Prop}{h:Hp}{u:U}{vv vb vs:V}(c:∀l,F l->F' l)(a:URd F h u vv vb vs):URd F' h u vv vb vs:=⟨a.v.mono c,a.b.mono c,a.s.mono c⟩
theorem URd.one{F:Nat->Prop}{h:Hp}{u:U}{vv vb vs:V}(a:URd F h u vv vb vs):allOne (uC u vv vb vs)=true:=by simp only[uC,ee,a.v.one,a.b.one,a.s.one];rfl
theorem SlR.since{α:Type}{E:Enc α}{F F':Nat->Prop}{h h':Hp}{xs:List α}{v:V}(hs:SlR E F h xs v)(s:Sn F h F' h'):SlR E F' h' xs v:=(hs.keep s.keep).mono s.mono
theorem URd.since{F F':Nat->Prop}{h h':Hp}{u:U}{vv vb vs:V}(a:URd F h u vv vb vs)(s:Sn F h F' h'):URd F' h' u vv vb vs:=(a.keep s.keep).mono s.mono
section
variable{F F':Nat->Prop}{h h':Hp}{cs:List Pc}{Q:QP1}{u:U}{vv vb vs:V}
theorem Hold.rd{α:Type}{E:Enc α}{xs:List α}{v:V}(H:Hold F h cs)(i:Nat)(hi:cs[i]? =some (readP E xs v)):SlR E F h xs v:=H.ok i _ hi
structure VlAt (h:Hp) (l o:Nat) (x:Vl) (w:V):Prop where
 op:pLd (.ptr l (o+0)) h=some (.int .i64 x.op)
 a:pLd (.ptr l (o+1)) h=some (.int .i64 x.a)
 b:pLd (.ptr l (o+2)) h=some (.int .i64 x.b)
 n:pLd (.ptr l (o+3)) h=some (.int .i64 x.n)
 args:pLd (.ptr l (o+4)) h=some w
 st:pLd (.ptr l (o+5)) h=some (.int .i64 x.state)
structure BkAt (h:Hp) (l o:Nat) (x:Bk) (v n p:V):Prop where
 vals:pLd (.ptr l (o+0)) h=some v
 fin:pLd (.ptr l (o+1)) h=some (.int .i64 x.fin)
 cond:pLd (.ptr l (o+2)) h=some (.int .i64 x.cond)
 next:pLd (.ptr l (o+3)) h=some n
 preds:pLd (.ptr l (o+4)) h=some p
 st:pLd (.ptr l (o+5)) h=some (.int .i64 x.state)
theorem URd.val (a:URd F h u vv vb vs){i:Nat}{x:Vl}(c:u.vals[i]? =some x) :
  ∃l o w,F l/\pIx 6 vv (.int .i64 i)=some (.ptr l o)/\pLdA 6 (.ptr l o) h=some (.agg (vlC x w))/\SlR eN F h x.args w/\VlAt h l o x w:=by
 obtain⟨hi,rfl⟩:=wAB.1 c;obtain⟨l,o,w,d,e,f,⟨a,rfl,g⟩,b⟩:=a.v.ix hi .i64;exact⟨l,o,a,d,e,f,g,⟨b 0 _ rfl,b 1 _ rfl,b 2 _ rfl,b 3 _ rfl,b 4 _ rfl,b 5 _ rfl⟩⟩
theorem URd.blk (a:URd F h u vv vb vs){i:Nat}{x:Bk}(d:u.blocks[i]? =some x) :
  ∃l o v n p,F l/\pIx 6 vb (.int .i64 i)=some (.ptr l o)/\pLdA 6 (.ptr l o) h=some (.agg (bkC x v n p))/\SlR eN F h x.vals v/\SlR eN F h x.next n/\SlR eN F h x.preds p/\BkAt h l o x v n p:=by
 obtain⟨hi,rfl⟩:=wAB.1 d;obtain⟨l,o,w,e,f,g,⟨v,n,p,rfl,j,k,m⟩,c⟩:=a.b.ix hi .i64;exact⟨l,o,v,n,p,e,f,g,j,k,m,⟨c 0 _ rfl,c 1 _ rfl,c 2 _ rfl,c 3 _ rfl,c 4 _ rfl,c 5 _ rfl⟩⟩
theorem URd.st (a:URd F h u vv vb vs){i:Nat}{x:List Fm}(b:u.states[i]? =some x) :
  ∃l o f,F l/\pIx 1 vs (.int .i64 i)=some (.ptr l o)/\pLdA 1 (.ptr l o) h=some (.agg [f])/\pLd (.ptr l o) h=some f/\SlR eF F h x f:=by
 obtain⟨hi,rfl⟩:=wAB.1 b;obtain⟨l,o,w,c,d,e,⟨f,rfl,g⟩,j⟩:=a.s.ix hi .i64;exact⟨l,o,f,c,d,e,j 0 f rfl,g⟩
theorem SlR.frm {fs:List Fm}{f:V}(a:SlR eF F h fs f){i:Nat}{x:Fm}(c:fs[i]? =some x) :
  ∃l o a b,F l/\pIx 4 f (.int .i64 i)=some (.ptr l o)/\pLdA 4 (.ptr l o) h=some (.agg (fmC x a b))/\SlR eN F h x.locals a/\SlR eN F h x.stack b:=by
 obtain⟨hi,rfl⟩:=wAB.1 c;obtain⟨l,o,w,d,e,g,⟨a,b,rfl,j,k⟩,_⟩:=a.ix hi .i64;exact⟨l,o,a,b,d,e,g,j,k⟩
theorem SlR.nat {xs:List Nat}{v:V}(a:SlR eN F h xs v){i x:Nat}(b:xs[i]? =some x)(kd:IntKind):∃l o,F l/\pIx 1 v (.int kd (i:Nat))=some (.ptr l o)/\pLd (.ptr l o) h=some (.int .i64 x):=by
 obtain ⟨hi,rfl⟩:=wAB.1 b;obtain⟨l,o,w,c,d,e,f⟩:=a.ix1 hi kd rfl;obtain rfl:w = .int .i64 (xs[i]:Nat):=by
  have:[w]=[V.int .i64 (xs[i]:Nat)]:=f;simpa using this
 exact⟨l,o,c,d,e⟩
theorem SlR.int {xs:List Int}{v:V}(a:SlR eZ F h xs v){i:Nat}{x:Int}(b:xs[i]? =some x)(kd:IntKind):∃l o,F l/\pIx 1 v (.int kd (i:Nat))=some (.ptr l o)/\pLd (.ptr l o) h=some (.int .i64 x):=by
 obtain ⟨hi,rfl⟩:=wAB.1 b;obtain⟨l,o,w,c,d,e,f⟩:=a.ix1 hi kd rfl;obtain rfl:w = .int .i64 xs[i]:=by
  have:[w]=[V.int .i64 xs[i]]:=f;simpa using this
 exact⟨l,o,c,d,e⟩
theorem SlR.bool {xs:List Bool}{v:V}(a:SlR eB F h xs v){i:Nat}{x:Bool}(b:xs[i]? =some x)(kd:IntKind):∃l o,F l/\pIx 1 v (.int kd (i:Nat))=some (.ptr l o)/\pLd (.ptr l o) h=some (.bool x):=by
 obtain ⟨hi,rfl⟩:=wAB.1 b;obtain⟨l,o,w,c,d,e,f⟩:=a.ix1 hi kd rfl;obtain rfl:w = .bool xs[i]:=by
  have:[w]=[V.bool xs[i]]:=f;simpa using this
 exact⟨l,o,c,d,e⟩
theorem SlR.list {α:Type}{E:Enc α}{xs:List (List α)}{v:V}(a:SlR (eL E) F h xs v){i:Nat}{x:List α}(b:xs[i]? =some x)(kd:IntKind):∃l o w,F l/\pIx 1 v (.int kd (i:Nat))=some (.ptr l o)/\pLd (.ptr l o) h=some w/\SlR E F h x w:=by
 obtain⟨hi,rfl⟩:=wAB.1 b;obtain⟨l,o,w,c,d,e,f,g,j⟩:=a.ix1 hi kd rfl;obtain rfl:w=f:=by simpa using g
 exact⟨l,o,w,c,d,e,j⟩
theorem yU {t:Nat}{k:IntKind}{a b:Int}{A B:Prop}(h:if a=b then B else A):oP (hbin .neq t (.int k a) (.int k b)) λv=>bP v A B:=by
 simp only[ut,fj,qD,wCJ];by_cases e:a=b
 ·rw[if_pos e]at h;rw[if_neg (λh=>h e)];exact h
 ·rw[if_neg e]at h;rw[if_pos e];exact h
theorem Ki {t:Nat}{k:IntKind}{a b:Int}{A B:Prop}(h:if b<=a then A else B):oP (hbin .geq t (.int k a) (.int k b)) λv=>bP v A B:=by
 simp only[kX,fj,qD,wAe];exact h
theorem ieq (a b:Nat):((a:Int) == (b:Int))=(a == b):=by
 rw[wBn,wAt,wAt];omega
theorem fu {t:Nat}{k:IntKind}{a b:Int}{K:V->Prop}(h:K (.bool (decide (a=b)))):oP (hbin .eql t (.int k a) (.int k b)) K:=by
 rw[fF];have:(a == b)=decide (a=b):=by by_cases e:a=b <;> simp[e]
 rw[this];exact h
def partsN (op:Nat):Nat:=if two op=true then 2 else if oneP op=true then 1 else 0
theorem Bl {op:Nat}(H:Q (.int .i64 (partsN op:Nat)) h):cP CS oC [.int .i64 op] h Q:=by
 refine DV rfl rfl ?_;unfold Ak;have r9:∀b:Bool,(b=true->oneP op=true/\two op≠true)->(b=false->oneP op≠true/\two op≠true)->ic CS Q (.bool b) h:=by
  intro b o p;refine Ba ?_;unfold xh;rw[fw];unfold partsN at H
  cases b with
  |true=>rw[if_neg (o rfl).2,if_pos (o rfl).1]at H;exact H
  |false=>rw[if_neg (p rfl).2,if_neg (p rfl).1]at H;exact H
 have r4:∀b:Bool,b=two op->fE CS Q (.int .i64 op) (.bool b) h:=by
  intro b q;refine BO ?_;unfold wN;rw[fw]
  cases b with
  |true=>unfold partsN at H;rw[if_pos q.symm]at H;exact H
  | false=>
    have c:two op≠true:=by rw[<-q];simp
    rw[if_neg (by simp)];refine fu ?_;rw[fw];split
    ·rename_i e;refine r9 _ (λ_=>⟨?_,c⟩) λh=>absurd (h.symm.trans e) (by simp)
     have:op=8:=by simp at e;omega
     subst this;rfl
    rename_i d;refine fu ?_;rw[fw];split
    ·rename_i e;refine r9 _ (λ_=>⟨?_,c⟩) λh=>absurd (h.symm.trans e) (by simp)
     have:op=9:=by simp at e;omega
     subst this;rfl
    rename_i f;refine fu ?_;rw[fw];split
    ·rename_i e;refine r9 _ (λ_=>⟨?_,c⟩) λh=>absurd (h.symm.trans e) (by simp)
     have:op=15:=by simp at e;omega
     subst this;rfl
    rename_i g;refine fu ?_;rw[fw];split
    ·rename_i e;refine r9 _ (λ_=>⟨?_,c⟩) λh=>absurd (h.symm.trans e) (by simp)
     have:op=16:=by simp at e;omega
     subst this;rfl
    rename_i i;refine fu ?_;rw[fw];split
    ·rename_i e;refine r9 _ (λ_=>⟨?_,c⟩) λh=>absurd (h.symm.trans e) (by simp)
     have:op=17:=by simp at e;omega
     subst this;rfl
    rename_i j;refine fu ?_;simp at d f g i j;refine r9 _ (λe=>⟨?_,c⟩) λe=>⟨?_,c⟩
    ·have:op=22:=by simp at e;omega
     subst this;rfl
    ·have e:=of_decide_eq_false e
     intro hq;unfold oneP at hq;simp only[wAw,wAt]at hq;omega
 have a:∀n:Nat,(op:Int)=n->(two n=true)->two op=true:=λn e h=>by
  have:op=n:=by omega
  subst this;exact h
 refine fu ?_;rw[fw];split
 ·rename_i e;exact r4 _ (e.trans (a 3 (by simpa using e) rfl).symm)
 rename_i d;refine fu ?_;rw[fw];split
 ·rename_i e;exact r4 _ (e.trans (a 4 (by simpa using e) rfl).symm)
 rename_i f;refine fu ?_;rw[fw];split
 ·rename_i e;exact r4 _ (e.trans (a 5 (by simpa using e) rfl).symm)
 rename_i g;refine fu ?_;rw[fw];split
 ·rename_i e;exact r4 _ (e.trans (a 6 (by simpa using e) rfl).symm)
 rename_i i;refine fu ?_;rw[fw];split
 ·rename_i e;exact r4 _ (e.trans (a 7 (by simpa using e) rfl).symm)
 rename_i j;refine fu ?_;rw[fw];split
 ·rename_i e;exact r4 _ (e.trans (a 10 (by simpa using e) rfl).symm)
 rename_i r;refine fu ?_;rw[fw];split
 ·rename_i e;exact r4 _ (e.trans (a 11 (by simpa using e) rfl).symm)
 rename_i s;refine fu ?_;rw[fw];split
 ·rename_i e;exact r4 _ (e.trans (a 12 (by simpa using e) rfl).symm)
 rename_i t;refine fu ?_;rw[fw];split
 ·rename_i e;exact r4 _ (e.trans (a 13 (by simpa using e) rfl).symm)
 rename_i u;refine fu ?_;rw[fw];split
 ·rename_i e;exact r4 _ (e.trans (a 14 (by simpa using e) rfl).symm)
 rename_i k;refine fu ?_;rw[fw];split
 ·rename_i e;exact r4 _ (e.trans (a 18 (by simpa using e) rfl).symm)
 rename_i l;refine fu ?_;rw[fw];split
 ·rename_i e;exact r4 _ (e.trans (a 19 (by simpa using e) rfl).symm)
 rename_i m;refine fu (r4 _ ?_);simp at d f g i j r s t u k l m;rw[wBn];unfold two;simp only[wAe,wAw,wAJ,wAt];omega
theorem zX {op:Nat}(H:Q (.bool (leaves op)) h):cP CS jW [.int .i64 op] h Q:=by
 refine CX rfl rfl ?_;unfold yX;have e:leaves op=(((op:Int) == 22) ||((op:Int) == 23)):=by
  unfold leaves;rw[show((op:Int) == 22)=(op == 22) from ieq op 22,show((op:Int) == 23)=(op == 23) from ieq op 23]
 simp only[fF,fj,en,sU];rw[<-e];exact H
theorem r0 {a b:Nat}(H:Q (.bool (decide (a<b))) h):cP CS gJ [.int .i64 a,.int .i64 b] h Q:=by
 refine DL rfl rfl ?_;unfold Ai;simp only[kX,fj,en,j4,gv];have e:(decide ((0:Int)<=(a:Nat))&&decide (((a:Nat):Int)<(b:Nat)))=decide (a<b):=by
  rw[wBn];simp only[wAJ,wAe];omega
 rw[e];exact H
theorem Im {xs:List Nat}{a b:V}(c:SlR eN F h xs a)(d:SlR eN F h xs b)(r:xs.length<1000000000)(H:Q (.bool true) h):cP CS iD [a,b] h Q:=by
 refine vG rfl rfl ?_;unfold oW;refine d9 c.len (d9 d.len (yU (if_t rfl (d9 c.len ?_))));refine tK (λk e f g j h'=>∃i:Nat,e=a/\f=b/\g = .int .i64 xs.length/\j = .int .i64 (i:Nat)/\i+k=xs.length/\h' = h) ?_ (k:=xs.length) ⟨0,rfl,rfl,rfl,rfl,by omega,rfl⟩;rintro k e f g j h' ⟨i,rfl,rfl,rfl,rfl,s,rfl⟩;unfold mH;by_cases hi:i<xs.length
 ·refine ltYes ?_;obtain⟨l,o,_,m,n⟩:=c.nat (wAA hi) .i64;obtain⟨t,u,_,p,q⟩:=d.nat (wAA hi) .i64;refine d9 m (d9 n (d9 p (d9 q (yU (if_t rfl ?_)))));exact addOne ⟨k-1,by omega,i+1,rfl,rfl,rfl,rfl,by omega,rfl⟩
 ·exact ltNo H
end
open Go.Proofs.YtpnddokajmjpbaaDoor.Un
theorem take1:∀{l:List Nat}(h:0<l.length),l.take 1=[l[0]]
 |y::l,_=>by simp
theorem AK (x:Vl):uses x=([x.a,x.b].take (partsN x.op))++(if x.op=20 then x.args.take 1 else if x.op=21 then x.args else[]):=by
 unfold uses partsN;by_cases c:x.op=21
 ·rw[c];simp[two,oneP]
 ·rw [if_neg c];by_cases d:x.op=20
  ·rw[d];simp[two]
  ·rw [if_neg d,if_neg d,if_neg c];by_cases e:two x.op=true
   ·simp[e]
   ·by_cases f:oneP x.op=true
    ·simp[e,f]
    ·simp[e,f]
section
variable{F F':Nat->Prop}{h h':Hp}{cs:List Pc}{Q:QP1}{u:U}{vv vb vs:V}
theorem w9 {x:Vl}(c:x.op=21\/x.op=20->x.args.length<=700):(uses x).length<=1000:=by
 rw[AK];by_cases b:x.op=20
 ·rw[if_pos b];simp;omega
 ·rw[if_neg b];by_cases a:x.op=21
  ·have:=c (.inl a);rw[if_pos a];simp;omega
  ·rw[if_neg a];simp;omega
theorem Do (Z:Hold F h cs){x:Vl}{c:V}(W:SlR eN F h x.args c)(J:x.op=21\/x.op=20->x.args.length<=1000000)(H:∀F' h' v,Sn F h F' h'->Hold F' h' cs->SlR eN F' h' (uses x) v->Q v h'):cP CS nz [.agg (vlC x c)] h Q:=by
 refine EJ rfl rfl ?_;unfold BK;have o1:allOne (vlC x c)=true:=by simp only[vlC,ee,W.one];rfl
 rw [vE o1,ev];obtain⟨K,L⟩:=Z.newC tyVal (vlC x c);have n1:(h.new (.cells 42 1 true false (vlC x c))).next=h.next+1:=rfl;have K:Hold F (h.new (.cells 42 1 true false (vlC x c))) (cellP h.next tyVal (vlC x c)::cs):=K;have L:Sn F h F (h.new (.cells 42 1 true false (vlC x c))):=L;generalize h.new (.cells 42 1 true false (vlC x c))=d at*;rw[yY,fD];obtain⟨w,M⟩:=K.newR (E:=eN) (xs:=[]) (ws:=[]) (n:=0) tyInt rfl trivial rfl;have w:Hold F (d.new (.cells 3 1 true false [])) (rowP eN tyInt [] (.slice d.next 0 0)::cellP h.next tyVal (vlC x c)::cs):=w;have M:Sn F d F (d.new (.cells 3 1 true false [])):=M;have g2:(d.new (.cells 3 1 true false [])).get d.next=some (.cells 3 1 true false []):=ef _ _;have n2:(d.new (.cells 3 1 true false [])).next=d.next+1:=rfl;generalize d.new (.cells 3 1 true false [])=k at*;refine oF (w.ld 1 rfl rfl) (oF (w.ld 1 rfl rfl) ?_);rw[nx2,fD];obtain⟨o,N⟩:=w.newR (E:=eN) (xs:=[x.a,x.b]) (ws:=nats [x.a,x.b]) (n:=2) tyInt rfl (qB _ _ _) (BT _);have o:Hold F (k.new (.cells 3 1 true false (nats [x.a,x.b]))) (rowP eN tyInt [x.a,x.b] (.slice k.next 0 2)::rowP eN tyInt [] (.slice d.next 0 0)::cellP h.next tyVal (vlC x c)::cs):=o;have N:Sn F k F (k.new (.cells 3 1 true false (nats [x.a,x.b]))):=N;have X:(k.new (.cells 3 1 true false (nats [x.a,x.b]))).get k.next=some (.cells 3 1 true false (nats [x.a,x.b])):=ef _ _;have y:(k.new (.cells 3 1 true false (nats [x.a,x.b]))).get d.next=some (.cells 3 1 true false []):=(er _ (by omega)).trans g2;generalize k.new (.cells 3 1 true false (nats [x.a,x.b]))=h3 at*;refine oF (o.ld 2 rfl rfl) ⟨⟨X,O.beq_cells _ _ _ _ _⟩,o.ld 2 rfl rfl,o.ld 2 rfl rfl,⟨y,O.beq_cells _ _ _ _ _⟩,?_⟩;refine Bl ⟨wAF _,?_⟩;have hp:partsN x.op<=2:=by
  unfold partsN;split
  ·omega
  ·split <;> omega
 obtain⟨z,P,Y⟩:=o.cutR 0 rfl (n:=partsN x.op) hp;refine d9 P ⟨⟨X,O.beq_cells _ _ _ _ _⟩,o.ld 2 rfl rfl,o.ld 2 rfl rfl,⟨y,O.beq_cells _ _ _ _ _⟩,?_⟩;simp only[wAC]at Y;obtain⟨i,u,R,n5,p,s5⟩:=Y.appO 1 0 rfl rfl (by_:=8) (by decide) (by decide) (by simp;omega);have A:happend 3 1 8 (.slice d.next 0 0) z h3=some (.val i u):=R;rw[A,ec];refine⟨n5,?_⟩;simp only[wAE,wAC,wAl]at p;have B:=((L.trans M).trans N).trans s5;have q:SlR eN F u x.args c:=(W.keep B.keep)
 have r:∀(F':Nat->Prop) (h':Hp) (v:V) (l:List Nat),Sn F u F' h'->Hold F' h' (rowP eN tyInt ([x.a,x.b].take (partsN x.op)) z::rowP eN tyInt l v::cellP h.next tyVal (vlC x c)::cs)->l=uses x->nr CS Q v h':=by
  intro F' h' v l sF HF S;subst S;refine B1 ?_;unfold ym;obtain⟨C,D,r6⟩:=HF.freezeR 1 rfl;exact H _ _ v ((B.trans sF).trans D) C.tail.tail.tail r6
 refine oF (p.ld 2 rfl rfl) ?_;by_cases j:x.op=20
 ·have J:=J (.inr j);refine fk (if_t (by omega) ?_);refine oF (p.ld 2 rfl rfl) (oF (p.ld 2 rfl rfl) (d9 q.len (d9 (Hh _ _ _ _) ?_)));have em:(if false=true then max (1:Int) (x.args.length:Nat) else min (1:Int) (x.args.length:Nat))=((min 1 x.args.length:Nat):Int):=by simp;omega
  rw[em];obtain⟨T,U,G⟩:=q.cut (lo:=none) (hi:=some (.int .i64 ((min 1 x.args.length:Nat):Int))) (m:=0) (n:=min 1 x.args.length) rfl (xI _ _ _) (wA5 _) (by omega);refine d9 U ?_;rw[wBT]at G;obtain⟨f,I,s,n6,C,D⟩:=p.appR 1 rfl (by_:=8) G (by decide) (by decide) (by simp;omega);have g:happend 3 1 8 i T u=some (.val f I):=s;rw[g,ec];refine r F I f _ D C ?_;rw[AK,if_pos j];congr 1;rcases Nat.eq_zero_or_pos x.args.length with e|e
  ·rw[wAf e];rfl
  ·rw[wB7 e]
 refine fk (if_f (by omega) ?_);by_cases t:x.op=21
 ·have J:=J (.inl t);refine fk (if_t (by omega) ?_);refine oF (p.ld 2 rfl rfl) ?_;obtain⟨f,I,s,n6,C,D⟩:=p.appR 1 rfl (by_:=8) q (by decide) (by decide) (by simp;omega);have g:happend 3 1 8 i c u=some (.val f I):=s;rw[g,ec];refine r F I f _ D C ?_;rw[AK,if_neg j,if_pos t]
 ·refine fk (if_f (by omega) ?_);refine r F u i _ (Sn.refl _ _) p ?_;rw[AK,if_neg j,if_neg t,wAa]
def two2 (op:Nat):Bool:=two op&&op != 20
theorem yw (K:Hold F h cs){x:Vl}{g:V}(y:SlR eN F h x.args g)(H:∀F' h' v,Sn F h F' h'->Hold F' h' cs->SlR eN F' h' (uses x) v->Q v h'):cP CS fR [.agg (vlC x g)] h Q:=by
 refine wi rfl rfl ?_;unfold qh;have L:allOne (vlC x g)=true:=by simp only[vlC,ee,y.one];rfl
 rw [vE L,ev];obtain⟨c,p⟩:=K.newC tyVal (vlC x g);have c:Hold F (h.new (.cells 42 1 true false (vlC x g))) (cellP h.next tyVal (vlC x g)::cs):=c;have p:Sn F h F (h.new (.cells 42 1 true false (vlC x g))):=p;generalize h.new (.cells 42 1 true false (vlC x g))=r at*;have j:=y.keep p.keep;have fin:∀(xs:List Nat),xs=uses x->Q (.slice r.next 0 xs.length) (r.new (.cells 3 1 true false (nats xs))):=by
  intro xs e;obtain⟨s,z,r2⟩:=c.newF (E:=eN) (n:=xs.length) tyInt rfl (qB F r xs) false;have:=H _ _ _ (p.trans z) s.tail (by rw[<-e];exact r2);exact this
 have r9:∀b:Bool,(b=true->oneP x.op=true/\two2 x.op≠true)->(b=false->oneP x.op≠true/\two2 x.op≠true)->fx CS Q (.ptr h.next 0) (.int .i64 x.op) (.bool b) r:=by
  intro b u M;refine uh ?_;unfold nj;rw[fw]
  cases b with
  | true=>
    rw[if_pos rfl];obtain⟨a1,a2⟩:=u rfl;refine oF (c.ld 0 rfl rfl) ?_;rw[show pBS 3 1 1 (V.int .i64 0) [(0,V.int .i64 (x.a:Nat))]=some (.cells 3 1 true false (nats [x.a]),λl=> .slice l 0 1) from rfl,ev];refine fin [x.a] ?_;unfold two2 at a2;unfold oneP at a1;unfold uses two oneP;simp only[wAw,wAt]at a1
    rcases a1 with((((e|e)|e)|e)|e)|e <;> rw[e] <;> rfl
  | false=>
    rw[if_neg (by simp)];obtain⟨a1,a2⟩:=M rfl;by_cases k:x.op=20
    ·refine fk (if_t (by omega) ?_)
     refine oF (c.ld 0 rfl rfl) (d9 j.len ?_);have A:uses x=x.a::x.b::x.args.take 1:=by unfold uses;rw[k];rfl
     by_cases N:x.args.length=0
     ·refine fk (if_t (by omega) ?_)
      refine oF (c.ld 0 rfl rfl) (oF (c.ld 0 rfl rfl) ?_);rw[nx2,ev];refine fin [x.a,x.b] ?_;rw[A,wAf N];rfl
     ·refine fk (if_f (by omega) ?_)
      obtain⟨l,o,P,R,B⟩:=j.nat (i:=0) (wAA (by omega)) .i64;refine oF (c.ld 0 rfl rfl) (oF (c.ld 0 rfl rfl) (oF (c.ld 0 rfl rfl) (d9 R (d9 B ?_))));rw[show pBS 3 1 3 (V.int .i64 0) [(0,V.int .i64 (x.a:Nat)),(1,V.int .i64 (x.b:Nat)),(2,V.int .i64 (x.args[0]:Nat))]=some (.cells 3 1 true false (nats [x.a,x.b,x.args[0]]),λl=> .slice l 0 3) from rfl,fD];obtain⟨s,z⟩:=c.grow (Chg.new r (.cells 3 1 true false (nats [x.a,x.b,x.args[0]])));refine⟨⟨ef _ _,O.beq_cells _ _ _ _ _⟩,gQ B (er _ (c.fl _ P)),s.ld 0 rfl rfl,s.ld 0 rfl rfl,s.ld 0 rfl rfl,fin [x.a,x.b,x.args[0]] ?_⟩;rw[A,take1 (show 0<x.args.length by omega)]
    refine fk (if_f (by omega) ?_);by_cases t:x.op=21
    ·refine fk (if_t (by omega) ?_)
     refine oF (c.ld 0 rfl rfl) ?_;refine H _ _ _ p c.tail ?_;have:uses x=x.args:=by unfold uses;rw[if_pos t]
     rw[this];exact j
    ·refine fk (if_f (by omega) ?_)
     refine H _ _ _ p c.tail ?_;have:uses x=[]:=by
       unfold uses;rw[if_neg t,if_neg k,if_neg,if_neg a1];intro e;apply a2;unfold two2;rw[e];simpa using k
     rw[this];exact .nil
 have r4:∀b:Bool,b=two2 x.op->eQ CS Q (.ptr h.next 0) (.int .i64 x.op) (.bool b) r:=by
  intro b f;refine uk ?_;unfold mN;rw[fw]
  cases b with
  | true=>
    rw[if_pos rfl];refine oF (c.ld 0 rfl rfl) (oF (c.ld 0 rfl rfl) ?_);rw[nx2,ev];refine fin [x.a,x.b] ?_;unfold two2 at f;have f:=f.symm;rw[wAJ,wCJ]at f;unfold uses;rw[if_neg,if_neg f.2,if_pos f.1];intro e;rw[e]at f
    exact absurd f.1 (by decide)
  | false=>
    have m:two2 x.op≠true:=by rw[<-f];simp
    rw[if_neg (by simp)];refine fu ?_;rw[fw];split
    ·rename_i e;refine r9 _ (λ_=>⟨?_,m⟩) λh=>absurd (h.symm.trans e) (by simp)
     have:x.op=8:=by simp at e;omega
     rw[this];rfl
    rename_i C;have C:x.op≠8:=λe=>C (by rw[e];rfl);refine fu ?_;rw[fw];split
    ·rename_i e;refine r9 _ (λ_=>⟨?_,m⟩) λh=>absurd (h.symm.trans e) (by simp)
     have:x.op=9:=by simp at e;omega
     rw[this];rfl
    rename_i D;have D:x.op≠9:=λe=>D (by rw[e];rfl);refine fu ?_;rw[fw];split
    ·rename_i e;refine r9 _ (λ_=>⟨?_,m⟩) λh=>absurd (h.symm.trans e) (by simp)
     have:x.op=15:=by simp at e;omega
     rw[this];rfl
    rename_i G;have G:x.op≠15:=λe=>G (by rw[e];rfl);refine fu ?_;rw[fw];split
    ·rename_i e;refine r9 _ (λ_=>⟨?_,m⟩) λh=>absurd (h.symm.trans e) (by simp)
     have:x.op=16:=by simp at e;omega
     rw[this];rfl
    rename_i I;have I:x.op≠16:=λe=>I (by rw[e];rfl);refine fu ?_;rw[fw];split
    ·rename_i e;refine r9 _ (λ_=>⟨?_,m⟩) λh=>absurd (h.symm.trans e) (by simp)
     have:x.op=17:=by simp at e;omega
     rw[this];rfl
    rename_i J;have J:x.op≠17:=λe=>J (by rw[e];rfl);refine fu ?_;refine r9 _ (λe=>⟨?_,m⟩) λe=>⟨?_,m⟩
    ·have:x.op=22:=by simp at e;omega
     rw[this];rfl
    ·have e:=of_decide_eq_false e
     intro hq;unfold oneP at hq;simp only[wAw,wAt]at hq;omega
 have d:∀n:Nat,(x.op:Int)=n->(two2 n=true)->two2 x.op=true:=λn e h=>by
  have:x.op=n:=by omega
  rw[this];exact h
 refine oF (c.ld 0 rfl rfl) ?_;refine fu ?_;rw[fw];split
 ·rename_i e;exact r4 _ (e.trans (d 3 (by simpa using e) rfl).symm)
 rename_i S;refine fu ?_;rw[fw];split
 ·rename_i e;exact r4 _ (e.trans (d 4 (by simpa using e) rfl).symm)
 rename_i T;refine fu ?_;rw[fw];split
 ·rename_i e;exact r4 _ (e.trans (d 5 (by simpa using e) rfl).symm)
 rename_i U;refine fu ?_;rw[fw];split
 ·rename_i e;exact r4 _ (e.trans (d 6 (by simpa using e) rfl).symm)
 rename_i W;refine fu ?_;rw[fw];split
 ·rename_i e;exact r4 _ (e.trans (d 7 (by simpa using e) rfl).symm)
 rename_i X;refine fu ?_;rw[fw];split
 ·rename_i e;exact r4 _ (e.trans (d 10 (by simpa using e) rfl).symm)
 rename_i Y;refine fu ?_;rw[fw];split
 ·rename_i e;exact r4 _ (e.trans (d 11 (by simpa using e) rfl).symm)
 rename_i Z;refine fu ?_;rw[fw];split
 ·rename_i e;exact r4 _ (e.trans (d 12 (by simpa using e) rfl).symm)
 rename_i f7;refine fu ?_;rw[fw];split
 ·rename_i e;exact r4 _ (e.trans (d 13 (by simpa using e) rfl).symm)
 rename_i f8;refine fu ?_;rw[fw];split
 ·rename_i e;exact r4 _ (e.trans (d 14 (by simpa using e) rfl).symm)
 rename_i f9;refine fu ?_;rw[fw];split
 ·rename_i e;exact r4 _ (e.trans (d 18 (by simpa using e) rfl).symm)
 rename_i w;refine fu (r4 _ ?_);rw[wBn];unfold two2 two;simp only[wAe,wAw,wAJ,wAt,wCJ];constructor
 ·intro e;omega
 ·intro e;have q:∀n:Nat,¬decide ((x.op:Int)=(n:Nat))=true->x.op≠n:=λn h e=>h (by rw[e];simp);have k0:=q 3 S;have k1:=q 4 T;have k2:=q 5 U;have k3:=q 6 W;have k4:=q 7 X;have k5:=q 10 Y;have k6:=q 11 Z;have k7:=q 12 f7;have k8:=q 13 f8;have k9:=q 14 f9;have aa:=q 18 w;omega
end
open Go.Proofs.YtpnddokajmjpbaaDoor.Un
theorem ez{X:Option V}{K:V->Prop}(h:oP X K):oP (pGd false (.bool false)) λb=>oP (gV b X) K:=h
theorem fi{X:Option V}{K:V->Prop}(h:oP X K):oP (pGd true (.bool true)) λb=>oP (gV b X) K:=h
theorem ft{X:Option V}{K:V->Prop}(h:K .undef):oP (pGd true (.bool false)) λb=>oP (gV b X) K:=h
theorem Io{X:Option V}{K:V->Prop}(h:K .undef):oP (pGd false (.bool true)) λb=>oP (gV b X) K:=h
theorem rr{C:Cfg}{f:Nat}{a:List V}{h:Hp}{K:QP1}(H:cP C f a h K):oP (pGd false (.bool false)) λb=>oP (gC b (some (f,a))) λy=>cgP C y h K:=H
theorem uU{C:Cfg}{f:Nat}{a:List V}{h:Hp}{K:QP1}(H:cP C f a h K):oP (pGd true (.bool true)) λb=>oP (gC b (some (f,a))) λy=>cgP C y h K:=H
theorem wZ{C:Cfg}{f:Nat}{a:List V}{h:Hp}{K:QP1}(H:K .undef h):oP (pGd true (.bool false)) λb=>oP (gC b (some (f,a))) λy=>cgP C y h K:=H
theorem jE {b:Bool}{A B:Prop}(h:if b=true then B else A):oP (hun .not (.bool b)) λv=>bP v A B:=by
 cases b <;> exact h
theorem Jb{b:Bool}{K:V->Prop}(h:K (.bool (!b))):oP (hun .not (.bool b)) K:=h
section
variable{F F':Nat->Prop}{h h':Hp}{cs:List Pc}{Q:QP1}{u:U}{vv vb vs:V}
theorem fU {T n:Nat}{b ws:List V}{K:QP1}(H:Hold F h cs)(d:b.length=n)(e:ws.length=n)(c:allOne ws=true)(f:∀a,Hold F a (cellP h.next T ws::cs)->Sn F h F a->K (.ptr h.next 0) a) :
  alP (some (O.cells T 1 true false b,λl=>V.ptr l 0)) h λv c=>valP (pSt n v (.agg ws) c) λ_ a=>K v a:=by
 rw[ev];obtain⟨g,i⟩:=H.newC T b;obtain⟨a,j,_,k,m⟩:=g.stA 0 rfl e d c;rw[j,ec];exact f a k (i.trans m)
theorem kh {T:Nat}{ws:List V}{K:QP1}(H:Hold F h cs)(b:allOne ws=true)(c:∀a,Hold F a (cellP h.next T ws::cs)->Sn F h F a->K (.ptr h.next 0) a):alP (hbox T (.agg ws)) h K:=by
 rw[vE b,ev];obtain⟨d,e⟩:=H.newC T ws;exact c _ d e
theorem Dl {T:Nat}(xs:List Nat){ps:Option (O×(Nat->V))}(b:ps=some (O.cells T 1 true false (nats xs),λl=> .slice l 0 xs.length)){K:QP1}(H:Hold F h cs)
  (c:∀F' a v,Hold F' a cs->Sn F h F' a->SlR eN F' a xs v->K v a):alP ps h K:=by
 subst b;rw[ev];obtain⟨d,e,r1⟩:=H.newF (E:=eN) T rfl (qB F h xs) false;exact c _ _ _ d e r1
theorem iY{T:Nat}(x:Nat):pBS T 1 1 (V.int .i64 0) [(0,V.int .i64 x)]=some (.cells T 1 true false (nats [x]),λl=> .slice l 0 1):=rfl
structure Ck (F:Nat->Prop) (h:Hp) (cs:List Pc) (lc:Nat) (u:U) (vv vb vs bl pl idm:V):Prop where
 H:Hold F h cs
 c:∃(i ty:Nat),cs[i]? =some (cellP lc ty [.int .i64 u.func,.int .i64 u.pc,vv,vb,vs,bl,pl,idm])
 u:URd F h u vv vb vs
variable{lc:Nat}{bl pl idm:V}
theorem Ck.since (C:Ck F h cs lc u vv vb vs bl pl idm)(s:Sn F h F' h')(a:Hold F' h' cs):Ck F' h' cs lc u vv vb vs bl pl idm:=⟨a,C.c,C.u.since s⟩
theorem Ck.cons (C:Ck F h cs lc u vv vb vs bl pl idm)(s:Sn F h F' h'){p:Pc} (a:Hold F' h' (p::cs)):Ck F' h' (p::cs) lc u vv vb vs bl pl idm:=
 ⟨a,let⟨i,ty,hc⟩:=C.c;⟨i+1,ty,hc⟩,C.u.since s⟩
theorem Ck.ld (C:Ck F h cs lc u vv vb vs bl pl idm)(o:Nat){y:V}(a:[.int .i64 u.func,.int .i64 u.pc,vv,vb,vs,bl,pl,idm][o]? =some y):pLd (.ptr lc o) h=some y:=
 let⟨i,_,hc⟩:=C.c;C.H.ld i hc a
theorem A1 {a0 c:V}{n:Nat}(m:n<1000000)(P:(Nat->Prop)->Hp->Prop)(h0:P F h)
  (step:∀i,i<n->∀F' h',P F' h'->∀e:V->Hp->Prop,(∀a b,P a b->e (.bool true) b)->calP CS (hcall c [.int .i64 (i:Nat)]) h' e) (H:∀F' h',P F' h'->Q (.bool true) h') :
  cP CS ge [a0,.int .i64 n,c] h Q:=by
 refine zp rfl rfl ?_;unfold tZ;refine wI (λk f g j h'=>∃(F':Nat->Prop) (i:Nat),f = .int .i64 n/\g=c/\j = .int .i64 i/\i+k=n/\P F' h') ?_ (k:=n) ⟨F,0,rfl,rfl,rfl,by omega,h0⟩;rintro k f g j h' ⟨F',i,rfl,rfl,rfl,o,l⟩;unfold qI;by_cases hi:i<n
 ·refine ltYes ?_;refine step i hi F' h' l _ λa b d=>?_;refine jE (if_t rfl ?_);exact addOne ⟨k-1,by omega,a,i+1,rfl,rfl,rfl,by omega,d⟩
 ·exact ltNo (H F' h' l)
theorem zq (C:Ck F h cs lc u vv vb vs bl pl idm){l:List Nat}{v:V}(b:SlR eN F h l v)(r:l.length<1000000)(j:∀w∈l,Gives u w)(H:Q (.bool true) h):cP CS fQ [.ptr lc 0,v] h Q:=by
 refine xP rfl rfl ?_;unfold rM;refine d9 b.len ?_;refine vC (λk c d e f h'=>∃i:Nat,c = .ptr lc 0/\d=v/\e = .int .i64 l.length/\f = .int .i64 (i:Nat)/\i+k=l.length/\h' = h) ?_ (k:=l.length) ⟨0,rfl,rfl,rfl,rfl,by omega,rfl⟩;rintro k c d e f h' ⟨i,rfl,rfl,rfl,rfl,s,rfl⟩;unfold pP;by_cases hi:i<l.length
 ·refine ltYes ?_;obtain⟨l1,t,_,m,n⟩:=b.nat (wAA hi) .i64;obtain⟨x,g,gx⟩:=j _ (wAR hi);have a:=(wAB.1 g).1;refine d9 m (d9 n (d9 (fc _ _) (d9 (ed _ _ _) (oF (C.ld 2 rfl) (d9 C.u.v.len ?_)))));refine r0 (jE (if_t (by simpa using a) ?_));obtain⟨l2,y,z,_,o,_,_,p⟩:=C.u.val g;refine d9 (fc _ _) (d9 (ed _ _ _) (oF (C.ld 2 rfl) (d9 o (oF p.op ?_))));have q:x.op<19\/x.op=21:=by
   unfold gives at gx;simpa using gx
  refine fu (st_b (if_f (by simp;omega) ?_));refine fu (st_b (if_f (by simp;omega) ?_));refine fu (st_b (if_f (by simp;omega) ?_));refine fu ?_;rw[wBL (by omega)];refine uF ?_;unfold nN;refine st_b (if_f (by simp) ?_);exact addOne ⟨k-1,by omega,i+1,rfl,rfl,rfl,rfl,by omega,rfl⟩
 ·exact ltNo H
theorem If (C:Ck F h cs lc u vv vb vs bl pl idm){i:Nat}{fs:List Fm}(hs:u.states[i]? =some fs)(G:1<=fs.length/\fs.length<=30)(x:∀f∈fs,f.locals.length<=40/\f.stack.length<=60/\(∀v∈f.locals,Gives u v)/\∀v∈f.stack,Gives u v)
  (H:∀h',Sn F h F h'->Hold F h' cs->Q (.bool true) h'):cP CS iz [.ptr lc 0,.int .i64 i] h Q:=by
 refine xU rfl rfl ?_;unfold rE;obtain⟨l1,I,f,_,y,z,_,q⟩:=C.u.st hs;refine d9 (fc _ _) (d9 (ed _ _ _) (oF (C.ld 4 rfl) (d9 y (d9 z ?_))));refine fU C.H rfl rfl (by simp[q.one]) λJ n r=>?_;have r2:=q.since r;refine oF (n.ld 0 rfl rfl) (d9 r2.len (fu ?_));rw[wBL (by omega),jC,ed,en,n.ld 0 (o:=0+0) rfl rfl,en,r2.len,en,kK];refine d9 rfl (st_b (if_f (by simp;omega) ?_));refine oF (n.ld 0 rfl rfl) (d9 r2.len ?_);have C2:=C.since r n.tail
 refine vm (λk w c d e h'=>∃j:Nat,w = .ptr lc 0/\c=f/\d = .int .i64 fs.length/\e = .int .i64 (j:Nat)/\j+k=fs.length/\Sn F h F h'/\Ck F h' cs lc u vv vb vs bl pl idm) ?_ (k:=fs.length)
  ⟨0,rfl,rfl,rfl,rfl,by omega,r,C2⟩
 rintro k w c d e h' ⟨j,rfl,rfl,rfl,rfl,K,s,t⟩;unfold pH;by_cases hj:j<fs.length
 ·refine ltYes ?_;obtain⟨l3,L,a,b,_,A,B,g,l⟩:=(q.since s).frm (wAA hj);refine d9 A (d9 B ?_);obtain⟨M,N,D,E⟩:=x _ (wAR hj);refine fU t.H rfl rfl (by simp only[fmC,ee,g.one,l.one];rfl) λO m p=>?_;have g:=g.since p;have l:=l.since p;have C3:=t.since p m.tail;refine oF (m.ld 0 rfl rfl) (d9 g.len ?_);refine d9 (kK _ _ _ _) ?_;rw[wBL (by omega),jC,ed,en,m.ld 0 (o:=0+3) rfl rfl,en,l.len,en,kK,wBL (by omega)];refine d9 rfl (ez (d9 rfl (ez (d9 (ed _ _ _) (ez (d9 (m.ld 0 rfl rfl) (rr ?_)))))));refine zq C3 g (by omega) D (d9 rfl (ez (d9 rfl (ez (d9 (ed _ _ _) (ez (d9 (m.ld 0 rfl rfl) (rr ?_))))))));refine zq C3 l (by omega) E (d9 rfl (st_b (if_f (by simp) ?_)));exact addOne ⟨k-1,by omega,j+1,rfl,rfl,rfl,rfl,by omega,s.trans p,C3⟩
 ·exact ltNo (H h' s t.H)
end
