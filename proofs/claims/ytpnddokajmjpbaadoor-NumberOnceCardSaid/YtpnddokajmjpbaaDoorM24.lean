/- Parts. -/
import Derived.Test.YtpnddokajmjpbaaDoorM23
import Derived.Test.YtpnddokajmjpbaaDoorM16
namespace Go.Proofs.YtpnddokajmjpbaaDoor.Hx
open Go.Proofs.YtpnddokajmjpbaaDoor.Un
def eZ:nQ Int where
 sz:=1
 rel _ _ n cs:=cs=[.int .i64 n]
 len h:=by subst h;rfl
 one h:=by subst h;rfl
 fc _ h:=h
 mono _ h:=h
def eW:nQ (Nat×Nat) where
 sz:=2
 rel _ _ x cs:=cs=[.int .i64 (x.1:Nat),.int .i64 (x.2:Nat)]
 len h:=by subst h;rfl
 one h:=by subst h;rfl
 fc _ h:=h
 mono _ h:=h
structure zf (F:Nat->Prop) (h:Hp) (u:U) (vv vb vs:V):Prop where
 v:ik eV F h u.ee vv
 b:ik eK F h u.blocks vb
 s:ik eT F h u.eh vs
theorem zf.fc{F:Nat->Prop}{h h':Hp}{u:U}{vv vb vs:V}(c:∀l,F l->h'.get l=h.get l)(a:zf F h u vv vb vs):zf F h' u vv vb vs:=⟨a.v.fc c,a.b.fc c,a.s.fc c⟩
theorem zf.mono{F F':Nat->Prop}{h:Hp}{u:U}{vv vb vs:V}(c:∀l,F l->F' l)(a:zf F h u vv vb vs):zf F' h u vv vb vs:=⟨a.v.mono c,a.b.mono c,a.s.mono c⟩
theorem zf.one{F:Nat->Prop}{h:Hp}{u:U}{vv vb vs:V}(a:zf F h u vv vb vs):fV (uC u vv vb vs)=true:=by simp only[uC,eJ,a.v.one,a.b.one,a.s.one];rfl
theorem ik.since{α:Type}{E:nQ α}{F F':Nat->Prop}{h h':Hp}{xs:List α}{v:V}(hs:ik E F h xs v)(s:Sn F h F' h'):ik E F' h' xs v:=(hs.fc s.fc).mono s.mono
theorem zf.since{F F':Nat->Prop}{h h':Hp}{u:U}{vv vb vs:V}(a:zf F h u vv vb vs)(s:Sn F h F' h'):zf F' h' u vv vb vs:=(a.fc s.fc).mono s.mono
section
variable{F F':Nat->Prop}{h h':Hp}{cs:List Pc}{Q:fx}{u:U}{vv vb vs:V}
theorem ei.rd{α:Type}{E:nQ α}{xs:List α}{v:V}(H:ei F h cs)(i:Nat)(hi:cs[i]? =some (Yn E xs v)):ik E F h xs v:=H.ok i _ hi
structure zbq (h:Hp) (l o:Nat) (x:Vl) (w:V):Prop where
 op:ev (.ptr l (o+0)) h=some (.int .i64 x.op)
 a:ev (.ptr l (o+1)) h=some (.int .i64 x.a)
 b:ev (.ptr l (o+2)) h=some (.int .i64 x.b)
 n:ev (.ptr l (o+3)) h=some (.int .i64 x.n)
 args:ev (.ptr l (o+4)) h=some w
 st:ev (.ptr l (o+5)) h=some (.int .i64 x.state)
structure Z7 (h:Hp) (l o:Nat) (x:Bk) (v n p:V):Prop where
 ee:ev (.ptr l (o+0)) h=some v
 fin:ev (.ptr l (o+1)) h=some (.int .i64 x.fin)
 cond:ev (.ptr l (o+2)) h=some (.int .i64 x.cond)
 next:ev (.ptr l (o+3)) h=some n
 fe:ev (.ptr l (o+4)) h=some p
 st:ev (.ptr l (o+5)) h=some (.int .i64 x.state)
theorem zf.val (a:zf F h u vv vb vs){i:Nat}{x:Vl}(hx:u.ee[i]? =some x) :
  ∃l o w,F l/\gD 6 vv (.int .i64 i)=some (.ptr l o)/\gg 6 (.ptr l o) h=some (.agg (ll x w))/\ik eN F h x.args w/\zbq h l o x w:=by
 obtain⟨hi,rfl⟩:=iB.1 hx;obtain⟨l,o,w,c,d,e,⟨a,rfl,f⟩,b⟩:=a.v.ix hi .i64;exact⟨l,o,a,c,d,e,f,⟨b 0 _ rfl,b 1 _ rfl,b 2 _ rfl,b 3 _ rfl,b 4 _ rfl,b 5 _ rfl⟩⟩
theorem zf.mS (a:zf F h u vv vb vs){i:Nat}{x:Bk}(hx:u.blocks[i]? =some x) :
  ∃l o v n p,F l/\gD 6 vb (.int .i64 i)=some (.ptr l o)/\gg 6 (.ptr l o) h=some (.agg (kM x v n p))/\ik eN F h x.ee v/\ik eN F h x.next n/\ik eN F h x.fe p/\Z7 h l o x v n p:=by
 obtain⟨hi,rfl⟩:=iB.1 hx;obtain⟨l,o,w,d,e,f,⟨v,n,p,rfl,g,j,k⟩,c⟩:=a.b.ix hi .i64;exact⟨l,o,v,n,p,d,e,f,g,j,k,⟨c 0 _ rfl,c 1 _ rfl,c 2 _ rfl,c 3 _ rfl,c 4 _ rfl,c 5 _ rfl⟩⟩
theorem zf.st (a:zf F h u vv vb vs){i:Nat}{x:List Fm}(hx:u.eh[i]? =some x) :
  ∃l o f,F l/\gD 1 vs (.int .i64 i)=some (.ptr l o)/\gg 1 (.ptr l o) h=some (.agg [f])/\ev (.ptr l o) h=some f/\ik eF F h x f:=by
 obtain⟨hi,rfl⟩:=iB.1 hx;obtain⟨l,o,w,b,c,d,⟨f,rfl,e⟩,g⟩:=a.s.ix hi .i64;exact⟨l,o,f,b,c,d,g 0 f rfl,e⟩
theorem ik.frm {fs:List Fm}{f:V}(a:ik eF F h fs f){i:Nat}{x:Fm}(hx:fs[i]? =some x) :
  ∃l o a b,F l/\gD 4 f (.int .i64 i)=some (.ptr l o)/\gg 4 (.ptr l o) h=some (.agg (Nr x a b))/\ik eN F h x.locals a/\ik eN F h x.stack b:=by
 obtain⟨hi,rfl⟩:=iB.1 hx;obtain⟨l,o,w,c,d,e,⟨a,b,rfl,g,j⟩,_⟩:=a.ix hi .i64;exact⟨l,o,a,b,c,d,e,g,j⟩
theorem ik.nat {xs:List Nat}{v:V}(a:ik eN F h xs v){i x:Nat}(hx:xs[i]? =some x)(kd:IntKind):∃l o,F l/\gD 1 v (.int kd (i:Nat))=some (.ptr l o)/\ev (.ptr l o) h=some (.int .i64 x):=by
 obtain ⟨hi,rfl⟩:=iB.1 hx;obtain⟨l,o,w,b,c,d,e⟩:=a.Ts hi kd rfl;obtain rfl:w = .int .i64 (xs[i]:Nat):=by
  have:[w]=[V.int .i64 (xs[i]:Nat)]:=e;simpa using this
 exact⟨l,o,b,c,d⟩
theorem ik.int {xs:List Int}{v:V}(a:ik eZ F h xs v){i:Nat}{x:Int}(hx:xs[i]? =some x)(kd:IntKind):∃l o,F l/\gD 1 v (.int kd (i:Nat))=some (.ptr l o)/\ev (.ptr l o) h=some (.int .i64 x):=by
 obtain ⟨hi,rfl⟩:=iB.1 hx;obtain⟨l,o,w,b,c,d,e⟩:=a.Ts hi kd rfl;obtain rfl:w = .int .i64 xs[i]:=by
  have:[w]=[V.int .i64 xs[i]]:=e;simpa using this
 exact⟨l,o,b,c,d⟩
theorem ik.bool {xs:List Bool}{v:V}(a:ik eB F h xs v){i:Nat}{x:Bool}(hx:xs[i]? =some x)(kd:IntKind):∃l o,F l/\gD 1 v (.int kd (i:Nat))=some (.ptr l o)/\ev (.ptr l o) h=some (.bool x):=by
 obtain ⟨hi,rfl⟩:=iB.1 hx;obtain⟨l,o,w,b,c,d,e⟩:=a.Ts hi kd rfl;obtain rfl:w = .bool xs[i]:=by
  have:[w]=[V.bool xs[i]]:=e;simpa using this
 exact⟨l,o,b,c,d⟩
theorem ik.list {α:Type}{E:nQ α}{xs:List (List α)}{v:V}(a:ik (eL E) F h xs v){i:Nat}{x:List α}(hx:xs[i]? =some x)(kd:IntKind):∃l o w,F l/\gD 1 v (.int kd (i:Nat))=some (.ptr l o)/\ev (.ptr l o) h=some w/\ik E F h x w:=by
 obtain⟨hi,rfl⟩:=iB.1 hx;obtain⟨l,o,w,b,c,d,f,e,g⟩:=a.Ts hi kd rfl;obtain rfl:w=f:=by simpa using e
 exact⟨l,o,w,b,c,d,g⟩
theorem E6 {t:Nat}{k:IntKind}{a b:Int}{A B:Prop}(h:if a=b then B else A):oP (er .neq t (.int k a) (.int k b)) λv=>bP v A B:=by
 simp only[tX,gI,wE,Pk];by_cases e:a=b
 ·rw[if_pos e]at h;rw[if_neg (λh=>h e)];exact h
 ·rw[if_neg e]at h;rw[if_pos e];exact h
theorem Ve {t:Nat}{k:IntKind}{a b:Int}{A B:Prop}(h:if b<=a then A else B):oP (er .geq t (.int k a) (.int k b)) λv=>bP v A B:=by
 simp only[mY,gI,wE,DY];exact h
theorem Tv (a b:Nat):((a:Int) == (b:Int))=(a == b):=by
 rw[U6,CN,CN];omega
theorem gX {t:Nat}{k:IntKind}{a b:Int}{K:V->Prop}(h:K (.bool (decide (a=b)))):oP (er .eql t (.int k a) (.int k b)) K:=by
 rw[iA];have:(a == b)=decide (a=b):=by by_cases e:a=b <;> simp[e]
 rw[this];exact h
def rA (op:Nat):Nat:=if two op=true then 2 else if uD op=true then 1 else 0
theorem J0 {op:Nat}(H:Q (.int .i64 (rA op:Nat)) h):cP CS th [.int .i64 op] h Q:=by
 refine Oj rfl rfl ?_;unfold IM;have r9:∀b:Bool,(b=true->uD op=true/\two op≠true)->(b=false->uD op≠true/\two op≠true)->kH CS Q (.bool b) h:=by
  intro b o p;refine JP ?_;unfold CV;rw[gW];unfold rA at H
  cases b with
  |true=>rw[if_neg (o rfl).2,if_pos (o rfl).1]at H;exact H
  |false=>rw[if_neg (p rfl).2,if_neg (p rfl).1]at H;exact H
 have r4:∀b:Bool,b=two op->hH CS Q (.int .i64 op) (.bool b) h:=by
  intro b hb;refine J7 ?_;unfold De;rw[gW]
  cases b with
  |true=>unfold rA at H;rw[if_pos hb.symm]at H;exact H
  | false=>
    have c:two op≠true:=by rw[<-hb];simp
    rw[if_neg (by simp)];refine gX ?_;rw[gW];split
    ·rename_i e;refine r9 _ (λ_=>⟨?_,c⟩) λh=>absurd (h.symm.trans e) (by simp)
     have:op=8:=by simp at e;omega
     subst this;rfl
    rename_i d;refine gX ?_;rw[gW];split
    ·rename_i e;refine r9 _ (λ_=>⟨?_,c⟩) λh=>absurd (h.symm.trans e) (by simp)
     have:op=9:=by simp at e;omega
     subst this;rfl
    rename_i f;refine gX ?_;rw[gW];split
    ·rename_i e;refine r9 _ (λ_=>⟨?_,c⟩) λh=>absurd (h.symm.trans e) (by simp)
     have:op=15:=by simp at e;omega
     subst this;rfl
    rename_i g;refine gX ?_;rw[gW];split
    ·rename_i e;refine r9 _ (λ_=>⟨?_,c⟩) λh=>absurd (h.symm.trans e) (by simp)
     have:op=16:=by simp at e;omega
     subst this;rfl
    rename_i i;refine gX ?_;rw[gW];split
    ·rename_i e;refine r9 _ (λ_=>⟨?_,c⟩) λh=>absurd (h.symm.trans e) (by simp)
     have:op=17:=by simp at e;omega
     subst this;rfl
    rename_i j;refine gX ?_;simp at d f g i j;refine r9 _ (λe=>⟨?_,c⟩) λe=>⟨?_,c⟩
    ·have:op=22:=by simp at e;omega
     subst this;rfl
    ·have e:=of_decide_eq_false e
     intro hq;unfold uD at hq;simp only[K6,CN]at hq;omega
 have a:∀n:Nat,(op:Int)=n->(two n=true)->two op=true:=λn e h=>by
  have:op=n:=by omega
  subst this;exact h
 refine gX ?_;rw[gW];split
 ·rename_i e;exact r4 _ (e.trans (a 3 (by simpa using e) rfl).symm)
 rename_i d;refine gX ?_;rw[gW];split
 ·rename_i e;exact r4 _ (e.trans (a 4 (by simpa using e) rfl).symm)
 rename_i f;refine gX ?_;rw[gW];split
 ·rename_i e;exact r4 _ (e.trans (a 5 (by simpa using e) rfl).symm)
 rename_i g;refine gX ?_;rw[gW];split
 ·rename_i e;exact r4 _ (e.trans (a 6 (by simpa using e) rfl).symm)
 rename_i i;refine gX ?_;rw[gW];split
 ·rename_i e;exact r4 _ (e.trans (a 7 (by simpa using e) rfl).symm)
 rename_i j;refine gX ?_;rw[gW];split
 ·rename_i e;exact r4 _ (e.trans (a 10 (by simpa using e) rfl).symm)
 rename_i q;refine gX ?_;rw[gW];split
 ·rename_i e;exact r4 _ (e.trans (a 11 (by simpa using e) rfl).symm)
 rename_i r;refine gX ?_;rw[gW];split
 ·rename_i e;exact r4 _ (e.trans (a 12 (by simpa using e) rfl).symm)
 rename_i s;refine gX ?_;rw[gW];split
 ·rename_i e;exact r4 _ (e.trans (a 13 (by simpa using e) rfl).symm)
 rename_i t;refine gX ?_;rw[gW];split
 ·rename_i e;exact r4 _ (e.trans (a 14 (by simpa using e) rfl).symm)
 rename_i k;refine gX ?_;rw[gW];split
 ·rename_i e;exact r4 _ (e.trans (a 18 (by simpa using e) rfl).symm)
 rename_i l;refine gX ?_;rw[gW];split
 ·rename_i e;exact r4 _ (e.trans (a 19 (by simpa using e) rfl).symm)
 rename_i m;refine gX (r4 _ ?_);simp at d f g i j q r s t k l m;rw[U6];unfold two;simp only[DY,K6,tN,CN];omega
theorem HP {op:Nat}(H:Q (.bool (leaves op)) h):cP CS nN [.int .i64 op] h Q:=by
 refine MK rfl rfl ?_;unfold G6;have e:leaves op=(((op:Int) == 22) ||((op:Int) == 23)):=by
  unfold leaves;rw[show((op:Int) == 22)=(op == 22) from Tv op 22,show((op:Int) == 23)=(op == 23) from Tv op 23]
 simp only[iA,gI,fh,wM];rw[<-e];exact H
theorem yH {a b:Nat}(H:Q (.bool (decide (a<b))) h):cP CS jJ [.int .i64 a,.int .i64 b] h Q:=by
 refine OM rfl rfl ?_;unfold IF;simp only[mY,gI,fh,om,ji];have e:(decide ((0:Int)<=(a:Nat))&&decide (((a:Nat):Int)<(b:Nat)))=decide (a<b):=by
  rw[U6];simp only[tN,DY];omega
 rw[e];exact H
theorem Vv {xs:List Nat}{a b:V}(c:ik eN F h xs a)(hb:ik eN F h xs b)(q:xs.length<1000000000)(H:Q (.bool true) h):cP CS lH [a,b] h Q:=by
 refine B9 rfl rfl ?_;unfold ud;refine ed c.len (ed hb.len (E6 (ig rfl (ed c.len ?_))));refine zk (λk d e f g h'=>∃i:Nat,d=a/\e=b/\f = .int .i64 xs.length/\g = .int .i64 (i:Nat)/\i+k=xs.length/\h' = h) ?_ (k:=xs.length) ⟨0,rfl,rfl,rfl,rfl,by omega,rfl⟩;rintro k d e f g h' ⟨i,rfl,rfl,rfl,rfl,r,rfl⟩;unfold qM;by_cases hi:i<xs.length
 ·refine gw ?_;obtain⟨l,o,_,j,m⟩:=c.nat (gQ hi) .i64;obtain⟨s,t,_,n,p⟩:=hb.nat (gQ hi) .i64;refine ed j (ed m (ed n (ed p (E6 (ig rfl ?_)))));exact fM ⟨k-1,by omega,i+1,rfl,rfl,rfl,rfl,by omega,rfl⟩
 ·exact iC H
end
open Go.Proofs.YtpnddokajmjpbaaDoor.Un
theorem zaH:∀{l:List Nat}(h:0<l.length),l.take 1=[l[0]]
 |y::l,_=>by simp
theorem Jl (x:Vl):gJ x=([x.a,x.b].take (rA x.op))++(if x.op=20 then x.args.take 1 else if x.op=21 then x.args else[]):=by
 unfold gJ rA;by_cases c:x.op=21
 ·rw[c];simp[two,uD]
 ·rw [if_neg c];by_cases d:x.op=20
  ·rw[d];simp[two]
  ·rw [if_neg d,if_neg d,if_neg c];by_cases e:two x.op=true
   ·simp[e]
   ·by_cases f:uD x.op=true
    ·simp[e,f]
    ·simp[e,f]
section
variable{F F':Nat->Prop}{h h':Hp}{cs:List Pc}{Q:fx}{u:U}{vv vb vs:V}
theorem GM {x:Vl}(c:x.op=21\/x.op=20->x.args.length<=700):(gJ x).length<=1000:=by
 rw[Jl];by_cases b:x.op=20
 ·rw[if_pos b];simp;omega
 ·rw[if_neg b];by_cases a:x.op=21
  ·have:=c (.inl a);rw[if_pos a];simp;omega
  ·rw[if_neg a];simp;omega
theorem Nb (Z:ei F h cs){x:Vl}{c:V}(W:ik eN F h x.args c)(J:x.op=21\/x.op=20->x.args.length<=1000000)(H:∀F' h' v,Sn F h F' h'->ei F' h' cs->ik eN F' h' (gJ x) v->Q v h'):cP CS sx [.agg (ll x c)] h Q:=by
 refine PR rfl rfl ?_;unfold Jw;have o1:fV (ll x c)=true:=by simp only[ll,eJ,W.one];rfl
 rw [Cc o1,fq];obtain⟨K,L⟩:=Z.yP gy (ll x c);have n1:(h.new (.cells 42 1 true false (ll x c))).next=h.next+1:=rfl;have K:ei F (h.new (.cells 42 1 true false (ll x c))) (eo h.next gy (ll x c)::cs):=K;have L:Sn F h F (h.new (.cells 42 1 true false (ll x c))):=L;generalize h.new (.cells 42 1 true false (ll x c))=d at*;rw[DA,gY];obtain⟨w,M⟩:=K.SE (E:=eN) (xs:=[]) (ws:=[]) (n:=0) en rfl trivial rfl;have w:ei F (d.new (.cells 3 1 true false [])) (eQ eN en [] (.slice d.next 0 0)::eo h.next gy (ll x c)::cs):=w;have M:Sn F d F (d.new (.cells 3 1 true false [])):=M;have g2:(d.new (.cells 3 1 true false [])).get d.next=some (.cells 3 1 true false []):=fg _ _;have n2:(d.new (.cells 3 1 true false [])).next=d.next+1:=rfl;generalize d.new (.cells 3 1 true false [])=k at*;refine oF (w.ld 1 rfl rfl) (oF (w.ld 1 rfl rfl) ?_);rw[ZQ,gY];obtain⟨o,N⟩:=w.SE (E:=eN) (xs:=[x.a,x.b]) (ws:=gN [x.a,x.b]) (n:=2) en rfl (wo _ _ _) (Jy _);have o:ei F (k.new (.cells 3 1 true false (gN [x.a,x.b]))) (eQ eN en [x.a,x.b] (.slice k.next 0 2)::eQ eN en [] (.slice d.next 0 0)::eo h.next gy (ll x c)::cs):=o;have N:Sn F k F (k.new (.cells 3 1 true false (gN [x.a,x.b]))):=N;have X:(k.new (.cells 3 1 true false (gN [x.a,x.b]))).get k.next=some (.cells 3 1 true false (gN [x.a,x.b])):=fg _ _;have y:(k.new (.cells 3 1 true false (gN [x.a,x.b]))).get d.next=some (.cells 3 1 true false []):=(fk _ (by omega)).trans g2;generalize k.new (.cells 3 1 true false (gN [x.a,x.b]))=h3 at*;refine oF (o.ld 2 rfl rfl) ⟨⟨X,O.gL _ _ _ _ _⟩,o.ld 2 rfl rfl,o.ld 2 rfl rfl,⟨y,O.gL _ _ _ _ _⟩,?_⟩;refine J0 ⟨iW _,?_⟩;have hp:rA x.op<=2:=by
  unfold rA;split
  ·omega
  ·split <;> omega
 obtain⟨z,P,Y⟩:=o.YQ 0 rfl (n:=rA x.op) hp;refine ed P ⟨⟨X,O.gL _ _ _ _ _⟩,o.ld 2 rfl rfl,o.ld 2 rfl rfl,⟨y,O.gL _ _ _ _ _⟩,?_⟩;simp only[iO]at Y;obtain⟨i,u,R,n5,p,s5⟩:=Y.Zy 1 0 rfl rfl (jr:=8) (by decide) (by decide) (by simp;omega);have A:eR 3 1 8 (.slice d.next 0 0) z h3=some (.val i u):=R;rw[A,ef];refine⟨n5,?_⟩;simp only[kZ,iO,LG]at p;have B:=((L.trans M).trans N).trans s5;have q:ik eN F u x.args c:=(W.fc B.fc)
 have r:∀(F':Nat->Prop) (h':Hp) (v:V) (l:List Nat),Sn F u F' h'->ei F' h' (eQ eN en ([x.a,x.b].take (rA x.op)) z::eQ eN en l v::eo h.next gy (ll x c)::cs)->l=gJ x->rI CS Q v h':=by
  intro F' h' v l sF HF S;subst S;refine Lg ?_;unfold EW;obtain⟨C,D,r6⟩:=HF.kE 1 rfl;exact H _ _ v ((B.trans sF).trans D) C.tail.tail.tail r6
 refine oF (p.ld 2 rfl rfl) ?_;by_cases j:x.op=20
 ·have J:=J (.inr j);refine gO (ig (by omega) ?_);refine oF (p.ld 2 rfl rfl) (oF (p.ld 2 rfl rfl) (ed q.len (ed (Ut _ _ _ _) ?_)));have em:(if false=true then max (1:Int) (x.args.length:Nat) else min (1:Int) (x.args.length:Nat))=((min 1 x.args.length:Nat):Int):=by simp;omega
  rw[em];obtain⟨T,U,G⟩:=q.cut (lo:=none) (hi:=some (.int .i64 ((min 1 x.args.length:Nat):Int))) (m:=0) (n:=min 1 x.args.length) rfl (Eg _ _ _) (Gl _) (by omega);refine ed U ?_;rw[Ss]at G;obtain⟨f,I,s,n6,C,D⟩:=p.J8 1 rfl (jr:=8) G (by decide) (by decide) (by simp;omega);have g:eR 3 1 8 i T u=some (.val f I):=s;rw[g,ef];refine r F I f _ D C ?_;rw[Jl,if_pos j];congr 1;rcases Nat.eq_zero_or_pos x.args.length with e|e
  ·rw[Rf e];rfl
  ·rw[ZF e]
 refine gO (gG (by omega) ?_);by_cases t:x.op=21
 ·have J:=J (.inl t);refine gO (ig (by omega) ?_);refine oF (p.ld 2 rfl rfl) ?_;obtain⟨f,I,s,n6,C,D⟩:=p.J8 1 rfl (jr:=8) q (by decide) (by decide) (by simp;omega);have g:eR 3 1 8 i c u=some (.val f I):=s;rw[g,ef];refine r F I f _ D C ?_;rw[Jl,if_neg j,if_pos t]
 ·refine gO (gG (by omega) ?_);refine r F u i _ (Sn.refl _ _) p ?_;rw[Jl,if_neg j,if_neg t,Co]
def Ln (op:Nat):Bool:=two op&&op != 20
theorem B7 (J:ei F h cs){x:Vl}{f:V}(w:ik eN F h x.args f)(H:∀F' h' v,Sn F h F' h'->ei F' h' cs->ik eN F' h' (gJ x) v->Q v h'):cP CS iu [.agg (ll x f)] h Q:=by
 refine CE rfl rfl ?_;unfold uX;have K:fV (ll x f)=true:=by simp only[ll,eJ,w.one];rfl
 rw [Cc K,fq];obtain⟨c,m⟩:=J.yP gy (ll x f);have c:ei F (h.new (.cells 42 1 true false (ll x f))) (eo h.next gy (ll x f)::cs):=c;have m:Sn F h F (h.new (.cells 42 1 true false (ll x f))):=m;generalize h.new (.cells 42 1 true false (ll x f))=p at*;have g:=w.fc m.fc;have fin:∀(xs:List Nat),xs=gJ x->Q (.slice p.next 0 xs.length) (p.new (.cells 3 1 true false (gN xs))):=by
  intro xs e;obtain⟨r,y,r2⟩:=c.Wz (E:=eN) (n:=xs.length) en rfl (wo F p xs) false;have:=H _ _ _ (m.trans y) r.tail (by rw[<-e];exact r2);exact this
 have r9:∀b:Bool,(b=true->uD x.op=true/\Ln x.op≠true)->(b=false->uD x.op≠true/\Ln x.op≠true)->gZ CS Q (.ptr h.next 0) (.int .i64 x.op) (.bool b) p:=by
  intro b t L;refine Ai ?_;unfold rK;rw[gW]
  cases b with
  | true=>
    rw[if_pos rfl];obtain⟨a1,a2⟩:=t rfl;refine oF (c.ld 0 rfl rfl) ?_;rw[show iZ 3 1 1 (V.int .i64 0) [(0,V.int .i64 (x.a:Nat))]=some (.cells 3 1 true false (gN [x.a]),λl=> .slice l 0 1) from rfl,fq];refine fin [x.a] ?_;unfold Ln at a2;unfold uD at a1;unfold gJ two uD;simp only[K6,CN]at a1
    rcases a1 with((((e|e)|e)|e)|e)|e <;> rw[e] <;> rfl
  | false=>
    rw[if_neg (by simp)];obtain⟨a1,a2⟩:=L rfl;by_cases j:x.op=20
    ·refine gO (ig (by omega) ?_)
     refine oF (c.ld 0 rfl rfl) (ed g.len ?_);have z:gJ x=x.a::x.b::x.args.take 1:=by unfold gJ;rw[j];rfl
     by_cases M:x.args.length=0
     ·refine gO (ig (by omega) ?_)
      refine oF (c.ld 0 rfl rfl) (oF (c.ld 0 rfl rfl) ?_);rw[ZQ,fq];refine fin [x.a,x.b] ?_;rw[z,Rf M];rfl
     ·refine gO (gG (by omega) ?_)
      obtain⟨l,o,N,P,A⟩:=g.nat (i:=0) (gQ (by omega)) .i64;refine oF (c.ld 0 rfl rfl) (oF (c.ld 0 rfl rfl) (oF (c.ld 0 rfl rfl) (ed P (ed A ?_))));rw[show iZ 3 1 3 (V.int .i64 0) [(0,V.int .i64 (x.a:Nat)),(1,V.int .i64 (x.b:Nat)),(2,V.int .i64 (x.args[0]:Nat))]=some (.cells 3 1 true false (gN [x.a,x.b,x.args[0]]),λl=> .slice l 0 3) from rfl,gY];obtain⟨r,y⟩:=c.grow (jZ.new p (.cells 3 1 true false (gN [x.a,x.b,x.args[0]])));refine⟨⟨fg _ _,O.gL _ _ _ _ _⟩,jj A (fk _ (c.fl _ N)),r.ld 0 rfl rfl,r.ld 0 rfl rfl,r.ld 0 rfl rfl,fin [x.a,x.b,x.args[0]] ?_⟩;rw[z,zaH (show 0<x.args.length by omega)]
    refine gO (gG (by omega) ?_);by_cases s:x.op=21
    ·refine gO (ig (by omega) ?_)
     refine oF (c.ld 0 rfl rfl) ?_;refine H _ _ _ m c.tail ?_;have:gJ x=x.args:=by unfold gJ;rw[if_pos s]
     rw[this];exact g
    ·refine gO (gG (by omega) ?_)
     refine H _ _ _ m c.tail ?_;have:gJ x=[]:=by
       unfold gJ;rw[if_neg s,if_neg j,if_neg,if_neg a1];intro e;apply a2;unfold Ln;rw[e];simpa using j
     rw[this];exact .nil
 have r4:∀b:Bool,b=Ln x.op->fQ CS Q (.ptr h.next 0) (.int .i64 x.op) (.bool b) p:=by
  intro b hb;refine Ah ?_;unfold rZ;rw[gW]
  cases b with
  | true=>
    rw[if_pos rfl];refine oF (c.ld 0 rfl rfl) (oF (c.ld 0 rfl rfl) ?_);rw[ZQ,fq];refine fin [x.a,x.b] ?_;unfold Ln at hb;have hb:=hb.symm;rw[tN,Pk]at hb;unfold gJ;rw[if_neg,if_neg hb.2,if_pos hb.1];intro e;rw[e]at hb
    exact absurd hb.1 (by decide)
  | false=>
    have k:Ln x.op≠true:=by rw[<-hb];simp
    rw[if_neg (by simp)];refine gX ?_;rw[gW];split
    ·rename_i e;refine r9 _ (λ_=>⟨?_,k⟩) λh=>absurd (h.symm.trans e) (by simp)
     have:x.op=8:=by simp at e;omega
     rw[this];rfl
    rename_i B;have B:x.op≠8:=λe=>B (by rw[e];rfl);refine gX ?_;rw[gW];split
    ·rename_i e;refine r9 _ (λ_=>⟨?_,k⟩) λh=>absurd (h.symm.trans e) (by simp)
     have:x.op=9:=by simp at e;omega
     rw[this];rfl
    rename_i C;have C:x.op≠9:=λe=>C (by rw[e];rfl);refine gX ?_;rw[gW];split
    ·rename_i e;refine r9 _ (λ_=>⟨?_,k⟩) λh=>absurd (h.symm.trans e) (by simp)
     have:x.op=15:=by simp at e;omega
     rw[this];rfl
    rename_i D;have D:x.op≠15:=λe=>D (by rw[e];rfl);refine gX ?_;rw[gW];split
    ·rename_i e;refine r9 _ (λ_=>⟨?_,k⟩) λh=>absurd (h.symm.trans e) (by simp)
     have:x.op=16:=by simp at e;omega
     rw[this];rfl
    rename_i G;have G:x.op≠16:=λe=>G (by rw[e];rfl);refine gX ?_;rw[gW];split
    ·rename_i e;refine r9 _ (λ_=>⟨?_,k⟩) λh=>absurd (h.symm.trans e) (by simp)
     have:x.op=17:=by simp at e;omega
     rw[this];rfl
    rename_i I;have I:x.op≠17:=λe=>I (by rw[e];rfl);refine gX ?_;refine r9 _ (λe=>⟨?_,k⟩) λe=>⟨?_,k⟩
    ·have:x.op=22:=by simp at e;omega
     rw[this];rfl
    ·have e:=of_decide_eq_false e
     intro hq;unfold uD at hq;simp only[K6,CN]at hq;omega
 have d:∀n:Nat,(x.op:Int)=n->(Ln n=true)->Ln x.op=true:=λn e h=>by
  have:x.op=n:=by omega
  rw[this];exact h
 refine oF (c.ld 0 rfl rfl) ?_;refine gX ?_;rw[gW];split
 ·rename_i e;exact r4 _ (e.trans (d 3 (by simpa using e) rfl).symm)
 rename_i R;refine gX ?_;rw[gW];split
 ·rename_i e;exact r4 _ (e.trans (d 4 (by simpa using e) rfl).symm)
 rename_i S;refine gX ?_;rw[gW];split
 ·rename_i e;exact r4 _ (e.trans (d 5 (by simpa using e) rfl).symm)
 rename_i T;refine gX ?_;rw[gW];split
 ·rename_i e;exact r4 _ (e.trans (d 6 (by simpa using e) rfl).symm)
 rename_i U;refine gX ?_;rw[gW];split
 ·rename_i e;exact r4 _ (e.trans (d 7 (by simpa using e) rfl).symm)
 rename_i W;refine gX ?_;rw[gW];split
 ·rename_i e;exact r4 _ (e.trans (d 10 (by simpa using e) rfl).symm)
 rename_i X;refine gX ?_;rw[gW];split
 ·rename_i e;exact r4 _ (e.trans (d 11 (by simpa using e) rfl).symm)
 rename_i Y;refine gX ?_;rw[gW];split
 ·rename_i e;exact r4 _ (e.trans (d 12 (by simpa using e) rfl).symm)
 rename_i Z;refine gX ?_;rw[gW];split
 ·rename_i e;exact r4 _ (e.trans (d 13 (by simpa using e) rfl).symm)
 rename_i f8;refine gX ?_;rw[gW];split
 ·rename_i e;exact r4 _ (e.trans (d 14 (by simpa using e) rfl).symm)
 rename_i f9;refine gX ?_;rw[gW];split
 ·rename_i e;exact r4 _ (e.trans (d 18 (by simpa using e) rfl).symm)
 rename_i u;refine gX (r4 _ ?_);rw[U6];unfold Ln two;simp only[DY,K6,tN,CN,Pk];constructor
 ·intro e;omega
 ·intro e;have q:∀n:Nat,¬decide ((x.op:Int)=(n:Nat))=true->x.op≠n:=λn h e=>h (by rw[e];simp);have k0:=q 3 R;have k1:=q 4 S;have k2:=q 5 T;have k3:=q 6 U;have k4:=q 7 W;have k5:=q 10 X;have k6:=q 11 Y;have k7:=q 12 Z;have k8:=q 13 f8;have k9:=q 14 f9;have aa:=q 18 u;omega
end
open Go.Proofs.YtpnddokajmjpbaaDoor.Un
theorem fK{X:Option V}{K:V->Prop}(h:oP X K):oP (fO false (.bool false)) λb=>oP (gV b X) K:=h
theorem fY{X:Option V}{K:V->Prop}(h:oP X K):oP (fO true (.bool true)) λb=>oP (gV b X) K:=h
theorem gz{X:Option V}{K:V->Prop}(h:K .undef):oP (fO true (.bool false)) λb=>oP (gV b X) K:=h
theorem TO{X:Option V}{K:V->Prop}(h:K .undef):oP (fO false (.bool true)) λb=>oP (gV b X) K:=h
theorem xi{C:fu}{f:Nat}{a:List V}{h:Hp}{K:fx}(H:cP C f a h K):oP (fO false (.bool false)) λb=>oP (gC b (some (f,a))) λy=>wR C y h K:=H
theorem zR{C:fu}{f:Nat}{a:List V}{h:Hp}{K:fx}(H:cP C f a h K):oP (fO true (.bool true)) λb=>oP (gC b (some (f,a))) λy=>wR C y h K:=H
theorem Cr{C:fu}{f:Nat}{a:List V}{h:Hp}{K:fx}(H:K .undef h):oP (fO true (.bool false)) λb=>oP (gC b (some (f,a))) λy=>wR C y h K:=H
theorem pj {b:Bool}{A B:Prop}(h:if b=true then B else A):oP (sr .not (.bool b)) λv=>bP v A B:=by
 cases b <;> exact h
theorem Wl{b:Bool}{K:V->Prop}(h:K (.bool (!b))):oP (sr .not (.bool b)) K:=h
section
variable{F F':Nat->Prop}{h h':Hp}{cs:List Pc}{Q:fx}{u:U}{vv vb vs:V}
theorem iK {T n:Nat}{b ws:List V}{K:fx}(H:ei F h cs)(d:b.length=n)(e:ws.length=n)(c:fV ws=true)(f:∀a,ei F a (eo h.next T ws::cs)->Sn F h F a->K (.ptr h.next 0) a) :
  ij (some (O.cells T 1 true false b,λl=>V.ptr l 0)) h λv c=>fm (gB n v (.agg ws) c) λ_ a=>K v a:=by
 rw[fq];obtain⟨g,i⟩:=H.yP T b;obtain⟨a,j,_,k,m⟩:=g.VI 0 rfl e d c;rw[j,ef];exact f a k (i.trans m)
theorem mf {T:Nat}{ws:List V}{K:fx}(H:ei F h cs)(b:fV ws=true)(c:∀a,ei F a (eo h.next T ws::cs)->Sn F h F a->K (.ptr h.next 0) a):ij (nP T (.agg ws)) h K:=by
 rw[Cc b,fq];obtain⟨d,e⟩:=H.yP T ws;exact c _ d e
theorem Y3 {T:Nat}(xs:List Nat){ps:Option (O×(Nat->V))}(hx:ps=some (O.cells T 1 true false (gN xs),λl=> .slice l 0 xs.length)){K:fx}(H:ei F h cs)
  (b:∀F' a v,ei F' a cs->Sn F h F' a->ik eN F' a xs v->K v a):ij ps h K:=by
 subst hx;rw[fq];obtain⟨c,d,r1⟩:=H.Wz (E:=eN) T rfl (wo F h xs) false;exact b _ _ _ c d r1
theorem oI{T:Nat}(x:Nat):iZ T 1 1 (V.int .i64 0) [(0,V.int .i64 x)]=some (.cells T 1 true false (gN [x]),λl=> .slice l 0 1):=rfl
structure Ck (F:Nat->Prop) (h:Hp) (cs:List Pc) (lc:Nat) (u:U) (vv vb vs bl pl DD:V):Prop where
 H:ei F h cs
 c:∃(i ty:Nat),cs[i]? =some (eo lc ty [.int .i64 u.func,.int .i64 u.pc,vv,vb,vs,bl,pl,DD])
 u:zf F h u vv vb vs
variable{lc:Nat}{bl pl DD:V}
theorem Ck.since (C:Ck F h cs lc u vv vb vs bl pl DD)(s:Sn F h F' h')(a:ei F' h' cs):Ck F' h' cs lc u vv vb vs bl pl DD:=⟨a,C.c,C.u.since s⟩
theorem Ck.cons (C:Ck F h cs lc u vv vb vs bl pl DD)(s:Sn F h F' h'){p:Pc} (a:ei F' h' (p::cs)):Ck F' h' (p::cs) lc u vv vb vs bl pl DD:=
 ⟨a,let⟨i,ty,hc⟩:=C.c;⟨i+1,ty,hc⟩,C.u.since s⟩
theorem Ck.ld (C:Ck F h cs lc u vv vb vs bl pl DD)(o:Nat){y:V}(a:[.int .i64 u.func,.int .i64 u.pc,vv,vb,vs,bl,pl,DD][o]? =some y):ev (.ptr lc o) h=some y:=
 let⟨i,_,hc⟩:=C.c;C.H.ld i hc a
theorem KL {a0 c:V}{n:Nat}(m:n<1000000)(P:(Nat->Prop)->Hp->Prop)(h0:P F h)
  (step:∀i,i<n->∀F' h',P F' h'->∀e:V->Hp->Prop,(∀a b,P a b->e (.bool true) b)->gU CS (fU c [.int .i64 (i:Nat)]) h' e) (H:∀F' h',P F' h'->Q (.bool true) h') :
  cP CS jh [a0,.int .i64 n,c] h Q:=by
 refine GY rfl rfl ?_;unfold zN;refine CX (λk f g j h'=>∃(F':Nat->Prop) (i:Nat),f = .int .i64 n/\g=c/\j = .int .i64 i/\i+k=n/\P F' h') ?_ (k:=n) ⟨F,0,rfl,rfl,rfl,by omega,h0⟩;rintro k f g j h' ⟨F',i,rfl,rfl,rfl,o,l⟩;unfold wz;by_cases hi:i<n
 ·refine gw ?_;refine step i hi F' h' l _ λa b d=>?_;refine pj (ig rfl ?_);exact fM ⟨k-1,by omega,a,i+1,rfl,rfl,rfl,by omega,d⟩
 ·exact iC (H F' h' l)
theorem Ga (C:Ck F h cs lc u vv vb vs bl pl DD){l:List Nat}{v:V}(b:ik eN F h l v)(q:l.length<1000000)(g:∀w∈l,tI u w)(H:Q (.bool true) h):cP CS iI [.ptr lc 0,v] h Q:=by
 refine EG rfl rfl ?_;unfold xz;refine ed b.len ?_;refine Cf (λk c d e f h'=>∃i:Nat,c = .ptr lc 0/\d=v/\e = .int .i64 l.length/\f = .int .i64 (i:Nat)/\i+k=l.length/\h' = h) ?_ (k:=l.length) ⟨0,rfl,rfl,rfl,rfl,by omega,rfl⟩;rintro k c d e f h' ⟨i,rfl,rfl,rfl,rfl,r,rfl⟩;unfold uR;by_cases hi:i<l.length
 ·refine gw ?_;obtain⟨l1,s,_,j,m⟩:=b.nat (gQ hi) .i64;obtain⟨x,hx,gx⟩:=g _ (AO hi);have a:=(iB.1 hx).1;refine ed j (ed m (ed (fT _ _) (ed (ez _ _ _) (oF (C.ld 2 rfl) (ed C.u.v.len ?_)))));refine yH (pj (ig (by simpa using a) ?_));obtain⟨l2,t,y,_,n,_,_,o⟩:=C.u.val hx;refine ed (fT _ _) (ed (ez _ _ _) (oF (C.ld 2 rfl) (ed n (oF o.op ?_))));have p:x.op<19\/x.op=21:=by
   unfold EM at gx;simpa using gx
  refine gX (jH (gG (by simp;omega) ?_));refine gX (jH (gG (by simp;omega) ?_));refine gX (jH (gG (by simp;omega) ?_));refine gX ?_;rw[K3 (by omega)];refine Bl ?_;unfold sV;refine jH (gG (by simp) ?_);exact fM ⟨k-1,by omega,i+1,rfl,rfl,rfl,rfl,by omega,rfl⟩
 ·exact iC H
theorem UF (C:Ck F h cs lc u vv vb vs bl pl DD){i:Nat}{fs:List Fm}(hs:u.eh[i]? =some fs)(G:1<=fs.length/\fs.length<=30)(x:∀f∈fs,f.locals.length<=40/\f.stack.length<=60/\(∀v∈f.locals,tI u v)/\∀v∈f.stack,tI u v)
  (H:∀h',Sn F h F h'->ei F h' cs->Q (.bool true) h'):cP CS kY [.ptr lc 0,.int .i64 i] h Q:=by
 refine EJ rfl rfl ?_;unfold xI;obtain⟨l1,I,f,_,y,z,_,q⟩:=C.u.st hs;refine ed (fT _ _) (ed (ez _ _ _) (oF (C.ld 4 rfl) (ed y (ed z ?_))));refine iK C.H rfl rfl (by simp[q.one]) λJ n r=>?_;have r2:=q.since r;refine oF (n.ld 0 rfl rfl) (ed r2.len (gX ?_));rw[K3 (by omega),nq,ez,fh,n.ld 0 (o:=0+0) rfl rfl,fh,r2.len,fh,pU];refine ed rfl (jH (gG (by simp;omega) ?_));refine oF (n.ld 0 rfl rfl) (ed r2.len ?_);have C2:=C.since r n.tail
 refine Cb (λk w c d e h'=>∃j:Nat,w = .ptr lc 0/\c=f/\d = .int .i64 fs.length/\e = .int .i64 (j:Nat)/\j+k=fs.length/\Sn F h F h'/\Ck F h' cs lc u vv vb vs bl pl DD) ?_ (k:=fs.length)
  ⟨0,rfl,rfl,rfl,rfl,by omega,r,C2⟩
 rintro k w c d e h' ⟨j,rfl,rfl,rfl,rfl,K,s,t⟩;unfold ue;by_cases hj:j<fs.length
 ·refine gw ?_;obtain⟨l3,L,a,b,_,A,B,g,l⟩:=(q.since s).frm (gQ hj);refine ed A (ed B ?_);obtain⟨M,N,D,E⟩:=x _ (AO hj);refine iK t.H rfl rfl (by simp only[Nr,eJ,g.one,l.one];rfl) λO m p=>?_;have g:=g.since p;have l:=l.since p;have C3:=t.since p m.tail;refine oF (m.ld 0 rfl rfl) (ed g.len ?_);refine ed (pU _ _ _ _) ?_;rw[K3 (by omega),nq,ez,fh,m.ld 0 (o:=0+3) rfl rfl,fh,l.len,fh,pU,K3 (by omega)];refine ed rfl (fK (ed rfl (fK (ed (ez _ _ _) (fK (ed (m.ld 0 rfl rfl) (xi ?_)))))));refine Ga C3 g (by omega) D (ed rfl (fK (ed rfl (fK (ed (ez _ _ _) (fK (ed (m.ld 0 rfl rfl) (xi ?_))))))));refine Ga C3 l (by omega) E (ed rfl (jH (gG (by simp) ?_)));exact fM ⟨k-1,by omega,j+1,rfl,rfl,rfl,rfl,by omega,s.trans p,C3⟩
 ·exact iC (H h' s t.H)
end
