/- Parts. -/
import Derived.Test.YtnehpeeglbgfpaaDoorM39
import Derived.Test.YtnehpeeglbgfpaaDoorM41
import Derived.Test.YtnehpeeglbgfpaaDoorM35
set_option maxHeartbeats 4000000
namespace Go.Proofs.YtnehpeeglbgfpaaDoor.Hx
open Un Dm
theorem XP{F F':Nat->Prop} {h h':Hp}:∀{ds:List V}{xs:List Bool},mE eB F h ds xs->mE eB F' h' ds xs
 |_,[],_=>trivial
 |_,_::_,⟨w,r,a,b,c⟩=>⟨w,r,a,b,XP c⟩
def Sx(n:Nat)(outs:List (List Bool×Nat))(fR:V):Pc where
 me l:=Loc fR l\/∃(j:Nat) (x:List Bool×Nat),n<=j/\outs[j]? =some x/\l=x.2
 ok F h:=(∃t ds,fR = .slice t 0 outs.length/\t<h.next/\¬F t/\h.get t=some (.cells fL 1 true false ds)/\(∀(j:Nat) (x:List Bool×Nat),outs[j]? =some x->ds[j]? =some (.slice x.2 0 x.1.length))/\∀(j:Nat) (x:List Bool×Nat),n<=j->outs[j]? =some x->x.2≠t)/\
  (∀(j:Nat) (x:List Bool×Nat),n<=j->outs[j]? =some x->jF eB fx F h x.1 (.slice x.2 0 x.1.length))/\∀(i j:Nat) (x y:List Bool×Nat),n<=i->n<=j->i≠j->outs[i]? =some x->outs[j]? =some y->x.2≠y.2
 I8:=by
  rintro F h ⟨⟨t,ds,rfl,c,g,_⟩,d,_⟩ l (e|⟨j,x,a,b,rfl⟩)
  ·cases e;exact⟨c,g⟩
  ·exact(d j x a b).tu rfl|>.2
 eD:=by
  rintro F h h' ⟨⟨t,ds,rfl,c,g,d,k,m⟩,o,p⟩ q f r;exact⟨⟨t,ds,rfl,zr c r,g,(f t (.inl rfl)).trans d,k,m⟩,λj x a b=>(o j x a b).eD q (λl e=>f l (.inr ⟨j,x,a,b,e.symm⟩)) r,p⟩
 mono:=by
  rintro F F' h ⟨⟨t,ds,rfl,c,g,d,k,m⟩,o,p⟩ q f;exact⟨⟨t,ds,rfl,c,f t (.inl rfl),d,k,m⟩,λj x a b=>(o j x a b).mono q (λl e=>f l (.inr ⟨j,x,a,b,e.symm⟩)),p⟩
section
variable{F F':Nat->Prop}{h h':Hp}{cs:List Pc}{Q:fm}{u:U}{vv vb vs fR:V}{outs:List (List Bool×Nat)}
theorem er.U7{n:Nat}(H:er F h (Sx n outs fR::cs)){x:List Bool×Nat}(f:outs[n]? =some x) :
  er F h (fo eB fx x.1 (.slice x.2 0 x.1.length)::Sx (n+1) outs fR::cs)/\∃l o,gy 1 fR (.I n)=some (.ptr l o)/\en (.ptr l o) h=some (.slice x.2 0 x.1.length):=by
 obtain⟨⟨t,ds,e,u,v,k,m,q⟩,r,s⟩:=H.ok 0 _ rfl;have w:=(jw.1 f).1
 have z:er F h (Sx (n+1) outs fR::cs):=H.swap (i:=0) rfl (p:=Sx (n+1) outs fR)
  ⟨⟨t,ds,e,u,v,k,m,λj x a b=>q j x (by omega) b⟩,λj x a b=>r j x (by omega) b,λi j x y a b=>s i j x y (by omega) (by omega)⟩ λl g=>g.imp id λ⟨j,x,a,b⟩=>⟨j,x,by omega,b⟩
 refine⟨z.cons (p:=fo eB fx x.1 (.slice x.2 0 x.1.length)) (r n x (jn _) f) λi c hc l g d=>?_,t,n,?_,?_⟩
 ·have g:x.2=l:=g;subst g
  cases i with
  | zero=>
    cases hc;rcases d with d|⟨j,y,a,b,e'⟩
    ·rw[e]at d
     exact q n x (jn _) f (show t=x.2 from d).symm
    ·exact s n j x y (jn _) (by omega) (by omega) f b e'
  |succ i=>exact H.B5 0 (i+1) _ c rfl hc (by omega) x.2 (.inr ⟨n,x,jn _,f,rfl⟩) d
 ·rw[e,vX _ _ _ _ _ _ w,EM,Uv]
 ·exact js k (m n x f)
theorem LD(g:Good u)(N:0<u.ee.length)(r:er F h cs)(O:Af F h u vv vb vs)
  (H:∀h' iT fR outs In,Sn F h F h'->er F h' (Sx 0 outs fR::cs)->Jv u (o1 outs)->lR u (gw u) In (iz (o1 outs))->Q (.tuple [iT,fR]) h') :
  cP CS jP [.agg (uC u vv vb vs)] h Q:=by
 have P:er F h [Zw (λl=>l<h.next/\¬F l) h]:=(er.nil r.fl).cons (λl f=>⟨rfl,f.1,f.2⟩) λi c hc=>by cases hc
 refine NH g P O λF' h' iT fR ins outs s A v R m S=>?_;have k:=v.ok 1 _ rfl;have T:AO h h':=⟨s.next,λl f _=>by
  by_cases n:F l
  ·exact s.eD l n
  ·exact(k l ⟨f,n⟩).1⟩
 obtain ⟨U,V⟩:=r.grow T;have hlen:outs.length=u.blocks.length:=(Ix outs).symm.trans m.len;have pe:∀x∈outs,x.1≠[]:=λx d e=>by
  have:=m.row x.1 (by unfold o1;exact Sy.2 ⟨x,d,rfl⟩);rw[e]at this;simp at this;omega
 refine H h' iT fR outs (iz ins) V ?_ m S;rcases v.row 0 rfl with⟨_,rfl⟩|⟨t,ds,rfl,W,z,X,Y,h5⟩
 ·have:=g.Oz;simp at hlen;omega
 have o:∀l,¬F l->¬(l<h.next/\¬F l)->h.next<=l:=λl a b=>by
  rcases Ji l h.next with c|c
  ·exact absurd ⟨c,a⟩ b
  ·exact c
 have ht:h.next<=t:=o t (λn=>z (s.mono t n)) λB=>v.B5 0 1 _ _ rfl rfl (by omega) t rfl B;have q:∀(j:Nat) (x:List Bool×Nat),outs[j]? =some x->ds[j]? =some (.slice x.2 0 x.1.length)/\h.next<=x.2/\F' x.2/\jF eB fx F h' x.1 (.slice x.2 0 x.1.length):=λj x d=>by
  obtain⟨E,rfl⟩:=jw.1 d;obtain⟨w,G,Z,g3⟩:=Y.get (iH E);have C:=Cj E;have e1:LH.sz=1:=rfl;rw[e1,Uv]at G Z;rcases g3 with⟨g4,_⟩|⟨es,rfl,I,J,g7,g8⟩
  ·exact absurd g4 (pe _ C)
  ·have K:=A.new _ C (pe _ C);refine⟨?_,o _ K λB=>(k _ B).2.2 I,I,.inr ⟨_,es,rfl,Hp.wj J,K,J,XP g7,g8⟩⟩;have L:((ds.drop j).take 1)[0]? =some (.slice outs[j].2 0 outs[j].1.length):=by rw[G];rfl
   rw[Vo (by omega),V0,SH]at L;exact L
 refine U.cons (p:=Sx 0 outs (.slice t 0 outs.length)) ⟨⟨t,ds,rfl,W,λn=>z (s.mono t n),X,λj x d=>(q j x d).1,λj x _ d e=>z (e▸(q j x d).2.2.1)⟩,λj x _ d=>(q j x d).2.2.2,
  λi j x y _ _ hn d M=>A.B5 i j x y d M hn (pe x (xu d)) (pe y (xu M))⟩ λi c hc l f D=>?_
 have aa:=(c.I8 (r.ok i c hc) l D).1;rcases f with f|⟨j,x,_,d,rfl⟩
 ·have:t=l:=f;omega
 ·have:=(q j x d).2.1;omega
end
open Un Dm
section
variable{F F':Nat->Prop}{h h':Hp}{cs:List Pc}{Q:fm}{u:U}{vv vb vs:V}
end
open Un Dm
section
variable{F F':Nat->Prop}{h h':Hp}{cs:List Pc}{Q:fm}
theorem PR(H:Q (.bool true) h):cP CS kW [] h Q:=by
 obtain⟨fn,c,a,b⟩:=Jq;exact cP.known a b (show CS.K kW [] h=some (.bool true) from rfl) rfl rfl H
end
