/- Parts. -/
import Derived.Test.YtpfjdlicdljhaaaDoorM12
set_option maxHeartbeats 4000000
namespace Go.Proofs.YtpfjdlicdljhaaaDoor.Un
open Dm
def U6(nx:Nat->List Nat)(n b:Nat):List Nat:=(List.range n).flatMap λi=>((nx i).filter (·= b)).map λ_=>i
inductive Pn (nx:Nat->List Nat) (n:Nat):Nat->List Nat->Prop
 |nil:Pn nx n 0 [0]
 |step {p b:Nat} {l:List Nat} (h:Pn nx n p l) (a:p<n) (e:b∈nx p):Pn nx n b (b::l)
structure Gh (D:Nat->Nat) (pr nx:Nat->List Nat) (hi:Nat):Prop where
 tree:∀p b,p<hi->b∈nx p->b<=hi/\b≠0/\nL D (D b) p
 down:∀b,b≠0->b<=hi->D b<b
 c8:∀b,b<=hi->pr b=U6 nx hi b
 reach:∀b,b<=hi->∃l,Pn nx hi b l
 GJ:∀p,p<hi->(nx p).length=2->∀t∈nx p,(pr t).length=1
section
variable{D D':Nat->Nat}{pr nx pr' nx':Nat->List Nat}{E:Nat->Prop}{t:Dt}
end
def ext{α:Type}(hi:Nat)(f:Nat->α)(g:Nat->α):Nat->α:=λb=>if b<=hi then f b else g (b-hi)
section
variable{D:Nat->Nat}{pr nx:Nat->List Nat}{hi:Nat}
def dF(hi:Nat)(k:Nat):Nat:=hi
end
open Dm
def t0(s:Ds):Dt:=⟨s,[],[]⟩
structure Ps (s:Ds) (i:Nat):Prop where
 cR:s.cR.length=i
 all:∀(v:Nat) (x:Vl),s.cR[v]? =some x->x=vl 1 0 0 (v:Nat) [] 0
 cur:s.cur=List.range i
 known:s.known=List.range i
 cZ:s.cZ=[]
open Dm
section
variable{u:U}(hc:u.blocks.flatMap (λB=>B.cR)=List.range u.cR.length)
include hc
end
structure Sz (s s':Ds):Prop where
 cR:s.cR.length<=s'.cR.length
 cZ:s'.cZ.length+s.cR.length<=s.cZ.length+s'.cR.length
structure Big (t:Dt) (m:Nat):Prop where
 cR:t.s.cR.length<=210
 cZ:t.s.cZ.length<=t.s.cR.length+t.blocks.length
 blocks:t.blocks.length<=m
open Dm
open Dm
def Uy(u:U) (v:Nat):Bool:=match u.cR[v]? with
 |some x=>fm x.op
 |none=>false
def QA(u:U) (b:Nat):List Nat:=match u.blocks[b]? with
 |some B=>B.cR
 |none=>[]
def Vf(u:U)(t w:Nat):Prop:=w∈QA u t/\Uy u w=true
def La(u:U) (s:Nat):List Nat:=match u.cZ[s]? with
 |some fs=>ff fs
 |none=>[]
def X5(u:U) (v:Nat):List Nat:=match u.cR[v]? with
 |some x=>fu x++(if leaves x.op=true then La u x.state else[])
 |none=>[]
def ln(In H:Nat->Nat->Prop):List Nat->(Nat->Prop)->Nat->Prop
 |[],P=>P
 |t::ts,P=>ln In H ts λw=>(P w\/In t w)/\¬H t w
def Sr(u:U)(b w:Nat):Prop:=∃t∈next u b,∃(B:Bk) (v:Nat) (x:Vl) (j:Nat),u.blocks[t]? =some B/\v∈B.cR/\u.cR[v]? =some x/\x.op=21/\B.c8[j]? =some b/\x.args[j]? =some w
def SS(u:U)(b w:Nat):Prop:=∃B:Bk,u.blocks[b]? =some B/\(B.fin=2/\w=B.cond\/B.fin=3/\w∈La u B.state)
def Xf(u:U)(H In:Nat->Nat->Prop)(b w:Nat):Prop:=ln In H (next u b) (λ_=>False) w\/Sr u b w\/SS u b w
def bk(u:U):List Nat->(Nat->Prop)->Nat->Prop
 |[],P=>P
 |v::r,P=>if Uy u v=true then P else bk u r λw=>(P w/\w≠v)\/w∈X5 u v
def Ug(u:U)(b:Nat)(O:Nat->Prop):Nat->Prop:=bk u (QA u b).reverse O
def Tr(u:U)(H In:Nat->Nat->Prop)(b:Nat):Nat->Prop:=Ug u b (Xf u H In b)
structure ZS (u:U) (H In:Nat->Nat->Prop):Prop where
 up:∀b w,In b w->Tr u H In b w
 least:∀X:Nat->Nat->Prop,(∀b w,b<u.blocks.length->Tr u H X b w->X b w)->∀b w,In b w->X b w
structure XZ (u:U) (H In Out:Nat->Nat->Prop):Prop where
 out:∀b w,b<u.blocks.length->(Out b w↔Xf u H In b w)
 IS:∀b w,b<u.blocks.length->(In b w↔Ug u b (Out b) w)
 least:∀X:Nat->Nat->Prop,(∀b w,b<u.blocks.length->Tr u H X b w->X b w)->∀b w,In b w->X b w
section
variable{u:U}(g:Good u)
include g
theorem Good.Qw{p b:Nat} (h:b∈next u p):p<u.blocks.length/\b<u.blocks.length/\b≠0:=by
 refine⟨?_,g.nx p b h,λe=>?_⟩
 ·grind[next,gL]
 ·subst e;have:=pD.2 h;rw[g.uG]at this;cases this
variable{In Out:Nat->Nat->Prop}(h:XZ u (Vf u) In Out)
include h
end
