/- Parts. -/
import Derived.Test.YtloecllhljfidaaDoorM41
import Derived.Test.YtloecllhljfidaaDoorM55
import Derived.Test.YtloecllhljfidaaDoorM49
import Derived.Test.YtloecllhljfidaaDoorM48
set_option maxHeartbeats 4000000
namespace Go.Proofs.YtloecllhljfidaaDoor.Hx
open Un Dm
abbrev Hr:Nat:=65
section
variable{F F':Nat->Prop}{h h':Hp}{cs ds:List Pc}{Q:fq}{u:U}{vv vb vs iQ:V}{az:List Int}{lf:Nat}
abbrev Fo(lf:Nat) (u:U) (vv vb vs iQ:V) (az:List Int) (ds:List Pc):List Pc:=
 er lf Hr [.I u.func,.I u.pc,vv,vb,vs,iQ]::ev eV gi u.ef vv::ev eK fo u.blocks vb::ev eZ en az iQ::ds
theorem HX{b:Bool}(H:Q (.int .u64 (B7 b)) h):cP CS nY [.bool b] h Q:=by
 refine RC rfl rfl ?_;unfold KM;cases b
 ·exact jF (gv (by simp) H)
 ·exact jF (gI rfl H)
theorem Uu{op:Nat}{a b:Int}(g:Fx .u64 a)(hb:Fx .u64 b)(e:op=6\/op=7)(H:Q (.int .u64 (CC op a b)) h):cP CS vP [.I op,.I (wQ a),.I (wQ b)] h Q:=by
 refine Mv rfl rfl ?_;unfold Ft;have f:∀d:Int,(d=0↔wQ b=0)->(d≠0->op=6->tm ((wQ a).tdiv d)=CC 6 a b)->(d≠0->op=7->tm ((wQ a).tmod d)=CC 7 a b)->qe CS Q [.I op,.I (wQ a),.I d] h:=λd h0 i j=>by
  refine I0 ?_;unfold AM;refine gM ?_;by_cases z:d=0
  ·refine gI z ?_;have z:=h0.1 z;rw[show CC op a b=0 by rcases e with rfl|rfl <;> simp[CC,z]]at H;exact H
  refine gv z (gM ?_);have hq:eJ .quo 2 (.I (wQ a)) (.I d)=some (.I (mb .i64 ((wQ a).tdiv d))):=by
   cases d with
   | ofNat n=>cases n with
     |zero=>exact absurd rfl z
     |succ n=>rfl
   |negSucc n=>rfl
  have k:eJ .rem 2 (.I (wQ a)) (.I d)=some (.I ((wQ a).tmod d)):=by
   cases d with
   | ofNat n=>cases n with
     |zero=>exact absurd rfl z
     |succ n=>rfl
   |negSucc n=>rfl
  rcases e with rfl|rfl
  ·refine gI rfl (ed hq (ed (by rw[yg]) ?_));rw[FN,ri];have:tm (IntKind.i64.wrap ((wQ a).tdiv d))=tm ((wQ a).tdiv d):=by
    simp only[IntKind.wrap,IntKind.signed,IntKind.bits,Yl,D1,Nat.reduceSub,Int.reducePow,tm];split <;> omega
   rw[this,i z rfl];exact H
  ·refine gv (by omega) (ed k (ed (by rw[yg,FN]) ?_));rw[j z rfl];exact H
 refine ed (ie ..) (ed (a:= .bool (decide (wQ a = -9223372036854775808/\wQ b = -1))) ?_ (jF ?_))
 ·simp only[fy,ie,jD];congr 2;rw[Th,uF,EE,EE,D1]
 simp only[Fx]at g hb;by_cases c:wQ a = -9223372036854775808/\wQ b = -1
 ·refine gI (O7 c) (f 1 ⟨λh=>by omega,λh=>by omega⟩ (λ_ _=>?_) λ_ _=>?_)
  ·rw[Int.tdiv_one];simp only[CC,c.2];simp;have:=c.1;unfold wQ at this;unfold tm;split at this <;> omega
  ·simp[CC,c.2,tm]
 ·refine gv (by rw[D1];exact c) (f (wQ b) Iff.rfl (λz _=>?_) λz _=>?_)
  ·by_cases z1:wQ b = -1
   ·simp[CC,z1];unfold tm wQ;split <;> omega
   ·simp[CC,z,z1]
  ·by_cases z1:wQ b = -1
   ·simp[CC,z1,tm]
   ·simp[CC,z,z1]
theorem zbo{op:Nat}{a b:Int}(d:Fx .u64 a)(hb:Fx .u64 b)(f:3<=op/\op<=14)(H:Q (.int .u64 (CC op a b)) h):cP CS BA [.I op,.int .u64 a,.int .u64 b] h Q:=by
 refine R0 rfl rfl ?_;unfold LK;refine ed (by rw[yg,Sk d]) (ed (by rw[yg,Sk hb]) ?_);have e0:∀n:Nat,op=n->CC op a b=CC n a b:=λn h=>by rw[h]
 refine gM ?_;by_cases c:op=3
 ·rw[e0 _ c]at H;exact gI (by omega) (ed (by rw[CQ,FN];rfl) H)
 refine gv (by omega) (gM ?_);by_cases c:op=4
 ·rw[e0 _ c]at H;exact gI (by omega) (ed (by rw[qZ,FN];rfl) H)
 refine gv (by omega) (gM ?_);by_cases c:op=5
 ·rw[e0 _ c]at H;exact gI (by omega) (ed (by rw[Wk,FN];rfl) H)
 refine gv (by omega) ?_;have k:∀q:Bool,(q=true↔op=6\/op=7)->tE CS Q [.I op,.int .u64 a,.int .u64 b,.I (wQ a),.I (wQ b),.I op,.bool q] h:=λq hq=>by
  refine Kz ?_;unfold DR;refine jF ?_;by_cases c:op=6\/op=7
  ·exact gI (hq.2 c) (Uu d hb c H)
  refine gv (λh=>c (hq.1 h)) (gM ?_);by_cases c:op=8
  ·rw[e0 _ c]at H;refine gI (by omega) (ed (by rw[T6,FN]) ?_);rw[show CC 8 a b=tm (0-a) by simp[CC]]at H;exact H
  refine gv (by omega) (gM ?_);by_cases c:op=9
  ·rw[e0 _ c]at H;exact gI (by omega) (Xx (HX H))
  refine gv (by omega) (gM ?_);by_cases c:op=10
  ·rw[e0 _ c]at H;exact gI (by omega) (Xx (HX H))
  refine gv (by omega) (gM ?_);by_cases c:op=11
  ·rw[e0 _ c]at H;refine gI (by omega) (ed (uD ..) ?_);rw[show(a != b)=decide (a≠b) by by_cases e:a=b <;> simp[e]];exact HX H
  refine gv (by omega) (gM ?_);by_cases c:op=12
  ·rw[e0 _ c]at H;exact gI (by omega) (ed (qO ..) (HX H))
  refine gv (by omega) (gM ?_);by_cases c:op=13
  ·rw[e0 _ c]at H;exact gI (by omega) (ed (Li ..) (HX H))
  refine gv (by omega) (gM ?_);obtain rfl:op=14:=by omega
  exact gI rfl (ed (qO ..) (HX H))
 refine ed (ie ..) (jF ?_);by_cases c:op=6
 ·exact gI (by rw[EE];omega) (k _ (by simp;omega))
 ·exact gv (by rw[EE];omega) (ed (ie ..) (k _ (by simp;omega)))
theorem Ux{op:Nat}{a b:Int}(d:Fx .u64 a)(hb:Fx .u64 b)(c:3<=op/\op<=14)(H:Q (.tuple [.int .u64 (CC op a b),.bool true]) h):cP CS xU [.I op,.int .u64 a,.int .u64 b] h Q:=by
 refine Nw rfl rfl ?_;unfold Hw;refine ed (qO ..) (ed (a:= .bool false) ?_ (jF (gv (by simp) (zbo d hb c H))));rw[O9 (by omega)];simp only[fy,pS,pD];rw[O9 (by omega)];rfl
theorem G4(a:ej F h (Fo lf u vv vb vs iQ az ds)){v:Nat}{x:Vl}(hx:u.ef[v]? =some x)(H:∀h',Sn F h F h'->ej F h' (Fo lf u vv vb vs iQ az ds)->Q (.tuple [.int .u64 (tm x.n),.bool (decide (x.op=2))]) h') :
  cP CS jn [.ptr lf 0,.I v] h Q:=by
 refine EM rfl rfl ?_;unfold xy;obtain⟨hv,e⟩:=jk.1 hx;obtain⟨l,o,w,f,g,⟨k,c,d⟩,_⟩:=a.Z0 1 rfl hv .i64;rw[e]at c d;subst c;refine ed pn (ed pf (oF (a.ld 0 rfl rfl) (ed f (ed g ?_))));refine gQ a rfl rfl (by simp only[lW,eo,d.one];rfl) λi b j=>?_;refine oF (b.ld 0 rfl rfl) (ed (by rw[yg,FN]) (oF (b.ld 0 rfl rfl) (ed (ie ..) ?_)));rw[show((x.op:Int) == 2)=decide (x.op=2) by rw[Th,EE,D1];omega];exact H i j b.tail
end
open Un Dm
section
variable{F F':Nat->Prop}{h h':Hp}{cs ds:List Pc}{Q:fq}{u:U}{vv vb vs iQ:V}{az:List Int}{lf:Nat}
theorem ej.zcN{α:Type}{E:o0 α}{ty:Nat}{xs:List α}{v:V}(H:ej F h cs)(i:Nat)(hi:cs[i]? =some (ev E ty xs v)):iG E (λl=>F l\/JP cs l) h xs v:=(H.row i hi).read.mono λ_ a=>a.imp id λa=>⟨i,_,hi,a⟩
theorem MT{x:Vl}(e:3<=x.op)(d:x.op<=14):(x.op=8\/x.op=9)/\gO x=[x.a]\/¬(x.op=8\/x.op=9)/\gO x=[x.a,x.b]:=by
 unfold gO;by_cases c:x.op=8\/x.op=9
 ·refine .inl ⟨c,?_⟩;rcases c with c|c <;> simp[c,two,pe]
 ·refine .inr ⟨c,?_⟩;have:two x.op=true:=by unfold two;simp;omega
  rw[if_neg (by omega),if_neg (by omega),if_pos this]
theorem UZ(b:oh u){v:Nat}(n:Int):oh (BR u v n):=λw y a=>by
 have a:(u.ef.set v (Ns n))[w]? =some y:=a;rw[List.getElem?_set]at a;split at a
 ·split at a
  ·cases a;exact Jw _
  ·cases a
 ·exact b w y a
end
open Un Dm
def VK(u:U)(v r:Nat):Prop:=∃x,u.ef[v]? =some x/\x.op=21/\r≠v/\r∈x.args/\∀a∈x.args,a=v\/a=r
def OB(u:U)(v:Nat):Prop:=∃x n,u.ef[v]? =some x/\x.op=22/\Kw u x.a n/\n≠0
section
variable{F F':Nat->Prop}{h h':Hp}{cs ds:List Pc}{Q:fq}{u:U}{vv vb vs iQ:V}{az:List Int}{lf:Nat}
end
open Un Dm
section
variable{F F':Nat->Prop}{h h':Hp}{cs ds:List Pc}{Q:fq}{u:U}{vv vb vs iQ:V}{az:List Int}{lf:Nat}
end
open Un Dm
abbrev Kf:Nat:=86
def vt(u:U):List Int:=(List.range u.ef.length).map λ(i:Nat)=>(i:Int)
abbrev AgX(u:U) (i:Nat) (c:Bool) (u2:U) (az:List Int) (u1:U) (e c2 d f:Bool) (a:List Int):Prop:=
 Ri oh u u1 e (λv=>1<=i/\v<u.ef.length)/\
 (c2=false->a=vt u)/\(c2=true->∃v r,VK u1 v r/\a=(vt u).set v (r:Int))/\
 az.length=a.length/\(∀v,az[v]? =a[v]?\/(az[v]? =some (-1)/\OB u1 v))/\(d=false->az=a)/\(d=true->∃v,v<u1.ef.length/\az[v]? =some (-1)/\OB u1 v)/\
 CJ u1 u2 f (λb=>4<=i/\b<u1.blocks.length)/\c=(f ||(d ||(c2 ||e)))/\
 (i<4->f=false/\u2=u1)/\(i<3->d=false)/\(i<2->c2=false)/\(i<1->e=false/\u1=u)
section
variable{F F':Nat->Prop}{h h':Hp}{cs ds:List Pc}{Q:fq}{u:U}{vv vb vs iQ:V}{az:List Int}{lf:Nat}
def Nu:List V:=[.func iX [] [],.func jC [] [],.func iU [] [],.func jA [] []]
theorem XT(a:ej F h cs)(H:∀h' l,Sn F h F h'->ej F h' (er l Kf Nu::cs)->Q (.slice l 0 4) h'):cP CS yd [] h Q:=by
 refine OA rfl rfl ?_;unfold G7;rw[show jd 86 1 4 V.nilFunc [(0,V.func iX [] []),(1,V.func jC [] []),(2,V.func iU [] []),(3,V.func jA [] [])]=some (.cells 86 1 true false Nu,λl=> .slice l 0 4) from rfl,fF];obtain⟨b,c⟩:=a.yO 86 Nu;exact H _ h.next c b
theorem Au:(vt u).length=u.ef.length:=by simp[vt]
end
