/- Parts. -/
import Derived.Test.YtcoaokdoecgcbaaGreatDoorM32
import Derived.Test.YtcoaokdoecgcbaaGreatDoorCards
import Derived.Test.YtcoaokdoecgcbaaGreatDoorTie
import Derived.WalkKit
import Derived.ProofKit
import Derived.OpenShut
import Derived.ChangeMaps5
import Derived.Deep.DeepHandedRow
import Derived.Lib.LaidTab
import Derived.Test.YtcoaokdoecgcbaaGreatDoorM44
set_option maxHeartbeats 4000000
namespace Go.Proofs.YtcoaokdoecgcbaaGreatDoor.Hx
open Go.Proofs.YtcoaokdoecgcbaaGreatDoor Un
theorem Fq:lF fw (eI .i64) (λ_=>True) true:=lF.int (by unfold P0;exact Tryz.underlying3) (by unfold P0;kernel_rfl)
theorem zcE:lF jE (eL (eI .i64)) (λxs=>xs.length<=maxLen/\∀x∈xs,True) false:=lF.slice (by unfold P0;exact Tryz.underlying22) (by unfold P0;kernel_rfl) Fq (by decide)
def QC:rG (List Int×List Int×Int) where
 sz:=3
 rel F h x cs:=∃c vs,cs=[c,vs,.I x.2.2]/\iH (eI .i64) F h x.1 c/\iH (eI .i64) F h x.2.1 vs
 len:=λ⟨_,_,h,_⟩=>by subst h;rfl
 one:=λ⟨_,_,h,a,b⟩=>by subst h;simp only[fe,a.one,b.one];rfl
 fh:=λd ⟨v,w,h,a,b⟩=>⟨v,w,h,a.fh d,b.fh d⟩
 mono:=λe ⟨v,w,h,a,b⟩=>⟨v,w,h,a.mono e,b.mono e⟩
theorem zgO:lF Ss QC (λx=>x.1.length<=maxLen/\x.2.1.length<=maxLen) false:=
 lF.map (lF.struct (fl:=false&&(false&&(true&&true))) (by unfold P0;exact Tryz.underlying24) (by unfold P0;kernel_rfl) (nP.cons zcE rfl (nP.cons zcE rfl (nP.cons Fq rfl (nP.nil _)))))
  (λ(x:List Int×List Int×Int×Unit)=>(x.1,x.2.1,x.2.2.1)) rfl (by
  rintro b h ⟨k,f,n,u⟩ cs ⟨p1,g,rfl,⟨a,rfl,c⟩,p2,i,rfl,⟨d,rfl,e⟩,p3,j,rfl,⟨rfl,_⟩,rfl⟩ ok;exact⟨⟨a,d,rfl,c,e⟩,ok.1.1,ok.2.1.1⟩)
theorem zeG:∃fs,P0.underlying Ss=some (.struct fs):=⟨_,by unfold P0;exact Tryz.underlying24⟩
theorem Sd{W:World}{base:Nat}{v:Value}(k:Value.okWide P0 W .any base 3 v):v.cells = #[v]:=by
 obtain⟨n,rfl⟩:=Go.WideShapes.okWide_int (by unfold P0;exact Tryz.underlying3) k;rfl
theorem XG:maxLen<9223372036854775808:=by decide
end Go.Proofs.YtcoaokdoecgcbaaGreatDoor.Hx
namespace Go.Proofs.YtcoaokdoecgcbaaGreatDoor.Laws
open Go.ChangeShapes Go.WideShapes Go.ChangeAt Go.RowKit
theorem own:ownKnob Tryz.prog.godebug=none:=by kernel_rfl
abbrev laid:List (String×DataW Unit):=[("unicode/utf8.first",Rows.laid_unicode_utf8_first),("unicode/utf8.acceptRanges",Rows.laid_unicode_utf8_acceptRanges)]
def flat:Nat->DataW Unit->List Value
 |0,_=>[]
 |_+1,.lit (.int k v)=>[.int k v]
 |n+1,.agg l=>l.flatMap (flat n)
 |_+1,_=>[]
def lay(cs:List Value):Obj->Obj
 | .cells _ t a=> .cells cs.toArray t a
 |o=>o
noncomputable def K7(os:Os):World:={World.holding Tryz.prog os ⟨#[],#[],[]⟩ with heap:=((World.holding Tryz.prog os ⟨#[],#[],[]⟩).heap.modify 2 (lay (flat 8 Rows.laid_unicode_utf8_acceptRanges))).modify 1 (lay (flat 8 Rows.laid_unicode_utf8_first))}
theorem laidOut:laidOutB Hx.P0=true:=by kernel_rfl
end Go.Proofs.YtcoaokdoecgcbaaGreatDoor.Laws
namespace Go.Proofs.YtcoaokdoecgcbaaGreatDoor.Hx
open Go.Proofs.YtcoaokdoecgcbaaGreatDoor Un
open Go.Proofs.YtcoaokdoecgcbaaGreatDoor Un
abbrev eI6:rG Int:=eI .i64
theorem zde:lF 4 eB (λ_=>True) true:=lF.bool (by unfold P0;exact Tryz.underlying4) (by unfold P0;kernel_rfl)
theorem UA{W:World}{base:Nat}{v:Value}(k:Value.okWide P0 W .any base 4 v):v.cells = #[v]:=by
 obtain⟨b,rfl⟩:=Go.WideShapes.okWide_bool (by unfold P0;exact Tryz.underlying4) k;rfl
open Go.Proofs.YtcoaokdoecgcbaaGreatDoor Un
theorem lU8:lF 5 eY (λ_=>True) true:=lF.map (lF.int (k:= .u8) (by unfold P0;exact Tryz.underlying5) (by unfold P0;kernel_rfl)) Int.toNat rfl (by
 rintro b h x cs ⟨rfl,a⟩ _;have c:0<=x/\x<256:=by
  revert a;simp only[Cf];omega
 exact⟨⟨by rw[wBs c.1],by omega⟩,trivial⟩)
theorem lBs:lF 25 (eL eY) (λxs=>xs.length<=maxLen/\∀x∈xs,True) false:=lF.slice (by unfold P0;exact Tryz.underlying25) (by unfold P0;kernel_rfl) lU8 (by decide)
theorem zfF:lF 2 (eI .i64) (λ_=>True) true:=lF.int (by unfold P0;exact Tryz.underlying2) (by unfold P0;kernel_rfl)
theorem lLc:lF 46 KI (λ_=>True) true:=by
 refine lF.map (e:=eP (eI .i64) (eP (eI .i64) eU)) (lF.struct (fl:=true&&(true&&true)) (by unfold P0;exact Tryz.underlying46) (by unfold P0;kernel_rfl) (nP.cons Fq rfl (nP.cons zfF rfl (nP.nil _))))
  (λ(x:Int×Int×Unit)=>(⟨x.1,x.2.1⟩:Nl)) rfl ?_
 ·rintro b h ⟨k,n,u⟩ cs ⟨p1,a,rfl,⟨rfl,_⟩,p2,c,rfl,⟨rfl,_⟩,rfl⟩ _;exact⟨rfl,trivial⟩
theorem zbu:lF 27 (eL KI) (λxs=>xs.length<=maxLen/\∀x∈xs,True) false:=lF.slice (by unfold P0;exact Tryz.underlying27) (by unfold P0;kernel_rfl) lLc (by decide)
theorem lFr:lF 48 eFr (λ_=>True) false:=by
 refine lF.map (e:=eP (eI .i64) (eP (eI .i64) (eP (eL KI) (eP (eL KI) eU)))) (lF.struct (fl:=true&&(true&&(false&&(false&&true)))) (by unfold P0;exact Tryz.underlying48) (by unfold P0;kernel_rfl) (nP.cons Fq rfl (nP.cons Fq rfl (nP.cons zbu rfl (nP.cons zbu rfl (nP.nil _))))))
  (λ(x:Int×Int×List Nl×List Nl×Unit)=>(⟨x.1,x.2.1,x.2.2.1,x.2.2.2.1⟩:Nf)) rfl ?_
 ·rintro b h ⟨f,p,l,s,u⟩ cs ⟨p1,i,rfl,⟨rfl,_⟩,p2,j,rfl,⟨rfl,_⟩,p3,k,rfl,⟨a,rfl,c⟩,p4,m,rfl,⟨d,rfl,g⟩,rfl⟩ _;exact⟨⟨a,d,rfl,c,g⟩,trivial⟩
theorem zgI:lF 49 (eL eFr) (λxs=>xs.length<=maxLen/\∀x∈xs,True) false:=lF.slice (by unfold P0;exact Tryz.underlying49) (by unfold P0;kernel_rfl) lFr (by decide)
theorem lEx:lF 51 Tb (λ_=>True) false:=by
 refine lF.map (e:=eP (eL eFr) (eP (eI .i64) (eP (eI .i64) eU))) (lF.struct (fl:=false&&(true&&(true&&true))) (by unfold P0;exact Tryz.underlying51) (by unfold P0;kernel_rfl) (nP.cons zgI rfl (nP.cons Fq rfl (nP.cons Fq rfl (nP.nil _)))))
  (λ(x:List Nf×Int×Int×Unit)=>(⟨x.1,x.2.1,x.2.2.1⟩:Nx)) rfl ?_
 ·rintro b h ⟨f,s,v,u⟩ cs ⟨p1,d,rfl,⟨a,rfl,c⟩,p2,g,rfl,⟨rfl,_⟩,p3,i,rfl,⟨rfl,_⟩,rfl⟩ _;exact⟨⟨a,rfl,c⟩,trivial⟩
theorem zfE:lF 26 (eL Tb) (λxs=>xs.length<=maxLen/\∀x∈xs,True) false:=lF.slice (by unfold P0;exact Tryz.underlying26) (by unfold P0;kernel_rfl) lEx (by decide)
def eNv:rG (Int×Int×List Nat×List Nx×List Nl) where
 sz:=5
 rel F h x cs:=∃j k l,cs=OE x.1 x.2.1 j k l/\iH eY F h x.2.2.1 j/\iH Tb F h x.2.2.2.1 k/\iH KI F h x.2.2.2.2 l
 len:=λ⟨_,_,_,h,_⟩=>by subst h;rfl
 one:=λ⟨_,_,_,h,d,e,f⟩=>by subst h;simp only[OE,fe,d.one,e.one,f.one];rfl
 fh:=λg ⟨a,b,c,h,d,e,f⟩=>⟨a,b,c,h,d.fh g,e.fh g,f.fh g⟩
 mono:=λi ⟨a,b,c,h,d,e,f⟩=>⟨a,b,c,h,d.mono i,e.mono i,f.mono i⟩
theorem lNv:lF 29 eNv (λ_=>True) false:=by
 refine lF.map (e:=eP (eI .i64) (eP (eI .i64) (eP (eL eY) (eP (eL Tb) (eP (eL KI) eU))))) (lF.struct (fl:=true&&(true&&(false&&(false&&(false&&true))))) (by unfold P0;exact Tryz.underlying29) (by unfold P0;kernel_rfl) (nP.cons Fq rfl (nP.cons Fq rfl (nP.cons lBs rfl (nP.cons zfE rfl (nP.cons zbu rfl (nP.nil _)))))))
  (λ(x:Int×Int×List Nat×List Nx×List Nl×Unit)=>(x.1,x.2.1,x.2.2.1,x.2.2.2.1,x.2.2.2.2.1)) rfl ?_
 ·rintro b h ⟨f,p,l,s,n,u⟩ cs ⟨p1,k,rfl,⟨rfl,_⟩,p2,m,rfl,⟨rfl,_⟩,p3,o,rfl,⟨a,rfl,c⟩,p4,q,rfl,⟨d,rfl,g⟩,r,t,rfl,⟨i,rfl,j⟩,rfl⟩ _;exact⟨⟨a,d,i,rfl,c,g,j⟩,trivial⟩
theorem zgw:∃fs,P0.underlying 29=some (.struct fs):=⟨_,by unfold P0;exact Tryz.underlying29⟩
theorem YW{H:Type}(d:DataW H):1<=Rows.uptoBulk d:=by
 unfold Rows.uptoBulk;split <;> omega
theorem TA{H:Type}:∀l:List (DataW H),l.length<=Rows.uptoBulkAll l
 |[]=>Ll _
 | d::l=>by
   have a:=YW d;have b:=TA l;rw[Jo,Rows.uptoBulkAll];omega
theorem Nr{H:Type}{d:DataW H}:∀{l:List (DataW H)},d∈l->Rows.uptoBulk d<=Rows.uptoBulkAll l
 | e ::l,a=>by
   rw[Rows.uptoBulkAll];rcases wM.1 a with rfl|a
   ·omega
   ·have:=Nr a
    omega
theorem zaZ{H:Type}{enc:TypeId×Value->H}{w:World}{fuel t u:Nat}{v:Value}{x:DataW H×List MemPlace}{α:Type}{e:rG α}{Δ:Env}{F:Nat->Prop}{h:Hp}{xs:List α}{a:V}(i:P0.underlying t=some (.slice u))
  (hd:DataW.trod enc P0 w 0 (λ_=>true) true fuel t [v]=some x) (b:fF Δ a v) (hs:iH e F h xs a):xs.length<=Rows.uptoBulk x.1:=by
 rcases hs with⟨rfl,rfl⟩|⟨l,off,ty,live,ro,ds,rfl,_⟩
 ·exact Ll _
 ·rcases DataW.trod_slice i hd with⟨c,_⟩|⟨ad,len,cap,d,f,n,_,c,rfl,_,_,_,g,_⟩
  ·obtain rfl:v = .slice none 0 0:=by simpa using c
   generalize xs.length=k at b⊢;cases b
  ·obtain rfl:v = .slice (some ad) len cap:=by simpa using c
   have hl:xs.length=len:=by
    generalize xs.length=k at b⊢;cases b <;> rfl
   have:=TA (d.map (·.1));rw[XS]at this;show _<=Rows.uptoBulk (.slice _ _);rw[Rows.uptoBulk];omega
theorem zfx{H:Type} {enc:TypeId×Value->H} {w:World} {v:Value} {d:DataW H} {B:List MemPlace} {Δ:Env} {F:Nat->Prop} {h:Hp} {f p:Int} {bs:List Nat} {ex:List Nx} {en:List Nl} {k l m:V}
    (hd:DataW.Trod enc P0 w 0 (λ_=>true) true 29 v d B) (b:fF Δ (.agg (OE f p k l m)) v) (C:Rows.uptoBulk d<=1048576) (x:iH eY F h bs k) (y:iH Tb F h ex l) (z:iH KI F h en m):O7 F h bs ex en k l m:=by
  obtain⟨fuel,hd⟩:=hd;obtain⟨xs,n,_,D,_,hlen,o⟩:=DataW.trod_struct (by unfold P0;exact Tryz.underlying29) hd;obtain⟨rfl,_⟩:=Prod.mk.inj D
  cases b with
  | agg _ cs b =>
    obtain⟨cs⟩:=cs
    cases b with
    | cons _ q _ _ r0 b=>cases b with
      | cons _ r _ _ r1 b=>cases b with
        | cons _ c _ _ r2 b=>cases b with
          | cons _ g _ _ r3 b=>cases b with
            | cons _ j _ _ r4 b=>
              cases b;have get:∀{i t:Nat} {v:Value} {α:Type} {e:rG α} {ys:List α} {a:V} {u:Nat},P0.underlying t=some (.slice u)->DataW.trod enc P0 w 0 (λ_=>true) true n t [v]=xs[i]?->i<xs.length->fF Δ a v->iH e F h ys a->ys.length<=1048576:=λ{i t v α e ys a u} E A hi s hs=>by
                rw[iz hi]at A;have G:=zaZ E A s hs;have I:=Nr (List.mem_map_of_mem (f:=(·.1)) (Dg hi));rw[Rows.uptoBulk]at C;omega
              have J:P0.cellsOf 25=1:=lBs.cells;have c2:P0.cellsOf 26=1:=zfE.cells;have K:P0.cellsOf 27=1:=zbu.cells;have L:DataW.trod enc P0 w 0 (λ_=>true) true n 25 [c]=xs[2]?:=by
                have f:DataW.trod enc P0 w 0 (λ_=>true) true n 25 ((([q,r,c,g,j]:List Value).drop 2).take (P0.cellsOf 25))=xs[2]?:=o 2 _ rfl;rw[J]at f;exact f
              have M:DataW.trod enc P0 w 0 (λ_=>true) true n 26 [g]=xs[3]?:=by
                have f:DataW.trod enc P0 w 0 (λ_=>true) true n 26 ((([q,r,c,g,j]:List Value).drop 3).take (P0.cellsOf 26))=xs[3]?:=o 3 _ rfl;rw[c2]at f;exact f
              have N:DataW.trod enc P0 w 0 (λ_=>true) true n 27 [j]=xs[4]?:=by
                have f:DataW.trod enc P0 w 0 (λ_=>true) true n 27 ((([q,r,c,g,j]:List Value).drop 4).take (P0.cellsOf 27))=xs[4]?:=o 4 _ rfl;rw[K]at f;exact f
              have O:xs.length=5:=hlen;have G:=get (by unfold P0;exact Tryz.underlying25) L (by omega) r2 x;have I:=get (by unfold P0;exact Tryz.underlying26) M (by omega) r3 y;have P:=get (by unfold P0;exact Tryz.underlying27) N (by omega) r4 z;exact⟨x,y,z,by omega,by omega,by omega⟩
end Go.Proofs.YtcoaokdoecgcbaaGreatDoor.Hx
namespace Go.Proofs.YtcoaokdoecgcbaaGreatDoor.emitRight
open Go.ChangeShapes Go.ChangeMaps Go.WideShapes Go.ChangeAt Go.RowKit Laws
set_option maxRecDepth 100000 in
theorem bound{H:Type}{l:List (DataW H)}(h:Rows.uptoSmall H l=true):Rows.uptoBulkAll l<=1048576:=of_decide_eq_true h
theorem body:∃fn c,Hx.P0.funcs[3]? =some fn/\fn.body=some c:=by
 unfold Hx.P0;exact⟨Tryz.f3,_,Tryz.func3,rfl⟩
theorem zeQ(W:World){H:Type}{enc:TypeId×Value->H}{base:Nat}{m n o p q:Value}{d0 d1 d2 d3 d4:DataW H}{p0 p1 p2 p3 p4:List MemPlace}(k0:Value.okWide Hx.P0 W .any base 24 m)(D:Value.okWide Hx.P0 W .any base 3 n)(E:Value.okWide Hx.P0 W .any base 3 o)(K:Value.okWide Hx.P0 W .any base 29 p)(F:Value.okWide Hx.P0 W .any base 4 q)(h0:DataW.Trod enc Hx.P0 W 0 (λ_=>true) true 24 m d0 p0)(L:DataW.Trod enc Hx.P0 W 0 (λ_=>true) true 3 n d1 p1)(M:DataW.Trod enc Hx.P0 W 0 (λ_=>true) true 3 o d2 p2)(G:DataW.Trod enc Hx.P0 W 0 (λ_=>true) true 29 p d3 p3)(N:DataW.Trod enc Hx.P0 W 0 (λ_=>true) true 4 q d4 p4)(O:Rows.uptoBulk d3<=1048576) :
  Calls Hx.P0 3 #[m,n,o,p,q] W λe W'=>e = .returned (.bool true)/\Hx.Kept W W':=by
 obtain⟨P,g⟩:=Hx.zeG;obtain⟨e0,u0,D0,g0,a,b0,Q,r0,l0,w0⟩:=Hx.zgO.zgb g k0 h0 (Hx.Rd.start 3 (Iv Hx.Wn) W (Hx.zf4 W));obtain⟨e1,R,D1,g1,c,d,c1,r1,l1,w1⟩:=Hx.Fq.zdm (Hx.Sd D) D L r0;obtain⟨e2,S,D2,g2,i,j,c2,r2,l2,w2⟩:=Hx.Fq.zdm (Hx.Sd E) E M r1;obtain⟨T,k⟩:=Hx.zgw;obtain⟨I,u3,D3,g3,r,s,c3,r3,l3,f⟩:=Hx.lNv.zgb k K G r2;obtain⟨t,J,D4,g4,U,X,c4,r4,l4,b⟩:=Hx.zde.zdm (Hx.UA F) F N r3;have a:=Hx.fF.mono l1 a;have b0:=Hx.QC.mono (λ_ h=>Hx.sq w1.next _ h) (Hx.QC.fh (λl hl=>w1.fh l hl id) b0);have a:=Hx.fF.mono l2 a;have b0:=Hx.QC.mono (λ_ h=>Hx.sq w2.next _ h) (Hx.QC.fh (λl hl=>w2.fh l hl id) b0);have a:=Hx.fF.mono l3 a;have b0:=Hx.QC.mono (λ_ h=>Hx.sq f.next _ h) (Hx.QC.fh (λl hl=>f.fh l hl id) b0);have a:=Hx.fF.mono l4 a;have b0:=Hx.QC.mono (λ_ h=>Hx.sq b.next _ h) (Hx.QC.fh (λl hl=>b.fh l hl id) b0);have c:=Hx.fF.mono l2 c;have d:=Hx.eI6.mono (λ_ h=>Hx.sq w2.next _ h) (Hx.eI6.fh (λl hl=>w2.fh l hl id) d);have c:=Hx.fF.mono l3 c;have d:=Hx.eI6.mono (λ_ h=>Hx.sq f.next _ h) (Hx.eI6.fh (λl hl=>f.fh l hl id) d);have c:=Hx.fF.mono l4 c;have d:=Hx.eI6.mono (λ_ h=>Hx.sq b.next _ h) (Hx.eI6.fh (λl hl=>b.fh l hl id) d);have i:=Hx.fF.mono l3 i;have j:=Hx.eI6.mono (λ_ h=>Hx.sq f.next _ h) (Hx.eI6.fh (λl hl=>f.fh l hl id) j);have i:=Hx.fF.mono l4 i;have j:=Hx.eI6.mono (λ_ h=>Hx.sq b.next _ h) (Hx.eI6.fh (λl hl=>b.fh l hl id) j);have r:=Hx.fF.mono l4 r;have s:=Hx.eNv.mono (λ_ h=>Hx.sq b.next _ h) (Hx.eNv.fh (λl hl=>b.fh l hl id) s);obtain⟨Y,u,rfl,v,w⟩:=b0;obtain⟨x,_⟩:=d;obtain rfl:R = .I e1:=by simpa using x
 obtain⟨y,_⟩:=j;obtain rfl:S = .I e2:=by simpa using y
 obtain⟨Z,we,wn,rfl,z,A,B⟩:=s;have C:[J]=[Hx.V.bool t]:=X;obtain rfl:J = .bool t:=by simpa using C
 exact Hx.cP.calls Hx.zda (args:=[.agg [Y,u,.I e0.2.2],.I e1,.I e2,.agg (Hx.OE I.1 I.2.1 Z we wn),.bool t]) (gK:=#[m,n,o,p,q]) body r4 (.cons _ _ _ _ a (.cons _ _ _ _ c (.cons _ _ _ _ i (.cons _ _ _ _ r (.cons _ _ _ _ U .nil))))) (Hx.QA (cs:=[]) (.nil λ_ h=>h) v w (Nat.lt_of_le_of_lt Q.1 Hx.XG) (Hx.zfx G r O z A B) λ_=>rfl)
set_option maxRecDepth 100000 in
theorem zaI (H:Type)(enc:TypeId×Value->H)(W:World)(base:Nat)(args:Array Value)(ds gs:List (DataW H))(c:List MemPlace)
  (a:∀(j:Nat) t v,Tryz.f3.params[j]? =some t->args[j]? =some v->Value.okWide Tryz.prog W .any base t v)
  (C:DataW.Whole enc Tryz.prog Tryz.f3.params.toList Rows.emitRightSpec.vars false W args.toList ds gs c) (I:Rows.uptoSmall H (ds++gs)=true) :
  Calls Tryz.prog 3 args W λe W'=>∃v,e = .returned v/\Rows.emitRightSpec.post enc Tryz.prog Tryz.f3 false true false false W args v W':=by
 have i:=C;obtain⟨p,q,b,J,rfl,K,L⟩:=C;have D:DataW.TrodAll enc Tryz.prog W 0 (λ_=>true) true Tryz.f3.params.toList args.toList ds p:=b;have k:=b.lt;rw[Tryz.params3]at D a;obtain⟨m,M,d0,N,p0,q0,n,rfl,rfl,h0,b⟩:=trodAll_cons D;obtain⟨o,O,d1,P,p1,q1,d,rfl,rfl,Q,w⟩:=trodAll_cons b;obtain⟨r,R,d2,S,p2,q2,f,rfl,rfl,T,x⟩:=trodAll_cons w;obtain⟨s,U,d3,V,p3,q3,g,rfl,rfl,X,y⟩:=trodAll_cons x;obtain⟨u,Y,d4,Z,p4,q4,h,rfl,rfl,h4,z⟩:=trodAll_cons y;obtain⟨rfl,rfl,rfl⟩:=trodAll_nil z;subst d;subst f;subst g;subst h;obtain rfl:args = #[m,o,r,s,u]:=by cases args;simp_all
 obtain⟨rfl,rfl⟩:=trodVars_none J;have k0:Value.okWide Tryz.prog W .any base 24 m:=@a 0 24 m (by simp) (by simp);have k1:Value.okWide Tryz.prog W .any base 3 o:=@a 1 3 o (by simp) (by simp);have k2:Value.okWide Tryz.prog W .any base 3 r:=@a 2 3 r (by simp) (by simp);have k3:Value.okWide Tryz.prog W .any base 29 s:=@a 3 29 s (by simp) (by simp);have k4:Value.okWide Tryz.prog W .any base 4 u:=@a 4 4 u (by simp) (by simp);simp only[Hf]at i b k;have A:Rows.uptoBulk d3<=1048576:=KK (Hx.Nr (l:=[d0,d1,d2,d3,d4]++[]) (by simp)) (bound I);have E:=zeQ (enc:=enc) (base:=base) (d0:=d0) (p0:=p0) (d1:=d1) (p1:=p1) (d2:=d2) (p2:=p2) (d3:=d3) (p3:=p3) (d4:=d4) (p4:=p4) W (by unfold Hx.P0;exact k0) (by unfold Hx.P0;exact k1) (by unfold Hx.P0;exact k2) (by unfold Hx.P0;exact k3) (by unfold Hx.P0;exact k4) (by unfold Hx.P0;exact h0) (by unfold Hx.P0;exact Q) (by unfold Hx.P0;exact T) (by unfold Hx.P0;exact X) (by unfold Hx.P0;exact h4) A;unfold Hx.P0 at E;refine E.mono λe W' ⟨he,F⟩=>?_;subst he;refine⟨_,rfl,?_⟩;refine Hx.Xj (pa:=p0++(p1++(p2++(p3++p4)))) (pv:=[]) i ?_ ?_ ?_ ?_ F ?_
 ·exact λ_ _ _=>trodAll_cons_mk (shut_bool Tryz.underlying4 _) trodAll_mk0
 ·intro sp B;have h8:DataW.TrodAll enc Hx.P0 W 0 (λ_=>true) true Tryz.f3.params.toList [m,o,r,s,u] [d0,d1,d2,d3,d4] (p0++(p1++(p2++(p3++p4)))):=by
   unfold Hx.P0;exact b
  have G:=Hx.Ky (W':=W') laidOut F (by kernel_rfl) h8 k sp B;unfold Hx.P0 at G;exact G
 ·exact λ_ _=>rfl
 ·rw[Hf]
 ·exact ok_one (t:=4) (by kernel_rfl) rfl (okWide_bool_mk Tryz.underlying4 true)
