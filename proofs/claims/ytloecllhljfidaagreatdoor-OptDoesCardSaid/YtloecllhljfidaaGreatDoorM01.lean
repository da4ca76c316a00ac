/- Parts. -/
import Derived.Test.YtloecllhljfidaaGreatDoorM00
import Derived.Calls
import Derived.Test.YtloecllhljfidaaGreatDoorChecked
import Derived.Orders
import Derived.Laws.CopyRow
set_option maxHeartbeats 4000000
namespace Go.Proofs.YtloecllhljfidaaGreatDoor.Hx
variable{β α:Type}{i:Nat}{y:β}{l:Nat}
theorem Pd:type_of% @Result.andThen_ok:=@Result.andThen_ok
theorem Lv:type_of% @Sem.run_bind:=@Sem.run_bind
theorem YJ:type_of% @Sem.run_pure:=@Sem.run_pure
inductive V where
 |bool (b:Bool)
 |int (k:IntKind) (n:Int)
 |str (s:List UInt8)
 |nilPtr
 |ptr (l off:Nat)
 |ei
 |slice (l off len:Nat)
 |oH
 |map (l:Nat)
 |nilFunc
 |func (f:Nat) (first a:List V)
 |nilIface
 |iface (t:Nat) (v:V)
 |agg (cs:List V)
 |tuple (vs:List V)
 deriving Inhabited
def V.undef:V:= .tuple []
mutual
def V.beq:V->V->Bool
 | .bool a,.bool b=>a == b
 | .int j a,.int k b=>j == k&&a == b
 | .str a,.str b=>a == b
 | .nilPtr,.nilPtr=>true
 | .ptr l o,.ptr l' o'=>l == l'&&o == o'
 | .ei,.ei=>true
 | .slice l o n,.slice l' o' n'=>l == l'&&o == o'&&n == n'
 | .oH,.oH=>true
 | .map l,.map l'=>l == l'
 | .nilFunc,.nilFunc=>true
 | .func f a c,.func f' a' c'=>f == f'&&V.O6 a a'&&V.O6 c c'
 | .nilIface,.nilIface=>true
 | .iface t v,.iface t' v'=>t == t'&&V.beq v v'
 | .agg a,.agg b=>V.O6 a b
 | .tuple a,.tuple b=>V.O6 a b
 |_,_=>false
def V.O6:List V->List V->Bool
 |[],[]=>true
 |a::x,b::y=>V.beq a b&&V.O6 x y
 |_,_=>false
end
mutual
theorem V.eq_of_beq:∀(a b:V),V.beq a b=true->a=b
 | .bool a,b,h=>by cases b <;> simp_all[V.beq]
 | .int j a,b,h=>by cases b <;> simp_all[V.beq]
 | .str a,b,h=>by cases b <;> simp_all[V.beq]
 | .nilPtr,b,h=>by grind[V.beq]
 | .ptr l o,b,h=>by cases b <;> simp_all[V.beq]
 | .ei,b,h=>by grind[V.beq]
 | .slice l o n,b,h=>by cases b <;> simp_all[V.beq]
 | .oH,b,h=>by grind[V.beq]
 | .map l,b,h=>by cases b <;> simp_all[V.beq]
 | .nilFunc,b,h=>by grind[V.beq]
 | .func f a c,b,h=>by
   cases b <;> simp_all[V.beq]
   exact⟨V.yM _ _ h.1.2,V.yM _ _ h.2⟩
 | .nilIface,b,h=>by grind[V.beq]
 | .iface t v,b,h=>by
   cases b <;> simp_all[V.beq]
   exact V.eq_of_beq _ _ h.2
 | .agg a,b,h=>by
   cases b <;> simp_all[V.beq]
   exact V.yM _ _ h
 | .tuple a,b,h=>by
   cases b <;> simp_all[V.beq];exact V.yM _ _ h
theorem V.yM:∀(a b:List V),V.O6 a b=true->a=b
 |[],b,h=>by grind[V.O6]
 | a::x,b,h=>by
   cases b <;> simp_all[V.O6];exact⟨V.eq_of_beq _ _ h.1,V.yM _ _ h.2⟩
end
mutual
theorem V.Nu:∀(a:V),V.beq a a=true
 | .bool a=>by simp[V.beq]
 | .int j a=>by simp[V.beq]
 | .str a=>by simp[V.beq]
 | .nilPtr=>by rfl
 | .ptr l o=>by simp[V.beq]
 | .ei=>by rfl
 | .slice l o n=>by simp[V.beq]
 | .oH=>by rfl
 | .map l=>by simp[V.beq]
 | .nilFunc=>by rfl
 | .func f a c=>by simp[V.beq,V.An a,V.An c]
 | .nilIface=>by rfl
 | .iface t v=>by simp[V.beq,V.Nu v]
 | .agg a=>by simp[V.beq,V.An a]
 | .tuple a=>by simp[V.beq,V.An a]
theorem V.An:∀(a:List V),V.O6 a a=true
 |[]=>by rfl
 |a::x=>by simp[V.O6,V.Nu a,V.An x]
end
def V.cells:V->List V
 | .agg cs=>cs
 |v=>[v]
def V.one:V->Bool
 | .agg _| .tuple _=>false
 |_=>true
def mL:Nat->Value->Option V
 |_,.bool b=>some (.bool b)
 |_,.int k n=>some (.int k n)
 |_,.string s=>some (.str s.data.toList)
 |_,.pointer none=>some .nilPtr
 |_,.slice none 0 0=>some .ei
 |_,.map none=>some .oH
 |_,.nilFunc=>some .nilFunc
 |_,.nilIface=>some .nilIface
 | n+1,.iface t v=>match mL n v with
   |some v=>some (.iface t v)
   |none=>none
 | n+1,.agg cs=>match cs.toList.mapM (mL n)with
   |some l=>some (.agg l)
   |none=>none
 | n+1,.tuple cs=>match cs.toList.mapM (mL n)with
   |some l=>some (.tuple l)
   |none=>none
 |_,_=>none
inductive To (α:Type) where
 |leaf
 |node (l:To α) (v:Option α) (r:To α)
noncomputable def To.get (t:To α):Nat->Option α:=To.rec (λ_=>none) (λ_ v _ gl gr n=>Bool.rec (Bool.rec (gr (Nat.sub (Nat.div n 2) 1)) (gl (Nat.div n 2)) (Nat.beq (Nat.mod n 2) 1)) v (Nat.beq n 0)) t
theorem To.yX(n:Nat):(To.leaf:To α).get n=none:=rfl
theorem To.AY (l:To α) (v:Option α) (r:To α) (n:Nat):(To.node l v r).get n =
  match Nat.beq n 0 with
  |true=>v
  | false=>match Nat.beq (n % 2) 1 with
    |true=>l.get (n / 2)
    |false=>r.get (n / 2-1):=by
 show Bool.rec (motive:=λ_=>Option α) (Bool.rec (r.get (n / 2-1)) (l.get (n / 2)) (Nat.beq (n % 2) 1)) v (Nat.beq n 0)=_;cases Nat.beq n 0 <;> cases Nat.beq (n % 2) 1 <;> rfl
def To.Ro:Nat->To α->Nat->α->To α
 |0,t,_,_=>t
 | f + 1,.leaf,n,x=>
   match Nat.beq n 0 with
   |true=> .node .leaf (some x) .leaf
   | false=>match Nat.beq (n % 2) 1 with
     |true=> .node (To.Ro f .leaf (n / 2) x) none .leaf
     |false=> .node .leaf none (To.Ro f .leaf (n / 2-1) x)
 | f + 1,.node l v r,n,x=>
   match Nat.beq n 0 with
   |true=> .node l (some x) r
   | false=>match Nat.beq (n % 2) 1 with
     |true=> .node (To.Ro f l (n / 2) x) v r
     |false=> .node l v (To.Ro f r (n / 2-1) x)
noncomputable def To.set (t:To α):Nat->α->To α:=To.rec (λn x=>Bool.rec (To.Ro (Nat.succ n) .leaf n x) (.node .leaf (some x) .leaf) (Nat.beq n 0)) (λl v r a b n x=>Bool.rec (Bool.rec (.node l v (b (Nat.sub (Nat.div n 2) 1) x)) (.node (a (Nat.div n 2) x) v r) (Nat.beq (Nat.mod n 2) 1)) (.node l (some x) r) (Nat.beq n 0)) t
theorem To.SO (x:α):∀f (t:To α) n m,n<f->(t.Ro f n x).get m=if n=m then some x else t.get m:=by
 intro f
 induction f with
 |zero=>omega
 | succ f j =>
   intro t n m h
   cases t with
   | leaf =>
     unfold To.Ro
     cases h0:Nat.beq n 0 with
     | true=>
       have e:=Iw h0;subst e
       cases m with
       |zero=>rfl
       | succ m=>
         have b:Nat.beq (m+1) 0=false:=rfl
         grind[To.yX,To.AY]
     | false =>
       have k:n≠0:=λe=>by simp_all
       cases c:Nat.beq (n % 2) 1 with
       | true=>
         have b:=Iw c;simp[To.yX,To.AY]
         cases d:Nat.beq m 0 with
         | true=>
           simp_all
         | false=>
           have g:m≠0:=λe=>by simp_all
           cases a:Nat.beq (m % 2) 1 with
           | true=>
             have i:=Iw a;simp[j .leaf (n / 2) (m / 2) (by omega),To.yX]
             grind
           | false=>
             grind
       | false=>
         have b:n % 2≠1:=λe=>by simp_all
         simp[To.yX,To.AY]
         cases d:Nat.beq m 0 with
         | true=>
           simp_all
         | false=>
           have g:m≠0:=λe=>by simp_all
           cases a:Nat.beq (m % 2) 1 with
           | true=>
             grind
           | false=>
             have i:m % 2≠1:=λe=>by simp_all
             simp[j .leaf (n / 2-1) (m / 2-1) (by omega),To.yX]
             grind
   | node l v r=>
     unfold To.Ro
     cases h0:Nat.beq n 0 with
     | true=>
       have e:=Iw h0;subst e
       cases m with
       |zero=>rfl
       | succ m=>
         rfl
     | false =>
       have k:n≠0:=λe=>by simp_all
       cases c:Nat.beq (n % 2) 1 with
       | true=>
         have b:=Iw c;simp[ To.AY]
         cases d:Nat.beq m 0 with
         | true=>
           simp_all
         | false=>
           have g:m≠0:=λe=>by simp_all
           cases a:Nat.beq (m % 2) 1 with
           | true=>
             have i:=Iw a
             grind
           | false=>
             grind
       | false=>
         have b:n % 2≠1:=λe=>by simp_all
         simp[ To.AY]
         cases d:Nat.beq m 0 with
         | true=>
           simp_all
         | false=>
           have g:m≠0:=λe=>by simp_all
           cases a:Nat.beq (m % 2) 1 with
           | true=>
             grind
           | false=>
             have i:m % 2≠1:=λe=>by simp_all
             grind
theorem To.KJ (t:To α) (n m:Nat) (x:α):(t.set n x).get m=if n=m then some x else t.get m:=by
 induction t generalizing n m with
 | leaf=>
   show(Bool.rec (motive:=λ_=>To α) (To.Ro (Nat.succ n) .leaf n x) (.node .leaf (some x) .leaf) (Nat.beq n 0)).get m=_
   cases h0:Nat.beq n 0 with
   | true=>
     have e:=Iw h0;subst e;have:=To.SO x 1 .leaf 0 m (by omega)
     exact this
   |false=>grind[To.SO]
 | node l v r b c=>
   show(Bool.rec (motive:=λ_=>To α) (Bool.rec (.node l v (r.set (n / 2-1) x)) (.node (l.set (n / 2) x) v r) (Nat.beq (n % 2) 1)) (.node l (some x) r) (Nat.beq n 0)).get m=_
   cases h0:Nat.beq n 0 with
   | true=>
     have e:=Iw h0;subst e
     cases m with
     |zero=>rfl
     | succ m=>
       rfl
   | false =>
     have j:n≠0:=λe=>by simp_all
     cases d:Nat.beq (n % 2) 1 with
     | true=>
       have f:=Iw d;simp[To.AY]
       cases g:Nat.beq m 0 with
       | true=>
         simp_all
       | false=>
         have h:m≠0:=λe=>by simp_all
         cases a:Nat.beq (m % 2) 1 with
         | true=>
           have i:=Iw a
           grind
         | false=>
           grind
     | false=>
       have f:n % 2≠1:=λe=>by simp_all
       simp[To.AY]
       cases g:Nat.beq m 0 with
       | true=>
         simp_all
       | false=>
         have h:m≠0:=λe=>by simp_all
         cases a:Nat.beq (m % 2) 1 with
         | true=>
           grind
         | false=>
           have i:m % 2≠1:=λe=>by simp_all
           grind
structure Q4 (α:Type) where
 a:α
 b:α
 c:α
 d:α
def QT(α:Type)(n:Nat):Type:=Nat.rec (To α) (λ_ a=>Q4 a) n
structure QG (α β:Type) where
 f:α->β
structure QU (α β:Type) where
 f:β->α->α
noncomputable def YE(i:Nat)(w x y z:β):β:=Bool.rec (Bool.rec (Bool.rec z y (Nat.beq (Nat.mod i 4) 2)) x (Nat.beq (Nat.mod i 4) 1)) w (Nat.beq (Nat.mod i 4) 0)
theorem zdN(h:i % 4=0)(w x y z:β):YE i w x y z=w:=by unfold YE;rw[show Nat.mod i 4=0 from h];rfl
theorem zdS(h:i % 4=1)(w x y z:β):YE i w x y z=x:=by unfold YE;rw[show Nat.mod i 4=1 from h];rfl
theorem zd7(h:i % 4=2)(w x y z:β):YE i w x y z=y:=by unfold YE;rw[show Nat.mod i 4=2 from h];rfl
theorem zdq(h:i % 4=3)(w x y z:β):YE i w x y z=z:=by unfold YE;rw[show Nat.mod i 4=3 from h];rfl
noncomputable def qg(α:Type) (n:Nat):Nat->QG (QT α n) (Option α):=Nat.rec (λi=>⟨λx=>To.get x i⟩) (λ_ e i=>YE i ⟨λq=>Q4.rec (motive:=λ_=>Option α) (λa _ _ _=>(e (Nat.div i 4)).f a) q⟩ ⟨λq=>Q4.rec (motive:=λ_=>Option α) (λ_ b _ _=>(e (Nat.div i 4)).f b) q⟩ ⟨λq=>Q4.rec (motive:=λ_=>Option α) (λ_ _ c _=>(e (Nat.div i 4)).f c) q⟩ ⟨λq=>Q4.rec (motive:=λ_=>Option α) (λ_ _ _ d=>(e (Nat.div i 4)).f d) q⟩) n
noncomputable def qs(α:Type) (n:Nat):Nat->QU (QT α n) α:=Nat.rec (λi=>⟨λv x=>To.set x i v⟩) (λn e i=>YE i ⟨λv q=>Q4.rec (motive:=λ_=>Q4 (QT α n)) (λa b c d=>⟨(e (Nat.div i 4)).f v a,b,c,d⟩) q⟩ ⟨λv q=>Q4.rec (motive:=λ_=>Q4 (QT α n)) (λa b c d=>⟨a,(e (Nat.div i 4)).f v b,c,d⟩) q⟩ ⟨λv q=>Q4.rec (motive:=λ_=>Q4 (QT α n)) (λa b c d=>⟨a,b,(e (Nat.div i 4)).f v c,d⟩) q⟩ ⟨λv q=>Q4.rec (motive:=λ_=>Q4 (QT α n)) (λa b c d=>⟨a,b,c,(e (Nat.div i 4)).f v d⟩) q⟩) n
noncomputable def q0(α:Type)(n:Nat):QT α n:=Nat.rec (To.leaf:To α) (λ_ a=>(⟨a,a,a,a⟩:Q4 _)) n
theorem Xn(α:Type) (n i:Nat):qg α (n+1) i=YE i
   ⟨λq=>Q4.rec (motive:=λ_=>Option α) (λa _ _ _=>(qg α n (i / 4)).f a) q⟩
   ⟨λq=>Q4.rec (motive:=λ_=>Option α) (λ_ b _ _=>(qg α n (i / 4)).f b) q⟩
   ⟨λq=>Q4.rec (motive:=λ_=>Option α) (λ_ _ c _=>(qg α n (i / 4)).f c) q⟩
   ⟨λq=>Q4.rec (motive:=λ_=>Option α) (λ_ _ _ d=>(qg α n (i / 4)).f d) q⟩:=rfl
theorem zbv(α:Type) (n i:Nat):qs α (n+1) i=YE i
   ⟨λv q=>Q4.rec (motive:=λ_=>Q4 (QT α n)) (λa b c d=>⟨(qs α n (i / 4)).f v a,b,c,d⟩) q⟩
   ⟨λv q=>Q4.rec (motive:=λ_=>Q4 (QT α n)) (λa b c d=>⟨a,(qs α n (i / 4)).f v b,c,d⟩) q⟩
   ⟨λv q=>Q4.rec (motive:=λ_=>Q4 (QT α n)) (λa b c d=>⟨a,b,(qs α n (i / 4)).f v c,d⟩) q⟩
   ⟨λv q=>Q4.rec (motive:=λ_=>Q4 (QT α n)) (λa b c d=>⟨a,b,c,(qs α n (i / 4)).f v d⟩) q⟩:=rfl
theorem SZ(α:Type):∀n i,(qg α n i).f (q0 α n)=none
 |0,i=>rfl
 | n+1,i=>by
   rw[Xn];have h:i % 4=0\/i % 4=1\/i % 4=2\/i % 4=3:=by omega
   rcases h with h|h|h|h
   ·rw[zdN h];exact SZ α n (i / 4)
   ·rw[zdS h];exact SZ α n (i / 4)
   ·rw[zd7 h];exact SZ α n (i / 4)
   ·rw[zdq h];exact SZ α n (i / 4)
theorem zcp(α:Type) (v:α):∀n i j q,(qg α n j).f ((qs α n i).f v q)=if i=j then some v else(qg α n j).f q
 |0,i,j,q=>To.KJ q i j v
 | n + 1,i,j,q=>by
   let⟨a,b,c,d⟩:=(q:Q4 (QT α n))
   have hi:i % 4=0\/i % 4=1\/i % 4=2\/i % 4=3:=by omega
   have e:j % 4=0\/j % 4=1\/j % 4=2\/j % 4=3:=by omega
   have g:=λq=>zcp α v n (i / 4) (j / 4) q;rw[Xn,zbv];rcases hi with hi|hi|hi|hi <;> rcases e with e|e|e|e
   all_goals first
     |rw[zdN hi]|rw[zdS hi]|rw[zd7 hi]|rw[zdq hi]
   all_goals first
     |rw[zdN e]|rw[zdS e]|rw[zd7 e]|rw[zdq e]
   all_goals grind
def Tr(α:Type):Type:=QT α 4
noncomputable def Tr.leaf:Tr α:=q0 α 4
noncomputable def Tr.get(t:Tr α)(n:Nat):Option α:=(qg α 4 n).f t
noncomputable def Tr.set(t:Tr α)(n:Nat)(x:α):Tr α:=(qs α 4 n).f x t
theorem Tr.yX(n:Nat):(Tr.leaf:Tr α).get n=none:=SZ α 4 n
theorem Tr.KJ(t:Tr α)(n m:Nat)(x:α):(t.set n x).get m=if n=m then some x else t.get m:=zcp α x 4 n m t
inductive O where
 |cells (e sz:Nat) (live ro:Bool) (cs:List V)
 |map (b:List (V×V×Nat)) (a:Nat)
 deriving Inhabited
structure Hp where
 next:Nat
 tr:Tr O
noncomputable def Hp.get(h:Hp)(l:Nat):Option O:=Bool.rec none (h.tr.get l) (Nat.blt l h.next)
theorem Hp.get_eq(h:Hp) (l:Nat):h.get l=if l<h.next then h.tr.get l else none:=by
 show Bool.rec (motive:=λ_=>Option O) none (h.tr.get l) (Nat.blt l h.next)=_
 cases hb:Nat.blt l h.next with
 |true=>simp_all
 |false=>rw[if_neg (by grind[UC])]
theorem Hp.NC{h:Hp}  {o:O} (a:h.get l=some o):l<h.next:=by
 grind[Hp.get_eq]
noncomputable def Hp.put(h:Hp)(l:Nat)(o:O):Hp:={h with tr:=h.tr.set l o}
noncomputable def Hp.new(h:Hp)(o:O):Hp:={next:=h.next+1,tr:=h.tr.set h.next o}
noncomputable def Sv:List V->Nat->Tr V->Tr V
 |[],_,t=>t
 |v::vs,i,t=>Sv vs (i+1) (t.set i v)
inductive Tm where
 |tree (t:Tr V) (ds:List (Nat×List V))
 |fn (f:Nat->V) (ds:List (Nat×List V))
noncomputable def j5(t:Tm) (i:Nat):V:=Tm.rec (λt _=>Option.rec V.undef (λv=>v) (t.get i)) (λf _=>f i) t
noncomputable def fx(f:Nat->V)(d:Nat)(v:V):Nat->V:=λi=>Bool.rec (f i) v (Nat.beq i d)
noncomputable def Tm.set(t:Tm) (d:Nat) (v:V):Tm:=Tm.rec (λt ds=> .tree (t.set d v) ds) (λf ds=> .fn (fx f d v) ds) t
def Tm.ds:Tm->List (Nat×List V)
 | .tree _ ds=>ds
 | .fn _ ds=>ds
def Tm.push(x:Nat×List V):Tm->Tm
 | .tree t ds=> .tree t (x::ds)
 | .fn f ds=> .fn f (x::ds)
theorem NZ(t:Tm) (d i:Nat) (v:V):j5 (t.set d v) i=if d=i then v else j5 t i:=by
 cases t with
 | tree t ds=>
   show Option.rec (motive:=λ_=>V) V.undef (λv=>v) ((t.set d v).get i)=_;rw[Tr.KJ];by_cases h:d=i
   ·simp_all
   ·rw[if_neg h,if_neg h];rfl
 | fn f ds=>
   show Bool.rec (motive:=λ_=>V) (f i) v (Nat.beq i d)=_
   cases hb:Nat.beq i d with
   |true=>simp_all
   |false=>rw[if_neg (by grind[YH])];rfl
theorem Tm.ZS(t:Tm)(d:Nat)(v:V):(t.set d v).ds=t.ds:=by cases t <;> rfl
noncomputable def Vh(args:List V):Tm:= .tree (Sv args 0 .leaf) []
def zt(args:List V):Tm:= .fn (λi=>(args[i]?).getD .undef) []
noncomputable def P0:Program:=Tryz.prog
attribute [irreducible] P0
def zfp:List (Nat×Array Value):=[]
noncomputable section ops
def oB(x:Option α)(k:α->Option β):Option β:=Option.rec none k x
def bB(c:Bool)(k:Option β):Option β:=Bool.rec none k c
def B2 (v:V) (k:Nat->Nat->Option β):Option β:=match v with
 | .ptr l o=>k l o
 |_=>none
def asNat (v:V) (k:Nat->Option β):Option β:=match v with
 | .int _ (.ofNat n)=>k n
 |_=>none
def El(t:Nat):Option Nat:=oB (P0.info? t) λi=>some i.size
def zbx(t:Nat):Option Nat:=oB (P0.info? t) λi=>some i.bytes
def U8(t:Nat):Option Bool:=match P0.underlying t with
 |some (.struct _)=>some true
 |some (.array _ _)=>some true
 |some _=>some false
 |none=>none
def zeroV(t:Nat):Option V:=oB (P0.info? t) λi=>oB i.zero λz=>mL 8 z
def takeN:Nat->List V->Option (List V)
 |0,_=>some []
 |_+1,[]=>none
 |n+1,v::vs=>oB (takeN n vs) λl=>some (v::l)
def sub(cs:List V)(off n:Nat):Option (List V):=takeN n (cs.drop off)
def B6(cs:List V)(off:Nat):Option V:=(cs.drop off).head?
def over:List V->List V->Option (List V)
 |[],cs=>some cs
 |_::_,[]=>none
 |n::ns,_::cs=>oB (over ns cs) λl=>some (n::l)
def qB:Nat->List V->List V->Option (List V)
 |0,cs,new=>over new cs
 |_+1,[],_=>none
 |k+1,c::cs,new=>oB (qB k cs new) λl=>some (c::l)
def gj:List V->Bool
 |[]=>true
 |v::vs=>Bool.rec false (gj vs) v.one
def ko (h:Hp) (l:Nat) (k:Nat->Nat->Bool->Bool->List V->Option β):Option β:=oB (h.get l) λo=>match o with
 | .cells e sz live ro cs=>k e sz live ro cs
 |_=>none
def FP (h:Hp) (l:Nat) (k:List (V×V×Nat)->Nat->Option β):Option β:=oB (h.get l) λo=>match o with
 | .map a c=>k a c
 |_=>none
def Lo(h:Hp)(l off n:Nat):Option (List V):=ko h l λ_ _ live _ cs=>bB live (sub cs off n)
def ld1(h:Hp)(l off:Nat):Option V:=ko h l λ_ _ live _ cs=>bB live (B6 cs off)
def Ky(h:Hp) (l off:Nat) (new:List V):Option Hp:=ko h l λe sz live ro cs=>bB live (bB (!ro) (bB (gj new) (oB (qB off cs new) λqY=>some (h.put l (.cells e sz true false qY)))))
structure PF where
 f:Tm->Hp->Option V
structure NF where
 f:Tm->Option V
structure AF where
 f:Tm->Option (O×(Nat->V))
def Pg:Operand->NF
 | .tmp i=>⟨λt=>some (j5 t i)⟩
 | .const v=>match mL 8 v with
   |some v=>⟨λ_=>some v⟩
   |none=>⟨λ_=>none⟩
 | .global _=>⟨λ_=>none⟩
 | .func f=>⟨λ_=>some (.func f [] [])⟩
def Ab(x:Operand):PF:=match x with
 | .global g=>match Nat.blt g P0.globals.size with
   |true=>⟨λ_ h=>oB (h.get g) λ_=>some (.ptr g 0)⟩
   |false=>⟨λ_ _=>none⟩
 |x=>⟨λt _=>(Pg x).f t⟩
def NP(t:Tm):List Operand->Option (List V)
 |[]=>some []
 |x::xs=>oB ((Pg x).f t) λv=>oB (NP t xs) λvs=>some (v::vs)
def yf(t:Tm):List (Nat×Operand)->Option (List (Nat×V))
 |[]=>some []
 |x::xs=>oB ((Pg x.2).f t) λv=>oB (yf t xs) λvs=>some ((x.1,v)::vs)
def Of(t:Nat) (a:PF):PF:=match U8 t with
 | some true=>match El t with
   |some n=>⟨λt h=>oB (a.f t h) λa=>B2 a λl off=>oB (Lo h l off n) λcs=>some (.agg cs)⟩
   |none=>⟨λ_ _=>none⟩
 |some false=>⟨λt h=>oB (a.f t h) λa=>B2 a λl off=>ld1 h l off⟩
 |none=>⟨λ_ _=>none⟩
def placesOf:List Field->Option (List (Nat×Nat))
 |[]=>some []
 |f::fs=>oB (El f.type) λn=>oB (placesOf fs) λl=>some ((f.offset,n)::l)
def FT(place:Nat->Option (Nat×Nat)):List V->List (Nat×V)->Option (List V)
 |cells,[]=>some cells
 |cells,x::rest=>oB (place x.1) λp=>bB (Nat.beq x.2.cells.length p.2) (oB (qB p.1 cells x.2.cells) λcs=>FT place cs rest)
def CU:Nat->List V->List V
 |0,_=>[]
 |n+1,z=>z++CU n z
def Ka(t:Nat) (parts:List (Nat×Operand)):PF:=match zeroV t with
 | some z=>match P0.underlying t with
   | some (.struct fields)=>match placesOf fields.toList with
     |some a=>⟨λt _=>oB (yf t parts) λb=>oB (FT (λi=>a[i]?) z.cells b) λcs=>some (.agg cs)⟩
     |none=>⟨λ_ _=>none⟩
   |_=>⟨λ_ _=>none⟩
 |none=>⟨λ_ _=>none⟩
def lO(k:IntKind) (n:Int):Int:=match n with
 | .ofNat m=>match Nat.blt m (match k with| .i8=>128| .u8=>256| .i16=>32768| .u16=>65536| .i32=>2147483648| .u32=>4294967296| .i64=>9223372036854775808| .u64=>18446744073709551616)with
   |true=> .ofNat m
   |false=>k.wrap (.ofNat m)
 | .negSucc m=>k.wrap (.negSucc m)
def hint(op:BinOp) (k:IntKind) (x y:Int):Option V:=match op with
 | .add=>some (.int k (lO k (x+y)))
 | .sub=>some (.int k (lO k (x-y)))
 | .mul=>some (.int k (lO k (x*y)))
 | .quo=>match x,y with
   |_,.ofNat 0=>none
   |x,y=>some (.int k (lO k (x.tdiv y)))
 | .rem=>match x,y with
   |_,.ofNat 0=>none
   |x,y=>some (.int k (x.tmod y))
 | .eql=>some (.bool (x == y))
 | .neq=>some (.bool (x != y))
 | .lss=>some (.bool (x<y))
 | .leq=>some (.bool (x<=y))
 | .gtr=>some (.bool (x>y))
 | .geq=>some (.bool (x>=y))
 |_=>none
def Vv(op:BinOp) (k:IntKind) (x y:Int):Option V:=match y with
 | .negSucc _=>none
 | .ofNat m=>match op with
   | .shl=>some (.int k (k.wrap (x*2 ^ (min m k.bits))))
   | .shr=>some (.int k (x.fdiv (2 ^ (min m k.bits))))
   |_=>none
def zdl(op:BinOp) (x y:List UInt8):Option V:=match op with
 | .eql=>some (.bool (x == y))
 | .neq=>some (.bool (!(x == y)))
 |_=>none
def zdL(d:TypeDesc) (x y:V):Option Bool:=match d,x,y with
 | .bool,.bool a,.bool b=>some (a == b)
 |_,_,_=>none
def UG:IntKind->IntKind->Bool
 | .i8,.i8| .i16,.i16| .i32,.i32| .i64,.i64| .u8,.u8| .u16,.u16| .u32,.u32| .u64,.u64=>true
 |_,_=>false
def zav(t:Nat) (x y:V):Option Bool:=match P0.underlying t with
 |some d=>zdL d x y
 |none=>none
def zds(t:Nat)(x y:V):Option Bool:=zav t x y
def Yk(t:Nat)(a:Bool)(x y:V):Option V:=oB (zds t x y) λb=>some (.bool (Bool.rec b (!b) a))
def Xf:BinOp->Bool
 | .shl| .shr=>true
 |_=>false
def ez(op:BinOp) (t:Nat) (x y:V):Option V:=match x,y with
 | .int k a,.int k' b=>match Xf op with
   |true=>Vv op k a b
   |false=>bB (UG k k') (hint op k a b)
 | .str a,.str b=>zdl op a b
 | x,y=>match op with
   | .eql=>Yk t false x y
   | .neq=>Yk t true x y
   |_=>none
def pK(op:UnOp) (x:V):Option V:=match op,x with
 | .neg,.int k n=>some (.int k (lO k (Int.sub 0 n)))
 | .not,.bool b=>some (.bool !b)
 |_,_=>none
def Qb(a dst:Nat) (x:PF):PF:=match P0.underlying a,P0.underlying dst with
 | some (.int _),some (.int k)=>⟨λt h=>oB (x.f t h) λx=>match x with
   | .int _ n=>some (.int k (lO k n))
   |_=>none⟩
 |_,_=>⟨λ_ _=>none⟩
def zaE(t:Nat):List V->Nat->Option V:=match U8 t with
 | some true=>match El t with
   |some n=>λcs off=>oB (sub cs off n) λl=>some (.agg l)
   |none=>λ_ _=>none
 |some false=>λcs off=>B6 cs off
 |none=>λ_ _=>none
def Sc(s f:Nat):Option Field:=match P0.underlying s with
 |some (.struct fields)=>fields.toList[f]?
 |_=>none
def sd(s:Nat) (x:PF) (f:Nat):PF:=match Sc s f with
 | some a=>match El a.type with
   |some (_+1)=>⟨λt h=>oB (x.f t h) λx=>B2 x λl off=>some (.ptr l (Nat.add off a.offset))⟩
   |_=>⟨λ_ _=>none⟩
 |none=>⟨λ_ _=>none⟩
def rX(t:Nat) (x i:PF):PF:=match P0.underlying t with
 | some (.slice elem)=>match El elem with
   | some n=>⟨λt h=>oB (x.f t h) λx=>oB (i.f t h) λi=>asNat i λi=>match x with
     | .slice l off len=>bB (Nat.blt i len) (some (.ptr l (Nat.add off (Nat.mul i n))))
     |_=>none⟩
   |none=>⟨λ_ _=>none⟩
 | some (.array len elem)=>match El elem with
   |some n=>⟨λt h=>oB (x.f t h) λx=>oB (i.f t h) λi=>asNat i λi=>B2 x λl off=>bB (Nat.blt i len) (some (.ptr l (Nat.add off (Nat.mul i n))))⟩
   |none=>⟨λ_ _=>none⟩
 |_=>⟨λ_ _=>none⟩
def J7(t:Nat) (x i:PF):PF:=match P0.underlying t with
 | some .string=>⟨λt h=>oB (x.f t h) λx=>oB (i.f t h) λi=>asNat i λi=>match x with
   | .str s=>oB ((s.drop i).head?) λb=>some (.int .u8 (.ofNat b.toNat))
   |_=>none⟩
 |_=>⟨λ_ _=>none⟩
def hbound(d:Nat):Option V->Option Nat
 |none=>some d
 |some (.int _ (.ofNat n))=>some n
 |some _=>none
def iY(size:Nat) (x:V) (lo hi:Option V) (h:Hp):Option V:=match x with
 | .slice lc off len=>ko h lc λ_ sz _ _ cs=>bB (Nat.beq size sz) (oB (hbound 0 lo) λl=>oB (hbound len hi) λu=>
   bB (Nat.ble l u) (bB (Nat.ble u len ||Nat.ble (Nat.add off (Nat.mul u size)) cs.length) (some (.slice lc (Nat.add off (Nat.mul l size)) (Nat.sub u l)))))
 | .ei=>oB (hbound 0 lo) λl=>oB (hbound 0 hi) λu=>bB (Nat.beq l 0) (bB (Nat.beq u 0) (some .ei))
 |_=>none
def QO(x:V) (lo hi:Option V):Option V:=match x with
 | .str s=>oB (hbound 0 lo) λl=>oB (hbound s.length hi) λu=>bB (Nat.ble l u) (bB (Nat.ble u s.length) (some (.str ((s.drop l).take (Nat.sub u l)))))
 |_=>none
def Ko(x:Option Operand) (t:Tm) (h:Hp):Option (Option V):=match x with
 |none=>some none
 |some x=>oB ((Ab x).f t h) λv=>some (some v)
def Ml(t:Nat) (x:PF) (lo hi:Option Operand):PF:=match P0.underlying t with
 |some .string=>⟨λt h=>oB (x.f t h) λx=>oB (Ko lo t h) λl=>oB (Ko hi t h) λu=>QO x l u⟩
 | some (.slice elem)=>match El elem with
   |some (n+1)=>⟨λt h=>oB (x.f t h) λx=>oB (Ko lo t h) λl=>oB (Ko hi t h) λu=>iY (Nat.succ n) x l u h⟩
   |_=>⟨λ_ _=>none⟩
 |_=>⟨λ_ _=>none⟩
def K3:V->Bool
 | .int _ _| .str _| .bool _=>true
 |_=>false
def Mg:V->Bool
 | .agg cs=>cs.all K3
 |v=>K3 v
def ET(t:Nat) (a b:V):Option Bool:=match P0.underlying t with
 | some (.int _)=>match a,b with
   | .int k a,.int k' b=>bB (UG k k') (some (a == b))
   |_,_=>none
 | some .string=>match a,b with
   | .str a,.str b=>some (a == b)
   |_,_=>none
 | some .bool=>match a,b with
   | .bool a,.bool b=>some (a == b)
   |_,_=>none
 |_=>none
def FM(t:Nat):Bool:=match P0.underlying t with
 |some (.int _)|some .string|some .bool=>true
 |_=>false
def Mz:List Field->List V->List V->Option Bool
 |[],_,_=>some true
 |f::fs,x,y=>oB (B6 x f.offset) λa=>oB (B6 y f.offset) λb=>oB (ET f.type a b) λe=>Bool.rec (some false) (Mz fs x y) e
def K9(t:Nat):Option (Option (List Field)):=match P0.underlying t with
 |some (.int _)|some .string|some .bool=>some none
 | some (.struct fs)=>match !P0.stoodInHeld t&&fs.toList.all (λf=>FM f.type&&f.name != "_")with
   |true=>some (some fs.toList)
   |false=>none
 |_=>none
def Oe(t:Nat) (d:Option (List Field)) (a b:V):Option Bool:=match d with
 |none=>ET t a b
 | some fs=>match a,b with
   | .agg x,.agg y=>Mz fs x y
   |_,_=>none
def JF(d:Option (List Field)) (k:V):Bool:=match d with
 |none=>true
 | some fs=>match k with
   | .agg x=>fs.all λf=>(B6 x f.offset).isSome
   |_=>false
def ri(t:Nat) (d:Option (List Field)) (k:V):List (V×V×Nat)->Nat->Option (Option (Nat×V))
 |[],_=>some none
 |e::es,i=>oB (Oe t d k e.1) λb=>Bool.rec (ri t d k es (Nat.succ i)) (some (some (i,e.2.1))) b
def found(z:V) (ok:Bool) (r:Option (Nat×V)):V:=match r,ok with
 |some (_,v),true=> .tuple [v,.bool true]
 |some (_,v),false=>v
 |none,true=> .tuple [z,.bool false]
 |none,false=>z
def HS(a:Nat) (m k:PF) (ok:Bool):PF:=match P0.underlying a with
 | some (.map kt et)=>match K9 kt,zeroV et with
   |some d,some z=>⟨λt h=>oB (m.f t h) λm=>oB (k.f t h) λk=>bB (JF d k) (match m with
      | .oH=>some (found z ok none)
      | .map l=>FP h l λb _=>oB (ri kt d k b 0) λr=>some (found z ok r)
      |_=>none)⟩
   |_,_=>⟨λ_ _=>none⟩
 |_=>⟨λ_ _=>none⟩
def hlen(t:Nat) (x:PF):PF:=match P0.underlying t with
 | some .string=>⟨λt h=>oB (x.f t h) λx=>match x with
   | .str s=>some (.int .i64 (.ofNat s.length))
   |_=>none⟩
 | some (.slice _)=>⟨λt h=>oB (x.f t h) λx=>match x with
   | .slice _ _ n=>some (.int .i64 (.ofNat n))
   | .ei=>some (.int .i64 (.ofNat 0))
   |_=>none⟩
 |_=>⟨λ_ _=>none⟩
def TS(c:Bool):V->List V->Option V
 |x,[]=>some x
 | .int k a,.int _ b::r=>TS c (.int k (if c then(if b>a then b else a) else(if b<a then b else a))) r
 |_,_=>none
def MH(c a b:PF):PF:=⟨λt h=>oB (c.f t h) λc=>match c with
 | .bool x=>Bool.rec (b.f t h) (a.f t h) x
 |_=>none⟩
def Ap(x:PF):PF:=⟨λt h=>oB (x.f t h) λx=>match x with
 | .ptr l off=>some (.ptr l off)
 | .func f a c=>some (.func f a c)
 |_=>none⟩
def GY(x:PF) (i:Nat):PF:=⟨λt h=>oB (x.f t h) λx=>match x with
 | .tuple vs=>B6 vs i
 |_=>none⟩
def zdA:PF:=⟨λ_ _=>none⟩
def iJ(o:Oper):PF:=match o.op with
 | .move x=>Ab x
 | .assign x=>Ab x
 | .pick c a b=>MH (Ab c) (Ab a) (Ab b)
 | .load ty a=>Of ty (Ab a)
 | .nilCheck x=>Ap (Ab x)
 | .binOp op e x y _=>⟨λt h=>oB ((Ab x).f t h) λa=>oB ((Ab y).f t h) λb=>ez op e a b⟩
 | .unOp op _ x=>⟨λt h=>oB ((Ab x).f t h) λa=>pK op a⟩
 | .convert d dst x=>Qb d dst (Ab x)
 | .build ty parts=>Ka ty parts.toList
 | .makeFunc (.func f) first caps=>⟨λt _=>oB (NP t first.toList) λa=>oB (NP t caps.toList) λc=>some (.func f a c)⟩
 | .slice ty x lo hi none=>Ml ty (Ab x) lo hi
 | .fieldAddr s x f=>sd s (Ab x) f
 | .indexAddr ty x i=>rX ty (Ab x) (Ab i)
 | .index ty x i=>J7 ty (Ab x) (Ab i)
 | .lookup ty m k ok=>HS ty (Ab m) (Ab k) ok
 | .extract x i=>GY (Ab x) i
 | .call c=>match c.callee with
   | .builtin .len=>match c.args.toList,c.argTypes.toList with
     |[x],ty::_=>hlen ty (Ab x)
     |_,_=>zdA
   | .builtin .min=>⟨λt _=>oB (NP t c.args.toList) λl=>match l with
     |x::r=>TS false x r
     |[]=>none⟩
   |_=>zdA
 |_=>zdA
def mi(e:Nat)(v:V):Option (O×(Nat->V)):=bB (gj v.cells) (some (.cells e 1 true false v.cells,λl=> .ptr l 0))
def Ho(a size len:Nat) (z:V) (parts:List (Nat×Operand)) (t:Tm):Option (O×(Nat->V)):=oB (yf t parts) λb=>oB (FT (λi=>some (Nat.mul i size,size)) (CU len z.cells) b) λcs=>bB (gj cs) (some (.cells a size true false cs,λl=> .slice l 0 len))
def gX(a size jL:Nat) (z:V) (n c:V):Option (O×(Nat->V)):=match n,c with
 | .int .i64 (.ofNat n),.int .i64 (.ofNat c)=>bB (Nat.ble n c) (bB (Nat.ble (Nat.mul c jL) 281474976710656) (bB (Nat.ble c 1099511627776)
   (some (.cells a size true false (CU c z.cells),λl=> .slice l 0 n))))
 |_,_=>none
def elemOf(a:Nat):Option (Nat×Nat×V):=oB (El a) λsize=>oB (zbx a) λjL=>oB (zeroV a) λz=>bB (Nat.blt 0 size) (bB (Nat.beq z.cells.length size) (bB (gj z.cells) (some (size,jL,z))))
def KZ(t:Nat):Option Nat:=match P0.underlying t with
 |some (.slice e)=>some e
 |_=>none
def Um:AF:=⟨λ_=>none⟩
def su(o:Oper):AF:=match o.op with
 | .alloc e=>match zeroV e with
   |some z=>⟨λ_=>mi e z⟩
   |none=>Um
 | .box e x=>⟨λt=>oB ((Pg x).f t) λv=>mi e v⟩
 | .buildSlice ty len parts=>match KZ ty with
   | some a=>match elemOf a with
     | some (size,_,z)=>match Nat.ble (Nat.mul len size) 16777216 with
       |true=>⟨λt=>Ho a size len z parts.toList t⟩
       |false=>Um
     |none=>Um
   |none=>Um
 | .makeSlice ty n c=>match KZ ty with
   | some a=>match elemOf a with
     |some (size,jL,z)=>⟨λt=>oB ((Pg n).f t) λn=>oB ((Pg c).f t) λc=>gX a size jL z n c⟩
     |none=>Um
   |none=>Um
 | .makeMap ty none=>match P0.underlying ty with
   |some (.map _ _)=>⟨λ_=>some (.map [] 0,λl=> .map l)⟩
   |_=>Um
 |_=>Um
inductive R where
 |val (v:V) (h:Hp)
 |call (f:Nat) (args:List V)
structure WF where
 f:Tm->Hp->Option R
def kX(h:Hp) (size:Nat):V->Option (Nat×List V)
 | .ei=>some (0,[])
 | .slice _ _ 0=>some (0,[])
 | .slice l off (n+1)=>oB (Lo h l off (Nat.mul (Nat.succ n) size)) λcs=>some (Nat.succ n,cs)
 |_=>none
def fi(a size jL:Nat) (s x:V) (h:Hp):Option R:=oB (kX h size x) λnx=>
 Bool.rec
  (bB (gj nx.2) (match s with
   | .ei=>bB (Nat.ble (Nat.mul nx.1 jL) 70368744177664) (bB (Nat.ble nx.1 70368744177664)
     (some (.val (.slice h.next 0 nx.1) (h.new (.cells a size true false nx.2)))))
   | .slice l off len=>ko h l λe sz live ro cs=>bB live (bB (!ro) (bB (Nat.beq sz size)
     (Bool.rec
      (oB (sub cs off (Nat.mul len size)) λAe=>bB (gj Ae) (bB (Nat.ble (Nat.mul (Nat.add len nx.1) jL) 70368744177664) (bB (Nat.ble (Nat.add len nx.1) 70368744177664)
       (some (.val (.slice h.next 0 (Nat.add len nx.1)) ((h.put l (.cells e sz false false cs)).new (.cells a size true false (Ae++nx.2))))))))
      (oB (qB (Nat.add off (Nat.mul len size)) cs nx.2) λqY=>some (.val (.slice l off (Nat.add len nx.1)) (h.put l (.cells e sz true false qY))))
      (Nat.ble (Nat.add off (Nat.mul (Nat.add len nx.1) size)) cs.length))))
   |_=>none))
  (match s with
   | .ei=>some (.val .ei h)
   | .slice l off len=>some (.val (.slice l off len) h)
   |_=>none)
  (Nat.beq nx.1 0)
def LD(t:Nat) (d:Option (List Field)) (b:List (V×V×Nat)) (a:Nat) (k v:V):Option O:=oB (ri t d k b 0) λr=>match r with
 |some (i,_)=>oB b[i]? λe=>bB (V.beq e.1 k) (bB (Mg k) (some (.map (b.set i (k,v,e.2.2)) a)))
 |none=>some (.map (b++[(k,v,a)]) (Nat.succ a))
def MT(t:Nat) (d:Option (List Field)) (m k v:V) (h:Hp):Option R:=bB (JF d k) (match m with
 | .map l=>FP h l λa c=>oB (LD t d a c k v) λo=>some (.val .undef (h.put l o))
 |_=>none)
def Ci(t:Nat) (d:Option (List Field)) (m k:V) (h:Hp):Option R:=bB (JF d k) (match m with
 | .oH=>some (.val (.tuple []) h)
 | .map l=>FP h l λa c=>oB (ri t d k a 0) λr=>match r with
   |some (i,_)=>some (.val (.tuple []) (h.put l (.map (a.eraseIdx i) c)))
   |none=>some (.val (.tuple []) h)
 |_=>none)
def gi(f:V) (args:List V):Option R:=match f with
 | .func f first a=>some (.call f (first++(args++a)))
 |_=>none
def N0:WF:=⟨λ_ _=>none⟩
def mr(o:Oper):WF:=match o.op with
 | .store ty a x=>match El ty with
   |some n=>⟨λt h=>oB ((Ab a).f t h) λa=>oB ((Ab x).f t h) λv=>B2 a λl off=>
      bB (Nat.beq v.cells.length n) (oB (Ky h l off v.cells) λh=>some (.val .undef h))⟩
   |none=>N0
 | .mapUpdate ty m k x=>match P0.underlying ty with
   | some (.map kt _)=>match K9 kt with
     |some d=>⟨λt h=>oB ((Ab m).f t h) λm=>oB ((Ab k).f t h) λk=>oB ((Ab x).f t h) λv=>MT kt d m k v h⟩
     |none=>N0
   |_=>N0
 | .call c=>match c.callee with
   | .builtin .append=>match c.args.toList,c.argTypes.toList with
     | [s,x],[sT,xT]=>match KZ sT,P0.underlying xT with
       | some elem,some (.slice _)=>match elemOf elem with
         |some (size,jL,_)=>⟨λt h=>oB ((Ab s).f t h) λs=>oB ((Ab x).f t h) λx=>fi elem size jL s x h⟩
         |none=>N0
       |_,_=>N0
     |_,_=>N0
   | .builtin .delete=>match c.args.toList,c.argTypes.toList with
     | [m,k],mT::_=>match P0.underlying mT with
       | some (.map kt _)=>match K9 kt with
         |some d=>⟨λt h=>oB ((Ab m).f t h) λm=>oB ((Ab k).f t h) λk=>Ci kt d m k h⟩
         |none=>N0
       |_=>N0
     |_,_=>N0
   | .value f=>⟨λt h=>oB ((Ab f).f t h) λf=>oB (NP t c.args.toList) λargs=>gi f args⟩
   |_=>N0
 |_=>N0
def cls(o:Oper):Nat:=match o.op with
 | .alloc _| .box _ _| .buildSlice _ _ _| .makeSlice _ _ _| .makeMap _ _=>1
 | .move _| .assign _| .pick _ _ _| .load _ _| .nilCheck _| .binOp _ _ _ _ _| .unOp _ _ _| .build _ _| .makeFunc _ _ _| .slice _ _ _ _ _
 | .fieldAddr _ _ _| .indexAddr _ _ _| .index _ _ _| .lookup _ _ _ _| .extract _ _=>0
 | .call c=>match c.callee with
   | .builtin .len| .builtin .min=>0
   |_=>2
 | .convert a dst _=>match P0.underlying a,P0.underlying dst with
   |some (.int _),some (.int _)=>0
   |_,_=>2
 |_=>2
abbrev Call:=Nat->List V->Hp->Option (V×Hp)
structure RF where
 f:Call->Tm->Hp->Option (V×Hp)
def JT(o:Oper):RF:=match cls o with
 |0=>⟨λ_ t h=>oB ((iJ o).f t h) λv=>some (v,h)⟩
 |1=>⟨λ_ t h=>oB ((su o).f t) λr=>some (r.2 h.next,h.new r.1)⟩
 | _=>⟨λcall t h=>oB ((mr o).f t h) λr=>match r with
   | .val v h=>some (v,h)
   | .call f args=>call f args h⟩
structure GF where
 f:Tm->Option Bool
def kR(n:Nat) (ops:List Oper) (o:Oper):Option GF:=match o.guard with
 |none=>none
 | some (j,w)=>match ops[j]? with
   | some a=>match a.dst with
     | some d=>match Nat.blt d n with
       | true=>some ⟨λt=>match j5 t d with
         | .bool b=>some (Bool.rec (!w) w b)
         | .tuple []=>some false
         |_=>none⟩
       |false=>some ⟨λ_=>none⟩
     |none=>some ⟨λ_=>some false⟩
   |none=>some ⟨λ_=>some false⟩
structure DF where
 f:Tm->V->Tm
def AZ(n:Nat) (o:Oper):Option DF:=match o.dst with
 |none=>some ⟨λt _=>t⟩
 | some d=>match Nat.blt d n with
   |true=>some ⟨λt v=>t.set d v⟩
   |false=>none
structure SF where
 f:Call->Tm->Hp->Option (Tm×Hp)
def zfX:SF:=⟨λ_ _ _=>none⟩
structure QF where
 f:Tm->Hp->Option Tm
def Lp(n:Nat) (all:List Oper) (o:Oper) (a:SF):SF:=match AZ n o with
 |none=>zfX
 | some d=>match kR n all o with
   |none=>⟨λcall t h=>oB ((JT o).f call t h) λr=>a.f call (d.f t r.1) r.2⟩
   |some g=>⟨λcall t h=>oB (g.f t) λb=>Bool.rec (a.f call (d.f t .undef) h)
      (oB ((JT o).f call t h) λr=>a.f call (d.f t r.1) r.2) b⟩
def vH(n:Nat) (all:List Oper):List Oper->SF
 |[]=>⟨λ_ t h=>some (t,h)⟩
 |o::os=>Lp n all o (vH n all os)
structure It where
 i:Nat
 o:Oper
 b:Nat
def NQ(e:Edge):Bool:=match e.ground with
 | .textOnly _| .gcOnly _=>false
 |_=>true
def NX(a:List Nat):List Edge->Nat->Nat
 |[],m=>m
 | e::es,m=>match NQ e with
   |true=>NX a es (m |||(2 ^ e.on |||a[e.on]?.getD 0))
   |false=>NX a es m
def items:List Oper->Nat->List Nat->List It
 |[],_,_=>[]
 |o::os,i,acc=>{i,o,b:=NX acc o.after.toList 0}::items os (i+1) (acc++[NX acc o.after.toList 0])
def CB:List Operand->List Nat
 |[]=>[]
 | .tmp t::xs=>t::CB xs
 |_::xs=>CB xs
def sZ(o:Oper):List Nat:=o.dst.toList++CB o.op.operands.toList
def writes(o:Oper) (l:List Nat):Bool:=match o.dst with
 |some d=>l.contains d
 |none=>false
def RC(a b:It):Bool:=(!(writes a.o (sZ b.o))&&!(writes b.o (sZ a.o))) ||b.b.testBit a.i
def sX:List It->Bool
 |[]=>true
 |a::l=>l.all (RC a)&&sX l
def ER(kj:List It) (a:It):Bool:=match a.o.guard with
 |none=>true
 | some (j,_)=>match kj[j]? with
   | some g=>match g.o.dst with
     |some d=>a.b.testBit j&&kj.all (λx=>x.i == j || !(x.o.dst == some d))
     |none=>false
   |none=>false
def Cb(a:It):Bool:=a.o.after.toList.all λe=>!NQ e ||Nat.blt e.on a.i
def Ig:List It->Bool
 |a::b::l=>b.b.testBit a.i&&Ig (b::l)
 |_=>true
def Rk(kj ws:List It):Bool:=sX kj&&kj.all (ER kj)&&kj.all Cb&&Ig ws
def early(ws:List It)(a:It):Nat:=(ws.filter λw=>a.b.testBit w.i).length
def late:List It->It->Nat
 |[],_=>0
 | w::ws,a=>match w.b.testBit a.i with
   |true=>0
   |false=>late ws a+1
def O.beq:O->O->Bool
 | .cells e s a r cs,.cells e' s' a' r' qY=>e == e'&&s == s'&&a == a'&&r == r'&&V.O6 cs qY
 | .map [] c,.map [] c'=>c == c'
 |_,_=>false
structure Rec where
 it:It
 t:Tm
 v:V
 made:Option (Nat×O)
 last:Nat
def z7(h:Hp) (r:Rec):Bool:=match r.made with
 | none=>match (iJ r.it.o).f r.t h with
   |some v=>V.beq v r.v
   |none=>false
 | some (l,ob)=>match h.get l with
   |some a=>O.beq a ob
   |none=>false
def qK(n:Nat) (all:List Oper) (o:Oper) (t:Tm):Option Bool:=match kR n all o with
 |none=>some true
 |some g=>g.f t
def CI(k:Nat)(h:Hp)(rs:List Rec):Bool:=rs.all λr=>Nat.blt r.last k ||z7 h r
def Xb(kj ws:List It)(k:Nat):List It:=kj.filter λa=>!(Nat.beq (cls a.o) 2)&&Nat.beq (early ws a) k
def order(kj ws:List It):List It->Nat->List It
 |[],k=>Xb kj ws k
 |w::todo,k=>Xb kj ws k++w::order kj ws todo (Nat.succ k)
def Ni(ws:List It) (a:It):Nat->Bool
 |0=>true
 | k+1=>match ws[k]? with
   |some w=>a.b.testBit w.i
   |none=>false
def isW(ws:List It) (a:It) (k:Nat):Bool:=match ws[k]? with
 |some w=>Nat.beq w.i a.i
 |none=>false
def yd(kj ws:List It):List It->Nat->Nat->Bool
 |[],m,k=>kj.all (λa=>m.testBit a.i)&&Nat.beq k ws.length
 | a::l,m,k=>!m.testBit a.i&&(kj.all (λx=>!a.b.testBit x.i ||m.testBit x.i)&&(match Nat.beq (cls a.o) 2 with
   |true=>isW ws a k&&yd kj ws l (m |||2 ^ a.i) (Nat.succ k)
   |false=>Ni ws a k&&yd kj ws l (m |||2 ^ a.i) k))
structure LF where
 f:Call->Tm->Hp->List Rec->Option (Tm×Hp)
def Jl(n:Nat) (all:List Oper) (ws:List It) (a:It) (d:DF) (c:LF):LF:=⟨λcall t h rs=>oB (qK n all a.o t) λb=>Bool.rec (c.f call (d.f t .undef) h rs) (oB ((iJ a.o).f t h) λv=>c.f call (d.f t v) h ({it:=a,t,v,made:=none,last:=late ws a}::rs)) b⟩
def G7(n:Nat) (all:List Oper) (ws:List It) (a:It) (d:DF) (c:LF):LF:=⟨λcall t h rs=>oB (qK n all a.o t) λb=>Bool.rec (c.f call (d.f t .undef) h rs) (oB ((su a.o).f t) λr=>c.f call (d.f t (r.2 h.next)) (h.new r.1) ({it:=a,t,v:=r.2 h.next,made:=some (h.next,r.1),last:=late ws a}::rs)) b⟩
def CM(n:Nat) (all:List Oper) (k:Nat) (a:It) (d:DF) (c:LF):LF:=⟨λcall t h rs=>bB (CI k h rs) (oB (qK n all a.o t) λb=>Bool.rec (c.f call (d.f t .undef) h rs) (oB ((JT a.o).f call t h) λx=>bB (Nat.ble h.next x.2.next) (c.f call (d.f t x.1) x.2 rs)) b)⟩
def yN(n:Nat) (all:List Oper) (ws:List It):List It->Nat->LF
 |[],k=>⟨λ_ t h rs=>bB (CI k h rs) (some (t,h))⟩
 | a ::l,k=>match AZ n a.o with
   |none=>⟨λ_ _ _ _=>none⟩
   | some d=>match cls a.o with
     |0=>Jl n all ws a d (yN n all ws l k)
     |1=>G7 n all ws a d (yN n all ws l k)
     |_=>CM n all k a d (yN n all ws l (Nat.succ k))
def gZ(kj:List It):List It:=kj.filter λa=>Nat.beq (cls a.o) 2
def TB:Operand->Bool
 | .global _=>false
 |_=>true
def storeAt(o:Oper):Option Nat:=match o.op with
 | .store _ (.tmp d) x=>match o.guard,o.dst,TB x with
   |none,none,true=>some d
   |_,_,_=>none
 |_=>none
def Lf(o:Oper):Bool:=match o.op with
 | .move x| .nilCheck x| .fieldAddr _ x _=>TB x
 | .indexAddr _ x i=>TB x&&TB i
 |_=>false
def Nc:List It->Option (It×It)
 |[]=>none
 |[_]=>none
 |[a,b]=>some (a,b)
 |_::b::c::l=>Nc (b::c::l)
def JM:List It->Bool
 | a::b::c::l=>b.b.testBit a.i&&(match l with
   |[]=>c.b.testBit a.i
   |_=>true)&&JM (b::c::l)
 |_=>true
def fixed(kj:List It)(a:It):Bool:=(CB a.o.op.operands.toList).all λd=>kj.all λx=>!(writes x.o [d]) ||a.b.testBit x.i
def QZ(kj:List It) (a b:It):Bool:=kj.all λx=>Nat.beq x.i a.i ||Nat.beq x.i b.i ||(a.b.testBit x.i&&b.b.testBit x.i) || (Nat.beq (cls x.o) 0&&Lf x.o&&x.o.guard.isNone&&!x.b.testBit a.i&&!x.b.testBit b.i)
def Lm(kj ws:List It):Option (It×It×Nat×Nat):=match Nc ws with
 | some (a,b)=>match storeAt a.o,storeAt b.o with
   | some da,some db=>match fixed kj a&&fixed kj b&&QZ kj a b&&JM ws with
     |true=>some (a,b,da,db)
     |false=>none
   |_,_=>none
 |none=>none
def Z8:V->V->Bool
 | .ptr l _,.ptr l' _=>!(Nat.beq l l')
 |_,_=>false
def QN(kj:List It):Bool:=sX kj&&kj.all (ER kj)&&kj.all Cb
def Oz(n:Nat) (all:List Oper):SF:=
 match Rk (items all 0 []) (gZ (items all 0 []))&&yd (items all 0 []) (gZ (items all 0 [])) (order (items all 0 []) (gZ (items all 0 [])) (gZ (items all 0 [])) 0) 0 0 with
 |true=>⟨λcall t h=>(yN n all (gZ (items all 0 [])) (order (items all 0 []) (gZ (items all 0 [])) (gZ (items all 0 [])) 0) 0).f call t h []⟩
 | false=>match Lm (items all 0 []) (gZ (items all 0 [])),QN (items all 0 [])&&yd (items all 0 []) (gZ (items all 0 [])) (order (items all 0 []) (gZ (items all 0 [])) (gZ (items all 0 [])) 0) 0 0 with
   |some p,true=>⟨λcall t h=>oB ((yN n all (gZ (items all 0 [])) (order (items all 0 []) (gZ (items all 0 [])) (gZ (items all 0 [])) 0) 0).f call t h []) λr=>
      bB (Z8 (j5 r.1 p.2.2.1) (j5 r.1 p.2.2.2)) (some r)⟩
   |_,_=>zfX
inductive X where
 |normal
 |exit (id:Nat)
 |ret
structure CF where
 f:Call->Nat->Tm->Hp->Option (X×Tm×Hp)
def IB(r:Option (X×Tm×Hp)) (k:Tm->Hp->Option (X×Tm×Hp)):Option (X×Tm×Hp):=match r with
 |some (.normal,t,h)=>k t h
 |r=>r
def Mi(id:Nat) (r:Option (X×Tm×Hp)):Option (X×Tm×Hp):=match r with
 |some (.exit id',t,h)=>Bool.rec (some (.exit id',t,h)) (some (.normal,t,h)) (Nat.beq id' id)
 |r=>r
def K6(body:Tm->Hp->Option (X×Tm×Hp)) (m:Nat):Tm->Hp->Option (X×Tm×Hp):=Nat.rec (λ_ _=>none) (λ_ a t h=>IB (body t h) a) m
def zgt:CF:=⟨λ_ _ _ _=>none⟩
def iV(n:Nat):Code->CF
 | .skip=>⟨λ_ _ t h=>some (.normal,t,h)⟩
 | .seq a b=>⟨λcall m t h=>IB ((iV n a).f call m t h) λt h=>(iV n b).f call m t h⟩
 | .cond c a b=>⟨λcall m t h=>oB ((Ab c).f t h) λv=>match v with
   | .bool x=>Bool.rec ((iV n b).f call m t h) ((iV n a).f call m t h) x
   |_=>none⟩
 | .block id c=>⟨λcall m t h=>Mi id ((iV n c).f call m t h)⟩
 | .loop c=>⟨λcall m t h=>K6 (λt h=>(iV n c).f call m t h) m t h⟩
 | .exit id=>⟨λ_ _ t h=>some (.exit id,t,h)⟩
 | .ret=>⟨λ_ _ t h=>some (.ret,t,h)⟩
 | .region _ ops false=>⟨λcall _ t h=>oB ((vH n ops.toList ops.toList).f call t h) λr=>some (.normal,r.1,r.2)⟩
 | .region _ ops true=>⟨λcall _ t h=>oB ((Oz n ops.toList).f call t h) λr=>some (.normal,r.1,r.2)⟩
 |_=>zgt
inductive Ext where
 |none
 |countByte
 |indexByte
def OF(c:Nat):List UInt8->Nat->Nat
 |[],n=>n
 |b::l,n=>OF c l (Bool.rec n (Nat.succ n) (Nat.beq b.toNat c))
def RD(c:Nat):List UInt8->Nat->Option Nat
 |[],_=>none
 |b::l,n=>Bool.rec (RD c l (Nat.succ n)) (some n) (Nat.beq b.toNat c)
def U9:Ext->List V->Option V
 | .countByte,[.str s,.int .u8 (.ofNat c)]=>bB (Nat.blt c 256) (some (.int .i64 (.ofNat (OF c s 0))))
 | .indexByte,[.str s,.int .u8 (.ofNat c)]=>bB (Nat.blt c 256) (match RD c s 0 with
   |some i=>some (.int .i64 (.ofNat i))
   |none=>some (.int .i64 (-1)))
 |_,_=>none
def zaL:ResultVar->PF
 | .tmp i=>⟨λt _=>some (j5 t i)⟩
 | .cell a ty=>Of ty ⟨λt _=>some (j5 t a)⟩
def DA(t:Tm) (h:Hp):List ResultVar->Option (List V)
 |[]=>some []
 |r::rs=>oB ((zaL r).f t h) λv=>oB (DA t h rs) λvs=>some (v::vs)
def Fq(vs:List V):V:=match vs with
 |[v]=>v
 |vs=> .tuple vs
structure FF where
 f:Call->Nat->List V->Hp->Option (V×Hp)
structure kW where
 start:List V->Tm
 ext:Nat->Ext
 K:Nat->List V->Hp->Option V
def V.flat:V->Bool
 | .bool _| .int _ _| .str _| .nilPtr| .ei| .oH| .nilFunc| .nilIface=>true
 |_=>false
def SE(l:List V):Bool:=l.all V.flat
def orB(x:Option α)(k:α->Option β)(e:Option β):Option β:=Option.rec e k x
def zbJ:List (Nat×List V)->Hp->Option Hp
 |[],h=>some h
 |_::_,_=>none
def FW(C:kW) (f:Nat):FF:=match P0.funcs[f]? with
 | some fn=>match fn.body with
   | some c=>⟨λcall m args h=>orB (C.K f args h) (λv=>bB (SE args&&v.flat) (some (v,h))) (bB (Nat.ble args.length fn.ntmps) (oB ((iV fn.ntmps c).f call m (C.start args) h) λr=>match r.1 with
     | .exit _=>none
     |_=>oB (zbJ r.2.1.ds r.2.2) λh=>oB (DA r.2.1 h fn.results.toList) λvs=>some (Fq vs,h)))⟩
   |none=>⟨λ_ _ args h=>oB (U9 (C.ext f) args) λv=>some (v,h)⟩
 |none=>⟨λ_ _ _ _=>none⟩
def lg(C:kW) (m:Nat) (d:Nat):Call:=Nat.rec (λ_ _ _=>none) (λ_ call f args h=>(FW C f).f call m args h) d
end ops
theorem fR{α:Type} {x:Option α} {k:α->Option β} :oB x k=some y↔∃v,x=some v/\k v=some y:=by
 cases x with
 |none=>grind[oB]
 |some v=>exact⟨λh=>⟨v,rfl,h⟩,λ⟨_,h,h'⟩=>by grind[oB]⟩
theorem jf {c:Bool} {k:Option β} :bB c k=some y↔c=true/\k=some y:=by
 cases c with
 |false=>grind[bB]
 |true=>exact⟨λh=>⟨rfl,h⟩,λ⟨_,h⟩=>h⟩
theorem Bc {v:V} {k:Nat->Nat->Option β} :B2 v k=some y↔∃l o,v = .ptr l o/\k l o=some y:=by
 constructor
 ·intro h;unfold B2 at h
  grind
 ·rintro⟨l,o,rfl,h⟩;exact h
theorem N9 {v:V} {k:Nat->Option β} :asNat v k=some y↔∃kd n,v = .int kd (.ofNat n)/\k n=some y:=by
 constructor
 ·intro h;unfold asNat at h;split at h
  ·grind
  ·cases h
 ·rintro⟨kd,n,rfl,h⟩;exact h
theorem mQ {h:Hp}  {k:Nat->Nat->Bool->Bool->List V->Option β}  :
  ko h l k=some y↔∃e sz live ro cs,h.get l=some (.cells e sz live ro cs)/\k e sz live ro cs=some y:=by
 grind[ko,fR]
theorem Ou {h:Hp}  {k:List (V×V×Nat)->Nat->Option β}  :
  FP h l k=some y↔∃a c,h.get l=some (.map a c)/\k a c=some y:=by
 grind[FP,fR]
theorem zaS(c:Bool)(x y:β):Bool.rec x y c=if c=true then y else x:=by cases c <;> rfl
theorem Y1{n:Nat} {cs l:List V} (h:takeN n cs=some l):l.length=n/\∀i,i<n->l[i]? =cs[i]?:=by
 induction n generalizing cs l with
 |zero=>simp[takeN]at h;simp_all
 | succ n a=>
   cases cs <;> grind[takeN,fR]
theorem sub_eq{cs l:List V} {off n:Nat} (h:sub cs off n=some l):l.length=n/\∀i,i<n->l[i]? =cs[off+i]?:=by
 grind[Y1,sub]
theorem V2{cs:List V} {off:Nat} {v:V} (h:B6 cs off=some v):cs[off]? =some v:=by
 grind[B6,List.head?_drop]
theorem za0{new cs l:List V} (h:over new cs=some l):l.length=cs.length/\new.length<=cs.length/\∀i,l[i]? =if i<new.length then new[i]? else cs[i]?:=by
 induction new generalizing cs l with
 |nil=>simp[over]at h;simp_all
 | cons n ns a=>
   cases cs <;> grind[over,fR]
theorem Me{k:Nat} {cs new l:List V} (h:qB k cs new=some l):l.length=cs.length/\k+new.length<=cs.length/\
  ∀i,l[i]? =if k<=i/\i<k+new.length then new[i-k]? else cs[i]?:=by
 induction k generalizing cs l with
 | zero=>
   grind[za0,qB]
 | succ k a=>
   cases cs with
   |nil=>grind[qB]
   | cons c cs=>
     simp[qB,fR]at h
     grind
theorem Xv{l:List V} (h:gj l=true):∀v∈l,v.one=true:=by
 induction l <;> grind[gj,zaS]
structure D where
 b:Nat
 base:Nat
 sz:Nat
 n:Nat
 asz:Nat
 ro:Bool
 kind:Nat
abbrev Env:=Nat->Option D
def Env.le(Δ a:Env):Prop:=∀l d,Δ l=some d->a l=some d
theorem Env.le_refl(Δ:Env):Δ.le Δ:=λ_ _ h=>h
theorem Env.le_trans{Δ b a:Env}(h:Δ.le b)(h':b.le a):Δ.le a:=λl d c=>h' l d (h l d c)
mutual
inductive fZ (Δ:Env):V->Value->Prop
 |bool (b:Bool):fZ Δ (.bool b) (.bool b)
 |int (k:IntKind) (n:Int):fZ Δ (.int k n) (.int k n)
 |str (s:ByteArray):fZ Δ (.str s.data.toList) (.string s)
 |nilPtr:fZ Δ .nilPtr (.pointer none)
 |ptr (l off:Nat) (d:D) (h:Δ l=some d):fZ Δ (.ptr l off) (.pointer (some ⟨d.b,d.base+off,none⟩))
 |ei:fZ Δ .ei (.slice none 0 0)
 | slice (l off len e o:Nat) (d:D) (h:Δ l=some d) (hk:d.kind=0) (j:len<=e)
   (m:(o=d.base+off/\d.n<=off+e*d.sz/\d.base+off+e*d.sz<=d.asz)\/(e=0/\d.n<=off)) :
   fZ Δ (.slice l off len) (.slice (some ⟨d.b,o,none⟩) len e)
 |oH:fZ Δ .oH (.map none)
 |map (l:Nat) (d:D) (h:Δ l=some d):fZ Δ (.map l) (.map (some d.b))
 |nilFunc:fZ Δ .nilFunc .nilFunc
 |func (f:Nat) (a c:List V) (a' c':Array Value) (p:gW Δ a a'.toList) (hc:gW Δ c c'.toList):fZ Δ (.func f a c) (.func (.func f) a' c')
 |nilIface:fZ Δ .nilIface .nilIface
 |iface (t:Nat) (v:V) (g:Value) (h:fZ Δ v g):fZ Δ (.iface t v) (.iface t g)
 |agg (cs:List V) (qY:Array Value) (h:gW Δ cs qY.toList):fZ Δ (.agg cs) (.agg qY)
 |tuple (cs:List V) (qY:Array Value) (h:gW Δ cs qY.toList):fZ Δ (.tuple cs) (.tuple qY)
inductive gW (Δ:Env):List V->List Value->Prop
 |nil:gW Δ [] []
 |cons (v:V) (g:Value) (vs:List V) (i:List Value) (h:fZ Δ v g) (hs:gW Δ vs i):gW Δ (v::vs) (g::i)
end
mutual
theorem fZ.mono {Δ i:Env} (e:Δ.le i):∀{v:V} {g:Value},fZ Δ v g->fZ i v g
 |_,_,.bool b=> .bool b
 |_,_,.int k n=> .int k n
 |_,_,.str s=> .str s
 |_,_,.nilPtr=> .nilPtr
 |_,_,.ptr l off d h=> .ptr l off d (e _ _ h)
 |_,_,.ei=> .ei
 |_,_,.slice l off len cap o d h hk hl ho=> .slice l off len cap o d (e _ _ h) hk hl ho
 |_,_,.oH=> .oH
 |_,_,.map l d h=> .map l d (e _ _ h)
 |_,_,.nilFunc=> .nilFunc
 |_,_,.func f a c a' c' ha hc=> .func f a c a' c' (gW.mono e ha) (gW.mono e hc)
 |_,_,.nilIface=> .nilIface
 |_,_,.iface t v g h=> .iface t v g (fZ.mono e h)
 |_,_,.agg cs qY h=> .agg cs qY (gW.mono e h)
 |_,_,.tuple cs qY h=> .tuple cs qY (gW.mono e h)
theorem gW.mono {Δ i:Env} (e:Δ.le i):∀{v:List V} {g:List Value},gW Δ v g->gW i v g
 |_,_,.nil=> .nil
 |_,_,.cons v g vs vs' h hs=> .cons v g vs vs' (fZ.mono e h) (gW.mono e hs)
end
theorem gW.length{Δ:Env} {vs:List V} {a:List Value} (h:gW Δ vs a):vs.length=a.length:=by
 induction vs generalizing a with
 |nil=>cases h;rfl
 |cons v vs b=>cases h <;> grind
theorem gW.get{Δ:Env} {vs:List V} {b:List Value} (h:gW Δ vs b) (i:Nat) (v:V) (hi:vs[i]? =some v):∃c,b[i]? =some c/\fZ Δ v c:=by
 induction vs generalizing b i with
 |nil=>simp_all
 | cons a vs d=>
   cases h <;> grind
theorem gW.Rf{Δ:Env} {vs:List V} {b:List Value} (e:vs.length=b.length) (h:∀(i:Nat) v,vs[i]? =some v->∃c,b[i]? =some c/\fZ Δ v c):gW Δ vs b:=by
 induction vs generalizing b with
 | nil=>cases b with
   |nil=>exact .nil
   |cons _ _=>simp_all
 | cons a vs d=>cases b with
   |nil=>simp_all
   | cons a' b=>
     let⟨x,hx,hr⟩:=h 0 a rfl
     simp at hx;subst hx;exact .cons _ _ _ _ hr (d (by simp_all) λi v hi=>by simpa using h (i+1) v (by simp_all))
theorem gW.append{Δ:Env} {a b:List V} {a' b':List Value} (h:gW Δ a a') (h':gW Δ b b'):gW Δ (a++b) (a'++b'):=by
 induction a generalizing a' with
 |nil=>cases h;exact h'
 |cons x a c=>cases h with|cons _ _ _ _ hx hs=>exact .cons _ _ _ _ hx (c hs)
theorem gW.one{Δ:Env}{v:V}{a:Value}(h:fZ Δ v a):gW Δ [v] [a]:= .cons _ _ _ _ h .nil
theorem fZ.undef(Δ:Env):fZ Δ V.undef undef:= .tuple [] #[] .nil
theorem fZ.cells{Δ:Env} {v:V} {e:Value} (h:fZ Δ v e):gW Δ v.cells e.cells.toList:=by
 cases h with
 |agg cs qY h=>exact h
 |bool b=>exact .one (.bool b)
 |int k n=>exact .one (.int k n)
 |str s=>exact .one (.str s)
 |nilPtr=>exact .one .nilPtr
 |ptr l off d h=>exact .one (.ptr l off d h)
 |ei=>exact .one .ei
 |slice l off len g o d h hk i j=>exact .one (.slice l off len g o d h hk i j)
 |oH=>exact .one .oH
 |map l d h=>exact .one (.map l d h)
 |nilFunc=>exact .one .nilFunc
 |func f a c a' c' m hc=>exact .one (.func f a c a' c' m hc)
 |nilIface=>exact .one .nilIface
 |iface t v e h=>exact .one (.iface t v e h)
 |tuple cs qY h=>exact .one (.tuple cs qY h)
theorem fZ.XP{Δ:Env} {v:V} {a:Value} (h:fZ Δ v a) (b:v.one=true):a.oneCell' = true:=by
 cases h <;> first|rfl|grind[V.one]
theorem gW.zeD{Δ:Env} {vs:List V} {a:List Value} (h:gW Δ vs a) (c:gj vs=true):∀x∈a,x.oneCell' = true:=by
 intro x hx;obtain⟨i,hi,rfl⟩:=List.mem_iff_getElem.1 hx;have b:i<vs.length:=by rw[h.length];exact hi
 let⟨x,hx,hr⟩:=h.get i vs[i] (by simp_all)
 rw[gN hi]at hx;cases hx;exact hr.XP (by grind[Xv,zI])
mutual
theorem HR (Δ:Env):∀(n:Nat) (v:Value) (x:V),mL n v=some x->fZ Δ x v
 |_,.bool b,x,h=>by simp[mL]at h;subst h;exact .bool b
 |_,.int k n,x,h=>by simp[mL]at h;subst h;exact .int k n
 |_,.string s,x,h=>by simp[mL]at h;subst h;exact .str s
 |_,.pointer none,x,h=>by simp[mL]at h;subst h;exact .nilPtr
 |_,.pointer (some _),x,h=>by grind[mL]
 |_,.slice none 0 0,x,h=>by simp[mL]at h;subst h;exact .ei
 |_,.slice none 0 (_+1),x,h=>by grind[mL]
 |_,.slice none (_+1) _,x,h=>by grind[mL]
 |_,.slice (some _) _ _,x,h=>by grind[mL]
 |_,.map none,x,h=>by simp[mL]at h;subst h;exact .oH
 |_,.map (some _),x,h=>by grind[mL]
 |_,.nilFunc,x,h=>by simp[mL]at h;subst h;exact .nilFunc
 |_,.nilIface,x,h=>by simp[mL]at h;subst h;exact .nilIface
 |0,.iface _ _,x,h=>by simp_all[mL]
 |0,.agg _,x,h=>by simp_all[mL]
 |0,.tuple _,x,h=>by simp_all[mL]
 | n+1,.iface t v,x,h=>by
   simp only[mL]at h;split at h
   ·rename_i y a;cases h;exact .iface t _ _ (HR Δ n v _ a)
   ·cases h
 | n+1,.agg cs,x,h=>by
   simp only[mL]at h;split at h
   ·rename_i y a;cases h;exact .agg _ _ (JW Δ n _ _ a)
   ·cases h
 | n+1,.tuple cs,x,h=>by
   simp only[mL]at h;split at h
   ·rename_i y a;cases h;exact .tuple _ _ (JW Δ n _ _ a)
   ·cases h
 |_,.float _ _,x,h=>by grind[mL]
 |_,.complex _ _ _,x,h=>by grind[mL]
 |_,.chan _,x,h=>by grind[mL]
 |_,.func _ _ _,x,h=>by grind[mL]
theorem JW (Δ:Env):∀(n:Nat) (v:List Value) (x:List V),v.mapM (mL n)=some x->gW Δ x v
 |_,[],x,h=>by simp at h;subst h;exact .nil
 | n,v::vs,x,h=>by
   simp only[List.mapM_cons,Option.bind_eq_bind,wBv,Option.pure_def,Option.some.injEq]at h;obtain⟨y,a,ys,c,rfl⟩:=h;exact .cons _ _ _ _ (HR Δ n v y a) (JW Δ n vs ys c)
end
@[match_pattern] abbrev _root_.Go.Proofs.YtloecllhljfidaaGreatDoor.Hx.V.I (n:Int):Go.Proofs.YtloecllhljfidaaGreatDoor.Hx.V:=.int .i64 n
