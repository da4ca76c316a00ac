/- Parts. -/
import Derived.Test.YtcoaokdoecgcbaaGreatDoorM00
import Derived.Calls
import Derived.Test.YtcoaokdoecgcbaaGreatDoorChecked
import Derived.Orders
import Derived.Laws.CopyRow
set_option maxHeartbeats 4000000
namespace Go.Proofs.YtcoaokdoecgcbaaGreatDoor.Hx
variable{β α:Type}{y:β}{i l:Nat}
theorem Gy:type_of% @Result.andThen_ok:=@Result.andThen_ok
theorem CD:type_of% @Sem.run_bind:=@Sem.run_bind
theorem Tu:type_of% @Sem.run_pure:=@Sem.run_pure
inductive V where
 |bool (b:Bool)
 |int (k:IntKind) (n:Int)
 |str (s:List UInt8)
 |nilPtr
 |ptr (l off:Nat)
 |ed
 |slice (l off len:Nat)
 |nJ
 |map (l:Nat)
 |nilFunc
 |func (f:Nat) (first a:List V)
 |nilIface
 |iface (t:Nat) (v:V)
 |agg (cs:List V)
 |tuple (vs:List V)
 |anyI (k:IntKind)
 deriving Inhabited
def V.undef:V:= .tuple []
mutual
def V.beq:V->V->Bool
 | .bool a,.bool b=>a == b
 | .int j a,.int k b=>j == k&&a == b
 | .str a,.str b=>a == b
 | .nilPtr,.nilPtr=>true
 | .ptr l o,.ptr l' o'=>l == l'&&o == o'
 | .ed,.ed=>true
 | .slice l o n,.slice l' o' n'=>l == l'&&o == o'&&n == n'
 | .nJ,.nJ=>true
 | .map l,.map l'=>l == l'
 | .nilFunc,.nilFunc=>true
 | .func f a c,.func f' a' c'=>f == f'&&V.N7 a a'&&V.N7 c c'
 | .nilIface,.nilIface=>true
 | .iface t v,.iface t' v'=>t == t'&&V.beq v v'
 | .agg a,.agg b=>V.N7 a b
 | .tuple a,.tuple b=>V.N7 a b
 | .anyI j,.anyI k=>j == k
 |_,_=>false
def V.N7:List V->List V->Bool
 |[],[]=>true
 |a::x,b::y=>V.beq a b&&V.N7 x y
 |_,_=>false
end
mutual
theorem V.eq_of_beq:∀(a b:V),V.beq a b=true->a=b
 | .bool a,b,h=>by cases b <;> simp_all[V.beq]
 | .int j a,b,h=>by cases b <;> simp_all[V.beq]
 | .str a,b,h=>by cases b <;> simp_all[V.beq]
 | .nilPtr,b,h=>by grind[V.beq]
 | .ptr l o,b,h=>by cases b <;> simp_all[V.beq]
 | .ed,b,h=>by grind[V.beq]
 | .slice l o n,b,h=>by cases b <;> simp_all[V.beq]
 | .nJ,b,h=>by grind[V.beq]
 | .map l,b,h=>by cases b <;> simp_all[V.beq]
 | .nilFunc,b,h=>by grind[V.beq]
 | .func f a c,b,h=>by
   cases b <;> simp_all[V.beq]
   exact⟨V.yd _ _ h.1.2,V.yd _ _ h.2⟩
 | .nilIface,b,h=>by grind[V.beq]
 | .iface t v,b,h=>by
   cases b <;> simp_all[V.beq]
   exact V.eq_of_beq _ _ h.2
 | .agg a,b,h=>by
   cases b <;> simp_all[V.beq]
   exact V.yd _ _ h
 | .tuple a,b,h=>by
   cases b <;> simp_all[V.beq]
   exact V.yd _ _ h
 | .anyI j,b,h=>by cases b <;> simp_all[V.beq]
theorem V.yd:∀(a b:List V),V.N7 a b=true->a=b
 |[],b,h=>by grind[V.N7]
 | a::x,b,h=>by
   cases b <;> simp_all[V.N7];exact⟨V.eq_of_beq _ _ h.1,V.yd _ _ h.2⟩
end
mutual
theorem V.DH:∀(a:V),V.beq a a=true
 | .bool a=>by simp[V.beq]
 | .int j a=>by simp[V.beq]
 | .str a=>by simp[V.beq]
 | .nilPtr=>by rfl
 | .ptr l o=>by simp[V.beq]
 | .ed=>by rfl
 | .slice l o n=>by simp[V.beq]
 | .nJ=>by rfl
 | .map l=>by simp[V.beq]
 | .nilFunc=>by rfl
 | .func f a c=>by simp[V.beq,V.Ao a,V.Ao c]
 | .nilIface=>by rfl
 | .iface t v=>by simp[V.beq,V.DH v]
 | .agg a=>by simp[V.beq,V.Ao a]
 | .tuple a=>by simp[V.beq,V.Ao a]
 | .anyI j=>by simp[V.beq]
theorem V.Ao:∀(a:List V),V.N7 a a=true
 |[]=>by rfl
 |a::x=>by simp[V.N7,V.DH a,V.Ao x]
end
def V.cells:V->List V
 | .agg cs=>cs
 |v=>[v]
def V.one:V->Bool
 | .agg _| .tuple _=>false
 |_=>true
def mV:Nat->Value->Option V
 |_,.bool b=>some (.bool b)
 |_,.int k n=>some (.int k n)
 |_,.string s=>some (.str s.data.toList)
 |_,.pointer none=>some .nilPtr
 |_,.slice none 0 0=>some .ed
 |_,.map none=>some .nJ
 |_,.nilFunc=>some .nilFunc
 |_,.nilIface=>some .nilIface
 | n+1,.iface t v=>match mV n v with
   |some v=>some (.iface t v)
   |none=>none
 | n+1,.agg cs=>match cs.toList.mapM (mV n)with
   |some l=>some (.agg l)
   |none=>none
 | n+1,.tuple cs=>match cs.toList.mapM (mV n)with
   |some l=>some (.tuple l)
   |none=>none
 |_,_=>none
inductive To (α:Type) where
 |leaf
 |node (l:To α) (v:Option α) (r:To α)
noncomputable def To.get (t:To α):Nat->Option α:=To.rec (λ_=>none) (λ_ v _ gl gr n=>Bool.rec (Bool.rec (gr (Nat.sub (Nat.div n 2) 1)) (gl (Nat.div n 2)) (Nat.beq (Nat.mod n 2) 1)) v (Nat.beq n 0)) t
theorem To.yQ(n:Nat):(To.leaf:To α).get n=none:=rfl
theorem To.AO (l:To α) (v:Option α) (r:To α) (n:Nat):(To.node l v r).get n =
  match Nat.beq n 0 with
  |true=>v
  | false=>match Nat.beq (n % 2) 1 with
    |true=>l.get (n / 2)
    |false=>r.get (n / 2-1):=by
 show Bool.rec (motive:=λ_=>Option α) (Bool.rec (r.get (n / 2-1)) (l.get (n / 2)) (Nat.beq (n % 2) 1)) v (Nat.beq n 0)=_;cases Nat.beq n 0 <;> cases Nat.beq (n % 2) 1 <;> rfl
def To.SJ:Nat->To α->Nat->α->To α
 |0,t,_,_=>t
 | f + 1,.leaf,n,x=>
   match Nat.beq n 0 with
   |true=> .node .leaf (some x) .leaf
   | false=>match Nat.beq (n % 2) 1 with
     |true=> .node (To.SJ f .leaf (n / 2) x) none .leaf
     |false=> .node .leaf none (To.SJ f .leaf (n / 2-1) x)
 | f + 1,.node l v r,n,x=>
   match Nat.beq n 0 with
   |true=> .node l (some x) r
   | false=>match Nat.beq (n % 2) 1 with
     |true=> .node (To.SJ f l (n / 2) x) v r
     |false=> .node l v (To.SJ f r (n / 2-1) x)
noncomputable def To.set (t:To α):Nat->α->To α:=To.rec (λn x=>Bool.rec (To.SJ (Nat.succ n) .leaf n x) (.node .leaf (some x) .leaf) (Nat.beq n 0)) (λl v r sl a n x=>Bool.rec (Bool.rec (.node l v (a (Nat.sub (Nat.div n 2) 1) x)) (.node (sl (Nat.div n 2) x) v r) (Nat.beq (Nat.mod n 2) 1)) (.node l (some x) r) (Nat.beq n 0)) t
theorem To.TD (x:α):∀f (t:To α) n m,n<f->(t.SJ f n x).get m=if n=m then some x else t.get m:=by
 intro f
 induction f with
 |zero=>omega
 | succ f g =>
   intro t n m h
   cases t with
   | leaf =>
     unfold To.SJ
     cases h0:Nat.beq n 0 with
     | true=>
       have e:=Cj h0;subst e
       cases m with
       |zero=>rfl
       | succ m=>
         have e1:Nat.beq (m+1) 0=false:=rfl
         grind[To.yQ,To.AO]
     | false =>
       have i:n≠0:=λe=>by simp_all
       cases b:Nat.beq (n % 2) 1 with
       | true=>
         have e1:=Cj b;simp[To.yQ,To.AO]
         cases c:Nat.beq m 0 with
         | true=>
           simp_all
         | false=>
           have d:m≠0:=λe=>by simp_all
           cases a:Nat.beq (m % 2) 1 with
           | true=>
             have e2:=Cj a;simp[g .leaf (n / 2) (m / 2) (by omega),To.yQ]
             grind
           | false=>
             grind
       | false=>
         have e1:n % 2≠1:=λe=>by simp_all
         simp[To.yQ,To.AO]
         cases c:Nat.beq m 0 with
         | true=>
           simp_all
         | false=>
           have d:m≠0:=λe=>by simp_all
           cases a:Nat.beq (m % 2) 1 with
           | true=>
             grind
           | false=>
             have e2:m % 2≠1:=λe=>by simp_all
             simp[g .leaf (n / 2-1) (m / 2-1) (by omega),To.yQ]
             grind
   | node l v r=>
     unfold To.SJ
     cases h0:Nat.beq n 0 with
     | true=>
       have e:=Cj h0;subst e
       cases m with
       |zero=>rfl
       | succ m=>
         rfl
     | false =>
       have i:n≠0:=λe=>by simp_all
       cases b:Nat.beq (n % 2) 1 with
       | true=>
         have e1:=Cj b;simp[ To.AO]
         cases c:Nat.beq m 0 with
         | true=>
           simp_all
         | false=>
           have d:m≠0:=λe=>by simp_all
           cases a:Nat.beq (m % 2) 1 with
           | true=>
             have e2:=Cj a
             grind
           | false=>
             grind
       | false=>
         have e1:n % 2≠1:=λe=>by simp_all
         simp[ To.AO]
         cases c:Nat.beq m 0 with
         | true=>
           simp_all
         | false=>
           have d:m≠0:=λe=>by simp_all
           cases a:Nat.beq (m % 2) 1 with
           | true=>
             grind
           | false=>
             have e2:m % 2≠1:=λe=>by simp_all
             grind
theorem To.Lg (t:To α) (n m:Nat) (x:α):(t.set n x).get m=if n=m then some x else t.get m:=by
 induction t generalizing n m with
 | leaf=>
   show(Bool.rec (motive:=λ_=>To α) (To.SJ (Nat.succ n) .leaf n x) (.node .leaf (some x) .leaf) (Nat.beq n 0)).get m=_
   cases h0:Nat.beq n 0 with
   | true=>
     have e:=Cj h0;subst e;have:=To.TD x 1 .leaf 0 m (by omega)
     exact this
   |false=>grind[To.TD]
 | node l v r b c=>
   show(Bool.rec (motive:=λ_=>To α) (Bool.rec (.node l v (r.set (n / 2-1) x)) (.node (l.set (n / 2) x) v r) (Nat.beq (n % 2) 1)) (.node l (some x) r) (Nat.beq n 0)).get m=_
   cases h0:Nat.beq n 0 with
   | true=>
     have e:=Cj h0;subst e
     cases m with
     |zero=>rfl
     | succ m=>
       rfl
   | false =>
     have h:n≠0:=λe=>by simp_all
     cases d:Nat.beq (n % 2) 1 with
     | true=>
       have e1:=Cj d;simp[To.AO]
       cases f:Nat.beq m 0 with
       | true=>
         simp_all
       | false=>
         have g:m≠0:=λe=>by simp_all
         cases a:Nat.beq (m % 2) 1 with
         | true=>
           have e2:=Cj a
           grind
         | false=>
           grind
     | false=>
       have e1:n % 2≠1:=λe=>by simp_all
       simp[To.AO]
       cases f:Nat.beq m 0 with
       | true=>
         simp_all
       | false=>
         have g:m≠0:=λe=>by simp_all
         cases a:Nat.beq (m % 2) 1 with
         | true=>
           grind
         | false=>
           have e2:m % 2≠1:=λe=>by simp_all
           grind
structure Q4 (α:Type) where
 a:α
 b:α
 c:α
 d:α
def QT(α:Type)(n:Nat):Type:=Nat.rec (To α) (λ_ a=>Q4 a) n
structure QG (α β:Type) where
 f:α->β
structure QU (α β:Type) where
 f:β->α->α
noncomputable def ZW(i:Nat)(w x y z:β):β:=Bool.rec (Bool.rec (Bool.rec z y (Nat.beq (Nat.mod i 4) 2)) x (Nat.beq (Nat.mod i 4) 1)) w (Nat.beq (Nat.mod i 4) 0)
theorem zer(h:i % 4=0)(w x y z:β):ZW i w x y z=w:=by unfold ZW;rw[show Nat.mod i 4=0 from h];rfl
theorem ze7(h:i % 4=1)(w x y z:β):ZW i w x y z=x:=by unfold ZW;rw[show Nat.mod i 4=1 from h];rfl
theorem zeT(h:i % 4=2)(w x y z:β):ZW i w x y z=y:=by unfold ZW;rw[show Nat.mod i 4=2 from h];rfl
theorem ze0(h:i % 4=3)(w x y z:β):ZW i w x y z=z:=by unfold ZW;rw[show Nat.mod i 4=3 from h];rfl
noncomputable def qg(α:Type) (n:Nat):Nat->QG (QT α n) (Option α):=Nat.rec (λi=>⟨λx=>To.get x i⟩) (λ_ e i=>ZW i ⟨λq=>Q4.rec (motive:=λ_=>Option α) (λa _ _ _=>(e (Nat.div i 4)).f a) q⟩ ⟨λq=>Q4.rec (motive:=λ_=>Option α) (λ_ b _ _=>(e (Nat.div i 4)).f b) q⟩ ⟨λq=>Q4.rec (motive:=λ_=>Option α) (λ_ _ c _=>(e (Nat.div i 4)).f c) q⟩ ⟨λq=>Q4.rec (motive:=λ_=>Option α) (λ_ _ _ d=>(e (Nat.div i 4)).f d) q⟩) n
noncomputable def qs(α:Type) (n:Nat):Nat->QU (QT α n) α:=Nat.rec (λi=>⟨λv x=>To.set x i v⟩) (λn e i=>ZW i ⟨λv q=>Q4.rec (motive:=λ_=>Q4 (QT α n)) (λa b c d=>⟨(e (Nat.div i 4)).f v a,b,c,d⟩) q⟩ ⟨λv q=>Q4.rec (motive:=λ_=>Q4 (QT α n)) (λa b c d=>⟨a,(e (Nat.div i 4)).f v b,c,d⟩) q⟩ ⟨λv q=>Q4.rec (motive:=λ_=>Q4 (QT α n)) (λa b c d=>⟨a,b,(e (Nat.div i 4)).f v c,d⟩) q⟩ ⟨λv q=>Q4.rec (motive:=λ_=>Q4 (QT α n)) (λa b c d=>⟨a,b,c,(e (Nat.div i 4)).f v d⟩) q⟩) n
noncomputable def q0(α:Type)(n:Nat):QT α n:=Nat.rec (To.leaf:To α) (λ_ a=>(⟨a,a,a,a⟩:Q4 _)) n
theorem X3(α:Type) (n i:Nat):qg α (n+1) i=ZW i
   ⟨λq=>Q4.rec (motive:=λ_=>Option α) (λa _ _ _=>(qg α n (i / 4)).f a) q⟩
   ⟨λq=>Q4.rec (motive:=λ_=>Option α) (λ_ b _ _=>(qg α n (i / 4)).f b) q⟩
   ⟨λq=>Q4.rec (motive:=λ_=>Option α) (λ_ _ c _=>(qg α n (i / 4)).f c) q⟩
   ⟨λq=>Q4.rec (motive:=λ_=>Option α) (λ_ _ _ d=>(qg α n (i / 4)).f d) q⟩:=rfl
theorem zcO(α:Type) (n i:Nat):qs α (n+1) i=ZW i
   ⟨λv q=>Q4.rec (motive:=λ_=>Q4 (QT α n)) (λa b c d=>⟨(qs α n (i / 4)).f v a,b,c,d⟩) q⟩
   ⟨λv q=>Q4.rec (motive:=λ_=>Q4 (QT α n)) (λa b c d=>⟨a,(qs α n (i / 4)).f v b,c,d⟩) q⟩
   ⟨λv q=>Q4.rec (motive:=λ_=>Q4 (QT α n)) (λa b c d=>⟨a,b,(qs α n (i / 4)).f v c,d⟩) q⟩
   ⟨λv q=>Q4.rec (motive:=λ_=>Q4 (QT α n)) (λa b c d=>⟨a,b,c,(qs α n (i / 4)).f v d⟩) q⟩:=rfl
theorem UW(α:Type):∀n i,(qg α n i).f (q0 α n)=none
 |0,i=>rfl
 | n+1,i=>by
   rw[X3];have h:i % 4=0\/i % 4=1\/i % 4=2\/i % 4=3:=by omega
   rcases h with h|h|h|h
   ·rw[zer h];exact UW α n (i / 4)
   ·rw[ze7 h];exact UW α n (i / 4)
   ·rw[zeT h];exact UW α n (i / 4)
   ·rw[ze0 h];exact UW α n (i / 4)
theorem zd5(α:Type) (v:α):∀n i j q,(qg α n j).f ((qs α n i).f v q)=if i=j then some v else(qg α n j).f q
 |0,i,j,q=>To.Lg q i j v
 | n + 1,i,j,q=>by
   let⟨a,b,c,d⟩:=(q:Q4 (QT α n))
   have hi:i % 4=0\/i % 4=1\/i % 4=2\/i % 4=3:=by omega
   have e:j % 4=0\/j % 4=1\/j % 4=2\/j % 4=3:=by omega
   have g:=λq=>zd5 α v n (i / 4) (j / 4) q;rw[X3,zcO];rcases hi with hi|hi|hi|hi <;> rcases e with e|e|e|e
   all_goals first
     |rw[zer hi]|rw[ze7 hi]|rw[zeT hi]|rw[ze0 hi]
   all_goals first
     |rw[zer e]|rw[ze7 e]|rw[zeT e]|rw[ze0 e]
   all_goals grind
def Tr(α:Type):Type:=QT α 4
noncomputable def Tr.leaf:Tr α:=q0 α 4
noncomputable def Tr.get(t:Tr α)(n:Nat):Option α:=(qg α 4 n).f t
noncomputable def Tr.set(t:Tr α)(n:Nat)(x:α):Tr α:=(qs α 4 n).f x t
theorem Tr.yQ(n:Nat):(Tr.leaf:Tr α).get n=none:=UW α 4 n
theorem Tr.Lg(t:Tr α)(n m:Nat)(x:α):(t.set n x).get m=if n=m then some x else t.get m:=zd5 α x 4 n m t
inductive O where
 |cells (e sz:Nat) (live ro:Bool) (cs:List V)
 |map (es:List (V×V×Nat)) (a:Nat)
 |iter (m:Option Nat) (since:Nat) (seen:List Nat) (last:Nat)
 |Qj (k:IntKind) (ks:List Int)
 |gone
 deriving Inhabited
structure Hp where
 next:Nat
 tr:Tr O
noncomputable def Hp.get(h:Hp)(l:Nat):Option O:=Bool.rec none (h.tr.get l) (Nat.blt l h.next)
theorem Hp.get_eq(h:Hp) (l:Nat):h.get l=if l<h.next then h.tr.get l else none:=by
 show Bool.rec (motive:=λ_=>Option O) none (h.tr.get l) (Nat.blt l h.next)=_
 cases hb:Nat.blt l h.next with
 |true=>simp_all
 |false=>rw[if_neg (by grind[WE])]
theorem Hp.Cs{h:Hp}  {o:O} (a:h.get l=some o):l<h.next:=by
 grind[Hp.get_eq]
noncomputable def Hp.put(h:Hp)(l:Nat)(o:O):Hp:={h with tr:=h.tr.set l o}
noncomputable def Hp.new(h:Hp)(o:O):Hp:={next:=h.next+1,tr:=h.tr.set h.next o}
noncomputable def UU:List V->Nat->Tr V->Tr V
 |[],_,t=>t
 |v::vs,i,t=>UU vs (i+1) (t.set i v)
inductive Tm where
 |tree (t:Tr V) (ds:List (Nat×List V))
 |fn (f:Nat->V) (ds:List (Nat×List V))
noncomputable def ij(t:Tm) (i:Nat):V:=Tm.rec (λt _=>Option.rec V.undef (λv=>v) (t.get i)) (λf _=>f i) t
noncomputable def nE(f:Nat->V)(d:Nat)(v:V):Nat->V:=λi=>Bool.rec (f i) v (Nat.beq i d)
noncomputable def Tm.set(t:Tm) (d:Nat) (v:V):Tm:=Tm.rec (λt ds=> .tree (t.set d v) ds) (λf ds=> .fn (nE f d v) ds) t
def Tm.ds:Tm->List (Nat×List V)
 | .tree _ ds=>ds
 | .fn _ ds=>ds
def Tm.push(x:Nat×List V):Tm->Tm
 | .tree t ds=> .tree t (x::ds)
 | .fn f ds=> .fn f (x::ds)
theorem iA(t:Tm) (d i:Nat) (v:V):ij (t.set d v) i=if d=i then v else ij t i:=by
 cases t with
 | tree t ds=>
   show Option.rec (motive:=λ_=>V) V.undef (λv=>v) ((t.set d v).get i)=_;rw[Tr.Lg];by_cases h:d=i
   ·simp_all
   ·rw[if_neg h,if_neg h];rfl
 | fn f ds=>
   show Bool.rec (motive:=λ_=>V) (f i) v (Nat.beq i d)=_
   cases hb:Nat.beq i d with
   |true=>simp_all
   |false=>rw[if_neg (by grind[wBk])];rfl
theorem Tm.Fx(t:Tm)(d:Nat)(v:V):(t.set d v).ds=t.ds:=by cases t <;> rfl
noncomputable def W7(args:List V):Tm:= .tree (UU args 0 .leaf) []
def Cg(args:List V):Tm:= .fn (λi=>(args[i]?).getD .undef) []
noncomputable def P0:Program:=Tryz.prog
attribute [irreducible] P0
def zge:List (Nat×Array Value):=[]
noncomputable section ops
def oB(x:Option α)(k:α->Option β):Option β:=Option.rec none k x
def bB(c:Bool)(k:Option β):Option β:=Bool.rec none k c
def vx (v:V) (k:Nat->Nat->Option β):Option β:=match v with
 | .ptr l o=>k l o
 |_=>none
def asNat (v:V) (k:Nat->Option β):Option β:=match v with
 | .int _ (.ofNat n)=>k n
 |_=>none
def CT(t:Nat):Option Nat:=oB (P0.info? t) λi=>some i.size
def zdc(t:Nat):Option Nat:=oB (P0.info? t) λi=>some i.bytes
def Vp(t:Nat):Option Bool:=match P0.underlying t with
 |some (.struct _)=>some true
 |some (.array _ _)=>some true
 |some _=>some false
 |none=>none
def zeroV(t:Nat):Option V:=oB (P0.info? t) λi=>oB i.zero λz=>mV 8 z
def takeN:Nat->List V->Option (List V)
 |0,_=>some []
 |_+1,[]=>none
 |n+1,v::vs=>oB (takeN n vs) λl=>some (v::l)
def sub(cs:List V)(off n:Nat):Option (List V):=takeN n (cs.drop off)
def MF(cs:List V)(off:Nat):Option V:=(cs.drop off).head?
def over:List V->List V->Option (List V)
 |[],cs=>some cs
 |_::_,[]=>none
 |n::ns,_::cs=>oB (over ns cs) λl=>some (n::l)
def ta:Nat->List V->List V->Option (List V)
 |0,cs,new=>over new cs
 |_+1,[],_=>none
 |k+1,c::cs,new=>oB (ta k cs new) λl=>some (c::l)
def gj:List V->Bool
 |[]=>true
 |v::vs=>Bool.rec false (gj vs) v.one
def lj (h:Hp) (l:Nat) (k:Nat->Nat->Bool->Bool->List V->Option β):Option β:=oB (h.get l) λo=>match o with
 | .cells e sz live ro cs=>k e sz live ro cs
 |_=>none
def AI (h:Hp) (l:Nat) (k:List (V×V×Nat)->Nat->Option β):Option β:=oB (h.get l) λo=>match o with
 | .map es c=>k es c
 |_=>none
def zy (h:Hp) (l:Nat) (k:List (V×V×Nat)->Nat->Option β) (kb:IntKind->List Int->Option β):Option β:=oB (h.get l) λo=>match o with
 | .map es c=>k es c
 | .Qj a ks=>kb a ks
 |_=>none
def LW(h:Hp)(l off n:Nat):Option (List V):=lj h l λ_ _ live _ cs=>bB live (sub cs off n)
def ld1(h:Hp)(l off:Nat):Option V:=lj h l λ_ _ live _ cs=>bB live (MF cs off)
def K1(h:Hp) (l off:Nat) (new:List V):Option Hp:=lj h l λe sz live ro cs=>bB live (bB (!ro) (bB (gj new) (oB (ta off cs new) λqF=>some (h.put l (.cells e sz true false qF)))))
structure PF where
 f:Tm->Hp->Option V
structure NF where
 f:Tm->Option V
structure AF where
 f:Tm->Option (O×(Nat->V))
def Qn:Operand->NF
 | .tmp i=>⟨λt=>some (ij t i)⟩
 | .const v=>match mV 8 v with
   |some v=>⟨λ_=>some v⟩
   |none=>⟨λ_=>none⟩
 | .global _=>⟨λ_=>none⟩
 | .func f=>⟨λ_=>some (.func f [] [])⟩
def yi(x:Operand):PF:=match x with
 | .global g=>match Nat.blt g P0.globals.size with
   |true=>⟨λ_ h=>oB (h.get g) λ_=>some (.ptr g 0)⟩
   |false=>⟨λ_ _=>none⟩
 |x=>⟨λt _=>(Qn x).f t⟩
def Mt(t:Tm):List Operand->Option (List V)
 |[]=>some []
 |x::xs=>oB ((Qn x).f t) λv=>oB (Mt t xs) λvs=>some (v::vs)
def uK(t:Tm):List (Nat×Operand)->Option (List (Nat×V))
 |[]=>some []
 |x::xs=>oB ((Qn x.2).f t) λv=>oB (uK t xs) λvs=>some ((x.1,v)::vs)
def JD(t:Nat) (a:PF):PF:=match Vp t with
 | some true=>match CT t with
   |some n=>⟨λt h=>oB (a.f t h) λa=>vx a λl off=>oB (LW h l off n) λcs=>some (.agg cs)⟩
   |none=>⟨λ_ _=>none⟩
 |some false=>⟨λt h=>oB (a.f t h) λa=>vx a λl off=>ld1 h l off⟩
 |none=>⟨λ_ _=>none⟩
def placesOf:List Field->Option (List (Nat×Nat))
 |[]=>some []
 |f::fs=>oB (CT f.type) λn=>oB (placesOf fs) λl=>some ((f.offset,n)::l)
def xz(place:Nat->Option (Nat×Nat)):List V->List (Nat×V)->Option (List V)
 |cells,[]=>some cells
 |cells,x::rest=>oB (place x.1) λp=>bB (Nat.beq x.2.cells.length p.2) (oB (ta p.1 cells x.2.cells) λcs=>xz place cs rest)
def CM:Nat->List V->List V
 |0,_=>[]
 |n+1,z=>z++CM n z
def JO(t:Nat) (a:List (Nat×Operand)):PF:=match zeroV t with
 | some z=>match P0.underlying t with
   | some (.struct fields)=>match placesOf fields.toList with
     |some b=>⟨λt _=>oB (uK t a) λc=>oB (xz (λi=>b[i]?) z.cells c) λcs=>some (.agg cs)⟩
     |none=>⟨λ_ _=>none⟩
   | some (.array _ elem)=>match CT elem with
     |some size=>⟨λt _=>oB (uK t a) λc=>oB (xz (λi=>some (Nat.mul i size,size)) z.cells c) λcs=>some (.agg cs)⟩
     |none=>⟨λ_ _=>none⟩
   |_=>⟨λ_ _=>none⟩
 |none=>⟨λ_ _=>none⟩
def jo(k:IntKind) (n:Int):Int:=match n with
 | .ofNat m=>match Nat.blt m (match k with| .i8=>128| .u8=>256| .i16=>32768| .u16=>65536| .i32=>2147483648| .u32=>4294967296| .i64=>9223372036854775808| .u64=>18446744073709551616)with
   |true=> .ofNat m
   |false=>k.wrap (.ofNat m)
 | .negSucc m=>k.wrap (.negSucc m)
def hint(op:BinOp) (k:IntKind) (x y:Int):Option V:=match op with
 | .add=>some (.int k (jo k (x+y)))
 | .sub=>some (.int k (jo k (x-y)))
 | .mul=>some (.int k (jo k (x*y)))
 | .quo=>match x,y with
   |_,.ofNat 0=>none
   |x,y=>some (.int k (jo k (x.tdiv y)))
 | .rem=>match x,y with
   |_,.ofNat 0=>none
   |x,y=>some (.int k (x.tmod y))
 | .or=>some (.int k (k.wrap ((BitVec.ofInt k.bits x |||BitVec.ofInt k.bits y).toNat)))
 | .eql=>some (.bool (x == y))
 | .neq=>some (.bool (x != y))
 | .lss=>some (.bool (x<y))
 | .leq=>some (.bool (x<=y))
 | .gtr=>some (.bool (x>y))
 | .geq=>some (.bool (x>=y))
 |_=>none
def Ww(op:BinOp) (k:IntKind) (x y:Int):Option V:=match y with
 | .negSucc _=>none
 | .ofNat m=>match op with
   | .shl=>some (.int k (k.wrap (x*2 ^ (min m k.bits))))
   | .shr=>some (.int k (x.fdiv (2 ^ (min m k.bits))))
   |_=>none
def zey(op:BinOp) (x y:List UInt8):Option V:=match op with
 | .eql=>some (.bool (x == y))
 | .neq=>some (.bool (!(x == y)))
 |_=>none
def zen(d:TypeDesc) (x y:V):Option Bool:=match d,x,y with
 | .bool,.bool a,.bool b=>some (a == b)
 |_,_,_=>none
def KA:IntKind->IntKind->Bool
 | .i8,.i8| .i16,.i16| .i32,.i32| .i64,.i64| .u8,.u8| .u16,.u16| .u32,.u32| .u64,.u64=>true
 |_,_=>false
def zbg(t:Nat) (x y:V):Option Bool:=match P0.underlying t with
 |some d=>zen d x y
 |none=>none
def zel(t:Nat)(x y:V):Option Bool:=zbg t x y
def Zm(t:Nat)(a:Bool)(x y:V):Option V:=oB (zel t x y) λb=>some (.bool (Bool.rec b (!b) a))
def Xt:BinOp->Bool
 | .shl| .shr=>true
 |_=>false
def eh(op:BinOp) (t:Nat) (x y:V):Option V:=match x,y with
 | .int k a,.int k' b=>match Xt op with
   |true=>Ww op k a b
   |false=>bB (KA k k') (hint op k a b)
 | .str a,.str b=>zey op a b
 | x,y=>match op with
   | .eql=>Zm t false x y
   | .neq=>Zm t true x y
   |_=>none
def za(op:UnOp) (x:V):Option V:=match op,x with
 | .neg,.int k n=>some (.int k (jo k (Int.sub 0 n)))
 | .not,.bool b=>some (.bool !b)
 |_,_=>none
def OF(a dst:Nat) (x:PF):PF:=match P0.underlying a,P0.underlying dst with
 | some (.int _),some (.int k)=>⟨λt h=>oB (x.f t h) λx=>match x with
   | .int _ n=>some (.int k (jo k n))
   |_=>none⟩
 |_,_=>⟨λ_ _=>none⟩
def zbd(t:Nat):List V->Nat->Option V:=match Vp t with
 | some true=>match CT t with
   |some n=>λcs off=>oB (sub cs off n) λl=>some (.agg l)
   |none=>λ_ _=>none
 |some false=>λcs off=>MF cs off
 |none=>λ_ _=>none
def R0(s f:Nat):Option Field:=match P0.underlying s with
 |some (.struct fields)=>fields.toList[f]?
 |_=>none
def sM(s:Nat) (x:PF) (f:Nat):PF:=match R0 s f with
 | some a=>match CT a.type with
   |some (_+1)=>⟨λt h=>oB (x.f t h) λx=>vx x λl off=>some (.ptr l (Nat.add off a.offset))⟩
   |_=>⟨λ_ _=>none⟩
 |none=>⟨λ_ _=>none⟩
def sW(t:Nat) (x i:PF):PF:=match P0.underlying t with
 | some (.slice elem)=>match CT elem with
   | some n=>⟨λt h=>oB (x.f t h) λx=>oB (i.f t h) λi=>asNat i λi=>match x with
     | .slice l off len=>bB (Nat.blt i len) (some (.ptr l (Nat.add off (Nat.mul i n))))
     |_=>none⟩
   |none=>⟨λ_ _=>none⟩
 | some (.array len elem)=>match CT elem with
   |some n=>⟨λt h=>oB (x.f t h) λx=>oB (i.f t h) λi=>asNat i λi=>vx x λl off=>bB (Nat.blt i len) (some (.ptr l (Nat.add off (Nat.mul i n))))⟩
   |none=>⟨λ_ _=>none⟩
 |_=>⟨λ_ _=>none⟩
def Ky(t:Nat) (x i:PF):PF:=match P0.underlying t with
 | some .string=>⟨λt h=>oB (x.f t h) λx=>oB (i.f t h) λi=>asNat i λi=>match x with
   | .str s=>oB ((s.drop i).head?) λb=>some (.int .u8 (.ofNat b.toNat))
   |_=>none⟩
 |_=>⟨λ_ _=>none⟩
def hbound(d:Nat):Option V->Option Nat
 |none=>some d
 |some (.int _ (.ofNat n))=>some n
 |some _=>none
def jE(size:Nat) (x:V) (lo hi:Option V) (h:Hp):Option V:=match x with
 | .slice lc off len=>lj h lc λ_ sz _ _ cs=>bB (Nat.beq size sz) (oB (hbound 0 lo) λl=>oB (hbound len hi) λu=>
   bB (Nat.ble l u) (bB (Nat.ble u len ||Nat.ble (Nat.add off (Nat.mul u size)) cs.length) (some (.slice lc (Nat.add off (Nat.mul l size)) (Nat.sub u l)))))
 | .ed=>oB (hbound 0 lo) λl=>oB (hbound 0 hi) λu=>bB (Nat.beq l 0) (bB (Nat.beq u 0) (some .ed))
 |_=>none
def Si(x:V) (lo hi:Option V):Option V:=match x with
 | .str s=>oB (hbound 0 lo) λl=>oB (hbound s.length hi) λu=>bB (Nat.ble l u) (bB (Nat.ble u s.length) (some (.str ((s.drop l).take (Nat.sub u l)))))
 |_=>none
def KN(x:Option Operand) (t:Tm) (h:Hp):Option (Option V):=match x with
 |none=>some none
 |some x=>oB ((yi x).f t h) λv=>some (some v)
def M9(t:Nat) (x:PF) (lo hi:Option Operand):PF:=match P0.underlying t with
 |some .string=>⟨λt h=>oB (x.f t h) λx=>oB (KN lo t h) λl=>oB (KN hi t h) λu=>Si x l u⟩
 | some (.slice elem)=>match CT elem with
   |some (n+1)=>⟨λt h=>oB (x.f t h) λx=>oB (KN lo t h) λl=>oB (KN hi t h) λu=>jE (Nat.succ n) x l u h⟩
   |_=>⟨λ_ _=>none⟩
 |_=>⟨λ_ _=>none⟩
def LR:V->Bool
 | .int _ _| .str _| .bool _=>true
 |_=>false
def Md:V->Bool
 | .agg cs=>cs.all LR
 |v=>LR v
def Ig(t:Nat) (a b:V):Option Bool:=match P0.underlying t with
 | some (.int _)=>match a,b with
   | .int k a,.int k' b=>bB (KA k k') (some (a == b))
   |_,_=>none
 | some .string=>match a,b with
   | .str a,.str b=>some (a == b)
   |_,_=>none
 | some .bool=>match a,b with
   | .bool a,.bool b=>some (a == b)
   |_,_=>none
 |_=>none
def Gb(t:Nat):Bool:=match P0.underlying t with
 |some (.int _)|some .string|some .bool=>true
 |_=>false
def T7:List Field->List V->List V->Option Bool
 |[],_,_=>some true
 |f::fs,x,y=>oB (MF x f.offset) λa=>oB (MF y f.offset) λb=>oB (Ig f.type a b) λe=>Bool.rec (some false) (T7 fs x y) e
def Ke(t:Nat):Option (Option (List Field)):=match P0.underlying t with
 |some (.int _)|some .string|some .bool=>some none
 | some (.struct fs)=>match !P0.stoodInHeld t&&fs.toList.all (λf=>Gb f.type&&f.name != "_")with
   |true=>some (some fs.toList)
   |false=>none
 |_=>none
def L1(t:Nat) (d:Option (List Field)) (a b:V):Option Bool:=match d with
 |none=>Ig t a b
 | some fs=>match a,b with
   | .agg x,.agg y=>T7 fs x y
   |_,_=>none
def Kj(d:Option (List Field)) (k:V):Bool:=match d with
 |none=>true
 | some fs=>match k with
   | .agg x=>fs.all λf=>(MF x f.offset).isSome
   |_=>false
def oQ(t:Nat) (d:Option (List Field)) (k:V):List (V×V×Nat)->Nat->Option (Option (Nat×V))
 |[],_=>some none
 |e::es,i=>oB (L1 t d k e.1) λb=>Bool.rec (oQ t d k es (Nat.succ i)) (some (some (i,e.2.1))) b
def found(z:V) (ok:Bool) (r:Option (Nat×V)):V:=match r,ok with
 |some (_,v),true=> .tuple [v,.bool true]
 |some (_,v),false=>v
 |none,true=> .tuple [z,.bool false]
 |none,false=>z
def He(t:Nat):Bool:=match P0.underlying t with
 |some (.int _)=>true
 |_=>false
def Hi(ks:List Int)(n:Int):Bool:=ks.any λm=>m == n
def Og(t:Nat) (d:Option (List Field)) (z:V) (ok:Bool) (k:V) (a:IntKind) (ks:List Int):Option V:=match d,k with
 |none,.int k' n=>bB (He t) (bB (KA k' a) (some (found z ok (Bool.rec none (some (0,.bool true)) (Hi ks n)))))
 |_,_=>none
def Ip(a:Nat) (m k:PF) (ok:Bool):PF:=match P0.underlying a with
 | some (.map kt et)=>match Ke kt,zeroV et with
   |some d,some z=>⟨λt h=>oB (m.f t h) λm=>oB (k.f t h) λk=>bB (Kj d k) (match m with
      | .nJ=>some (found z ok none)
      | .map l=>zy h l (λes _=>oB (oQ kt d k es 0) λr=>some (found z ok r)) (Og kt d z ok k)
      |_=>none)⟩
   |_,_=>⟨λ_ _=>none⟩
 |_=>⟨λ_ _=>none⟩
def hlen(t:Nat) (x:PF):PF:=match P0.underlying t with
 | some .string=>⟨λt h=>oB (x.f t h) λx=>match x with
   | .str s=>some (.int .i64 (.ofNat s.length))
   |_=>none⟩
 | some (.slice _)=>⟨λt h=>oB (x.f t h) λx=>match x with
   | .slice _ _ n=>some (.int .i64 (.ofNat n))
   | .ed=>some (.int .i64 (.ofNat 0))
   |_=>none⟩
 |_=>⟨λ_ _=>none⟩
def Sk(c:Bool):V->List V->Option V
 |x,[]=>some x
 | .int k a,.int _ b::r=>Sk c (.int k (if c then(if b>a then b else a) else(if b<a then b else a))) r
 |_,_=>none
def isIface(t:Nat):Option Bool:=match P0.underlying t with
 |some (.interface _)=>some true
 |some _=>some false
 |none=>none
def Ix(x:PF) (a:Nat) (ok:Bool):PF:=match isIface a,ok with
 | some false,false=>⟨λt h=>oB (x.f t h) λx=>match x with
   | .iface t v=>bB (Nat.beq t a) (some v)
   |_=>none⟩
 |_,_=>⟨λ_ _=>none⟩
def Nq(c a b:PF):PF:=⟨λt h=>oB (c.f t h) λc=>match c with
 | .bool x=>Bool.rec (b.f t h) (a.f t h) x
 |_=>none⟩
def Aq(x:PF):PF:=⟨λt h=>oB (x.f t h) λx=>match x with
 | .ptr l off=>some (.ptr l off)
 | .func f a c=>some (.func f a c)
 | .iface u v=>some (.iface u v)
 |_=>none⟩
def HF(x:PF) (i:Nat):PF:=⟨λt h=>oB (x.f t h) λx=>match x with
 | .tuple vs=>MF vs i
 |_=>none⟩
def zcC:PF:=⟨λ_ _=>none⟩
def iP(o:Oper):PF:=match o.op with
 | .move x=>yi x
 | .assign x=>yi x
 | .pick c a b=>Nq (yi c) (yi a) (yi b)
 | .load ty a=>JD ty (yi a)
 | .nilCheck x=>Aq (yi x)
 | .binOp op j x y _=>⟨λt h=>oB ((yi x).f t h) λa=>oB ((yi y).f t h) λb=>eh op j a b⟩
 | .unOp op _ x=>⟨λt h=>oB ((yi x).f t h) λa=>za op a⟩
 | .convert g dst x=>OF g dst (yi x)
 | .build ty e=>JO ty e.toList
 | .makeFunc (.func f) first caps=>⟨λt _=>oB (Mt t first.toList) λa=>oB (Mt t caps.toList) λc=>some (.func f a c)⟩
 | .slice ty x lo hi none=>M9 ty (yi x) lo hi
 | .fieldAddr s x f=>sM s (yi x) f
 | .indexAddr ty x i=>sW ty (yi x) (yi i)
 | .index ty x i=>Ky ty (yi x) (yi i)
 | .lookup ty m k ok=>Ip ty (yi m) (yi k) ok
 | .extract x i=>HF (yi x) i
 | .makeInterface ty x=>match isIface ty with
   |some false=>⟨λt h=>oB ((yi x).f t h) λv=>some (.iface ty v)⟩
   |_=>zcC
 | .typeAssert x _ d ok=>Ix (yi x) d ok
 | .call c=>match c.callee with
   | .builtin .len=>match c.args.toList,c.argTypes.toList with
     |[x],ty::_=>hlen ty (yi x)
     |_,_=>zcC
   | .builtin .min=>⟨λt _=>oB (Mt t c.args.toList) λl=>match l with
     |x::r=>Sk false x r
     |[]=>none⟩
   | .builtin .max=>⟨λt _=>oB (Mt t c.args.toList) λl=>match l with
     |x::r=>Sk true x r
     |[]=>none⟩
   |_=>zcC
 |_=>zcC
def mO(e:Nat)(v:V):Option (O×(Nat->V)):=bB (gj v.cells) (some (.cells e 1 true false v.cells,λl=> .ptr l 0))
def GN(b size len:Nat) (z:V) (a:List (Nat×Operand)) (t:Tm):Option (O×(Nat->V)):=oB (uK t a) λc=>oB (xz (λi=>some (Nat.mul i size,size)) (CM len z.cells) c) λcs=>bB (gj cs) (some (.cells b size true false cs,λl=> .slice l 0 len))
def jA(a size jh:Nat) (z:V) (n c:V):Option (O×(Nat->V)):=match n,c with
 | .int .i64 (.ofNat n),.int .i64 (.ofNat c)=>bB (Nat.ble n c) (bB (Nat.ble (Nat.mul c jh) 281474976710656) (bB (Nat.ble c 1099511627776)
   (some (.cells a size true false (CM c z.cells),λl=> .slice l 0 n))))
 |_,_=>none
def elemOf(a:Nat):Option (Nat×Nat×V):=oB (CT a) λsize=>oB (zdc a) λjh=>oB (zeroV a) λz=>bB (Nat.blt 0 size) (bB (Nat.beq z.cells.length size) (bB (gj z.cells) (some (size,jh,z))))
def LU(t:Nat):Option Nat:=match P0.underlying t with
 |some (.slice e)=>some e
 |_=>none
def Vk:AF:=⟨λ_=>none⟩
def sU(o:Oper):AF:=match o.op with
 | .alloc e=>match zeroV e with
   |some z=>⟨λ_=>mO e z⟩
   |none=>Vk
 | .box e x=>⟨λt=>oB ((Qn x).f t) λv=>mO e v⟩
 | .buildSlice ty len b=>match LU ty with
   | some a=>match elemOf a with
     | some (size,_,z)=>match Nat.ble (Nat.mul len size) 16777216 with
       |true=>⟨λt=>GN a size len z b.toList t⟩
       |false=>Vk
     |none=>Vk
   |none=>Vk
 | .makeSlice ty n c=>match LU ty with
   | some a=>match elemOf a with
     |some (size,jh,z)=>⟨λt=>oB ((Qn n).f t) λn=>oB ((Qn c).f t) λc=>jA a size jh z n c⟩
     |none=>Vk
   |none=>Vk
 | .makeMap ty none=>match P0.underlying ty with
   |some (.map _ _)=>⟨λ_=>some (.map [] 0,λl=> .map l)⟩
   |_=>Vk
 |_=>Vk
inductive R where
 |val (v:V) (h:Hp)
 |call (f:Nat) (args:List V)
structure WF where
 f:Tm->Hp->Option R
def lT(h:Hp) (size:Nat):V->Option (Nat×List V)
 | .ed=>some (0,[])
 | .slice _ _ 0=>some (0,[])
 | .slice l off (n+1)=>oB (LW h l off (Nat.mul (Nat.succ n) size)) λcs=>some (Nat.succ n,cs)
 |_=>none
def fg(a size jh:Nat) (s x:V) (h:Hp):Option R:=oB (lT h size x) λnx=>
 Bool.rec
  (bB (gj nx.2) (match s with
   | .ed=>bB (Nat.ble (Nat.mul nx.1 jh) 70368744177664) (bB (Nat.ble nx.1 70368744177664)
     (some (.val (.slice h.next 0 nx.1) (h.new (.cells a size true false nx.2)))))
   | .slice l off len=>lj h l λe sz live ro cs=>bB live (bB (!ro) (bB (Nat.beq sz size)
     (Bool.rec
      (oB (sub cs off (Nat.mul len size)) λyj=>bB (gj yj) (bB (Nat.ble (Nat.mul (Nat.add len nx.1) jh) 70368744177664) (bB (Nat.ble (Nat.add len nx.1) 70368744177664)
       (some (.val (.slice h.next 0 (Nat.add len nx.1)) ((h.put l (.cells e sz false false cs)).new (.cells a size true false (yj++nx.2))))))))
      (oB (ta (Nat.add off (Nat.mul len size)) cs nx.2) λqF=>some (.val (.slice l off (Nat.add len nx.1)) (h.put l (.cells e sz true false qF))))
      (Nat.ble (Nat.add off (Nat.mul (Nat.add len nx.1) size)) cs.length))))
   |_=>none))
  (match s with
   | .ed=>some (.val .ed h)
   | .slice l off len=>some (.val (.slice l off len) h)
   |_=>none)
  (Nat.beq nx.1 0)
def Bl(t:Nat) (d:Option (List Field)) (es:List (V×V×Nat)) (a:Nat) (k v:V):Option O:=oB (oQ t d k es 0) λr=>match r with
 |some (i,_)=>oB es[i]? λe=>bB (V.beq e.1 k) (bB (Md k) (some (.map (es.set i (k,v,e.2.2)) a)))
 |none=>some (.map (es++[(k,v,a)]) (Nat.succ a))
def WD(t:Nat) (d:Option (List Field)) (k v:V) (l:Nat) (h:Hp) (a:IntKind) (ks:List Int):Option R:=match d,k,v with
 |none,.int k' n,.bool true=>bB (He t) (bB (KA k' a) (some (.val .undef (h.put l (.Qj a (n::ks))))))
 |_,_,_=>none
def zk(t:Nat) (d:Option (List Field)) (m k v:V) (h:Hp):Option R:=bB (Kj d k) (match m with
 | .map l=>zy h l (λes c=>oB (Bl t d es c k v) λo=>some (.val .undef (h.put l o))) (WD t d k v l h)
 |_=>none)
def BW(t:Nat) (d:Option (List Field)) (m k:V) (h:Hp):Option R:=bB (Kj d k) (match m with
 | .nJ=>some (.val (.tuple []) h)
 | .map l=>AI h l λes c=>oB (oQ t d k es 0) λr=>match r with
   |some (i,_)=>some (.val (.tuple []) (h.put l (.map (es.eraseIdx i) c)))
   |none=>some (.val (.tuple []) h)
 |_=>none)
def gg(f:V) (args:List V):Option R:=match f with
 | .func f first a=>some (.call f (first++(args++a)))
 |_=>none
def methodOf(t:Nat) (a:String):Option (Nat×Option Nat):=oB (P0.info? t) λi=>match i.methods.toList.find? (λm=>m.name == a)with
 | some m=>match m.path.toList,m.func,P0.underlying t with
   |[],some (f,true),some (.pointer _)=>some (f,none)
   |[],some (f,false),some (.pointer e)=>some (f,some e)
   |[],some (f,false),some _=>some (f,none)
   |_,_,_=>none
 |none=>none
def jZ(a:String) (r:V) (args:List V) (h:Hp):Option R:=match r with
 | .iface t v=>match methodOf t a with
   |some (f,none)=>some (.call f (v::args))
   |some (f,some e)=>oB ((JD e ⟨λ_ _=>some v⟩).f (.tree .leaf []) h) λx=>some (.call f (x::args))
   |none=>none
 |_=>none
def MQ(m:V) (h:Hp):Option R:=match m with
 | .map l=>AI h l λ_ c=>some (.val (.ptr h.next 0) (h.new (.iter (some l) c [] c)))
 |_=>none
def Mp(it:V) (h:Hp):Option R:=vx it λr off=>bB (Nat.beq off 0) (oB (h.get r) λo=>match o with
 | .iter (some m) _ seen last=>AI h m λes a=>bB (Nat.beq a last) (oB seen.getLast? λst=>oB (es.find? λe=>Nat.beq e.2.2 st) λe=>some (.val (.tuple [e.1,e.2.1]) h))
 |_=>none)
def N0:WF:=⟨λ_ _=>none⟩
def j8(o:Oper):WF:=match o.op with
 | .store ty a x=>match CT ty with
   |some n=>⟨λt h=>oB ((yi a).f t h) λa=>oB ((yi x).f t h) λv=>vx a λl off=>
      bB (Nat.beq v.cells.length n) (oB (K1 h l off v.cells) λh=>some (.val .undef h))⟩
   |none=>N0
 | .mapUpdate ty m k x=>match P0.underlying ty with
   | some (.map kt _)=>match Ke kt with
     |some d=>⟨λt h=>oB ((yi m).f t h) λm=>oB ((yi k).f t h) λk=>oB ((yi x).f t h) λv=>zk kt d m k v h⟩
     |none=>N0
   |_=>N0
 | .range ty x=>match P0.underlying ty with
   |some (.map _ _)=>⟨λt h=>oB ((yi x).f t h) λm=>MQ m h⟩
   |_=>N0
 | .entry x=>⟨λt h=>oB ((yi x).f t h) λm=>Mp m h⟩
 | .call c=>match c.callee with
   | .builtin .append=>match c.args.toList,c.argTypes.toList with
     | [s,x],[sT,xT]=>match LU sT,P0.underlying xT with
       | some elem,some (.slice _)=>match elemOf elem with
         |some (size,jh,_)=>⟨λt h=>oB ((yi s).f t h) λs=>oB ((yi x).f t h) λx=>fg elem size jh s x h⟩
         |none=>N0
       |_,_=>N0
     |_,_=>N0
   | .builtin .delete=>match c.args.toList,c.argTypes.toList with
     | [m,k],mT::_=>match P0.underlying mT with
       | some (.map kt _)=>match Ke kt with
         |some d=>⟨λt h=>oB ((yi m).f t h) λm=>oB ((yi k).f t h) λk=>BW kt d m k h⟩
         |none=>N0
       |_=>N0
     |_,_=>N0
   | .value f=>⟨λt h=>oB ((yi f).f t h) λf=>oB (Mt t c.args.toList) λargs=>gg f args⟩
   | .invoke r b=>⟨λt h=>oB ((yi r).f t h) λr=>oB (Mt t c.args.toList) λargs=>jZ b r args h⟩
   |_=>N0
 |_=>N0
def cls(o:Oper):Nat:=match o.op with
 | .alloc _| .box _ _| .buildSlice _ _ _| .makeSlice _ _ _| .makeMap _ _=>1
 | .move _| .assign _| .pick _ _ _| .load _ _| .nilCheck _| .binOp _ _ _ _ _| .unOp _ _ _| .build _ _| .makeFunc _ _ _| .slice _ _ _ _ _
 | .fieldAddr _ _ _| .indexAddr _ _ _| .index _ _ _| .lookup _ _ _ _| .extract _ _| .makeInterface _ _| .typeAssert _ _ _ _=>0
 | .call c=>match c.callee with
   | .builtin .len| .builtin .min| .builtin .max=>0
   |_=>2
 | .convert a dst _=>match P0.underlying a,P0.underlying dst with
   |some (.int _),some (.int _)=>0
   |_,_=>2
 |_=>2
abbrev Call:=Nat->List V->Hp->Option (V×Hp)
structure RF where
 f:Call->Tm->Hp->Option (V×Hp)
def Ek(o:Oper):RF:=match cls o with
 |0=>⟨λ_ t h=>oB ((iP o).f t h) λv=>some (v,h)⟩
 |1=>⟨λ_ t h=>oB ((sU o).f t) λr=>some (r.2 h.next,h.new r.1)⟩
 | _=>⟨λcall t h=>oB ((j8 o).f t h) λr=>match r with
   | .val v h=>some (v,h)
   | .call f args=>call f args h⟩
structure GF where
 f:Tm->Option Bool
def kE(n:Nat) (ops:List Oper) (o:Oper):Option GF:=match o.guard with
 |none=>none
 | some (j,w)=>match ops[j]? with
   | some a=>match a.dst with
     | some d=>match Nat.blt d n with
       | true=>some ⟨λt=>match ij t d with
         | .bool b=>some (Bool.rec (!w) w b)
         | .tuple []=>some false
         |_=>none⟩
       |false=>some ⟨λ_=>none⟩
     |none=>some ⟨λ_=>some false⟩
   |none=>some ⟨λ_=>some false⟩
structure DF where
 f:Tm->V->Tm
def xe(n:Nat) (o:Oper):Option DF:=match o.dst with
 |none=>some ⟨λt _=>t⟩
 | some d=>match Nat.blt d n with
   |true=>some ⟨λt v=>t.set d v⟩
   |false=>none
structure SF where
 f:Call->Tm->Hp->Option (Tm×Hp)
def zgn:SF:=⟨λ_ _ _=>none⟩
structure QF where
 f:Tm->Hp->Option Tm
def GP(n:Nat) (all:List Oper) (o:Oper) (a:SF):SF:=match xe n o with
 |none=>zgn
 | some d=>match kE n all o with
   |none=>⟨λcall t h=>oB ((Ek o).f call t h) λr=>a.f call (d.f t r.1) r.2⟩
   |some g=>⟨λcall t h=>oB (g.f t) λb=>Bool.rec (a.f call (d.f t .undef) h)
      (oB ((Ek o).f call t h) λr=>a.f call (d.f t r.1) r.2) b⟩
def lZ(n:Nat) (all:List Oper):List Oper->SF
 |[]=>⟨λ_ t h=>some (t,h)⟩
 |o::os=>GP n all o (lZ n all os)
structure It where
 i:Nat
 o:Oper
 b:Nat
def OD(e:Edge):Bool:=match e.ground with
 | .textOnly _| .gcOnly _=>false
 |_=>true
def OV(a:List Nat):List Edge->Nat->Nat
 |[],m=>m
 | e::es,m=>match OD e with
   |true=>OV a es (m |||(2 ^ e.on |||a[e.on]?.getD 0))
   |false=>OV a es m
def items:List Oper->Nat->List Nat->List It
 |[],_,_=>[]
 |o::os,i,acc=>{i,o,b:=OV acc o.after.toList 0}::items os (i+1) (acc++[OV acc o.after.toList 0])
def Ci:List Operand->List Nat
 |[]=>[]
 | .tmp t::xs=>t::Ci xs
 |_::xs=>Ci xs
def tA(o:Oper):List Nat:=o.dst.toList++Ci o.op.operands.toList
def writes(o:Oper) (l:List Nat):Bool:=match o.dst with
 |some d=>l.contains d
 |none=>false
def RS(a b:It):Bool:=(!(writes a.o (tA b.o))&&!(writes b.o (tA a.o))) ||b.b.testBit a.i
def tf:List It->Bool
 |[]=>true
 |a::l=>l.all (RS a)&&tf l
def EZ(kM:List It) (a:It):Bool:=match a.o.guard with
 |none=>true
 | some (j,_)=>match kM[j]? with
   | some g=>match g.o.dst with
     |some d=>a.b.testBit j&&kM.all (λx=>x.i == j || !(x.o.dst == some d))
     |none=>false
   |none=>false
def BS(a:It):Bool:=a.o.after.toList.all λe=>!OD e ||Nat.blt e.on a.i
def Im:List It->Bool
 |a::b::l=>b.b.testBit a.i&&Im (b::l)
 |_=>true
def RR(kM ws:List It):Bool:=tf kM&&kM.all (EZ kM)&&kM.all BS&&Im ws
def early(ws:List It)(a:It):Nat:=(ws.filter λw=>a.b.testBit w.i).length
def late:List It->It->Nat
 |[],_=>0
 | w::ws,a=>match w.b.testBit a.i with
   |true=>0
   |false=>late ws a+1
def O.beq:O->O->Bool
 | .cells e s a r cs,.cells e' s' a' r' qF=>e == e'&&s == s'&&a == a'&&r == r'&&V.N7 cs qF
 | .map [] c,.map [] c'=>c == c'
 |_,_=>false
structure Rec where
 it:It
 t:Tm
 v:V
 made:Option (Nat×O)
 last:Nat
def Af(h:Hp) (r:Rec):Bool:=match r.made with
 | none=>match (iP r.it.o).f r.t h with
   |some v=>V.beq v r.v
   |none=>false
 | some (l,ob)=>match h.get l with
   |some a=>O.beq a ob
   |none=>false
def rh(n:Nat) (all:List Oper) (o:Oper) (t:Tm):Option Bool:=match kE n all o with
 |none=>some true
 |some g=>g.f t
def CN(k:Nat)(h:Hp)(rs:List Rec):Bool:=rs.all λr=>Nat.blt r.last k ||Af h r
def XE(kM ws:List It)(k:Nat):List It:=kM.filter λa=>!(Nat.beq (cls a.o) 2)&&Nat.beq (early ws a) k
def order(kM ws:List It):List It->Nat->List It
 |[],k=>XE kM ws k
 |w::todo,k=>XE kM ws k++w::order kM ws todo (Nat.succ k)
def Oa(ws:List It) (a:It):Nat->Bool
 |0=>true
 | k+1=>match ws[k]? with
   |some w=>a.b.testBit w.i
   |none=>false
def isW(ws:List It) (a:It) (k:Nat):Bool:=match ws[k]? with
 |some w=>Nat.beq w.i a.i
 |none=>false
def wG(kM ws:List It):List It->Nat->Nat->Bool
 |[],m,k=>kM.all (λa=>m.testBit a.i)&&Nat.beq k ws.length
 | a::l,m,k=>!m.testBit a.i&&(kM.all (λx=>!a.b.testBit x.i ||m.testBit x.i)&&(match Nat.beq (cls a.o) 2 with
   |true=>isW ws a k&&wG kM ws l (m |||2 ^ a.i) (Nat.succ k)
   |false=>Oa ws a k&&wG kM ws l (m |||2 ^ a.i) k))
structure LF where
 f:Call->Tm->Hp->List Rec->Option (Tm×Hp)
def Jy(n:Nat) (all:List Oper) (ws:List It) (a:It) (d:DF) (c:LF):LF:=⟨λcall t h rs=>oB (rh n all a.o t) λb=>Bool.rec (c.f call (d.f t .undef) h rs) (oB ((iP a.o).f t h) λv=>c.f call (d.f t v) h ({it:=a,t,v,made:=none,last:=late ws a}::rs)) b⟩
def Ht(n:Nat) (all:List Oper) (ws:List It) (a:It) (d:DF) (c:LF):LF:=⟨λcall t h rs=>oB (rh n all a.o t) λb=>Bool.rec (c.f call (d.f t .undef) h rs) (oB ((sU a.o).f t) λr=>c.f call (d.f t (r.2 h.next)) (h.new r.1) ({it:=a,t,v:=r.2 h.next,made:=some (h.next,r.1),last:=late ws a}::rs)) b⟩
def CL(n:Nat) (all:List Oper) (k:Nat) (a:It) (d:DF) (c:LF):LF:=⟨λcall t h rs=>bB (CN k h rs) (oB (rh n all a.o t) λb=>Bool.rec (c.f call (d.f t .undef) h rs) (oB ((Ek a.o).f call t h) λx=>bB (Nat.ble h.next x.2.next) (c.f call (d.f t x.1) x.2 rs)) b)⟩
def xG(n:Nat) (all:List Oper) (ws:List It):List It->Nat->LF
 |[],k=>⟨λ_ t h rs=>bB (CN k h rs) (some (t,h))⟩
 | a ::l,k=>match xe n a.o with
   |none=>⟨λ_ _ _ _=>none⟩
   | some d=>match cls a.o with
     |0=>Jy n all ws a d (xG n all ws l k)
     |1=>Ht n all ws a d (xG n all ws l k)
     |_=>CL n all k a d (xG n all ws l (Nat.succ k))
def hD(kM:List It):List It:=kM.filter λa=>Nat.beq (cls a.o) 2
def RZ:Operand->Bool
 | .global _=>false
 |_=>true
def storeAt(o:Oper):Option Nat:=match o.op with
 | .store _ (.tmp d) x=>match o.guard,o.dst,RZ x with
   |none,none,true=>some d
   |_,_,_=>none
 |_=>none
def KZ(o:Oper):Bool:=match o.op with
 | .move x| .nilCheck x| .fieldAddr _ x _=>RZ x
 | .indexAddr _ x i=>RZ x&&RZ i
 |_=>false
def Oo:List It->Option (It×It)
 |[]=>none
 |[_]=>none
 |[a,b]=>some (a,b)
 |_::b::c::l=>Oo (b::c::l)
def Kl:List It->Bool
 | a::b::c::l=>b.b.testBit a.i&&(match l with
   |[]=>c.b.testBit a.i
   |_=>true)&&Kl (b::c::l)
 |_=>true
def fixed(kM:List It)(a:It):Bool:=(Ci a.o.op.operands.toList).all λd=>kM.all λx=>!(writes x.o [d]) ||a.b.testBit x.i
def SR(kM:List It) (a b:It):Bool:=kM.all λx=>Nat.beq x.i a.i ||Nat.beq x.i b.i ||(a.b.testBit x.i&&b.b.testBit x.i) || (Nat.beq (cls x.o) 0&&KZ x.o&&x.o.guard.isNone&&!x.b.testBit a.i&&!x.b.testBit b.i)
def LS(kM ws:List It):Option (It×It×Nat×Nat):=match Oo ws with
 | some (a,b)=>match storeAt a.o,storeAt b.o with
   | some da,some db=>match fixed kM a&&fixed kM b&&SR kM a b&&Kl ws with
     |true=>some (a,b,da,db)
     |false=>none
   |_,_=>none
 |none=>none
def zaC:V->V->Bool
 | .ptr l _,.ptr l' _=>!(Nat.beq l l')
 |_,_=>false
def SL(kM:List It):Bool:=tf kM&&kM.all (EZ kM)&&kM.all BS
def Qg(n:Nat) (all:List Oper):SF:=
 match RR (items all 0 []) (hD (items all 0 []))&&wG (items all 0 []) (hD (items all 0 [])) (order (items all 0 []) (hD (items all 0 [])) (hD (items all 0 [])) 0) 0 0 with
 |true=>⟨λcall t h=>(xG n all (hD (items all 0 [])) (order (items all 0 []) (hD (items all 0 [])) (hD (items all 0 [])) 0) 0).f call t h []⟩
 | false=>match LS (items all 0 []) (hD (items all 0 [])),SL (items all 0 [])&&wG (items all 0 []) (hD (items all 0 [])) (order (items all 0 []) (hD (items all 0 [])) (hD (items all 0 [])) 0) 0 0 with
   |some p,true=>⟨λcall t h=>oB ((xG n all (hD (items all 0 [])) (order (items all 0 []) (hD (items all 0 [])) (hD (items all 0 [])) 0) 0).f call t h []) λr=>
      bB (zaC (ij r.1 p.2.2.1) (ij r.1 p.2.2.2)) (some r)⟩
   |_,_=>zgn
inductive X where
 |normal
 |exit (id:Nat)
 |ret
structure CF where
 f:Call->Nat->Tm->Hp->Option (X×Tm×Hp)
def Kc(r:Option (X×Tm×Hp)) (k:Tm->Hp->Option (X×Tm×Hp)):Option (X×Tm×Hp):=match r with
 |some (.normal,t,h)=>k t h
 |r=>r
def MC(id:Nat) (r:Option (X×Tm×Hp)):Option (X×Tm×Hp):=match r with
 |some (.exit id',t,h)=>Bool.rec (some (.exit id',t,h)) (some (.normal,t,h)) (Nat.beq id' id)
 |r=>r
def Np(body:Tm->Hp->Option (X×Tm×Hp)) (m:Nat):Tm->Hp->Option (X×Tm×Hp):=Nat.rec (λ_ _=>none) (λ_ a t h=>Kc (body t h) a) m
structure nG where
 it:Nat
 a:Nat
 c:Nat
 e0:Nat
 e1:Nat
 e2:Nat
 m0:Nat
 m1:Nat
 u:Nat
 x:Nat
 ty:Nat
 kt:Nat
 k:IntKind
def RU:List Nat->Bool
 |[]=>true
 |a::l=>l.all (λb=>!(Nat.beq a b))&&RU l
def nG.all(F:nG):List Nat:=[F.it,F.u,F.a,F.c,F.e0,F.e1,F.e2,F.m0,F.m1]
def nG.ok(n:Nat) (F:nG):Bool:=F.all.all (λd=>Nat.blt d n)&&RU F.all&&(match P0.underlying F.ty with
 |some (.map kt _)=>Nat.beq kt F.kt
 |_=>false)&&(match P0.underlying F.kt with
 |some (.int k)=>KA k F.k
 |_=>false)
def nG.r0(F:nG) (b o2:Oper):Bool:=match b.op,b.dst,b.guard,o2.op,o2.dst,o2.guard with
 | .next (.tmp it) false,some a,none,.extract (.tmp a') 0,some c,none=>Nat.beq it F.it&&Nat.beq a F.a&&Nat.beq a' F.a&&Nat.beq c F.c
 |_,_,_,_,_,_=>false
def nG.r1(F:nG) (a o2 b:Oper):Bool:=match a.op,a.dst,a.guard,o2.op,o2.dst,o2.guard,b.op,b.dst,b.guard with
 | .entry (.tmp it),some e0,none,.extract (.tmp c) 0,some e1,none,.assign (.tmp d),some e2,none=>
   Nat.beq it F.it&&Nat.beq e0 F.e0&&Nat.beq c F.e0&&Nat.beq e1 F.e1&&Nat.beq d F.e1&&Nat.beq e2 F.e2
 |_,_,_,_,_,_,_,_,_=>false
def nG.r2(F:nG) (a o2 b:Oper):Bool:=match a.op,a.dst,a.guard,o2.op,o2.dst,o2.guard,b.op,b.dst,b.guard with
 | .move (.tmp u),some m0,none,.move (.tmp e2),some m1,none,.mapUpdate ty (.tmp c) (.tmp d) (.const (.bool true)),none,none=>
   Nat.beq u F.u&&Nat.beq m0 F.m0&&Nat.beq e2 F.e2&&Nat.beq m1 F.m1&&Nat.beq ty F.ty&&Nat.beq c F.m0&&Nat.beq d F.m1
 |_,_,_,_,_,_,_,_,_=>false
def nG.of(c x:Nat) (b o2 p1 p2 p3 d e f:Oper):Option nG:=match b.op,b.dst,p1.dst,p2.dst,p3.dst,d.dst,e.dst,d.op,f.op with
 | .next (.tmp it) _,some a,some e0,some e1,some e2,some m0,some m1,.move (.tmp u),.mapUpdate ty _ _ _=>match P0.underlying ty with
   | some (.map kt _)=>match P0.underlying kt with
     |some (.int k)=>some ⟨it,a,c,e0,e1,e2,m0,m1,u,x,ty,kt,k⟩
     |_=>none
   |_=>none
 |_,_,_,_,_,_,_,_,_=>none
def zg(n:Nat) (c:Code):Option nG:=match c with
 | .seq (.region _ r0 false) (.seq (.cond (.tmp c) .skip (.exit x)) (.block _ (.seq (.region _ r1 false) (.region _ r2 false))))=>match r0.toList,r1.toList,r2.toList with
   | [a,o2],[p1,p2,p3],[b,d,e]=>match nG.of c x a o2 p1 p2 p3 b d e with
     | some F=>match F.ok n&&F.r0 a o2&&F.r1 p1 p2 p3&&F.r2 b d e&&Nat.beq F.c c&&Nat.beq F.x x with
       |true=>some F
       |false=>none
     |none=>none
   |_,_,_=>none
 |_=>none
def zet(k:IntKind):V×V×Nat->Option Int
 |(.int k' n,.bool true,_)=>bB (KA k' k) (some n)
 |_=>none
def Nr(k:IntKind):List (V×V×Nat)->Option (List Int)
 |[]=>some []
 |e::es=>oB (zet k e) λn=>oB (Nr k es) λns=>some (n::ns)
noncomputable def nG.t(F:nG)(u:Nat)(none:Bool)(t:Tm):Tm:=((Bool.rec (motive:=λ_=>Tm) (((((t.set F.e0 (.tuple [.anyI F.k,.bool true])).set F.e1 (.anyI F.k)).set F.e2 (.anyI F.k)).set F.m0 (.map u)).set F.m1 (.anyI F.k)) t none).set F.a (.tuple [.bool false])).set F.c (.bool false)
def QW(F:nG) (t:Tm) (h:Hp):Option (X×Tm×Hp):=vx (ij t F.it) λr off=>bB (Nat.beq off 0) (oB (h.get r) λo=>match o with
 | .iter (some m) since [] last=>AI h m λes a=>bB (Nat.beq since a&&Nat.beq last a) (oB (Nr F.k es) λks=>match ij t F.u with
   | .map u=>bB (!(Nat.beq u m)) (AI h u λus _=>bB us.isEmpty (some (.exit F.x,F.t u es.isEmpty t,(h.put r .gone).put u (.Qj F.k ks))))
   |_=>none)
 |_=>none)
def zgZ:CF:=⟨λ_ _ _ _=>none⟩
def jc(n:Nat):Code->CF
 | .skip=>⟨λ_ _ t h=>some (.normal,t,h)⟩
 | .seq a b=>⟨λcall m t h=>Kc ((jc n a).f call m t h) λt h=>(jc n b).f call m t h⟩
 | .cond c a b=>⟨λcall m t h=>oB ((yi c).f t h) λv=>match v with
   | .bool x=>Bool.rec ((jc n b).f call m t h) ((jc n a).f call m t h) x
   |_=>none⟩
 | .block id c=>⟨λcall m t h=>MC id ((jc n c).f call m t h)⟩
 | .loop c=>match zg n c with
   |some F=>⟨λ_ _ t h=>QW F t h⟩
   |none=>⟨λcall m t h=>Np (λt h=>(jc n c).f call m t h) m t h⟩
 | .exit id=>⟨λ_ _ t h=>some (.exit id,t,h)⟩
 | .ret=>⟨λ_ _ t h=>some (.ret,t,h)⟩
 | .region _ ops false=>⟨λcall _ t h=>oB ((lZ n ops.toList ops.toList).f call t h) λr=>some (.normal,r.1,r.2)⟩
 | .region _ ops true=>⟨λcall _ t h=>oB ((Qg n ops.toList).f call t h) λr=>some (.normal,r.1,r.2)⟩
 |_=>zgZ
inductive Ext where
 |none
 |countByte
 |indexByte
def OW(c:Nat):List UInt8->Nat->Nat
 |[],n=>n
 |b::l,n=>OW c l (Bool.rec n (Nat.succ n) (Nat.beq b.toNat c))
def SH(c:Nat):List UInt8->Nat->Option Nat
 |[],_=>none
 |b::l,n=>Bool.rec (SH c l (Nat.succ n)) (some n) (Nat.beq b.toNat c)
def WG:Ext->List V->Option V
 | .countByte,[.str s,.int .u8 (.ofNat c)]=>bB (Nat.blt c 256) (some (.int .i64 (.ofNat (OW c s 0))))
 | .indexByte,[.str s,.int .u8 (.ofNat c)]=>bB (Nat.blt c 256) (match SH c s 0 with
   |some i=>some (.int .i64 (.ofNat i))
   |none=>some (.int .i64 (-1)))
 |_,_=>none
def zcY:ResultVar->PF
 | .tmp i=>⟨λt _=>some (ij t i)⟩
 | .cell a ty=>JD ty ⟨λt _=>some (ij t a)⟩
def DI(t:Tm) (h:Hp):List ResultVar->Option (List V)
 |[]=>some []
 |r::rs=>oB ((zcY r).f t h) λv=>oB (DI t h rs) λvs=>some (v::vs)
def EJ(vs:List V):V:=match vs with
 |[v]=>v
 |vs=> .tuple vs
structure FF where
 f:Call->Nat->List V->Hp->Option (V×Hp)
structure mw where
 start:List V->Tm
 ext:Nat->Ext
 K:Nat->List V->Hp->Option V
def V.flat:V->Bool
 | .bool _| .int _ _| .str _| .nilPtr| .ed| .nJ| .nilFunc| .nilIface=>true
 |_=>false
def Ve(l:List V):Bool:=l.all V.flat
def orB(x:Option α)(k:α->Option β)(e:Option β):Option β:=Option.rec e k x
def zcN:List (Nat×List V)->Hp->Option Hp
 |[],h=>some h
 |_::_,_=>none
def Hm(C:mw) (f:Nat):FF:=match P0.funcs[f]? with
 | some fn=>match fn.body with
   | some c=>⟨λcall m args h=>orB (C.K f args h) (λv=>bB (Ve args&&v.flat) (some (v,h))) (bB (Nat.ble args.length fn.ntmps) (oB ((jc fn.ntmps c).f call m (C.start args) h) λr=>match r.1 with
     | .exit _=>none
     |_=>oB (zcN r.2.1.ds r.2.2) λh=>oB (DI r.2.1 h fn.results.toList) λvs=>some (EJ vs,h)))⟩
   |none=>⟨λ_ _ args h=>oB (WG (C.ext f) args) λv=>some (v,h)⟩
 |none=>⟨λ_ _ _ _=>none⟩
def lP(C:mw) (m:Nat) (d:Nat):Call:=Nat.rec (λ_ _ _=>none) (λ_ call f args h=>(Hm C f).f call m args h) d
end ops
theorem fy{α:Type} {x:Option α} {k:α->Option β} :oB x k=some y↔∃v,x=some v/\k v=some y:=by
 cases x with
 |none=>grind[oB]
 |some v=>exact⟨λh=>⟨v,rfl,h⟩,λ⟨_,h,h'⟩=>by grind[oB]⟩
theorem il {c:Bool} {k:Option β} :bB c k=some y↔c=true/\k=some y:=by
 cases c with
 |false=>grind[bB]
 |true=>exact⟨λh=>⟨rfl,h⟩,λ⟨_,h⟩=>h⟩
theorem uB {v:V} {k:Nat->Nat->Option β} :vx v k=some y↔∃l o,v = .ptr l o/\k l o=some y:=by
 constructor
 ·intro h;unfold vx at h
  grind
 ·rintro⟨l,o,rfl,h⟩;exact h
theorem Qf {v:V} {k:Nat->Option β} :asNat v k=some y↔∃a n,v = .int a (.ofNat n)/\k n=some y:=by
 constructor
 ·intro h;unfold asNat at h;split at h
  ·grind
  ·cases h
 ·rintro⟨a,n,rfl,h⟩;exact h
theorem ni {h:Hp}  {k:Nat->Nat->Bool->Bool->List V->Option β}  :
  lj h l k=some y↔∃e sz live ro cs,h.get l=some (.cells e sz live ro cs)/\k e sz live ro cs=some y:=by
 grind[lj,fy]
theorem AA {h:Hp}  {k:List (V×V×Nat)->Nat->Option β}  :
  AI h l k=some y↔∃es c,h.get l=some (.map es c)/\k es c=some y:=by
 grind[AI,fy]
theorem Rq {h:Hp}  {k:List (V×V×Nat)->Nat->Option β} {kb:IntKind->List Int->Option β}  :
  zy h l k kb=some y↔(∃es c,h.get l=some (.map es c)/\k es c=some y)\/∃b ks,h.get l=some (.Qj b ks)/\kb b ks=some y:=by
 simp only[zy,fy];constructor
 ·rintro⟨o,d,a⟩
  cases o with
  |map es c=>exact .inl ⟨es,c,d,a⟩
  |Qj b ks=>exact .inr ⟨b,ks,d,a⟩
  |_=>cases a
 ·rintro(⟨es,c,d,a⟩|⟨b,ks,d,a⟩) <;> exact⟨_,d,a⟩
theorem zcq(c:Bool)(x y:β):Bool.rec (motive:=λ_=>β) x y c=if c=true then y else x:=by cases c <;> rfl
theorem zbq{n:Nat} {cs l:List V} (h:takeN n cs=some l):l.length=n/\∀i,i<n->l[i]? =cs[i]?:=by
 induction n generalizing cs l with
 |zero=>simp[takeN]at h;simp_all
 | succ n a=>
   cases cs <;> grind[takeN,fy]
theorem sub_eq{cs l:List V} {off n:Nat} (h:sub cs off n=some l):l.length=n/\∀i,i<n->l[i]? =cs[off+i]?:=by
 grind[zbq,sub]
theorem VT{cs:List V} {off:Nat} {v:V} (h:MF cs off=some v):cs[off]? =some v:=by
 grind[MF,List.head?_drop]
theorem zdl{new cs l:List V} (h:over new cs=some l):l.length=cs.length/\new.length<=cs.length/\∀i,l[i]? =if i<new.length then new[i]? else cs[i]?:=by
 induction new generalizing cs l with
 |nil=>simp[over]at h;simp_all
 | cons n ns a=>
   cases cs <;> grind[over,fy]
theorem Mi{k:Nat} {cs new l:List V} (h:ta k cs new=some l):l.length=cs.length/\k+new.length<=cs.length/\
  ∀i,l[i]? =if k<=i/\i<k+new.length then new[i-k]? else cs[i]?:=by
 induction k generalizing cs l with
 | zero=>
   grind[zdl,ta]
 | succ k a=>
   cases cs with
   |nil=>grind[ta]
   | cons c cs=>
     simp only[ta,fy]at h
     grind
theorem Y4{l:List V} (h:gj l=true):∀v∈l,v.one=true:=by
 induction l <;> grind[gj,zcq]
structure D where
 b:Nat
 base:Nat
 sz:Nat
 n:Nat
 asz:Nat
 ro:Bool
 kind:Nat
abbrev Env:=Nat->Option D
def Env.le(Δ a:Env):Prop:=∀l d,Δ l=some d->a l=some d
theorem Env.le_refl(Δ:Env):Δ.le Δ:=λ_ _ h=>h
theorem Env.le_trans{Δ b a:Env}(h:Δ.le b)(h':b.le a):Δ.le a:=λl d hl=>h' l d (h l d hl)
mutual
inductive fU (Δ:Env):V->Value->Prop
 |bool (b:Bool):fU Δ (.bool b) (.bool b)
 |int (k:IntKind) (n:Int):fU Δ (.int k n) (.int k n)
 |str (s:ByteArray):fU Δ (.str s.data.toList) (.string s)
 |nilPtr:fU Δ .nilPtr (.pointer none)
 |ptr (l off:Nat) (d:D) (h:Δ l=some d):fU Δ (.ptr l off) (.pointer (some ⟨d.b,d.base+off,none⟩))
 |ed:fU Δ .ed (.slice none 0 0)
 | slice (l off len cap o:Nat) (d:D) (h:Δ l=some d) (j:d.kind=0) (hl:len<=cap)
   (m:(o=d.base+off/\d.n<=off+cap*d.sz/\d.base+off+cap*d.sz<=d.asz)\/(cap=0/\d.n<=off)) :
   fU Δ (.slice l off len) (.slice (some ⟨d.b,o,none⟩) len cap)
 |wild (l off:Nat) (a:Addr) (d:D) (h:Δ l=some d) (j:d.kind=0) (p:d.ro=true) (q:d.n<=off):fU Δ (.slice l off 0) (.slice (some a) 0 0)
 |nJ:fU Δ .nJ (.map none)
 |map (l:Nat) (d:D) (h:Δ l=some d):fU Δ (.map l) (.map (some d.b))
 |nilFunc:fU Δ .nilFunc .nilFunc
 |func (f:Nat) (a c:List V) (i c':Array Value) (r:gP Δ a i.toList) (hc:gP Δ c c'.toList):fU Δ (.func f a c) (.func (.func f) i c')
 |nilIface:fU Δ .nilIface .nilIface
 |iface (t:Nat) (v:V) (e:Value) (h:fU Δ v e):fU Δ (.iface t v) (.iface t e)
 |agg (cs:List V) (qF:Array Value) (h:gP Δ cs qF.toList):fU Δ (.agg cs) (.agg qF)
 |tuple (cs:List V) (qF:Array Value) (h:gP Δ cs qF.toList):fU Δ (.tuple cs) (.tuple qF)
 |anyI (k:IntKind) (n:Int):fU Δ (.anyI k) (.int k n)
inductive gP (Δ:Env):List V->List Value->Prop
 |nil:gP Δ [] []
 |cons (v:V) (e:Value) (vs:List V) (g:List Value) (h:fU Δ v e) (hs:gP Δ vs g):gP Δ (v::vs) (e::g)
end
mutual
theorem fU.mono {Δ i:Env} (e:Δ.le i):∀{v:V} {g:Value},fU Δ v g->fU i v g
 |_,_,.bool b=> .bool b
 |_,_,.int k n=> .int k n
 |_,_,.str s=> .str s
 |_,_,.nilPtr=> .nilPtr
 |_,_,.ptr l off d h=> .ptr l off d (e _ _ h)
 |_,_,.ed=> .ed
 |_,_,.slice l off len cap o d h hk hl ho=> .slice l off len cap o d (e _ _ h) hk hl ho
 |_,_,.wild l off a d h hk hr hn=> .wild l off a d (e _ _ h) hk hr hn
 |_,_,.nJ=> .nJ
 |_,_,.map l d h=> .map l d (e _ _ h)
 |_,_,.nilFunc=> .nilFunc
 |_,_,.func f a c a' c' ha hc=> .func f a c a' c' (gP.mono e ha) (gP.mono e hc)
 |_,_,.nilIface=> .nilIface
 |_,_,.iface t v g h=> .iface t v g (fU.mono e h)
 |_,_,.agg cs qF h=> .agg cs qF (gP.mono e h)
 |_,_,.tuple cs qF h=> .tuple cs qF (gP.mono e h)
 |_,_,.anyI k n=> .anyI k n
theorem gP.mono {Δ i:Env} (e:Δ.le i):∀{v:List V} {g:List Value},gP Δ v g->gP i v g
 |_,_,.nil=> .nil
 |_,_,.cons v g vs vs' h hs=> .cons v g vs vs' (fU.mono e h) (gP.mono e hs)
end
theorem gP.length{Δ:Env} {vs:List V} {a:List Value} (h:gP Δ vs a):vs.length=a.length:=by
 induction vs generalizing a with
 |nil=>cases h;rfl
 |cons v vs b=>cases h <;> grind
theorem gP.get{Δ:Env} {vs:List V} {b:List Value} (h:gP Δ vs b) (i:Nat) (v:V) (hi:vs[i]? =some v):∃c,b[i]? =some c/\fU Δ v c:=by
 induction vs generalizing b i with
 |nil=>simp_all
 | cons a vs d=>
   cases h <;> grind
theorem gP.SG{Δ:Env} {vs:List V} {b:List Value} (hl:vs.length=b.length) (h:∀(i:Nat) (v:V),vs[i]? =some v->∃c,b[i]? =some c/\fU Δ v c):gP Δ vs b:=by
 induction vs generalizing b with
 | nil=>cases b with
   |nil=>exact .nil
   |cons _ _=>simp_all
 | cons a vs e=>cases b with
   |nil=>simp_all
   | cons g b=>
     obtain⟨x,d,f⟩:=h 0 a rfl;simp at d;subst d;exact .cons _ _ _ _ f (e (by simp_all) λi v hi=>by simpa using h (i+1) v (by simp_all))
theorem gP.append{Δ:Env} {a b:List V} {c d:List Value} (h:gP Δ a c) (h':gP Δ b d):gP Δ (a++b) (c++d):=by
 induction a generalizing c with
 |nil=>cases h;exact h'
 |cons x a e=>cases h with|cons _ _ _ _ hx hs=>exact .cons _ _ _ _ hx (e hs)
theorem gP.one{Δ:Env}{v:V}{a:Value}(h:fU Δ v a):gP Δ [v] [a]:= .cons _ _ _ _ h .nil
theorem fU.undef(Δ:Env):fU Δ V.undef undef:= .tuple [] #[] .nil
theorem fU.cells{Δ:Env} {v:V} {e:Value} (h:fU Δ v e):gP Δ v.cells e.cells.toList:=by
 cases h with
 |agg cs qF h=>exact h
 |bool b=>exact .one (.bool b)
 |int k n=>exact .one (.int k n)
 |str s=>exact .one (.str s)
 |nilPtr=>exact .one .nilPtr
 |ptr l off d h=>exact .one (.ptr l off d h)
 |ed=>exact .one .ed
 |slice l off len cap o d h g hl i=>exact .one (.slice l off len cap o d h g hl i)
 |wild l off a d h g j m=>exact .one (.wild l off a d h g j m)
 |nJ=>exact .one .nJ
 |map l d h=>exact .one (.map l d h)
 |nilFunc=>exact .one .nilFunc
 |func f a c p c' q hc=>exact .one (.func f a c p c' q hc)
 |nilIface=>exact .one .nilIface
 |iface t v e h=>exact .one (.iface t v e h)
 |tuple cs qF h=>exact .one (.tuple cs qF h)
 |anyI k n=>exact .one (.anyI k n)
theorem fU.zgz{Δ:Env} {v:V} {a:Value} (h:fU Δ v a) (b:v.one=true):a.oneCell' = true:=by
 cases h <;> first|rfl|grind[V.one]
theorem gP.zaW{Δ:Env} {vs:List V} {a:List Value} (h:gP Δ vs a) (e:gj vs=true):∀x∈a,x.oneCell' = true:=by
 intro x b;obtain⟨i,hi,rfl⟩:=wBr.1 b;have c:i<vs.length:=by rw[h.length];exact hi
 obtain⟨x,b,d⟩:=h.get i vs[i] (by simp_all);rw[hN hi]at b;cases b;exact d.zgz (by grind[Y4,AQ])
mutual
theorem Iu (Δ:Env):∀(n:Nat) (v:Value) (x:V),mV n v=some x->fU Δ x v
 |_,.bool b,x,h=>by simp[mV]at h;subst h;exact .bool b
 |_,.int k n,x,h=>by simp[mV]at h;subst h;exact .int k n
 |_,.string s,x,h=>by simp[mV]at h;subst h;exact .str s
 |_,.pointer none,x,h=>by simp[mV]at h;subst h;exact .nilPtr
 |_,.pointer (some _),x,h=>by grind[mV]
 |_,.slice none 0 0,x,h=>by simp[mV]at h;subst h;exact .ed
 |_,.slice none 0 (_+1),x,h=>by grind[mV]
 |_,.slice none (_+1) _,x,h=>by grind[mV]
 |_,.slice (some _) _ _,x,h=>by grind[mV]
 |_,.map none,x,h=>by simp[mV]at h;subst h;exact .nJ
 |_,.map (some _),x,h=>by grind[mV]
 |_,.nilFunc,x,h=>by simp[mV]at h;subst h;exact .nilFunc
 |_,.nilIface,x,h=>by simp[mV]at h;subst h;exact .nilIface
 |0,.iface _ _,x,h=>by simp_all[mV]
 |0,.agg _,x,h=>by simp_all[mV]
 |0,.tuple _,x,h=>by simp_all[mV]
 | n+1,.iface t v,x,h=>by
   simp only[mV]at h;split at h
   ·rename_i y a;cases h;exact .iface t _ _ (Iu Δ n v _ a)
   ·cases h
 | n+1,.agg cs,x,h=>by
   simp only[mV]at h;split at h
   ·rename_i y a;cases h;exact .agg _ _ (Kr Δ n _ _ a)
   ·cases h
 | n+1,.tuple cs,x,h=>by
   simp only[mV]at h;split at h
   ·rename_i y a;cases h;exact .tuple _ _ (Kr Δ n _ _ a)
   ·cases h
 |_,.float _ _,x,h=>by grind[mV]
 |_,.complex _ _ _,x,h=>by grind[mV]
 |_,.chan _,x,h=>by grind[mV]
 |_,.func _ _ _,x,h=>by grind[mV]
theorem Kr (Δ:Env):∀(n:Nat) (v:List Value) (x:List V),v.mapM (mV n)=some x->gP Δ x v
 |_,[],x,h=>by simp at h;subst h;exact .nil
 | n,v::vs,x,h=>by
   simp only[List.mapM_cons,Option.bind_eq_bind,wBi,Option.pure_def,Option.some.injEq]at h;obtain⟨y,a,ys,c,rfl⟩:=h;exact .cons _ _ _ _ (Iu Δ n v y a) (Kr Δ n vs ys c)
end
@[match_pattern] abbrev _root_.Go.Proofs.YtcoaokdoecgcbaaGreatDoor.Hx.V.I (n:Int):Go.Proofs.YtcoaokdoecgcbaaGreatDoor.Hx.V:=.int .i64 n
