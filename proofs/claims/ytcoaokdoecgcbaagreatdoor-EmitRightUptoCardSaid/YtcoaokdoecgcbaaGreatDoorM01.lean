/- Parts. -/
import Derived.Test.YtcoaokdoecgcbaaGreatDoorM00
import Derived.Calls
import Derived.Test.YtcoaokdoecgcbaaGreatDoorChecked
import Derived.Orders
import Derived.Laws.CopyRow
set_option maxHeartbeats 4000000
namespace Go.Proofs.YtcoaokdoecgcbaaGreatDoor.Hx
theorem sP:type_of% @Result.andThen_ok:=@Result.andThen_ok
theorem sG:type_of% @Sem.run_bind:=@Sem.run_bind
theorem Lg:type_of% @Sem.run_pure:=@Sem.run_pure
inductive V where
 |bool (b:Bool)
 |int (k:IntKind) (n:Int)
 |str (s:List UInt8)
 |nilPtr
 |ptr (l off:Nat)
 |ed
 |slice (l off len:Nat)
 |ke
 |map (l:Nat)
 |nilFunc
 |func (f:Nat) (first a:List V)
 |nilIface
 |iface (t:Nat) (v:V)
 |agg (cs:List V)
 |tuple (vs:List V)
 |anyI (k:IntKind)
 deriving Inhabited
def V.undef:V:= .tuple []
mutual
def V.beq:V->V->Bool
 | .bool a,.bool b=>a == b
 | .int j a,.int k b=>j == k&&a == b
 | .str a,.str b=>a == b
 | .nilPtr,.nilPtr=>true
 | .ptr l o,.ptr l' o'=>l == l'&&o == o'
 | .ed,.ed=>true
 | .slice l o n,.slice l' o' n'=>l == l'&&o == o'&&n == n'
 | .ke,.ke=>true
 | .map l,.map l'=>l == l'
 | .nilFunc,.nilFunc=>true
 | .func f a c,.func f' a' c'=>f == f'&&V.Mt a a'&&V.Mt c c'
 | .nilIface,.nilIface=>true
 | .iface t v,.iface t' v'=>t == t'&&V.beq v v'
 | .agg a,.agg b=>V.Mt a b
 | .tuple a,.tuple b=>V.Mt a b
 | .anyI j,.anyI k=>j == k
 |_,_=>false
def V.Mt:List V->List V->Bool
 |[],[]=>true
 |a::x,b::y=>V.beq a b&&V.Mt x y
 |_,_=>false
end
mutual
theorem V.eq_of_beq:∀(a b:V),V.beq a b=true->a=b
 | .bool a,b,h=>by cases b <;> simp_all[V.beq]
 | .int j a,b,h=>by cases b <;> simp_all[V.beq]
 | .str a,b,h=>by cases b <;> simp_all[V.beq]
 | .nilPtr,b,h=>by grind[V.beq]
 | .ptr l o,b,h=>by cases b <;> simp_all[V.beq]
 | .ed,b,h=>by grind[V.beq]
 | .slice l o n,b,h=>by cases b <;> simp_all[V.beq]
 | .ke,b,h=>by grind[V.beq]
 | .map l,b,h=>by cases b <;> simp_all[V.beq]
 | .nilFunc,b,h=>by grind[V.beq]
 | .func f a c,b,h=>by
   cases b <;> simp_all[V.beq]
   exact⟨V.wj _ _ h.1.2,V.wj _ _ h.2⟩
 | .nilIface,b,h=>by grind[V.beq]
 | .iface t v,b,h=>by
   cases b <;> simp_all[V.beq]
   exact V.eq_of_beq _ _ h.2
 | .agg a,b,h=>by
   cases b <;> simp_all[V.beq]
   exact V.wj _ _ h
 | .tuple a,b,h=>by
   cases b <;> simp_all[V.beq]
   exact V.wj _ _ h
 | .anyI j,b,h=>by cases b <;> simp_all[V.beq]
theorem V.wj:∀(a b:List V),V.Mt a b=true->a=b
 |[],b,h=>by grind[V.Mt]
 | a::x,b,h=>by
   cases b <;> simp_all[V.Mt];exact⟨V.eq_of_beq _ _ h.1,V.wj _ _ h.2⟩
end
mutual
theorem V.BW:∀(a:V),V.beq a a=true
 | .bool a=>by simp[V.beq]
 | .int j a=>by simp[V.beq]
 | .str a=>by simp[V.beq]
 | .nilPtr=>by rfl
 | .ptr l o=>by simp[V.beq]
 | .ed=>by rfl
 | .slice l o n=>by simp[V.beq]
 | .ke=>by rfl
 | .map l=>by simp[V.beq]
 | .nilFunc=>by rfl
 | .func f a c=>by simp[V.beq,V.zE a,V.zE c]
 | .nilIface=>by rfl
 | .iface t v=>by simp[V.beq,V.BW v]
 | .agg a=>by simp[V.beq,V.zE a]
 | .tuple a=>by simp[V.beq,V.zE a]
 | .anyI j=>by simp[V.beq]
theorem V.zE:∀(a:List V),V.Mt a a=true
 |[]=>by rfl
 |a::x=>by simp[V.Mt,V.BW a,V.zE x]
end
def V.cells:V->List V
 | .agg cs=>cs
 |v=>[v]
def V.one:V->Bool
 | .agg _| .tuple _=>false
 |_=>true
def mn:Nat->Value->Option V
 |_,.bool b=>some (.bool b)
 |_,.int k n=>some (.int k n)
 |_,.string s=>some (.str s.data.toList)
 |_,.pointer none=>some .nilPtr
 |_,.slice none 0 0=>some .ed
 |_,.map none=>some .ke
 |_,.nilFunc=>some .nilFunc
 |_,.nilIface=>some .nilIface
 | n+1,.iface t v=>match mn n v with
   |some v=>some (.iface t v)
   |none=>none
 | n+1,.agg cs=>match cs.toList.mapM (mn n)with
   |some l=>some (.agg l)
   |none=>none
 | n+1,.tuple cs=>match cs.toList.mapM (mn n)with
   |some l=>some (.tuple l)
   |none=>none
 |_,_=>none
inductive To (α:Type) where
 |leaf
 |node (l:To α) (v:Option α) (r:To α)
noncomputable def To.get{α:Type} (t:To α):Nat->Option α:=To.rec (motive:=λ_=>Nat->Option α) (λ_=>none) (λ_ v _ gl gr n=>Bool.rec (motive:=λ_=>Option α) (Bool.rec (motive:=λ_=>Option α) (gr (Nat.sub (Nat.div n 2) 1)) (gl (Nat.div n 2)) (Nat.beq (Nat.mod n 2) 1)) v (Nat.beq n 0)) t
theorem To.rT{α:Type}(n:Nat):(To.leaf:To α).get n=none:=rfl
theorem To.uJ{α:Type} (l:To α) (v:Option α) (r:To α) (n:Nat):(To.node l v r).get n =
  match Nat.beq n 0 with
  |true=>v
  | false=>match Nat.beq (n % 2) 1 with
    |true=>l.get (n / 2)
    |false=>r.get (n / 2-1):=by
 show Bool.rec (motive:=λ_=>Option α) (Bool.rec (motive:=λ_=>Option α) (r.get (n / 2-1)) (l.get (n / 2)) (Nat.beq (n % 2) 1)) v (Nat.beq n 0)=_;cases Nat.beq n 0 <;> cases Nat.beq (n % 2) 1 <;> rfl
def To.QO{α:Type}:Nat->To α->Nat->α->To α
 |0,t,_,_=>t
 | f + 1,.leaf,n,x=>
   match Nat.beq n 0 with
   |true=> .node .leaf (some x) .leaf
   | false=>match Nat.beq (n % 2) 1 with
     |true=> .node (To.QO f .leaf (n / 2) x) none .leaf
     |false=> .node .leaf none (To.QO f .leaf (n / 2-1) x)
 | f + 1,.node l v r,n,x=>
   match Nat.beq n 0 with
   |true=> .node l (some x) r
   | false=>match Nat.beq (n % 2) 1 with
     |true=> .node (To.QO f l (n / 2) x) v r
     |false=> .node l v (To.QO f r (n / 2-1) x)
noncomputable def To.set{α:Type} (t:To α):Nat->α->To α:=To.rec (motive:=λ_=>Nat->α->To α) (λn x=>Bool.rec (motive:=λ_=>To α) (To.QO (Nat.succ n) .leaf n x) (.node .leaf (some x) .leaf) (Nat.beq n 0)) (λl v r sl a n x=>Bool.rec (motive:=λ_=>To α) (Bool.rec (motive:=λ_=>To α) (.node l v (a (Nat.sub (Nat.div n 2) 1) x)) (.node (sl (Nat.div n 2) x) v r) (Nat.beq (Nat.mod n 2) 1)) (.node l (some x) r) (Nat.beq n 0)) t
theorem To.Ts{α:Type} (x:α):∀(f:Nat) (t:To α) (n m:Nat),n<f->(t.QO f n x).get m=if n=m then some x else t.get m:=by
 intro f
 induction f with
 |zero=>omega
 | succ f g =>
   intro t n m h
   cases t with
   | leaf =>
     unfold To.QO
     cases h0:Nat.beq n 0 with
     | true=>
       have e:n=0:=yi h0;subst e
       cases m with
       |zero=>rfl
       | succ m=>
         have e1:Nat.beq (m+1) 0=false:=rfl
         grind[To.rT,To.uJ,Nat.beq]
     | false =>
       have i:n≠0:=λe=>by simp_all
       cases b:Nat.beq (n % 2) 1 with
       | true=>
         have e1:n % 2=1:=yi b;simp only[To.rT,To.uJ]
         cases c:Nat.beq m 0 with
         | true=>
           simp_all
         | false=>
           have d:m≠0:=λe=>by simp_all
           cases a:Nat.beq (m % 2) 1 with
           | true=>
             have e2:m % 2=1:=yi a;simp only[g .leaf (n / 2) (m / 2) (by omega),To.rT,To.uJ]
             grind
           | false=>
             grind
       | false=>
         have e1:n % 2≠1:=λe=>by simp_all
         simp only[To.rT,To.uJ]
         cases c:Nat.beq m 0 with
         | true=>
           simp_all
         | false=>
           have d:m≠0:=λe=>by simp_all
           cases a:Nat.beq (m % 2) 1 with
           | true=>
             grind
           | false=>
             have e2:m % 2≠1:=λe=>by simp_all
             simp only[g .leaf (n / 2-1) (m / 2-1) (by omega),To.rT,To.uJ]
             grind
   | node l v r=>
     unfold To.QO
     cases h0:Nat.beq n 0 with
     | true=>
       have e:n=0:=yi h0;subst e
       cases m with
       |zero=>rfl
       | succ m=>
         rfl
     | false =>
       have i:n≠0:=λe=>by simp_all
       cases b:Nat.beq (n % 2) 1 with
       | true=>
         have e1:n % 2=1:=yi b;simp only[To.rT,To.uJ]
         cases c:Nat.beq m 0 with
         | true=>
           simp_all
         | false=>
           have d:m≠0:=λe=>by simp_all
           cases a:Nat.beq (m % 2) 1 with
           | true=>
             have e2:m % 2=1:=yi a
             grind
           | false=>
             grind
       | false=>
         have e1:n % 2≠1:=λe=>by simp_all
         simp only[To.rT,To.uJ]
         cases c:Nat.beq m 0 with
         | true=>
           simp_all
         | false=>
           have d:m≠0:=λe=>by simp_all
           cases a:Nat.beq (m % 2) 1 with
           | true=>
             grind
           | false=>
             have e2:m % 2≠1:=λe=>by simp_all
             grind
theorem To.JQ{α:Type} (t:To α) (n m:Nat) (x:α):(t.set n x).get m=if n=m then some x else t.get m:=by
 induction t generalizing n m with
 | leaf=>
   show(Bool.rec (motive:=λ_=>To α) (To.QO (Nat.succ n) .leaf n x) (.node .leaf (some x) .leaf) (Nat.beq n 0)).get m=_
   cases h0:Nat.beq n 0 with
   | true=>
     have e:n=0:=yi h0;subst e;have:=To.Ts x 1 .leaf 0 m (by omega)
     exact this
   |false=>grind[To.Ts]
 | node l v r b c=>
   show(Bool.rec (motive:=λ_=>To α) (Bool.rec (motive:=λ_=>To α) (.node l v (r.set (n / 2-1) x)) (.node (l.set (n / 2) x) v r) (Nat.beq (n % 2) 1)) (.node l (some x) r) (Nat.beq n 0)).get m=_
   cases h0:Nat.beq n 0 with
   | true=>
     have e:n=0:=yi h0;subst e
     cases m with
     |zero=>rfl
     | succ m=>
       rfl
   | false =>
     have h:n≠0:=λe=>by simp_all
     cases d:Nat.beq (n % 2) 1 with
     | true=>
       have e1:n % 2=1:=yi d;simp only[To.uJ]
       cases f:Nat.beq m 0 with
       | true=>
         simp_all
       | false=>
         have g:m≠0:=λe=>by simp_all
         cases a:Nat.beq (m % 2) 1 with
         | true=>
           have e2:m % 2=1:=yi a
           grind
         | false=>
           grind
     | false=>
       have e1:n % 2≠1:=λe=>by simp_all
       simp only[To.uJ]
       cases f:Nat.beq m 0 with
       | true=>
         simp_all
       | false=>
         have g:m≠0:=λe=>by simp_all
         cases a:Nat.beq (m % 2) 1 with
         | true=>
           grind
         | false=>
           have e2:m % 2≠1:=λe=>by simp_all
           grind
structure Q4 (α:Type) where
 a:α
 b:α
 c:α
 d:α
def QT(α:Type)(n:Nat):Type:=Nat.rec (motive:=λ_=>Type) (To α) (λ_ a=>Q4 a) n
structure QG (α β:Type) where
 f:α->β
structure QU (α β:Type) where
 f:β->α->α
noncomputable def XO{β:Type}(i:Nat)(w x y z:β):β:=Bool.rec (motive:=λ_=>β) (Bool.rec (motive:=λ_=>β) (Bool.rec (motive:=λ_=>β) z y (Nat.beq (Nat.mod i 4) 2)) x (Nat.beq (Nat.mod i 4) 1)) w (Nat.beq (Nat.mod i 4) 0)
theorem zd2{β:Type}{i:Nat}(h:i % 4=0)(w x y z:β):XO i w x y z=w:=by unfold XO;rw[show Nat.mod i 4=0 from h];rfl
theorem zdZ{β:Type}{i:Nat}(h:i % 4=1)(w x y z:β):XO i w x y z=x:=by unfold XO;rw[show Nat.mod i 4=1 from h];rfl
theorem zc3{β:Type}{i:Nat}(h:i % 4=2)(w x y z:β):XO i w x y z=y:=by unfold XO;rw[show Nat.mod i 4=2 from h];rfl
theorem zc8{β:Type}{i:Nat}(h:i % 4=3)(w x y z:β):XO i w x y z=z:=by unfold XO;rw[show Nat.mod i 4=3 from h];rfl
noncomputable def qg(α:Type) (n:Nat):Nat->QG (QT α n) (Option α):=Nat.rec (motive:=λn=>Nat->QG (QT α n) (Option α)) (λi=>⟨λx=>To.get x i⟩) (λ_ e i=>XO i ⟨λq=>Q4.rec (motive:=λ_=>Option α) (λa _ _ _=>(e (Nat.div i 4)).f a) q⟩ ⟨λq=>Q4.rec (motive:=λ_=>Option α) (λ_ b _ _=>(e (Nat.div i 4)).f b) q⟩ ⟨λq=>Q4.rec (motive:=λ_=>Option α) (λ_ _ c _=>(e (Nat.div i 4)).f c) q⟩ ⟨λq=>Q4.rec (motive:=λ_=>Option α) (λ_ _ _ d=>(e (Nat.div i 4)).f d) q⟩) n
noncomputable def qs(α:Type) (n:Nat):Nat->QU (QT α n) α:=Nat.rec (motive:=λn=>Nat->QU (QT α n) α) (λi=>⟨λv x=>To.set x i v⟩) (λn e i=>XO i ⟨λv q=>Q4.rec (motive:=λ_=>Q4 (QT α n)) (λa b c d=>⟨(e (Nat.div i 4)).f v a,b,c,d⟩) q⟩ ⟨λv q=>Q4.rec (motive:=λ_=>Q4 (QT α n)) (λa b c d=>⟨a,(e (Nat.div i 4)).f v b,c,d⟩) q⟩ ⟨λv q=>Q4.rec (motive:=λ_=>Q4 (QT α n)) (λa b c d=>⟨a,b,(e (Nat.div i 4)).f v c,d⟩) q⟩ ⟨λv q=>Q4.rec (motive:=λ_=>Q4 (QT α n)) (λa b c d=>⟨a,b,c,(e (Nat.div i 4)).f v d⟩) q⟩) n
noncomputable def q0(α:Type)(n:Nat):QT α n:=Nat.rec (motive:=λn=>QT α n) (To.leaf:To α) (λ_ a=>(⟨a,a,a,a⟩:Q4 _)) n
theorem Wk(α:Type) (n i:Nat):qg α (n+1) i=XO i
   ⟨λq=>Q4.rec (motive:=λ_=>Option α) (λa _ _ _=>(qg α n (i / 4)).f a) q⟩
   ⟨λq=>Q4.rec (motive:=λ_=>Option α) (λ_ b _ _=>(qg α n (i / 4)).f b) q⟩
   ⟨λq=>Q4.rec (motive:=λ_=>Option α) (λ_ _ c _=>(qg α n (i / 4)).f c) q⟩
   ⟨λq=>Q4.rec (motive:=λ_=>Option α) (λ_ _ _ d=>(qg α n (i / 4)).f d) q⟩:=rfl
theorem zbo(α:Type) (n i:Nat):qs α (n+1) i=XO i
   ⟨λv q=>Q4.rec (motive:=λ_=>Q4 (QT α n)) (λa b c d=>⟨(qs α n (i / 4)).f v a,b,c,d⟩) q⟩
   ⟨λv q=>Q4.rec (motive:=λ_=>Q4 (QT α n)) (λa b c d=>⟨a,(qs α n (i / 4)).f v b,c,d⟩) q⟩
   ⟨λv q=>Q4.rec (motive:=λ_=>Q4 (QT α n)) (λa b c d=>⟨a,b,(qs α n (i / 4)).f v c,d⟩) q⟩
   ⟨λv q=>Q4.rec (motive:=λ_=>Q4 (QT α n)) (λa b c d=>⟨a,b,c,(qs α n (i / 4)).f v d⟩) q⟩:=rfl
theorem Sq(α:Type):∀(n i:Nat),(qg α n i).f (q0 α n)=none
 |0,i=>rfl
 | n+1,i=>by
   rw[Wk];have h:i % 4=0\/i % 4=1\/i % 4=2\/i % 4=3:=by omega
   rcases h with h|h|h|h
   ·rw[zd2 h];exact Sq α n (i / 4)
   ·rw[zdZ h];exact Sq α n (i / 4)
   ·rw[zc3 h];exact Sq α n (i / 4)
   ·rw[zc8 h];exact Sq α n (i / 4)
theorem zcy(α:Type) (v:α):∀(n i j:Nat) (q:QT α n),(qg α n j).f ((qs α n i).f v q)=if i=j then some v else(qg α n j).f q
 |0,i,j,q=>To.JQ q i j v
 | n + 1,i,j,q=>by
   obtain⟨a,b,c,d⟩:=(q:Q4 (QT α n))
   have hi:i % 4=0\/i % 4=1\/i % 4=2\/i % 4=3:=by omega
   have e:j % 4=0\/j % 4=1\/j % 4=2\/j % 4=3:=by omega
   have g:=λq=>zcy α v n (i / 4) (j / 4) q;rw[Wk,zbo];rcases hi with hi|hi|hi|hi <;> rcases e with e|e|e|e
   all_goals first
     |rw[zd2 hi]|rw[zdZ hi]|rw[zc3 hi]|rw[zc8 hi]
   all_goals first
     |rw[zd2 e]|rw[zdZ e]|rw[zc3 e]|rw[zc8 e]
   all_goals grind
def Tr(α:Type):Type:=QT α 4
noncomputable def Tr.leaf{α:Type}:Tr α:=q0 α 4
noncomputable def Tr.get{α:Type}(t:Tr α)(n:Nat):Option α:=(qg α 4 n).f t
noncomputable def Tr.set{α:Type}(t:Tr α)(n:Nat)(x:α):Tr α:=(qs α 4 n).f x t
theorem Tr.rT{α:Type}(n:Nat):(Tr.leaf:Tr α).get n=none:=Sq α 4 n
theorem Tr.JQ{α:Type}(t:Tr α)(n m:Nat)(x:α):(t.set n x).get m=if n=m then some x else t.get m:=zcy α x 4 n m t
inductive O where
 |cells (e sz:Nat) (live ro:Bool) (cs:List V)
 |map (es:List (V×V×Nat)) (a:Nat)
 |iter (m:Option Nat) (since:Nat) (seen:List Nat) (last:Nat)
 |OG (k:IntKind) (ks:List Int)
 |gone
 deriving Inhabited
structure Hp where
 next:Nat
 tr:Tr O
noncomputable def Hp.get(h:Hp)(l:Nat):Option O:=Bool.rec (motive:=λ_=>Option O) none (h.tr.get l) (Nat.blt l h.next)
theorem Hp.get_eq(h:Hp) (l:Nat):h.get l=if l<h.next then h.tr.get l else none:=by
 show Bool.rec (motive:=λ_=>Option O) none (h.tr.get l) (Nat.blt l h.next)=_
 cases hb:Nat.blt l h.next with
 |true=>simp_all
 |false=>rw[if_neg (by grind[RP])]
theorem Hp.BP{h:Hp} {l:Nat} {o:O} (a:h.get l=some o):l<h.next:=by
 grind[Hp.get_eq]
noncomputable def Hp.put(h:Hp)(l:Nat)(o:O):Hp:={h with tr:=h.tr.set l o}
noncomputable def Hp.new(h:Hp)(o:O):Hp:={next:=h.next+1,tr:=h.tr.set h.next o}
noncomputable def TQ:List V->Nat->Tr V->Tr V
 |[],_,t=>t
 |v::vs,i,t=>TQ vs (i+1) (t.set i v)
inductive Tm where
 |tree (t:Tr V) (ds:List (Nat×List V))
 |fn (f:Nat->V) (ds:List (Nat×List V))
noncomputable def hN(t:Tm) (i:Nat):V:=Tm.rec (motive:=λ_=>V) (λt _=>Option.rec (motive:=λ_=>V) V.undef (λv=>v) (t.get i)) (λf _=>f i) t
noncomputable def fc(f:Nat->V)(d:Nat)(v:V):Nat->V:=λi=>Bool.rec (motive:=λ_=>V) (f i) v (Nat.beq i d)
noncomputable def Tm.set(t:Tm) (d:Nat) (v:V):Tm:=Tm.rec (motive:=λ_=>Tm) (λt ds=> .tree (t.set d v) ds) (λf ds=> .fn (fc f d v) ds) t
def Tm.ds:Tm->List (Nat×List V)
 | .tree _ ds=>ds
 | .fn _ ds=>ds
def Tm.push(x:Nat×List V):Tm->Tm
 | .tree t ds=> .tree t (x::ds)
 | .fn f ds=> .fn f (x::ds)
theorem im(t:Tm) (d i:Nat) (v:V):hN (t.set d v) i=if d=i then v else hN t i:=by
 cases t with
 | tree t ds=>
   show Option.rec (motive:=λ_=>V) V.undef (λv=>v) ((t.set d v).get i)=_;rw[Tr.JQ];by_cases h:d=i
   ·simp_all
   ·rw[if_neg h,if_neg h];rfl
 | fn f ds=>
   show Bool.rec (motive:=λ_=>V) (f i) v (Nat.beq i d)=_
   cases hb:Nat.beq i d with
   |true=>simp_all
   |false=>rw[if_neg (by grind[XV])];rfl
theorem Tm.DJ(t:Tm)(d:Nat)(v:V):(t.set d v).ds=t.ds:=by cases t <;> rfl
theorem Tm.zbf(t:Tm)(x:Nat×List V):(t.push x).ds=x::t.ds:=by cases t <;> rfl
theorem Xy(t:Tm)(x:Nat×List V)(i:Nat):hN (t.push x) i=hN t i:=by cases t <;> rfl
noncomputable def Vc(args:List V):Tm:= .tree (TQ args 0 .leaf) []
def fy(args:List V):Tm:= .fn (λi=>(args[i]?).getD .undef) []
noncomputable def P0:Program:=Tryz.prog
attribute [irreducible] P0
def zfO:List (Nat×Array Value):=[]
noncomputable section ops
def oB{α β:Type}(x:Option α)(k:α->Option β):Option β:=Option.rec (motive:=λ_=>Option β) none k x
def bB{β:Type}(c:Bool)(k:Option β):Option β:=Bool.rec (motive:=λ_=>Option β) none k c
def rA{β:Type} (v:V) (k:Nat->Nat->Option β):Option β:=match v with
 | .ptr l o=>k l o
 |_=>none
def asNat{β:Type} (v:V) (k:Nat->Option β):Option β:=match v with
 | .int _ (.ofNat n)=>k n
 |_=>none
def ym(t:Nat):Option Nat:=oB (P0.info? t) λi=>some i.size
def zaM(t:Nat):Option Nat:=oB (P0.info? t) λi=>some i.bytes
def Mp(t:Nat):Option Bool:=match P0.underlying t with
 |some (.struct _)=>some true
 |some (.array _ _)=>some true
 |some _=>some false
 |none=>none
def zeroV(t:Nat):Option V:=oB (P0.info? t) λi=>oB i.zero λz=>mn 8 z
def takeN:Nat->List V->Option (List V)
 |0,_=>some []
 |_+1,[]=>none
 |n+1,v::vs=>oB (takeN n vs) λl=>some (v::l)
def sub(cs:List V)(off n:Nat):Option (List V):=takeN n (cs.drop off)
def Jm(cs:List V)(off:Nat):Option V:=(cs.drop off).head?
def over:List V->List V->Option (List V)
 |[],cs=>some cs
 |_::_,[]=>none
 |n::ns,_::cs=>oB (over ns cs) λl=>some (n::l)
def qv:Nat->List V->List V->Option (List V)
 |0,cs,new=>over new cs
 |_+1,[],_=>none
 |k+1,c::cs,new=>oB (qv k cs new) λl=>some (c::l)
def gz:List V->Bool
 |[]=>true
 |v::vs=>Bool.rec (motive:=λ_=>Bool) false (gz vs) v.one
def jW{β:Type} (h:Hp) (l:Nat) (k:Nat->Nat->Bool->Bool->List V->Option β):Option β:=oB (h.get l) λo=>match o with
 | .cells e sz live ro cs=>k e sz live ro cs
 |_=>none
def yd{β:Type} (h:Hp) (l:Nat) (k:List (V×V×Nat)->Nat->Option β):Option β:=oB (h.get l) λo=>match o with
 | .map es c=>k es c
 |_=>none
def yq{β:Type} (h:Hp) (l:Nat) (k:List (V×V×Nat)->Nat->Option β) (kb:IntKind->List Int->Option β):Option β:=oB (h.get l) λo=>match o with
 | .map es c=>k es c
 | .OG a ks=>kb a ks
 |_=>none
def Hj(h:Hp)(l off n:Nat):Option (List V):=jW h l λ_ _ live _ cs=>bB live (sub cs off n)
def ld1(h:Hp)(l off:Nat):Option V:=jW h l λ_ _ live _ cs=>bB live (Jm cs off)
def EC(h:Hp) (l off:Nat) (new:List V):Option Hp:=jW h l λe sz live ro cs=>bB live (bB (!ro) (bB (gz new) (oB (qv off cs new) λoY=>some (h.put l (.cells e sz true false oY)))))
structure PF where
 f:Tm->Hp->Option V
structure NF where
 f:Tm->Option V
structure AF where
 f:Tm->Option (O×(Nat->V))
def OI:Operand->NF
 | .tmp i=>⟨λt=>some (hN t i)⟩
 | .const v=>match mn 8 v with
   |some v=>⟨λ_=>some v⟩
   |none=>⟨λ_=>none⟩
 | .global _=>⟨λ_=>none⟩
 | .func f=>⟨λ_=>some (.func f [] [])⟩
def rM(x:Operand):PF:=match x with
 | .global g=>match Nat.blt g P0.globals.size with
   |true=>⟨λ_ h=>oB (h.get g) λ_=>some (.ptr g 0)⟩
   |false=>⟨λ_ _=>none⟩
 |x=>⟨λt _=>(OI x).f t⟩
def JW(t:Tm):List Operand->Option (List V)
 |[]=>some []
 |x::xs=>oB ((OI x).f t) λv=>oB (JW t xs) λvs=>some (v::vs)
def sD(t:Tm):List (Nat×Operand)->Option (List (Nat×V))
 |[]=>some []
 |x::xs=>oB ((OI x.2).f t) λv=>oB (sD t xs) λvs=>some ((x.1,v)::vs)
def Ij(t:Nat) (a:PF):PF:=match Mp t with
 | some true=>match ym t with
   |some n=>⟨λt h=>oB (a.f t h) λa=>rA a λl off=>oB (Hj h l off n) λcs=>some (.agg cs)⟩
   |none=>⟨λ_ _=>none⟩
 |some false=>⟨λt h=>oB (a.f t h) λa=>rA a λl off=>ld1 h l off⟩
 |none=>⟨λ_ _=>none⟩
def placesOf:List Field->Option (List (Nat×Nat))
 |[]=>some []
 |f::fs=>oB (ym f.type) λn=>oB (placesOf fs) λl=>some ((f.offset,n)::l)
def xE(place:Nat->Option (Nat×Nat)):List V->List (Nat×V)->Option (List V)
 |cells,[]=>some cells
 |cells,x::rest=>oB (place x.1) λp=>bB (Nat.beq x.2.cells.length p.2) (oB (qv p.1 cells x.2.cells) λcs=>xE place cs rest)
def Bt:Nat->List V->List V
 |0,_=>[]
 |n+1,z=>z++Bt n z
def IS(t:Nat) (a:List (Nat×Operand)):PF:=match zeroV t with
 | some z=>match P0.underlying t with
   | some (.struct fields)=>match placesOf fields.toList with
     |some b=>⟨λt _=>oB (sD t a) λc=>oB (xE (λi=>b[i]?) z.cells c) λcs=>some (.agg cs)⟩
     |none=>⟨λ_ _=>none⟩
   | some (.array _ elem)=>match ym elem with
     |some size=>⟨λt _=>oB (sD t a) λc=>oB (xE (λi=>some (Nat.mul i size,size)) z.cells c) λcs=>some (.agg cs)⟩
     |none=>⟨λ_ _=>none⟩
   |_=>⟨λ_ _=>none⟩
 |none=>⟨λ_ _=>none⟩
def iy(k:IntKind) (n:Int):Int:=match n with
 | .ofNat m=>match Nat.blt m (match k with| .i8=>128| .u8=>256| .i16=>32768| .u16=>65536| .i32=>2147483648| .u32=>4294967296| .i64=>9223372036854775808| .u64=>18446744073709551616)with
   |true=> .ofNat m
   |false=>k.wrap (.ofNat m)
 | .negSucc m=>k.wrap (.negSucc m)
def hint(op:BinOp) (k:IntKind) (x y:Int):Option V:=match op with
 | .add=>some (.int k (iy k (x+y)))
 | .sub=>some (.int k (iy k (x-y)))
 | .mul=>some (.int k (iy k (x*y)))
 | .quo=>match x,y with
   |_,.ofNat 0=>none
   |x,y=>some (.int k (iy k (x.tdiv y)))
 | .rem=>match x,y with
   |_,.ofNat 0=>none
   |x,y=>some (.int k (x.tmod y))
 | .and=>some (.int k (k.wrap ((BitVec.ofInt k.bits x&&&BitVec.ofInt k.bits y).toNat)))
 | .or=>some (.int k (k.wrap ((BitVec.ofInt k.bits x |||BitVec.ofInt k.bits y).toNat)))
 | .xor=>some (.int k (k.wrap ((BitVec.ofInt k.bits x ^^^ BitVec.ofInt k.bits y).toNat)))
 | .andNot=>some (.int k (k.wrap ((BitVec.ofInt k.bits x&&&~~~ BitVec.ofInt k.bits y).toNat)))
 | .eql=>some (.bool (x == y))
 | .neq=>some (.bool (x != y))
 | .lss=>some (.bool (x<y))
 | .leq=>some (.bool (x<=y))
 | .gtr=>some (.bool (x>y))
 | .geq=>some (.bool (x>=y))
 |_=>none
def Ut(op:BinOp) (k:IntKind) (x y:Int):Option V:=match y with
 | .negSucc _=>none
 | .ofNat m=>match op with
   | .shl=>some (.int k (k.wrap (x*2 ^ (min m k.bits))))
   | .shr=>some (.int k (x.fdiv (2 ^ (min m k.bits))))
   |_=>none
def zd8(op:BinOp) (x y:List UInt8):Option V:=match op with
 | .add=>match Nat.ble (x.length+y.length) 4611686018427387904 with
   |true=>some (.str (x++y))
   |false=>none
 | .eql=>some (.bool (x == y))
 | .neq=>some (.bool (!(x == y)))
 | .lss=>some (.bool (Op.bytesLess x y))
 | .leq=>some (.bool (Op.bytesLess x y ||x == y))
 | .gtr=>some (.bool (!(Op.bytesLess x y ||x == y)))
 | .geq=>some (.bool (!(Op.bytesLess x y)))
 |_=>none
def YH(d:TypeDesc) (x y:V):Option Bool:=match d,x,y with
 | .bool,.bool a,.bool b=>some (a == b)
 | .pointer _,.nilPtr,.nilPtr=>some true
 | .pointer _,.nilPtr,.ptr _ _=>some false
 | .pointer _,.ptr _ _,.nilPtr=>some false
 | .slice _,.ed,.ed=>some true
 | .slice _,.ed,.slice _ _ _=>some false
 | .slice _,.slice _ _ _,.ed=>some false
 | .map _ _,.ke,.ke=>some true
 | .map _ _,.ke,.map _=>some false
 | .map _ _,.map _,.ke=>some false
 | .func _ _ _,.nilFunc,.nilFunc=>some true
 | .func _ _ _,.nilFunc,.func _ _ _=>some false
 | .func _ _ _,.func _ _ _,.nilFunc=>some false
 | .interface ms,.nilIface,.nilIface=>bB ms.isEmpty (some true)
 | .interface _,.nilIface,.iface _ _=>some false
 | .interface _,.iface _ _,.nilIface=>some false
 |_,_,_=>none
def Fe:IntKind->IntKind->Bool
 | .i8,.i8| .i16,.i16| .i32,.i32| .i64,.i64| .u8,.u8| .u16,.u16| .u32,.u32| .u64,.u64=>true
 |_,_=>false
def VQ(t:Nat) (x y:V):Option Bool:=match P0.underlying t with
 |some d=>YH d x y
 |none=>none
def eq1(d:Option TypeDesc) (x y:V):Option Bool:=match d,x,y with
 |some .bool,.bool a,.bool b=>some (a == b)
 |some (.int _),.int k a,.int k' b=>bB (Fe k k') (some (a == b))
 |some .string,.str a,.str b=>some (a == b)
 |_,_,_=>none
def MG:List Field->List V->List V->Option Bool
 |[],_,_=>some true
 |f::fs,xs,ys=>bB (!(f.name == "_")) (oB (Jm xs f.offset) λx=>oB (Jm ys f.offset) λy=>oB (eq1 (P0.underlying f.type) x y) λb=>Bool.rec (motive:=λ_=>Option Bool) (some false) (MG fs xs ys) b)
def zal(t:Nat) (xs ys:List V):Option Bool:=match P0.underlying t with
 |some (.struct fs)=>bB (!(P0.stoodInHeld t)) (bB (!(P0.eqGuardType P0.depth t)) (MG fs.toList xs ys))
 |_=>none
def X9(t:Nat) (x y:V):Option Bool:=match x,y with
 | .agg xs,.agg ys=>zal t xs ys
 |_,_=>VQ t x y
def Xs(t:Nat)(a:Bool)(x y:V):Option V:=oB (X9 t x y) λb=>some (.bool (Bool.rec (motive:=λ_=>Bool) b (!b) a))
def Vt:BinOp->Bool
 | .shl| .shr=>true
 |_=>false
def ef(op:BinOp) (t:Nat) (x y:V):Option V:=match x,y with
 | .int k a,.int k' b=>match Vt op with
   |true=>Ut op k a b
   |false=>bB (Fe k k') (hint op k a b)
 | .str a,.str b=>zd8 op a b
 | x,y=>match op with
   | .eql=>Xs t false x y
   | .neq=>Xs t true x y
   |_=>none
def qH(op:UnOp) (x:V):Option V:=match op,x with
 | .neg,.int k n=>some (.int k (iy k (Int.sub 0 n)))
 | .not,.bool b=>some (.bool !b)
 | .xor,.int k n=>hint .xor k (if k.signed then -1 else k.max) n
 |_,_=>none
def byteOf:V->Option UInt8
 | .int .u8 (.ofNat m)=>bB (Nat.blt m 256) (some (UInt8.ofNat m))
 |_=>none
def bytesOf:List V->Option (List UInt8)
 |[]=>some []
 |v::vs=>oB (byteOf v) λb=>oB (bytesOf vs) λl=>some (b::l)
def LQ(src dst:Nat) (x:PF):PF:=match P0.underlying src,P0.underlying dst with
 | some (.int _),some (.int k)=>⟨λt h=>oB (x.f t h) λx=>match x with
   | .int _ n=>some (.int k (iy k n))
   |_=>none⟩
 | some .string,some .string=>⟨λt h=>oB (x.f t h) λx=>match x with
   | .str s=>some (.str s)
   |_=>none⟩
 | some (.slice e),some .string=>match P0.underlying e with
   | some (.int .u8)=>⟨λt h=>oB (x.f t h) λx=>match x with
     | .ed=>some (.str [])
     | .slice l off n=>oB (Hj h l off n) λcs=>oB (bytesOf cs) λs=>some (.str s)
     |_=>none⟩
   |_=>⟨λ_ _=>none⟩
 |_,_=>⟨λ_ _=>none⟩
def RU(t:Nat):List V->Nat->Option V:=match Mp t with
 | some true=>match ym t with
   |some n=>λcs off=>oB (sub cs off n) λl=>some (.agg l)
   |none=>λ_ _=>none
 |some false=>λcs off=>Jm cs off
 |none=>λ_ _=>none
def Mz(s f:Nat):Option Field:=match P0.underlying s with
 |some (.struct fields)=>fields.toList[f]?
 |_=>none
def qA(s:Nat) (x:PF) (f:Nat):PF:=match Mz s f with
 | some a=>match ym a.type with
   |some (_+1)=>⟨λt h=>oB (x.f t h) λx=>rA x λl off=>some (.ptr l (Nat.add off a.offset))⟩
   |_=>⟨λ_ _=>none⟩
 |none=>⟨λ_ _=>none⟩
def IU(s:Nat) (x:PF) (f:Nat):PF:=match Mz s f with
 | some a=>⟨λt h=>oB (x.f t h) λx=>match x with
   | .agg cs=>RU a.type cs a.offset
   |_=>none⟩
 |none=>⟨λ_ _=>none⟩
def qp(t:Nat) (x i:PF):PF:=match P0.underlying t with
 | some (.slice elem)=>match ym elem with
   | some n=>⟨λt h=>oB (x.f t h) λx=>oB (i.f t h) λi=>asNat i λi=>match x with
     | .slice l off len=>bB (Nat.blt i len) (some (.ptr l (Nat.add off (Nat.mul i n))))
     |_=>none⟩
   |none=>⟨λ_ _=>none⟩
 | some (.array len elem)=>match ym elem with
   |some n=>⟨λt h=>oB (x.f t h) λx=>oB (i.f t h) λi=>asNat i λi=>rA x λl off=>bB (Nat.blt i len) (some (.ptr l (Nat.add off (Nat.mul i n))))⟩
   |none=>⟨λ_ _=>none⟩
 |_=>⟨λ_ _=>none⟩
def Jc(t:Nat) (x i:PF):PF:=match P0.underlying t with
 | some (.array len elem)=>match ym elem with
   | some n=>⟨λt h=>oB (x.f t h) λx=>oB (i.f t h) λi=>asNat i λi=>match x with
     | .agg cs=>bB (Nat.blt i len) (RU elem cs (Nat.mul i n))
     |_=>none⟩
   |none=>⟨λ_ _=>none⟩
 | some .string=>⟨λt h=>oB (x.f t h) λx=>oB (i.f t h) λi=>asNat i λi=>match x with
   | .str s=>oB ((s.drop i).head?) λb=>some (.int .u8 (.ofNat b.toNat))
   |_=>none⟩
 |_=>⟨λ_ _=>none⟩
def hbound(d:Nat):Option V->Option Nat
 |none=>some d
 |some (.int _ (.ofNat n))=>some n
 |some _=>none
def iL(size:Nat) (x:V) (lo hi:Option V) (h:Hp):Option V:=match x with
 | .slice lc off len=>jW h lc λ_ sz _ _ cs=>bB (Nat.beq size sz) (oB (hbound 0 lo) λl=>oB (hbound len hi) λu=>
   bB (Nat.ble l u) (bB (Nat.ble u len ||Nat.ble (Nat.add off (Nat.mul u size)) cs.length) (some (.slice lc (Nat.add off (Nat.mul l size)) (Nat.sub u l)))))
 | .ed=>oB (hbound 0 lo) λl=>oB (hbound 0 hi) λu=>bB (Nat.beq l 0) (bB (Nat.beq u 0) (some .ed))
 |_=>none
def Q8(x:V) (lo hi:Option V):Option V:=match x with
 | .str s=>oB (hbound 0 lo) λl=>oB (hbound s.length hi) λu=>bB (Nat.ble l u) (bB (Nat.ble u s.length) (some (.str ((s.drop l).take (Nat.sub u l)))))
 |_=>none
def Ko(x:Option Operand) (t:Tm) (h:Hp):Option (Option V):=match x with
 |none=>some none
 |some x=>oB ((rM x).f t h) λv=>some (some v)
def Ly(t:Nat) (x:PF) (lo hi:Option Operand):PF:=match P0.underlying t with
 |some .string=>⟨λt h=>oB (x.f t h) λx=>oB (Ko lo t h) λl=>oB (Ko hi t h) λu=>Q8 x l u⟩
 | some (.slice elem)=>match ym elem with
   |some (n+1)=>⟨λt h=>oB (x.f t h) λx=>oB (Ko lo t h) λl=>oB (Ko hi t h) λu=>iL (Nat.succ n) x l u h⟩
   |_=>⟨λ_ _=>none⟩
 |_=>⟨λ_ _=>none⟩
def JC:V->Bool
 | .int _ _| .str _| .bool _=>true
 |_=>false
def K6:V->Bool
 | .agg cs=>cs.all JC
 |v=>JC v
def Fa(t:Nat) (a b:V):Option Bool:=match P0.underlying t with
 | some (.int _)=>match a,b with
   | .int k a,.int k' b=>bB (Fe k k') (some (a == b))
   |_,_=>none
 | some .string=>match a,b with
   | .str a,.str b=>some (a == b)
   |_,_=>none
 | some .bool=>match a,b with
   | .bool a,.bool b=>some (a == b)
   |_,_=>none
 |_=>none
def DY(t:Nat):Bool:=match P0.underlying t with
 |some (.int _)|some .string|some .bool=>true
 |_=>false
def SC:List Field->List V->List V->Option Bool
 |[],_,_=>some true
 |f::fs,x,y=>oB (Jm x f.offset) λa=>oB (Jm y f.offset) λb=>oB (Fa f.type a b) λe=>Bool.rec (motive:=λ_=>Option Bool) (some false) (SC fs x y) e
def Ht(t:Nat):Option (Option (List Field)):=match P0.underlying t with
 |some (.int _)|some .string|some .bool=>some none
 | some (.struct fs)=>match !P0.stoodInHeld t&&fs.toList.all (λf=>DY f.type&&f.name != "_")with
   |true=>some (some fs.toList)
   |false=>none
 |_=>none
def Ku(t:Nat) (d:Option (List Field)) (a b:V):Option Bool:=match d with
 |none=>Fa t a b
 | some fs=>match a,b with
   | .agg x,.agg y=>SC fs x y
   |_,_=>none
def IF(d:Option (List Field)) (k:V):Bool:=match d with
 |none=>true
 | some fs=>match k with
   | .agg x=>fs.all λf=>(Jm x f.offset).isSome
   |_=>false
def nI(t:Nat) (d:Option (List Field)) (k:V):List (V×V×Nat)->Nat->Option (Option (Nat×V))
 |[],_=>some none
 |e::es,i=>oB (Ku t d k e.1) λb=>Bool.rec (motive:=λ_=>Option (Option (Nat×V))) (nI t d k es (Nat.succ i)) (some (some (i,e.2.1))) b
def found(z:V) (ok:Bool) (r:Option (Nat×V)):V:=match r,ok with
 |some (_,v),true=> .tuple [v,.bool true]
 |some (_,v),false=>v
 |none,true=> .tuple [z,.bool false]
 |none,false=>z
def CZ(t:Nat):Bool:=match P0.underlying t with
 |some (.int _)=>true
 |_=>false
def GG(ks:List Int)(n:Int):Bool:=ks.any λm=>m == n
def MI(t:Nat) (d:Option (List Field)) (z:V) (ok:Bool) (k:V) (a:IntKind) (ks:List Int):Option V:=match d,k with
 |none,.int k' n=>bB (CZ t) (bB (Fe k' a) (some (found z ok (Bool.rec (motive:=λ_=>Option (Nat×V)) none (some (0,.bool true)) (GG ks n)))))
 |_,_=>none
def G9(a:Nat) (m k:PF) (ok:Bool):PF:=match P0.underlying a with
 | some (.map kt et)=>match Ht kt,zeroV et with
   |some d,some z=>⟨λt h=>oB (m.f t h) λm=>oB (k.f t h) λk=>bB (IF d k) (match m with
      | .ke=>some (found z ok none)
      | .map l=>yq h l (λes _=>oB (nI kt d k es 0) λr=>some (found z ok r)) (MI kt d z ok k)
      |_=>none)⟩
   |_,_=>⟨λ_ _=>none⟩
 |_=>⟨λ_ _=>none⟩
def hlen(t:Nat) (x:PF):PF:=match P0.underlying t with
 | some .string=>⟨λt h=>oB (x.f t h) λx=>match x with
   | .str s=>some (.int .i64 (.ofNat s.length))
   |_=>none⟩
 | some (.slice _)=>⟨λt h=>oB (x.f t h) λx=>match x with
   | .slice _ _ n=>some (.int .i64 (.ofNat n))
   | .ed=>some (.int .i64 (.ofNat 0))
   |_=>none⟩
 |some (.array n _)=>⟨λt h=>oB (x.f t h) λ_=>some (.int .i64 (.ofNat n))⟩
 | some (.map _ _)=>⟨λt h=>oB (x.f t h) λx=>match x with
   | .ke=>some (.int .i64 (.ofNat 0))
   | .map l=>yd h l λes _=>some (.int .i64 (.ofNat es.length))
   |_=>none⟩
 |_=>⟨λ_ _=>none⟩
def Rz(c:Bool):V->List V->Option V
 |x,[]=>some x
 | .int k a,.int _ b::r=>Rz c (.int k (if c then(if b>a then b else a) else(if b<a then b else a))) r
 |_,_=>none
def isIface(t:Nat):Option Bool:=match P0.underlying t with
 |some (.interface _)=>some true
 |some _=>some false
 |none=>none
def GR(x:PF) (a:Nat) (ok:Bool):PF:=match isIface a,zeroV a with
 | some false,some z=>⟨λt h=>oB (x.f t h) λx=>match x,ok with
   | .iface t v,true=>some (Bool.rec (motive:=λ_=>V) (.tuple [z,.bool false]) (.tuple [v,.bool true]) (Nat.beq t a))
   | .iface t v,false=>bB (Nat.beq t a) (some v)
   | .nilIface,true=>some (.tuple [z,.bool false])
   |_,_=>none⟩
 |_,_=>⟨λ_ _=>none⟩
def LR(c a b:PF):PF:=⟨λt h=>oB (c.f t h) λc=>match c with
 | .bool x=>Bool.rec (motive:=λ_=>Option V) (b.f t h) (a.f t h) x
 |_=>none⟩
def zF(x:PF):PF:=⟨λt h=>oB (x.f t h) λx=>match x with
 | .ptr l off=>some (.ptr l off)
 | .func f a c=>some (.func f a c)
 | .iface u v=>some (.iface u v)
 |_=>none⟩
def EX(x:PF) (i:Nat):PF:=⟨λt h=>oB (x.f t h) λx=>match x with
 | .tuple vs=>Jm vs i
 |_=>none⟩
def za7:PF:=⟨λ_ _=>none⟩
def iA(o:Oper):PF:=match o.op with
 | .move x=>rM x
 | .assign x=>rM x
 | .pick c a b=>LR (rM c) (rM a) (rM b)
 | .load ty a=>Ij ty (rM a)
 | .nilCheck x=>zF (rM x)
 | .binOp op g x y _=>⟨λt h=>oB ((rM x).f t h) λa=>oB ((rM y).f t h) λb=>ef op g a b⟩
 | .unOp op _ x=>⟨λt h=>oB ((rM x).f t h) λa=>qH op a⟩
 | .convert src dst x=>LQ src dst (rM x)
 | .build ty e=>IS ty e.toList
 | .makeFunc (.func f) first caps=>⟨λt _=>oB (JW t first.toList) λa=>oB (JW t caps.toList) λc=>some (.func f a c)⟩
 | .slice ty x lo hi none=>Ly ty (rM x) lo hi
 | .fieldAddr s x f=>qA s (rM x) f
 | .field s x f=>IU s (rM x) f
 | .indexAddr ty x i=>qp ty (rM x) (rM i)
 | .index ty x i=>Jc ty (rM x) (rM i)
 | .lookup ty m k ok=>G9 ty (rM m) (rM k) ok
 | .extract x i=>EX (rM x) i
 | .makeInterface ty x=>match isIface ty with
   |some false=>⟨λt h=>oB ((rM x).f t h) λv=>some (.iface ty v)⟩
   |_=>za7
 | .typeAssert x _ d ok=>GR (rM x) d ok
 | .call c=>match c.callee with
   | .builtin .len=>match c.args.toList,c.argTypes.toList with
     |[x],ty::_=>hlen ty (rM x)
     |_,_=>za7
   | .builtin .min=>⟨λt _=>oB (JW t c.args.toList) λl=>match l with
     |x::r=>Rz false x r
     |[]=>none⟩
   | .builtin .max=>⟨λt _=>oB (JW t c.args.toList) λl=>match l with
     |x::r=>Rz true x r
     |[]=>none⟩
   |_=>za7
 |_=>za7
def nj(e:Nat)(v:V):Option (O×(Nat->V)):=bB (gz v.cells) (some (.cells e 1 true false v.cells,λl=> .ptr l 0))
def EU(b size len:Nat) (z:V) (a:List (Nat×Operand)) (t:Tm):Option (O×(Nat->V)):=oB (sD t a) λc=>oB (xE (λi=>some (Nat.mul i size,size)) (Bt len z.cells) c) λcs=>bB (gz cs) (some (.cells b size true false cs,λl=> .slice l 0 len))
def jo(a size lE:Nat) (z:V) (n c:V):Option (O×(Nat->V)):=match n,c with
 | .int .i64 (.ofNat n),.int .i64 (.ofNat c)=>bB (Nat.ble n c) (bB (Nat.ble (Nat.mul c lE) 281474976710656) (bB (Nat.ble c 1099511627776)
   (some (.cells a size true false (Bt c z.cells),λl=> .slice l 0 n))))
 |_,_=>none
def elemOf(a:Nat):Option (Nat×Nat×V):=oB (ym a) λsize=>oB (zaM a) λlE=>oB (zeroV a) λz=>bB (Nat.blt 0 size) (bB (Nat.beq z.cells.length size) (bB (gz z.cells) (some (size,lE,z))))
def G0(t:Nat):Option Nat:=match P0.underlying t with
 |some (.slice e)=>some e
 |_=>none
def Tw:AF:=⟨λ_=>none⟩
def p9(o:Oper):AF:=match o.op with
 | .alloc e=>match zeroV e with
   |some z=>⟨λ_=>nj e z⟩
   |none=>Tw
 | .box e x=>⟨λt=>oB ((OI x).f t) λv=>nj e v⟩
 | .buildSlice ty len b=>match G0 ty with
   | some a=>match elemOf a with
     | some (size,_,z)=>match Nat.ble (Nat.mul len size) 16777216 with
       |true=>⟨λt=>EU a size len z b.toList t⟩
       |false=>Tw
     |none=>Tw
   |none=>Tw
 | .makeSlice ty n c=>match G0 ty with
   | some a=>match elemOf a with
     |some (size,lE,z)=>⟨λt=>oB ((OI n).f t) λn=>oB ((OI c).f t) λc=>jo a size lE z n c⟩
     |none=>Tw
   |none=>Tw
 | .makeMap ty none=>match P0.underlying ty with
   |some (.map _ _)=>⟨λ_=>some (.map [] 0,λl=> .map l)⟩
   |_=>Tw
 |_=>Tw
inductive R where
 |val (v:V) (h:Hp)
 |call (f:Nat) (args:List V)
structure WF where
 f:Tm->Hp->Option R
def zP(s:List UInt8):List V:=s.map λb=> .int .u8 (.ofNat b.toNat)
def kV(h:Hp) (size:Nat):V->Option (Nat×List V)
 | .ed=>some (0,[])
 | .slice _ _ 0=>some (0,[])
 | .slice l off (n+1)=>oB (Hj h l off (Nat.mul (Nat.succ n) size)) λcs=>some (Nat.succ n,cs)
 | .str s=>bB (Nat.beq size 1) (some (s.length,zP s))
 |_=>none
def eQ(a size lE:Nat) (s x:V) (h:Hp):Option R:=oB (kV h size x) λnx=>
 Bool.rec (motive:=λ_=>Option R)
   (bB (gz nx.2) (match s with
     | .ed=>bB (Nat.ble (Nat.mul nx.1 lE) 70368744177664) (bB (Nat.ble nx.1 70368744177664)
         (some (.val (.slice h.next 0 nx.1) (h.new (.cells a size true false nx.2)))))
     | .slice l off len=>jW h l λe sz live ro cs=>bB live (bB (!ro) (bB (Nat.beq sz size)
         (Bool.rec (motive:=λ_=>Option R)
           (oB (sub cs off (Nat.mul len size)) λvJ=>bB (gz vJ) (bB (Nat.ble (Nat.mul (Nat.add len nx.1) lE) 70368744177664) (bB (Nat.ble (Nat.add len nx.1) 70368744177664)
             (some (.val (.slice h.next 0 (Nat.add len nx.1)) ((h.put l (.cells e sz false false cs)).new (.cells a size true false (vJ++nx.2))))))))
           (oB (qv (Nat.add off (Nat.mul len size)) cs nx.2) λoY=>some (.val (.slice l off (Nat.add len nx.1)) (h.put l (.cells e sz true false oY))))
           (Nat.ble (Nat.add off (Nat.mul (Nat.add len nx.1) size)) cs.length))))
     |_=>none))
   (match s with
     | .ed=>some (.val .ed h)
     | .slice l off len=>some (.val (.slice l off len) h)
     |_=>none)
   (Nat.beq nx.1 0)
def Yr(size:Nat) (d s:V) (h:Hp):Option R:=match d with
 | .ed=>match s with
   | .ed| .slice _ _ _| .str _=>some (.val (.int .i64 (.ofNat 0)) h)
   |_=>none
 | .slice l off len=>match s with
   | .ed=>some (.val (.int .i64 (.ofNat 0)) h)
   | .slice e c a=>Bool.rec (motive:=λ_=>Option R)
       (oB (Hj h e c (Nat.mul (min a len) size)) λcs=>oB (EC h l off cs) λh=>some (.val (.int .i64 (.ofNat (min a len))) h))
       (some (.val (.int .i64 (.ofNat 0)) h)) (Nat.beq (min a len) 0)
   | .str b=>bB (Nat.beq size 1) (Bool.rec (motive:=λ_=>Option R)
       (oB (EC h l off (zP (b.take (min b.length len)))) λh=>some (.val (.int .i64 (.ofNat (min b.length len))) h))
       (some (.val (.int .i64 (.ofNat 0)) h)) (Nat.beq (min b.length len) 0))
   |_=>none
 |_=>none
def zM(t:Nat) (d:Option (List Field)) (es:List (V×V×Nat)) (a:Nat) (k v:V):Option O:=oB (nI t d k es 0) λr=>match r with
 |some (i,_)=>oB es[i]? λe=>bB (V.beq e.1 k) (bB (K6 k) (some (.map (es.set i (k,v,e.2.2)) a)))
 |none=>some (.map (es++[(k,v,a)]) (Nat.succ a))
def UC(t:Nat) (d:Option (List Field)) (k v:V) (l:Nat) (h:Hp) (a:IntKind) (ks:List Int):Option R:=match d,k,v with
 |none,.int k' n,.bool true=>bB (CZ t) (bB (Fe k' a) (some (.val .undef (h.put l (.OG a (n::ks))))))
 |_,_,_=>none
def xh(t:Nat) (d:Option (List Field)) (m k v:V) (h:Hp):Option R:=bB (IF d k) (match m with
 | .map l=>yq h l (λes c=>oB (zM t d es c k v) λo=>some (.val .undef (h.put l o))) (UC t d k v l h)
 |_=>none)
def Bf(t:Nat) (d:Option (List Field)) (m k:V) (h:Hp):Option R:=bB (IF d k) (match m with
 | .ke=>some (.val (.tuple []) h)
 | .map l=>yd h l λes c=>oB (nI t d k es 0) λr=>match r with
   |some (i,_)=>some (.val (.tuple []) (h.put l (.map (es.eraseIdx i) c)))
   |none=>some (.val (.tuple []) h)
 |_=>none)
def Y8(x:V) (h:Hp):Option R:=match x with
 | .slice l off n=>jW h l λe sz live ro cs=>bB live (bB (!ro) (some (.val (.slice l off n) (h.put l (.cells e sz true false cs)))))
 |_=>none
def fX(f:V) (args:List V):Option R:=match f with
 | .func f first a=>some (.call f (first++(args++a)))
 |_=>none
def methodOf(t:Nat) (a:String):Option (Nat×Option Nat):=oB (P0.info? t) λi=>match i.methods.toList.find? (λm=>m.name == a)with
 | some m=>match m.path.toList,m.func,P0.underlying t with
   |[],some (f,true),some (.pointer _)=>some (f,none)
   |[],some (f,false),some (.pointer e)=>some (f,some e)
   |[],some (f,false),some _=>some (f,none)
   |_,_,_=>none
 |none=>none
def jG(a:String) (r:V) (args:List V) (h:Hp):Option R:=match r with
 | .iface t v=>match methodOf t a with
   |some (f,none)=>some (.call f (v::args))
   |some (f,some e)=>oB ((Ij e ⟨λ_ _=>some v⟩).f (.tree .leaf []) h) λx=>some (.call f (x::args))
   |none=>none
 |_=>none
def Fl(m:V) (h:Hp):Option R:=match m with
 | .ke=>some (.val (.ptr h.next 0) (h.new (.iter none 0 [] 0)))
 | .map l=>yd h l λ_ c=>some (.val (.ptr h.next 0) (h.new (.iter (some l) c [] c)))
 |_=>none
def JU(it:V) (h:Hp):Option R:=rA it λr off=>bB (Nat.beq off 0) (oB (h.get r) λo=>match o with
 | .iter none _ _ _=>some (.val (.tuple [.bool false]) h)
 | .iter (some m) since seen last=>yd h m λes a=>
   bB (!(!seen.isEmpty&&!es.isEmpty&&es.all (λe=>Nat.ble last e.2.2)))
     (match es.filter (λe=>!seen.contains e.2.2)with
       |[]=>some (.val (.tuple [.bool false]) h)
       |[e]=>bB (Nat.blt e.2.2 since) (some (.val (.tuple [.bool true,e.1,e.2.1]) (h.put r (.iter (some m) since (seen++[e.2.2]) a))))
       |_=>none)
 |_=>none)
def KT(it:V) (h:Hp):Option R:=rA it λr off=>bB (Nat.beq off 0) (oB (h.get r) λo=>match o with
 | .iter (some m) _ seen last=>yd h m λes a=>bB (Nat.beq a last) (oB seen.getLast? λst=>oB (es.find? λe=>Nat.beq e.2.2 st) λe=>some (.val (.tuple [e.1,e.2.1]) h))
 |_=>none)
def BL:WF:=⟨λ_ _=>none⟩
def jh(o:Oper):WF:=match o.op with
 | .store ty a x=>match ym ty with
   |some n=>⟨λt h=>oB ((rM a).f t h) λa=>oB ((rM x).f t h) λv=>rA a λl off=>
      bB (Nat.beq v.cells.length n) (oB (EC h l off v.cells) λh=>some (.val .undef h))⟩
   |none=>BL
 | .mapUpdate ty m k x=>match P0.underlying ty with
   | some (.map kt _)=>match Ht kt with
     |some d=>⟨λt h=>oB ((rM m).f t h) λm=>oB ((rM k).f t h) λk=>oB ((rM x).f t h) λv=>xh kt d m k v h⟩
     |none=>BL
   |_=>BL
 | .insert ty m k x=>match P0.underlying ty with
   | some (.map kt _)=>match Ht kt with
     |some d=>⟨λt h=>oB ((rM m).f t h) λm=>oB ((rM k).f t h) λk=>oB ((rM x).f t h) λv=>xh kt d m k v h⟩
     |none=>BL
   |_=>BL
 | .range ty x=>match P0.underlying ty with
   |some (.map _ _)=>⟨λt h=>oB ((rM x).f t h) λm=>Fl m h⟩
   |_=>BL
 | .next x false=>⟨λt h=>oB ((rM x).f t h) λm=>JU m h⟩
 | .entry x=>⟨λt h=>oB ((rM x).f t h) λm=>KT m h⟩
 | .convert src dst x=>match P0.underlying src,P0.underlying dst with
   | some .string,some (.slice e)=>match P0.underlying e,ym e with
     | some (.int .u8),some 1=>⟨λt h=>oB ((rM x).f t h) λx=>match x with
       | .str s=>some (.val (.slice h.next 0 s.length) (h.new (.cells e 1 true false (zP s))))
       |_=>none⟩
     |_,_=>BL
   | some (.slice _),some (.slice e)=>match P0.underlying e,Nat.beq src dst with
     |some (.int .u8),true=>⟨λt h=>oB ((rM x).f t h) λx=>Y8 x h⟩
     |_,_=>BL
   |_,_=>BL
 | .call c=>match c.callee with
   | .builtin .append=>match c.args.toList,c.argTypes.toList with
     | [s,x],[sT,xT]=>match G0 sT,P0.underlying xT with
       | some b,some (.slice _)=>match elemOf b with
         |some (size,lE,_)=>⟨λt h=>oB ((rM s).f t h) λs=>oB ((rM x).f t h) λx=>eQ b size lE s x h⟩
         |none=>BL
       | some b,some .string=>match elemOf b with
         |some (size,lE,_)=>⟨λt h=>oB ((rM s).f t h) λs=>oB ((rM x).f t h) λx=>eQ b size lE s x h⟩
         |none=>BL
       |_,_=>BL
     |_,_=>BL
   | .builtin .copy=>match c.args.toList,c.argTypes.toList with
     | [d,s],dT::_=>match G0 dT with
       | some b=>match ym b with
         |some size=>⟨λt h=>oB ((rM d).f t h) λd=>oB ((rM s).f t h) λs=>Yr size d s h⟩
         |none=>BL
       |none=>BL
     |_,_=>BL
   | .builtin .delete=>match c.args.toList,c.argTypes.toList with
     | [m,k],mT::_=>match P0.underlying mT with
       | some (.map kt _)=>match Ht kt with
         |some d=>⟨λt h=>oB ((rM m).f t h) λm=>oB ((rM k).f t h) λk=>Bf kt d m k h⟩
         |none=>BL
       |_=>BL
     |_,_=>BL
   | .value f=>⟨λt h=>oB ((rM f).f t h) λf=>oB (JW t c.args.toList) λargs=>fX f args⟩
   | .invoke r g=>⟨λt h=>oB ((rM r).f t h) λr=>oB (JW t c.args.toList) λargs=>jG g r args h⟩
   |_=>BL
 |_=>BL
def cls(o:Oper):Nat:=match o.op with
 | .alloc _| .box _ _| .buildSlice _ _ _| .makeSlice _ _ _| .makeMap _ _=>1
 | .move _| .assign _| .pick _ _ _| .load _ _| .nilCheck _| .binOp _ _ _ _ _| .unOp _ _ _| .build _ _| .makeFunc _ _ _| .slice _ _ _ _ _
 | .fieldAddr _ _ _| .field _ _ _| .indexAddr _ _ _| .index _ _ _| .lookup _ _ _ _| .extract _ _| .makeInterface _ _| .typeAssert _ _ _ _=>0
 | .call c=>match c.callee with
   | .builtin .len| .builtin .min| .builtin .max=>0
   |_=>2
 | .convert src dst _=>match P0.underlying src,P0.underlying dst with
   |some (.int _),some (.int _)=>0
   |some .string,some .string=>0
   |some (.slice _),some .string=>0
   |_,_=>2
 |_=>2
abbrev Call:=Nat->List V->Hp->Option (V×Hp)
structure RF where
 f:Call->Tm->Hp->Option (V×Hp)
def B7(o:Oper):RF:=match cls o with
 |0=>⟨λ_ t h=>oB ((iA o).f t h) λv=>some (v,h)⟩
 |1=>⟨λ_ t h=>oB ((p9 o).f t) λr=>some (r.2 h.next,h.new r.1)⟩
 | _=>⟨λcall t h=>oB ((jh o).f t h) λr=>match r with
   | .val v h=>some (v,h)
   | .call f args=>call f args h⟩
structure GF where
 f:Tm->Option Bool
def jY(n:Nat) (ops:List Oper) (o:Oper):Option GF:=match o.guard with
 |none=>none
 | some (j,w)=>match ops[j]? with
   | some a=>match a.dst with
     | some d=>match Nat.blt d n with
       | true=>some ⟨λt=>match hN t d with
         | .bool b=>some (Bool.rec (motive:=λ_=>Bool) (!w) w b)
         | .tuple []=>some false
         |_=>none⟩
       |false=>some ⟨λ_=>none⟩
     |none=>some ⟨λ_=>some false⟩
   |none=>some ⟨λ_=>some false⟩
structure DF where
 f:Tm->V->Tm
def tP(n:Nat) (o:Oper):Option DF:=match o.dst with
 |none=>some ⟨λt _=>t⟩
 | some d=>match Nat.blt d n with
   |true=>some ⟨λt v=>t.set d v⟩
   |false=>none
structure SF where
 f:Call->Tm->Hp->Option (Tm×Hp)
def zga:SF:=⟨λ_ _ _=>none⟩
structure QF where
 f:Tm->Hp->Option Tm
def Yx(b:V) (args:List V) (t:Tm):Option Tm:=match b with
 | .func g first a=>some (t.push (g,first++(args++a)))
 |_=>none
def yv(o:Oper):Option QF:=match o.op with
 | .defer c=>match c.callee with
   | .value f=>some ⟨λt h=>oB ((rM f).f t h) λa=>oB (JW t c.args.toList) λargs=>Yx a args t⟩
   |_=>none
 |_=>none
def Gj(n:Nat) (all:List Oper) (o:Oper) (a:SF):SF:=match tP n o with
 |none=>zga
 | some d=>match jY n all o with
   | none=>match yv o with
     |some q=>⟨λcall t h=>oB (q.f t h) λt=>a.f call (d.f t .undef) h⟩
     |none=>⟨λcall t h=>oB ((B7 o).f call t h) λr=>a.f call (d.f t r.1) r.2⟩
   |some g=>⟨λcall t h=>oB (g.f t) λb=>Bool.rec (motive:=λ_=>Option (Tm×Hp)) (a.f call (d.f t .undef) h)
      (oB ((B7 o).f call t h) λr=>a.f call (d.f t r.1) r.2) b⟩
def lL(n:Nat) (all:List Oper):List Oper->SF
 |[]=>⟨λ_ t h=>some (t,h)⟩
 |o::os=>Gj n all o (lL n all os)
structure It where
 i:Nat
 o:Oper
 b:Nat
def Oe(e:Edge):Bool:=match e.ground with
 | .textOnly _| .gcOnly _=>false
 |_=>true
def MX(a:List Nat):List Edge->Nat->Nat
 |[],m=>m
 | e::es,m=>match Oe e with
   |true=>MX a es (m |||(2 ^ e.on |||a[e.on]?.getD 0))
   |false=>MX a es m
def items:List Oper->Nat->List Nat->List It
 |[],_,_=>[]
 |o::os,i,acc=>{i,o,b:=MX acc o.after.toList 0}::items os (i+1) (acc++[MX acc o.after.toList 0])
def BI:List Operand->List Nat
 |[]=>[]
 | .tmp t::xs=>t::BI xs
 |_::xs=>BI xs
def qI(o:Oper):List Nat:=o.dst.toList++BI o.op.operands.toList
def writes(o:Oper) (l:List Nat):Bool:=match o.dst with
 |some d=>l.contains d
 |none=>false
def RD(a b:It):Bool:=(!(writes a.o (qI b.o))&&!(writes b.o (qI a.o))) ||b.b.testBit a.i
def qS:List It->Bool
 |[]=>true
 |a::l=>l.all (RD a)&&qS l
def DE(jQ:List It) (a:It):Bool:=match a.o.guard with
 |none=>true
 | some (j,_)=>match jQ[j]? with
   | some g=>match g.o.dst with
     |some d=>a.b.testBit j&&jQ.all (λx=>x.i == j || !(x.o.dst == some d))
     |none=>false
   |none=>false
def AX(a:It):Bool:=a.o.after.toList.all λe=>!Oe e ||Nat.blt e.on a.i
def GS:List It->Bool
 |a::b::l=>b.b.testBit a.i&&GS (b::l)
 |_=>true
def Rv(jQ ws:List It):Bool:=qS jQ&&jQ.all (DE jQ)&&jQ.all AX&&GS ws
def early(ws:List It)(a:It):Nat:=(ws.filter λw=>a.b.testBit w.i).length
def late:List It->It->Nat
 |[],_=>0
 | w::ws,a=>match w.b.testBit a.i with
   |true=>0
   |false=>late ws a+1
def O.beq:O->O->Bool
 | .cells e s a r cs,.cells e' s' a' r' oY=>e == e'&&s == s'&&a == a'&&r == r'&&V.Mt cs oY
 | .map [] c,.map [] c'=>c == c'
 |_,_=>false
structure Rec where
 it:It
 t:Tm
 v:V
 made:Option (Nat×O)
 last:Nat
def zw(h:Hp) (r:Rec):Bool:=match r.made with
 | none=>match (iA r.it.o).f r.t h with
   |some v=>V.beq v r.v
   |none=>false
 | some (l,ob)=>match h.get l with
   |some a=>O.beq a ob
   |none=>false
def pQ(n:Nat) (all:List Oper) (o:Oper) (t:Tm):Option Bool:=match jY n all o with
 |none=>some true
 |some g=>g.f t
def Bs(k:Nat)(h:Hp)(rs:List Rec):Bool:=rs.all λr=>Nat.blt r.last k ||zw h r
def Vh(jQ ws:List It)(k:Nat):List It:=jQ.filter λa=>!(Nat.beq (cls a.o) 2)&&Nat.beq (early ws a) k
def order(jQ ws:List It):List It->Nat->List It
 |[],k=>Vh jQ ws k
 |w::todo,k=>Vh jQ ws k++w::order jQ ws todo (Nat.succ k)
def ME(ws:List It) (a:It):Nat->Bool
 |0=>true
 | k+1=>match ws[k]? with
   |some w=>a.b.testBit w.i
   |none=>false
def isW(ws:List It) (a:It) (k:Nat):Bool:=match ws[k]? with
 |some w=>Nat.beq w.i a.i
 |none=>false
def uk(jQ ws:List It):List It->Nat->Nat->Bool
 |[],m,k=>jQ.all (λa=>m.testBit a.i)&&Nat.beq k ws.length
 | a::l,m,k=>!m.testBit a.i&&(jQ.all (λx=>!a.b.testBit x.i ||m.testBit x.i)&&(match Nat.beq (cls a.o) 2 with
   |true=>isW ws a k&&uk jQ ws l (m |||2 ^ a.i) (Nat.succ k)
   |false=>ME ws a k&&uk jQ ws l (m |||2 ^ a.i) k))
structure LF where
 f:Call->Tm->Hp->List Rec->Option (Tm×Hp)
def Ii(n:Nat) (all:List Oper) (ws:List It) (a:It) (d:DF) (c:LF):LF:=⟨λcall t h rs=>oB (pQ n all a.o t) λb=>Bool.rec (motive:=λ_=>Option (Tm×Hp)) (c.f call (d.f t .undef) h rs) (oB ((iA a.o).f t h) λv=>c.f call (d.f t v) h ({it:=a,t,v,made:=none,last:=late ws a}::rs)) b⟩
def GM(n:Nat) (all:List Oper) (ws:List It) (a:It) (d:DF) (c:LF):LF:=⟨λcall t h rs=>oB (pQ n all a.o t) λb=>Bool.rec (motive:=λ_=>Option (Tm×Hp)) (c.f call (d.f t .undef) h rs) (oB ((p9 a.o).f t) λr=>c.f call (d.f t (r.2 h.next)) (h.new r.1) ({it:=a,t,v:=r.2 h.next,made:=some (h.next,r.1),last:=late ws a}::rs)) b⟩
def BM(n:Nat) (all:List Oper) (k:Nat) (a:It) (d:DF) (c:LF):LF:=⟨λcall t h rs=>bB (Bs k h rs) (oB (pQ n all a.o t) λb=>Bool.rec (motive:=λ_=>Option (Tm×Hp)) (c.f call (d.f t .undef) h rs) (oB ((B7 a.o).f call t h) λx=>bB (Nat.ble h.next x.2.next) (c.f call (d.f t x.1) x.2 rs)) b)⟩
def wq(n:Nat) (all:List Oper) (ws:List It):List It->Nat->LF
 |[],k=>⟨λ_ t h rs=>bB (Bs k h rs) (some (t,h))⟩
 | a ::l,k=>match tP n a.o with
   |none=>⟨λ_ _ _ _=>none⟩
   | some d=>match cls a.o with
     |0=>Ii n all ws a d (wq n all ws l k)
     |1=>GM n all ws a d (wq n all ws l k)
     |_=>BM n all k a d (wq n all ws l (Nat.succ k))
def gY(jQ:List It):List It:=jQ.filter λa=>Nat.beq (cls a.o) 2
def Rf:Operand->Bool
 | .global _=>false
 |_=>true
def storeAt(o:Oper):Option Nat:=match o.op with
 | .store _ (.tmp d) x=>match o.guard,o.dst,Rf x with
   |none,none,true=>some d
   |_,_,_=>none
 |_=>none
def Kq(o:Oper):Bool:=match o.op with
 | .move x| .nilCheck x| .fieldAddr _ x _=>Rf x
 | .indexAddr _ x i=>Rf x&&Rf i
 |_=>false
def MP:List It->Option (It×It)
 |[]=>none
 |[_]=>none
 |[a,b]=>some (a,b)
 |_::b::c::l=>MP (b::c::l)
def Iz:List It->Bool
 | a::b::c::l=>b.b.testBit a.i&&(match l with
   |[]=>c.b.testBit a.i
   |_=>true)&&Iz (b::c::l)
 |_=>true
def fixed(jQ:List It)(a:It):Bool:=(BI a.o.op.operands.toList).all λd=>jQ.all λx=>!(writes x.o [d]) ||a.b.testBit x.i
def Rj(jQ:List It) (a b:It):Bool:=jQ.all λx=>Nat.beq x.i a.i ||Nat.beq x.i b.i ||(a.b.testBit x.i&&b.b.testBit x.i) || (Nat.beq (cls x.o) 0&&Kq x.o&&x.o.guard.isNone&&!x.b.testBit a.i&&!x.b.testBit b.i)
def KA(jQ ws:List It):Option (It×It×Nat×Nat):=match MP ws with
 | some (a,b)=>match storeAt a.o,storeAt b.o with
   | some da,some db=>match fixed jQ a&&fixed jQ b&&Rj jQ a b&&Iz ws with
     |true=>some (a,b,da,db)
     |false=>none
   |_,_=>none
 |none=>none
def YG:V->V->Bool
 | .ptr l _,.ptr l' _=>!(Nat.beq l l')
 |_,_=>false
def Ri(jQ:List It):Bool:=qS jQ&&jQ.all (DE jQ)&&jQ.all AX
def M0(n:Nat) (all:List Oper):SF:=
 match Rv (items all 0 []) (gY (items all 0 []))&&uk (items all 0 []) (gY (items all 0 [])) (order (items all 0 []) (gY (items all 0 [])) (gY (items all 0 [])) 0) 0 0 with
 |true=>⟨λcall t h=>(wq n all (gY (items all 0 [])) (order (items all 0 []) (gY (items all 0 [])) (gY (items all 0 [])) 0) 0).f call t h []⟩
 | false=>match KA (items all 0 []) (gY (items all 0 [])),Ri (items all 0 [])&&uk (items all 0 []) (gY (items all 0 [])) (order (items all 0 []) (gY (items all 0 [])) (gY (items all 0 [])) 0) 0 0 with
   |some p,true=>⟨λcall t h=>oB ((wq n all (gY (items all 0 [])) (order (items all 0 []) (gY (items all 0 [])) (gY (items all 0 [])) 0) 0).f call t h []) λr=>
      bB (YG (hN r.1 p.2.2.1) (hN r.1 p.2.2.2)) (some r)⟩
   |_,_=>zga
inductive X where
 |normal
 |exit (id:Nat)
 |ret
structure CF where
 f:Call->Nat->Tm->Hp->Option (X×Tm×Hp)
def EG(r:Option (X×Tm×Hp)) (k:Tm->Hp->Option (X×Tm×Hp)):Option (X×Tm×Hp):=match r with
 |some (.normal,t,h)=>k t h
 |r=>r
def Lv(id:Nat) (r:Option (X×Tm×Hp)):Option (X×Tm×Hp):=match r with
 |some (.exit id',t,h)=>Bool.rec (motive:=λ_=>Option (X×Tm×Hp)) (some (.exit id',t,h)) (some (.normal,t,h)) (Nat.beq id' id)
 |r=>r
def Gu(body:Tm->Hp->Option (X×Tm×Hp)) (m:Nat):Tm->Hp->Option (X×Tm×Hp):=Nat.rec (motive:=λ_=>Tm->Hp->Option (X×Tm×Hp)) (λ_ _=>none) (λ_ a t h=>EG (body t h) a) m
structure mG where
 it:Nat
 a:Nat
 c:Nat
 e0:Nat
 e1:Nat
 e2:Nat
 m0:Nat
 m1:Nat
 u:Nat
 x:Nat
 ty:Nat
 kt:Nat
 k:IntKind
def Qy:List Nat->Bool
 |[]=>true
 |a::l=>l.all (λb=>!(Nat.beq a b))&&Qy l
def mG.all(F:mG):List Nat:=[F.it,F.u,F.a,F.c,F.e0,F.e1,F.e2,F.m0,F.m1]
def mG.ok(n:Nat) (F:mG):Bool:=F.all.all (λd=>Nat.blt d n)&&Qy F.all&&(match P0.underlying F.ty with
 |some (.map kt _)=>Nat.beq kt F.kt
 |_=>false)&&(match P0.underlying F.kt with
 |some (.int k)=>Fe k F.k
 |_=>false)
def mG.r0(F:mG) (b o2:Oper):Bool:=match b.op,b.dst,b.guard,o2.op,o2.dst,o2.guard with
 | .next (.tmp it) false,some a,none,.extract (.tmp a') 0,some c,none=>Nat.beq it F.it&&Nat.beq a F.a&&Nat.beq a' F.a&&Nat.beq c F.c
 |_,_,_,_,_,_=>false
def mG.r1(F:mG) (a o2 b:Oper):Bool:=match a.op,a.dst,a.guard,o2.op,o2.dst,o2.guard,b.op,b.dst,b.guard with
 | .entry (.tmp it),some e0,none,.extract (.tmp c) 0,some e1,none,.assign (.tmp d),some e2,none=>
   Nat.beq it F.it&&Nat.beq e0 F.e0&&Nat.beq c F.e0&&Nat.beq e1 F.e1&&Nat.beq d F.e1&&Nat.beq e2 F.e2
 |_,_,_,_,_,_,_,_,_=>false
def mG.r2(F:mG) (a o2 b:Oper):Bool:=match a.op,a.dst,a.guard,o2.op,o2.dst,o2.guard,b.op,b.dst,b.guard with
 | .move (.tmp u),some m0,none,.move (.tmp e2),some m1,none,.mapUpdate ty (.tmp c) (.tmp d) (.const (.bool true)),none,none=>
   Nat.beq u F.u&&Nat.beq m0 F.m0&&Nat.beq e2 F.e2&&Nat.beq m1 F.m1&&Nat.beq ty F.ty&&Nat.beq c F.m0&&Nat.beq d F.m1
 |_,_,_,_,_,_,_,_,_=>false
def mG.of(c x:Nat) (b o2 p1 p2 p3 d e f:Oper):Option mG:=match b.op,b.dst,p1.dst,p2.dst,p3.dst,d.dst,e.dst,d.op,f.op with
 | .next (.tmp it) _,some a,some e0,some e1,some e2,some m0,some m1,.move (.tmp u),.mapUpdate ty _ _ _=>match P0.underlying ty with
   | some (.map kt _)=>match P0.underlying kt with
     |some (.int k)=>some ⟨it,a,c,e0,e1,e2,m0,m1,u,x,ty,kt,k⟩
     |_=>none
   |_=>none
 |_,_,_,_,_,_,_,_,_=>none
def yo(n:Nat) (c:Code):Option mG:=match c with
 | .seq (.region _ r0 false) (.seq (.cond (.tmp c) .skip (.exit x)) (.block _ (.seq (.region _ r1 false) (.region _ r2 false))))=>match r0.toList,r1.toList,r2.toList with
   | [a,o2],[p1,p2,p3],[b,d,e]=>match mG.of c x a o2 p1 p2 p3 b d e with
     | some F=>match F.ok n&&F.r0 a o2&&F.r1 p1 p2 p3&&F.r2 b d e&&Nat.beq F.c c&&Nat.beq F.x x with
       |true=>some F
       |false=>none
     |none=>none
   |_,_,_=>none
 |_=>none
def zee(k:IntKind):V×V×Nat->Option Int
 |(.int k' n,.bool true,_)=>bB (Fe k' k) (some n)
 |_=>none
def Mc(k:IntKind):List (V×V×Nat)->Option (List Int)
 |[]=>some []
 |e::es=>oB (zee k e) λn=>oB (Mc k es) λns=>some (n::ns)
noncomputable def mG.t(F:mG)(u:Nat)(none:Bool)(t:Tm):Tm:=((Bool.rec (motive:=λ_=>Tm) (((((t.set F.e0 (.tuple [.anyI F.k,.bool true])).set F.e1 (.anyI F.k)).set F.e2 (.anyI F.k)).set F.m0 (.map u)).set F.m1 (.anyI F.k)) t none).set F.a (.tuple [.bool false])).set F.c (.bool false)
def NA(F:mG) (t:Tm) (h:Hp):Option (X×Tm×Hp):=rA (hN t F.it) λr off=>bB (Nat.beq off 0) (oB (h.get r) λo=>match o with
 | .iter (some m) since [] last=>yd h m λes a=>bB (Nat.beq since a&&Nat.beq last a) (oB (Mc F.k es) λks=>match hN t F.u with
   | .map u=>bB (!(Nat.beq u m)) (yd h u λus _=>bB us.isEmpty (some (.exit F.x,F.t u es.isEmpty t,(h.put r .gone).put u (.OG F.k ks))))
   |_=>none)
 |_=>none)
def zgY:CF:=⟨λ_ _ _ _=>none⟩
def ig(n:Nat):Code->CF
 | .skip=>⟨λ_ _ t h=>some (.normal,t,h)⟩
 | .seq a b=>⟨λcall m t h=>EG ((ig n a).f call m t h) λt h=>(ig n b).f call m t h⟩
 | .cond c a b=>⟨λcall m t h=>oB ((rM c).f t h) λv=>match v with
   | .bool x=>Bool.rec (motive:=λ_=>Option (X×Tm×Hp)) ((ig n b).f call m t h) ((ig n a).f call m t h) x
   |_=>none⟩
 | .block id c=>⟨λcall m t h=>Lv id ((ig n c).f call m t h)⟩
 | .loop c=>match yo n c with
   |some F=>⟨λ_ _ t h=>NA F t h⟩
   |none=>⟨λcall m t h=>Gu (λt h=>(ig n c).f call m t h) m t h⟩
 | .exit id=>⟨λ_ _ t h=>some (.exit id,t,h)⟩
 | .ret=>⟨λ_ _ t h=>some (.ret,t,h)⟩
 | .region _ ops false=>⟨λcall _ t h=>oB ((lL n ops.toList ops.toList).f call t h) λr=>some (.normal,r.1,r.2)⟩
 | .region _ ops true=>⟨λcall _ t h=>oB ((M0 n ops.toList).f call t h) λr=>some (.normal,r.1,r.2)⟩
 |_=>zgY
inductive Ext where
 |none
 |countByte
 |indexByte
def Nv(c:Nat):List UInt8->Nat->Nat
 |[],n=>n
 |b::l,n=>Nv c l (Bool.rec (motive:=λ_=>Nat) n (Nat.succ n) (Nat.beq b.toNat c))
def Rk(c:Nat):List UInt8->Nat->Option Nat
 |[],_=>none
 |b::l,n=>Bool.rec (motive:=λ_=>Option Nat) (Rk c l (Nat.succ n)) (some n) (Nat.beq b.toNat c)
def Ui:Ext->List V->Option V
 | .countByte,[.str s,.int .u8 (.ofNat c)]=>bB (Nat.blt c 256) (some (.int .i64 (.ofNat (Nv c s 0))))
 | .indexByte,[.str s,.int .u8 (.ofNat c)]=>bB (Nat.blt c 256) (match Rk c s 0 with
   |some i=>some (.int .i64 (.ofNat i))
   |none=>some (.int .i64 (-1)))
 |_,_=>none
def W6:ResultVar->PF
 | .tmp i=>⟨λt _=>some (hN t i)⟩
 | .cell a ty=>Ij ty ⟨λt _=>some (hN t a)⟩
def z0(t:Tm) (h:Hp):List ResultVar->Option (List V)
 |[]=>some []
 |r::rs=>oB ((W6 r).f t h) λv=>oB (z0 t h rs) λvs=>some (v::vs)
def zy(vs:List V):V:=match vs with
 |[v]=>v
 |vs=> .tuple vs
structure FF where
 f:Call->Nat->List V->Hp->Option (V×Hp)
structure fj where
 start:List V->Tm
 ext:Nat->Ext
 K:Nat->List V->Hp->Option V
def V.flat:V->Bool
 | .bool _| .int _ _| .str _| .nilPtr| .ed| .ke| .nilFunc| .nilIface=>true
 |_=>false
def Su(l:List V):Bool:=l.all V.flat
def orB{α β:Type}(x:Option α)(k:α->Option β)(e:Option β):Option β:=Option.rec (motive:=λ_=>Option β) e k x
def VC(c:Code):Option (Nat×Code):=match c with
 | .seq (.region _ ops false) rest=>match ops.toList with
   | [o]=>match o.op with
     | .call cl=>match cl.callee,o.guard,o.dst with
       | .builtin .recover,none,some d=>some (d,rest)
       |_,_,_=>none
     |_=>none
   |_=>none
 |_=>none
def YY(fn:Func) (r:X×Tm×Hp):Option (V×Hp):=match r.1 with
 | .exit _=>none
 | _=>match r.2.1.ds with
   |[]=>oB (z0 r.2.1 r.2.2 fn.results.toList) λvs=>some (zy vs,r.2.2)
   |_::_=>none
def LI(C:fj) (f:Nat):FF:=match P0.funcs[f]? with
 | some fn=>match fn.body with
   | some c=>match VC c with
     |some (d,rest)=>⟨λcall m args h=>bB (Nat.ble args.length fn.ntmps) (bB (Nat.blt d fn.ntmps) (oB ((ig fn.ntmps rest).f call m ((C.start args).set d .nilIface) h) λr=>YY fn r))⟩
     |none=>⟨λcall m args h=>bB (Nat.ble args.length fn.ntmps) (oB ((ig fn.ntmps c).f call m (C.start args) h) λr=>YY fn r)⟩
   |none=>⟨λ_ _ _ _=>none⟩
 |none=>⟨λ_ _ _ _=>none⟩
def OO(C:fj) (call:Call) (m:Nat):List (Nat×List V)->Hp->Option Hp
 |[],h=>some h
 |x::l,h=>oB ((LI C x.1).f call m x.2 h) λr=>OO C call m l r.2
def Ez(C:fj) (f:Nat):FF:=match P0.funcs[f]? with
 | some fn=>match fn.body with
   | some c=>⟨λcall m args h=>orB (C.K f args h) (λv=>bB (Su args&&v.flat) (some (v,h))) (bB (Nat.ble args.length fn.ntmps) (oB ((ig fn.ntmps c).f call m (C.start args) h) λr=>match r.1 with
     | .exit _=>none
     |_=>oB (OO C call m r.2.1.ds r.2.2) λh=>oB (z0 r.2.1 h fn.results.toList) λvs=>some (zy vs,h)))⟩
   |none=>⟨λ_ _ args h=>oB (Ui (C.ext f) args) λv=>some (v,h)⟩
 |none=>⟨λ_ _ _ _=>none⟩
def j9(C:fj) (m:Nat) (d:Nat):Call:=Nat.rec (motive:=λ_=>Call) (λ_ _ _=>none) (λ_ call f args h=>(Ez C f).f call m args h) d
end ops
theorem fk{α β:Type} {x:Option α} {k:α->Option β} {y:β}:oB x k=some y↔∃v,x=some v/\k v=some y:=by
 cases x with
 |none=>grind[oB]
 |some v=>exact⟨λh=>⟨v,rfl,h⟩,λ⟨_,h,h'⟩=>by grind[oB]⟩
theorem gG{β:Type} {c:Bool} {k:Option β} {y:β}:bB c k=some y↔c=true/\k=some y:=by
 cases c with
 |false=>grind[bB]
 |true=>exact⟨λh=>⟨rfl,h⟩,λ⟨_,h⟩=>h⟩
theorem qj{β:Type} {v:V} {k:Nat->Nat->Option β} {y:β}:rA v k=some y↔∃l o,v = .ptr l o/\k l o=some y:=by
 constructor
 ·intro h;unfold rA at h
  grind
 ·rintro⟨l,o,rfl,h⟩;exact h
theorem KF{β:Type} {v:V} {k:Nat->Option β} {y:β}:asNat v k=some y↔∃a n,v = .int a (.ofNat n)/\k n=some y:=by
 constructor
 ·intro h;unfold asNat at h;split at h
  ·grind
  ·cases h
 ·rintro⟨a,n,rfl,h⟩;exact h
theorem kI{β:Type} {h:Hp} {l:Nat} {k:Nat->Nat->Bool->Bool->List V->Option β} {y:β} :
  jW h l k=some y↔∃e sz live ro cs,h.get l=some (.cells e sz live ro cs)/\k e sz live ro cs=some y:=by
 grind[jW,fk]
theorem uy{β:Type} {h:Hp} {l:Nat} {k:List (V×V×Nat)->Nat->Option β} {y:β} :
  yd h l k=some y↔∃es c,h.get l=some (.map es c)/\k es c=some y:=by
 grind[yd,fk]
theorem PK{β:Type} {h:Hp} {l:Nat} {k:List (V×V×Nat)->Nat->Option β} {kb:IntKind->List Int->Option β} {y:β} :
  yq h l k kb=some y↔(∃es c,h.get l=some (.map es c)/\k es c=some y)\/∃b ks,h.get l=some (.OG b ks)/\kb b ks=some y:=by
 simp only[yq,fk];constructor
 ·rintro⟨o,d,a⟩
  cases o with
  |map es c=>exact .inl ⟨es,c,d,a⟩
  |OG b ks=>exact .inr ⟨b,ks,d,a⟩
  |_=>cases a
 ·rintro(⟨es,c,d,a⟩|⟨b,ks,d,a⟩) <;> exact⟨_,d,a⟩
theorem Vw{β:Type}(c:Bool)(x y:β):Bool.rec (motive:=λ_=>β) x y c=if c=true then y else x:=by cases c <;> rfl
theorem zaB{n:Nat} {cs l:List V} (h:takeN n cs=some l):l.length=n/\∀i,i<n->l[i]? =cs[i]?:=by
 induction n generalizing cs l with
 |zero=>simp[takeN]at h;simp_all
 | succ n a=>
   cases cs <;> grind[takeN,fk]
theorem sub_eq{cs l:List V} {off n:Nat} (h:sub cs off n=some l):l.length=n/\∀i,i<n->l[i]? =cs[off+i]?:=by
 grind[zaB,sub]
theorem Nn{cs:List V} {off:Nat} {v:V} (h:Jm cs off=some v):cs[off]? =some v:=by
 grind[Jm,List.head?_drop]
theorem zbP{new cs l:List V} (h:over new cs=some l):l.length=cs.length/\new.length<=cs.length/\∀i,l[i]? =if i<new.length then new[i]? else cs[i]?:=by
 induction new generalizing cs l with
 |nil=>simp[over]at h;simp_all
 | cons n ns a=>
   cases cs <;> grind[over,fk]
theorem Lb{k:Nat} {cs new l:List V} (h:qv k cs new=some l):l.length=cs.length/\k+new.length<=cs.length/\
  ∀i,l[i]? =if k<=i/\i<k+new.length then new[i-k]? else cs[i]?:=by
 induction k generalizing cs l with
 | zero=>
   grind[zbP,qv]
 | succ k a=>
   cases cs with
   |nil=>grind[qv]
   | cons c cs=>
     simp only[qv,fk]at h
     grind
theorem Ws{l:List V} (h:gz l=true):∀v∈l,v.one=true:=by
 induction l <;> grind[gz,Vw]
structure D where
 b:Nat
 base:Nat
 sz:Nat
 n:Nat
 XH:Nat
 ro:Bool
 kind:Nat
abbrev Env:=Nat->Option D
def Env.le(Δ a:Env):Prop:=∀l d,Δ l=some d->a l=some d
theorem Env.le_refl(Δ:Env):Δ.le Δ:=λ_ _ h=>h
theorem Env.le_trans{Δ b a:Env}(h:Δ.le b)(h':b.le a):Δ.le a:=λl d hl=>h' l d (h l d hl)
mutual
inductive fF (Δ:Env):V->Value->Prop
 |bool (b:Bool):fF Δ (.bool b) (.bool b)
 |int (k:IntKind) (n:Int):fF Δ (.int k n) (.int k n)
 |str (s:ByteArray):fF Δ (.str s.data.toList) (.string s)
 |nilPtr:fF Δ .nilPtr (.pointer none)
 |ptr (l off:Nat) (d:D) (h:Δ l=some d):fF Δ (.ptr l off) (.pointer (some ⟨d.b,d.base+off,none⟩))
 |ed:fF Δ .ed (.slice none 0 0)
 | slice (l off len cap o:Nat) (d:D) (h:Δ l=some d) (j:d.kind=0) (hl:len<=cap)
   (m:(o=d.base+off/\d.n<=off+cap*d.sz/\d.base+off+cap*d.sz<=d.XH)\/(cap=0/\d.n<=off)) :
   fF Δ (.slice l off len) (.slice (some ⟨d.b,o,none⟩) len cap)
 |wild (l off:Nat) (a:Addr) (d:D) (h:Δ l=some d) (j:d.kind=0) (p:d.ro=true) (q:d.n<=off):fF Δ (.slice l off 0) (.slice (some a) 0 0)
 |ke:fF Δ .ke (.map none)
 |map (l:Nat) (d:D) (h:Δ l=some d):fF Δ (.map l) (.map (some d.b))
 |nilFunc:fF Δ .nilFunc .nilFunc
 |func (f:Nat) (a c:List V) (i c':Array Value) (r:gB Δ a i.toList) (hc:gB Δ c c'.toList):fF Δ (.func f a c) (.func (.func f) i c')
 |nilIface:fF Δ .nilIface .nilIface
 |iface (t:Nat) (v:V) (e:Value) (h:fF Δ v e):fF Δ (.iface t v) (.iface t e)
 |agg (cs:List V) (oY:Array Value) (h:gB Δ cs oY.toList):fF Δ (.agg cs) (.agg oY)
 |tuple (cs:List V) (oY:Array Value) (h:gB Δ cs oY.toList):fF Δ (.tuple cs) (.tuple oY)
 |anyI (k:IntKind) (n:Int):fF Δ (.anyI k) (.int k n)
inductive gB (Δ:Env):List V->List Value->Prop
 |nil:gB Δ [] []
 |cons (v:V) (e:Value) (vs:List V) (g:List Value) (h:fF Δ v e) (hs:gB Δ vs g):gB Δ (v::vs) (e::g)
end
mutual
theorem fF.mono {Δ i:Env} (e:Δ.le i):∀{v:V} {g:Value},fF Δ v g->fF i v g
 |_,_,.bool b=> .bool b
 |_,_,.int k n=> .int k n
 |_,_,.str s=> .str s
 |_,_,.nilPtr=> .nilPtr
 |_,_,.ptr l off d h=> .ptr l off d (e _ _ h)
 |_,_,.ed=> .ed
 |_,_,.slice l off len cap o d h hk hl ho=> .slice l off len cap o d (e _ _ h) hk hl ho
 |_,_,.wild l off a d h hk hr hn=> .wild l off a d (e _ _ h) hk hr hn
 |_,_,.ke=> .ke
 |_,_,.map l d h=> .map l d (e _ _ h)
 |_,_,.nilFunc=> .nilFunc
 |_,_,.func f a c a' c' ha hc=> .func f a c a' c' (gB.mono e ha) (gB.mono e hc)
 |_,_,.nilIface=> .nilIface
 |_,_,.iface t v g h=> .iface t v g (fF.mono e h)
 |_,_,.agg cs oY h=> .agg cs oY (gB.mono e h)
 |_,_,.tuple cs oY h=> .tuple cs oY (gB.mono e h)
 |_,_,.anyI k n=> .anyI k n
theorem gB.mono {Δ i:Env} (e:Δ.le i):∀{v:List V} {g:List Value},gB Δ v g->gB i v g
 |_,_,.nil=> .nil
 |_,_,.cons v g vs vs' h hs=> .cons v g vs vs' (fF.mono e h) (gB.mono e hs)
end
theorem gB.length{Δ:Env} {vs:List V} {a:List Value} (h:gB Δ vs a):vs.length=a.length:=by
 induction vs generalizing a with
 |nil=>cases h;rfl
 |cons v vs b=>cases h <;> grind
theorem gB.get{Δ:Env} {vs:List V} {b:List Value} (h:gB Δ vs b) (i:Nat) (v:V) (hi:vs[i]? =some v):∃c,b[i]? =some c/\fF Δ v c:=by
 induction vs generalizing b i with
 |nil=>simp_all
 | cons a vs d=>
   cases h <;> grind
theorem gB.RJ{Δ:Env} {vs:List V} {b:List Value} (hl:vs.length=b.length) (h:∀(i:Nat) (v:V),vs[i]? =some v->∃c,b[i]? =some c/\fF Δ v c):gB Δ vs b:=by
 induction vs generalizing b with
 | nil=>cases b with
   |nil=>exact .nil
   |cons _ _=>simp_all
 | cons a vs e=>cases b with
   |nil=>simp_all
   | cons g b=>
     obtain⟨x,d,f⟩:=h 0 a rfl;simp at d;subst d;exact .cons _ _ _ _ f (e (by simp_all) λi v hi=>by simpa using h (i+1) v (by simp_all))
theorem gB.append{Δ:Env} {a b:List V} {c d:List Value} (h:gB Δ a c) (h':gB Δ b d):gB Δ (a++b) (c++d):=by
 induction a generalizing c with
 |nil=>cases h;exact h'
 |cons x a e=>cases h with|cons _ _ _ _ hx hs=>exact .cons _ _ _ _ hx (e hs)
theorem gB.one{Δ:Env}{v:V}{a:Value}(h:fF Δ v a):gB Δ [v] [a]:= .cons _ _ _ _ h .nil
theorem fF.undef(Δ:Env):fF Δ V.undef undef:= .tuple [] #[] .nil
theorem fF.cells{Δ:Env} {v:V} {e:Value} (h:fF Δ v e):gB Δ v.cells e.cells.toList:=by
 cases h with
 |agg cs oY h=>exact h
 |bool b=>exact .one (.bool b)
 |int k n=>exact .one (.int k n)
 |str s=>exact .one (.str s)
 |nilPtr=>exact .one .nilPtr
 |ptr l off d h=>exact .one (.ptr l off d h)
 |ed=>exact .one .ed
 |slice l off len cap o d h g hl i=>exact .one (.slice l off len cap o d h g hl i)
 |wild l off a d h g j m=>exact .one (.wild l off a d h g j m)
 |ke=>exact .one .ke
 |map l d h=>exact .one (.map l d h)
 |nilFunc=>exact .one .nilFunc
 |func f a c p c' q hc=>exact .one (.func f a c p c' q hc)
 |nilIface=>exact .one .nilIface
 |iface t v e h=>exact .one (.iface t v e h)
 |tuple cs oY h=>exact .one (.tuple cs oY h)
 |anyI k n=>exact .one (.anyI k n)
theorem fF.zgU{Δ:Env} {v:V} {a:Value} (h:fF Δ v a) (b:v.one=true):a.oneCell' = true:=by
 cases h <;> first|rfl|grind[V.one]
theorem gB.zeV{Δ:Env} {vs:List V} {a:List Value} (h:gB Δ vs a) (e:gz vs=true):∀x∈a,x.oneCell' = true:=by
 intro x b;obtain⟨i,hi,rfl⟩:=wBi.1 b;have c:i<vs.length:=by rw[h.length];exact hi
 obtain⟨x,b,d⟩:=h.get i vs[i] (by simp_all);rw[iz hi]at b;cases b;exact d.zgU (by grind[Ws,Dg])
mutual
theorem GO (Δ:Env):∀(n:Nat) (v:Value) (x:V),mn n v=some x->fF Δ x v
 |_,.bool b,x,h=>by simp[mn]at h;subst h;exact .bool b
 |_,.int k n,x,h=>by simp[mn]at h;subst h;exact .int k n
 |_,.string s,x,h=>by simp[mn]at h;subst h;exact .str s
 |_,.pointer none,x,h=>by simp[mn]at h;subst h;exact .nilPtr
 |_,.pointer (some _),x,h=>by grind[mn]
 |_,.slice none 0 0,x,h=>by simp[mn]at h;subst h;exact .ed
 |_,.slice none 0 (_+1),x,h=>by grind[mn]
 |_,.slice none (_+1) _,x,h=>by grind[mn]
 |_,.slice (some _) _ _,x,h=>by grind[mn]
 |_,.map none,x,h=>by simp[mn]at h;subst h;exact .ke
 |_,.map (some _),x,h=>by grind[mn]
 |_,.nilFunc,x,h=>by simp[mn]at h;subst h;exact .nilFunc
 |_,.nilIface,x,h=>by simp[mn]at h;subst h;exact .nilIface
 |0,.iface _ _,x,h=>by simp_all[mn]
 |0,.agg _,x,h=>by simp_all[mn]
 |0,.tuple _,x,h=>by simp_all[mn]
 | n+1,.iface t v,x,h=>by
   simp only[mn]at h;split at h
   ·rename_i y a;cases h;exact .iface t _ _ (GO Δ n v _ a)
   ·cases h
 | n+1,.agg cs,x,h=>by
   simp only[mn]at h;split at h
   ·rename_i y a;cases h;exact .agg _ _ (IE Δ n _ _ a)
   ·cases h
 | n+1,.tuple cs,x,h=>by
   simp only[mn]at h;split at h
   ·rename_i y a;cases h;exact .tuple _ _ (IE Δ n _ _ a)
   ·cases h
 |_,.float _ _,x,h=>by grind[mn]
 |_,.complex _ _ _,x,h=>by grind[mn]
 |_,.chan _,x,h=>by grind[mn]
 |_,.func _ _ _,x,h=>by grind[mn]
theorem IE (Δ:Env):∀(n:Nat) (v:List Value) (x:List V),v.mapM (mn n)=some x->gB Δ x v
 |_,[],x,h=>by simp at h;subst h;exact .nil
 | n,v::vs,x,h=>by
   simp only[List.mapM_cons,Option.bind_eq_bind,wBb,Option.pure_def,Option.some.injEq]at h;obtain⟨y,a,ys,c,rfl⟩:=h;exact .cons _ _ _ _ (GO Δ n v y a) (IE Δ n vs ys c)
end
@[match_pattern] abbrev _root_.Go.Proofs.YtcoaokdoecgcbaaGreatDoor.Hx.V.I (n:Int):Go.Proofs.YtcoaokdoecgcbaaGreatDoor.Hx.V:=.int .i64 n
