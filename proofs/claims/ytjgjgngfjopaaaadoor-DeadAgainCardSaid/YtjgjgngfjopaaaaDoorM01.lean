/- Parts. -/
import Derived.Test.YtjgjgngfjopaaaaDoorM00
import Derived.Calls
import Derived.Test.YtjgjgngfjopaaaaDoorChecked
import Derived.Orders
import Derived.Laws.CopyRow
namespace Go.Proofs.YtjgjgngfjopaaaaDoor.Hx
theorem py:type_of% @Result.andThen_ok:=@Result.andThen_ok
theorem qh:type_of% @Sem.run_bind:=@Sem.run_bind
theorem Gk:type_of% @Sem.run_pure:=@Sem.run_pure
inductive V where
 |bool (b:Bool)
 |int (k:IntKind) (n:Int)
 |str (s:List UInt8)
 |nilPtr
 |ptr (l off:Nat)
 |ee
 |slice (l off len:Nat)
 |lZ
 |map (l:Nat)
 |nilFunc
 |func (f:Nat) (first a:List V)
 |nilIface
 |iface (t:Nat) (v:V)
 |agg (cs:List V)
 |tuple (vs:List V)
 deriving Inhabited
def V.undef:V:= .tuple []
mutual
def V.beq:V->V->Bool
 | .bool a,.bool b=>a == b
 | .int j a,.int k b=>j == k&&a == b
 | .str a,.str b=>a == b
 | .nilPtr,.nilPtr=>true
 | .ptr l o,.ptr l' o'=>l == l'&&o == o'
 | .ee,.ee=>true
 | .slice l o n,.slice l' o' n'=>l == l'&&o == o'&&n == n'
 | .lZ,.lZ=>true
 | .map l,.map l'=>l == l'
 | .nilFunc,.nilFunc=>true
 | .func f a c,.func f' a' c'=>f == f'&&V.KH a a'&&V.KH c c'
 | .nilIface,.nilIface=>true
 | .iface t v,.iface t' v'=>t == t'&&V.beq v v'
 | .agg a,.agg b=>V.KH a b
 | .tuple a,.tuple b=>V.KH a b
 |_,_=>false
def V.KH:List V->List V->Bool
 |[],[]=>true
 |a::x,b::y=>V.beq a b&&V.KH x y
 |_,_=>false
end
mutual
theorem V.eq_of_beq:∀(a b:V),V.beq a b=true->a=b
 | .bool a,b,h=>by cases b <;> simp_all[V.beq]
 | .int j a,b,h=>by cases b <;> simp_all[V.beq]
 | .str a,b,h=>by cases b <;> simp_all[V.beq]
 | .nilPtr,b,h=>by cases b <;> simp_all[V.beq]
 | .ptr l o,b,h=>by cases b <;> simp_all[V.beq]
 | .ee,b,h=>by cases b <;> simp_all[V.beq]
 | .slice l o n,b,h=>by cases b <;> simp_all[V.beq]
 | .lZ,b,h=>by cases b <;> simp_all[V.beq]
 | .map l,b,h=>by cases b <;> simp_all[V.beq]
 | .nilFunc,b,h=>by cases b <;> simp_all[V.beq]
 | .func f a c,b,h=>by
   cases b <;> simp_all[V.beq]
   exact⟨V.xu _ _ h.1.2,V.xu _ _ h.2⟩
 | .nilIface,b,h=>by cases b <;> simp_all[V.beq]
 | .iface t v,b,h=>by
   cases b <;> simp_all[V.beq]
   exact V.eq_of_beq _ _ h.2
 | .agg a,b,h=>by
   cases b <;> simp_all[V.beq]
   exact V.xu _ _ h
 | .tuple a,b,h=>by
   cases b <;> simp_all[V.beq];exact V.xu _ _ h
theorem V.xu:∀(a b:List V),V.KH a b=true->a=b
 |[],b,h=>by cases b <;> simp_all[V.KH]
 | a::x,b,h=>by
   cases b <;> simp_all[V.KH];exact⟨V.eq_of_beq _ _ h.1,V.xu _ _ h.2⟩
end
mutual
theorem V.L6:∀(a:V),V.beq a a=true
 | .bool a=>by simp[V.beq]
 | .int j a=>by simp[V.beq]
 | .str a=>by simp[V.beq]
 | .nilPtr=>by simp[V.beq]
 | .ptr l o=>by simp[V.beq]
 | .ee=>by simp[V.beq]
 | .slice l o n=>by simp[V.beq]
 | .lZ=>by simp[V.beq]
 | .map l=>by simp[V.beq]
 | .nilFunc=>by simp[V.beq]
 | .func f a c=>by simp[V.beq,V.zx a,V.zx c]
 | .nilIface=>by simp[V.beq]
 | .iface t v=>by simp[V.beq,V.L6 v]
 | .agg a=>by simp[V.beq,V.zx a]
 | .tuple a=>by simp[V.beq,V.zx a]
theorem V.zx:∀(a:List V),V.KH a a=true
 |[]=>by simp[V.KH]
 |a::x=>by simp[V.KH,V.L6 a,V.zx x]
end
def V.cells:V->List V
 | .agg cs=>cs
 |v=>[v]
def V.one:V->Bool
 | .agg _| .tuple _=>false
 |_=>true
def mr:Nat->Value->Option V
 |_,.bool b=>some (.bool b)
 |_,.int k n=>some (.int k n)
 |_,.string s=>some (.str s.data.toList)
 |_,.pointer none=>some .nilPtr
 |_,.slice none 0 0=>some .ee
 |_,.map none=>some .lZ
 |_,.nilFunc=>some .nilFunc
 |_,.nilIface=>some .nilIface
 | n+1,.iface t v=>match mr n v with
   |some v=>some (.iface t v)
   |none=>none
 | n+1,.agg cs=>match cs.toList.mapM (mr n)with
   |some l=>some (.agg l)
   |none=>none
 | n+1,.tuple cs=>match cs.toList.mapM (mr n)with
   |some l=>some (.tuple l)
   |none=>none
 |_,_=>none
inductive To (α:Type) where
 |leaf
 |node (l:To α) (v:Option α) (r:To α)
noncomputable def To.get{α:Type} (t:To α):Nat->Option α:=To.rec (motive:=λ_=>Nat->Option α) (λ_=>none) (λ_ v _ gl gr n=>Bool.rec (motive:=λ_=>Option α) (Bool.rec (motive:=λ_=>Option α) (gr (Nat.sub (Nat.div n 2) 1)) (gl (Nat.div n 2)) (Nat.beq (Nat.mod n 2) 1)) v (Nat.beq n 0)) t
theorem To.nV{α:Type}(n:Nat):(To.leaf:To α).get n=none:=rfl
theorem To.mV{α:Type} (l:To α) (v:Option α) (r:To α) (n:Nat):(To.node l v r).get n =
  match Nat.beq n 0 with
  |true=>v
  | false=>match Nat.beq (n % 2) 1 with
    |true=>l.get (n / 2)
    |false=>r.get (n / 2-1):=by
 show Bool.rec (motive:=λ_=>Option α) (Bool.rec (motive:=λ_=>Option α) (r.get (n / 2-1)) (l.get (n / 2)) (Nat.beq (n % 2) 1)) v (Nat.beq n 0)=_;cases Nat.beq n 0 <;> cases Nat.beq (n % 2) 1 <;> rfl
def To.O6{α:Type}:Nat->To α->Nat->α->To α
 |0,t,_,_=>t
 | f + 1,.leaf,n,x=>
   match Nat.beq n 0 with
   |true=> .node .leaf (some x) .leaf
   | false=>match Nat.beq (n % 2) 1 with
     |true=> .node (To.O6 f .leaf (n / 2) x) none .leaf
     |false=> .node .leaf none (To.O6 f .leaf (n / 2-1) x)
 | f + 1,.node l v r,n,x=>
   match Nat.beq n 0 with
   |true=> .node l (some x) r
   | false=>match Nat.beq (n % 2) 1 with
     |true=> .node (To.O6 f l (n / 2) x) v r
     |false=> .node l v (To.O6 f r (n / 2-1) x)
noncomputable def To.set{α:Type} (t:To α):Nat->α->To α:=To.rec (motive:=λ_=>Nat->α->To α) (λn x=>Bool.rec (motive:=λ_=>To α) (To.O6 (Nat.succ n) .leaf n x) (.node .leaf (some x) .leaf) (Nat.beq n 0)) (λl v r a b n x=>Bool.rec (motive:=λ_=>To α) (Bool.rec (motive:=λ_=>To α) (.node l v (b (Nat.sub (Nat.div n 2) 1) x)) (.node (a (Nat.div n 2) x) v r) (Nat.beq (Nat.mod n 2) 1)) (.node l (some x) r) (Nat.beq n 0)) t
theorem To.QE{α:Type} (x:α):∀(f:Nat) (t:To α) (n m:Nat),n<f->(t.O6 f n x).get m=if n=m then some x else t.get m:=by
 intro f
 induction f with
 |zero=>intro t n m h;omega
 | succ f j =>
   intro t n m h
   cases t with
   | leaf =>
     unfold To.O6
     cases h0:Nat.beq n 0 with
     | true=>
       have e:n=0:=vK h0;subst e
       cases m with
       |zero=>simp[To.nV,To.mV]
       | succ m=>
         have c:Nat.beq (m+1) 0=false:=rfl;simp only[To.nV,To.mV,c]
         cases Nat.beq ((m+1) % 2) 1 <;> simp
     | false =>
       have i:n≠0:=λe=>by subst e;cases h0
       cases d:Nat.beq (n % 2) 1 with
       | true=>
         have c:n % 2=1:=vK d;simp only[To.nV,To.mV]
         cases b:Nat.beq m 0 with
         | true=>
           have e:m=0:=vK b
           simp[e,i]
         | false=>
           have k:m≠0:=λe=>by subst e;cases b
           cases a:Nat.beq (m % 2) 1 with
           | true=>
             have g:m % 2=1:=vK a;simp only[j .leaf (n / 2) (m / 2) (by omega),To.nV,To.mV];by_cases e:n=m
             ·simp[e]
             ·rw[if_neg e,if_neg (by omega)]
           | false=>
             have g:m % 2≠1:=λe=>by rw[e]at a;cases a
             rw[if_neg (by omega)]
       | false=>
         have c:n % 2≠1:=λe=>by rw[e]at d;cases d
         simp only[To.nV,To.mV]
         cases b:Nat.beq m 0 with
         | true=>
           have e:m=0:=vK b
           simp[e,i]
         | false=>
           have k:m≠0:=λe=>by subst e;cases b
           cases a:Nat.beq (m % 2) 1 with
           | true=>
             have g:m % 2=1:=vK a;simp only
             rw[if_neg (by omega)]
           | false=>
             have g:m % 2≠1:=λe=>by rw[e]at a;cases a
             simp only[j .leaf (n / 2-1) (m / 2-1) (by omega),To.nV,To.mV];by_cases e:n=m
             ·simp[e]
             ·rw[if_neg e,if_neg (by omega)]
   | node l v r=>
     unfold To.O6
     cases h0:Nat.beq n 0 with
     | true=>
       have e:n=0:=vK h0;subst e
       cases m with
       |zero=>simp[To.nV,To.mV]
       | succ m=>
         have c:Nat.beq (m+1) 0=false:=rfl;simp only[To.nV,To.mV,c]
         rw[if_neg (by omega)]
     | false =>
       have i:n≠0:=λe=>by subst e;cases h0
       cases d:Nat.beq (n % 2) 1 with
       | true=>
         have c:n % 2=1:=vK d;simp only[To.nV,To.mV]
         cases b:Nat.beq m 0 with
         | true=>
           have e:m=0:=vK b
           simp[e,i]
         | false=>
           have k:m≠0:=λe=>by subst e;cases b
           cases a:Nat.beq (m % 2) 1 with
           | true=>
             have g:m % 2=1:=vK a;simp only[j l (n / 2) (m / 2) (by omega)];by_cases e:n=m
             ·simp[e]
             ·rw[if_neg e,if_neg (by omega)]
           | false=>
             have g:m % 2≠1:=λe=>by rw[e]at a;cases a
             simp only
             rw[if_neg (by omega)]
       | false=>
         have c:n % 2≠1:=λe=>by rw[e]at d;cases d
         simp only[To.nV,To.mV]
         cases b:Nat.beq m 0 with
         | true=>
           have e:m=0:=vK b
           simp[e,i]
         | false=>
           have k:m≠0:=λe=>by subst e;cases b
           cases a:Nat.beq (m % 2) 1 with
           | true=>
             have g:m % 2=1:=vK a;simp only
             rw[if_neg (by omega)]
           | false=>
             have g:m % 2≠1:=λe=>by rw[e]at a;cases a
             simp only[j r (n / 2-1) (m / 2-1) (by omega)];by_cases e:n=m
             ·simp[e]
             ·rw[if_neg e,if_neg (by omega)]
theorem To.Ik{α:Type} (t:To α) (n m:Nat) (x:α):(t.set n x).get m=if n=m then some x else t.get m:=by
 induction t generalizing n m with
 | leaf=>
   show(Bool.rec (motive:=λ_=>To α) (To.O6 (Nat.succ n) .leaf n x) (.node .leaf (some x) .leaf) (Nat.beq n 0)).get m=_
   cases h0:Nat.beq n 0 with
   | true=>
     have e:n=0:=vK h0;subst e;have:=To.QE x 1 .leaf 0 m (by omega)
     exact this
   |false=>exact To.QE x (n+1) .leaf n m (by omega)
 | node l v r c d=>
   show(Bool.rec (motive:=λ_=>To α) (Bool.rec (motive:=λ_=>To α) (.node l v (r.set (n / 2-1) x)) (.node (l.set (n / 2) x) v r) (Nat.beq (n % 2) 1)) (.node l (some x) r) (Nat.beq n 0)).get m=_
   cases h0:Nat.beq n 0 with
   | true=>
     have e:n=0:=vK h0;subst e
     cases m with
     |zero=>simp[To.mV]
     | succ m=>
       have f:Nat.beq (m+1) 0=false:=rfl;simp only[To.mV,f]
       rw[if_neg (by omega)]
   | false =>
     have i:n≠0:=λe=>by subst e;cases h0
     cases g:Nat.beq (n % 2) 1 with
     | true=>
       have f:n % 2=1:=vK g;simp only[To.mV]
       cases b:Nat.beq m 0 with
       | true=>
         have e:m=0:=vK b
         simp[e,i]
       | false=>
         have j:m≠0:=λe=>by subst e;cases b
         cases a:Nat.beq (m % 2) 1 with
         | true=>
           have h:m % 2=1:=vK a;simp only[c];by_cases e:n=m
           ·simp[e]
           ·rw[if_neg e,if_neg (by omega)]
         | false=>
           have h:m % 2≠1:=λe=>by rw[e]at a;cases a
           simp only
           rw[if_neg (by omega)]
     | false=>
       have f:n % 2≠1:=λe=>by rw[e]at g;cases g
       simp only[To.mV]
       cases b:Nat.beq m 0 with
       | true=>
         have e:m=0:=vK b
         simp[e,i]
       | false=>
         have j:m≠0:=λe=>by subst e;cases b
         cases a:Nat.beq (m % 2) 1 with
         | true=>
           have h:m % 2=1:=vK a;simp only
           rw[if_neg (by omega)]
         | false=>
           have h:m % 2≠1:=λe=>by rw[e]at a;cases a
           simp only[d];by_cases e:n=m
           ·simp[e]
           ·rw[if_neg e,if_neg (by omega)]
structure Q4 (α:Type) where
 a:α
 b:α
 c:α
 d:α
def QT(α:Type)(n:Nat):Type:=Nat.rec (motive:=λ_=>Type) (To α) (λ_ a=>Q4 a) n
structure QG (α β:Type) where
 f:α->β
structure QU (α β:Type) where
 f:β->α->α
noncomputable def Vz{β:Type}(i:Nat)(w x y z:β):β:=Bool.rec (motive:=λ_=>β) (Bool.rec (motive:=λ_=>β) (Bool.rec (motive:=λ_=>β) z y (Nat.beq (Nat.mod i 4) 2)) x (Nat.beq (Nat.mod i 4) 1)) w (Nat.beq (Nat.mod i 4) 0)
theorem zaQ{β:Type}{i:Nat}(h:i % 4=0)(w x y z:β):Vz i w x y z=w:=by unfold Vz;rw[show Nat.mod i 4=0 from h];rfl
theorem za9{β:Type}{i:Nat}(h:i % 4=1)(w x y z:β):Vz i w x y z=x:=by unfold Vz;rw[show Nat.mod i 4=1 from h];rfl
theorem zaP{β:Type}{i:Nat}(h:i % 4=2)(w x y z:β):Vz i w x y z=y:=by unfold Vz;rw[show Nat.mod i 4=2 from h];rfl
theorem zbb{β:Type}{i:Nat}(h:i % 4=3)(w x y z:β):Vz i w x y z=z:=by unfold Vz;rw[show Nat.mod i 4=3 from h];rfl
noncomputable def qg(α:Type) (n:Nat):Nat->QG (QT α n) (Option α):=Nat.rec (motive:=λn=>Nat->QG (QT α n) (Option α)) (λi=>⟨λx=>To.get x i⟩) (λ_ e i=>Vz i ⟨λq=>Q4.rec (motive:=λ_=>Option α) (λa _ _ _=>(e (Nat.div i 4)).f a) q⟩ ⟨λq=>Q4.rec (motive:=λ_=>Option α) (λ_ b _ _=>(e (Nat.div i 4)).f b) q⟩ ⟨λq=>Q4.rec (motive:=λ_=>Option α) (λ_ _ c _=>(e (Nat.div i 4)).f c) q⟩ ⟨λq=>Q4.rec (motive:=λ_=>Option α) (λ_ _ _ d=>(e (Nat.div i 4)).f d) q⟩) n
noncomputable def qs(α:Type) (n:Nat):Nat->QU (QT α n) α:=Nat.rec (motive:=λn=>Nat->QU (QT α n) α) (λi=>⟨λv x=>To.set x i v⟩) (λn e i=>Vz i ⟨λv q=>Q4.rec (motive:=λ_=>Q4 (QT α n)) (λa b c d=>⟨(e (Nat.div i 4)).f v a,b,c,d⟩) q⟩ ⟨λv q=>Q4.rec (motive:=λ_=>Q4 (QT α n)) (λa b c d=>⟨a,(e (Nat.div i 4)).f v b,c,d⟩) q⟩ ⟨λv q=>Q4.rec (motive:=λ_=>Q4 (QT α n)) (λa b c d=>⟨a,b,(e (Nat.div i 4)).f v c,d⟩) q⟩ ⟨λv q=>Q4.rec (motive:=λ_=>Q4 (QT α n)) (λa b c d=>⟨a,b,c,(e (Nat.div i 4)).f v d⟩) q⟩) n
noncomputable def q0(α:Type)(n:Nat):QT α n:=Nat.rec (motive:=λn=>QT α n) (To.leaf:To α) (λ_ a=>(⟨a,a,a,a⟩:Q4 _)) n
theorem SW(α:Type) (n i:Nat):qg α (n+1) i=Vz i
   ⟨λq=>Q4.rec (motive:=λ_=>Option α) (λa _ _ _=>(qg α n (i / 4)).f a) q⟩
   ⟨λq=>Q4.rec (motive:=λ_=>Option α) (λ_ b _ _=>(qg α n (i / 4)).f b) q⟩
   ⟨λq=>Q4.rec (motive:=λ_=>Option α) (λ_ _ c _=>(qg α n (i / 4)).f c) q⟩
   ⟨λq=>Q4.rec (motive:=λ_=>Option α) (λ_ _ _ d=>(qg α n (i / 4)).f d) q⟩:=rfl
theorem Zc(α:Type) (n i:Nat):qs α (n+1) i=Vz i
   ⟨λv q=>Q4.rec (motive:=λ_=>Q4 (QT α n)) (λa b c d=>⟨(qs α n (i / 4)).f v a,b,c,d⟩) q⟩
   ⟨λv q=>Q4.rec (motive:=λ_=>Q4 (QT α n)) (λa b c d=>⟨a,(qs α n (i / 4)).f v b,c,d⟩) q⟩
   ⟨λv q=>Q4.rec (motive:=λ_=>Q4 (QT α n)) (λa b c d=>⟨a,b,(qs α n (i / 4)).f v c,d⟩) q⟩
   ⟨λv q=>Q4.rec (motive:=λ_=>Q4 (QT α n)) (λa b c d=>⟨a,b,c,(qs α n (i / 4)).f v d⟩) q⟩:=rfl
theorem PD(α:Type):∀(n i:Nat),(qg α n i).f (q0 α n)=none
 |0,i=>rfl
 | n+1,i=>by
   rw[SW];have h:i % 4=0\/i % 4=1\/i % 4=2\/i % 4=3:=by omega
   rcases h with h|h|h|h
   ·rw[zaQ h];exact PD α n (i / 4)
   ·rw[za9 h];exact PD α n (i / 4)
   ·rw[zaP h];exact PD α n (i / 4)
   ·rw[zbb h];exact PD α n (i / 4)
theorem zaq(α:Type) (v:α):∀(n i j:Nat) (q:QT α n),(qg α n j).f ((qs α n i).f v q)=if i=j then some v else(qg α n j).f q
 |0,i,j,q=>To.Ik q i j v
 | n + 1,i,j,q=>by
   obtain⟨a,b,c,d⟩:=(q:Q4 (QT α n))
   have hi:i % 4=0\/i % 4=1\/i % 4=2\/i % 4=3:=by omega
   have e:j % 4=0\/j % 4=1\/j % 4=2\/j % 4=3:=by omega
   have k:=λq=>zaq α v n (i / 4) (j / 4) q;rw[SW,Zc];rcases hi with hi|hi|hi|hi <;> rcases e with e|e|e|e
   all_goals first
     |rw[zaQ hi]|rw[za9 hi]|rw[zaP hi]|rw[zbb hi]
   all_goals first
     |rw[zaQ e]|rw[za9 e]|rw[zaP e]|rw[zbb e]
   all_goals first
     |(rw[if_neg (show ¬i=j by omega)];done)
     |(have g:∀q,(qg α n (j / 4)).f ((qs α n (i / 4)).f v q)=if i=j then some v else(qg α n (j / 4)).f q:=λq=>by
         rw[k q];by_cases h:i=j
         ·rw[if_pos h,if_pos (by omega)]
         ·rw[if_neg h,if_neg (by omega)]
       first
         |exact g a
         |exact g b
         |exact g c
         |exact g d)
def Tr(α:Type):Type:=QT α 4
noncomputable def Tr.leaf{α:Type}:Tr α:=q0 α 4
noncomputable def Tr.get{α:Type}(t:Tr α)(n:Nat):Option α:=(qg α 4 n).f t
noncomputable def Tr.set{α:Type}(t:Tr α)(n:Nat)(x:α):Tr α:=(qs α 4 n).f x t
theorem Tr.nV{α:Type}(n:Nat):(Tr.leaf:Tr α).get n=none:=PD α 4 n
theorem Tr.Ik{α:Type}(t:Tr α)(n m:Nat)(x:α):(t.set n x).get m=if n=m then some x else t.get m:=zaq α x 4 n m t
inductive O where
 |cells (e sz:Nat) (live ro:Bool) (cs:List V)
 |map (b:List (V×V×Nat)) (a:Nat)
 |iter (m:Option Nat) (since:Nat) (seen:List Nat) (last:Nat)
 deriving Inhabited
structure Hp where
 next:Nat
 tr:Tr O
noncomputable def Hp.get(h:Hp)(l:Nat):Option O:=Bool.rec (motive:=λ_=>Option O) none (h.tr.get l) (Nat.blt l h.next)
theorem Hp.get_eq(h:Hp) (l:Nat):h.get l=if l<h.next then h.tr.get l else none:=by
 show Bool.rec (motive:=λ_=>Option O) none (h.tr.get l) (Nat.blt l h.next)=_
 cases hb:Nat.blt l h.next with
 |true=>rw[if_pos (by rw[Ns]at hb;exact hb)]
 |false=>rw[if_neg (λe=>by rw[<-Ns]at e;rw[e]at hb;cases hb)]
theorem Hp.LR{h:Hp} {l:Nat} {o:O} (a:h.get l=some o):l<h.next:=by
 rw[Hp.get_eq]at a;split at a
 ·assumption
 ·cases a
noncomputable def Hp.put(h:Hp)(l:Nat)(o:O):Hp:={h with tr:=h.tr.set l o}
noncomputable def Hp.new(h:Hp)(o:O):Hp:={next:=h.next+1,tr:=h.tr.set h.next o}
noncomputable def PN:List V->Nat->Tr V->Tr V
 |[],_,t=>t
 |v::vs,i,t=>PN vs (i+1) (t.set i v)
inductive Tm where
 |tree (t:Tr V) (ds:List (Nat×List V))
 |fn (f:Nat->V) (ds:List (Nat×List V))
noncomputable def jL(t:Tm) (i:Nat):V:=Tm.rec (motive:=λ_=>V) (λt _=>Option.rec (motive:=λ_=>V) V.undef (λv=>v) (t.get i)) (λf _=>f i) t
noncomputable def fh(f:Nat->V)(d:Nat)(v:V):Nat->V:=λi=>Bool.rec (motive:=λ_=>V) (f i) v (Nat.beq i d)
noncomputable def Tm.set(t:Tm) (d:Nat) (v:V):Tm:=Tm.rec (motive:=λ_=>Tm) (λt ds=> .tree (t.set d v) ds) (λf ds=> .fn (fh f d v) ds) t
def Tm.ds:Tm->List (Nat×List V)
 | .tree _ ds=>ds
 | .fn _ ds=>ds
def Tm.push(x:Nat×List V):Tm->Tm
 | .tree t ds=> .tree t (x::ds)
 | .fn f ds=> .fn f (x::ds)
theorem Ms(t:Tm) (d i:Nat) (v:V):jL (t.set d v) i=if d=i then v else jL t i:=by
 cases t with
 | tree t ds=>
   show Option.rec (motive:=λ_=>V) V.undef (λv=>v) ((t.set d v).get i)=_;rw[Tr.Ik];by_cases h:d=i
   ·rw[if_pos h,if_pos h]
   ·rw[if_neg h,if_neg h];rfl
 | fn f ds=>
   show Bool.rec (motive:=λ_=>V) (f i) v (Nat.beq i d)=_
   cases hb:Nat.beq i d with
   |true=>rw[if_pos (vK hb).symm]
   |false=>rw[if_neg (λe=>by subst e;rw[QN]at hb;cases hb)];rfl
theorem Tm.VU(t:Tm)(d:Nat)(v:V):(t.set d v).ds=t.ds:=by cases t <;> rfl
theorem Tm.Ze(t:Tm)(x:Nat×List V):(t.push x).ds=x::t.ds:=by cases t <;> rfl
theorem Uj(t:Tm)(x:Nat×List V)(i:Nat):jL (t.push x) i=jL t i:=by cases t <;> rfl
noncomputable def SJ(args:List V):Tm:= .tree (PN args 0 .leaf) []
def fR(args:List V):Tm:= .fn (λi=>(args[i]?).getD .undef) []
noncomputable def P0:Program:=Tryd.prog
attribute [irreducible] P0
def zc5:List (Nat×Array Value):=[]
noncomputable section ops
def oB{α β:Type}(x:Option α)(k:α->Option β):Option β:=Option.rec (motive:=λ_=>Option β) none k x
def bB{β:Type}(c:Bool)(k:Option β):Option β:=Bool.rec (motive:=λ_=>Option β) none k c
def yY{β:Type} (v:V) (k:Nat->Nat->Option β):Option β:=match v with
 | .ptr l o=>k l o
 |_=>none
def asNat{β:Type} (v:V) (k:Nat->Option β):Option β:=match v with
 | .int _ (.ofNat n)=>k n
 |_=>none
def yq(t:Nat):Option Nat:=oB (P0.info? t) λi=>some i.size
def YD(t:Nat):Option Nat:=oB (P0.info? t) λi=>some i.bytes
def LJ(t:Nat):Option Bool:=match P0.underlying t with
 |some (.struct _)=>some true
 |some (.array _ _)=>some true
 |some _=>some false
 |none=>none
def zeroV(t:Nat):Option V:=oB (P0.info? t) λi=>oB i.zero λz=>mr 8 z
def takeN:Nat->List V->Option (List V)
 |0,_=>some []
 |_+1,[]=>none
 |n+1,v::vs=>oB (takeN n vs) λl=>some (v::l)
def sub(cs:List V)(off n:Nat):Option (List V):=takeN n (cs.drop off)
def HW(cs:List V)(off:Nat):Option V:=(cs.drop off).head?
def over:List V->List V->Option (List V)
 |[],cs=>some cs
 |_::_,[]=>none
 |n::ns,_::cs=>oB (over ns cs) λl=>some (n::l)
def p7:Nat->List V->List V->Option (List V)
 |0,cs,new=>over new cs
 |_+1,[],_=>none
 |k+1,c::cs,new=>oB (p7 k cs new) λl=>some (c::l)
def gv:List V->Bool
 |[]=>true
 |v::vs=>Bool.rec (motive:=λ_=>Bool) false (gv vs) v.one
def ke{β:Type} (h:Hp) (l:Nat) (k:Nat->Nat->Bool->Bool->List V->Option β):Option β:=oB (h.get l) λo=>match o with
 | .cells e sz live ro cs=>k e sz live ro cs
 |_=>none
def D2{β:Type} (h:Hp) (l:Nat) (k:List (V×V×Nat)->Nat->Option β):Option β:=oB (h.get l) λo=>match o with
 | .map a c=>k a c
 |_=>none
def Gx(h:Hp)(l off n:Nat):Option (List V):=ke h l λ_ _ live _ cs=>bB live (sub cs off n)
def ld1(h:Hp)(l off:Nat):Option V:=ke h l λ_ _ live _ cs=>bB live (HW cs off)
def Fl(h:Hp) (l off:Nat) (new:List V):Option Hp:=ke h l λe sz live ro cs=>bB live (bB (!ro) (bB (gv new) (oB (p7 off cs new) λnQ=>some (h.put l (.cells e sz true false nQ)))))
structure PF where
 f:Tm->Hp->Option V
structure NF where
 f:Tm->Option V
structure AF where
 f:Tm->Option (O×(Nat->V))
def MV:Operand->NF
 | .tmp i=>⟨λt=>some (jL t i)⟩
 | .const v=>match mr 8 v with
   |some v=>⟨λ_=>some v⟩
   |none=>⟨λ_=>none⟩
 | .global _=>⟨λ_=>none⟩
 | .func f=>⟨λ_=>some (.func f [] [])⟩
def sR(x:Operand):PF:=match x with
 | .global g=>match Nat.blt g P0.globals.size with
   |true=>⟨λ_ h=>oB (h.get g) λ_=>some (.ptr g 0)⟩
   |false=>⟨λ_ _=>none⟩
 |x=>⟨λt _=>(MV x).f t⟩
def Jb(t:Tm):List Operand->Option (List V)
 |[]=>some []
 |x::xs=>oB ((MV x).f t) λv=>oB (Jb t xs) λvs=>some (v::vs)
def tN(t:Tm):List (Nat×Operand)->Option (List (Nat×V))
 |[]=>some []
 |x::xs=>oB ((MV x.2).f t) λv=>oB (tN t xs) λvs=>some ((x.1,v)::vs)
def Kb(t:Nat) (a:PF):PF:=match LJ t with
 | some true=>match yq t with
   |some n=>⟨λt h=>oB (a.f t h) λa=>yY a λl off=>oB (Gx h l off n) λcs=>some (.agg cs)⟩
   |none=>⟨λ_ _=>none⟩
 |some false=>⟨λt h=>oB (a.f t h) λa=>yY a λl off=>ld1 h l off⟩
 |none=>⟨λ_ _=>none⟩
def placesOf:List Field->Option (List (Nat×Nat))
 |[]=>some []
 |f::fs=>oB (yq f.type) λn=>oB (placesOf fs) λl=>some ((f.offset,n)::l)
def B6(place:Nat->Option (Nat×Nat)):List V->List (Nat×V)->Option (List V)
 |cells,[]=>some cells
 |cells,x::rest=>oB (place x.1) λp=>bB (Nat.beq x.2.cells.length p.2) (oB (p7 p.1 cells x.2.cells) λcs=>B6 place cs rest)
def zZ:Nat->List V->List V
 |0,_=>[]
 |n+1,z=>z++zZ n z
def Hq(t:Nat) (parts:List (Nat×Operand)):PF:=match zeroV t with
 | some z=>match P0.underlying t with
   | some (.struct fields)=>match placesOf fields.toList with
     |some a=>⟨λt _=>oB (tN t parts) λps=>oB (B6 (λi=>a[i]?) z.cells ps) λcs=>some (.agg cs)⟩
     |none=>⟨λ_ _=>none⟩
   | some (.array _ elem)=>match yq elem with
     |some size=>⟨λt _=>oB (tN t parts) λps=>oB (B6 (λi=>some (Nat.mul i size,size)) z.cells ps) λcs=>some (.agg cs)⟩
     |none=>⟨λ_ _=>none⟩
   |_=>⟨λ_ _=>none⟩
 |none=>⟨λ_ _=>none⟩
def lM(k:IntKind) (n:Int):Int:=match n with
 | .ofNat m=>match Nat.blt m (match k with| .i8=>128| .u8=>256| .i16=>32768| .u16=>65536| .i32=>2147483648| .u32=>4294967296| .i64=>9223372036854775808| .u64=>18446744073709551616)with
   |true=> .ofNat m
   |false=>k.wrap (.ofNat m)
 | .negSucc m=>k.wrap (.negSucc m)
def hint(op:BinOp) (k:IntKind) (x y:Int):Option V:=match op with
 | .add=>some (.int k (lM k (x+y)))
 | .sub=>some (.int k (lM k (x-y)))
 | .mul=>some (.int k (lM k (x*y)))
 | .quo=>match x,y with
   |_,.ofNat 0=>none
   |x,y=>some (.int k (lM k (x.tdiv y)))
 | .rem=>match x,y with
   |_,.ofNat 0=>none
   |x,y=>some (.int k (x.tmod y))
 | .and=>some (.int k (k.wrap ((BitVec.ofInt k.bits x&&&BitVec.ofInt k.bits y).toNat)))
 | .or=>some (.int k (k.wrap ((BitVec.ofInt k.bits x |||BitVec.ofInt k.bits y).toNat)))
 | .xor=>some (.int k (k.wrap ((BitVec.ofInt k.bits x ^^^ BitVec.ofInt k.bits y).toNat)))
 | .andNot=>some (.int k (k.wrap ((BitVec.ofInt k.bits x&&&~~~ BitVec.ofInt k.bits y).toNat)))
 | .eql=>some (.bool (x == y))
 | .neq=>some (.bool (x != y))
 | .lss=>some (.bool (x<y))
 | .leq=>some (.bool (x<=y))
 | .gtr=>some (.bool (x>y))
 | .geq=>some (.bool (x>=y))
 |_=>none
def SI(op:BinOp) (k:IntKind) (x y:Int):Option V:=match y with
 | .negSucc _=>none
 | .ofNat m=>match op with
   | .shl=>some (.int k (k.wrap (x*2 ^ (min m k.bits))))
   | .shr=>some (.int k (x.fdiv (2 ^ (min m k.bits))))
   |_=>none
def zbw(op:BinOp) (x y:List UInt8):Option V:=match op with
 | .add=>match Nat.ble (x.length+y.length) 4611686018427387904 with
   |true=>some (.str (x++y))
   |false=>none
 | .eql=>some (.bool (x == y))
 | .neq=>some (.bool (!(x == y)))
 | .lss=>some (.bool (Op.bytesLess x y))
 | .leq=>some (.bool (Op.bytesLess x y ||x == y))
 | .gtr=>some (.bool (!(Op.bytesLess x y ||x == y)))
 | .geq=>some (.bool (!(Op.bytesLess x y)))
 |_=>none
def XT(d:TypeDesc) (x y:V):Option Bool:=match d,x,y with
 | .bool,.bool a,.bool b=>some (a == b)
 | .pointer _,.nilPtr,.nilPtr=>some true
 | .pointer _,.nilPtr,.ptr _ _=>some false
 | .pointer _,.ptr _ _,.nilPtr=>some false
 | .slice _,.ee,.ee=>some true
 | .slice _,.ee,.slice _ _ _=>some false
 | .slice _,.slice _ _ _,.ee=>some false
 | .map _ _,.lZ,.lZ=>some true
 | .map _ _,.lZ,.map _=>some false
 | .map _ _,.map _,.lZ=>some false
 | .func _ _ _,.nilFunc,.nilFunc=>some true
 | .func _ _ _,.nilFunc,.func _ _ _=>some false
 | .func _ _ _,.func _ _ _,.nilFunc=>some false
 | .interface ms,.nilIface,.nilIface=>bB ms.isEmpty (some true)
 | .interface _,.nilIface,.iface _ _=>some false
 | .interface _,.iface _ _,.nilIface=>some false
 |_,_,_=>none
def Pb:IntKind->IntKind->Bool
 | .i8,.i8| .i16,.i16| .i32,.i32| .i64,.i64| .u8,.u8| .u16,.u16| .u32,.u32| .u64,.u64=>true
 |_,_=>false
def W4(t:Nat) (x y:V):Option Bool:=match P0.underlying t with
 |some d=>XT d x y
 |none=>none
def eq1(d:Option TypeDesc) (x y:V):Option Bool:=match d,x,y with
 |some .bool,.bool a,.bool b=>some (a == b)
 |some (.int _),.int k a,.int k' b=>bB (Pb k k') (some (a == b))
 |some .string,.str a,.str b=>some (a == b)
 |_,_,_=>none
def Je:List Field->List V->List V->Option Bool
 |[],_,_=>some true
 |f::fs,xs,ys=>bB (!(f.name == "_")) (oB (HW xs f.offset) λx=>oB (HW ys f.offset) λy=>oB (eq1 (P0.underlying f.type) x y) λb=>Bool.rec (motive:=λ_=>Option Bool) (some false) (Je fs xs ys) b)
def VB(t:Nat) (xs ys:List V):Option Bool:=match P0.underlying t with
 |some (.struct fs)=>bB (!(P0.stoodInHeld t)) (bB (!(P0.eqGuardType P0.depth t)) (Je fs.toList xs ys))
 |_=>none
def zaJ(t:Nat) (x y:V):Option Bool:=match x,y with
 | .agg xs,.agg ys=>VB t xs ys
 |_,_=>W4 t x y
def Ul(t:Nat)(a:Bool)(x y:V):Option V:=oB (zaJ t x y) λb=>some (.bool (Bool.rec (motive:=λ_=>Bool) b (!b) a))
def Tl:BinOp->Bool
 | .shl| .shr=>true
 |_=>false
def eo(op:BinOp) (t:Nat) (x y:V):Option V:=match x,y with
 | .int k a,.int k' b=>match Tl op with
   |true=>SI op k a b
   |false=>bB (Pb k k') (hint op k a b)
 | .str a,.str b=>zbw op a b
 | x,y=>match op with
   | .eql=>Ul t false x y
   | .neq=>Ul t true x y
   |_=>none
def qz(op:UnOp) (x:V):Option V:=match op,x with
 | .neg,.int k n=>some (.int k (lM k (Int.sub 0 n)))
 | .not,.bool b=>some (.bool !b)
 | .xor,.int k n=>hint .xor k (if k.signed then -1 else k.max) n
 |_,_=>none
def byteOf:V->Option UInt8
 | .int .u8 (.ofNat m)=>bB (Nat.blt m 256) (some (UInt8.ofNat m))
 |_=>none
def bytesOf:List V->Option (List UInt8)
 |[]=>some []
 |v::vs=>oB (byteOf v) λb=>oB (bytesOf vs) λl=>some (b::l)
def KB(src dst:Nat) (x:PF):PF:=match P0.underlying src,P0.underlying dst with
 | some (.int _),some (.int k)=>⟨λt h=>oB (x.f t h) λx=>match x with
   | .int _ n=>some (.int k (lM k n))
   |_=>none⟩
 | some .string,some .string=>⟨λt h=>oB (x.f t h) λx=>match x with
   | .str s=>some (.str s)
   |_=>none⟩
 | some (.slice e),some .string=>match P0.underlying e with
   | some (.int .u8)=>⟨λt h=>oB (x.f t h) λx=>match x with
     | .ee=>some (.str [])
     | .slice l off n=>oB (Gx h l off n) λcs=>oB (bytesOf cs) λs=>some (.str s)
     |_=>none⟩
   |_=>⟨λ_ _=>none⟩
 |_,_=>⟨λ_ _=>none⟩
def QC(t:Nat):List V->Nat->Option V:=match LJ t with
 | some true=>match yq t with
   |some n=>λcs off=>oB (sub cs off n) λl=>some (.agg l)
   |none=>λ_ _=>none
 |some false=>λcs off=>HW cs off
 |none=>λ_ _=>none
def KU(s f:Nat):Option Field:=match P0.underlying s with
 |some (.struct fields)=>fields.toList[f]?
 |_=>none
def nw(s:Nat) (x:PF) (f:Nat):PF:=match KU s f with
 | some a=>match yq a.type with
   |some (_+1)=>⟨λt h=>oB (x.f t h) λx=>yY x λl off=>some (.ptr l (Nat.add off a.offset))⟩
   |_=>⟨λ_ _=>none⟩
 |none=>⟨λ_ _=>none⟩
def Ia(s:Nat) (x:PF) (f:Nat):PF:=match KU s f with
 | some a=>⟨λt h=>oB (x.f t h) λx=>match x with
   | .agg cs=>QC a.type cs a.offset
   |_=>none⟩
 |none=>⟨λ_ _=>none⟩
def nj(t:Nat) (x i:PF):PF:=match P0.underlying t with
 | some (.slice elem)=>match yq elem with
   | some n=>⟨λt h=>oB (x.f t h) λx=>oB (i.f t h) λi=>asNat i λi=>match x with
     | .slice l off len=>bB (Nat.blt i len) (some (.ptr l (Nat.add off (Nat.mul i n))))
     |_=>none⟩
   |none=>⟨λ_ _=>none⟩
 | some (.array len elem)=>match yq elem with
   |some n=>⟨λt h=>oB (x.f t h) λx=>oB (i.f t h) λi=>asNat i λi=>yY x λl off=>bB (Nat.blt i len) (some (.ptr l (Nat.add off (Nat.mul i n))))⟩
   |none=>⟨λ_ _=>none⟩
 |_=>⟨λ_ _=>none⟩
def HX(t:Nat) (x i:PF):PF:=match P0.underlying t with
 | some (.array len elem)=>match yq elem with
   | some n=>⟨λt h=>oB (x.f t h) λx=>oB (i.f t h) λi=>asNat i λi=>match x with
     | .agg cs=>bB (Nat.blt i len) (QC elem cs (Nat.mul i n))
     |_=>none⟩
   |none=>⟨λ_ _=>none⟩
 | some .string=>⟨λt h=>oB (x.f t h) λx=>oB (i.f t h) λi=>asNat i λi=>match x with
   | .str s=>oB ((s.drop i).head?) λb=>some (.int .u8 (.ofNat b.toNat))
   |_=>none⟩
 |_=>⟨λ_ _=>none⟩
def hbound(d:Nat):Option V->Option Nat
 |none=>some d
 |some (.int _ (.ofNat n))=>some n
 |some _=>none
def jh(size:Nat) (x:V) (lo hi:Option V) (h:Hp):Option V:=match x with
 | .slice lc off len=>ke h lc λ_ sz _ _ cs=>bB (Nat.beq size sz) (oB (hbound 0 lo) λl=>oB (hbound len hi) λu=>
   bB (Nat.ble l u) (bB (Nat.ble u len ||Nat.ble (Nat.add off (Nat.mul u size)) cs.length) (some (.slice lc (Nat.add off (Nat.mul l size)) (Nat.sub u l)))))
 | .ee=>oB (hbound 0 lo) λl=>oB (hbound 0 hi) λu=>bB (Nat.beq l 0) (bB (Nat.beq u 0) (some .ee))
 |_=>none
def Oy(x:V) (lo hi:Option V):Option V:=match x with
 | .str s=>oB (hbound 0 lo) λl=>oB (hbound s.length hi) λu=>bB (Nat.ble l u) (bB (Nat.ble u s.length) (some (.str ((s.drop l).take (Nat.sub u l)))))
 |_=>none
def Ip(x:Option Operand) (t:Tm) (h:Hp):Option (Option V):=match x with
 |none=>some none
 |some x=>oB ((sR x).f t h) λv=>some (some v)
def JL(t:Nat) (x:PF) (lo hi:Option Operand):PF:=match P0.underlying t with
 |some .string=>⟨λt h=>oB (x.f t h) λx=>oB (Ip lo t h) λl=>oB (Ip hi t h) λu=>Oy x l u⟩
 | some (.slice elem)=>match yq elem with
   |some (n+1)=>⟨λt h=>oB (x.f t h) λx=>oB (Ip lo t h) λl=>oB (Ip hi t h) λu=>jh (Nat.succ n) x l u h⟩
   |_=>⟨λ_ _=>none⟩
 |_=>⟨λ_ _=>none⟩
def Jc:V->Bool
 | .int _ _| .str _| .bool _=>true
 |_=>false
def JE:V->Bool
 | .agg cs=>cs.all Jc
 |v=>Jc v
def Jr(t:Nat) (a b:V):Option Bool:=match P0.underlying t with
 | some (.int _)=>match a,b with
   | .int k a,.int k' b=>bB (Pb k k') (some (a == b))
   |_,_=>none
 | some .string=>match a,b with
   | .str a,.str b=>some (a == b)
   |_,_=>none
 | some .bool=>match a,b with
   | .bool a,.bool b=>some (a == b)
   |_,_=>none
 |_=>none
def DZ(t:Nat):Bool:=match P0.underlying t with
 |some (.int _)|some .string|some .bool=>true
 |_=>false
def PM:List Field->List V->List V->Option Bool
 |[],_,_=>some true
 |f::fs,x,y=>oB (HW x f.offset) λa=>oB (HW y f.offset) λb=>oB (Jr f.type a b) λe=>Bool.rec (motive:=λ_=>Option Bool) (some false) (PM fs x y) e
def Jf(t:Nat):Option (Option (List Field)):=match P0.underlying t with
 |some (.int _)|some .string|some .bool=>some none
 | some (.struct fs)=>match !P0.stoodInHeld t&&fs.toList.all (λf=>DZ f.type&&f.name != "_")with
   |true=>some (some fs.toList)
   |false=>none
 |_=>none
def P9(t:Nat) (d:Option (List Field)) (a b:V):Option Bool:=match d with
 |none=>Jr t a b
 | some fs=>match a,b with
   | .agg x,.agg y=>PM fs x y
   |_,_=>none
def JG(d:Option (List Field)) (k:V):Bool:=match d with
 |none=>true
 | some fs=>match k with
   | .agg x=>fs.all λf=>(HW x f.offset).isSome
   |_=>false
def vO(t:Nat) (d:Option (List Field)) (k:V):List (V×V×Nat)->Nat->Option (Option (Nat×V))
 |[],_=>some none
 |e::es,i=>oB (P9 t d k e.1) λb=>Bool.rec (motive:=λ_=>Option (Option (Nat×V))) (vO t d k es (Nat.succ i)) (some (some (i,e.2.1))) b
def found(z:V) (ok:Bool) (r:Option (Nat×V)):V:=match r,ok with
 |some (_,v),true=> .tuple [v,.bool true]
 |some (_,v),false=>v
 |none,true=> .tuple [z,.bool false]
 |none,false=>z
def FL(a:Nat) (m k:PF) (ok:Bool):PF:=match P0.underlying a with
 | some (.map kt et)=>match Jf kt,zeroV et with
   |some d,some z=>⟨λt h=>oB (m.f t h) λm=>oB (k.f t h) λk=>bB (JG d k) (match m with
      | .lZ=>some (found z ok none)
      | .map l=>D2 h l λb _=>oB (vO kt d k b 0) λr=>some (found z ok r)
      |_=>none)⟩
   |_,_=>⟨λ_ _=>none⟩
 |_=>⟨λ_ _=>none⟩
def hlen(t:Nat) (x:PF):PF:=match P0.underlying t with
 | some .string=>⟨λt h=>oB (x.f t h) λx=>match x with
   | .str s=>some (.int .i64 (.ofNat s.length))
   |_=>none⟩
 | some (.slice _)=>⟨λt h=>oB (x.f t h) λx=>match x with
   | .slice _ _ n=>some (.int .i64 (.ofNat n))
   | .ee=>some (.int .i64 (.ofNat 0))
   |_=>none⟩
 |some (.array n _)=>⟨λt h=>oB (x.f t h) λ_=>some (.int .i64 (.ofNat n))⟩
 | some (.map _ _)=>⟨λt h=>oB (x.f t h) λx=>match x with
   | .lZ=>some (.int .i64 (.ofNat 0))
   | .map l=>D2 h l λa _=>some (.int .i64 (.ofNat a.length))
   |_=>none⟩
 |_=>⟨λ_ _=>none⟩
def Pr(c:Bool):V->List V->Option V
 |x,[]=>some x
 | .int k a,.int _ b::r=>Pr c (.int k (if c then(if b>a then b else a) else(if b<a then b else a))) r
 |_,_=>none
def isIface(t:Nat):Option Bool:=match P0.underlying t with
 |some (.interface _)=>some true
 |some _=>some false
 |none=>none
def Gg(x:PF) (a:Nat) (ok:Bool):PF:=match isIface a,zeroV a with
 | some false,some z=>⟨λt h=>oB (x.f t h) λx=>match x,ok with
   | .iface t v,true=>some (Bool.rec (motive:=λ_=>V) (.tuple [z,.bool false]) (.tuple [v,.bool true]) (Nat.beq t a))
   | .iface t v,false=>bB (Nat.beq t a) (some v)
   | .nilIface,true=>some (.tuple [z,.bool false])
   |_,_=>none⟩
 |_,_=>⟨λ_ _=>none⟩
def Kv(c a b:PF):PF:=⟨λt h=>oB (c.f t h) λc=>match c with
 | .bool x=>Bool.rec (motive:=λ_=>Option V) (b.f t h) (a.f t h) x
 |_=>none⟩
def uh(x:PF):PF:=⟨λt h=>oB (x.f t h) λx=>match x with
 | .ptr l off=>some (.ptr l off)
 | .func f a c=>some (.func f a c)
 | .iface u v=>some (.iface u v)
 |_=>none⟩
def EG(x:PF) (i:Nat):PF:=⟨λt h=>oB (x.f t h) λx=>match x with
 | .tuple vs=>HW vs i
 |_=>none⟩
def Za:PF:=⟨λ_ _=>none⟩
def iK(o:Oper):PF:=match o.op with
 | .move x=>sR x
 | .assign x=>sR x
 | .pick c a b=>Kv (sR c) (sR a) (sR b)
 | .load ty a=>Kb ty (sR a)
 | .nilCheck x=>uh (sR x)
 | .binOp op e x y _=>⟨λt h=>oB ((sR x).f t h) λa=>oB ((sR y).f t h) λb=>eo op e a b⟩
 | .unOp op _ x=>⟨λt h=>oB ((sR x).f t h) λa=>qz op a⟩
 | .convert src dst x=>KB src dst (sR x)
 | .build ty parts=>Hq ty parts.toList
 | .makeFunc (.func f) first caps=>⟨λt _=>oB (Jb t first.toList) λa=>oB (Jb t caps.toList) λc=>some (.func f a c)⟩
 | .slice ty x lo hi none=>JL ty (sR x) lo hi
 | .fieldAddr s x f=>nw s (sR x) f
 | .field s x f=>Ia s (sR x) f
 | .indexAddr ty x i=>nj ty (sR x) (sR i)
 | .index ty x i=>HX ty (sR x) (sR i)
 | .lookup ty m k ok=>FL ty (sR m) (sR k) ok
 | .extract x i=>EG (sR x) i
 | .makeInterface ty x=>match isIface ty with
   |some false=>⟨λt h=>oB ((sR x).f t h) λv=>some (.iface ty v)⟩
   |_=>Za
 | .typeAssert x _ d ok=>Gg (sR x) d ok
 | .call c=>match c.callee with
   | .builtin .len=>match c.args.toList,c.argTypes.toList with
     |[x],ty::_=>hlen ty (sR x)
     |_,_=>Za
   | .builtin .min=>⟨λt _=>oB (Jb t c.args.toList) λl=>match l with
     |x::r=>Pr false x r
     |[]=>none⟩
   | .builtin .max=>⟨λt _=>oB (Jb t c.args.toList) λl=>match l with
     |x::r=>Pr true x r
     |[]=>none⟩
   |_=>Za
 |_=>Za
def m0(e:Nat)(v:V):Option (O×(Nat->V)):=bB (gv v.cells) (some (.cells e 1 true false v.cells,λl=> .ptr l 0))
def Fe(a size len:Nat) (z:V) (parts:List (Nat×Operand)) (t:Tm):Option (O×(Nat->V)):=oB (tN t parts) λps=>oB (B6 (λi=>some (Nat.mul i size,size)) (zZ len z.cells) ps) λcs=>bB (gv cs) (some (.cells a size true false cs,λl=> .slice l 0 len))
def ig(a size jM:Nat) (z:V) (n c:V):Option (O×(Nat->V)):=match n,c with
 | .int .i64 (.ofNat n),.int .i64 (.ofNat c)=>bB (Nat.ble n c) (bB (Nat.ble (Nat.mul c jM) 281474976710656) (bB (Nat.ble c 1099511627776)
   (some (.cells a size true false (zZ c z.cells),λl=> .slice l 0 n))))
 |_,_=>none
def elemOf(a:Nat):Option (Nat×Nat×V):=oB (yq a) λsize=>oB (YD a) λjM=>oB (zeroV a) λz=>bB (Nat.blt 0 size) (bB (Nat.beq z.cells.length size) (bB (gv z.cells) (some (size,jM,z))))
def Gi(t:Nat):Option Nat:=match P0.underlying t with
 |some (.slice e)=>some e
 |_=>none
def QM:AF:=⟨λ_=>none⟩
def qf(o:Oper):AF:=match o.op with
 | .alloc e=>match zeroV e with
   |some z=>⟨λ_=>m0 e z⟩
   |none=>QM
 | .box e x=>⟨λt=>oB ((MV x).f t) λv=>m0 e v⟩
 | .buildSlice ty len parts=>match Gi ty with
   | some a=>match elemOf a with
     | some (size,_,z)=>match Nat.ble (Nat.mul len size) 16777216 with
       |true=>⟨λt=>Fe a size len z parts.toList t⟩
       |false=>QM
     |none=>QM
   |none=>QM
 | .makeSlice ty n c=>match Gi ty with
   | some a=>match elemOf a with
     |some (size,jM,z)=>⟨λt=>oB ((MV n).f t) λn=>oB ((MV c).f t) λc=>ig a size jM z n c⟩
     |none=>QM
   |none=>QM
 | .makeMap ty none=>match P0.underlying ty with
   |some (.map _ _)=>⟨λ_=>some (.map [] 0,λl=> .map l)⟩
   |_=>QM
 |_=>QM
inductive R where
 |val (v:V) (h:Hp)
 |call (f:Nat) (args:List V)
structure WF where
 f:Tm->Hp->Option R
def xC(s:List UInt8):List V:=s.map λb=> .int .u8 (.ofNat b.toNat)
def lC(h:Hp) (size:Nat):V->Option (Nat×List V)
 | .ee=>some (0,[])
 | .slice _ _ 0=>some (0,[])
 | .slice l off (n+1)=>oB (Gx h l off (Nat.mul (Nat.succ n) size)) λcs=>some (Nat.succ n,cs)
 | .str s=>bB (Nat.beq size 1) (some (s.length,xC s))
 |_=>none
def fe(a size jM:Nat) (s x:V) (h:Hp):Option R:=oB (lC h size x) λnx=>
 Bool.rec (motive:=λ_=>Option R)
   (bB (gv nx.2) (match s with
     | .ee=>bB (Nat.ble (Nat.mul nx.1 jM) 70368744177664) (bB (Nat.ble nx.1 70368744177664)
         (some (.val (.slice h.next 0 nx.1) (h.new (.cells a size true false nx.2)))))
     | .slice l off len=>ke h l λe sz live ro cs=>bB live (bB (!ro) (bB (Nat.beq sz size)
         (Bool.rec (motive:=λ_=>Option R)
           (oB (sub cs off (Nat.mul len size)) λxB=>bB (gv xB) (bB (Nat.ble (Nat.mul (Nat.add len nx.1) jM) 70368744177664) (bB (Nat.ble (Nat.add len nx.1) 70368744177664)
             (some (.val (.slice h.next 0 (Nat.add len nx.1)) ((h.put l (.cells e sz false false cs)).new (.cells a size true false (xB++nx.2))))))))
           (oB (p7 (Nat.add off (Nat.mul len size)) cs nx.2) λnQ=>some (.val (.slice l off (Nat.add len nx.1)) (h.put l (.cells e sz true false nQ))))
           (Nat.ble (Nat.add off (Nat.mul (Nat.add len nx.1) size)) cs.length))))
     |_=>none))
   (match s with
     | .ee=>some (.val .ee h)
     | .slice l off len=>some (.val (.slice l off len) h)
     |_=>none)
   (Nat.beq nx.1 0)
def VL(size:Nat) (d s:V) (h:Hp):Option R:=match d with
 | .ee=>match s with
   | .ee| .slice _ _ _| .str _=>some (.val (.int .i64 (.ofNat 0)) h)
   |_=>none
 | .slice l off len=>match s with
   | .ee=>some (.val (.int .i64 (.ofNat 0)) h)
   | .slice c a Ej=>Bool.rec (motive:=λ_=>Option R)
       (oB (Gx h c a (Nat.mul (min Ej len) size)) λcs=>oB (Fl h l off cs) λh=>some (.val (.int .i64 (.ofNat (min Ej len))) h))
       (some (.val (.int .i64 (.ofNat 0)) h)) (Nat.beq (min Ej len) 0)
   | .str b=>bB (Nat.beq size 1) (Bool.rec (motive:=λ_=>Option R)
       (oB (Fl h l off (xC (b.take (min b.length len)))) λh=>some (.val (.int .i64 (.ofNat (min b.length len))) h))
       (some (.val (.int .i64 (.ofNat 0)) h)) (Nat.beq (min b.length len) 0))
   |_=>none
 |_=>none
def Oi(t:Nat) (d:Option (List Field)) (b:List (V×V×Nat)) (a:Nat) (k v:V):Option O:=oB (vO t d k b 0) λr=>match r with
 |some (i,_)=>oB b[i]? λe=>bB (V.beq e.1 k) (bB (JE k) (some (.map (b.set i (k,v,e.2.2)) a)))
 |none=>some (.map (b++[(k,v,a)]) (Nat.succ a))
def Nf(t:Nat) (d:Option (List Field)) (m k v:V) (h:Hp):Option R:=bB (JG d k) (match m with
 | .map l=>D2 h l λa c=>oB (Oi t d a c k v) λo=>some (.val .undef (h.put l o))
 |_=>none)
def OV(t:Nat) (d:Option (List Field)) (m k:V) (h:Hp):Option R:=bB (JG d k) (match m with
 | .lZ=>some (.val (.tuple []) h)
 | .map l=>D2 h l λa c=>oB (vO t d k a 0) λr=>match r with
   |some (i,_)=>some (.val (.tuple []) (h.put l (.map (a.eraseIdx i) c)))
   |none=>some (.val (.tuple []) h)
 |_=>none)
def W7(x:V) (h:Hp):Option R:=match x with
 | .slice l off n=>ke h l λe sz live ro cs=>bB live (bB (!ro) (some (.val (.slice l off n) (h.put l (.cells e sz true false cs)))))
 |_=>none
def gh(f:V) (args:List V):Option R:=match f with
 | .func f first a=>some (.call f (first++(args++a)))
 |_=>none
def methodOf(t:Nat) (a:String):Option (Nat×Option Nat):=oB (P0.info? t) λi=>match i.methods.toList.find? (λm=>m.name == a)with
 | some m=>match m.path.toList,m.func,P0.underlying t with
   |[],some (f,true),some (.pointer _)=>some (f,none)
   |[],some (f,false),some (.pointer e)=>some (f,some e)
   |[],some (f,false),some _=>some (f,none)
   |_,_,_=>none
 |none=>none
def ON(a:String) (r:V) (args:List V) (h:Hp):Option R:=match r with
 | .iface t v=>match methodOf t a with
   |some (f,none)=>some (.call f (v::args))
   |some (f,some e)=>oB ((Kb e ⟨λ_ _=>some v⟩).f (.tree .leaf []) h) λx=>some (.call f (x::args))
   |none=>none
 |_=>none
def LO(m:V) (h:Hp):Option R:=match m with
 | .lZ=>some (.val (.ptr h.next 0) (h.new (.iter none 0 [] 0)))
 | .map l=>D2 h l λ_ c=>some (.val (.ptr h.next 0) (h.new (.iter (some l) c [] c)))
 |_=>none
def sU(it:V) (h:Hp):Option R:=yY it λr off=>bB (Nat.beq off 0) (oB (h.get r) λo=>match o with
 | .iter none _ _ _=>some (.val (.tuple [.bool false]) h)
 | .iter (some m) since seen last=>D2 h m λb a=>
   bB (!(!seen.isEmpty&&!b.isEmpty&&b.all (λe=>Nat.ble last e.2.2)))
     (match b.filter (λe=>!seen.contains e.2.2)with
       |[]=>some (.val (.tuple [.bool false]) h)
       |[e]=>bB (Nat.blt e.2.2 since) (some (.val (.tuple [.bool true,e.1,e.2.1]) (h.put r (.iter (some m) since (seen++[e.2.2]) a))))
       |_=>none)
 |_=>none)
def SD(it:V) (h:Hp):Option R:=yY it λr off=>bB (Nat.beq off 0) (oB (h.get r) λo=>match o with
 | .iter (some m) _ seen last=>D2 h m λb a=>bB (Nat.beq a last) (oB seen.getLast? λst=>oB (b.find? λe=>Nat.beq e.2.2 st) λe=>some (.val (.tuple [e.1,e.2.1]) h))
 |_=>none)
def BB:WF:=⟨λ_ _=>none⟩
def jW(o:Oper):WF:=match o.op with
 | .store ty a x=>match yq ty with
   |some n=>⟨λt h=>oB ((sR a).f t h) λa=>oB ((sR x).f t h) λv=>yY a λl off=>
      bB (Nat.beq v.cells.length n) (oB (Fl h l off v.cells) λh=>some (.val .undef h))⟩
   |none=>BB
 | .mapUpdate ty m k x=>match P0.underlying ty with
   | some (.map kt _)=>match Jf kt with
     |some d=>⟨λt h=>oB ((sR m).f t h) λm=>oB ((sR k).f t h) λk=>oB ((sR x).f t h) λv=>Nf kt d m k v h⟩
     |none=>BB
   |_=>BB
 | .insert ty m k x=>match P0.underlying ty with
   | some (.map kt _)=>match Jf kt with
     |some d=>⟨λt h=>oB ((sR m).f t h) λm=>oB ((sR k).f t h) λk=>oB ((sR x).f t h) λv=>Nf kt d m k v h⟩
     |none=>BB
   |_=>BB
 | .range ty x=>match P0.underlying ty with
   |some (.map _ _)=>⟨λt h=>oB ((sR x).f t h) λm=>LO m h⟩
   |_=>BB
 | .next x false=>⟨λt h=>oB ((sR x).f t h) λm=>sU m h⟩
 | .entry x=>⟨λt h=>oB ((sR x).f t h) λm=>SD m h⟩
 | .convert src dst x=>match P0.underlying src,P0.underlying dst with
   | some .string,some (.slice e)=>match P0.underlying e,yq e with
     | some (.int .u8),some 1=>⟨λt h=>oB ((sR x).f t h) λx=>match x with
       | .str s=>some (.val (.slice h.next 0 s.length) (h.new (.cells e 1 true false (xC s))))
       |_=>none⟩
     |_,_=>BB
   | some (.slice _),some (.slice e)=>match P0.underlying e,Nat.beq src dst with
     |some (.int .u8),true=>⟨λt h=>oB ((sR x).f t h) λx=>W7 x h⟩
     |_,_=>BB
   |_,_=>BB
 | .call c=>match c.callee with
   | .builtin .append=>match c.args.toList,c.argTypes.toList with
     | [s,x],[sT,xT]=>match Gi sT,P0.underlying xT with
       | some b,some (.slice _)=>match elemOf b with
         |some (size,jM,_)=>⟨λt h=>oB ((sR s).f t h) λs=>oB ((sR x).f t h) λx=>fe b size jM s x h⟩
         |none=>BB
       | some b,some .string=>match elemOf b with
         |some (size,jM,_)=>⟨λt h=>oB ((sR s).f t h) λs=>oB ((sR x).f t h) λx=>fe b size jM s x h⟩
         |none=>BB
       |_,_=>BB
     |_,_=>BB
   | .builtin .copy=>match c.args.toList,c.argTypes.toList with
     | [d,s],dT::_=>match Gi dT with
       | some b=>match yq b with
         |some size=>⟨λt h=>oB ((sR d).f t h) λd=>oB ((sR s).f t h) λs=>VL size d s h⟩
         |none=>BB
       |none=>BB
     |_,_=>BB
   | .builtin .delete=>match c.args.toList,c.argTypes.toList with
     | [m,k],mT::_=>match P0.underlying mT with
       | some (.map kt _)=>match Jf kt with
         |some d=>⟨λt h=>oB ((sR m).f t h) λm=>oB ((sR k).f t h) λk=>OV kt d m k h⟩
         |none=>BB
       |_=>BB
     |_,_=>BB
   | .value f=>⟨λt h=>oB ((sR f).f t h) λf=>oB (Jb t c.args.toList) λargs=>gh f args⟩
   | .invoke r g=>⟨λt h=>oB ((sR r).f t h) λr=>oB (Jb t c.args.toList) λargs=>ON g r args h⟩
   |_=>BB
 |_=>BB
def cls(o:Oper):Nat:=match o.op with
 | .alloc _| .box _ _| .buildSlice _ _ _| .makeSlice _ _ _| .makeMap _ _=>1
 | .move _| .assign _| .pick _ _ _| .load _ _| .nilCheck _| .binOp _ _ _ _ _| .unOp _ _ _| .build _ _| .makeFunc _ _ _| .slice _ _ _ _ _
 | .fieldAddr _ _ _| .field _ _ _| .indexAddr _ _ _| .index _ _ _| .lookup _ _ _ _| .extract _ _| .makeInterface _ _| .typeAssert _ _ _ _=>0
 | .call c=>match c.callee with
   | .builtin .len| .builtin .min| .builtin .max=>0
   |_=>2
 | .convert src dst _=>match P0.underlying src,P0.underlying dst with
   |some (.int _),some (.int _)=>0
   |some .string,some .string=>0
   |some (.slice _),some .string=>0
   |_,_=>2
 |_=>2
abbrev Call:=Nat->List V->Hp->Option (V×Hp)
structure RF where
 f:Call->Tm->Hp->Option (V×Hp)
def Ib(o:Oper):RF:=match cls o with
 |0=>⟨λ_ t h=>oB ((iK o).f t h) λv=>some (v,h)⟩
 |1=>⟨λ_ t h=>oB ((qf o).f t) λr=>some (r.2 h.next,h.new r.1)⟩
 | _=>⟨λcall t h=>oB ((jW o).f t h) λr=>match r with
   | .val v h=>some (v,h)
   | .call f args=>call f args h⟩
structure GF where
 f:Tm->Option Bool
def kO(n:Nat) (ops:List Oper) (o:Oper):Option GF:=match o.guard with
 |none=>none
 | some (j,w)=>match ops[j]? with
   | some a=>match a.dst with
     | some d=>match Nat.blt d n with
       | true=>some ⟨λt=>match jL t d with
         | .bool b=>some (Bool.rec (motive:=λ_=>Bool) (!w) w b)
         | .tuple []=>some false
         |_=>none⟩
       |false=>some ⟨λ_=>none⟩
     |none=>some ⟨λ_=>some false⟩
   |none=>some ⟨λ_=>some false⟩
structure DF where
 f:Tm->V->Tm
def yz(n:Nat) (o:Oper):Option DF:=match o.dst with
 |none=>some ⟨λt _=>t⟩
 | some d=>match Nat.blt d n with
   |true=>some ⟨λt v=>t.set d v⟩
   |false=>none
structure SF where
 f:Call->Tm->Hp->Option (Tm×Hp)
def zcK:SF:=⟨λ_ _ _=>none⟩
structure QF where
 f:Tm->Hp->Option Tm
def VZ(b:V) (args:List V) (t:Tm):Option Tm:=match b with
 | .func g first a=>some (t.push (g,first++(args++a)))
 |_=>none
def zB(o:Oper):Option QF:=match o.op with
 | .defer c=>match c.callee with
   | .value f=>some ⟨λt h=>oB ((sR f).f t h) λa=>oB (Jb t c.args.toList) λargs=>VZ a args t⟩
   |_=>none
 |_=>none
def Iz(n:Nat) (all:List Oper) (o:Oper) (a:SF):SF:=match yz n o with
 |none=>zcK
 | some d=>match kO n all o with
   | none=>match zB o with
     |some q=>⟨λcall t h=>oB (q.f t h) λt=>a.f call (d.f t .undef) h⟩
     |none=>⟨λcall t h=>oB ((Ib o).f call t h) λr=>a.f call (d.f t r.1) r.2⟩
   |some g=>⟨λcall t h=>oB (g.f t) λb=>Bool.rec (motive:=λ_=>Option (Tm×Hp)) (a.f call (d.f t .undef) h)
      (oB ((Ib o).f call t h) λr=>a.f call (d.f t r.1) r.2) b⟩
def tQ(n:Nat) (all:List Oper):List Oper->SF
 |[]=>⟨λ_ t h=>some (t,h)⟩
 |o::os=>Iz n all o (tQ n all os)
structure It where
 i:Nat
 o:Oper
 b:Nat
def JI(e:Edge):Bool:=match e.ground with
 | .textOnly _| .gcOnly _=>false
 |_=>true
def LG(a:List Nat):List Edge->Nat->Nat
 |[],m=>m
 | e::es,m=>match JI e with
   |true=>LG a es (m |||(2 ^ e.on |||a[e.on]?.getD 0))
   |false=>LG a es m
def items:List Oper->Nat->List Nat->List It
 |[],_,_=>[]
 |o::os,i,acc=>{i,o,b:=LG acc o.after.toList 0}::items os (i+1) (acc++[LG acc o.after.toList 0])
def Bv:List Operand->List Nat
 |[]=>[]
 | .tmp t::xs=>t::Bv xs
 |_::xs=>Bv xs
def pN(o:Oper):List Nat:=o.dst.toList++Bv o.op.operands.toList
def writes(o:Oper) (l:List Nat):Bool:=match o.dst with
 |some d=>l.contains d
 |none=>false
def O2(a b:It):Bool:=(!(writes a.o (pN b.o))&&!(writes b.o (pN a.o))) ||b.b.testBit a.i
def qC:List It->Bool
 |[]=>true
 |a::l=>l.all (O2 a)&&qC l
def CR(jY:List It) (a:It):Bool:=match a.o.guard with
 |none=>true
 | some (j,_)=>match jY[j]? with
   | some g=>match g.o.dst with
     |some d=>a.b.testBit j&&jY.all (λx=>x.i == j || !(x.o.dst == some d))
     |none=>false
   |none=>false
def Bd(a:It):Bool:=a.o.after.toList.all λe=>!JI e ||Nat.blt e.on a.i
def FW:List It->Bool
 |a::b::l=>b.b.testBit a.i&&FW (b::l)
 |_=>true
def OR(jY ws:List It):Bool:=qC jY&&jY.all (CR jY)&&jY.all Bd&&FW ws
def early(ws:List It)(a:It):Nat:=(ws.filter λw=>a.b.testBit w.i).length
def late:List It->It->Nat
 |[],_=>0
 | w::ws,a=>match w.b.testBit a.i with
   |true=>0
   |false=>late ws a+1
def O.beq:O->O->Bool
 | .cells e s a r cs,.cells e' s' a' r' nQ=>e == e'&&s == s'&&a == a'&&r == r'&&V.KH cs nQ
 | .map [] c,.map [] c'=>c == c'
 |_,_=>false
structure Rec where
 it:It
 t:Tm
 v:V
 made:Option (Nat×O)
 last:Nat
def zm(h:Hp) (r:Rec):Bool:=match r.made with
 | none=>match (iK r.it.o).f r.t h with
   |some v=>V.beq v r.v
   |none=>false
 | some (l,ob)=>match h.get l with
   |some a=>O.beq a ob
   |none=>false
def pM(n:Nat) (all:List Oper) (o:Oper) (t:Tm):Option Bool:=match kO n all o with
 |none=>some true
 |some g=>g.f t
def Bi(k:Nat)(h:Hp)(rs:List Rec):Bool:=rs.all λr=>Nat.blt r.last k ||zm h r
def T9(jY ws:List It)(k:Nat):List It:=jY.filter λa=>!(Nat.beq (cls a.o) 2)&&Nat.beq (early ws a) k
def order(jY ws:List It):List It->Nat->List It
 |[],k=>T9 jY ws k
 |w::todo,k=>T9 jY ws k++w::order jY ws todo (Nat.succ k)
def KV(ws:List It) (a:It):Nat->Bool
 |0=>true
 | k+1=>match ws[k]? with
   |some w=>a.b.testBit w.i
   |none=>false
def isW(ws:List It) (a:It) (k:Nat):Bool:=match ws[k]? with
 |some w=>Nat.beq w.i a.i
 |none=>false
def vI(jY ws:List It):List It->Nat->Nat->Bool
 |[],m,k=>jY.all (λa=>m.testBit a.i)&&Nat.beq k ws.length
 | a::l,m,k=>!m.testBit a.i&&(jY.all (λx=>!a.b.testBit x.i ||m.testBit x.i)&&(match Nat.beq (cls a.o) 2 with
   |true=>isW ws a k&&vI jY ws l (m |||2 ^ a.i) (Nat.succ k)
   |false=>KV ws a k&&vI jY ws l (m |||2 ^ a.i) k))
structure LF where
 f:Call->Tm->Hp->List Rec->Option (Tm×Hp)
def GW(n:Nat) (all:List Oper) (ws:List It) (a:It) (d:DF) (c:LF):LF:=⟨λcall t h rs=>oB (pM n all a.o t) λb=>Bool.rec (motive:=λ_=>Option (Tm×Hp)) (c.f call (d.f t .undef) h rs) (oB ((iK a.o).f t h) λv=>c.f call (d.f t v) h ({it:=a,t,v,made:=none,last:=late ws a}::rs)) b⟩
def EB(n:Nat) (all:List Oper) (ws:List It) (a:It) (d:DF) (c:LF):LF:=⟨λcall t h rs=>oB (pM n all a.o t) λb=>Bool.rec (motive:=λ_=>Option (Tm×Hp)) (c.f call (d.f t .undef) h rs) (oB ((qf a.o).f t) λr=>c.f call (d.f t (r.2 h.next)) (h.new r.1) ({it:=a,t,v:=r.2 h.next,made:=some (h.next,r.1),last:=late ws a}::rs)) b⟩
def BE(n:Nat) (all:List Oper) (k:Nat) (a:It) (d:DF) (c:LF):LF:=⟨λcall t h rs=>bB (Bi k h rs) (oB (pM n all a.o t) λb=>Bool.rec (motive:=λ_=>Option (Tm×Hp)) (c.f call (d.f t .undef) h rs) (oB ((Ib a.o).f call t h) λx=>bB (Nat.ble h.next x.2.next) (c.f call (d.f t x.1) x.2 rs)) b)⟩
def xE(n:Nat) (all:List Oper) (ws:List It):List It->Nat->LF
 |[],k=>⟨λ_ t h rs=>bB (Bi k h rs) (some (t,h))⟩
 | a ::l,k=>match yz n a.o with
   |none=>⟨λ_ _ _ _=>none⟩
   | some d=>match cls a.o with
     |0=>GW n all ws a d (xE n all ws l k)
     |1=>EB n all ws a d (xE n all ws l k)
     |_=>BE n all k a d (xE n all ws l (Nat.succ k))
def gX(jY:List It):List It:=jY.filter λa=>Nat.beq (cls a.o) 2
def OJ:Operand->Bool
 | .global _=>false
 |_=>true
def storeAt(o:Oper):Option Nat:=match o.op with
 | .store _ (.tmp d) x=>match o.guard,o.dst,OJ x with
   |none,none,true=>some d
   |_,_,_=>none
 |_=>none
def EH(o:Oper):Bool:=match o.op with
 | .move x| .nilCheck x| .fieldAddr _ x _=>OJ x
 | .indexAddr _ x i=>OJ x&&OJ i
 |_=>false
def KW:List It->Option (It×It)
 |[]=>none
 |[_]=>none
 |[a,b]=>some (a,b)
 |_::b::c::l=>KW (b::c::l)
def HH:List It->Bool
 | a::b::c::l=>b.b.testBit a.i&&(match l with
   |[]=>c.b.testBit a.i
   |_=>true)&&HH (b::c::l)
 |_=>true
def fixed(jY:List It)(a:It):Bool:=(Bv a.o.op.operands.toList).all λd=>jY.all λx=>!(writes x.o [d]) ||a.b.testBit x.i
def O0(jY:List It) (a b:It):Bool:=jY.all λx=>Nat.beq x.i a.i ||Nat.beq x.i b.i ||(a.b.testBit x.i&&b.b.testBit x.i) || (Nat.beq (cls x.o) 0&&EH x.o&&x.o.guard.isNone&&!x.b.testBit a.i&&!x.b.testBit b.i)
def Iw(jY ws:List It):Option (It×It×Nat×Nat):=match KW ws with
 | some (a,b)=>match storeAt a.o,storeAt b.o with
   | some da,some db=>match fixed jY a&&fixed jY b&&O0 jY a b&&HH ws with
     |true=>some (a,b,da,db)
     |false=>none
   |_,_=>none
 |none=>none
def Wu:V->V->Bool
 | .ptr l _,.ptr l' _=>!(Nat.beq l l')
 |_,_=>false
def Om(jY:List It):Bool:=qC jY&&jY.all (CR jY)&&jY.all Bd
def MA(n:Nat) (all:List Oper):SF:=
 match OR (items all 0 []) (gX (items all 0 []))&&vI (items all 0 []) (gX (items all 0 [])) (order (items all 0 []) (gX (items all 0 [])) (gX (items all 0 [])) 0) 0 0 with
 |true=>⟨λcall t h=>(xE n all (gX (items all 0 [])) (order (items all 0 []) (gX (items all 0 [])) (gX (items all 0 [])) 0) 0).f call t h []⟩
 | false=>match Iw (items all 0 []) (gX (items all 0 [])),Om (items all 0 [])&&vI (items all 0 []) (gX (items all 0 [])) (order (items all 0 []) (gX (items all 0 [])) (gX (items all 0 [])) 0) 0 0 with
   |some p,true=>⟨λcall t h=>oB ((xE n all (gX (items all 0 [])) (order (items all 0 []) (gX (items all 0 [])) (gX (items all 0 [])) 0) 0).f call t h []) λr=>
      bB (Wu (jL r.1 p.2.2.1) (jL r.1 p.2.2.2)) (some r)⟩
   |_,_=>zcK
inductive X where
 |normal
 |exit (id:Nat)
 |ret
structure CF where
 f:Call->Nat->Tm->Hp->Option (X×Tm×Hp)
def El(r:Option (X×Tm×Hp)) (k:Tm->Hp->Option (X×Tm×Hp)):Option (X×Tm×Hp):=match r with
 |some (.normal,t,h)=>k t h
 |r=>r
def JM(id:Nat) (r:Option (X×Tm×Hp)):Option (X×Tm×Hp):=match r with
 |some (.exit id',t,h)=>Bool.rec (motive:=λ_=>Option (X×Tm×Hp)) (some (.exit id',t,h)) (some (.normal,t,h)) (Nat.beq id' id)
 |r=>r
def EI(body:Tm->Hp->Option (X×Tm×Hp)) (m:Nat):Tm->Hp->Option (X×Tm×Hp):=Nat.rec (motive:=λ_=>Tm->Hp->Option (X×Tm×Hp)) (λ_ _=>none) (λ_ a t h=>El (body t h) a) m
def zdQ:CF:=⟨λ_ _ _ _=>none⟩
def iB(n:Nat):Code->CF
 | .skip=>⟨λ_ _ t h=>some (.normal,t,h)⟩
 | .seq a b=>⟨λcall m t h=>El ((iB n a).f call m t h) λt h=>(iB n b).f call m t h⟩
 | .cond c a b=>⟨λcall m t h=>oB ((sR c).f t h) λv=>match v with
   | .bool x=>Bool.rec (motive:=λ_=>Option (X×Tm×Hp)) ((iB n b).f call m t h) ((iB n a).f call m t h) x
   |_=>none⟩
 | .block id c=>⟨λcall m t h=>JM id ((iB n c).f call m t h)⟩
 | .loop c=>⟨λcall m t h=>EI (λt h=>(iB n c).f call m t h) m t h⟩
 | .exit id=>⟨λ_ _ t h=>some (.exit id,t,h)⟩
 | .ret=>⟨λ_ _ t h=>some (.ret,t,h)⟩
 | .region _ ops false=>⟨λcall _ t h=>oB ((tQ n ops.toList ops.toList).f call t h) λr=>some (.normal,r.1,r.2)⟩
 | .region _ ops true=>⟨λcall _ t h=>oB ((MA n ops.toList).f call t h) λr=>some (.normal,r.1,r.2)⟩
 |_=>zdQ
inductive Ext where
 |none
 |countByte
 |indexByte
def Jp(c:Nat):List UInt8->Nat->Nat
 |[],n=>n
 |b::l,n=>Jp c l (Bool.rec (motive:=λ_=>Nat) n (Nat.succ n) (Nat.beq b.toNat c))
def Mm(c:Nat):List UInt8->Nat->Option Nat
 |[],_=>none
 |b::l,n=>Bool.rec (motive:=λ_=>Option Nat) (Mm c l (Nat.succ n)) (some n) (Nat.beq b.toNat c)
def RN:Ext->List V->Option V
 | .countByte,[.str s,.int .u8 (.ofNat c)]=>bB (Nat.blt c 256) (some (.int .i64 (.ofNat (Jp c s 0))))
 | .indexByte,[.str s,.int .u8 (.ofNat c)]=>bB (Nat.blt c 256) (match Mm c s 0 with
   |some i=>some (.int .i64 (.ofNat i))
   |none=>some (.int .i64 (-1)))
 |_,_=>none
def Vj:ResultVar->PF
 | .tmp i=>⟨λt _=>some (jL t i)⟩
 | .cell a ty=>Kb ty ⟨λt _=>some (jL t a)⟩
def Ae(t:Tm) (h:Hp):List ResultVar->Option (List V)
 |[]=>some []
 |r::rs=>oB ((Vj r).f t h) λv=>oB (Ae t h rs) λvs=>some (v::vs)
def zt(vs:List V):V:=match vs with
 |[v]=>v
 |vs=> .tuple vs
structure FF where
 f:Call->Nat->List V->Hp->Option (V×Hp)
structure fu where
 start:List V->Tm
 ext:Nat->Ext
 K:Nat->List V->Hp->Option V
def V.flat:V->Bool
 | .bool _| .int _ _| .str _| .nilPtr| .ee| .lZ| .nilFunc| .nilIface=>true
 |_=>false
def PE(l:List V):Bool:=l.all V.flat
def YL{α β:Type}(x:Option α)(k:α->Option β)(e:Option β):Option β:=Option.rec (motive:=λ_=>Option β) e k x
def T0(c:Code):Option (Nat×Code):=match c with
 | .seq (.region _ ops false) rest=>match ops.toList with
   | [o]=>match o.op with
     | .call a=>match a.callee,o.guard,o.dst with
       | .builtin .recover,none,some d=>some (d,rest)
       |_,_,_=>none
     |_=>none
   |_=>none
 |_=>none
def WH(fn:Func) (r:X×Tm×Hp):Option (V×Hp):=match r.1 with
 | .exit _=>none
 | _=>match r.2.1.ds with
   |[]=>oB (Ae r.2.1 r.2.2 fn.results.toList) λvs=>some (zt vs,r.2.2)
   |_::_=>none
def Jx(C:fu) (f:Nat):FF:=match P0.funcs[f]? with
 | some fn=>match fn.body with
   | some c=>match T0 c with
     |some (d,rest)=>⟨λcall m args h=>bB (Nat.ble args.length fn.ntmps) (bB (Nat.blt d fn.ntmps) (oB ((iB fn.ntmps rest).f call m ((C.start args).set d .nilIface) h) λr=>WH fn r))⟩
     |none=>⟨λcall m args h=>bB (Nat.ble args.length fn.ntmps) (oB ((iB fn.ntmps c).f call m (C.start args) h) λr=>WH fn r)⟩
   |none=>⟨λ_ _ _ _=>none⟩
 |none=>⟨λ_ _ _ _=>none⟩
def Nc(C:fu) (call:Call) (m:Nat):List (Nat×List V)->Hp->Option Hp
 |[],h=>some h
 |x::l,h=>oB ((Jx C x.1).f call m x.2 h) λr=>Nc C call m l r.2
def DU(C:fu) (f:Nat):FF:=match P0.funcs[f]? with
 | some fn=>match fn.body with
   | some c=>⟨λcall m args h=>YL (C.K f args h) (λv=>bB (PE args&&v.flat) (some (v,h))) (bB (Nat.ble args.length fn.ntmps) (oB ((iB fn.ntmps c).f call m (C.start args) h) λr=>match r.1 with
     | .exit _=>none
     |_=>oB (Nc C call m r.2.1.ds r.2.2) λh=>oB (Ae r.2.1 h fn.results.toList) λvs=>some (zt vs,h)))⟩
   |none=>⟨λ_ _ args h=>oB (RN (C.ext f) args) λv=>some (v,h)⟩
 |none=>⟨λ_ _ _ _=>none⟩
def kh(C:fu) (m:Nat) (d:Nat):Call:=Nat.rec (motive:=λ_=>Call) (λ_ _ _=>none) (λ_ call f args h=>(DU C f).f call m args h) d
end ops
theorem ft{α β:Type} {x:Option α} {k:α->Option β} {y:β}:oB x k=some y↔∃v,x=some v/\k v=some y:=by
 cases x with
 |none=>exact⟨λh=>(nomatch h),λ⟨_,h,_⟩=>(nomatch h)⟩
 |some v=>exact⟨λh=>⟨v,rfl,h⟩,λ⟨_,h,h'⟩=>by cases h;exact h'⟩
theorem g0{β:Type} {c:Bool} {k:Option β} {y:β}:bB c k=some y↔c=true/\k=some y:=by
 cases c with
 |false=>exact⟨λh=>(nomatch h),λ⟨h,_⟩=>(nomatch h)⟩
 |true=>exact⟨λh=>⟨rfl,h⟩,λ⟨_,h⟩=>h⟩
theorem vx{β:Type} {v:V} {k:Nat->Nat->Option β} {y:β}:yY v k=some y↔∃l o,v = .ptr l o/\k l o=some y:=by
 constructor
 ·intro h;unfold yY at h;split at h
  ·exact⟨_,_,rfl,h⟩
  ·cases h
 ·rintro⟨l,o,rfl,h⟩;exact h
theorem IA{β:Type} {v:V} {k:Nat->Option β} {y:β}:asNat v k=some y↔∃kd n,v = .int kd (.ofNat n)/\k n=some y:=by
 constructor
 ·intro h;unfold asNat at h;split at h
  ·exact⟨_,_,rfl,h⟩
  ·cases h
 ·rintro⟨kd,n,rfl,h⟩;exact h
theorem kQ{β:Type} {h:Hp} {l:Nat} {k:Nat->Nat->Bool->Bool->List V->Option β} {y:β} :
  ke h l k=some y↔∃e sz live ro cs,h.get l=some (.cells e sz live ro cs)/\k e sz live ro cs=some y:=by
 unfold ke;rw[ft];constructor
 ·rintro⟨o,b,a⟩;split at a
  ·exact⟨_,_,_,_,_,b,a⟩
  ·cases a
 ·rintro⟨e,sz,live,ro,cs,b,a⟩;exact⟨_,b,a⟩
theorem zz{β:Type} {h:Hp} {l:Nat} {k:List (V×V×Nat)->Nat->Option β} {y:β} :
  D2 h l k=some y↔∃b c,h.get l=some (.map b c)/\k b c=some y:=by
 unfold D2;rw[ft];constructor
 ·rintro⟨o,d,a⟩;split at a
  ·exact⟨_,_,d,a⟩
  ·cases a
 ·rintro⟨b,c,d,a⟩;exact⟨_,d,a⟩
theorem T7{β:Type}(c:Bool)(x y:β):Bool.rec (motive:=λ_=>β) x y c=if c=true then y else x:=by cases c <;> rfl
theorem VJ{n:Nat} {cs l:List V} (h:takeN n cs=some l):l.length=n/\∀i,i<n->l[i]? =cs[i]?:=by
 induction n generalizing cs l with
 |zero=>simp[takeN]at h;subst h;exact⟨rfl,λi hi=>by omega⟩
 | succ n a=>
   cases cs with
   |nil=>simp[takeN]at h
   | cons v vs=>
     simp only[takeN,ft]at h;obtain⟨f,b,c⟩:=h;cases c;obtain⟨d,hi⟩:=a b;refine⟨by simp[d],λi e=>?_⟩
     cases i with
     |zero=>rfl
     |succ i=>simpa using hi i (by omega)
theorem sub_eq{cs l:List V} {off n:Nat} (h:sub cs off n=some l):l.length=n/\∀i,i<n->l[i]? =cs[off+i]?:=by
 obtain⟨b,hi⟩:=VJ h;exact⟨b,λi a=>by rw[hi i a,Vr]⟩
theorem Ml{cs:List V} {off:Nat} {v:V} (h:HW cs off=some v):cs[off]? =some v:=by
 unfold HW at h;rw[List.head?_drop]at h;exact h
theorem Y2{new cs l:List V} (h:over new cs=some l):l.length=cs.length/\new.length<=cs.length/\∀i,l[i]? =if i<new.length then new[i]? else cs[i]?:=by
 induction new generalizing cs l with
 |nil=>simp[over]at h;subst h;exact⟨rfl,Kl _,λi=>by simp⟩
 | cons n ns b=>
   cases cs with
   |nil=>simp[over]at h
   | cons c cs=>
     simp only[over,ft]at h;obtain⟨g,d,e⟩:=h;cases e;obtain⟨f,a,hi⟩:=b d;refine⟨by simp[f],by simp;exact a,λi=>?_⟩
     cases i with
     |zero=>simp
     |succ i=>simpa using hi i
theorem JR{k:Nat} {cs new l:List V} (h:p7 k cs new=some l):l.length=cs.length/\k+new.length<=cs.length/\
  ∀i,l[i]? =if k<=i/\i<k+new.length then new[i-k]? else cs[i]?:=by
 induction k generalizing cs l with
 | zero=>
   obtain⟨a,b,hi⟩:=Y2 h
   exact⟨a,by omega,λi=>by rw[hi i];by_cases h:i<new.length <;> simp[h]⟩
 | succ k d=>
   cases cs with
   |nil=>simp[p7]at h
   | cons c cs=>
     simp only[p7,ft]at h;obtain⟨g,e,f⟩:=h;cases f;obtain⟨a,b,hi⟩:=d e;refine⟨by simp[a],by simp;omega,λi=>?_⟩
     cases i with
     |zero=>simp
     | succ i=>
       simp only[QB,hi i];by_cases h:k<=i/\i<k+new.length
       ·rw[if_pos h,if_pos (by omega),Nat.add_sub_add_right]
       ·rw[if_neg h,if_neg (by omega)]
theorem UP{l:List V} (h:gv l=true):∀v∈l,v.one=true:=by
 induction l with
 |nil=>intro v hv;cases hv
 | cons a l b=>
   intro v hv;simp only[gv,T7]at h;split at h
   ·rename_i c
    cases hv with
    |head=>exact c
    |tail _ hv=>exact b h v hv
   ·cases h
structure D where
 b:Nat
 base:Nat
 sz:Nat
 n:Nat
 Rk:Nat
 ro:Bool
 kind:Nat
abbrev Env:=Nat->Option D
def Env.le(Δ a:Env):Prop:=∀l d,Δ l=some d->a l=some d
theorem Env.le_refl(Δ:Env):Δ.le Δ:=λ_ _ h=>h
theorem Env.le_trans{Δ b a:Env}(h:Δ.le b)(h':b.le a):Δ.le a:=λl d c=>h' l d (h l d c)
mutual
inductive fM (Δ:Env):V->Value->Prop
 |bool (b:Bool):fM Δ (.bool b) (.bool b)
 |int (k:IntKind) (n:Int):fM Δ (.int k n) (.int k n)
 |str (s:ByteArray):fM Δ (.str s.data.toList) (.string s)
 |nilPtr:fM Δ .nilPtr (.pointer none)
 |ptr (l off:Nat) (d:D) (h:Δ l=some d):fM Δ (.ptr l off) (.pointer (some ⟨d.b,d.base+off,none⟩))
 |ee:fM Δ .ee (.slice none 0 0)
 | slice (l off len cap o:Nat) (d:D) (h:Δ l=some d) (j:d.kind=0) (m:len<=cap)
   (p:(o=d.base+off/\d.n<=off+cap*d.sz/\d.base+off+cap*d.sz<=d.Rk)\/(cap=0/\d.n<=off)) :
   fM Δ (.slice l off len) (.slice (some ⟨d.b,o,none⟩) len cap)
 |lZ:fM Δ .lZ (.map none)
 |map (l:Nat) (d:D) (h:Δ l=some d):fM Δ (.map l) (.map (some d.b))
 |nilFunc:fM Δ .nilFunc .nilFunc
 |func (f:Nat) (a c:List V) (i c':Array Value) (q:gM Δ a i.toList) (hc:gM Δ c c'.toList):fM Δ (.func f a c) (.func (.func f) i c')
 |nilIface:fM Δ .nilIface .nilIface
 |iface (t:Nat) (v:V) (e:Value) (h:fM Δ v e):fM Δ (.iface t v) (.iface t e)
 |agg (cs:List V) (nQ:Array Value) (h:gM Δ cs nQ.toList):fM Δ (.agg cs) (.agg nQ)
 |tuple (cs:List V) (nQ:Array Value) (h:gM Δ cs nQ.toList):fM Δ (.tuple cs) (.tuple nQ)
inductive gM (Δ:Env):List V->List Value->Prop
 |nil:gM Δ [] []
 |cons (v:V) (e:Value) (vs:List V) (g:List Value) (h:fM Δ v e) (hs:gM Δ vs g):gM Δ (v::vs) (e::g)
end
mutual
theorem fM.mono {Δ i:Env} (e:Δ.le i):∀{v:V} {g:Value},fM Δ v g->fM i v g
 |_,_,.bool b=> .bool b
 |_,_,.int k n=> .int k n
 |_,_,.str s=> .str s
 |_,_,.nilPtr=> .nilPtr
 |_,_,.ptr l off d h=> .ptr l off d (e _ _ h)
 |_,_,.ee=> .ee
 |_,_,.slice l off len cap o d h hk hl ho=> .slice l off len cap o d (e _ _ h) hk hl ho
 |_,_,.lZ=> .lZ
 |_,_,.map l d h=> .map l d (e _ _ h)
 |_,_,.nilFunc=> .nilFunc
 |_,_,.func f a c a' c' ha hc=> .func f a c a' c' (gM.mono e ha) (gM.mono e hc)
 |_,_,.nilIface=> .nilIface
 |_,_,.iface t v g h=> .iface t v g (fM.mono e h)
 |_,_,.agg cs nQ h=> .agg cs nQ (gM.mono e h)
 |_,_,.tuple cs nQ h=> .tuple cs nQ (gM.mono e h)
theorem gM.mono {Δ i:Env} (e:Δ.le i):∀{v:List V} {g:List Value},gM Δ v g->gM i v g
 |_,_,.nil=> .nil
 |_,_,.cons v g vs vs' h hs=> .cons v g vs vs' (fM.mono e h) (gM.mono e hs)
end
theorem gM.length{Δ:Env} {vs:List V} {a:List Value} (h:gM Δ vs a):vs.length=a.length:=by
 induction vs generalizing a with
 |nil=>cases h;rfl
 |cons v vs b=>cases h with|cons _ _ _ _ _ hs=>simp[b hs]
theorem gM.get{Δ:Env} {vs:List V} {b:List Value} (h:gM Δ vs b) (i:Nat) (v:V) (hi:vs[i]? =some v):∃c,b[i]? =some c/\fM Δ v c:=by
 induction vs generalizing b i with
 |nil=>simp at hi
 | cons a vs d=>
   cases h with
   | cons _ e _ b h hs=>
     cases i with
     |zero=>simp at hi;subst hi;exact⟨e,rfl,h⟩
     |succ i=>exact d hs i (by simpa using hi)
theorem gM.On{Δ:Env} {vs:List V} {b:List Value} (c:vs.length=b.length) (h:∀(i:Nat) (v:V),vs[i]? =some v->∃d,b[i]? =some d/\fM Δ v d):gM Δ vs b:=by
 induction vs generalizing b with
 | nil=>cases b with
   |nil=>exact .nil
   |cons _ _=>simp at c
 | cons a vs f=>cases b with
   |nil=>simp at c
   | cons j b=>
     obtain⟨x,e,g⟩:=h 0 a rfl;simp at e;subst e;exact .cons _ _ _ _ g (f (by simpa using c) λi v hi=>by simpa using h (i+1) v (by simpa using hi))
theorem gM.append{Δ:Env} {a b:List V} {c d:List Value} (h:gM Δ a c) (h':gM Δ b d):gM Δ (a++b) (c++d):=by
 induction a generalizing c with
 |nil=>cases h;exact h'
 |cons x a e=>cases h with|cons _ _ _ _ hx hs=>exact .cons _ _ _ _ hx (e hs)
theorem gM.one{Δ:Env}{v:V}{a:Value}(h:fM Δ v a):gM Δ [v] [a]:= .cons _ _ _ _ h .nil
theorem fM.undef(Δ:Env):fM Δ V.undef undef:= .tuple [] #[] .nil
theorem fM.cells{Δ:Env} {v:V} {e:Value} (h:fM Δ v e):gM Δ v.cells e.cells.toList:=by
 cases h with
 |agg cs nQ h=>exact h
 |bool b=>exact .one (.bool b)
 |int k n=>exact .one (.int k n)
 |str s=>exact .one (.str s)
 |nilPtr=>exact .one .nilPtr
 |ptr l off d h=>exact .one (.ptr l off d h)
 |ee=>exact .one .ee
 |slice l off len cap o d h g i j=>exact .one (.slice l off len cap o d h g i j)
 |lZ=>exact .one .lZ
 |map l d h=>exact .one (.map l d h)
 |nilFunc=>exact .one .nilFunc
 |func f a c m c' p hc=>exact .one (.func f a c m c' p hc)
 |nilIface=>exact .one .nilIface
 |iface t v e h=>exact .one (.iface t v e h)
 |tuple cs nQ h=>exact .one (.tuple cs nQ h)
theorem fM.zdE{Δ:Env} {v:V} {a:Value} (h:fM Δ v a) (b:v.one=true):a.oneCell' = true:=by
 cases h <;> first|rfl|(simp[V.one]at b)
theorem gM.zbJ{Δ:Env} {vs:List V} {a:List Value} (h:gM Δ vs a) (d:gv vs=true):∀x∈a,x.oneCell' = true:=by
 intro x c;obtain⟨i,hi,rfl⟩:=List.mem_iff_getElem.1 c;have b:i<vs.length:=by rw[h.length];exact hi
 obtain⟨x,c,e⟩:=h.get i vs[i] (gP b);rw[gP hi]at c;cases c;exact e.zdE (UP d _ (zq b))
mutual
theorem FH (Δ:Env):∀(n:Nat) (v:Value) (x:V),mr n v=some x->fM Δ x v
 |_,.bool b,x,h=>by simp[mr]at h;subst h;exact .bool b
 |_,.int k n,x,h=>by simp[mr]at h;subst h;exact .int k n
 |_,.string s,x,h=>by simp[mr]at h;subst h;exact .str s
 |_,.pointer none,x,h=>by simp[mr]at h;subst h;exact .nilPtr
 |_,.pointer (some _),x,h=>by simp[mr]at h
 |_,.slice none 0 0,x,h=>by simp[mr]at h;subst h;exact .ee
 |_,.slice none 0 (_+1),x,h=>by simp[mr]at h
 |_,.slice none (_+1) _,x,h=>by simp[mr]at h
 |_,.slice (some _) _ _,x,h=>by simp[mr]at h
 |_,.map none,x,h=>by simp[mr]at h;subst h;exact .lZ
 |_,.map (some _),x,h=>by simp[mr]at h
 |_,.nilFunc,x,h=>by simp[mr]at h;subst h;exact .nilFunc
 |_,.nilIface,x,h=>by simp[mr]at h;subst h;exact .nilIface
 |0,.iface _ _,x,h=>by simp[mr]at h
 |0,.agg _,x,h=>by simp[mr]at h
 |0,.tuple _,x,h=>by simp[mr]at h
 | n+1,.iface t v,x,h=>by
   simp only[mr]at h;split at h
   ·rename_i y a;cases h;exact .iface t _ _ (FH Δ n v _ a)
   ·cases h
 | n+1,.agg cs,x,h=>by
   simp only[mr]at h;split at h
   ·rename_i y a;cases h;exact .agg _ _ (Ic Δ n _ _ a)
   ·cases h
 | n+1,.tuple cs,x,h=>by
   simp only[mr]at h;split at h
   ·rename_i y a;cases h;exact .tuple _ _ (Ic Δ n _ _ a)
   ·cases h
 |_,.float _ _,x,h=>by simp[mr]at h
 |_,.complex _ _ _,x,h=>by simp[mr]at h
 |_,.chan _,x,h=>by simp[mr]at h
 |_,.func _ _ _,x,h=>by simp[mr]at h
theorem Ic (Δ:Env):∀(n:Nat) (v:List Value) (x:List V),v.mapM (mr n)=some x->gM Δ x v
 |_,[],x,h=>by simp at h;subst h;exact .nil
 | n,v::vs,x,h=>by
   simp only[List.mapM_cons,Option.bind_eq_bind,wCF,Option.pure_def,Option.some.injEq]at h;obtain⟨y,a,ys,c,rfl⟩:=h;exact .cons _ _ _ _ (FH Δ n v y a) (Ic Δ n vs ys c)
end
