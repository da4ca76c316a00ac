/- Parts. -/
import Derived.Test.YtpnddokajmjpbaaDoorM00
import Derived.Calls
import Derived.Test.YtpnddokajmjpbaaDoorChecked
import Derived.Orders
import Derived.Laws.CopyRow
namespace Go.Proofs.YtpnddokajmjpbaaDoor.Hx
theorem oD:type_of% @Result.andThen_ok:=@Result.andThen_ok
theorem pB:type_of% @Sem.run_bind:=@Sem.run_bind
theorem DW:type_of% @Sem.run_pure:=@Sem.run_pure
inductive V where
 |bool (b:Bool)
 |int (k:IntKind) (n:Int)
 |str (s:List UInt8)
 |nilPtr
 |ptr (l off:Nat)
 |ec
 |slice (l off len:Nat)
 |j9
 |map (l:Nat)
 |nilFunc
 |func (f:Nat) (first a:List V)
 |nilIface
 |iface (t:Nat) (v:V)
 |agg (cs:List V)
 |tuple (vs:List V)
 deriving Inhabited
def V.undef:V:= .tuple []
mutual
def V.beq:V->V->Bool
 | .bool a,.bool b=>a == b
 | .int j a,.int k b=>j == k&&a == b
 | .str a,.str b=>a == b
 | .nilPtr,.nilPtr=>true
 | .ptr l o,.ptr l' o'=>l == l'&&o == o'
 | .ec,.ec=>true
 | .slice l o n,.slice l' o' n'=>l == l'&&o == o'&&n == n'
 | .j9,.j9=>true
 | .map l,.map l'=>l == l'
 | .nilFunc,.nilFunc=>true
 | .func f a c,.func f' a' c'=>f == f'&&V.IY a a'&&V.IY c c'
 | .nilIface,.nilIface=>true
 | .iface t v,.iface t' v'=>t == t'&&V.beq v v'
 | .agg a,.agg b=>V.IY a b
 | .tuple a,.tuple b=>V.IY a b
 |_,_=>false
def V.IY:List V->List V->Bool
 |[],[]=>true
 |a::x,b::y=>V.beq a b&&V.IY x y
 |_,_=>false
end
mutual
theorem V.eq_of_beq:∀(a b:V),V.beq a b=true->a=b
 | .bool a,b,h=>by cases b <;> simp_all[V.beq]
 | .int j a,b,h=>by cases b <;> simp_all[V.beq]
 | .str a,b,h=>by cases b <;> simp_all[V.beq]
 | .nilPtr,b,h=>by cases b <;> simp_all[V.beq]
 | .ptr l o,b,h=>by cases b <;> simp_all[V.beq]
 | .ec,b,h=>by cases b <;> simp_all[V.beq]
 | .slice l o n,b,h=>by cases b <;> simp_all[V.beq]
 | .j9,b,h=>by cases b <;> simp_all[V.beq]
 | .map l,b,h=>by cases b <;> simp_all[V.beq]
 | .nilFunc,b,h=>by cases b <;> simp_all[V.beq]
 | .func f a c,b,h=>by
   cases b <;> simp_all[V.beq]
   exact⟨V.vE _ _ h.1.2,V.vE _ _ h.2⟩
 | .nilIface,b,h=>by cases b <;> simp_all[V.beq]
 | .iface t v,b,h=>by
   cases b <;> simp_all[V.beq]
   exact V.eq_of_beq _ _ h.2
 | .agg a,b,h=>by
   cases b <;> simp_all[V.beq]
   exact V.vE _ _ h
 | .tuple a,b,h=>by
   cases b <;> simp_all[V.beq];exact V.vE _ _ h
theorem V.vE:∀(a b:List V),V.IY a b=true->a=b
 |[],b,h=>by cases b <;> simp_all[V.IY]
 | a::x,b,h=>by
   cases b <;> simp_all[V.IY];exact⟨V.eq_of_beq _ _ h.1,V.vE _ _ h.2⟩
end
mutual
theorem V.KZ:∀(a:V),V.beq a a=true
 | .bool a=>by simp[V.beq]
 | .int j a=>by simp[V.beq]
 | .str a=>by simp[V.beq]
 | .nilPtr=>by simp[V.beq]
 | .ptr l o=>by simp[V.beq]
 | .ec=>by simp[V.beq]
 | .slice l o n=>by simp[V.beq]
 | .j9=>by simp[V.beq]
 | .map l=>by simp[V.beq]
 | .nilFunc=>by simp[V.beq]
 | .func f a c=>by simp[V.beq,V.yi a,V.yi c]
 | .nilIface=>by simp[V.beq]
 | .iface t v=>by simp[V.beq,V.KZ v]
 | .agg a=>by simp[V.beq,V.yi a]
 | .tuple a=>by simp[V.beq,V.yi a]
theorem V.yi:∀(a:List V),V.IY a a=true
 |[]=>by simp[V.IY]
 |a::x=>by simp[V.IY,V.KZ a,V.yi x]
end
def V.cells:V->List V
 | .agg cs=>cs
 |v=>[v]
def V.one:V->Bool
 | .agg _| .tuple _=>false
 |_=>true
def lK:Nat->Value->Option V
 |_,.bool b=>some (.bool b)
 |_,.int k n=>some (.int k n)
 |_,.string s=>some (.str s.data.toList)
 |_,.pointer none=>some .nilPtr
 |_,.slice none 0 0=>some .ec
 |_,.map none=>some .j9
 |_,.nilFunc=>some .nilFunc
 |_,.nilIface=>some .nilIface
 | n+1,.iface t v=>match lK n v with
   |some v=>some (.iface t v)
   |none=>none
 | n+1,.agg cs=>match cs.toList.mapM (lK n)with
   |some l=>some (.agg l)
   |none=>none
 | n+1,.tuple cs=>match cs.toList.mapM (lK n)with
   |some l=>some (.tuple l)
   |none=>none
 |_,_=>none
inductive To (α:Type) where
 |leaf
 |node (l:To α) (v:Option α) (r:To α)
noncomputable def To.get {α:Type} (t:To α):Nat->Option α:=
 To.rec (motive:=λ_=>Nat->Option α) (λ_=>none)
  (λ_ v _ gl gr n=>Bool.rec (motive:=λ_=>Option α) (Bool.rec (motive:=λ_=>Option α) (gr (Nat.sub (Nat.div n 2) 1)) (gl (Nat.div n 2)) (Nat.beq (Nat.mod n 2) 1)) v (Nat.beq n 0)) t
theorem To.nz{α:Type}(n:Nat):(To.leaf:To α).get n=none:=rfl
theorem To.mh {α:Type} (l:To α) (v:Option α) (r:To α) (n:Nat):(To.node l v r).get n =
  match Nat.beq n 0 with
  |true=>v
  | false=>match Nat.beq (n % 2) 1 with
    |true=>l.get (n / 2)
    |false=>r.get (n / 2-1):=by
 show Bool.rec (motive:=λ_=>Option α) (Bool.rec (motive:=λ_=>Option α) (r.get (n / 2-1)) (l.get (n / 2)) (Nat.beq (n % 2) 1)) v (Nat.beq n 0)=_;cases Nat.beq n 0 <;> cases Nat.beq (n % 2) 1 <;> rfl
def To.M5 {α:Type}:Nat->To α->Nat->α->To α
 |0,t,_,_=>t
 | f + 1,.leaf,n,x=>
   match Nat.beq n 0 with
   |true=> .node .leaf (some x) .leaf
   | false=>match Nat.beq (n % 2) 1 with
     |true=> .node (To.M5 f .leaf (n / 2) x) none .leaf
     |false=> .node .leaf none (To.M5 f .leaf (n / 2-1) x)
 | f + 1,.node l v r,n,x=>
   match Nat.beq n 0 with
   |true=> .node l (some x) r
   | false=>match Nat.beq (n % 2) 1 with
     |true=> .node (To.M5 f l (n / 2) x) v r
     |false=> .node l v (To.M5 f r (n / 2-1) x)
noncomputable def To.set {α:Type} (t:To α):Nat->α->To α:=
 To.rec (motive:=λ_=>Nat->α->To α)
  (λn x=>Bool.rec (motive:=λ_=>To α) (To.M5 (Nat.succ n) .leaf n x) (.node .leaf (some x) .leaf) (Nat.beq n 0))
  (λl v r a b n x=>Bool.rec (motive:=λ_=>To α) (Bool.rec (motive:=λ_=>To α) (.node l v (b (Nat.sub (Nat.div n 2) 1) x)) (.node (a (Nat.div n 2) x) v r) (Nat.beq (Nat.mod n 2) 1)) (.node l (some x) r) (Nat.beq n 0)) t
theorem To.O0 {α:Type} (x:α):∀(f:Nat) (t:To α) (n m:Nat),n<f->(t.M5 f n x).get m=if n=m then some x else t.get m:=by
 intro f
 induction f with
 |zero=>intro t n m h;omega
 | succ f j =>
   intro t n m h
   cases t with
   | leaf =>
     unfold To.M5
     cases h0:Nat.beq n 0 with
     | true=>
       have e:n=0:=tU h0;subst e
       cases m with
       |zero=>simp[To.nz,To.mh]
       | succ m=>
         have c:Nat.beq (m+1) 0=false:=rfl;simp only[To.nz,To.mh,c]
         cases Nat.beq ((m+1) % 2) 1 <;> simp
     | false =>
       have i:n≠0:=λe=>by subst e;cases h0
       cases d:Nat.beq (n % 2) 1 with
       | true=>
         have c:n % 2=1:=tU d;simp only[To.nz,To.mh]
         cases b:Nat.beq m 0 with
         | true=>
           have e:m=0:=tU b
           simp[e,i]
         | false=>
           have k:m≠0:=λe=>by subst e;cases b
           cases a:Nat.beq (m % 2) 1 with
           | true=>
             have g:m % 2=1:=tU a;simp only[j .leaf (n / 2) (m / 2) (by omega),To.nz,To.mh];by_cases e:n=m
             ·simp[e]
             ·rw[if_neg e,if_neg (by omega)]
           | false=>
             have g:m % 2≠1:=λe=>by rw[e]at a;cases a
             rw[if_neg (by omega)]
       | false=>
         have c:n % 2≠1:=λe=>by rw[e]at d;cases d
         simp only[To.nz,To.mh]
         cases b:Nat.beq m 0 with
         | true=>
           have e:m=0:=tU b
           simp[e,i]
         | false=>
           have k:m≠0:=λe=>by subst e;cases b
           cases a:Nat.beq (m % 2) 1 with
           | true=>
             have g:m % 2=1:=tU a;simp only
             rw[if_neg (by omega)]
           | false=>
             have g:m % 2≠1:=λe=>by rw[e]at a;cases a
             simp only[j .leaf (n / 2-1) (m / 2-1) (by omega),To.nz,To.mh];by_cases e:n=m
             ·simp[e]
             ·rw[if_neg e,if_neg (by omega)]
   | node l v r=>
     unfold To.M5
     cases h0:Nat.beq n 0 with
     | true=>
       have e:n=0:=tU h0;subst e
       cases m with
       |zero=>simp[To.nz,To.mh]
       | succ m=>
         have c:Nat.beq (m+1) 0=false:=rfl;simp only[To.nz,To.mh,c]
         rw[if_neg (by omega)]
     | false =>
       have i:n≠0:=λe=>by subst e;cases h0
       cases d:Nat.beq (n % 2) 1 with
       | true=>
         have c:n % 2=1:=tU d;simp only[To.nz,To.mh]
         cases b:Nat.beq m 0 with
         | true=>
           have e:m=0:=tU b
           simp[e,i]
         | false=>
           have k:m≠0:=λe=>by subst e;cases b
           cases a:Nat.beq (m % 2) 1 with
           | true=>
             have g:m % 2=1:=tU a;simp only[j l (n / 2) (m / 2) (by omega)];by_cases e:n=m
             ·simp[e]
             ·rw[if_neg e,if_neg (by omega)]
           | false=>
             have g:m % 2≠1:=λe=>by rw[e]at a;cases a
             simp only
             rw[if_neg (by omega)]
       | false=>
         have c:n % 2≠1:=λe=>by rw[e]at d;cases d
         simp only[To.nz,To.mh]
         cases b:Nat.beq m 0 with
         | true=>
           have e:m=0:=tU b
           simp[e,i]
         | false=>
           have k:m≠0:=λe=>by subst e;cases b
           cases a:Nat.beq (m % 2) 1 with
           | true=>
             have g:m % 2=1:=tU a;simp only
             rw[if_neg (by omega)]
           | false=>
             have g:m % 2≠1:=λe=>by rw[e]at a;cases a
             simp only[j r (n / 2-1) (m / 2-1) (by omega)];by_cases e:n=m
             ·simp[e]
             ·rw[if_neg e,if_neg (by omega)]
theorem To.G4 {α:Type} (t:To α) (n m:Nat) (x:α):(t.set n x).get m=if n=m then some x else t.get m:=by
 induction t generalizing n m with
 | leaf=>
   show(Bool.rec (motive:=λ_=>To α) (To.M5 (Nat.succ n) .leaf n x) (.node .leaf (some x) .leaf) (Nat.beq n 0)).get m=_
   cases h0:Nat.beq n 0 with
   | true=>
     have e:n=0:=tU h0;subst e;have:=To.O0 x 1 .leaf 0 m (by omega)
     exact this
   |false=>exact To.O0 x (n+1) .leaf n m (by omega)
 | node l v r c d=>
   show(Bool.rec (motive:=λ_=>To α) (Bool.rec (motive:=λ_=>To α) (.node l v (r.set (n / 2-1) x)) (.node (l.set (n / 2) x) v r) (Nat.beq (n % 2) 1)) (.node l (some x) r) (Nat.beq n 0)).get m=_
   cases h0:Nat.beq n 0 with
   | true=>
     have e:n=0:=tU h0;subst e
     cases m with
     |zero=>simp[To.mh]
     | succ m=>
       have f:Nat.beq (m+1) 0=false:=rfl;simp only[To.mh,f]
       rw[if_neg (by omega)]
   | false =>
     have i:n≠0:=λe=>by subst e;cases h0
     cases g:Nat.beq (n % 2) 1 with
     | true=>
       have f:n % 2=1:=tU g;simp only[To.mh]
       cases b:Nat.beq m 0 with
       | true=>
         have e:m=0:=tU b
         simp[e,i]
       | false=>
         have j:m≠0:=λe=>by subst e;cases b
         cases a:Nat.beq (m % 2) 1 with
         | true=>
           have h:m % 2=1:=tU a;simp only[c];by_cases e:n=m
           ·simp[e]
           ·rw[if_neg e,if_neg (by omega)]
         | false=>
           have h:m % 2≠1:=λe=>by rw[e]at a;cases a
           simp only
           rw[if_neg (by omega)]
     | false=>
       have f:n % 2≠1:=λe=>by rw[e]at g;cases g
       simp only[To.mh]
       cases b:Nat.beq m 0 with
       | true=>
         have e:m=0:=tU b
         simp[e,i]
       | false=>
         have j:m≠0:=λe=>by subst e;cases b
         cases a:Nat.beq (m % 2) 1 with
         | true=>
           have h:m % 2=1:=tU a;simp only
           rw[if_neg (by omega)]
         | false=>
           have h:m % 2≠1:=λe=>by rw[e]at a;cases a
           simp only[d];by_cases e:n=m
           ·simp[e]
           ·rw[if_neg e,if_neg (by omega)]
structure Q4 (α:Type) where
 a:α
 b:α
 c:α
 d:α
def QT (α:Type)(n:Nat):Type:=Nat.rec (motive:=λ_=>Type) (To α) (λ_ a=>Q4 a) n
structure QG (α β:Type) where
 f:α->β
structure QU (α β:Type) where
 f:β->α->α
noncomputable def Ti{β:Type}(i:Nat)(w x y z:β):β:=Bool.rec (motive:=λ_=>β) (Bool.rec (motive:=λ_=>β) (Bool.rec (motive:=λ_=>β) z y (Nat.beq (Nat.mod i 4) 2)) x (Nat.beq (Nat.mod i 4) 1)) w (Nat.beq (Nat.mod i 4) 0)
theorem Yu{β:Type}{i:Nat}(h:i % 4=0)(w x y z:β):Ti i w x y z=w:=by unfold Ti;rw[show Nat.mod i 4=0 from h];rfl
theorem Zu{β:Type}{i:Nat}(h:i % 4=1)(w x y z:β):Ti i w x y z=x:=by unfold Ti;rw[show Nat.mod i 4=1 from h];rfl
theorem Zm{β:Type}{i:Nat}(h:i % 4=2)(w x y z:β):Ti i w x y z=y:=by unfold Ti;rw[show Nat.mod i 4=2 from h];rfl
theorem YE{β:Type}{i:Nat}(h:i % 4=3)(w x y z:β):Ti i w x y z=z:=by unfold Ti;rw[show Nat.mod i 4=3 from h];rfl
noncomputable def qg (α:Type) (n:Nat):Nat->QG (QT α n) (Option α):=
 Nat.rec (motive:=λn=>Nat->QG (QT α n) (Option α)) (λi=>⟨λx=>To.get x i⟩)
  (λ_ e i=>Ti i
   ⟨λq=>Q4.rec (motive:=λ_=>Option α) (λa _ _ _=>(e (Nat.div i 4)).f a) q⟩
   ⟨λq=>Q4.rec (motive:=λ_=>Option α) (λ_ b _ _=>(e (Nat.div i 4)).f b) q⟩
   ⟨λq=>Q4.rec (motive:=λ_=>Option α) (λ_ _ c _=>(e (Nat.div i 4)).f c) q⟩
   ⟨λq=>Q4.rec (motive:=λ_=>Option α) (λ_ _ _ d=>(e (Nat.div i 4)).f d) q⟩) n
noncomputable def qs (α:Type) (n:Nat):Nat->QU (QT α n) α:=
 Nat.rec (motive:=λn=>Nat->QU (QT α n) α) (λi=>⟨λv x=>To.set x i v⟩)
  (λn e i=>Ti i
   ⟨λv q=>Q4.rec (motive:=λ_=>Q4 (QT α n)) (λa b c d=>⟨(e (Nat.div i 4)).f v a,b,c,d⟩) q⟩
   ⟨λv q=>Q4.rec (motive:=λ_=>Q4 (QT α n)) (λa b c d=>⟨a,(e (Nat.div i 4)).f v b,c,d⟩) q⟩
   ⟨λv q=>Q4.rec (motive:=λ_=>Q4 (QT α n)) (λa b c d=>⟨a,b,(e (Nat.div i 4)).f v c,d⟩) q⟩
   ⟨λv q=>Q4.rec (motive:=λ_=>Q4 (QT α n)) (λa b c d=>⟨a,b,c,(e (Nat.div i 4)).f v d⟩) q⟩) n
noncomputable def q0 (α:Type)(n:Nat):QT α n:=Nat.rec (motive:=λn=>QT α n) (To.leaf:To α) (λ_ a=>(⟨a,a,a,a⟩:Q4 _)) n
theorem RJ (α:Type) (n i:Nat):qg α (n+1) i=Ti i
   ⟨λq=>Q4.rec (motive:=λ_=>Option α) (λa _ _ _=>(qg α n (i / 4)).f a) q⟩
   ⟨λq=>Q4.rec (motive:=λ_=>Option α) (λ_ b _ _=>(qg α n (i / 4)).f b) q⟩
   ⟨λq=>Q4.rec (motive:=λ_=>Option α) (λ_ _ c _=>(qg α n (i / 4)).f c) q⟩
   ⟨λq=>Q4.rec (motive:=λ_=>Option α) (λ_ _ _ d=>(qg α n (i / 4)).f d) q⟩:=rfl
theorem WM (α:Type) (n i:Nat):qs α (n+1) i=Ti i
   ⟨λv q=>Q4.rec (motive:=λ_=>Q4 (QT α n)) (λa b c d=>⟨(qs α n (i / 4)).f v a,b,c,d⟩) q⟩
   ⟨λv q=>Q4.rec (motive:=λ_=>Q4 (QT α n)) (λa b c d=>⟨a,(qs α n (i / 4)).f v b,c,d⟩) q⟩
   ⟨λv q=>Q4.rec (motive:=λ_=>Q4 (QT α n)) (λa b c d=>⟨a,b,(qs α n (i / 4)).f v c,d⟩) q⟩
   ⟨λv q=>Q4.rec (motive:=λ_=>Q4 (QT α n)) (λa b c d=>⟨a,b,c,(qs α n (i / 4)).f v d⟩) q⟩:=rfl
theorem NN (α:Type):∀(n i:Nat),(qg α n i).f (q0 α n)=none
 |0,i=>rfl
 | n+1,i=>by
   rw[RJ];have h:i % 4=0\/i % 4=1\/i % 4=2\/i % 4=3:=by omega
   rcases h with h|h|h|h
   ·rw[Yu h];exact NN α n (i / 4)
   ·rw[Zu h];exact NN α n (i / 4)
   ·rw[Zm h];exact NN α n (i / 4)
   ·rw[YE h];exact NN α n (i / 4)
theorem Yp (α:Type) (v:α):∀(n i j:Nat) (q:QT α n),(qg α n j).f ((qs α n i).f v q)=if i=j then some v else(qg α n j).f q
 |0,i,j,q=>To.G4 q i j v
 | n + 1,i,j,q=>by
   obtain⟨a,b,c,d⟩:=(q:Q4 (QT α n))
   have hi:i % 4=0\/i % 4=1\/i % 4=2\/i % 4=3:=by omega
   have e:j % 4=0\/j % 4=1\/j % 4=2\/j % 4=3:=by omega
   have k:=λq=>Yp α v n (i / 4) (j / 4) q;rw[RJ,WM];rcases hi with hi|hi|hi|hi <;> rcases e with e|e|e|e
   all_goals first
     |rw[Yu hi]|rw[Zu hi]|rw[Zm hi]|rw[YE hi]
   all_goals first
     |rw[Yu e]|rw[Zu e]|rw[Zm e]|rw[YE e]
   all_goals first
     |(rw[if_neg (show ¬i=j by omega)];done)
     |(have g:∀q,(qg α n (j / 4)).f ((qs α n (i / 4)).f v q)=if i=j then some v else(qg α n (j / 4)).f q:=λq=>by
         rw[k q];by_cases h:i=j
         ·rw[if_pos h,if_pos (by omega)]
         ·rw[if_neg h,if_neg (by omega)]
       first
         |exact g a
         |exact g b
         |exact g c
         |exact g d)
def Tr (α:Type):Type:=QT α 4
noncomputable def Tr.leaf{α:Type}:Tr α:=q0 α 4
noncomputable def Tr.get{α:Type}(t:Tr α)(n:Nat):Option α:=(qg α 4 n).f t
noncomputable def Tr.set{α:Type}(t:Tr α)(n:Nat)(x:α):Tr α:=(qs α 4 n).f x t
theorem Tr.nz{α:Type}(n:Nat):(Tr.leaf:Tr α).get n=none:=NN α 4 n
theorem Tr.G4{α:Type}(t:Tr α)(n m:Nat)(x:α):(t.set n x).get m=if n=m then some x else t.get m:=Yp α x 4 n m t
inductive O where
 |cells (e sz:Nat) (live ro:Bool) (cs:List V)
 |map (b:List (V×V×Nat)) (a:Nat)
 |iter (m:Option Nat) (since:Nat) (seen:List Nat) (last:Nat)
 deriving Inhabited
structure Hp where
 next:Nat
 tr:Tr O
noncomputable def Hp.get (h:Hp)(l:Nat):Option O:=Bool.rec (motive:=λ_=>Option O) none (h.tr.get l) (Nat.blt l h.next)
theorem Hp.get_eq (h:Hp) (l:Nat):h.get l=if l<h.next then h.tr.get l else none:=by
 show Bool.rec (motive:=λ_=>Option O) none (h.tr.get l) (Nat.blt l h.next)=_
 cases hb:Nat.blt l h.next with
 |true=>rw[if_pos (by rw[LS]at hb;exact hb)]
 |false=>rw[if_neg (λe=>by rw[<-LS]at e;rw[e]at hb;cases hb)]
theorem Hp.KV {h:Hp} {l:Nat} {o:O} (a:h.get l=some o):l<h.next:=by
 rw[Hp.get_eq]at a;split at a
 ·assumption
 ·cases a
noncomputable def Hp.put (h:Hp)(l:Nat)(o:O):Hp:={h with tr:=h.tr.set l o}
noncomputable def Hp.new (h:Hp)(o:O):Hp:={next:=h.next+1,tr:=h.tr.set h.next o}
noncomputable def OX:List V->Nat->Tr V->Tr V
 |[],_,t=>t
 |v::vs,i,t=>OX vs (i+1) (t.set i v)
inductive Tm where
 |tree (t:Tr V) (ds:List (Nat×List V))
 |fn (f:Nat->V) (ds:List (Nat×List V))
noncomputable def jl (t:Tm) (i:Nat):V:=
 Tm.rec (motive:=λ_=>V) (λt _=>Option.rec (motive:=λ_=>V) V.undef (λv=>v) (t.get i)) (λf _=>f i) t
noncomputable def gv (f:Nat->V)(d:Nat)(v:V):Nat->V:=λi=>Bool.rec (motive:=λ_=>V) (f i) v (Nat.beq i d)
noncomputable def Tm.set (t:Tm) (d:Nat) (v:V):Tm:=
 Tm.rec (motive:=λ_=>Tm) (λt ds=> .tree (t.set d v) ds) (λf ds=> .fn (gv f d v) ds) t
def Tm.ds:Tm->List (Nat×List V)
 | .tree _ ds=>ds
 | .fn _ ds=>ds
def Tm.push (x:Nat×List V):Tm->Tm
 | .tree t ds=> .tree t (x::ds)
 | .fn f ds=> .fn f (x::ds)
theorem Js (t:Tm) (d i:Nat) (v:V):jl (t.set d v) i=if d=i then v else jl t i:=by
 cases t with
 | tree t ds=>
   show Option.rec (motive:=λ_=>V) V.undef (λv=>v) ((t.set d v).get i)=_;rw[Tr.G4];by_cases h:d=i
   ·rw[if_pos h,if_pos h]
   ·rw[if_neg h,if_neg h];rfl
 | fn f ds=>
   show Bool.rec (motive:=λ_=>V) (f i) v (Nat.beq i d)=_
   cases hb:Nat.beq i d with
   |true=>rw[if_pos (tU hb).symm]
   |false=>rw[if_neg (λe=>by subst e;rw[MV]at hb;cases hb)];rfl
theorem Tm.Ue (t:Tm)(d:Nat)(v:V):(t.set d v).ds=t.ds:=by cases t <;> rfl
theorem Tm.W6 (t:Tm)(x:Nat×List V):(t.push x).ds=x::t.ds:=by cases t <;> rfl
theorem SZ (t:Tm)(x:Nat×List V)(i:Nat):jl (t.push x) i=jl t i:=by cases t <;> rfl
noncomputable def Qn (args:List V):Tm:= .tree (OX args 0 .leaf) []
def fW (args:List V):Tm:= .fn (λi=>(args[i]?).getD .undef) []
noncomputable def P0:Program:=Tryd.prog
attribute [irreducible] P0
def Z1:List (Nat×Array Value):=[]
noncomputable section ops
def oB{α β:Type}(x:Option α)(k:α->Option β):Option β:=Option.rec (motive:=λ_=>Option β) none k x
def bB{β:Type}(c:Bool)(k:Option β):Option β:=Bool.rec (motive:=λ_=>Option β) none k c
def xJ {β:Type} (v:V) (k:Nat->Nat->Option β):Option β:=match v with
 | .ptr l o=>k l o
 |_=>none
def asNat {β:Type} (v:V) (k:Nat->Option β):Option β:=match v with
 | .int _ (.ofNat n)=>k n
 |_=>none
def wU (t:Nat):Option Nat:=oB (P0.info? t) λi=>some i.size
def WG (t:Nat):Option Nat:=oB (P0.info? t) λi=>some i.bytes
def JD (t:Nat):Option Bool:=match P0.underlying t with
 |some (.struct _)=>some true
 |some (.array _ _)=>some true
 |some _=>some false
 |none=>none
def zeroV (t:Nat):Option V:=oB (P0.info? t) λi=>oB i.zero λz=>lK 8 z
def takeN:Nat->List V->Option (List V)
 |0,_=>some []
 |_+1,[]=>none
 |n+1,v::vs=>oB (takeN n vs) λl=>some (v::l)
def sub (cs:List V)(off n:Nat):Option (List V):=takeN n (cs.drop off)
def AB (cs:List V)(off:Nat):Option V:=(cs.drop off).head?
def over:List V->List V->Option (List V)
 |[],cs=>some cs
 |_::_,[]=>none
 |n::ns,_::cs=>oB (over ns cs) λl=>some (n::l)
def pC:Nat->List V->List V->Option (List V)
 |0,cs,new=>over new cs
 |_+1,[],_=>none
 |k+1,c::cs,new=>oB (pC k cs new) λl=>some (c::l)
def fV:List V->Bool
 |[]=>true
 |v::vs=>Bool.rec (motive:=λ_=>Bool) false (fV vs) v.one
def jq {β:Type} (h:Hp) (l:Nat) (k:Nat->Nat->Bool->Bool->List V->Option β):Option β:=oB (h.get l) λo=>match o with
 | .cells e sz live ro cs=>k e sz live ro cs
 |_=>none
def xh {β:Type} (h:Hp) (l:Nat) (k:List (V×V×Nat)->Nat->Option β):Option β:=oB (h.get l) λo=>match o with
 | .map a c=>k a c
 |_=>none
def Ey (h:Hp)(l off n:Nat):Option (List V):=jq h l λ_ _ live _ cs=>bB live (sub cs off n)
def ZR (h:Hp)(l off:Nat):Option V:=jq h l λ_ _ live _ cs=>bB live (AB cs off)
def CB (h:Hp) (l off:Nat) (new:List V):Option Hp:=jq h l λe sz live ro cs=>
 bB live (bB (!ro) (bB (fV new) (oB (pC off cs new) λmR=>some (h.put l (.cells e sz true false mR)))))
structure PF where
 f:Tm->Hp->Option V
structure NF where
 f:Tm->Option V
structure AF where
 f:Tm->Option (O×(Nat->V))
def K5:Operand->NF
 | .tmp i=>⟨λt=>some (jl t i)⟩
 | .const v=>match lK 8 v with
   |some v=>⟨λ_=>some v⟩
   |none=>⟨λ_=>none⟩
 | .global _=>⟨λ_=>none⟩
 | .func f=>⟨λ_=>some (.func f [] [])⟩
def rB (x:Operand):PF:=match x with
 | .global g=>match Nat.blt g P0.globals.size with
   |true=>⟨λ_ h=>oB (h.get g) λ_=>some (.ptr g 0)⟩
   |false=>⟨λ_ _=>none⟩
 |x=>⟨λt _=>(K5 x).f t⟩
def GQ (t:Tm):List Operand->Option (List V)
 |[]=>some []
 |x::xs=>oB ((K5 x).f t) λv=>oB (GQ t xs) λvs=>some (v::vs)
def si (t:Tm):List (Nat×Operand)->Option (List (Nat×V))
 |[]=>some []
 |x::xs=>oB ((K5 x.2).f t) λv=>oB (si t xs) λvs=>some ((x.1,v)::vs)
def IA (t:Nat) (a:PF):PF:=match JD t with
 | some true=>match wU t with
   |some n=>⟨λt h=>oB (a.f t h) λa=>xJ a λl off=>oB (Ey h l off n) λcs=>some (.agg cs)⟩
   |none=>⟨λ_ _=>none⟩
 |some false=>⟨λt h=>oB (a.f t h) λa=>xJ a λl off=>ZR h l off⟩
 |none=>⟨λ_ _=>none⟩
def placesOf:List Field->Option (List (Nat×Nat))
 |[]=>some []
 |f::fs=>oB (wU f.type) λn=>oB (placesOf fs) λl=>some ((f.offset,n)::l)
def Bn (place:Nat->Option (Nat×Nat)):List V->List (Nat×V)->Option (List V)
 |cells,[]=>some cells
 |cells,x::rest=>oB (place x.1) λp=>bB (Nat.beq x.2.cells.length p.2) (oB (pC p.1 cells x.2.cells) λcs=>Bn place cs rest)
def yT:Nat->List V->List V
 |0,_=>[]
 |n+1,z=>z++yT n z
def FL (t:Nat) (parts:List (Nat×Operand)):PF:=match zeroV t with
 | some z=>match P0.underlying t with
   | some (.struct fields)=>match placesOf fields.toList with
     |some a=>⟨λt _=>oB (si t parts) λps=>oB (Bn (λi=>a[i]?) z.cells ps) λcs=>some (.agg cs)⟩
     |none=>⟨λ_ _=>none⟩
   | some (.array _ elem)=>match wU elem with
     |some size=>⟨λt _=>oB (si t parts) λps=>oB (Bn (λi=>some (Nat.mul i size,size)) z.cells ps) λcs=>some (.agg cs)⟩
     |none=>⟨λ_ _=>none⟩
   |_=>⟨λ_ _=>none⟩
 |none=>⟨λ_ _=>none⟩
def mO (k:IntKind) (n:Int):Int:=match n with
 | .ofNat m=>match Nat.blt m (match k with| .i8=>128| .u8=>256| .i16=>32768| .u16=>65536| .i32=>2147483648| .u32=>4294967296| .i64=>9223372036854775808| .u64=>18446744073709551616)with
   |true=> .ofNat m
   |false=>k.wrap (.ofNat m)
 | .negSucc m=>k.wrap (.negSucc m)
def hint (op:BinOp) (k:IntKind) (x y:Int):Option V:=match op with
 | .add=>some (.int k (mO k (x+y)))
 | .sub=>some (.int k (mO k (x-y)))
 | .mul=>some (.int k (mO k (x*y)))
 | .quo=>match x,y with
   |_,.ofNat 0=>none
   |x,y=>some (.int k (mO k (x.tdiv y)))
 | .rem=>match x,y with
   |_,.ofNat 0=>none
   |x,y=>some (.int k (x.tmod y))
 | .and=>some (.int k (k.wrap ((BitVec.ofInt k.bits x&&&BitVec.ofInt k.bits y).toNat)))
 | .or=>some (.int k (k.wrap ((BitVec.ofInt k.bits x |||BitVec.ofInt k.bits y).toNat)))
 | .xor=>some (.int k (k.wrap ((BitVec.ofInt k.bits x ^^^ BitVec.ofInt k.bits y).toNat)))
 | .andNot=>some (.int k (k.wrap ((BitVec.ofInt k.bits x&&&~~~ BitVec.ofInt k.bits y).toNat)))
 | .eql=>some (.bool (x == y))
 | .neq=>some (.bool (x != y))
 | .lss=>some (.bool (x<y))
 | .leq=>some (.bool (x<=y))
 | .gtr=>some (.bool (x>y))
 | .geq=>some (.bool (x>=y))
 |_=>none
def QJ (op:BinOp) (k:IntKind) (x y:Int):Option V:=match y with
 | .negSucc _=>none
 | .ofNat m=>match op with
   | .shl=>some (.int k (k.wrap (x*2 ^ (min m k.bits))))
   | .shr=>some (.int k (x.fdiv (2 ^ (min m k.bits))))
   |_=>none
def YA (op:BinOp) (x y:List UInt8):Option V:=match op with
 | .add=>match Nat.ble (x.length+y.length) 4611686018427387904 with
   |true=>some (.str (x++y))
   |false=>none
 | .eql=>some (.bool (x == y))
 | .neq=>some (.bool (!(x == y)))
 | .lss=>some (.bool (Op.bytesLess x y))
 | .leq=>some (.bool (Op.bytesLess x y ||x == y))
 | .gtr=>some (.bool (!(Op.bytesLess x y ||x == y)))
 | .geq=>some (.bool (!(Op.bytesLess x y)))
 |_=>none
def UP (d:TypeDesc) (x y:V):Option Bool:=match d,x,y with
 | .bool,.bool a,.bool b=>some (a == b)
 | .pointer _,.nilPtr,.nilPtr=>some true
 | .pointer _,.nilPtr,.ptr _ _=>some false
 | .pointer _,.ptr _ _,.nilPtr=>some false
 | .slice _,.ec,.ec=>some true
 | .slice _,.ec,.slice _ _ _=>some false
 | .slice _,.slice _ _ _,.ec=>some false
 | .map _ _,.j9,.j9=>some true
 | .map _ _,.j9,.map _=>some false
 | .map _ _,.map _,.j9=>some false
 | .func _ _ _,.nilFunc,.nilFunc=>some true
 | .func _ _ _,.nilFunc,.func _ _ _=>some false
 | .func _ _ _,.func _ _ _,.nilFunc=>some false
 | .interface ms,.nilIface,.nilIface=>bB ms.isEmpty (some true)
 | .interface _,.nilIface,.iface _ _=>some false
 | .interface _,.iface _ _,.nilIface=>some false
 |_,_,_=>none
def Np:IntKind->IntKind->Bool
 | .i8,.i8| .i16,.i16| .i32,.i32| .i64,.i64| .u8,.u8| .u16,.u16| .u32,.u32| .u64,.u64=>true
 |_,_=>false
def Vm (t:Nat) (x y:V):Option Bool:=match P0.underlying t with
 |some d=>UP d x y
 |none=>none
def eq1 (d:Option TypeDesc) (x y:V):Option Bool:=match d,x,y with
 |some .bool,.bool a,.bool b=>some (a == b)
 |some (.int _),.int k a,.int k' b=>bB (Np k k') (some (a == b))
 |some .string,.str a,.str b=>some (a == b)
 |_,_,_=>none
def Gf:List Field->List V->List V->Option Bool
 |[],_,_=>some true
 |f::fs,xs,ys=>bB (!(f.name == "_")) (oB (AB xs f.offset) λx=>oB (AB ys f.offset) λy=>oB (eq1 (P0.underlying f.type) x y) λb=>Bool.rec (motive:=λ_=>Option Bool) (some false) (Gf fs xs ys) b)
def Um (t:Nat) (xs ys:List V):Option Bool:=match P0.underlying t with
 |some (.struct fs)=>bB (!(P0.stoodInHeld t)) (bB (!(P0.eqGuardType P0.depth t)) (Gf fs.toList xs ys))
 |_=>none
def YV (t:Nat) (x y:V):Option Bool:=match x,y with
 | .agg xs,.agg ys=>Um t xs ys
 |_,_=>Vm t x y
def Sc (t:Nat)(a:Bool)(x y:V):Option V:=oB (YV t x y) λb=>some (.bool (Bool.rec (motive:=λ_=>Bool) b (!b) a))
def QR:BinOp->Bool
 | .shl| .shr=>true
 |_=>false
def er (op:BinOp) (t:Nat) (x y:V):Option V:=match x,y with
 | .int k a,.int k' b=>match QR op with
   |true=>QJ op k a b
   |false=>bB (Np k k') (hint op k a b)
 | .str a,.str b=>YA op a b
 | x,y=>match op with
   | .eql=>Sc t false x y
   | .neq=>Sc t true x y
   |_=>none
def sr (op:UnOp) (x:V):Option V:=match op,x with
 | .neg,.int k n=>some (.int k (mO k (Int.sub 0 n)))
 | .not,.bool b=>some (.bool !b)
 | .xor,.int k n=>hint .xor k (if k.signed then -1 else k.max) n
 |_,_=>none
def byteOf:V->Option UInt8
 | .int .u8 (.ofNat m)=>bB (Nat.blt m 256) (some (UInt8.ofNat m))
 |_=>none
def bytesOf:List V->Option (List UInt8)
 |[]=>some []
 |v::vs=>oB (byteOf v) λb=>oB (bytesOf vs) λl=>some (b::l)
def Io (src dst:Nat) (x:PF):PF:=match P0.underlying src,P0.underlying dst with
 | some (.int _),some (.int k)=>⟨λt h=>oB (x.f t h) λx=>match x with
   | .int _ n=>some (.int k (mO k n))
   |_=>none⟩
 | some .string,some .string=>⟨λt h=>oB (x.f t h) λx=>match x with
   | .str s=>some (.str s)
   |_=>none⟩
 | some (.slice e),some .string=>match P0.underlying e with
   | some (.int .u8)=>⟨λt h=>oB (x.f t h) λx=>match x with
     | .ec=>some (.str [])
     | .slice l off n=>oB (Ey h l off n) λcs=>oB (bytesOf cs) λs=>some (.str s)
     |_=>none⟩
   |_=>⟨λ_ _=>none⟩
 |_,_=>⟨λ_ _=>none⟩
def NC (t:Nat):List V->Nat->Option V:=match JD t with
 | some true=>match wU t with
   |some n=>λcs off=>oB (sub cs off n) λl=>some (.agg l)
   |none=>λ_ _=>none
 |some false=>λcs off=>AB cs off
 |none=>λ_ _=>none
def Jb (s f:Nat):Option Field:=match P0.underlying s with
 |some (.struct fields)=>fields.toList[f]?
 |_=>none
def mI (s:Nat) (x:PF) (f:Nat):PF:=match Jb s f with
 | some a=>match wU a.type with
   |some (_+1)=>⟨λt h=>oB (x.f t h) λx=>xJ x λl off=>some (.ptr l (Nat.add off a.offset))⟩
   |_=>⟨λ_ _=>none⟩
 |none=>⟨λ_ _=>none⟩
def FT (s:Nat) (x:PF) (f:Nat):PF:=match Jb s f with
 | some a=>⟨λt h=>oB (x.f t h) λx=>match x with
   | .agg cs=>NC a.type cs a.offset
   |_=>none⟩
 |none=>⟨λ_ _=>none⟩
def mF (t:Nat) (x i:PF):PF:=match P0.underlying t with
 | some (.slice elem)=>match wU elem with
   | some n=>⟨λt h=>oB (x.f t h) λx=>oB (i.f t h) λi=>asNat i λi=>match x with
     | .slice l off len=>bB (Nat.blt i len) (some (.ptr l (Nat.add off (Nat.mul i n))))
     |_=>none⟩
   |none=>⟨λ_ _=>none⟩
 | some (.array len elem)=>match wU elem with
   |some n=>⟨λt h=>oB (x.f t h) λx=>oB (i.f t h) λi=>asNat i λi=>xJ x λl off=>bB (Nat.blt i len) (some (.ptr l (Nat.add off (Nat.mul i n))))⟩
   |none=>⟨λ_ _=>none⟩
 |_=>⟨λ_ _=>none⟩
def FA (t:Nat) (x i:PF):PF:=match P0.underlying t with
 | some (.array len elem)=>match wU elem with
   | some n=>⟨λt h=>oB (x.f t h) λx=>oB (i.f t h) λi=>asNat i λi=>match x with
     | .agg cs=>bB (Nat.blt i len) (NC elem cs (Nat.mul i n))
     |_=>none⟩
   |none=>⟨λ_ _=>none⟩
 | some .string=>⟨λt h=>oB (x.f t h) λx=>oB (i.f t h) λi=>asNat i λi=>match x with
   | .str s=>oB ((s.drop i).head?) λb=>some (.int .u8 (.ofNat b.toNat))
   |_=>none⟩
 |_=>⟨λ_ _=>none⟩
def hbound (d:Nat):Option V->Option Nat
 |none=>some d
 |some (.int _ (.ofNat n))=>some n
 |some _=>none
def iJ (size:Nat) (x:V) (lo hi:Option V) (h:Hp):Option V:=match x with
 | .slice lc off len=>jq h lc λ_ sz _ _ cs=>bB (Nat.beq size sz) (oB (hbound 0 lo) λl=>oB (hbound len hi) λu=>
   bB (Nat.ble l u) (bB (Nat.ble u len ||Nat.ble (Nat.add off (Nat.mul u size)) cs.length) (some (.slice lc (Nat.add off (Nat.mul l size)) (Nat.sub u l)))))
 | .ec=>oB (hbound 0 lo) λl=>oB (hbound 0 hi) λu=>bB (Nat.beq l 0) (bB (Nat.beq u 0) (some .ec))
 |_=>none
def Ng (x:V) (lo hi:Option V):Option V:=match x with
 | .str s=>oB (hbound 0 lo) λl=>oB (hbound s.length hi) λu=>bB (Nat.ble l u) (bB (Nat.ble u s.length) (some (.str ((s.drop l).take (Nat.sub u l)))))
 |_=>none
def GX (x:Option Operand) (t:Tm) (h:Hp):Option (Option V):=match x with
 |none=>some none
 |some x=>oB ((rB x).f t h) λv=>some (some v)
def He (t:Nat) (x:PF) (lo hi:Option Operand):PF:=match P0.underlying t with
 |some .string=>⟨λt h=>oB (x.f t h) λx=>oB (GX lo t h) λl=>oB (GX hi t h) λu=>Ng x l u⟩
 | some (.slice elem)=>match wU elem with
   |some (n+1)=>⟨λt h=>oB (x.f t h) λx=>oB (GX lo t h) λl=>oB (GX hi t h) λu=>iJ (Nat.succ n) x l u h⟩
   |_=>⟨λ_ _=>none⟩
 |_=>⟨λ_ _=>none⟩
def GZ:V->Bool
 | .int _ _| .str _| .bool _=>true
 |_=>false
def Hv:V->Bool
 | .agg cs=>cs.all GZ
 |v=>GZ v
def B4 (t:Nat) (a b:V):Option Bool:=match P0.underlying t with
 | some (.int _)=>match a,b with
   | .int k a,.int k' b=>bB (Np k k') (some (a == b))
   |_,_=>none
 | some .string=>match a,b with
   | .str a,.str b=>some (a == b)
   |_,_=>none
 | some .bool=>match a,b with
   | .bool a,.bool b=>some (a == b)
   |_,_=>none
 |_=>none
def Cn (t:Nat):Bool:=match P0.underlying t with
 |some (.int _)|some .string|some .bool=>true
 |_=>false
def Ip:List Field->List V->List V->Option Bool
 |[],_,_=>some true
 |f::fs,x,y=>oB (AB x f.offset) λa=>oB (AB y f.offset) λb=>oB (B4 f.type a b) λe=>Bool.rec (motive:=λ_=>Option Bool) (some false) (Ip fs x y) e
def FO (t:Nat):Option (Option (List Field)):=match P0.underlying t with
 |some (.int _)|some .string|some .bool=>some none
 | some (.struct fs)=>match !P0.stoodInHeld t&&fs.toList.all (λf=>Cn f.type&&f.name != "_")with
   |true=>some (some fs.toList)
   |false=>none
 |_=>none
def Jt (t:Nat) (d:Option (List Field)) (a b:V):Option Bool:=match d with
 |none=>B4 t a b
 | some fs=>match a,b with
   | .agg x,.agg y=>Ip fs x y
   |_,_=>none
def Fu (d:Option (List Field)) (k:V):Bool:=match d with
 |none=>true
 | some fs=>match k with
   | .agg x=>fs.all λf=>(AB x f.offset).isSome
   |_=>false
def oJ (t:Nat) (d:Option (List Field)) (k:V):List (V×V×Nat)->Nat->Option (Option (Nat×V))
 |[],_=>some none
 |e::es,i=>oB (Jt t d k e.1) λb=>Bool.rec (motive:=λ_=>Option (Option (Nat×V))) (oJ t d k es (Nat.succ i)) (some (some (i,e.2.1))) b
def found (z:V) (ok:Bool) (r:Option (Nat×V)):V:=match r,ok with
 |some (_,v),true=> .tuple [v,.bool true]
 |some (_,v),false=>v
 |none,true=> .tuple [z,.bool false]
 |none,false=>z
def Ek (a:Nat) (m k:PF) (ok:Bool):PF:=match P0.underlying a with
 | some (.map kt et)=>match FO kt,zeroV et with
   |some d,some z=>⟨λt h=>oB (m.f t h) λm=>oB (k.f t h) λk=>bB (Fu d k) (match m with
      | .j9=>some (found z ok none)
      | .map l=>xh h l λb _=>oB (oJ kt d k b 0) λr=>some (found z ok r)
      |_=>none)⟩
   |_,_=>⟨λ_ _=>none⟩
 |_=>⟨λ_ _=>none⟩
def hlen (t:Nat) (x:PF):PF:=match P0.underlying t with
 | some .string=>⟨λt h=>oB (x.f t h) λx=>match x with
   | .str s=>some (.int .i64 (.ofNat s.length))
   |_=>none⟩
 | some (.slice _)=>⟨λt h=>oB (x.f t h) λx=>match x with
   | .slice _ _ n=>some (.int .i64 (.ofNat n))
   | .ec=>some (.int .i64 (.ofNat 0))
   |_=>none⟩
 |some (.array n _)=>⟨λt h=>oB (x.f t h) λ_=>some (.int .i64 (.ofNat n))⟩
 | some (.map _ _)=>⟨λt h=>oB (x.f t h) λx=>match x with
   | .j9=>some (.int .i64 (.ofNat 0))
   | .map l=>xh h l λa _=>some (.int .i64 (.ofNat a.length))
   |_=>none⟩
 |_=>⟨λ_ _=>none⟩
def OW (c:Bool):V->List V->Option V
 |x,[]=>some x
 | .int k a,.int _ b::r=>OW c (.int k (if c then(if b>a then b else a) else(if b<a then b else a))) r
 |_,_=>none
def isIface (t:Nat):Option Bool:=match P0.underlying t with
 |some (.interface _)=>some true
 |some _=>some false
 |none=>none
def Ej (x:PF) (a:Nat) (ok:Bool):PF:=match isIface a,zeroV a with
 | some false,some z=>⟨λt h=>oB (x.f t h) λx=>match x,ok with
   | .iface t v,true=>some (Bool.rec (motive:=λ_=>V) (.tuple [z,.bool false]) (.tuple [v,.bool true]) (Nat.beq t a))
   | .iface t v,false=>bB (Nat.beq t a) (some v)
   | .nilIface,true=>some (.tuple [z,.bool false])
   |_,_=>none⟩
 |_,_=>⟨λ_ _=>none⟩
def IG (c a b:PF):PF:=⟨λt h=>oB (c.f t h) λc=>match c with
 | .bool x=>Bool.rec (motive:=λ_=>Option V) (b.f t h) (a.f t h) x
 |_=>none⟩
def tj (x:PF):PF:=⟨λt h=>oB (x.f t h) λx=>match x with
 | .ptr l off=>some (.ptr l off)
 | .func f a c=>some (.func f a c)
 | .iface u v=>some (.iface u v)
 |_=>none⟩
def Dy (x:PF) (i:Nat):PF:=⟨λt h=>oB (x.f t h) λx=>match x with
 | .tuple vs=>AB vs i
 |_=>none⟩
def VV:PF:=⟨λ_ _=>none⟩
def ir (o:Oper):PF:=match o.op with
 | .move x=>rB x
 | .assign x=>rB x
 | .pick c a b=>IG (rB c) (rB a) (rB b)
 | .load ty a=>IA ty (rB a)
 | .nilCheck x=>tj (rB x)
 | .binOp op e x y _=>⟨λt h=>oB ((rB x).f t h) λa=>oB ((rB y).f t h) λb=>er op e a b⟩
 | .unOp op _ x=>⟨λt h=>oB ((rB x).f t h) λa=>sr op a⟩
 | .convert src dst x=>Io src dst (rB x)
 | .build ty parts=>FL ty parts.toList
 | .makeFunc (.func f) first caps=>⟨λt _=>oB (GQ t first.toList) λa=>oB (GQ t caps.toList) λc=>some (.func f a c)⟩
 | .slice ty x lo hi none=>He ty (rB x) lo hi
 | .fieldAddr s x f=>mI s (rB x) f
 | .field s x f=>FT s (rB x) f
 | .indexAddr ty x i=>mF ty (rB x) (rB i)
 | .index ty x i=>FA ty (rB x) (rB i)
 | .lookup ty m k ok=>Ek ty (rB m) (rB k) ok
 | .extract x i=>Dy (rB x) i
 | .makeInterface ty x=>match isIface ty with
   |some false=>⟨λt h=>oB ((rB x).f t h) λv=>some (.iface ty v)⟩
   |_=>VV
 | .typeAssert x _ d ok=>Ej (rB x) d ok
 | .call c=>match c.callee with
   | .builtin .len=>match c.args.toList,c.argTypes.toList with
     |[x],ty::_=>hlen ty (rB x)
     |_,_=>VV
   | .builtin .min=>⟨λt _=>oB (GQ t c.args.toList) λl=>match l with
     |x::r=>OW false x r
     |[]=>none⟩
   | .builtin .max=>⟨λt _=>oB (GQ t c.args.toList) λl=>match l with
     |x::r=>OW true x r
     |[]=>none⟩
   |_=>VV
 |_=>VV
def nP (e:Nat)(v:V):Option (O×(Nat->V)):=bB (fV v.cells) (some (.cells e 1 true false v.cells,λl=> .ptr l 0))
def CW (a size len:Nat) (z:V) (parts:List (Nat×Operand)) (t:Tm):Option (O×(Nat->V)):=
 oB (si t parts) λps=>oB (Bn (λi=>some (Nat.mul i size,size)) (yT len z.cells) ps) λcs=>
  bB (fV cs) (some (.cells a size true false cs,λl=> .slice l 0 len))
def gR (a size jr:Nat) (z:V) (n c:V):Option (O×(Nat->V)):=match n,c with
 | .int .i64 (.ofNat n),.int .i64 (.ofNat c)=>bB (Nat.ble n c) (bB (Nat.ble (Nat.mul c jr) 281474976710656) (bB (Nat.ble c 1099511627776)
   (some (.cells a size true false (yT c z.cells),λl=> .slice l 0 n))))
 |_,_=>none
def elemOf (a:Nat):Option (Nat×Nat×V):=oB (wU a) λsize=>oB (WG a) λjr=>oB (zeroV a) λz=>
 bB (Nat.blt 0 size) (bB (Nat.beq z.cells.length size) (bB (fV z.cells) (some (size,jr,z))))
def D2 (t:Nat):Option Nat:=match P0.underlying t with
 |some (.slice e)=>some e
 |_=>none
def N4:AF:=⟨λ_=>none⟩
def pd (o:Oper):AF:=match o.op with
 | .alloc e=>match zeroV e with
   |some z=>⟨λ_=>nP e z⟩
   |none=>N4
 | .box e x=>⟨λt=>oB ((K5 x).f t) λv=>nP e v⟩
 | .buildSlice ty len parts=>match D2 ty with
   | some a=>match elemOf a with
     | some (size,_,z)=>match Nat.ble (Nat.mul len size) 16777216 with
       |true=>⟨λt=>CW a size len z parts.toList t⟩
       |false=>N4
     |none=>N4
   |none=>N4
 | .makeSlice ty n c=>match D2 ty with
   | some a=>match elemOf a with
     |some (size,jr,z)=>⟨λt=>oB ((K5 n).f t) λn=>oB ((K5 c).f t) λc=>gR a size jr z n c⟩
     |none=>N4
   |none=>N4
 | .makeMap ty none=>match P0.underlying ty with
   |some (.map _ _)=>⟨λ_=>some (.map [] 0,λl=> .map l)⟩
   |_=>N4
 |_=>N4
inductive R where
 |val (v:V) (h:Hp)
 |call (f:Nat) (args:List V)
structure WF where
 f:Tm->Hp->Option R
def vH (s:List UInt8):List V:=s.map λb=> .int .u8 (.ofNat b.toNat)
def jM (h:Hp) (size:Nat):V->Option (Nat×List V)
 | .ec=>some (0,[])
 | .slice _ _ 0=>some (0,[])
 | .slice l off (n+1)=>oB (Ey h l off (Nat.mul (Nat.succ n) size)) λcs=>some (Nat.succ n,cs)
 | .str s=>bB (Nat.beq size 1) (some (s.length,vH s))
 |_=>none
def eR (a size jr:Nat) (s x:V) (h:Hp):Option R:=oB (jM h size x) λnx=>
 Bool.rec (motive:=λ_=>Option R)
   (bB (fV nx.2) (match s with
     | .ec=>bB (Nat.ble (Nat.mul nx.1 jr) 70368744177664) (bB (Nat.ble nx.1 70368744177664)
         (some (.val (.slice h.next 0 nx.1) (h.new (.cells a size true false nx.2)))))
     | .slice l off len=>jq h l λe sz live ro cs=>bB live (bB (!ro) (bB (Nat.beq sz size)
         (Bool.rec (motive:=λ_=>Option R)
           (oB (sub cs off (Nat.mul len size)) λvR=>bB (fV vR) (bB (Nat.ble (Nat.mul (Nat.add len nx.1) jr) 70368744177664) (bB (Nat.ble (Nat.add len nx.1) 70368744177664)
             (some (.val (.slice h.next 0 (Nat.add len nx.1)) ((h.put l (.cells e sz false false cs)).new (.cells a size true false (vR++nx.2))))))))
           (oB (pC (Nat.add off (Nat.mul len size)) cs nx.2) λmR=>some (.val (.slice l off (Nat.add len nx.1)) (h.put l (.cells e sz true false mR))))
           (Nat.ble (Nat.add off (Nat.mul (Nat.add len nx.1) size)) cs.length))))
     |_=>none))
   (match s with
     | .ec=>some (.val .ec h)
     | .slice l off len=>some (.val (.slice l off len) h)
     |_=>none)
   (Nat.beq nx.1 0)
def U9 (size:Nat) (d s:V) (h:Hp):Option R:=match d with
 | .ec=>match s with
   | .ec| .slice _ _ _| .str _=>some (.val (.int .i64 (.ofNat 0)) h)
   |_=>none
 | .slice l off len=>match s with
   | .ec=>some (.val (.int .i64 (.ofNat 0)) h)
   | .slice e c a=>Bool.rec (motive:=λ_=>Option R)
       (oB (Ey h e c (Nat.mul (min a len) size)) λcs=>oB (CB h l off cs) λh=>some (.val (.int .i64 (.ofNat (min a len))) h))
       (some (.val (.int .i64 (.ofNat 0)) h)) (Nat.beq (min a len) 0)
   | .str b=>bB (Nat.beq size 1) (Bool.rec (motive:=λ_=>Option R)
       (oB (CB h l off (vH (b.take (min b.length len)))) λh=>some (.val (.int .i64 (.ofNat (min b.length len))) h))
       (some (.val (.int .i64 (.ofNat 0)) h)) (Nat.beq (min b.length len) 0))
   |_=>none
 |_=>none
def Hu (t:Nat) (d:Option (List Field)) (b:List (V×V×Nat)) (a:Nat) (k v:V):Option O:=oB (oJ t d k b 0) λr=>match r with
 |some (i,_)=>oB b[i]? λe=>bB (V.beq e.1 k) (bB (Hv k) (some (.map (b.set i (k,v,e.2.2)) a)))
 |none=>some (.map (b++[(k,v,a)]) (Nat.succ a))
def GD (t:Nat) (d:Option (List Field)) (m k v:V) (h:Hp):Option R:=bB (Fu d k) (match m with
 | .map l=>xh h l λa c=>oB (Hu t d a c k v) λo=>some (.val .undef (h.put l o))
 |_=>none)
def zQ (t:Nat) (d:Option (List Field)) (m k:V) (h:Hp):Option R:=bB (Fu d k) (match m with
 | .j9=>some (.val (.tuple []) h)
 | .map l=>xh h l λa c=>oB (oJ t d k a 0) λr=>match r with
   |some (i,_)=>some (.val (.tuple []) (h.put l (.map (a.eraseIdx i) c)))
   |none=>some (.val (.tuple []) h)
 |_=>none)
def TZ (x:V) (h:Hp):Option R:=match x with
 | .slice l off n=>jq h l λe sz live ro cs=>bB live (bB (!ro) (some (.val (.slice l off n) (h.put l (.cells e sz true false cs)))))
 |_=>none
def fU (f:V) (args:List V):Option R:=match f with
 | .func f first a=>some (.call f (first++(args++a)))
 |_=>none
def methodOf (t:Nat) (a:String):Option (Nat×Option Nat):=oB (P0.info? t) λi=>match i.methods.toList.find? (λm=>m.name == a)with
 | some m=>match m.path.toList,m.func,P0.underlying t with
   |[],some (f,true),some (.pointer _)=>some (f,none)
   |[],some (f,false),some (.pointer e)=>some (f,some e)
   |[],some (f,false),some _=>some (f,none)
   |_,_,_=>none
 |none=>none
def MO (a:String) (r:V) (args:List V) (h:Hp):Option R:=match r with
 | .iface t v=>match methodOf t a with
   |some (f,none)=>some (.call f (v::args))
   |some (f,some e)=>oB ((IA e ⟨λ_ _=>some v⟩).f (.tree .leaf []) h) λx=>some (.call f (x::args))
   |none=>none
 |_=>none
def JR (m:V) (h:Hp):Option R:=match m with
 | .j9=>some (.val (.ptr h.next 0) (h.new (.iter none 0 [] 0)))
 | .map l=>xh h l λ_ c=>some (.val (.ptr h.next 0) (h.new (.iter (some l) c [] c)))
 |_=>none
def wm (it:V) (h:Hp):Option R:=xJ it λr off=>bB (Nat.beq off 0) (oB (h.get r) λo=>match o with
 | .iter none _ _ _=>some (.val (.tuple [.bool false]) h)
 | .iter (some m) since seen last=>xh h m λb a=>
   bB (!(!seen.isEmpty&&!b.isEmpty&&b.all (λe=>Nat.ble last e.2.2)))
     (match b.filter (λe=>!seen.contains e.2.2)with
       |[]=>some (.val (.tuple [.bool false]) h)
       |[e]=>bB (Nat.blt e.2.2 since) (some (.val (.tuple [.bool true,e.1,e.2.1]) (h.put r (.iter (some m) since (seen++[e.2.2]) a))))
       |_=>none)
 |_=>none)
def Pr (it:V) (h:Hp):Option R:=xJ it λr off=>bB (Nat.beq off 0) (oB (h.get r) λo=>match o with
 | .iter (some m) _ seen last=>xh h m λb a=>bB (Nat.beq a last) (oB seen.getLast? λst=>oB (b.find? λe=>Nat.beq e.2.2 st) λe=>some (.val (.tuple [e.1,e.2.1]) h))
 |_=>none)
def Aq:WF:=⟨λ_ _=>none⟩
def jz (o:Oper):WF:=match o.op with
 | .store ty a x=>match wU ty with
   |some n=>⟨λt h=>oB ((rB a).f t h) λa=>oB ((rB x).f t h) λv=>xJ a λl off=>
      bB (Nat.beq v.cells.length n) (oB (CB h l off v.cells) λh=>some (.val .undef h))⟩
   |none=>Aq
 | .mapUpdate ty m k x=>match P0.underlying ty with
   | some (.map kt _)=>match FO kt with
     |some d=>⟨λt h=>oB ((rB m).f t h) λm=>oB ((rB k).f t h) λk=>oB ((rB x).f t h) λv=>GD kt d m k v h⟩
     |none=>Aq
   |_=>Aq
 | .insert ty m k x=>match P0.underlying ty with
   | some (.map kt _)=>match FO kt with
     |some d=>⟨λt h=>oB ((rB m).f t h) λm=>oB ((rB k).f t h) λk=>oB ((rB x).f t h) λv=>GD kt d m k v h⟩
     |none=>Aq
   |_=>Aq
 | .range ty x=>match P0.underlying ty with
   |some (.map _ _)=>⟨λt h=>oB ((rB x).f t h) λm=>JR m h⟩
   |_=>Aq
 | .next x false=>⟨λt h=>oB ((rB x).f t h) λm=>wm m h⟩
 | .entry x=>⟨λt h=>oB ((rB x).f t h) λm=>Pr m h⟩
 | .convert src dst x=>match P0.underlying src,P0.underlying dst with
   | some .string,some (.slice e)=>match P0.underlying e,wU e with
     | some (.int .u8),some 1=>⟨λt h=>oB ((rB x).f t h) λx=>match x with
       | .str s=>some (.val (.slice h.next 0 s.length) (h.new (.cells e 1 true false (vH s))))
       |_=>none⟩
     |_,_=>Aq
   | some (.slice _),some (.slice e)=>match P0.underlying e,Nat.beq src dst with
     |some (.int .u8),true=>⟨λt h=>oB ((rB x).f t h) λx=>TZ x h⟩
     |_,_=>Aq
   |_,_=>Aq
 | .call c=>match c.callee with
   | .builtin .append=>match c.args.toList,c.argTypes.toList with
     | [s,x],[sT,xT]=>match D2 sT,P0.underlying xT with
       | some b,some (.slice _)=>match elemOf b with
         |some (size,jr,_)=>⟨λt h=>oB ((rB s).f t h) λs=>oB ((rB x).f t h) λx=>eR b size jr s x h⟩
         |none=>Aq
       | some b,some .string=>match elemOf b with
         |some (size,jr,_)=>⟨λt h=>oB ((rB s).f t h) λs=>oB ((rB x).f t h) λx=>eR b size jr s x h⟩
         |none=>Aq
       |_,_=>Aq
     |_,_=>Aq
   | .builtin .copy=>match c.args.toList,c.argTypes.toList with
     | [d,s],dT::_=>match D2 dT with
       | some b=>match wU b with
         |some size=>⟨λt h=>oB ((rB d).f t h) λd=>oB ((rB s).f t h) λs=>U9 size d s h⟩
         |none=>Aq
       |none=>Aq
     |_,_=>Aq
   | .builtin .delete=>match c.args.toList,c.argTypes.toList with
     | [m,k],mT::_=>match P0.underlying mT with
       | some (.map kt _)=>match FO kt with
         |some d=>⟨λt h=>oB ((rB m).f t h) λm=>oB ((rB k).f t h) λk=>zQ kt d m k h⟩
         |none=>Aq
       |_=>Aq
     |_,_=>Aq
   | .value f=>⟨λt h=>oB ((rB f).f t h) λf=>oB (GQ t c.args.toList) λargs=>fU f args⟩
   | .invoke r g=>⟨λt h=>oB ((rB r).f t h) λr=>oB (GQ t c.args.toList) λargs=>MO g r args h⟩
   |_=>Aq
 |_=>Aq
def cls (o:Oper):Nat:=match o.op with
 | .alloc _| .box _ _| .buildSlice _ _ _| .makeSlice _ _ _| .makeMap _ _=>1
 | .move _| .assign _| .pick _ _ _| .load _ _| .nilCheck _| .binOp _ _ _ _ _| .unOp _ _ _| .build _ _| .makeFunc _ _ _| .slice _ _ _ _ _
 | .fieldAddr _ _ _| .field _ _ _| .indexAddr _ _ _| .index _ _ _| .lookup _ _ _ _| .extract _ _| .makeInterface _ _| .typeAssert _ _ _ _=>0
 | .call c=>match c.callee with
   | .builtin .len| .builtin .min| .builtin .max=>0
   |_=>2
 | .convert src dst _=>match P0.underlying src,P0.underlying dst with
   |some (.int _),some (.int _)=>0
   |some .string,some .string=>0
   |some (.slice _),some .string=>0
   |_,_=>2
 |_=>2
abbrev Call:=Nat->List V->Hp->Option (V×Hp)
structure RF where
 f:Call->Tm->Hp->Option (V×Hp)
def FB (o:Oper):RF:=match cls o with
 |0=>⟨λ_ t h=>oB ((ir o).f t h) λv=>some (v,h)⟩
 |1=>⟨λ_ t h=>oB ((pd o).f t) λr=>some (r.2 h.next,h.new r.1)⟩
 | _=>⟨λcall t h=>oB ((jz o).f t h) λr=>match r with
   | .val v h=>some (v,h)
   | .call f args=>call f args h⟩
structure GF where
 f:Tm->Option Bool
def jX (n:Nat) (ops:List Oper) (o:Oper):Option GF:=match o.guard with
 |none=>none
 | some (j,w)=>match ops[j]? with
   | some a=>match a.dst with
     | some d=>match Nat.blt d n with
       | true=>some ⟨λt=>match jl t d with
         | .bool b=>some (Bool.rec (motive:=λ_=>Bool) (!w) w b)
         | .tuple []=>some false
         |_=>none⟩
       |false=>some ⟨λ_=>none⟩
     |none=>some ⟨λ_=>some false⟩
   |none=>some ⟨λ_=>some false⟩
structure DF where
 f:Tm->V->Tm
def wX (n:Nat) (o:Oper):Option DF:=match o.dst with
 |none=>some ⟨λt _=>t⟩
 | some d=>match Nat.blt d n with
   |true=>some ⟨λt v=>t.set d v⟩
   |false=>none
structure SF where
 f:Call->Tm->Hp->Option (Tm×Hp)
def zaQ:SF:=⟨λ_ _ _=>none⟩
structure QF where
 f:Tm->Hp->Option Tm
def Vj (b:V) (args:List V) (t:Tm):Option Tm:=match b with
 | .func g first a=>some (t.push (g,first++(args++a)))
 |_=>none
def yx (o:Oper):Option QF:=match o.op with
 | .defer c=>match c.callee with
   | .value f=>some ⟨λt h=>oB ((rB f).f t h) λa=>oB (GQ t c.args.toList) λargs=>Vj a args t⟩
   |_=>none
 |_=>none
def Gz (n:Nat) (all:List Oper) (o:Oper) (a:SF):SF:=match wX n o with
 |none=>zaQ
 | some d=>match jX n all o with
   | none=>match yx o with
     |some q=>⟨λcall t h=>oB (q.f t h) λt=>a.f call (d.f t .undef) h⟩
     |none=>⟨λcall t h=>oB ((FB o).f call t h) λr=>a.f call (d.f t r.1) r.2⟩
   |some g=>⟨λcall t h=>oB (g.f t) λb=>Bool.rec (motive:=λ_=>Option (Tm×Hp)) (a.f call (d.f t .undef) h)
      (oB ((FB o).f call t h) λr=>a.f call (d.f t r.1) r.2) b⟩
def sj (n:Nat) (all:List Oper):List Oper->SF
 |[]=>⟨λ_ t h=>some (t,h)⟩
 |o::os=>Gz n all o (sj n all os)
structure It where
 i:Nat
 o:Oper
 b:Nat
def HR (e:Edge):Bool:=match e.ground with
 | .textOnly _| .gcOnly _=>false
 |_=>true
def KC (a:List Nat):List Edge->Nat->Nat
 |[],m=>m
 | e::es,m=>match HR e with
   |true=>KC a es (m |||(2 ^ e.on |||a[e.on]?.getD 0))
   |false=>KC a es m
def items:List Oper->Nat->List Nat->List It
 |[],_,_=>[]
 |o::os,i,acc=>{i,o,b:=KC acc o.after.toList 0}::items os (i+1) (acc++[KC acc o.after.toList 0])
def Ay:List Operand->List Nat
 |[]=>[]
 | .tmp t::xs=>t::Ay xs
 |_::xs=>Ay xs
def oK (o:Oper):List Nat:=o.dst.toList++Ay o.op.operands.toList
def writes (o:Oper) (l:List Nat):Bool:=match o.dst with
 |some d=>l.contains d
 |none=>false
def MG (a b:It):Bool:=(!(writes a.o (oK b.o))&&!(writes b.o (oK a.o))) ||b.b.testBit a.i
def pW:List It->Bool
 |[]=>true
 |a::l=>l.all (MG a)&&pW l
def BN (jA:List It) (a:It):Bool:=match a.o.guard with
 |none=>true
 | some (j,_)=>match jA[j]? with
   | some g=>match g.o.dst with
     |some d=>a.b.testBit j&&jA.all (λx=>x.i == j || !(x.o.dst == some d))
     |none=>false
   |none=>false
def zP (a:It):Bool:=a.o.after.toList.all λe=>!HR e ||Nat.blt e.on a.i
def Ea:List It->Bool
 |a::b::l=>b.b.testBit a.i&&Ea (b::l)
 |_=>true
def MF (jA ws:List It):Bool:=pW jA&&jA.all (BN jA)&&jA.all zP&&Ea ws
def early (ws:List It)(a:It):Nat:=(ws.filter λw=>a.b.testBit w.i).length
def late:List It->It->Nat
 |[],_=>0
 | w::ws,a=>match w.b.testBit a.i with
   |true=>0
   |false=>late ws a+1
def O.beq:O->O->Bool
 | .cells e s a r cs,.cells e' s' a' r' mR=>e == e'&&s == s'&&a == a'&&r == r'&&V.IY cs mR
 | .map [] c,.map [] c'=>c == c'
 |_,_=>false
structure Rec where
 it:It
 t:Tm
 v:V
 made:Option (Nat×O)
 last:Nat
def yc (h:Hp) (r:Rec):Bool:=match r.made with
 | none=>match (ir r.it.o).f r.t h with
   |some v=>V.beq v r.v
   |none=>false
 | some (l,ob)=>match h.get l with
   |some a=>O.beq a ob
   |none=>false
def oO (n:Nat) (all:List Oper) (o:Oper) (t:Tm):Option Bool:=match jX n all o with
 |none=>some true
 |some g=>g.f t
def Ar (k:Nat)(h:Hp)(rs:List Rec):Bool:=rs.all λr=>Nat.blt r.last k ||yc h r
def Ro (jA ws:List It)(k:Nat):List It:=jA.filter λa=>!(Nat.beq (cls a.o) 2)&&Nat.beq (early ws a) k
def order (jA ws:List It):List It->Nat->List It
 |[],k=>Ro jA ws k
 |w::todo,k=>Ro jA ws k++w::order jA ws todo (Nat.succ k)
def Ji (ws:List It) (a:It):Nat->Bool
 |0=>true
 | k+1=>match ws[k]? with
   |some w=>a.b.testBit w.i
   |none=>false
def Yf (ws:List It) (a:It) (k:Nat):Bool:=match ws[k]? with
 |some w=>Nat.beq w.i a.i
 |none=>false
def uN (jA ws:List It):List It->Nat->Nat->Bool
 |[],m,k=>jA.all (λa=>m.testBit a.i)&&Nat.beq k ws.length
 | a::l,m,k=>!m.testBit a.i&&(jA.all (λx=>!a.b.testBit x.i ||m.testBit x.i)&&(match Nat.beq (cls a.o) 2 with
   |true=>Yf ws a k&&uN jA ws l (m |||2 ^ a.i) (Nat.succ k)
   |false=>Ji ws a k&&uN jA ws l (m |||2 ^ a.i) k))
structure LF where
 f:Call->Tm->Hp->List Rec->Option (Tm×Hp)
def EN (n:Nat) (all:List Oper) (ws:List It) (a:It) (d:DF) (c:LF):LF:=⟨λcall t h rs=>oB (oO n all a.o t) λb=>Bool.rec (motive:=λ_=>Option (Tm×Hp))
 (c.f call (d.f t .undef) h rs)
 (oB ((ir a.o).f t h) λv=>c.f call (d.f t v) h ({it:=a,t,v,made:=none,last:=late ws a}::rs)) b⟩
def Dn (n:Nat) (all:List Oper) (ws:List It) (a:It) (d:DF) (c:LF):LF:=⟨λcall t h rs=>oB (oO n all a.o t) λb=>Bool.rec (motive:=λ_=>Option (Tm×Hp))
 (c.f call (d.f t .undef) h rs)
 (oB ((pd a.o).f t) λr=>c.f call (d.f t (r.2 h.next)) (h.new r.1) ({it:=a,t,v:=r.2 h.next,made:=some (h.next,r.1),last:=late ws a}::rs)) b⟩
def AD (n:Nat) (all:List Oper) (k:Nat) (a:It) (d:DF) (c:LF):LF:=⟨λcall t h rs=>bB (Ar k h rs) (oB (oO n all a.o t) λb=>Bool.rec (motive:=λ_=>Option (Tm×Hp))
 (c.f call (d.f t .undef) h rs)
 (oB ((FB a.o).f call t h) λx=>bB (Nat.ble h.next x.2.next) (c.f call (d.f t x.1) x.2 rs)) b)⟩
def vJ (n:Nat) (all:List Oper) (ws:List It):List It->Nat->LF
 |[],k=>⟨λ_ t h rs=>bB (Ar k h rs) (some (t,h))⟩
 | a ::l,k=>match wX n a.o with
   |none=>⟨λ_ _ _ _=>none⟩
   | some d=>match cls a.o with
     |0=>EN n all ws a d (vJ n all ws l k)
     |1=>Dn n all ws a d (vJ n all ws l k)
     |_=>AD n all k a d (vJ n all ws l (Nat.succ k))
def gK (jA:List It):List It:=jA.filter λa=>Nat.beq (cls a.o) 2
def Mz:Operand->Bool
 | .global _=>false
 |_=>true
def storeAt (o:Oper):Option Nat:=match o.op with
 | .store _ (.tmp d) x=>match o.guard,o.dst,Mz x with
   |none,none,true=>some d
   |_,_,_=>none
 |_=>none
def DM (o:Oper):Bool:=match o.op with
 | .move x| .nilCheck x| .fieldAddr _ x _=>Mz x
 | .indexAddr _ x i=>Mz x&&Mz i
 |_=>false
def Jn:List It->Option (It×It)
 |[]=>none
 |[_]=>none
 |[a,b]=>some (a,b)
 |_::b::c::l=>Jn (b::c::l)
def FI:List It->Bool
 | a::b::c::l=>b.b.testBit a.i&&(match l with
   |[]=>c.b.testBit a.i
   |_=>true)&&FI (b::c::l)
 |_=>true
def fixed (jA:List It)(a:It):Bool:=(Ay a.o.op.operands.toList).all λd=>jA.all λx=>!(writes x.o [d]) ||a.b.testBit x.i
def Na (jA:List It) (a b:It):Bool:=jA.all λx=>Nat.beq x.i a.i ||Nat.beq x.i b.i ||(a.b.testBit x.i&&b.b.testBit x.i) ||
 (Nat.beq (cls x.o) 0&&DM x.o&&x.o.guard.isNone&&!x.b.testBit a.i&&!x.b.testBit b.i)
def GH (jA ws:List It):Option (It×It×Nat×Nat):=match Jn ws with
 | some (a,b)=>match storeAt a.o,storeAt b.o with
   | some da,some db=>match fixed jA a&&fixed jA b&&Na jA a b&&FI ws with
     |true=>some (a,b,da,db)
     |false=>none
   |_,_=>none
 |none=>none
def UA:V->V->Bool
 | .ptr l _,.ptr l' _=>!(Nat.beq l l')
 |_,_=>false
def ME (jA:List It):Bool:=pW jA&&jA.all (BN jA)&&jA.all zP
def JE (n:Nat) (all:List Oper):SF:=
 match MF (items all 0 []) (gK (items all 0 []))&&uN (items all 0 []) (gK (items all 0 [])) (order (items all 0 []) (gK (items all 0 [])) (gK (items all 0 [])) 0) 0 0 with
 |true=>⟨λcall t h=>(vJ n all (gK (items all 0 [])) (order (items all 0 []) (gK (items all 0 [])) (gK (items all 0 [])) 0) 0).f call t h []⟩
 | false=>match GH (items all 0 []) (gK (items all 0 [])),ME (items all 0 [])&&uN (items all 0 []) (gK (items all 0 [])) (order (items all 0 []) (gK (items all 0 [])) (gK (items all 0 [])) 0) 0 0 with
   |some p,true=>⟨λcall t h=>oB ((vJ n all (gK (items all 0 [])) (order (items all 0 []) (gK (items all 0 [])) (gK (items all 0 [])) 0) 0).f call t h []) λr=>
      bB (UA (jl r.1 p.2.2.1) (jl r.1 p.2.2.2)) (some r)⟩
   |_,_=>zaQ
inductive X where
 |normal
 |exit (id:Nat)
 |ret
structure CF where
 f:Call->Nat->Tm->Hp->Option (X×Tm×Hp)
def Cz (r:Option (X×Tm×Hp)) (k:Tm->Hp->Option (X×Tm×Hp)):Option (X×Tm×Hp):=match r with
 |some (.normal,t,h)=>k t h
 |r=>r
def Hm (id:Nat) (r:Option (X×Tm×Hp)):Option (X×Tm×Hp):=match r with
 |some (.exit id',t,h)=>Bool.rec (motive:=λ_=>Option (X×Tm×Hp)) (some (.exit id',t,h)) (some (.normal,t,h)) (Nat.beq id' id)
 |r=>r
def DI (body:Tm->Hp->Option (X×Tm×Hp)) (m:Nat):Tm->Hp->Option (X×Tm×Hp):=
 Nat.rec (motive:=λ_=>Tm->Hp->Option (X×Tm×Hp)) (λ_ _=>none) (λ_ a t h=>Cz (body t h) a) m
def zbr:CF:=⟨λ_ _ _ _=>none⟩
def ic (n:Nat):Code->CF
 | .skip=>⟨λ_ _ t h=>some (.normal,t,h)⟩
 | .seq a b=>⟨λcall m t h=>Cz ((ic n a).f call m t h) λt h=>(ic n b).f call m t h⟩
 | .cond c a b=>⟨λcall m t h=>oB ((rB c).f t h) λv=>match v with
   | .bool x=>Bool.rec (motive:=λ_=>Option (X×Tm×Hp)) ((ic n b).f call m t h) ((ic n a).f call m t h) x
   |_=>none⟩
 | .block id c=>⟨λcall m t h=>Hm id ((ic n c).f call m t h)⟩
 | .loop c=>⟨λcall m t h=>DI (λt h=>(ic n c).f call m t h) m t h⟩
 | .exit id=>⟨λ_ _ t h=>some (.exit id,t,h)⟩
 | .ret=>⟨λ_ _ t h=>some (.ret,t,h)⟩
 | .region _ ops false=>⟨λcall _ t h=>oB ((sj n ops.toList ops.toList).f call t h) λr=>some (.normal,r.1,r.2)⟩
 | .region _ ops true=>⟨λcall _ t h=>oB ((JE n ops.toList).f call t h) λr=>some (.normal,r.1,r.2)⟩
 |_=>zbr
inductive Ext where
 |none
 |countByte
 |indexByte
def HV (c:Nat):List UInt8->Nat->Nat
 |[],n=>n
 |b::l,n=>HV c l (Bool.rec (motive:=λ_=>Nat) n (Nat.succ n) (Nat.beq b.toNat c))
def JZ (c:Nat):List UInt8->Nat->Option Nat
 |[],_=>none
 |b::l,n=>Bool.rec (motive:=λ_=>Option Nat) (JZ c l (Nat.succ n)) (some n) (Nat.beq b.toNat c)
def O3:Ext->List V->Option V
 | .countByte,[.str s,.int .u8 (.ofNat c)]=>bB (Nat.blt c 256) (some (.int .i64 (.ofNat (HV c s 0))))
 | .indexByte,[.str s,.int .u8 (.ofNat c)]=>bB (Nat.blt c 256) (match JZ c s 0 with
   |some i=>some (.int .i64 (.ofNat i))
   |none=>some (.int .i64 (-1)))
 |_,_=>none
def Ta:ResultVar->PF
 | .tmp i=>⟨λt _=>some (jl t i)⟩
 | .cell a ty=>IA ty ⟨λt _=>some (jl t a)⟩
def yL (t:Tm) (h:Hp):List ResultVar->Option (List V)
 |[]=>some []
 |r::rs=>oB ((Ta r).f t h) λv=>oB (yL t h rs) λvs=>some (v::vs)
def xS (vs:List V):V:=match vs with
 |[v]=>v
 |vs=> .tuple vs
structure FF where
 f:Call->Nat->List V->Hp->Option (V×Hp)
structure fu where
 start:List V->Tm
 ext:Nat->Ext
 K:Nat->List V->Hp->Option V
def V.flat:V->Bool
 | .bool _| .int _ _| .str _| .nilPtr| .ec| .j9| .nilFunc| .nilIface=>true
 |_=>false
def NP (l:List V):Bool:=l.all V.flat
def WO{α β:Type}(x:Option α)(k:α->Option β)(e:Option β):Option β:=Option.rec (motive:=λ_=>Option β) e k x
def Q9 (c:Code):Option (Nat×Code):=match c with
 | .seq (.region _ ops false) rest=>match ops.toList with
   | [o]=>match o.op with
     | .call cl=>match cl.callee,o.guard,o.dst with
       | .builtin .recover,none,some d=>some (d,rest)
       |_,_,_=>none
     |_=>none
   |_=>none
 |_=>none
def TH (fn:Func) (r:X×Tm×Hp):Option (V×Hp):=match r.1 with
 | .exit _=>none
 | _=>match r.2.1.ds with
   |[]=>oB (yL r.2.1 r.2.2 fn.results.toList) λvs=>some (xS vs,r.2.2)
   |_::_=>none
def Hn (C:fu) (f:Nat):FF:=match P0.funcs[f]? with
 | some fn=>match fn.body with
   | some c=>match Q9 c with
     |some (d,rest)=>⟨λcall m args h=>bB (Nat.ble args.length fn.ntmps) (bB (Nat.blt d fn.ntmps) (oB ((ic fn.ntmps rest).f call m ((C.start args).set d .nilIface) h) λr=>TH fn r))⟩
     |none=>⟨λcall m args h=>bB (Nat.ble args.length fn.ntmps) (oB ((ic fn.ntmps c).f call m (C.start args) h) λr=>TH fn r)⟩
   |none=>⟨λ_ _ _ _=>none⟩
 |none=>⟨λ_ _ _ _=>none⟩
def Lb (C:fu) (call:Call) (m:Nat):List (Nat×List V)->Hp->Option Hp
 |[],h=>some h
 |x::l,h=>oB ((Hn C x.1).f call m x.2 h) λr=>Lb C call m l r.2
def zX (C:fu) (f:Nat):FF:=match P0.funcs[f]? with
 | some fn=>match fn.body with
   | some c=>⟨λcall m args h=>WO (C.K f args h) (λv=>bB (NP args&&v.flat) (some (v,h))) (bB (Nat.ble args.length fn.ntmps) (oB ((ic fn.ntmps c).f call m (C.start args) h) λr=>match r.1 with
     | .exit _=>none
     |_=>oB (Lb C call m r.2.1.ds r.2.2) λh=>oB (yL r.2.1 h fn.results.toList) λvs=>some (xS vs,h)))⟩
   |none=>⟨λ_ _ args h=>oB (O3 (C.ext f) args) λv=>some (v,h)⟩
 |none=>⟨λ_ _ _ _=>none⟩
def jB (C:fu) (m:Nat) (d:Nat):Call:=
 Nat.rec (motive:=λ_=>Call) (λ_ _ _=>none) (λ_ call f args h=>(zX C f).f call m args h) d
end ops
theorem fj {α β:Type} {x:Option α} {k:α->Option β} {y:β}:oB x k=some y↔∃v,x=some v/\k v=some y:=by
 cases x with
 |none=>exact⟨λh=>(nomatch h),λ⟨_,h,_⟩=>(nomatch h)⟩
 |some v=>exact⟨λh=>⟨v,rfl,h⟩,λ⟨_,h,h'⟩=>by cases h;exact h'⟩
theorem gM {β:Type} {c:Bool} {k:Option β} {y:β}:bB c k=some y↔c=true/\k=some y:=by
 cases c with
 |false=>exact⟨λh=>(nomatch h),λ⟨h,_⟩=>(nomatch h)⟩
 |true=>exact⟨λh=>⟨rfl,h⟩,λ⟨_,h⟩=>h⟩
theorem uc {β:Type} {v:V} {k:Nat->Nat->Option β} {y:β}:xJ v k=some y↔∃l o,v = .ptr l o/\k l o=some y:=by
 constructor
 ·intro h;unfold xJ at h;split at h
  ·exact⟨_,_,rfl,h⟩
  ·cases h
 ·rintro⟨l,o,rfl,h⟩;exact h
theorem G3 {β:Type} {v:V} {k:Nat->Option β} {y:β}:asNat v k=some y↔∃kd n,v = .int kd (.ofNat n)/\k n=some y:=by
 constructor
 ·intro h;unfold asNat at h;split at h
  ·exact⟨_,_,rfl,h⟩
  ·cases h
 ·rintro⟨kd,n,rfl,h⟩;exact h
theorem j8 {β:Type} {h:Hp} {l:Nat} {k:Nat->Nat->Bool->Bool->List V->Option β} {y:β} :
  jq h l k=some y↔∃e sz live ro cs,h.get l=some (.cells e sz live ro cs)/\k e sz live ro cs=some y:=by
 unfold jq;rw[fj];constructor
 ·rintro⟨o,b,a⟩;split at a
  ·exact⟨_,_,_,_,_,b,a⟩
  ·cases a
 ·rintro⟨e,sz,live,ro,cs,b,a⟩;exact⟨_,b,a⟩
theorem yI {β:Type} {h:Hp} {l:Nat} {k:List (V×V×Nat)->Nat->Option β} {y:β} :
  xh h l k=some y↔∃b c,h.get l=some (.map b c)/\k b c=some y:=by
 unfold xh;rw[fj];constructor
 ·rintro⟨o,d,a⟩;split at a
  ·exact⟨_,_,d,a⟩
  ·cases a
 ·rintro⟨b,c,d,a⟩;exact⟨_,d,a⟩
theorem QO{β:Type}(c:Bool)(x y:β):Bool.rec (motive:=λ_=>β) x y c=if c=true then y else x:=by cases c <;> rfl
theorem Vd {n:Nat} {cs l:List V} (h:takeN n cs=some l):l.length=n/\∀i,i<n->l[i]? =cs[i]?:=by
 induction n generalizing cs l with
 |zero=>simp[takeN]at h;subst h;exact⟨rfl,λi hi=>by omega⟩
 | succ n a=>
   cases cs with
   |nil=>simp[takeN]at h
   | cons v vs=>
     simp only[takeN,fj]at h;obtain⟨f,b,c⟩:=h;cases c;obtain⟨d,hi⟩:=a b;refine⟨by simp[d],λi e=>?_⟩
     cases i with
     |zero=>rfl
     |succ i=>simpa using hi i (by omega)
theorem sub_eq {cs l:List V} {off n:Nat} (h:sub cs off n=some l):l.length=n/\∀i,i<n->l[i]? =cs[off+i]?:=by
 obtain⟨b,hi⟩:=Vd h;exact⟨b,λi a=>by rw[hi i a,Tj]⟩
theorem Jx {cs:List V} {off:Nat} {v:V} (h:AB cs off=some v):cs[off]? =some v:=by
 unfold AB at h;rw[List.head?_drop]at h;exact h
theorem Xv {new cs l:List V} (h:over new cs=some l):l.length=cs.length/\new.length<=cs.length/\∀i,l[i]? =if i<new.length then new[i]? else cs[i]?:=by
 induction new generalizing cs l with
 |nil=>simp[over]at h;subst h;exact⟨rfl,Gl _,λi=>by simp⟩
 | cons n ns b=>
   cases cs with
   |nil=>simp[over]at h
   | cons c cs=>
     simp only[over,fj]at h;obtain⟨g,d,e⟩:=h;cases e;obtain⟨f,a,hi⟩:=b d;refine⟨by simp[f],by simp;exact a,λi=>?_⟩
     cases i with
     |zero=>simp
     |succ i=>simpa using hi i
theorem HC {k:Nat} {cs new l:List V} (h:pC k cs new=some l):l.length=cs.length/\k+new.length<=cs.length/\
  ∀i,l[i]? =if k<=i/\i<k+new.length then new[i-k]? else cs[i]?:=by
 induction k generalizing cs l with
 | zero=>
   obtain⟨a,b,hi⟩:=Xv h
   exact⟨a,by omega,λi=>by rw[hi i];by_cases h:i<new.length <;> simp[h]⟩
 | succ k d=>
   cases cs with
   |nil=>simp[pC]at h
   | cons c cs=>
     simp only[pC,fj]at h;obtain⟨g,e,f⟩:=h;cases f;obtain⟨a,b,hi⟩:=d e;refine⟨by simp[a],by simp;omega,λi=>?_⟩
     cases i with
     |zero=>simp
     | succ i=>
       simp only[O8,hi i];by_cases h:k<=i/\i<k+new.length
       ·rw[if_pos h,if_pos (by omega),Nat.add_sub_add_right]
       ·rw[if_neg h,if_neg (by omega)]
theorem SA {l:List V} (h:fV l=true):∀v∈l,v.one=true:=by
 induction l with
 |nil=>intro v hv;cases hv
 | cons a l b=>
   intro v hv;simp only[fV,QO]at h;split at h
   ·rename_i c
    cases hv with
    |head=>exact c
    |tail _ hv=>exact b h v hv
   ·cases h
structure D where
 b:Nat
 base:Nat
 sz:Nat
 n:Nat
 Pg:Nat
 ro:Bool
 kind:Nat
abbrev Env:=Nat->Option D
def Env.le (Δ a:Env):Prop:=∀l d,Δ l=some d->a l=some d
theorem Env.le_refl (Δ:Env):Δ.le Δ:=λ_ _ h=>h
theorem Env.le_trans{Δ b a:Env}(h:Δ.le b)(h':b.le a):Δ.le a:=λl d c=>h' l d (h l d c)
mutual
inductive fI (Δ:Env):V->Value->Prop
 |bool (b:Bool):fI Δ (.bool b) (.bool b)
 |int (k:IntKind) (n:Int):fI Δ (.int k n) (.int k n)
 |str (s:ByteArray):fI Δ (.str s.data.toList) (.string s)
 |nilPtr:fI Δ .nilPtr (.pointer none)
 |ptr (l off:Nat) (d:D) (h:Δ l=some d):fI Δ (.ptr l off) (.pointer (some ⟨d.b,d.base+off,none⟩))
 |ec:fI Δ .ec (.slice none 0 0)
 | slice (l off len cap o:Nat) (d:D) (h:Δ l=some d) (j:d.kind=0) (m:len<=cap)
   (p:(o=d.base+off/\d.n<=off+cap*d.sz/\d.base+off+cap*d.sz<=d.Pg)\/(cap=0/\d.n<=off)) :
   fI Δ (.slice l off len) (.slice (some ⟨d.b,o,none⟩) len cap)
 |j9:fI Δ .j9 (.map none)
 |map (l:Nat) (d:D) (h:Δ l=some d):fI Δ (.map l) (.map (some d.b))
 |nilFunc:fI Δ .nilFunc .nilFunc
 |func (f:Nat) (a c:List V) (i c':Array Value) (q:gh Δ a i.toList) (hc:gh Δ c c'.toList):fI Δ (.func f a c) (.func (.func f) i c')
 |nilIface:fI Δ .nilIface .nilIface
 |iface (t:Nat) (v:V) (e:Value) (h:fI Δ v e):fI Δ (.iface t v) (.iface t e)
 |agg (cs:List V) (mR:Array Value) (h:gh Δ cs mR.toList):fI Δ (.agg cs) (.agg mR)
 |tuple (cs:List V) (mR:Array Value) (h:gh Δ cs mR.toList):fI Δ (.tuple cs) (.tuple mR)
inductive gh (Δ:Env):List V->List Value->Prop
 |nil:gh Δ [] []
 |cons (v:V) (e:Value) (vs:List V) (g:List Value) (h:fI Δ v e) (hs:gh Δ vs g):gh Δ (v::vs) (e::g)
end
mutual
theorem fI.mono {Δ i:Env} (e:Δ.le i):∀{v:V} {g:Value},fI Δ v g->fI i v g
 |_,_,.bool b=> .bool b
 |_,_,.int k n=> .int k n
 |_,_,.str s=> .str s
 |_,_,.nilPtr=> .nilPtr
 |_,_,.ptr l off d h=> .ptr l off d (e _ _ h)
 |_,_,.ec=> .ec
 |_,_,.slice l off len cap o d h hk hl ho=> .slice l off len cap o d (e _ _ h) hk hl ho
 |_,_,.j9=> .j9
 |_,_,.map l d h=> .map l d (e _ _ h)
 |_,_,.nilFunc=> .nilFunc
 |_,_,.func f a c a' c' ha hc=> .func f a c a' c' (gh.mono e ha) (gh.mono e hc)
 |_,_,.nilIface=> .nilIface
 |_,_,.iface t v g h=> .iface t v g (fI.mono e h)
 |_,_,.agg cs mR h=> .agg cs mR (gh.mono e h)
 |_,_,.tuple cs mR h=> .tuple cs mR (gh.mono e h)
theorem gh.mono {Δ i:Env} (e:Δ.le i):∀{v:List V} {g:List Value},gh Δ v g->gh i v g
 |_,_,.nil=> .nil
 |_,_,.cons v g vs vs' h hs=> .cons v g vs vs' (fI.mono e h) (gh.mono e hs)
end
theorem gh.length {Δ:Env} {vs:List V} {a:List Value} (h:gh Δ vs a):vs.length=a.length:=by
 induction vs generalizing a with
 |nil=>cases h;rfl
 |cons v vs b=>cases h with|cons _ _ _ _ _ hs=>simp[b hs]
theorem gh.get {Δ:Env} {vs:List V} {b:List Value} (h:gh Δ vs b) (i:Nat) (v:V) (hi:vs[i]? =some v):∃c,b[i]? =some c/\fI Δ v c:=by
 induction vs generalizing b i with
 |nil=>simp at hi
 | cons a vs d=>
   cases h with
   | cons _ e _ b h hs=>
     cases i with
     |zero=>simp at hi;subst hi;exact⟨e,rfl,h⟩
     |succ i=>exact d hs i (by simpa using hi)
theorem gh.MJ {Δ:Env} {vs:List V} {b:List Value} (c:vs.length=b.length) (h:∀(i:Nat) (v:V),vs[i]? =some v->∃d,b[i]? =some d/\fI Δ v d):gh Δ vs b:=by
 induction vs generalizing b with
 | nil=>cases b with
   |nil=>exact .nil
   |cons _ _=>simp at c
 | cons a vs e=>cases b with
   |nil=>simp at c
   | cons g b=>
     obtain⟨x,hx,f⟩:=h 0 a rfl;simp at hx;subst hx;exact .cons _ _ _ _ f (e (by simpa using c) λi v hi=>by simpa using h (i+1) v (by simpa using hi))
theorem gh.append {Δ:Env} {a b:List V} {c d:List Value} (h:gh Δ a c) (h':gh Δ b d):gh Δ (a++b) (c++d):=by
 induction a generalizing c with
 |nil=>cases h;exact h'
 |cons x a e=>cases h with|cons _ _ _ _ hx hs=>exact .cons _ _ _ _ hx (e hs)
theorem gh.one{Δ:Env}{v:V}{a:Value}(h:fI Δ v a):gh Δ [v] [a]:= .cons _ _ _ _ h .nil
theorem fI.undef (Δ:Env):fI Δ V.undef undef:= .tuple [] #[] .nil
theorem fI.cells {Δ:Env} {v:V} {e:Value} (h:fI Δ v e):gh Δ v.cells e.cells.toList:=by
 cases h with
 |agg cs mR h=>exact h
 |bool b=>exact .one (.bool b)
 |int k n=>exact .one (.int k n)
 |str s=>exact .one (.str s)
 |nilPtr=>exact .one .nilPtr
 |ptr l off d h=>exact .one (.ptr l off d h)
 |ec=>exact .one .ec
 |slice l off len cap o d h g i j=>exact .one (.slice l off len cap o d h g i j)
 |j9=>exact .one .j9
 |map l d h=>exact .one (.map l d h)
 |nilFunc=>exact .one .nilFunc
 |func f a c m c' p hc=>exact .one (.func f a c m c' p hc)
 |nilIface=>exact .one .nilIface
 |iface t v e h=>exact .one (.iface t v e h)
 |tuple cs mR h=>exact .one (.tuple cs mR h)
theorem fI.zbv {Δ:Env} {v:V} {a:Value} (h:fI Δ v a) (b:v.one=true):a.oneCell' = true:=by
 cases h <;> first|rfl|(simp[V.one]at b)
theorem gh.zaT {Δ:Env} {vs:List V} {a:List Value} (h:gh Δ vs a) (c:fV vs=true):∀x∈a,x.oneCell' = true:=by
 intro x hx;obtain⟨i,hi,rfl⟩:=List.mem_iff_getElem.1 hx;have b:i<vs.length:=by rw[h.length];exact hi
 obtain⟨x,hx,d⟩:=h.get i vs[i] (gQ b);rw[gQ hi]at hx;cases hx;exact d.zbv (SA c _ (AO b))
mutual
theorem Ec (Δ:Env):∀(n:Nat) (v:Value) (x:V),lK n v=some x->fI Δ x v
 |_,.bool b,x,h=>by simp[lK]at h;subst h;exact .bool b
 |_,.int k n,x,h=>by simp[lK]at h;subst h;exact .int k n
 |_,.string s,x,h=>by simp[lK]at h;subst h;exact .str s
 |_,.pointer none,x,h=>by simp[lK]at h;subst h;exact .nilPtr
 |_,.pointer (some _),x,h=>by simp[lK]at h
 |_,.slice none 0 0,x,h=>by simp[lK]at h;subst h;exact .ec
 |_,.slice none 0 (_+1),x,h=>by simp[lK]at h
 |_,.slice none (_+1) _,x,h=>by simp[lK]at h
 |_,.slice (some _) _ _,x,h=>by simp[lK]at h
 |_,.map none,x,h=>by simp[lK]at h;subst h;exact .j9
 |_,.map (some _),x,h=>by simp[lK]at h
 |_,.nilFunc,x,h=>by simp[lK]at h;subst h;exact .nilFunc
 |_,.nilIface,x,h=>by simp[lK]at h;subst h;exact .nilIface
 |0,.iface _ _,x,h=>by simp[lK]at h
 |0,.agg _,x,h=>by simp[lK]at h
 |0,.tuple _,x,h=>by simp[lK]at h
 | n+1,.iface t v,x,h=>by
   simp only[lK]at h;split at h
   ·rename_i y a;cases h;exact .iface t _ _ (Ec Δ n v _ a)
   ·cases h
 | n+1,.agg cs,x,h=>by
   simp only[lK]at h;split at h
   ·rename_i y a;cases h;exact .agg _ _ (FU Δ n _ _ a)
   ·cases h
 | n+1,.tuple cs,x,h=>by
   simp only[lK]at h;split at h
   ·rename_i y a;cases h;exact .tuple _ _ (FU Δ n _ _ a)
   ·cases h
 |_,.float _ _,x,h=>by simp[lK]at h
 |_,.complex _ _ _,x,h=>by simp[lK]at h
 |_,.chan _,x,h=>by simp[lK]at h
 |_,.func _ _ _,x,h=>by simp[lK]at h
theorem FU (Δ:Env):∀(n:Nat) (v:List Value) (x:List V),v.mapM (lK n)=some x->gh Δ x v
 |_,[],x,h=>by simp at h;subst h;exact .nil
 | n,v::vs,x,h=>by
   simp only[List.mapM_cons,Option.bind_eq_bind,wCD,Option.pure_def,Option.some.injEq]at h;obtain⟨y,a,ys,c,rfl⟩:=h;exact .cons _ _ _ _ (Ec Δ n v y a) (FU Δ n vs ys c)
end
