/- Parts. -/
import Derived.Test.YtloecllhljfidaaDoorM00
import Derived.Calls
import Derived.Test.YtloecllhljfidaaDoorChecked
import Derived.Orders
import Derived.Laws.CopyRow
set_option maxHeartbeats 4000000
namespace Go.Proofs.YtloecllhljfidaaDoor.Hx
theorem tn:type_of% @Result.andThen_ok:=@Result.andThen_ok
theorem uG:type_of% @Sem.run_bind:=@Sem.run_bind
theorem Jh:type_of% @Sem.run_pure:=@Sem.run_pure
inductive V where
 |bool (b:Bool)
 |int (k:IntKind) (n:Int)
 |str (s:List UInt8)
 |nilPtr
 |ptr (l off:Nat)
 |ee
 |slice (l off len:Nat)
 |ku
 |map (l:Nat)
 |nilFunc
 |func (f:Nat) (first a:List V)
 |nilIface
 |iface (t:Nat) (v:V)
 |agg (cs:List V)
 |tuple (vs:List V)
 deriving Inhabited
def V.undef:V:= .tuple []
mutual
def V.beq:V->V->Bool
 | .bool a,.bool b=>a == b
 | .int j a,.int k b=>j == k&&a == b
 | .str a,.str b=>a == b
 | .nilPtr,.nilPtr=>true
 | .ptr l o,.ptr l' o'=>l == l'&&o == o'
 | .ee,.ee=>true
 | .slice l o n,.slice l' o' n'=>l == l'&&o == o'&&n == n'
 | .ku,.ku=>true
 | .map l,.map l'=>l == l'
 | .nilFunc,.nilFunc=>true
 | .func f a c,.func f' a' c'=>f == f'&&V.La a a'&&V.La c c'
 | .nilIface,.nilIface=>true
 | .iface t v,.iface t' v'=>t == t'&&V.beq v v'
 | .agg a,.agg b=>V.La a b
 | .tuple a,.tuple b=>V.La a b
 |_,_=>false
def V.La:List V->List V->Bool
 |[],[]=>true
 |a::x,b::y=>V.beq a b&&V.La x y
 |_,_=>false
end
mutual
theorem V.eq_of_beq:∀(a b:V),V.beq a b=true->a=b
 | .bool a,b,h=>by cases b <;> simp_all[V.beq]
 | .int j a,b,h=>by cases b <;> simp_all[V.beq]
 | .str a,b,h=>by cases b <;> simp_all[V.beq]
 | .nilPtr,b,h=>by grind[V.beq]
 | .ptr l o,b,h=>by cases b <;> simp_all[V.beq]
 | .ee,b,h=>by grind[V.beq]
 | .slice l o n,b,h=>by cases b <;> simp_all[V.beq]
 | .ku,b,h=>by grind[V.beq]
 | .map l,b,h=>by cases b <;> simp_all[V.beq]
 | .nilFunc,b,h=>by grind[V.beq]
 | .func f a c,b,h=>by
   cases b <;> simp_all[V.beq]
   exact⟨V.vH _ _ h.1.2,V.vH _ _ h.2⟩
 | .nilIface,b,h=>by grind[V.beq]
 | .iface t v,b,h=>by
   cases b <;> simp_all[V.beq]
   exact V.eq_of_beq _ _ h.2
 | .agg a,b,h=>by
   cases b <;> simp_all[V.beq]
   exact V.vH _ _ h
 | .tuple a,b,h=>by
   cases b <;> simp_all[V.beq];exact V.vH _ _ h
theorem V.vH:∀(a b:List V),V.La a b=true->a=b
 |[],b,h=>by grind[V.La]
 | a::x,b,h=>by
   cases b <;> simp_all[V.La];exact⟨V.eq_of_beq _ _ h.1,V.vH _ _ h.2⟩
end
mutual
theorem V.KW:∀(a:V),V.beq a a=true
 | .bool a=>by simp[V.beq]
 | .int j a=>by simp[V.beq]
 | .str a=>by simp[V.beq]
 | .nilPtr=>by rfl
 | .ptr l o=>by simp[V.beq]
 | .ee=>by rfl
 | .slice l o n=>by simp[V.beq]
 | .ku=>by rfl
 | .map l=>by simp[V.beq]
 | .nilFunc=>by rfl
 | .func f a c=>by simp[V.beq,V.yf a,V.yf c]
 | .nilIface=>by rfl
 | .iface t v=>by simp[V.beq,V.KW v]
 | .agg a=>by simp[V.beq,V.yf a]
 | .tuple a=>by simp[V.beq,V.yf a]
theorem V.yf:∀(a:List V),V.La a a=true
 |[]=>by rfl
 |a::x=>by simp[V.La,V.KW a,V.yf x]
end
def V.cells:V->List V
 | .agg cs=>cs
 |v=>[v]
def V.one:V->Bool
 | .agg _| .tuple _=>false
 |_=>true
def lZ:Nat->Value->Option V
 |_,.bool b=>some (.bool b)
 |_,.int k n=>some (.int k n)
 |_,.string s=>some (.str s.data.toList)
 |_,.pointer none=>some .nilPtr
 |_,.slice none 0 0=>some .ee
 |_,.map none=>some .ku
 |_,.nilFunc=>some .nilFunc
 |_,.nilIface=>some .nilIface
 | n+1,.iface t v=>match lZ n v with
   |some v=>some (.iface t v)
   |none=>none
 | n+1,.agg cs=>match cs.toList.mapM (lZ n)with
   |some l=>some (.agg l)
   |none=>none
 | n+1,.tuple cs=>match cs.toList.mapM (lZ n)with
   |some l=>some (.tuple l)
   |none=>none
 |_,_=>none
inductive To (α:Type) where
 |leaf
 |node (l:To α) (v:Option α) (r:To α)
noncomputable def To.get{α:Type} (t:To α):Nat->Option α:=To.rec (motive:=λ_=>Nat->Option α) (λ_=>none) (λ_ v _ gl gr n=>Bool.rec (motive:=λ_=>Option α) (Bool.rec (motive:=λ_=>Option α) (gr (Nat.sub (Nat.div n 2) 1)) (gl (Nat.div n 2)) (Nat.beq (Nat.mod n 2) 1)) v (Nat.beq n 0)) t
theorem To.qP{α:Type}(n:Nat):(To.leaf:To α).get n=none:=rfl
theorem To.tO{α:Type} (l:To α) (v:Option α) (r:To α) (n:Nat):(To.node l v r).get n =
  match Nat.beq n 0 with
  |true=>v
  | false=>match Nat.beq (n % 2) 1 with
    |true=>l.get (n / 2)
    |false=>r.get (n / 2-1):=by
 show Bool.rec (motive:=λ_=>Option α) (Bool.rec (motive:=λ_=>Option α) (r.get (n / 2-1)) (l.get (n / 2)) (Nat.beq (n % 2) 1)) v (Nat.beq n 0)=_;cases Nat.beq n 0 <;> cases Nat.beq (n % 2) 1 <;> rfl
def To.N3{α:Type}:Nat->To α->Nat->α->To α
 |0,t,_,_=>t
 | f + 1,.leaf,n,x=>
   match Nat.beq n 0 with
   |true=> .node .leaf (some x) .leaf
   | false=>match Nat.beq (n % 2) 1 with
     |true=> .node (To.N3 f .leaf (n / 2) x) none .leaf
     |false=> .node .leaf none (To.N3 f .leaf (n / 2-1) x)
 | f + 1,.node l v r,n,x=>
   match Nat.beq n 0 with
   |true=> .node l (some x) r
   | false=>match Nat.beq (n % 2) 1 with
     |true=> .node (To.N3 f l (n / 2) x) v r
     |false=> .node l v (To.N3 f r (n / 2-1) x)
noncomputable def To.set{α:Type} (t:To α):Nat->α->To α:=To.rec (motive:=λ_=>Nat->α->To α) (λn x=>Bool.rec (motive:=λ_=>To α) (To.N3 (Nat.succ n) .leaf n x) (.node .leaf (some x) .leaf) (Nat.beq n 0)) (λl v r a b n x=>Bool.rec (motive:=λ_=>To α) (Bool.rec (motive:=λ_=>To α) (.node l v (b (Nat.sub (Nat.div n 2) 1) x)) (.node (a (Nat.div n 2) x) v r) (Nat.beq (Nat.mod n 2) 1)) (.node l (some x) r) (Nat.beq n 0)) t
theorem To.QE{α:Type} (x:α):∀(f:Nat) (t:To α) (n m:Nat),n<f->(t.N3 f n x).get m=if n=m then some x else t.get m:=by
 intro f
 induction f with
 |zero=>omega
 | succ f j =>
   intro t n m h
   cases t with
   | leaf =>
     unfold To.N3
     cases h0:Nat.beq n 0 with
     | true=>
       have e:n=0:=zB h0;subst e
       cases m with
       |zero=>rfl
       | succ m=>
         have b:Nat.beq (m+1) 0=false:=rfl
         grind[To.qP,To.tO,Nat.beq]
     | false =>
       have k:n≠0:=λe=>by simp_all
       cases c:Nat.beq (n % 2) 1 with
       | true=>
         have b:n % 2=1:=zB c;simp only[To.qP,To.tO]
         cases d:Nat.beq m 0 with
         | true=>
           simp_all
         | false=>
           have g:m≠0:=λe=>by simp_all
           cases a:Nat.beq (m % 2) 1 with
           | true=>
             have i:m % 2=1:=zB a;simp only[j .leaf (n / 2) (m / 2) (by omega),To.qP,To.tO]
             grind
           | false=>
             grind
       | false=>
         have b:n % 2≠1:=λe=>by simp_all
         simp only[To.qP,To.tO]
         cases d:Nat.beq m 0 with
         | true=>
           simp_all
         | false=>
           have g:m≠0:=λe=>by simp_all
           cases a:Nat.beq (m % 2) 1 with
           | true=>
             grind
           | false=>
             have i:m % 2≠1:=λe=>by simp_all
             simp only[j .leaf (n / 2-1) (m / 2-1) (by omega),To.qP,To.tO]
             grind
   | node l v r=>
     unfold To.N3
     cases h0:Nat.beq n 0 with
     | true=>
       have e:n=0:=zB h0;subst e
       cases m with
       |zero=>rfl
       | succ m=>
         rfl
     | false =>
       have k:n≠0:=λe=>by simp_all
       cases c:Nat.beq (n % 2) 1 with
       | true=>
         have b:n % 2=1:=zB c;simp only[To.qP,To.tO]
         cases d:Nat.beq m 0 with
         | true=>
           simp_all
         | false=>
           have g:m≠0:=λe=>by simp_all
           cases a:Nat.beq (m % 2) 1 with
           | true=>
             have i:m % 2=1:=zB a
             grind
           | false=>
             grind
       | false=>
         have b:n % 2≠1:=λe=>by simp_all
         simp only[To.qP,To.tO]
         cases d:Nat.beq m 0 with
         | true=>
           simp_all
         | false=>
           have g:m≠0:=λe=>by simp_all
           cases a:Nat.beq (m % 2) 1 with
           | true=>
             grind
           | false=>
             have i:m % 2≠1:=λe=>by simp_all
             grind
theorem To.HL{α:Type} (t:To α) (n m:Nat) (x:α):(t.set n x).get m=if n=m then some x else t.get m:=by
 induction t generalizing n m with
 | leaf=>
   show(Bool.rec (motive:=λ_=>To α) (To.N3 (Nat.succ n) .leaf n x) (.node .leaf (some x) .leaf) (Nat.beq n 0)).get m=_
   cases h0:Nat.beq n 0 with
   | true=>
     have e:n=0:=zB h0;subst e;have:=To.QE x 1 .leaf 0 m (by omega)
     exact this
   |false=>grind[To.QE]
 | node l v r b c=>
   show(Bool.rec (motive:=λ_=>To α) (Bool.rec (motive:=λ_=>To α) (.node l v (r.set (n / 2-1) x)) (.node (l.set (n / 2) x) v r) (Nat.beq (n % 2) 1)) (.node l (some x) r) (Nat.beq n 0)).get m=_
   cases h0:Nat.beq n 0 with
   | true=>
     have e:n=0:=zB h0;subst e
     cases m with
     |zero=>rfl
     | succ m=>
       rfl
   | false =>
     have j:n≠0:=λe=>by simp_all
     cases d:Nat.beq (n % 2) 1 with
     | true=>
       have f:n % 2=1:=zB d;simp only[To.tO]
       cases g:Nat.beq m 0 with
       | true=>
         simp_all
       | false=>
         have h:m≠0:=λe=>by simp_all
         cases a:Nat.beq (m % 2) 1 with
         | true=>
           have i:m % 2=1:=zB a
           grind
         | false=>
           grind
     | false=>
       have f:n % 2≠1:=λe=>by simp_all
       simp only[To.tO]
       cases g:Nat.beq m 0 with
       | true=>
         simp_all
       | false=>
         have h:m≠0:=λe=>by simp_all
         cases a:Nat.beq (m % 2) 1 with
         | true=>
           grind
         | false=>
           have i:m % 2≠1:=λe=>by simp_all
           grind
structure Q4 (α:Type) where
 a:α
 b:α
 c:α
 d:α
def QT(α:Type)(n:Nat):Type:=Nat.rec (motive:=λ_=>Type) (To α) (λ_ a=>Q4 a) n
structure QG (α β:Type) where
 f:α->β
structure QU (α β:Type) where
 f:β->α->α
noncomputable def VU{β:Type}(i:Nat)(w x y z:β):β:=Bool.rec (motive:=λ_=>β) (Bool.rec (motive:=λ_=>β) (Bool.rec (motive:=λ_=>β) z y (Nat.beq (Nat.mod i 4) 2)) x (Nat.beq (Nat.mod i 4) 1)) w (Nat.beq (Nat.mod i 4) 0)
theorem za5{β:Type}{i:Nat}(h:i % 4=0)(w x y z:β):VU i w x y z=w:=by unfold VU;rw[show Nat.mod i 4=0 from h];rfl
theorem zbr{β:Type}{i:Nat}(h:i % 4=1)(w x y z:β):VU i w x y z=x:=by unfold VU;rw[show Nat.mod i 4=1 from h];rfl
theorem za3{β:Type}{i:Nat}(h:i % 4=2)(w x y z:β):VU i w x y z=y:=by unfold VU;rw[show Nat.mod i 4=2 from h];rfl
theorem zaT{β:Type}{i:Nat}(h:i % 4=3)(w x y z:β):VU i w x y z=z:=by unfold VU;rw[show Nat.mod i 4=3 from h];rfl
noncomputable def qg(α:Type) (n:Nat):Nat->QG (QT α n) (Option α):=Nat.rec (motive:=λn=>Nat->QG (QT α n) (Option α)) (λi=>⟨λx=>To.get x i⟩) (λ_ e i=>VU i ⟨λq=>Q4.rec (motive:=λ_=>Option α) (λa _ _ _=>(e (Nat.div i 4)).f a) q⟩ ⟨λq=>Q4.rec (motive:=λ_=>Option α) (λ_ b _ _=>(e (Nat.div i 4)).f b) q⟩ ⟨λq=>Q4.rec (motive:=λ_=>Option α) (λ_ _ c _=>(e (Nat.div i 4)).f c) q⟩ ⟨λq=>Q4.rec (motive:=λ_=>Option α) (λ_ _ _ d=>(e (Nat.div i 4)).f d) q⟩) n
noncomputable def qs(α:Type) (n:Nat):Nat->QU (QT α n) α:=Nat.rec (motive:=λn=>Nat->QU (QT α n) α) (λi=>⟨λv x=>To.set x i v⟩) (λn e i=>VU i ⟨λv q=>Q4.rec (motive:=λ_=>Q4 (QT α n)) (λa b c d=>⟨(e (Nat.div i 4)).f v a,b,c,d⟩) q⟩ ⟨λv q=>Q4.rec (motive:=λ_=>Q4 (QT α n)) (λa b c d=>⟨a,(e (Nat.div i 4)).f v b,c,d⟩) q⟩ ⟨λv q=>Q4.rec (motive:=λ_=>Q4 (QT α n)) (λa b c d=>⟨a,b,(e (Nat.div i 4)).f v c,d⟩) q⟩ ⟨λv q=>Q4.rec (motive:=λ_=>Q4 (QT α n)) (λa b c d=>⟨a,b,c,(e (Nat.div i 4)).f v d⟩) q⟩) n
noncomputable def q0(α:Type)(n:Nat):QT α n:=Nat.rec (motive:=λn=>QT α n) (To.leaf:To α) (λ_ a=>(⟨a,a,a,a⟩:Q4 _)) n
theorem TB(α:Type) (n i:Nat):qg α (n+1) i=VU i
   ⟨λq=>Q4.rec (motive:=λ_=>Option α) (λa _ _ _=>(qg α n (i / 4)).f a) q⟩
   ⟨λq=>Q4.rec (motive:=λ_=>Option α) (λ_ b _ _=>(qg α n (i / 4)).f b) q⟩
   ⟨λq=>Q4.rec (motive:=λ_=>Option α) (λ_ _ c _=>(qg α n (i / 4)).f c) q⟩
   ⟨λq=>Q4.rec (motive:=λ_=>Option α) (λ_ _ _ d=>(qg α n (i / 4)).f d) q⟩:=rfl
theorem Yn(α:Type) (n i:Nat):qs α (n+1) i=VU i
   ⟨λv q=>Q4.rec (motive:=λ_=>Q4 (QT α n)) (λa b c d=>⟨(qs α n (i / 4)).f v a,b,c,d⟩) q⟩
   ⟨λv q=>Q4.rec (motive:=λ_=>Q4 (QT α n)) (λa b c d=>⟨a,(qs α n (i / 4)).f v b,c,d⟩) q⟩
   ⟨λv q=>Q4.rec (motive:=λ_=>Q4 (QT α n)) (λa b c d=>⟨a,b,(qs α n (i / 4)).f v c,d⟩) q⟩
   ⟨λv q=>Q4.rec (motive:=λ_=>Q4 (QT α n)) (λa b c d=>⟨a,b,c,(qs α n (i / 4)).f v d⟩) q⟩:=rfl
theorem PQ(α:Type):∀(n i:Nat),(qg α n i).f (q0 α n)=none
 |0,i=>rfl
 | n+1,i=>by
   rw[TB];have h:i % 4=0\/i % 4=1\/i % 4=2\/i % 4=3:=by omega
   rcases h with h|h|h|h
   ·rw[za5 h];exact PQ α n (i / 4)
   ·rw[zbr h];exact PQ α n (i / 4)
   ·rw[za3 h];exact PQ α n (i / 4)
   ·rw[zaT h];exact PQ α n (i / 4)
theorem zab(α:Type) (v:α):∀(n i j:Nat) (q:QT α n),(qg α n j).f ((qs α n i).f v q)=if i=j then some v else(qg α n j).f q
 |0,i,j,q=>To.HL q i j v
 | n + 1,i,j,q=>by
   obtain⟨a,b,c,d⟩:=(q:Q4 (QT α n))
   have hi:i % 4=0\/i % 4=1\/i % 4=2\/i % 4=3:=by omega
   have e:j % 4=0\/j % 4=1\/j % 4=2\/j % 4=3:=by omega
   have g:=λq=>zab α v n (i / 4) (j / 4) q;rw[TB,Yn];rcases hi with hi|hi|hi|hi <;> rcases e with e|e|e|e
   all_goals first
     |rw[za5 hi]|rw[zbr hi]|rw[za3 hi]|rw[zaT hi]
   all_goals first
     |rw[za5 e]|rw[zbr e]|rw[za3 e]|rw[zaT e]
   all_goals grind
def Tr(α:Type):Type:=QT α 4
noncomputable def Tr.leaf{α:Type}:Tr α:=q0 α 4
noncomputable def Tr.get{α:Type}(t:Tr α)(n:Nat):Option α:=(qg α 4 n).f t
noncomputable def Tr.set{α:Type}(t:Tr α)(n:Nat)(x:α):Tr α:=(qs α 4 n).f x t
theorem Tr.qP{α:Type}(n:Nat):(Tr.leaf:Tr α).get n=none:=PQ α 4 n
theorem Tr.HL{α:Type}(t:Tr α)(n m:Nat)(x:α):(t.set n x).get m=if n=m then some x else t.get m:=zab α x 4 n m t
inductive O where
 |cells (e sz:Nat) (live ro:Bool) (cs:List V)
 |map (b:List (V×V×Nat)) (a:Nat)
 |iter (m:Option Nat) (since:Nat) (seen:List Nat) (last:Nat)
 deriving Inhabited
structure Hp where
 next:Nat
 tr:Tr O
noncomputable def Hp.get(h:Hp)(l:Nat):Option O:=Bool.rec (motive:=λ_=>Option O) none (h.tr.get l) (Nat.blt l h.next)
theorem Hp.get_eq(h:Hp) (l:Nat):h.get l=if l<h.next then h.tr.get l else none:=by
 show Bool.rec (motive:=λ_=>Option O) none (h.tr.get l) (Nat.blt l h.next)=_
 cases hb:Nat.blt l h.next with
 |true=>simp_all
 |false=>rw[if_neg (by grind[O6])]
theorem Hp.LO{h:Hp} {l:Nat} {o:O} (a:h.get l=some o):l<h.next:=by
 grind[Hp.get_eq]
noncomputable def Hp.put(h:Hp)(l:Nat)(o:O):Hp:={h with tr:=h.tr.set l o}
noncomputable def Hp.new(h:Hp)(o:O):Hp:={next:=h.next+1,tr:=h.tr.set h.next o}
noncomputable def Qo:List V->Nat->Tr V->Tr V
 |[],_,t=>t
 |v::vs,i,t=>Qo vs (i+1) (t.set i v)
inductive Tm where
 |tree (t:Tr V) (ds:List (Nat×List V))
 |fn (f:Nat->V) (ds:List (Nat×List V))
noncomputable def jw(t:Tm) (i:Nat):V:=Tm.rec (motive:=λ_=>V) (λt _=>Option.rec (motive:=λ_=>V) V.undef (λv=>v) (t.get i)) (λf _=>f i) t
noncomputable def gw(f:Nat->V)(d:Nat)(v:V):Nat->V:=λi=>Bool.rec (motive:=λ_=>V) (f i) v (Nat.beq i d)
noncomputable def Tm.set(t:Tm) (d:Nat) (v:V):Tm:=Tm.rec (motive:=λ_=>Tm) (λt ds=> .tree (t.set d v) ds) (λf ds=> .fn (gw f d v) ds) t
def Tm.ds:Tm->List (Nat×List V)
 | .tree _ ds=>ds
 | .fn _ ds=>ds
def Tm.push(x:Nat×List V):Tm->Tm
 | .tree t ds=> .tree t (x::ds)
 | .fn f ds=> .fn f (x::ds)
theorem LI(t:Tm) (d i:Nat) (v:V):jw (t.set d v) i=if d=i then v else jw t i:=by
 cases t with
 | tree t ds=>
   show Option.rec (motive:=λ_=>V) V.undef (λv=>v) ((t.set d v).get i)=_;rw[Tr.HL];by_cases h:d=i
   ·simp_all
   ·rw[if_neg h,if_neg h];rfl
 | fn f ds=>
   show Bool.rec (motive:=λ_=>V) (f i) v (Nat.beq i d)=_
   cases hb:Nat.beq i d with
   |true=>simp_all
   |false=>rw[if_neg (by grind[Yd])];rfl
theorem Tm.XP(t:Tm)(d:Nat)(v:V):(t.set d v).ds=t.ds:=by cases t <;> rfl
theorem Tm.Zw(t:Tm)(x:Nat×List V):(t.push x).ds=x::t.ds:=by cases t <;> rfl
theorem UF(t:Tm)(x:Nat×List V)(i:Nat):jw (t.push x) i=jw t i:=by cases t <;> rfl
noncomputable def SG(args:List V):Tm:= .tree (Qo args 0 .leaf) []
def fK(args:List V):Tm:= .fn (λi=>(args[i]?).getD .undef) []
noncomputable def P0:Program:=Tryd.prog
attribute [irreducible] P0
def zbJ:List (Nat×Array Value):=[]
noncomputable section ops
def oB{α β:Type}(x:Option α)(k:α->Option β):Option β:=Option.rec (motive:=λ_=>Option β) none k x
def bB{β:Type}(c:Bool)(k:Option β):Option β:=Bool.rec (motive:=λ_=>Option β) none k c
def yz{β:Type} (v:V) (k:Nat->Nat->Option β):Option β:=match v with
 | .ptr l o=>k l o
 |_=>none
def asNat{β:Type} (v:V) (k:Nat->Option β):Option β:=match v with
 | .int _ (.ofNat n)=>k n
 |_=>none
def wZ(t:Nat):Option Nat:=oB (P0.info? t) λi=>some i.size
def YY(t:Nat):Option Nat:=oB (P0.info? t) λi=>some i.bytes
def Lh(t:Nat):Option Bool:=match P0.underlying t with
 |some (.struct _)=>some true
 |some (.array _ _)=>some true
 |some _=>some false
 |none=>none
def zeroV(t:Nat):Option V:=oB (P0.info? t) λi=>oB i.zero λz=>lZ 8 z
def takeN:Nat->List V->Option (List V)
 |0,_=>some []
 |_+1,[]=>none
 |n+1,v::vs=>oB (takeN n vs) λl=>some (v::l)
def sub(cs:List V)(off n:Nat):Option (List V):=takeN n (cs.drop off)
def xM(cs:List V)(off:Nat):Option V:=(cs.drop off).head?
def over:List V->List V->Option (List V)
 |[],cs=>some cs
 |_::_,[]=>none
 |n::ns,_::cs=>oB (over ns cs) λl=>some (n::l)
def pE:Nat->List V->List V->Option (List V)
 |0,cs,new=>over new cs
 |_+1,[],_=>none
 |k+1,c::cs,new=>oB (pE k cs new) λl=>some (c::l)
def fZ:List V->Bool
 |[]=>true
 |v::vs=>Bool.rec (motive:=λ_=>Bool) false (fZ vs) v.one
def kQ{β:Type} (h:Hp) (l:Nat) (k:Nat->Nat->Bool->Bool->List V->Option β):Option β:=oB (h.get l) λo=>match o with
 | .cells e sz live ro cs=>k e sz live ro cs
 |_=>none
def xH{β:Type} (h:Hp) (l:Nat) (k:List (V×V×Nat)->Nat->Option β):Option β:=oB (h.get l) λo=>match o with
 | .map a c=>k a c
 |_=>none
def ET(h:Hp)(l off n:Nat):Option (List V):=kQ h l λ_ _ live _ cs=>bB live (sub cs off n)
def ld1(h:Hp)(l off:Nat):Option V:=kQ h l λ_ _ live _ cs=>bB live (xM cs off)
def CK(h:Hp) (l off:Nat) (new:List V):Option Hp:=kQ h l λe sz live ro cs=>bB live (bB (!ro) (bB (fZ new) (oB (pE off cs new) λot=>some (h.put l (.cells e sz true false ot)))))
structure PF where
 f:Tm->Hp->Option V
structure NF where
 f:Tm->Option V
structure AF where
 f:Tm->Option (O×(Nat->V))
def L9:Operand->NF
 | .tmp i=>⟨λt=>some (jw t i)⟩
 | .const v=>match lZ 8 v with
   |some v=>⟨λ_=>some v⟩
   |none=>⟨λ_=>none⟩
 | .global _=>⟨λ_=>none⟩
 | .func f=>⟨λ_=>some (.func f [] [])⟩
def qJ(x:Operand):PF:=match x with
 | .global g=>match Nat.blt g P0.globals.size with
   |true=>⟨λ_ h=>oB (h.get g) λ_=>some (.ptr g 0)⟩
   |false=>⟨λ_ _=>none⟩
 |x=>⟨λt _=>(L9 x).f t⟩
def G3(t:Tm):List Operand->Option (List V)
 |[]=>some []
 |x::xs=>oB ((L9 x).f t) λv=>oB (G3 t xs) λvs=>some (v::vs)
def rB(t:Tm):List (Nat×Operand)->Option (List (Nat×V))
 |[]=>some []
 |x::xs=>oB ((L9 x.2).f t) λv=>oB (rB t xs) λvs=>some ((x.1,v)::vs)
def I3(t:Nat) (a:PF):PF:=match Lh t with
 | some true=>match wZ t with
   |some n=>⟨λt h=>oB (a.f t h) λa=>yz a λl off=>oB (ET h l off n) λcs=>some (.agg cs)⟩
   |none=>⟨λ_ _=>none⟩
 |some false=>⟨λt h=>oB (a.f t h) λa=>yz a λl off=>ld1 h l off⟩
 |none=>⟨λ_ _=>none⟩
def placesOf:List Field->Option (List (Nat×Nat))
 |[]=>some []
 |f::fs=>oB (wZ f.type) λn=>oB (placesOf fs) λl=>some ((f.offset,n)::l)
def AP(place:Nat->Option (Nat×Nat)):List V->List (Nat×V)->Option (List V)
 |cells,[]=>some cells
 |cells,x::rest=>oB (place x.1) λp=>bB (Nat.beq x.2.cells.length p.2) (oB (pE p.1 cells x.2.cells) λcs=>AP place cs rest)
def zS:Nat->List V->List V
 |0,_=>[]
 |n+1,z=>z++zS n z
def Gc(t:Nat) (parts:List (Nat×Operand)):PF:=match zeroV t with
 | some z=>match P0.underlying t with
   | some (.struct fields)=>match placesOf fields.toList with
     |some a=>⟨λt _=>oB (rB t parts) λps=>oB (AP (λi=>a[i]?) z.cells ps) λcs=>some (.agg cs)⟩
     |none=>⟨λ_ _=>none⟩
   | some (.array _ elem)=>match wZ elem with
     |some size=>⟨λt _=>oB (rB t parts) λps=>oB (AP (λi=>some (Nat.mul i size,size)) z.cells ps) λcs=>some (.agg cs)⟩
     |none=>⟨λ_ _=>none⟩
   |_=>⟨λ_ _=>none⟩
 |none=>⟨λ_ _=>none⟩
def mb(k:IntKind) (n:Int):Int:=match n with
 | .ofNat m=>match Nat.blt m (match k with| .i8=>128| .u8=>256| .i16=>32768| .u16=>65536| .i32=>2147483648| .u32=>4294967296| .i64=>9223372036854775808| .u64=>18446744073709551616)with
   |true=> .ofNat m
   |false=>k.wrap (.ofNat m)
 | .negSucc m=>k.wrap (.negSucc m)
def hint(op:BinOp) (k:IntKind) (x y:Int):Option V:=match op with
 | .add=>some (.int k (mb k (x+y)))
 | .sub=>some (.int k (mb k (x-y)))
 | .mul=>some (.int k (mb k (x*y)))
 | .quo=>match x,y with
   |_,.ofNat 0=>none
   |x,y=>some (.int k (mb k (x.tdiv y)))
 | .rem=>match x,y with
   |_,.ofNat 0=>none
   |x,y=>some (.int k (x.tmod y))
 | .and=>some (.int k (k.wrap ((BitVec.ofInt k.bits x&&&BitVec.ofInt k.bits y).toNat)))
 | .or=>some (.int k (k.wrap ((BitVec.ofInt k.bits x |||BitVec.ofInt k.bits y).toNat)))
 | .xor=>some (.int k (k.wrap ((BitVec.ofInt k.bits x ^^^ BitVec.ofInt k.bits y).toNat)))
 | .andNot=>some (.int k (k.wrap ((BitVec.ofInt k.bits x&&&~~~ BitVec.ofInt k.bits y).toNat)))
 | .eql=>some (.bool (x == y))
 | .neq=>some (.bool (x != y))
 | .lss=>some (.bool (x<y))
 | .leq=>some (.bool (x<=y))
 | .gtr=>some (.bool (x>y))
 | .geq=>some (.bool (x>=y))
 |_=>none
def Ro(op:BinOp) (k:IntKind) (x y:Int):Option V:=match y with
 | .negSucc _=>none
 | .ofNat m=>match op with
   | .shl=>some (.int k (k.wrap (x*2 ^ (min m k.bits))))
   | .shr=>some (.int k (x.fdiv (2 ^ (min m k.bits))))
   |_=>none
def za7(op:BinOp) (x y:List UInt8):Option V:=match op with
 | .add=>match Nat.ble (x.length+y.length) 4611686018427387904 with
   |true=>some (.str (x++y))
   |false=>none
 | .eql=>some (.bool (x == y))
 | .neq=>some (.bool (!(x == y)))
 | .lss=>some (.bool (Op.bytesLess x y))
 | .leq=>some (.bool (Op.bytesLess x y ||x == y))
 | .gtr=>some (.bool (!(Op.bytesLess x y ||x == y)))
 | .geq=>some (.bool (!(Op.bytesLess x y)))
 |_=>none
def WL(d:TypeDesc) (x y:V):Option Bool:=match d,x,y with
 | .bool,.bool a,.bool b=>some (a == b)
 | .pointer _,.nilPtr,.nilPtr=>some true
 | .pointer _,.nilPtr,.ptr _ _=>some false
 | .pointer _,.ptr _ _,.nilPtr=>some false
 | .slice _,.ee,.ee=>some true
 | .slice _,.ee,.slice _ _ _=>some false
 | .slice _,.slice _ _ _,.ee=>some false
 | .map _ _,.ku,.ku=>some true
 | .map _ _,.ku,.map _=>some false
 | .map _ _,.map _,.ku=>some false
 | .func _ _ _,.nilFunc,.nilFunc=>some true
 | .func _ _ _,.nilFunc,.func _ _ _=>some false
 | .func _ _ _,.func _ _ _,.nilFunc=>some false
 | .interface ms,.nilIface,.nilIface=>bB ms.isEmpty (some true)
 | .interface _,.nilIface,.iface _ _=>some false
 | .interface _,.iface _ _,.nilIface=>some false
 |_,_,_=>none
def N1:IntKind->IntKind->Bool
 | .i8,.i8| .i16,.i16| .i32,.i32| .i64,.i64| .u8,.u8| .u16,.u16| .u32,.u32| .u64,.u64=>true
 |_,_=>false
def WU(t:Nat) (x y:V):Option Bool:=match P0.underlying t with
 |some d=>WL d x y
 |none=>none
def eq1(d:Option TypeDesc) (x y:V):Option Bool:=match d,x,y with
 |some .bool,.bool a,.bool b=>some (a == b)
 |some (.int _),.int k a,.int k' b=>bB (N1 k k') (some (a == b))
 |some .string,.str a,.str b=>some (a == b)
 |_,_,_=>none
def JY:List Field->List V->List V->Option Bool
 |[],_,_=>some true
 |f::fs,xs,ys=>bB (!(f.name == "_")) (oB (xM xs f.offset) λx=>oB (xM ys f.offset) λy=>oB (eq1 (P0.underlying f.type) x y) λb=>Bool.rec (motive:=λ_=>Option Bool) (some false) (JY fs xs ys) b)
def Wa(t:Nat) (xs ys:List V):Option Bool:=match P0.underlying t with
 |some (.struct fs)=>bB (!(P0.stoodInHeld t)) (bB (!(P0.eqGuardType P0.depth t)) (JY fs.toList xs ys))
 |_=>none
def zaz(t:Nat) (x y:V):Option Bool:=match x,y with
 | .agg xs,.agg ys=>Wa t xs ys
 |_,_=>WU t x y
def Vo(t:Nat)(a:Bool)(x y:V):Option V:=oB (zaz t x y) λb=>some (.bool (Bool.rec (motive:=λ_=>Bool) b (!b) a))
def T0:BinOp->Bool
 | .shl| .shr=>true
 |_=>false
def eJ(op:BinOp) (t:Nat) (x y:V):Option V:=match x,y with
 | .int k a,.int k' b=>match T0 op with
   |true=>Ro op k a b
   |false=>bB (N1 k k') (hint op k a b)
 | .str a,.str b=>za7 op a b
 | x,y=>match op with
   | .eql=>Vo t false x y
   | .neq=>Vo t true x y
   |_=>none
def vC(op:UnOp) (x:V):Option V:=match op,x with
 | .neg,.int k n=>some (.int k (mb k (Int.sub 0 n)))
 | .not,.bool b=>some (.bool !b)
 | .xor,.int k n=>hint .xor k (if k.signed then -1 else k.max) n
 |_,_=>none
def byteOf:V->Option UInt8
 | .int .u8 (.ofNat m)=>bB (Nat.blt m 256) (some (UInt8.ofNat m))
 |_=>none
def bytesOf:List V->Option (List UInt8)
 |[]=>some []
 |v::vs=>oB (byteOf v) λb=>oB (bytesOf vs) λl=>some (b::l)
def Jb(src dst:Nat) (x:PF):PF:=match P0.underlying src,P0.underlying dst with
 | some (.int _),some (.int k)=>⟨λt h=>oB (x.f t h) λx=>match x with
   | .int _ n=>some (.int k (mb k n))
   |_=>none⟩
 | some .string,some .string=>⟨λt h=>oB (x.f t h) λx=>match x with
   | .str s=>some (.str s)
   |_=>none⟩
 | some (.slice e),some .string=>match P0.underlying e with
   | some (.int .u8)=>⟨λt h=>oB (x.f t h) λx=>match x with
     | .ee=>some (.str [])
     | .slice l off n=>oB (ET h l off n) λcs=>oB (bytesOf cs) λs=>some (.str s)
     |_=>none⟩
   |_=>⟨λ_ _=>none⟩
 |_,_=>⟨λ_ _=>none⟩
def QC(t:Nat):List V->Nat->Option V:=match Lh t with
 | some true=>match wZ t with
   |some n=>λcs off=>oB (sub cs off n) λl=>some (.agg l)
   |none=>λ_ _=>none
 |some false=>λcs off=>xM cs off
 |none=>λ_ _=>none
def JU(s f:Nat):Option Field:=match P0.underlying s with
 |some (.struct fields)=>fields.toList[f]?
 |_=>none
def pA(s:Nat) (x:PF) (f:Nat):PF:=match JU s f with
 | some a=>match wZ a.type with
   |some (_+1)=>⟨λt h=>oB (x.f t h) λx=>yz x λl off=>some (.ptr l (Nat.add off a.offset))⟩
   |_=>⟨λ_ _=>none⟩
 |none=>⟨λ_ _=>none⟩
def FP(s:Nat) (x:PF) (f:Nat):PF:=match JU s f with
 | some a=>⟨λt h=>oB (x.f t h) λx=>match x with
   | .agg cs=>QC a.type cs a.offset
   |_=>none⟩
 |none=>⟨λ_ _=>none⟩
def pR(t:Nat) (x i:PF):PF:=match P0.underlying t with
 | some (.slice elem)=>match wZ elem with
   | some n=>⟨λt h=>oB (x.f t h) λx=>oB (i.f t h) λi=>asNat i λi=>match x with
     | .slice l off len=>bB (Nat.blt i len) (some (.ptr l (Nat.add off (Nat.mul i n))))
     |_=>none⟩
   |none=>⟨λ_ _=>none⟩
 | some (.array len elem)=>match wZ elem with
   |some n=>⟨λt h=>oB (x.f t h) λx=>oB (i.f t h) λi=>asNat i λi=>yz x λl off=>bB (Nat.blt i len) (some (.ptr l (Nat.add off (Nat.mul i n))))⟩
   |none=>⟨λ_ _=>none⟩
 |_=>⟨λ_ _=>none⟩
def Gt(t:Nat) (x i:PF):PF:=match P0.underlying t with
 | some (.array len elem)=>match wZ elem with
   | some n=>⟨λt h=>oB (x.f t h) λx=>oB (i.f t h) λi=>asNat i λi=>match x with
     | .agg cs=>bB (Nat.blt i len) (QC elem cs (Nat.mul i n))
     |_=>none⟩
   |none=>⟨λ_ _=>none⟩
 | some .string=>⟨λt h=>oB (x.f t h) λx=>oB (i.f t h) λi=>asNat i λi=>match x with
   | .str s=>oB ((s.drop i).head?) λb=>some (.int .u8 (.ofNat b.toNat))
   |_=>none⟩
 |_=>⟨λ_ _=>none⟩
def hbound(d:Nat):Option V->Option Nat
 |none=>some d
 |some (.int _ (.ofNat n))=>some n
 |some _=>none
def jc(size:Nat) (x:V) (lo hi:Option V) (h:Hp):Option V:=match x with
 | .slice lc off len=>kQ h lc λ_ sz _ _ cs=>bB (Nat.beq size sz) (oB (hbound 0 lo) λl=>oB (hbound len hi) λu=>
   bB (Nat.ble l u) (bB (Nat.ble u len ||Nat.ble (Nat.add off (Nat.mul u size)) cs.length) (some (.slice lc (Nat.add off (Nat.mul l size)) (Nat.sub u l)))))
 | .ee=>oB (hbound 0 lo) λl=>oB (hbound 0 hi) λu=>bB (Nat.beq l 0) (bB (Nat.beq u 0) (some .ee))
 |_=>none
def NP(x:V) (lo hi:Option V):Option V:=match x with
 | .str s=>oB (hbound 0 lo) λl=>oB (hbound s.length hi) λu=>bB (Nat.ble l u) (bB (Nat.ble u s.length) (some (.str ((s.drop l).take (Nat.sub u l)))))
 |_=>none
def G8(x:Option Operand) (t:Tm) (h:Hp):Option (Option V):=match x with
 |none=>some none
 |some x=>oB ((qJ x).f t h) λv=>some (some v)
def IP(t:Nat) (x:PF) (lo hi:Option Operand):PF:=match P0.underlying t with
 |some .string=>⟨λt h=>oB (x.f t h) λx=>oB (G8 lo t h) λl=>oB (G8 hi t h) λu=>NP x l u⟩
 | some (.slice elem)=>match wZ elem with
   |some (n+1)=>⟨λt h=>oB (x.f t h) λx=>oB (G8 lo t h) λl=>oB (G8 hi t h) λu=>jc (Nat.succ n) x l u h⟩
   |_=>⟨λ_ _=>none⟩
 |_=>⟨λ_ _=>none⟩
def HO:V->Bool
 | .int _ _| .str _| .bool _=>true
 |_=>false
def Ir:V->Bool
 | .agg cs=>cs.all HO
 |v=>HO v
def BM(t:Nat) (a b:V):Option Bool:=match P0.underlying t with
 | some (.int _)=>match a,b with
   | .int k a,.int k' b=>bB (N1 k k') (some (a == b))
   |_,_=>none
 | some .string=>match a,b with
   | .str a,.str b=>some (a == b)
   |_,_=>none
 | some .bool=>match a,b with
   | .bool a,.bool b=>some (a == b)
   |_,_=>none
 |_=>none
def B9(t:Nat):Bool:=match P0.underlying t with
 |some (.int _)|some .string|some .bool=>true
 |_=>false
def I5:List Field->List V->List V->Option Bool
 |[],_,_=>some true
 |f::fs,x,y=>oB (xM x f.offset) λa=>oB (xM y f.offset) λb=>oB (BM f.type a b) λe=>Bool.rec (motive:=λ_=>Option Bool) (some false) (I5 fs x y) e
def GA(t:Nat):Option (Option (List Field)):=match P0.underlying t with
 |some (.int _)|some .string|some .bool=>some none
 | some (.struct fs)=>match !P0.stoodInHeld t&&fs.toList.all (λf=>B9 f.type&&f.name != "_")with
   |true=>some (some fs.toList)
   |false=>none
 |_=>none
def L3(t:Nat) (d:Option (List Field)) (a b:V):Option Bool:=match d with
 |none=>BM t a b
 | some fs=>match a,b with
   | .agg x,.agg y=>I5 fs x y
   |_,_=>none
def Gy(d:Option (List Field)) (k:V):Bool:=match d with
 |none=>true
 | some fs=>match k with
   | .agg x=>fs.all λf=>(xM x f.offset).isSome
   |_=>false
def po(t:Nat) (d:Option (List Field)) (k:V):List (V×V×Nat)->Nat->Option (Option (Nat×V))
 |[],_=>some none
 |e::es,i=>oB (L3 t d k e.1) λb=>Bool.rec (motive:=λ_=>Option (Option (Nat×V))) (po t d k es (Nat.succ i)) (some (some (i,e.2.1))) b
def found(z:V) (ok:Bool) (r:Option (Nat×V)):V:=match r,ok with
 |some (_,v),true=> .tuple [v,.bool true]
 |some (_,v),false=>v
 |none,true=> .tuple [z,.bool false]
 |none,false=>z
def Es(a:Nat) (m k:PF) (ok:Bool):PF:=match P0.underlying a with
 | some (.map kt et)=>match GA kt,zeroV et with
   |some d,some z=>⟨λt h=>oB (m.f t h) λm=>oB (k.f t h) λk=>bB (Gy d k) (match m with
      | .ku=>some (found z ok none)
      | .map l=>xH h l λb _=>oB (po kt d k b 0) λr=>some (found z ok r)
      |_=>none)⟩
   |_,_=>⟨λ_ _=>none⟩
 |_=>⟨λ_ _=>none⟩
def hlen(t:Nat) (x:PF):PF:=match P0.underlying t with
 | some .string=>⟨λt h=>oB (x.f t h) λx=>match x with
   | .str s=>some (.int .i64 (.ofNat s.length))
   |_=>none⟩
 | some (.slice _)=>⟨λt h=>oB (x.f t h) λx=>match x with
   | .slice _ _ n=>some (.int .i64 (.ofNat n))
   | .ee=>some (.int .i64 (.ofNat 0))
   |_=>none⟩
 |some (.array n _)=>⟨λt h=>oB (x.f t h) λ_=>some (.int .i64 (.ofNat n))⟩
 | some (.map _ _)=>⟨λt h=>oB (x.f t h) λx=>match x with
   | .ku=>some (.int .i64 (.ofNat 0))
   | .map l=>xH h l λa _=>some (.int .i64 (.ofNat a.length))
   |_=>none⟩
 |_=>⟨λ_ _=>none⟩
def Oy(c:Bool):V->List V->Option V
 |x,[]=>some x
 | .int k a,.int _ b::r=>Oy c (.int k (if c then(if b>a then b else a) else(if b<a then b else a))) r
 |_,_=>none
def isIface(t:Nat):Option Bool:=match P0.underlying t with
 |some (.interface _)=>some true
 |some _=>some false
 |none=>none
def Ei(x:PF) (a:Nat) (ok:Bool):PF:=match isIface a,zeroV a with
 | some false,some z=>⟨λt h=>oB (x.f t h) λx=>match x,ok with
   | .iface t v,true=>some (Bool.rec (motive:=λ_=>V) (.tuple [z,.bool false]) (.tuple [v,.bool true]) (Nat.beq t a))
   | .iface t v,false=>bB (Nat.beq t a) (some v)
   | .nilIface,true=>some (.tuple [z,.bool false])
   |_,_=>none⟩
 |_,_=>⟨λ_ _=>none⟩
def Ju(c a b:PF):PF:=⟨λt h=>oB (c.f t h) λc=>match c with
 | .bool x=>Bool.rec (motive:=λ_=>Option V) (b.f t h) (a.f t h) x
 |_=>none⟩
def yh(x:PF):PF:=⟨λt h=>oB (x.f t h) λx=>match x with
 | .ptr l off=>some (.ptr l off)
 | .func f a c=>some (.func f a c)
 | .iface u v=>some (.iface u v)
 |_=>none⟩
def CO(x:PF) (i:Nat):PF:=⟨λt h=>oB (x.f t h) λx=>match x with
 | .tuple vs=>xM vs i
 |_=>none⟩
def ZH:PF:=⟨λ_ _=>none⟩
def iz(o:Oper):PF:=match o.op with
 | .move x=>qJ x
 | .assign x=>qJ x
 | .pick c a b=>Ju (qJ c) (qJ a) (qJ b)
 | .load ty a=>I3 ty (qJ a)
 | .nilCheck x=>yh (qJ x)
 | .binOp op e x y _=>⟨λt h=>oB ((qJ x).f t h) λa=>oB ((qJ y).f t h) λb=>eJ op e a b⟩
 | .unOp op _ x=>⟨λt h=>oB ((qJ x).f t h) λa=>vC op a⟩
 | .convert src dst x=>Jb src dst (qJ x)
 | .build ty parts=>Gc ty parts.toList
 | .makeFunc (.func f) first caps=>⟨λt _=>oB (G3 t first.toList) λa=>oB (G3 t caps.toList) λc=>some (.func f a c)⟩
 | .slice ty x lo hi none=>IP ty (qJ x) lo hi
 | .fieldAddr s x f=>pA s (qJ x) f
 | .field s x f=>FP s (qJ x) f
 | .indexAddr ty x i=>pR ty (qJ x) (qJ i)
 | .index ty x i=>Gt ty (qJ x) (qJ i)
 | .lookup ty m k ok=>Es ty (qJ m) (qJ k) ok
 | .extract x i=>CO (qJ x) i
 | .makeInterface ty x=>match isIface ty with
   |some false=>⟨λt h=>oB ((qJ x).f t h) λv=>some (.iface ty v)⟩
   |_=>ZH
 | .typeAssert x _ d ok=>Ei (qJ x) d ok
 | .call c=>match c.callee with
   | .builtin .len=>match c.args.toList,c.argTypes.toList with
     |[x],ty::_=>hlen ty (qJ x)
     |_,_=>ZH
   | .builtin .min=>⟨λt _=>oB (G3 t c.args.toList) λl=>match l with
     |x::r=>Oy false x r
     |[]=>none⟩
   | .builtin .max=>⟨λt _=>oB (G3 t c.args.toList) λl=>match l with
     |x::r=>Oy true x r
     |[]=>none⟩
   |_=>ZH
 |_=>ZH
def mm(e:Nat)(v:V):Option (O×(Nat->V)):=bB (fZ v.cells) (some (.cells e 1 true false v.cells,λl=> .ptr l 0))
def DD(a size len:Nat) (z:V) (parts:List (Nat×Operand)) (t:Tm):Option (O×(Nat->V)):=oB (rB t parts) λps=>oB (AP (λi=>some (Nat.mul i size,size)) (zS len z.cells) ps) λcs=>bB (fZ cs) (some (.cells a size true false cs,λl=> .slice l 0 len))
def jm(a size kj:Nat) (z:V) (n c:V):Option (O×(Nat->V)):=match n,c with
 | .int .i64 (.ofNat n),.int .i64 (.ofNat c)=>bB (Nat.ble n c) (bB (Nat.ble (Nat.mul c kj) 281474976710656) (bB (Nat.ble c 1099511627776)
   (some (.cells a size true false (zS c z.cells),λl=> .slice l 0 n))))
 |_,_=>none
def elemOf(a:Nat):Option (Nat×Nat×V):=oB (wZ a) λsize=>oB (YY a) λkj=>oB (zeroV a) λz=>bB (Nat.blt 0 size) (bB (Nat.beq z.cells.length size) (bB (fZ z.cells) (some (size,kj,z))))
def EJ(t:Nat):Option Nat:=match P0.underlying t with
 |some (.slice e)=>some e
 |_=>none
def Ph:AF:=⟨λ_=>none⟩
def pz(o:Oper):AF:=match o.op with
 | .alloc e=>match zeroV e with
   |some z=>⟨λ_=>mm e z⟩
   |none=>Ph
 | .box e x=>⟨λt=>oB ((L9 x).f t) λv=>mm e v⟩
 | .buildSlice ty len parts=>match EJ ty with
   | some a=>match elemOf a with
     | some (size,_,z)=>match Nat.ble (Nat.mul len size) 16777216 with
       |true=>⟨λt=>DD a size len z parts.toList t⟩
       |false=>Ph
     |none=>Ph
   |none=>Ph
 | .makeSlice ty n c=>match EJ ty with
   | some a=>match elemOf a with
     |some (size,kj,z)=>⟨λt=>oB ((L9 n).f t) λn=>oB ((L9 c).f t) λc=>jm a size kj z n c⟩
     |none=>Ph
   |none=>Ph
 | .makeMap ty none=>match P0.underlying ty with
   |some (.map _ _)=>⟨λ_=>some (.map [] 0,λl=> .map l)⟩
   |_=>Ph
 |_=>Ph
inductive R where
 |val (v:V) (h:Hp)
 |call (f:Nat) (args:List V)
structure WF where
 f:Tm->Hp->Option R
def yW(s:List UInt8):List V:=s.map λb=> .int .u8 (.ofNat b.toNat)
def kW(h:Hp) (size:Nat):V->Option (Nat×List V)
 | .ee=>some (0,[])
 | .slice _ _ 0=>some (0,[])
 | .slice l off (n+1)=>oB (ET h l off (Nat.mul (Nat.succ n) size)) λcs=>some (Nat.succ n,cs)
 | .str s=>bB (Nat.beq size 1) (some (s.length,yW s))
 |_=>none
def eR(a size kj:Nat) (s x:V) (h:Hp):Option R:=oB (kW h size x) λnx=>
 Bool.rec (motive:=λ_=>Option R)
   (bB (fZ nx.2) (match s with
     | .ee=>bB (Nat.ble (Nat.mul nx.1 kj) 70368744177664) (bB (Nat.ble nx.1 70368744177664)
         (some (.val (.slice h.next 0 nx.1) (h.new (.cells a size true false nx.2)))))
     | .slice l off len=>kQ h l λe sz live ro cs=>bB live (bB (!ro) (bB (Nat.beq sz size)
         (Bool.rec (motive:=λ_=>Option R)
           (oB (sub cs off (Nat.mul len size)) λuH=>bB (fZ uH) (bB (Nat.ble (Nat.mul (Nat.add len nx.1) kj) 70368744177664) (bB (Nat.ble (Nat.add len nx.1) 70368744177664)
             (some (.val (.slice h.next 0 (Nat.add len nx.1)) ((h.put l (.cells e sz false false cs)).new (.cells a size true false (uH++nx.2))))))))
           (oB (pE (Nat.add off (Nat.mul len size)) cs nx.2) λot=>some (.val (.slice l off (Nat.add len nx.1)) (h.put l (.cells e sz true false ot))))
           (Nat.ble (Nat.add off (Nat.mul (Nat.add len nx.1) size)) cs.length))))
     |_=>none))
   (match s with
     | .ee=>some (.val .ee h)
     | .slice l off len=>some (.val (.slice l off len) h)
     |_=>none)
   (Nat.beq nx.1 0)
def V3(size:Nat) (d s:V) (h:Hp):Option R:=match d with
 | .ee=>match s with
   | .ee| .slice _ _ _| .str _=>some (.val (.int .i64 (.ofNat 0)) h)
   |_=>none
 | .slice l off len=>match s with
   | .ee=>some (.val (.int .i64 (.ofNat 0)) h)
   | .slice c a Bo=>Bool.rec (motive:=λ_=>Option R)
       (oB (ET h c a (Nat.mul (min Bo len) size)) λcs=>oB (CK h l off cs) λh=>some (.val (.int .i64 (.ofNat (min Bo len))) h))
       (some (.val (.int .i64 (.ofNat 0)) h)) (Nat.beq (min Bo len) 0)
   | .str b=>bB (Nat.beq size 1) (Bool.rec (motive:=λ_=>Option R)
       (oB (CK h l off (yW (b.take (min b.length len)))) λh=>some (.val (.int .i64 (.ofNat (min b.length len))) h))
       (some (.val (.int .i64 (.ofNat 0)) h)) (Nat.beq (min b.length len) 0))
   |_=>none
 |_=>none
def Ih(t:Nat) (d:Option (List Field)) (b:List (V×V×Nat)) (a:Nat) (k v:V):Option O:=oB (po t d k b 0) λr=>match r with
 |some (i,_)=>oB b[i]? λe=>bB (V.beq e.1 k) (bB (Ir k) (some (.map (b.set i (k,v,e.2.2)) a)))
 |none=>some (.map (b++[(k,v,a)]) (Nat.succ a))
def G2(t:Nat) (d:Option (List Field)) (m k v:V) (h:Hp):Option R:=bB (Gy d k) (match m with
 | .map l=>xH h l λa c=>oB (Ih t d a c k v) λo=>some (.val .undef (h.put l o))
 |_=>none)
def zw(t:Nat) (d:Option (List Field)) (m k:V) (h:Hp):Option R:=bB (Gy d k) (match m with
 | .ku=>some (.val (.tuple []) h)
 | .map l=>xH h l λa c=>oB (po t d k a 0) λr=>match r with
   |some (i,_)=>some (.val (.tuple []) (h.put l (.map (a.eraseIdx i) c)))
   |none=>some (.val (.tuple []) h)
 |_=>none)
def X1(x:V) (h:Hp):Option R:=match x with
 | .slice l off n=>kQ h l λe sz live ro cs=>bB live (bB (!ro) (some (.val (.slice l off n) (h.put l (.cells e sz true false cs)))))
 |_=>none
def fO(f:V) (args:List V):Option R:=match f with
 | .func f first a=>some (.call f (first++(args++a)))
 |_=>none
def methodOf(t:Nat) (a:String):Option (Nat×Option Nat):=oB (P0.info? t) λi=>match i.methods.toList.find? (λm=>m.name == a)with
 | some m=>match m.path.toList,m.func,P0.underlying t with
   |[],some (f,true),some (.pointer _)=>some (f,none)
   |[],some (f,false),some (.pointer e)=>some (f,some e)
   |[],some (f,false),some _=>some (f,none)
   |_,_,_=>none
 |none=>none
def OC(a:String) (r:V) (args:List V) (h:Hp):Option R:=match r with
 | .iface t v=>match methodOf t a with
   |some (f,none)=>some (.call f (v::args))
   |some (f,some e)=>oB ((I3 e ⟨λ_ _=>some v⟩).f (.tree .leaf []) h) λx=>some (.call f (x::args))
   |none=>none
 |_=>none
def L7(m:V) (h:Hp):Option R:=match m with
 | .ku=>some (.val (.ptr h.next 0) (h.new (.iter none 0 [] 0)))
 | .map l=>xH h l λ_ c=>some (.val (.ptr h.next 0) (h.new (.iter (some l) c [] c)))
 |_=>none
def wc(it:V) (h:Hp):Option R:=yz it λr off=>bB (Nat.beq off 0) (oB (h.get r) λo=>match o with
 | .iter none _ _ _=>some (.val (.tuple [.bool false]) h)
 | .iter (some m) since seen last=>xH h m λb a=>
   bB (!(!seen.isEmpty&&!b.isEmpty&&b.all (λe=>Nat.ble last e.2.2)))
     (match b.filter (λe=>!seen.contains e.2.2)with
       |[]=>some (.val (.tuple [.bool false]) h)
       |[e]=>bB (Nat.blt e.2.2 since) (some (.val (.tuple [.bool true,e.1,e.2.1]) (h.put r (.iter (some m) since (seen++[e.2.2]) a))))
       |_=>none)
 |_=>none)
def RX(it:V) (h:Hp):Option R:=yz it λr off=>bB (Nat.beq off 0) (oB (h.get r) λo=>match o with
 | .iter (some m) _ seen last=>xH h m λb a=>bB (Nat.beq a last) (oB seen.getLast? λst=>oB (b.find? λe=>Nat.beq e.2.2 st) λe=>some (.val (.tuple [e.1,e.2.1]) h))
 |_=>none)
def Af:WF:=⟨λ_ _=>none⟩
def jL(o:Oper):WF:=match o.op with
 | .store ty a x=>match wZ ty with
   |some n=>⟨λt h=>oB ((qJ a).f t h) λa=>oB ((qJ x).f t h) λv=>yz a λl off=>
      bB (Nat.beq v.cells.length n) (oB (CK h l off v.cells) λh=>some (.val .undef h))⟩
   |none=>Af
 | .mapUpdate ty m k x=>match P0.underlying ty with
   | some (.map kt _)=>match GA kt with
     |some d=>⟨λt h=>oB ((qJ m).f t h) λm=>oB ((qJ k).f t h) λk=>oB ((qJ x).f t h) λv=>G2 kt d m k v h⟩
     |none=>Af
   |_=>Af
 | .insert ty m k x=>match P0.underlying ty with
   | some (.map kt _)=>match GA kt with
     |some d=>⟨λt h=>oB ((qJ m).f t h) λm=>oB ((qJ k).f t h) λk=>oB ((qJ x).f t h) λv=>G2 kt d m k v h⟩
     |none=>Af
   |_=>Af
 | .range ty x=>match P0.underlying ty with
   |some (.map _ _)=>⟨λt h=>oB ((qJ x).f t h) λm=>L7 m h⟩
   |_=>Af
 | .next x false=>⟨λt h=>oB ((qJ x).f t h) λm=>wc m h⟩
 | .entry x=>⟨λt h=>oB ((qJ x).f t h) λm=>RX m h⟩
 | .convert src dst x=>match P0.underlying src,P0.underlying dst with
   | some .string,some (.slice e)=>match P0.underlying e,wZ e with
     | some (.int .u8),some 1=>⟨λt h=>oB ((qJ x).f t h) λx=>match x with
       | .str s=>some (.val (.slice h.next 0 s.length) (h.new (.cells e 1 true false (yW s))))
       |_=>none⟩
     |_,_=>Af
   | some (.slice _),some (.slice e)=>match P0.underlying e,Nat.beq src dst with
     |some (.int .u8),true=>⟨λt h=>oB ((qJ x).f t h) λx=>X1 x h⟩
     |_,_=>Af
   |_,_=>Af
 | .call c=>match c.callee with
   | .builtin .append=>match c.args.toList,c.argTypes.toList with
     | [s,x],[sT,xT]=>match EJ sT,P0.underlying xT with
       | some b,some (.slice _)=>match elemOf b with
         |some (size,kj,_)=>⟨λt h=>oB ((qJ s).f t h) λs=>oB ((qJ x).f t h) λx=>eR b size kj s x h⟩
         |none=>Af
       | some b,some .string=>match elemOf b with
         |some (size,kj,_)=>⟨λt h=>oB ((qJ s).f t h) λs=>oB ((qJ x).f t h) λx=>eR b size kj s x h⟩
         |none=>Af
       |_,_=>Af
     |_,_=>Af
   | .builtin .copy=>match c.args.toList,c.argTypes.toList with
     | [d,s],dT::_=>match EJ dT with
       | some b=>match wZ b with
         |some size=>⟨λt h=>oB ((qJ d).f t h) λd=>oB ((qJ s).f t h) λs=>V3 size d s h⟩
         |none=>Af
       |none=>Af
     |_,_=>Af
   | .builtin .delete=>match c.args.toList,c.argTypes.toList with
     | [m,k],mT::_=>match P0.underlying mT with
       | some (.map kt _)=>match GA kt with
         |some d=>⟨λt h=>oB ((qJ m).f t h) λm=>oB ((qJ k).f t h) λk=>zw kt d m k h⟩
         |none=>Af
       |_=>Af
     |_,_=>Af
   | .value f=>⟨λt h=>oB ((qJ f).f t h) λf=>oB (G3 t c.args.toList) λargs=>fO f args⟩
   | .invoke r g=>⟨λt h=>oB ((qJ r).f t h) λr=>oB (G3 t c.args.toList) λargs=>OC g r args h⟩
   |_=>Af
 |_=>Af
def cls(o:Oper):Nat:=match o.op with
 | .alloc _| .box _ _| .buildSlice _ _ _| .makeSlice _ _ _| .makeMap _ _=>1
 | .move _| .assign _| .pick _ _ _| .load _ _| .nilCheck _| .binOp _ _ _ _ _| .unOp _ _ _| .build _ _| .makeFunc _ _ _| .slice _ _ _ _ _
 | .fieldAddr _ _ _| .field _ _ _| .indexAddr _ _ _| .index _ _ _| .lookup _ _ _ _| .extract _ _| .makeInterface _ _| .typeAssert _ _ _ _=>0
 | .call c=>match c.callee with
   | .builtin .len| .builtin .min| .builtin .max=>0
   |_=>2
 | .convert src dst _=>match P0.underlying src,P0.underlying dst with
   |some (.int _),some (.int _)=>0
   |some .string,some .string=>0
   |some (.slice _),some .string=>0
   |_,_=>2
 |_=>2
abbrev Call:=Nat->List V->Hp->Option (V×Hp)
structure RF where
 f:Call->Tm->Hp->Option (V×Hp)
def Gq(o:Oper):RF:=match cls o with
 |0=>⟨λ_ t h=>oB ((iz o).f t h) λv=>some (v,h)⟩
 |1=>⟨λ_ t h=>oB ((pz o).f t) λr=>some (r.2 h.next,h.new r.1)⟩
 | _=>⟨λcall t h=>oB ((jL o).f t h) λr=>match r with
   | .val v h=>some (v,h)
   | .call f args=>call f args h⟩
structure GF where
 f:Tm->Option Bool
def ki(n:Nat) (ops:List Oper) (o:Oper):Option GF:=match o.guard with
 |none=>none
 | some (j,w)=>match ops[j]? with
   | some a=>match a.dst with
     | some d=>match Nat.blt d n with
       | true=>some ⟨λt=>match jw t d with
         | .bool b=>some (Bool.rec (motive:=λ_=>Bool) (!w) w b)
         | .tuple []=>some false
         |_=>none⟩
       |false=>some ⟨λ_=>none⟩
     |none=>some ⟨λ_=>some false⟩
   |none=>some ⟨λ_=>some false⟩
structure DF where
 f:Tm->V->Tm
def wT(n:Nat) (o:Oper):Option DF:=match o.dst with
 |none=>some ⟨λt _=>t⟩
 | some d=>match Nat.blt d n with
   |true=>some ⟨λt v=>t.set d v⟩
   |false=>none
structure SF where
 f:Call->Tm->Hp->Option (Tm×Hp)
def zct:SF:=⟨λ_ _ _=>none⟩
structure QF where
 f:Tm->Hp->Option Tm
def X4(b:V) (args:List V) (t:Tm):Option Tm:=match b with
 | .func g first a=>some (t.push (g,first++(args++a)))
 |_=>none
def yq(o:Oper):Option QF:=match o.op with
 | .defer c=>match c.callee with
   | .value f=>some ⟨λt h=>oB ((qJ f).f t h) λa=>oB (G3 t c.args.toList) λargs=>X4 a args t⟩
   |_=>none
 |_=>none
def Hk(n:Nat) (all:List Oper) (o:Oper) (a:SF):SF:=match wT n o with
 |none=>zct
 | some d=>match ki n all o with
   | none=>match yq o with
     |some q=>⟨λcall t h=>oB (q.f t h) λt=>a.f call (d.f t .undef) h⟩
     |none=>⟨λcall t h=>oB ((Gq o).f call t h) λr=>a.f call (d.f t r.1) r.2⟩
   |some g=>⟨λcall t h=>oB (g.f t) λb=>Bool.rec (motive:=λ_=>Option (Tm×Hp)) (a.f call (d.f t .undef) h)
      (oB ((Gq o).f call t h) λr=>a.f call (d.f t r.1) r.2) b⟩
def ry(n:Nat) (all:List Oper):List Oper->SF
 |[]=>⟨λ_ t h=>some (t,h)⟩
 |o::os=>Hk n all o (ry n all os)
structure It where
 i:Nat
 o:Oper
 b:Nat
def Lp(e:Edge):Bool:=match e.ground with
 | .textOnly _| .gcOnly _=>false
 |_=>true
def Kq(a:List Nat):List Edge->Nat->Nat
 |[],m=>m
 | e::es,m=>match Lp e with
   |true=>Kq a es (m |||(2 ^ e.on |||a[e.on]?.getD 0))
   |false=>Kq a es m
def items:List Oper->Nat->List Nat->List It
 |[],_,_=>[]
 |o::os,i,acc=>{i,o,b:=Kq acc o.after.toList 0}::items os (i+1) (acc++[Kq acc o.after.toList 0])
def Ac:List Operand->List Nat
 |[]=>[]
 | .tmp t::xs=>t::Ac xs
 |_::xs=>Ac xs
def pb(o:Oper):List Nat:=o.dst.toList++Ac o.op.operands.toList
def writes(o:Oper) (l:List Nat):Bool:=match o.dst with
 |some d=>l.contains d
 |none=>false
def OW(a b:It):Bool:=(!(writes a.o (pb b.o))&&!(writes b.o (pb a.o))) ||b.b.testBit a.i
def qc:List It->Bool
 |[]=>true
 |a::l=>l.all (OW a)&&qc l
def BL(jM:List It) (a:It):Bool:=match a.o.guard with
 |none=>true
 | some (j,_)=>match jM[j]? with
   | some g=>match g.o.dst with
     |some d=>a.b.testBit j&&jM.all (λx=>x.i == j || !(x.o.dst == some d))
     |none=>false
   |none=>false
def zr(a:It):Bool:=a.o.after.toList.all λe=>!Lp e ||Nat.blt e.on a.i
def Ee:List It->Bool
 |a::b::l=>b.b.testBit a.i&&Ee (b::l)
 |_=>true
def OI(jM ws:List It):Bool:=qc jM&&jM.all (BL jM)&&jM.all zr&&Ee ws
def early(ws:List It)(a:It):Nat:=(ws.filter λw=>a.b.testBit w.i).length
def late:List It->It->Nat
 |[],_=>0
 | w::ws,a=>match w.b.testBit a.i with
   |true=>0
   |false=>late ws a+1
def O.beq:O->O->Bool
 | .cells e s a r cs,.cells e' s' a' r' ot=>e == e'&&s == s'&&a == a'&&r == r'&&V.La cs ot
 | .map [] c,.map [] c'=>c == c'
 |_,_=>false
structure Rec where
 it:It
 t:Tm
 v:V
 made:Option (Nat×O)
 last:Nat
def xQ(h:Hp) (r:Rec):Bool:=match r.made with
 | none=>match (iz r.it.o).f r.t h with
   |some v=>V.beq v r.v
   |none=>false
 | some (l,ob)=>match h.get l with
   |some a=>O.beq a ob
   |none=>false
def oU(n:Nat) (all:List Oper) (o:Oper) (t:Tm):Option Bool:=match ki n all o with
 |none=>some true
 |some g=>g.f t
def zY(k:Nat)(h:Hp)(rs:List Rec):Bool:=rs.all λr=>Nat.blt r.last k ||xQ h r
def SW(jM ws:List It)(k:Nat):List It:=jM.filter λa=>!(Nat.beq (cls a.o) 2)&&Nat.beq (early ws a) k
def order(jM ws:List It):List It->Nat->List It
 |[],k=>SW jM ws k
 |w::todo,k=>SW jM ws k++w::order jM ws todo (Nat.succ k)
def Kb(ws:List It) (a:It):Nat->Bool
 |0=>true
 | k+1=>match ws[k]? with
   |some w=>a.b.testBit w.i
   |none=>false
def isW(ws:List It) (a:It) (k:Nat):Bool:=match ws[k]? with
 |some w=>Nat.beq w.i a.i
 |none=>false
def ua(jM ws:List It):List It->Nat->Nat->Bool
 |[],m,k=>jM.all (λa=>m.testBit a.i)&&Nat.beq k ws.length
 | a::l,m,k=>!m.testBit a.i&&(jM.all (λx=>!a.b.testBit x.i ||m.testBit x.i)&&(match Nat.beq (cls a.o) 2 with
   |true=>isW ws a k&&ua jM ws l (m |||2 ^ a.i) (Nat.succ k)
   |false=>Kb ws a k&&ua jM ws l (m |||2 ^ a.i) k))
structure LF where
 f:Call->Tm->Hp->List Rec->Option (Tm×Hp)
def Fs(n:Nat) (all:List Oper) (ws:List It) (a:It) (d:DF) (c:LF):LF:=⟨λcall t h rs=>oB (oU n all a.o t) λb=>Bool.rec (motive:=λ_=>Option (Tm×Hp)) (c.f call (d.f t .undef) h rs) (oB ((iz a.o).f t h) λv=>c.f call (d.f t v) h ({it:=a,t,v,made:=none,last:=late ws a}::rs)) b⟩
def DL(n:Nat) (all:List Oper) (ws:List It) (a:It) (d:DF) (c:LF):LF:=⟨λcall t h rs=>oB (oU n all a.o t) λb=>Bool.rec (motive:=λ_=>Option (Tm×Hp)) (c.f call (d.f t .undef) h rs) (oB ((pz a.o).f t) λr=>c.f call (d.f t (r.2 h.next)) (h.new r.1) ({it:=a,t,v:=r.2 h.next,made:=some (h.next,r.1),last:=late ws a}::rs)) b⟩
def z7(n:Nat) (all:List Oper) (k:Nat) (a:It) (d:DF) (c:LF):LF:=⟨λcall t h rs=>bB (zY k h rs) (oB (oU n all a.o t) λb=>Bool.rec (motive:=λ_=>Option (Tm×Hp)) (c.f call (d.f t .undef) h rs) (oB ((Gq a.o).f call t h) λx=>bB (Nat.ble h.next x.2.next) (c.f call (d.f t x.1) x.2 rs)) b)⟩
def vF(n:Nat) (all:List Oper) (ws:List It):List It->Nat->LF
 |[],k=>⟨λ_ t h rs=>bB (zY k h rs) (some (t,h))⟩
 | a ::l,k=>match wT n a.o with
   |none=>⟨λ_ _ _ _=>none⟩
   | some d=>match cls a.o with
     |0=>Fs n all ws a d (vF n all ws l k)
     |1=>DL n all ws a d (vF n all ws l k)
     |_=>z7 n all k a d (vF n all ws l (Nat.succ k))
def gK(jM:List It):List It:=jM.filter λa=>Nat.beq (cls a.o) 2
def Oj:Operand->Bool
 | .global _=>false
 |_=>true
def storeAt(o:Oper):Option Nat:=match o.op with
 | .store _ (.tmp d) x=>match o.guard,o.dst,Oj x with
   |none,none,true=>some d
   |_,_,_=>none
 |_=>none
def Dn(o:Oper):Bool:=match o.op with
 | .move x| .nilCheck x| .fieldAddr _ x _=>Oj x
 | .indexAddr _ x i=>Oj x&&Oj i
 |_=>false
def JS:List It->Option (It×It)
 |[]=>none
 |[_]=>none
 |[a,b]=>some (a,b)
 |_::b::c::l=>JS (b::c::l)
def GB:List It->Bool
 | a::b::c::l=>b.b.testBit a.i&&(match l with
   |[]=>c.b.testBit a.i
   |_=>true)&&GB (b::c::l)
 |_=>true
def fixed(jM:List It)(a:It):Bool:=(Ac a.o.op.operands.toList).all λd=>jM.all λx=>!(writes x.o [d]) ||a.b.testBit x.i
def Oh(jM:List It) (a b:It):Bool:=jM.all λx=>Nat.beq x.i a.i ||Nat.beq x.i b.i ||(a.b.testBit x.i&&b.b.testBit x.i) || (Nat.beq (cls x.o) 0&&Dn x.o&&x.o.guard.isNone&&!x.b.testBit a.i&&!x.b.testBit b.i)
def G0(jM ws:List It):Option (It×It×Nat×Nat):=match JS ws with
 | some (a,b)=>match storeAt a.o,storeAt b.o with
   | some da,some db=>match fixed jM a&&fixed jM b&&Oh jM a b&&GB ws with
     |true=>some (a,b,da,db)
     |false=>none
   |_,_=>none
 |none=>none
def Xo:V->V->Bool
 | .ptr l _,.ptr l' _=>!(Nat.beq l l')
 |_,_=>false
def OD(jM:List It):Bool:=qc jM&&jM.all (BL jM)&&jM.all zr
def Ky(n:Nat) (all:List Oper):SF:=
 match OI (items all 0 []) (gK (items all 0 []))&&ua (items all 0 []) (gK (items all 0 [])) (order (items all 0 []) (gK (items all 0 [])) (gK (items all 0 [])) 0) 0 0 with
 |true=>⟨λcall t h=>(vF n all (gK (items all 0 [])) (order (items all 0 []) (gK (items all 0 [])) (gK (items all 0 [])) 0) 0).f call t h []⟩
 | false=>match G0 (items all 0 []) (gK (items all 0 [])),OD (items all 0 [])&&ua (items all 0 []) (gK (items all 0 [])) (order (items all 0 []) (gK (items all 0 [])) (gK (items all 0 [])) 0) 0 0 with
   |some p,true=>⟨λcall t h=>oB ((vF n all (gK (items all 0 [])) (order (items all 0 []) (gK (items all 0 [])) (gK (items all 0 [])) 0) 0).f call t h []) λr=>
      bB (Xo (jw r.1 p.2.2.1) (jw r.1 p.2.2.2)) (some r)⟩
   |_,_=>zct
inductive X where
 |normal
 |exit (id:Nat)
 |ret
structure CF where
 f:Call->Nat->Tm->Hp->Option (X×Tm×Hp)
def Cz(r:Option (X×Tm×Hp)) (k:Tm->Hp->Option (X×Tm×Hp)):Option (X×Tm×Hp):=match r with
 |some (.normal,t,h)=>k t h
 |r=>r
def Iz(id:Nat) (r:Option (X×Tm×Hp)):Option (X×Tm×Hp):=match r with
 |some (.exit id',t,h)=>Bool.rec (motive:=λ_=>Option (X×Tm×Hp)) (some (.exit id',t,h)) (some (.normal,t,h)) (Nat.beq id' id)
 |r=>r
def DO(body:Tm->Hp->Option (X×Tm×Hp)) (m:Nat):Tm->Hp->Option (X×Tm×Hp):=Nat.rec (motive:=λ_=>Tm->Hp->Option (X×Tm×Hp)) (λ_ _=>none) (λ_ a t h=>Cz (body t h) a) m
def zc0:CF:=⟨λ_ _ _ _=>none⟩
def hY(n:Nat):Code->CF
 | .skip=>⟨λ_ _ t h=>some (.normal,t,h)⟩
 | .seq a b=>⟨λcall m t h=>Cz ((hY n a).f call m t h) λt h=>(hY n b).f call m t h⟩
 | .cond c a b=>⟨λcall m t h=>oB ((qJ c).f t h) λv=>match v with
   | .bool x=>Bool.rec (motive:=λ_=>Option (X×Tm×Hp)) ((hY n b).f call m t h) ((hY n a).f call m t h) x
   |_=>none⟩
 | .block id c=>⟨λcall m t h=>Iz id ((hY n c).f call m t h)⟩
 | .loop c=>⟨λcall m t h=>DO (λt h=>(hY n c).f call m t h) m t h⟩
 | .exit id=>⟨λ_ _ t h=>some (.exit id,t,h)⟩
 | .ret=>⟨λ_ _ t h=>some (.ret,t,h)⟩
 | .region _ ops false=>⟨λcall _ t h=>oB ((ry n ops.toList ops.toList).f call t h) λr=>some (.normal,r.1,r.2)⟩
 | .region _ ops true=>⟨λcall _ t h=>oB ((Ky n ops.toList).f call t h) λr=>some (.normal,r.1,r.2)⟩
 |_=>zc0
inductive Ext where
 |none
 |countByte
 |indexByte
def Kv(c:Nat):List UInt8->Nat->Nat
 |[],n=>n
 |b::l,n=>Kv c l (Bool.rec (motive:=λ_=>Nat) n (Nat.succ n) (Nat.beq b.toNat c))
def OK(c:Nat):List UInt8->Nat->Option Nat
 |[],_=>none
 |b::l,n=>Bool.rec (motive:=λ_=>Option Nat) (OK c l (Nat.succ n)) (some n) (Nat.beq b.toNat c)
def SE:Ext->List V->Option V
 | .countByte,[.str s,.int .u8 (.ofNat c)]=>bB (Nat.blt c 256) (some (.int .i64 (.ofNat (Kv c s 0))))
 | .indexByte,[.str s,.int .u8 (.ofNat c)]=>bB (Nat.blt c 256) (match OK c s 0 with
   |some i=>some (.int .i64 (.ofNat i))
   |none=>some (.int .i64 (-1)))
 |_,_=>none
def Uy:ResultVar->PF
 | .tmp i=>⟨λt _=>some (jw t i)⟩
 | .cell a ty=>I3 ty ⟨λt _=>some (jw t a)⟩
def yl(t:Tm) (h:Hp):List ResultVar->Option (List V)
 |[]=>some []
 |r::rs=>oB ((Uy r).f t h) λv=>oB (yl t h rs) λvs=>some (v::vs)
def yc(vs:List V):V:=match vs with
 |[v]=>v
 |vs=> .tuple vs
structure FF where
 f:Call->Nat->List V->Hp->Option (V×Hp)
structure fm where
 start:List V->Tm
 ext:Nat->Ext
 K:Nat->List V->Hp->Option V
def V.flat:V->Bool
 | .bool _| .int _ _| .str _| .nilPtr| .ee| .ku| .nilFunc| .nilIface=>true
 |_=>false
def PI(l:List V):Bool:=l.all V.flat
def Yf{α β:Type}(x:Option α)(k:α->Option β)(e:Option β):Option β:=Option.rec (motive:=λ_=>Option β) e k x
def TM(c:Code):Option (Nat×Code):=match c with
 | .seq (.region _ ops false) rest=>match ops.toList with
   | [o]=>match o.op with
     | .call cl=>match cl.callee,o.guard,o.dst with
       | .builtin .recover,none,some d=>some (d,rest)
       |_,_,_=>none
     |_=>none
   |_=>none
 |_=>none
def Xr(fn:Func) (r:X×Tm×Hp):Option (V×Hp):=match r.1 with
 | .exit _=>none
 | _=>match r.2.1.ds with
   |[]=>oB (yl r.2.1 r.2.2 fn.results.toList) λvs=>some (yc vs,r.2.2)
   |_::_=>none
def IV(C:fm) (f:Nat):FF:=match P0.funcs[f]? with
 | some fn=>match fn.body with
   | some c=>match TM c with
     |some (d,rest)=>⟨λcall m args h=>bB (Nat.ble args.length fn.ntmps) (bB (Nat.blt d fn.ntmps) (oB ((hY fn.ntmps rest).f call m ((C.start args).set d .nilIface) h) λr=>Xr fn r))⟩
     |none=>⟨λcall m args h=>bB (Nat.ble args.length fn.ntmps) (oB ((hY fn.ntmps c).f call m (C.start args) h) λr=>Xr fn r)⟩
   |none=>⟨λ_ _ _ _=>none⟩
 |none=>⟨λ_ _ _ _=>none⟩
def Mp(C:fm) (call:Call) (m:Nat):List (Nat×List V)->Hp->Option Hp
 |[],h=>some h
 |x::l,h=>oB ((IV C x.1).f call m x.2 h) λr=>Mp C call m l r.2
def BW(C:fm) (f:Nat):FF:=match P0.funcs[f]? with
 | some fn=>match fn.body with
   | some c=>⟨λcall m args h=>Yf (C.K f args h) (λv=>bB (PI args&&v.flat) (some (v,h))) (bB (Nat.ble args.length fn.ntmps) (oB ((hY fn.ntmps c).f call m (C.start args) h) λr=>match r.1 with
     | .exit _=>none
     |_=>oB (Mp C call m r.2.1.ds r.2.2) λh=>oB (yl r.2.1 h fn.results.toList) λvs=>some (yc vs,h)))⟩
   |none=>⟨λ_ _ args h=>oB (SE (C.ext f) args) λv=>some (v,h)⟩
 |none=>⟨λ_ _ _ _=>none⟩
def jS(C:fm) (m:Nat) (d:Nat):Call:=Nat.rec (motive:=λ_=>Call) (λ_ _ _=>none) (λ_ call f args h=>(BW C f).f call m args h) d
end ops
theorem fj{α β:Type} {x:Option α} {k:α->Option β} {y:β}:oB x k=some y↔∃v,x=some v/\k v=some y:=by
 cases x with
 |none=>grind[oB]
 |some v=>exact⟨λh=>⟨v,rfl,h⟩,λ⟨_,h,h'⟩=>by grind[oB]⟩
theorem gP{β:Type} {c:Bool} {k:Option β} {y:β}:bB c k=some y↔c=true/\k=some y:=by
 cases c with
 |false=>grind[bB]
 |true=>exact⟨λh=>⟨rfl,h⟩,λ⟨_,h⟩=>h⟩
theorem uE{β:Type} {v:V} {k:Nat->Nat->Option β} {y:β}:yz v k=some y↔∃l o,v = .ptr l o/\k l o=some y:=by
 constructor
 ·intro h;unfold yz at h
  grind
 ·rintro⟨l,o,rfl,h⟩;exact h
theorem Hc{β:Type} {v:V} {k:Nat->Option β} {y:β}:asNat v k=some y↔∃kd n,v = .int kd (.ofNat n)/\k n=some y:=by
 constructor
 ·intro h;unfold asNat at h;split at h
  ·grind
  ·cases h
 ·rintro⟨kd,n,rfl,h⟩;exact h
theorem km{β:Type} {h:Hp} {l:Nat} {k:Nat->Nat->Bool->Bool->List V->Option β} {y:β} :
  kQ h l k=some y↔∃e sz live ro cs,h.get l=some (.cells e sz live ro cs)/\k e sz live ro cs=some y:=by
 grind[kQ,fj]
theorem yK{β:Type} {h:Hp} {l:Nat} {k:List (V×V×Nat)->Nat->Option β} {y:β} :
  xH h l k=some y↔∃a c,h.get l=some (.map a c)/\k a c=some y:=by
 grind[xH,fj]
theorem Uh{β:Type}(c:Bool)(x y:β):Bool.rec (motive:=λ_=>β) x y c=if c=true then y else x:=by cases c <;> rfl
theorem WK{n:Nat} {cs l:List V} (h:takeN n cs=some l):l.length=n/\∀i,i<n->l[i]? =cs[i]?:=by
 induction n generalizing cs l with
 |zero=>simp[takeN]at h;simp_all
 | succ n a=>
   cases cs <;> grind[takeN,fj]
theorem sub_eq{cs l:List V} {off n:Nat} (h:sub cs off n=some l):l.length=n/\∀i,i<n->l[i]? =cs[off+i]?:=by
 grind[WK,sub]
theorem KZ{cs:List V} {off:Nat} {v:V} (h:xM cs off=some v):cs[off]? =some v:=by
 grind[xM,List.head?_drop]
theorem YP{new cs l:List V} (h:over new cs=some l):l.length=cs.length/\new.length<=cs.length/\∀i,l[i]? =if i<new.length then new[i]? else cs[i]?:=by
 induction new generalizing cs l with
 |nil=>simp[over]at h;simp_all
 | cons n ns a=>
   cases cs <;> grind[over,fj]
theorem Iq{k:Nat} {cs new l:List V} (h:pE k cs new=some l):l.length=cs.length/\k+new.length<=cs.length/\
  ∀i,l[i]? =if k<=i/\i<k+new.length then new[i-k]? else cs[i]?:=by
 induction k generalizing cs l with
 | zero=>
   grind[YP,pE]
 | succ k a=>
   cases cs with
   |nil=>grind[pE]
   | cons c cs=>
     simp only[pE,fj]at h
     grind
theorem UH{l:List V} (h:fZ l=true):∀v∈l,v.one=true:=by
 induction l <;> grind[fZ,Uh]
structure D where
 b:Nat
 base:Nat
 sz:Nat
 n:Nat
 Vw:Nat
 ro:Bool
 kind:Nat
abbrev Env:=Nat->Option D
def Env.le(Δ a:Env):Prop:=∀l d,Δ l=some d->a l=some d
theorem Env.le_refl(Δ:Env):Δ.le Δ:=λ_ _ h=>h
theorem Env.le_trans{Δ b a:Env}(h:Δ.le b)(h':b.le a):Δ.le a:=λl d c=>h' l d (h l d c)
mutual
inductive fG (Δ:Env):V->Value->Prop
 |bool (b:Bool):fG Δ (.bool b) (.bool b)
 |int (k:IntKind) (n:Int):fG Δ (.int k n) (.int k n)
 |str (s:ByteArray):fG Δ (.str s.data.toList) (.string s)
 |nilPtr:fG Δ .nilPtr (.pointer none)
 |ptr (l off:Nat) (d:D) (h:Δ l=some d):fG Δ (.ptr l off) (.pointer (some ⟨d.b,d.base+off,none⟩))
 |ee:fG Δ .ee (.slice none 0 0)
 | slice (l off len cap o:Nat) (d:D) (h:Δ l=some d) (hk:d.kind=0) (i:len<=cap)
   (j:(o=d.base+off/\d.n<=off+cap*d.sz/\d.base+off+cap*d.sz<=d.Vw)\/(cap=0/\d.n<=off)) :
   fG Δ (.slice l off len) (.slice (some ⟨d.b,o,none⟩) len cap)
 |ku:fG Δ .ku (.map none)
 |map (l:Nat) (d:D) (h:Δ l=some d):fG Δ (.map l) (.map (some d.b))
 |nilFunc:fG Δ .nilFunc .nilFunc
 |func (f:Nat) (a c:List V) (a' c':Array Value) (m:gj Δ a a'.toList) (hc:gj Δ c c'.toList):fG Δ (.func f a c) (.func (.func f) a' c')
 |nilIface:fG Δ .nilIface .nilIface
 |iface (t:Nat) (v:V) (e:Value) (h:fG Δ v e):fG Δ (.iface t v) (.iface t e)
 |agg (cs:List V) (ot:Array Value) (h:gj Δ cs ot.toList):fG Δ (.agg cs) (.agg ot)
 |tuple (cs:List V) (ot:Array Value) (h:gj Δ cs ot.toList):fG Δ (.tuple cs) (.tuple ot)
inductive gj (Δ:Env):List V->List Value->Prop
 |nil:gj Δ [] []
 |cons (v:V) (e:Value) (vs:List V) (g:List Value) (h:fG Δ v e) (hs:gj Δ vs g):gj Δ (v::vs) (e::g)
end
mutual
theorem fG.mono {Δ i:Env} (e:Δ.le i):∀{v:V} {g:Value},fG Δ v g->fG i v g
 |_,_,.bool b=> .bool b
 |_,_,.int k n=> .int k n
 |_,_,.str s=> .str s
 |_,_,.nilPtr=> .nilPtr
 |_,_,.ptr l off d h=> .ptr l off d (e _ _ h)
 |_,_,.ee=> .ee
 |_,_,.slice l off len cap o d h hk hl ho=> .slice l off len cap o d (e _ _ h) hk hl ho
 |_,_,.ku=> .ku
 |_,_,.map l d h=> .map l d (e _ _ h)
 |_,_,.nilFunc=> .nilFunc
 |_,_,.func f a c a' c' ha hc=> .func f a c a' c' (gj.mono e ha) (gj.mono e hc)
 |_,_,.nilIface=> .nilIface
 |_,_,.iface t v g h=> .iface t v g (fG.mono e h)
 |_,_,.agg cs ot h=> .agg cs ot (gj.mono e h)
 |_,_,.tuple cs ot h=> .tuple cs ot (gj.mono e h)
theorem gj.mono {Δ i:Env} (e:Δ.le i):∀{v:List V} {g:List Value},gj Δ v g->gj i v g
 |_,_,.nil=> .nil
 |_,_,.cons v g vs vs' h hs=> .cons v g vs vs' (fG.mono e h) (gj.mono e hs)
end
theorem gj.length{Δ:Env} {vs:List V} {a:List Value} (h:gj Δ vs a):vs.length=a.length:=by
 induction vs generalizing a with
 |nil=>cases h;rfl
 |cons v vs b=>cases h <;> grind
theorem gj.get{Δ:Env} {vs:List V} {b:List Value} (h:gj Δ vs b) (i:Nat) (v:V) (hi:vs[i]? =some v):∃c,b[i]? =some c/\fG Δ v c:=by
 induction vs generalizing b i with
 |nil=>simp_all
 | cons a vs d=>
   cases h <;> grind
theorem gj.NG{Δ:Env} {vs:List V} {b:List Value} (f:vs.length=b.length) (h:∀(i:Nat) (v:V),vs[i]? =some v->∃c,b[i]? =some c/\fG Δ v c):gj Δ vs b:=by
 induction vs generalizing b with
 | nil=>cases b with
   |nil=>exact .nil
   |cons _ _=>simp_all
 | cons a vs d=>cases b with
   |nil=>simp_all
   | cons a' b=>
     obtain⟨x,hx,e⟩:=h 0 a rfl;simp at hx;subst hx;exact .cons _ _ _ _ e (d (by simp_all) λi v hi=>by simpa using h (i+1) v (by simp_all))
theorem gj.append{Δ:Env} {a b:List V} {a' b':List Value} (h:gj Δ a a') (h':gj Δ b b'):gj Δ (a++b) (a'++b'):=by
 induction a generalizing a' with
 |nil=>cases h;exact h'
 |cons x a c=>cases h with|cons _ _ _ _ hx hs=>exact .cons _ _ _ _ hx (c hs)
theorem gj.one{Δ:Env}{v:V}{a:Value}(h:fG Δ v a):gj Δ [v] [a]:= .cons _ _ _ _ h .nil
theorem fG.undef(Δ:Env):fG Δ V.undef undef:= .tuple [] #[] .nil
theorem fG.cells{Δ:Env} {v:V} {e:Value} (h:fG Δ v e):gj Δ v.cells e.cells.toList:=by
 cases h with
 |agg cs ot h=>exact h
 |bool b=>exact .one (.bool b)
 |int k n=>exact .one (.int k n)
 |str s=>exact .one (.str s)
 |nilPtr=>exact .one .nilPtr
 |ptr l off d h=>exact .one (.ptr l off d h)
 |ee=>exact .one .ee
 |slice l off len cap o d h hk g i=>exact .one (.slice l off len cap o d h hk g i)
 |ku=>exact .one .ku
 |map l d h=>exact .one (.map l d h)
 |nilFunc=>exact .one .nilFunc
 |func f a c a' c' j hc=>exact .one (.func f a c a' c' j hc)
 |nilIface=>exact .one .nilIface
 |iface t v e h=>exact .one (.iface t v e h)
 |tuple cs ot h=>exact .one (.tuple cs ot h)
theorem fG.VJ{Δ:Env} {v:V} {a:Value} (h:fG Δ v a) (b:v.one=true):a.oneCell' = true:=by
 cases h <;> first|rfl|grind[V.one]
theorem gj.zb2{Δ:Env} {vs:List V} {a:List Value} (h:gj Δ vs a) (d:fZ vs=true):∀x∈a,x.oneCell' = true:=by
 intro x hx;obtain⟨i,hi,rfl⟩:=List.mem_iff_getElem.1 hx;have b:i<vs.length:=by rw[h.length];exact hi
 obtain⟨x,hx,c⟩:=h.get i vs[i] (by simp_all);rw[g0 hi]at hx;cases hx;exact c.VJ (by grind[UH,EA])
mutual
theorem Eu (Δ:Env):∀(n:Nat) (v:Value) (x:V),lZ n v=some x->fG Δ x v
 |_,.bool b,x,h=>by simp[lZ]at h;subst h;exact .bool b
 |_,.int k n,x,h=>by simp[lZ]at h;subst h;exact .int k n
 |_,.string s,x,h=>by simp[lZ]at h;subst h;exact .str s
 |_,.pointer none,x,h=>by simp[lZ]at h;subst h;exact .nilPtr
 |_,.pointer (some _),x,h=>by grind[lZ]
 |_,.slice none 0 0,x,h=>by simp[lZ]at h;subst h;exact .ee
 |_,.slice none 0 (_+1),x,h=>by grind[lZ]
 |_,.slice none (_+1) _,x,h=>by grind[lZ]
 |_,.slice (some _) _ _,x,h=>by grind[lZ]
 |_,.map none,x,h=>by simp[lZ]at h;subst h;exact .ku
 |_,.map (some _),x,h=>by grind[lZ]
 |_,.nilFunc,x,h=>by simp[lZ]at h;subst h;exact .nilFunc
 |_,.nilIface,x,h=>by simp[lZ]at h;subst h;exact .nilIface
 |0,.iface _ _,x,h=>by simp_all[lZ]
 |0,.agg _,x,h=>by simp_all[lZ]
 |0,.tuple _,x,h=>by simp_all[lZ]
 | n+1,.iface t v,x,h=>by
   simp only[lZ]at h;split at h
   ·rename_i y a;cases h;exact .iface t _ _ (Eu Δ n v _ a)
   ·cases h
 | n+1,.agg cs,x,h=>by
   simp only[lZ]at h;split at h
   ·rename_i y a;cases h;exact .agg _ _ (FM Δ n _ _ a)
   ·cases h
 | n+1,.tuple cs,x,h=>by
   simp only[lZ]at h;split at h
   ·rename_i y a;cases h;exact .tuple _ _ (FM Δ n _ _ a)
   ·cases h
 |_,.float _ _,x,h=>by grind[lZ]
 |_,.complex _ _ _,x,h=>by grind[lZ]
 |_,.chan _,x,h=>by grind[lZ]
 |_,.func _ _ _,x,h=>by grind[lZ]
theorem FM (Δ:Env):∀(n:Nat) (v:List Value) (x:List V),v.mapM (lZ n)=some x->gj Δ x v
 |_,[],x,h=>by simp at h;subst h;exact .nil
 | n,v::vs,x,h=>by
   simp only[List.mapM_cons,Option.bind_eq_bind,wB1,Option.pure_def,Option.some.injEq]at h;obtain⟨y,a,ys,c,rfl⟩:=h;exact .cons _ _ _ _ (Eu Δ n v y a) (FM Δ n vs ys c)
end
@[match_pattern] abbrev _root_.Go.Proofs.YtloecllhljfidaaDoor.Hx.V.I (n:Int):Go.Proofs.YtloecllhljfidaaDoor.Hx.V:=.int .i64 n
