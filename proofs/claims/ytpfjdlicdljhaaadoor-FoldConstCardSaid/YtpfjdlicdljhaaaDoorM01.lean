/- Parts. -/
import Derived.Test.YtpfjdlicdljhaaaDoorM00
import Derived.Calls
import Derived.Test.YtpfjdlicdljhaaaDoorChecked
import Derived.Orders
import Derived.Laws.CopyRow
set_option maxHeartbeats 4000000
namespace Go.Proofs.YtpfjdlicdljhaaaDoor.Hx
theorem qf:type_of% @Result.andThen_ok:=@Result.andThen_ok
theorem rk:type_of% @Sem.run_bind:=@Sem.run_bind
theorem EJ:type_of% @Sem.run_pure:=@Sem.run_pure
inductive V where
 |bool (b:Bool)
 |int (k:IntKind) (n:Int)
 |str (s:List UInt8)
 |nilPtr
 |ptr (l off:Nat)
 |cQ
 |slice (l off len:Nat)
 |iL
 |map (l:Nat)
 |nilFunc
 |func (f:Nat) (first a:List V)
 |nilIface
 |iface (t:Nat) (v:V)
 |agg (cs:List V)
 |tuple (vs:List V)
 deriving Inhabited
def V.undef:V:= .tuple []
mutual
def V.beq:V->V->Bool
 | .bool a,.bool b=>a == b
 | .int j a,.int k b=>j == k&&a == b
 | .str a,.str b=>a == b
 | .nilPtr,.nilPtr=>true
 | .ptr l o,.ptr l' o'=>l == l'&&o == o'
 | .cQ,.cQ=>true
 | .slice l o n,.slice l' o' n'=>l == l'&&o == o'&&n == n'
 | .iL,.iL=>true
 | .map l,.map l'=>l == l'
 | .nilFunc,.nilFunc=>true
 | .func f a c,.func f' a' c'=>f == f'&&V.Hg a a'&&V.Hg c c'
 | .nilIface,.nilIface=>true
 | .iface t v,.iface t' v'=>t == t'&&V.beq v v'
 | .agg a,.agg b=>V.Hg a b
 | .tuple a,.tuple b=>V.Hg a b
 |_,_=>false
def V.Hg:List V->List V->Bool
 |[],[]=>true
 |a::x,b::y=>V.beq a b&&V.Hg x y
 |_,_=>false
end
mutual
theorem V.eq_of_beq:∀(a b:V),V.beq a b=true->a=b
 | .bool a,b,h=>by cases b <;> simp_all[V.beq]
 | .int j a,b,h=>by cases b <;> simp_all[V.beq]
 | .str a,b,h=>by cases b <;> simp_all[V.beq]
 | .nilPtr,b,h=>by grind[V.beq]
 | .ptr l o,b,h=>by cases b <;> simp_all[V.beq]
 | .cQ,b,h=>by grind[V.beq]
 | .slice l o n,b,h=>by cases b <;> simp_all[V.beq]
 | .iL,b,h=>by grind[V.beq]
 | .map l,b,h=>by cases b <;> simp_all[V.beq]
 | .nilFunc,b,h=>by grind[V.beq]
 | .func f a c,b,h=>by
   cases b <;> simp_all[V.beq]
   exact⟨V.sj _ _ h.1.2,V.sj _ _ h.2⟩
 | .nilIface,b,h=>by grind[V.beq]
 | .iface t v,b,h=>by
   cases b <;> simp_all[V.beq]
   exact V.eq_of_beq _ _ h.2
 | .agg a,b,h=>by
   cases b <;> simp_all[V.beq]
   exact V.sj _ _ h
 | .tuple a,b,h=>by
   cases b <;> simp_all[V.beq];exact V.sj _ _ h
theorem V.sj:∀(a b:List V),V.Hg a b=true->a=b
 |[],b,h=>by grind[V.Hg]
 | a::x,b,h=>by
   cases b <;> simp_all[V.Hg];exact⟨V.eq_of_beq _ _ h.1,V.sj _ _ h.2⟩
end
mutual
theorem V.GY:∀(a:V),V.beq a a=true
 | .bool a=>by simp[V.beq]
 | .int j a=>by simp[V.beq]
 | .str a=>by simp[V.beq]
 | .nilPtr=>by rfl
 | .ptr l o=>by simp[V.beq]
 | .cQ=>by rfl
 | .slice l o n=>by simp[V.beq]
 | .iL=>by rfl
 | .map l=>by simp[V.beq]
 | .nilFunc=>by rfl
 | .func f a c=>by simp[V.beq,V.uo a,V.uo c]
 | .nilIface=>by rfl
 | .iface t v=>by simp[V.beq,V.GY v]
 | .agg a=>by simp[V.beq,V.uo a]
 | .tuple a=>by simp[V.beq,V.uo a]
theorem V.uo:∀(a:List V),V.Hg a a=true
 |[]=>by rfl
 |a::x=>by simp[V.Hg,V.GY a,V.uo x]
end
def V.cells:V->List V
 | .agg cs=>cs
 |v=>[v]
def V.one:V->Bool
 | .agg _| .tuple _=>false
 |_=>true
def jb:Nat->Value->Option V
 |_,.bool b=>some (.bool b)
 |_,.int k n=>some (.int k n)
 |_,.string s=>some (.str s.data.toList)
 |_,.pointer none=>some .nilPtr
 |_,.slice none 0 0=>some .cQ
 |_,.map none=>some .iL
 |_,.nilFunc=>some .nilFunc
 |_,.nilIface=>some .nilIface
 | n+1,.iface t v=>match jb n v with
   |some v=>some (.iface t v)
   |none=>none
 | n+1,.agg cs=>match cs.toList.mapM (jb n)with
   |some l=>some (.agg l)
   |none=>none
 | n+1,.tuple cs=>match cs.toList.mapM (jb n)with
   |some l=>some (.tuple l)
   |none=>none
 |_,_=>none
inductive To (α:Type) where
 |leaf
 |node (l:To α) (v:Option α) (r:To α)
noncomputable def To.get{α:Type} (t:To α):Nat->Option α:=To.rec (motive:=λ_=>Nat->Option α) (λ_=>none) (λ_ v _ gl gr n=>Bool.rec (motive:=λ_=>Option α) (Bool.rec (motive:=λ_=>Option α) (gr (Nat.sub (Nat.div n 2) 1)) (gl (Nat.div n 2)) (Nat.beq (Nat.mod n 2) 1)) v (Nat.beq n 0)) t
theorem To.oA{α:Type}(n:Nat):(To.leaf:To α).get n=none:=rfl
theorem To.qH{α:Type} (l:To α) (v:Option α) (r:To α) (n:Nat):(To.node l v r).get n =
  match Nat.beq n 0 with
  |true=>v
  | false=>match Nat.beq (n % 2) 1 with
    |true=>l.get (n / 2)
    |false=>r.get (n / 2-1):=by
 show Bool.rec (motive:=λ_=>Option α) (Bool.rec (motive:=λ_=>Option α) (r.get (n / 2-1)) (l.get (n / 2)) (Nat.beq (n % 2) 1)) v (Nat.beq n 0)=_;cases Nat.beq n 0 <;> cases Nat.beq (n % 2) 1 <;> rfl
def To.JP{α:Type}:Nat->To α->Nat->α->To α
 |0,t,_,_=>t
 | f + 1,.leaf,n,x=>
   match Nat.beq n 0 with
   |true=> .node .leaf (some x) .leaf
   | false=>match Nat.beq (n % 2) 1 with
     |true=> .node (To.JP f .leaf (n / 2) x) none .leaf
     |false=> .node .leaf none (To.JP f .leaf (n / 2-1) x)
 | f + 1,.node l v r,n,x=>
   match Nat.beq n 0 with
   |true=> .node l (some x) r
   | false=>match Nat.beq (n % 2) 1 with
     |true=> .node (To.JP f l (n / 2) x) v r
     |false=> .node l v (To.JP f r (n / 2-1) x)
noncomputable def To.set{α:Type} (t:To α):Nat->α->To α:=To.rec (motive:=λ_=>Nat->α->To α) (λn x=>Bool.rec (motive:=λ_=>To α) (To.JP (Nat.succ n) .leaf n x) (.node .leaf (some x) .leaf) (Nat.beq n 0)) (λl v r a b n x=>Bool.rec (motive:=λ_=>To α) (Bool.rec (motive:=λ_=>To α) (.node l v (b (Nat.sub (Nat.div n 2) 1) x)) (.node (a (Nat.div n 2) x) v r) (Nat.beq (Nat.mod n 2) 1)) (.node l (some x) r) (Nat.beq n 0)) t
theorem To.K5{α:Type} (x:α):∀(f:Nat) (t:To α) (n m:Nat),n<f->(t.JP f n x).get m=if n=m then some x else t.get m:=by
 intro f
 induction f with
 |zero=>omega
 | succ f j =>
   intro t n m h
   cases t with
   | leaf =>
     unfold To.JP
     cases h0:Nat.beq n 0 with
     | true=>
       have e:n=0:=wC h0;subst e
       cases m with
       |zero=>rfl
       | succ m=>
         have b:Nat.beq (m+1) 0=false:=rfl
         grind[To.oA,To.qH,Nat.beq]
     | false =>
       have k:n≠0:=λe=>by simp_all
       cases c:Nat.beq (n % 2) 1 with
       | true=>
         have b:n % 2=1:=wC c;simp only[To.oA,To.qH]
         cases d:Nat.beq m 0 with
         | true=>
           simp_all
         | false=>
           have g:m≠0:=λe=>by simp_all
           cases a:Nat.beq (m % 2) 1 with
           | true=>
             have i:m % 2=1:=wC a;simp only[j .leaf (n / 2) (m / 2) (by omega),To.oA,To.qH]
             grind
           | false=>
             grind
       | false=>
         have b:n % 2≠1:=λe=>by simp_all
         simp only[To.oA,To.qH]
         cases d:Nat.beq m 0 with
         | true=>
           simp_all
         | false=>
           have g:m≠0:=λe=>by simp_all
           cases a:Nat.beq (m % 2) 1 with
           | true=>
             grind
           | false=>
             have i:m % 2≠1:=λe=>by simp_all
             simp only[j .leaf (n / 2-1) (m / 2-1) (by omega),To.oA,To.qH]
             grind
   | node l v r=>
     unfold To.JP
     cases h0:Nat.beq n 0 with
     | true=>
       have e:n=0:=wC h0;subst e
       cases m with
       |zero=>rfl
       | succ m=>
         rfl
     | false =>
       have k:n≠0:=λe=>by simp_all
       cases c:Nat.beq (n % 2) 1 with
       | true=>
         have b:n % 2=1:=wC c;simp only[To.oA,To.qH]
         cases d:Nat.beq m 0 with
         | true=>
           simp_all
         | false=>
           have g:m≠0:=λe=>by simp_all
           cases a:Nat.beq (m % 2) 1 with
           | true=>
             have i:m % 2=1:=wC a
             grind
           | false=>
             grind
       | false=>
         have b:n % 2≠1:=λe=>by simp_all
         simp only[To.oA,To.qH]
         cases d:Nat.beq m 0 with
         | true=>
           simp_all
         | false=>
           have g:m≠0:=λe=>by simp_all
           cases a:Nat.beq (m % 2) 1 with
           | true=>
             grind
           | false=>
             have i:m % 2≠1:=λe=>by simp_all
             grind
theorem To.Dd{α:Type} (t:To α) (n m:Nat) (x:α):(t.set n x).get m=if n=m then some x else t.get m:=by
 induction t generalizing n m with
 | leaf=>
   show(Bool.rec (motive:=λ_=>To α) (To.JP (Nat.succ n) .leaf n x) (.node .leaf (some x) .leaf) (Nat.beq n 0)).get m=_
   cases h0:Nat.beq n 0 with
   | true=>
     have e:n=0:=wC h0;subst e;have:=To.K5 x 1 .leaf 0 m (by omega)
     exact this
   |false=>grind[To.K5]
 | node l v r b c=>
   show(Bool.rec (motive:=λ_=>To α) (Bool.rec (motive:=λ_=>To α) (.node l v (r.set (n / 2-1) x)) (.node (l.set (n / 2) x) v r) (Nat.beq (n % 2) 1)) (.node l (some x) r) (Nat.beq n 0)).get m=_
   cases h0:Nat.beq n 0 with
   | true=>
     have e:n=0:=wC h0;subst e
     cases m with
     |zero=>rfl
     | succ m=>
       rfl
   | false =>
     have j:n≠0:=λe=>by simp_all
     cases d:Nat.beq (n % 2) 1 with
     | true=>
       have f:n % 2=1:=wC d;simp only[To.qH]
       cases g:Nat.beq m 0 with
       | true=>
         simp_all
       | false=>
         have h:m≠0:=λe=>by simp_all
         cases a:Nat.beq (m % 2) 1 with
         | true=>
           have i:m % 2=1:=wC a
           grind
         | false=>
           grind
     | false=>
       have f:n % 2≠1:=λe=>by simp_all
       simp only[To.qH]
       cases g:Nat.beq m 0 with
       | true=>
         simp_all
       | false=>
         have h:m≠0:=λe=>by simp_all
         cases a:Nat.beq (m % 2) 1 with
         | true=>
           grind
         | false=>
           have i:m % 2≠1:=λe=>by simp_all
           grind
structure Q4 (α:Type) where
 a:α
 b:α
 c:α
 d:α
def QT(α:Type)(n:Nat):Type:=Nat.rec (motive:=λ_=>Type) (To α) (λ_ a=>Q4 a) n
structure QG (α β:Type) where
 f:α->β
structure QU (α β:Type) where
 f:β->α->α
noncomputable def PO{β:Type}(i:Nat)(w x y z:β):β:=Bool.rec (motive:=λ_=>β) (Bool.rec (motive:=λ_=>β) (Bool.rec (motive:=λ_=>β) z y (Nat.beq (Nat.mod i 4) 2)) x (Nat.beq (Nat.mod i 4) 1)) w (Nat.beq (Nat.mod i 4) 0)
theorem Vs{β:Type}{i:Nat}(h:i % 4=0)(w x y z:β):PO i w x y z=w:=by unfold PO;rw[show Nat.mod i 4=0 from h];rfl
theorem VL{β:Type}{i:Nat}(h:i % 4=1)(w x y z:β):PO i w x y z=x:=by unfold PO;rw[show Nat.mod i 4=1 from h];rfl
theorem Vi{β:Type}{i:Nat}(h:i % 4=2)(w x y z:β):PO i w x y z=y:=by unfold PO;rw[show Nat.mod i 4=2 from h];rfl
theorem U9{β:Type}{i:Nat}(h:i % 4=3)(w x y z:β):PO i w x y z=z:=by unfold PO;rw[show Nat.mod i 4=3 from h];rfl
noncomputable def qg(α:Type) (n:Nat):Nat->QG (QT α n) (Option α):=Nat.rec (motive:=λn=>Nat->QG (QT α n) (Option α)) (λi=>⟨λx=>To.get x i⟩) (λ_ e i=>PO i ⟨λq=>Q4.rec (motive:=λ_=>Option α) (λa _ _ _=>(e (Nat.div i 4)).f a) q⟩ ⟨λq=>Q4.rec (motive:=λ_=>Option α) (λ_ b _ _=>(e (Nat.div i 4)).f b) q⟩ ⟨λq=>Q4.rec (motive:=λ_=>Option α) (λ_ _ c _=>(e (Nat.div i 4)).f c) q⟩ ⟨λq=>Q4.rec (motive:=λ_=>Option α) (λ_ _ _ d=>(e (Nat.div i 4)).f d) q⟩) n
noncomputable def qs(α:Type) (n:Nat):Nat->QU (QT α n) α:=Nat.rec (motive:=λn=>Nat->QU (QT α n) α) (λi=>⟨λv x=>To.set x i v⟩) (λn e i=>PO i ⟨λv q=>Q4.rec (motive:=λ_=>Q4 (QT α n)) (λa b c d=>⟨(e (Nat.div i 4)).f v a,b,c,d⟩) q⟩ ⟨λv q=>Q4.rec (motive:=λ_=>Q4 (QT α n)) (λa b c d=>⟨a,(e (Nat.div i 4)).f v b,c,d⟩) q⟩ ⟨λv q=>Q4.rec (motive:=λ_=>Q4 (QT α n)) (λa b c d=>⟨a,b,(e (Nat.div i 4)).f v c,d⟩) q⟩ ⟨λv q=>Q4.rec (motive:=λ_=>Q4 (QT α n)) (λa b c d=>⟨a,b,c,(e (Nat.div i 4)).f v d⟩) q⟩) n
noncomputable def q0(α:Type)(n:Nat):QT α n:=Nat.rec (motive:=λn=>QT α n) (To.leaf:To α) (λ_ a=>(⟨a,a,a,a⟩:Q4 _)) n
theorem Nk(α:Type) (n i:Nat):qg α (n+1) i=PO i
   ⟨λq=>Q4.rec (motive:=λ_=>Option α) (λa _ _ _=>(qg α n (i / 4)).f a) q⟩
   ⟨λq=>Q4.rec (motive:=λ_=>Option α) (λ_ b _ _=>(qg α n (i / 4)).f b) q⟩
   ⟨λq=>Q4.rec (motive:=λ_=>Option α) (λ_ _ c _=>(qg α n (i / 4)).f c) q⟩
   ⟨λq=>Q4.rec (motive:=λ_=>Option α) (λ_ _ _ d=>(qg α n (i / 4)).f d) q⟩:=rfl
theorem Tq(α:Type) (n i:Nat):qs α (n+1) i=PO i
   ⟨λv q=>Q4.rec (motive:=λ_=>Q4 (QT α n)) (λa b c d=>⟨(qs α n (i / 4)).f v a,b,c,d⟩) q⟩
   ⟨λv q=>Q4.rec (motive:=λ_=>Q4 (QT α n)) (λa b c d=>⟨a,(qs α n (i / 4)).f v b,c,d⟩) q⟩
   ⟨λv q=>Q4.rec (motive:=λ_=>Q4 (QT α n)) (λa b c d=>⟨a,b,(qs α n (i / 4)).f v c,d⟩) q⟩
   ⟨λv q=>Q4.rec (motive:=λ_=>Q4 (QT α n)) (λa b c d=>⟨a,b,c,(qs α n (i / 4)).f v d⟩) q⟩:=rfl
theorem Lq(α:Type):∀(n i:Nat),(qg α n i).f (q0 α n)=none
 |0,i=>rfl
 | n+1,i=>by
   rw[Nk];have h:i % 4=0\/i % 4=1\/i % 4=2\/i % 4=3:=by omega
   rcases h with h|h|h|h
   ·rw[Vs h];exact Lq α n (i / 4)
   ·rw[VL h];exact Lq α n (i / 4)
   ·rw[Vi h];exact Lq α n (i / 4)
   ·rw[U9 h];exact Lq α n (i / 4)
theorem T5(α:Type) (v:α):∀(n i j:Nat) (q:QT α n),(qg α n j).f ((qs α n i).f v q)=if i=j then some v else(qg α n j).f q
 |0,i,j,q=>To.Dd q i j v
 | n + 1,i,j,q=>by
   obtain⟨a,b,c,d⟩:=(q:Q4 (QT α n))
   have hi:i % 4=0\/i % 4=1\/i % 4=2\/i % 4=3:=by omega
   have e:j % 4=0\/j % 4=1\/j % 4=2\/j % 4=3:=by omega
   have g:=λq=>T5 α v n (i / 4) (j / 4) q;rw[Nk,Tq];rcases hi with hi|hi|hi|hi <;> rcases e with e|e|e|e
   all_goals first
     |rw[Vs hi]|rw[VL hi]|rw[Vi hi]|rw[U9 hi]
   all_goals first
     |rw[Vs e]|rw[VL e]|rw[Vi e]|rw[U9 e]
   all_goals grind
def Tr(α:Type):Type:=QT α 4
noncomputable def Tr.leaf{α:Type}:Tr α:=q0 α 4
noncomputable def Tr.get{α:Type}(t:Tr α)(n:Nat):Option α:=(qg α 4 n).f t
noncomputable def Tr.set{α:Type}(t:Tr α)(n:Nat)(x:α):Tr α:=(qs α 4 n).f x t
theorem Tr.oA{α:Type}(n:Nat):(Tr.leaf:Tr α).get n=none:=Lq α 4 n
theorem Tr.Dd{α:Type}(t:Tr α)(n m:Nat)(x:α):(t.set n x).get m=if n=m then some x else t.get m:=T5 α x 4 n m t
inductive O where
 |cells (e sz:Nat) (live ro:Bool) (cs:List V)
 |map (b:List (V×V×Nat)) (a:Nat)
 |iter (m:Option Nat) (since:Nat) (seen:List Nat) (last:Nat)
 deriving Inhabited
structure Hp where
 next:Nat
 tr:Tr O
noncomputable def Hp.get(h:Hp)(l:Nat):Option O:=Bool.rec (motive:=λ_=>Option O) none (h.tr.get l) (Nat.blt l h.next)
theorem Hp.get_eq(h:Hp) (l:Nat):h.get l=if l<h.next then h.tr.get l else none:=by
 show Bool.rec (motive:=λ_=>Option O) none (h.tr.get l) (Nat.blt l h.next)=_
 cases hb:Nat.blt l h.next with
 |true=>simp_all
 |false=>rw[if_neg (by grind[I3])]
theorem Hp.GP{h:Hp} {l:Nat} {o:O} (a:h.get l=some o):l<h.next:=by
 grind[Hp.get_eq]
noncomputable def Hp.put(h:Hp)(l:Nat)(o:O):Hp:={h with tr:=h.tr.set l o}
noncomputable def Hp.new(h:Hp)(o:O):Hp:={next:=h.next+1,tr:=h.tr.set h.next o}
noncomputable def Lm:List V->Nat->Tr V->Tr V
 |[],_,t=>t
 |v::vs,i,t=>Lm vs (i+1) (t.set i v)
inductive Tm where
 |tree (t:Tr V) (ds:List (Nat×List V))
 |fn (f:Nat->V) (ds:List (Nat×List V))
noncomputable def gg(t:Tm) (i:Nat):V:=Tm.rec (motive:=λ_=>V) (λt _=>Option.rec (motive:=λ_=>V) V.undef (λv=>v) (t.get i)) (λf _=>f i) t
noncomputable def dW(f:Nat->V)(d:Nat)(v:V):Nat->V:=λi=>Bool.rec (motive:=λ_=>V) (f i) v (Nat.beq i d)
noncomputable def Tm.set(t:Tm) (d:Nat) (v:V):Tm:=Tm.rec (motive:=λ_=>Tm) (λt ds=> .tree (t.set d v) ds) (λf ds=> .fn (dW f d v) ds) t
def Tm.ds:Tm->List (Nat×List V)
 | .tree _ ds=>ds
 | .fn _ ds=>ds
def Tm.push(x:Nat×List V):Tm->Tm
 | .tree t ds=> .tree t (x::ds)
 | .fn f ds=> .fn f (x::ds)
theorem Gk(t:Tm) (d i:Nat) (v:V):gg (t.set d v) i=if d=i then v else gg t i:=by
 cases t with
 | tree t ds=>
   show Option.rec (motive:=λ_=>V) V.undef (λv=>v) ((t.set d v).get i)=_;rw[Tr.Dd];by_cases h:d=i
   ·simp_all
   ·rw[if_neg h,if_neg h];rfl
 | fn f ds=>
   show Bool.rec (motive:=λ_=>V) (f i) v (Nat.beq i d)=_
   cases hb:Nat.beq i d with
   |true=>simp_all
   |false=>rw[if_neg (by grind[OW])];rfl
theorem Tm.RV(t:Tm)(d:Nat)(v:V):(t.set d v).ds=t.ds:=by cases t <;> rfl
theorem Tm.Tv(t:Tm)(x:Nat×List V):(t.push x).ds=x::t.ds:=by cases t <;> rfl
theorem PK(t:Tm)(x:Nat×List V)(i:Nat):gg (t.push x) i=gg t i:=by cases t <;> rfl
noncomputable def Mm(args:List V):Tm:= .tree (Lm args 0 .leaf) []
def dH(args:List V):Tm:= .fn (λi=>(args[i]?).getD .undef) []
noncomputable def P0:Program:=Tryd.prog
attribute [irreducible] P0
def XH:List (Nat×Array Value):=[]
noncomputable section ops
def oB{α β:Type}(x:Option α)(k:α->Option β):Option β:=Option.rec (motive:=λ_=>Option β) none k x
def bB{β:Type}(c:Bool)(k:Option β):Option β:=Bool.rec (motive:=λ_=>Option β) none k c
def tQ{β:Type} (v:V) (k:Nat->Nat->Option β):Option β:=match v with
 | .ptr l o=>k l o
 |_=>none
def asNat{β:Type} (v:V) (k:Nat->Option β):Option β:=match v with
 | .int _ (.ofNat n)=>k n
 |_=>none
def tu(t:Nat):Option Nat:=oB (P0.info? t) λi=>some i.size
def Ti(t:Nat):Option Nat:=oB (P0.info? t) λi=>some i.bytes
def G1(t:Nat):Option Bool:=match P0.underlying t with
 |some (.struct _)=>some true
 |some (.array _ _)=>some true
 |some _=>some false
 |none=>none
def zeroV(t:Nat):Option V:=oB (P0.info? t) λi=>oB i.zero λz=>jb 8 z
def takeN:Nat->List V->Option (List V)
 |0,_=>some []
 |_+1,[]=>none
 |n+1,v::vs=>oB (takeN n vs) λl=>some (v::l)
def sub(cs:List V)(off n:Nat):Option (List V):=takeN n (cs.drop off)
def yx(cs:List V)(off:Nat):Option V:=(cs.drop off).head?
def over:List V->List V->Option (List V)
 |[],cs=>some cs
 |_::_,[]=>none
 |n::ns,_::cs=>oB (over ns cs) λl=>some (n::l)
def kV:Nat->List V->List V->Option (List V)
 |0,cs,new=>over new cs
 |_+1,[],_=>none
 |k+1,c::cs,new=>oB (kV k cs new) λl=>some (c::l)
def dU:List V->Bool
 |[]=>true
 |v::vs=>Bool.rec (motive:=λ_=>Bool) false (dU vs) v.one
def gG{β:Type} (h:Hp) (l:Nat) (k:Nat->Nat->Bool->Bool->List V->Option β):Option β:=oB (h.get l) λo=>match o with
 | .cells e sz live ro cs=>k e sz live ro cs
 |_=>none
def zs{β:Type} (h:Hp) (l:Nat) (k:List (V×V×Nat)->Nat->Option β):Option β:=oB (h.get l) λo=>match o with
 | .map a c=>k a c
 |_=>none
def Bg(h:Hp)(l off n:Nat):Option (List V):=gG h l λ_ _ live _ cs=>bB live (sub cs off n)
def We(h:Hp)(l off:Nat):Option V:=gG h l λ_ _ live _ cs=>bB live (yx cs off)
def zB(h:Hp) (l off:Nat) (new:List V):Option Hp:=gG h l λe sz live ro cs=>bB live (bB (!ro) (bB (dU new) (oB (kV off cs new) λa=>some (h.put l (.cells e sz true false a)))))
structure PF where
 f:Tm->Hp->Option V
structure NF where
 f:Tm->Option V
structure AF where
 f:Tm->Option (O×(Nat->V))
def Hs:Operand->NF
 | .tmp i=>⟨λt=>some (gg t i)⟩
 | .const v=>match jb 8 v with
   |some v=>⟨λ_=>some v⟩
   |none=>⟨λ_=>none⟩
 | .global _=>⟨λ_=>none⟩
 | .func f=>⟨λ_=>some (.func f [] [])⟩
def nK(x:Operand):PF:=match x with
 | .global g=>match Nat.blt g P0.globals.size with
   |true=>⟨λ_ h=>oB (h.get g) λ_=>some (.ptr g 0)⟩
   |false=>⟨λ_ _=>none⟩
 |x=>⟨λt _=>(Hs x).f t⟩
def CW(t:Tm):List Operand->Option (List V)
 |[]=>some []
 |x::xs=>oB ((Hs x).f t) λv=>oB (CW t xs) λvs=>some (v::vs)
def oT(t:Tm):List (Nat×Operand)->Option (List (Nat×V))
 |[]=>some []
 |x::xs=>oB ((Hs x.2).f t) λv=>oB (oT t xs) λvs=>some ((x.1,v)::vs)
def EM(t:Nat) (a:PF):PF:=match G1 t with
 | some true=>match tu t with
   |some n=>⟨λt h=>oB (a.f t h) λa=>tQ a λl off=>oB (Bg h l off n) λcs=>some (.agg cs)⟩
   |none=>⟨λ_ _=>none⟩
 |some false=>⟨λt h=>oB (a.f t h) λa=>tQ a λl off=>We h l off⟩
 |none=>⟨λ_ _=>none⟩
def placesOf:List Field->Option (List (Nat×Nat))
 |[]=>some []
 |f::fs=>oB (tu f.type) λn=>oB (placesOf fs) λl=>some ((f.offset,n)::l)
def wB(place:Nat->Option (Nat×Nat)):List V->List (Nat×V)->Option (List V)
 |cells,[]=>some cells
 |cells,x::rest=>oB (place x.1) λp=>bB (Nat.beq x.2.cells.length p.2) (oB (kV p.1 cells x.2.cells) λcs=>wB place cs rest)
def vP:Nat->List V->List V
 |0,_=>[]
 |n+1,z=>z++vP n z
def Cd(t:Nat) (parts:List (Nat×Operand)):PF:=match zeroV t with
 | some z=>match P0.underlying t with
   | some (.struct fields)=>match placesOf fields.toList with
     |some a=>⟨λt _=>oB (oT t parts) λb=>oB (wB (λi=>a[i]?) z.cells b) λcs=>some (.agg cs)⟩
     |none=>⟨λ_ _=>none⟩
   | some (.array _ elem)=>match tu elem with
     |some size=>⟨λt _=>oB (oT t parts) λb=>oB (wB (λi=>some (Nat.mul i size,size)) z.cells b) λcs=>some (.agg cs)⟩
     |none=>⟨λ_ _=>none⟩
   |_=>⟨λ_ _=>none⟩
 |none=>⟨λ_ _=>none⟩
def jr(k:IntKind) (n:Int):Int:=match n with
 | .ofNat m=>match Nat.blt m (match k with| .i8=>128| .u8=>256| .i16=>32768| .u16=>65536| .i32=>2147483648| .u32=>4294967296| .i64=>9223372036854775808| .u64=>18446744073709551616)with
   |true=> .ofNat m
   |false=>k.wrap (.ofNat m)
 | .negSucc m=>k.wrap (.negSucc m)
def hint(op:BinOp) (k:IntKind) (x y:Int):Option V:=match op with
 | .add=>some (.int k (jr k (x+y)))
 | .sub=>some (.int k (jr k (x-y)))
 | .mul=>some (.int k (jr k (x*y)))
 | .quo=>match x,y with
   |_,.ofNat 0=>none
   |x,y=>some (.int k (jr k (x.tdiv y)))
 | .rem=>match x,y with
   |_,.ofNat 0=>none
   |x,y=>some (.int k (x.tmod y))
 | .and=>some (.int k (k.wrap ((BitVec.ofInt k.bits x&&&BitVec.ofInt k.bits y).toNat)))
 | .or=>some (.int k (k.wrap ((BitVec.ofInt k.bits x |||BitVec.ofInt k.bits y).toNat)))
 | .xor=>some (.int k (k.wrap ((BitVec.ofInt k.bits x ^^^ BitVec.ofInt k.bits y).toNat)))
 | .andNot=>some (.int k (k.wrap ((BitVec.ofInt k.bits x&&&~~~ BitVec.ofInt k.bits y).toNat)))
 | .eql=>some (.bool (x == y))
 | .neq=>some (.bool (x != y))
 | .lss=>some (.bool (x<y))
 | .leq=>some (.bool (x<=y))
 | .gtr=>some (.bool (x>y))
 | .geq=>some (.bool (x>=y))
 |_=>none
def MZ(op:BinOp) (k:IntKind) (x y:Int):Option V:=match y with
 | .negSucc _=>none
 | .ofNat m=>match op with
   | .shl=>some (.int k (k.wrap (x*2 ^ (min m k.bits))))
   | .shr=>some (.int k (x.fdiv (2 ^ (min m k.bits))))
   |_=>none
def Va(op:BinOp) (x y:List UInt8):Option V:=match op with
 | .add=>match Nat.ble (x.length+y.length) 4611686018427387904 with
   |true=>some (.str (x++y))
   |false=>none
 | .eql=>some (.bool (x == y))
 | .neq=>some (.bool (!(x == y)))
 | .lss=>some (.bool (Op.bytesLess x y))
 | .leq=>some (.bool (Op.bytesLess x y ||x == y))
 | .gtr=>some (.bool (!(Op.bytesLess x y ||x == y)))
 | .geq=>some (.bool (!(Op.bytesLess x y)))
 |_=>none
def RQ(d:TypeDesc) (x y:V):Option Bool:=match d,x,y with
 | .bool,.bool a,.bool b=>some (a == b)
 | .pointer _,.nilPtr,.nilPtr=>some true
 | .pointer _,.nilPtr,.ptr _ _=>some false
 | .pointer _,.ptr _ _,.nilPtr=>some false
 | .slice _,.cQ,.cQ=>some true
 | .slice _,.cQ,.slice _ _ _=>some false
 | .slice _,.slice _ _ _,.cQ=>some false
 | .map _ _,.iL,.iL=>some true
 | .map _ _,.iL,.map _=>some false
 | .map _ _,.map _,.iL=>some false
 | .func _ _ _,.nilFunc,.nilFunc=>some true
 | .func _ _ _,.nilFunc,.func _ _ _=>some false
 | .func _ _ _,.func _ _ _,.nilFunc=>some false
 | .interface ms,.nilIface,.nilIface=>bB ms.isEmpty (some true)
 | .interface _,.nilIface,.iface _ _=>some false
 | .interface _,.iface _ _,.nilIface=>some false
 |_,_,_=>none
def JU:IntKind->IntKind->Bool
 | .i8,.i8| .i16,.i16| .i32,.i32| .i64,.i64| .u8,.u8| .u16,.u16| .u32,.u32| .u64,.u64=>true
 |_,_=>false
def P9(t:Nat) (x y:V):Option Bool:=match P0.underlying t with
 |some d=>RQ d x y
 |none=>none
def YK(d:Option TypeDesc) (x y:V):Option Bool:=match d,x,y with
 |some .bool,.bool a,.bool b=>some (a == b)
 |some (.int _),.int k a,.int k' b=>bB (JU k k') (some (a == b))
 |some .string,.str a,.str b=>some (a == b)
 |_,_,_=>none
def Fs:List Field->List V->List V->Option Bool
 |[],_,_=>some true
 |f::fs,xs,ys=>bB (!(f.name == "_")) (oB (yx xs f.offset) λx=>oB (yx ys f.offset) λy=>oB (YK (P0.underlying f.type) x y) λb=>Bool.rec (motive:=λ_=>Option Bool) (some false) (Fs fs xs ys) b)
def Rn(t:Nat) (xs ys:List V):Option Bool:=match P0.underlying t with
 |some (.struct fs)=>bB (!(P0.stoodInHeld t)) (bB (!(P0.eqGuardType P0.depth t)) (Fs fs.toList xs ys))
 |_=>none
def UM(t:Nat) (x y:V):Option Bool:=match x,y with
 | .agg xs,.agg ys=>Rn t xs ys
 |_,_=>P9 t x y
def OO(t:Nat)(a:Bool)(x y:V):Option V:=oB (UM t x y) λb=>some (.bool (Bool.rec (motive:=λ_=>Bool) b (!b) a))
def Nw:BinOp->Bool
 | .shl| .shr=>true
 |_=>false
def cX(op:BinOp) (t:Nat) (x y:V):Option V:=match x,y with
 | .int k a,.int k' b=>match Nw op with
   |true=>MZ op k a b
   |false=>bB (JU k k') (hint op k a b)
 | .str a,.str b=>Va op a b
 | x,y=>match op with
   | .eql=>OO t false x y
   | .neq=>OO t true x y
   |_=>none
def lB(op:UnOp) (x:V):Option V:=match op,x with
 | .neg,.int k n=>some (.int k (jr k (Int.sub 0 n)))
 | .not,.bool b=>some (.bool !b)
 | .xor,.int k n=>hint .xor k (if k.signed then -1 else k.max) n
 |_,_=>none
def byteOf:V->Option UInt8
 | .int .u8 (.ofNat m)=>bB (Nat.blt m 256) (some (UInt8.ofNat m))
 |_=>none
def bytesOf:List V->Option (List UInt8)
 |[]=>some []
 |v::vs=>oB (byteOf v) λb=>oB (bytesOf vs) λl=>some (b::l)
def EU(src dst:Nat) (x:PF):PF:=match P0.underlying src,P0.underlying dst with
 | some (.int _),some (.int k)=>⟨λt h=>oB (x.f t h) λx=>match x with
   | .int _ n=>some (.int k (jr k n))
   |_=>none⟩
 | some .string,some .string=>⟨λt h=>oB (x.f t h) λx=>match x with
   | .str s=>some (.str s)
   |_=>none⟩
 | some (.slice e),some .string=>match P0.underlying e with
   | some (.int .u8)=>⟨λt h=>oB (x.f t h) λx=>match x with
     | .cQ=>some (.str [])
     | .slice l off n=>oB (Bg h l off n) λcs=>oB (bytesOf cs) λs=>some (.str s)
     |_=>none⟩
   |_=>⟨λ_ _=>none⟩
 |_,_=>⟨λ_ _=>none⟩
def LJ(t:Nat):List V->Nat->Option V:=match G1 t with
 | some true=>match tu t with
   |some n=>λcs off=>oB (sub cs off n) λl=>some (.agg l)
   |none=>λ_ _=>none
 |some false=>λcs off=>yx cs off
 |none=>λ_ _=>none
def Fu(s f:Nat):Option Field:=match P0.underlying s with
 |some (.struct fields)=>fields.toList[f]?
 |_=>none
def ma(s:Nat) (x:PF) (f:Nat):PF:=match Fu s f with
 | some a=>match tu a.type with
   |some (_+1)=>⟨λt h=>oB (x.f t h) λx=>tQ x λl off=>some (.ptr l (Nat.add off a.offset))⟩
   |_=>⟨λ_ _=>none⟩
 |none=>⟨λ_ _=>none⟩
def BV(s:Nat) (x:PF) (f:Nat):PF:=match Fu s f with
 | some a=>⟨λt h=>oB (x.f t h) λx=>match x with
   | .agg cs=>LJ a.type cs a.offset
   |_=>none⟩
 |none=>⟨λ_ _=>none⟩
def l0(t:Nat) (x i:PF):PF:=match P0.underlying t with
 | some (.slice elem)=>match tu elem with
   | some n=>⟨λt h=>oB (x.f t h) λx=>oB (i.f t h) λi=>asNat i λi=>match x with
     | .slice l off len=>bB (Nat.blt i len) (some (.ptr l (Nat.add off (Nat.mul i n))))
     |_=>none⟩
   |none=>⟨λ_ _=>none⟩
 | some (.array len elem)=>match tu elem with
   |some n=>⟨λt h=>oB (x.f t h) λx=>oB (i.f t h) λi=>asNat i λi=>tQ x λl off=>bB (Nat.blt i len) (some (.ptr l (Nat.add off (Nat.mul i n))))⟩
   |none=>⟨λ_ _=>none⟩
 |_=>⟨λ_ _=>none⟩
def BR(t:Nat) (x i:PF):PF:=match P0.underlying t with
 | some (.array len elem)=>match tu elem with
   | some n=>⟨λt h=>oB (x.f t h) λx=>oB (i.f t h) λi=>asNat i λi=>match x with
     | .agg cs=>bB (Nat.blt i len) (LJ elem cs (Nat.mul i n))
     |_=>none⟩
   |none=>⟨λ_ _=>none⟩
 | some .string=>⟨λt h=>oB (x.f t h) λx=>oB (i.f t h) λi=>asNat i λi=>match x with
   | .str s=>oB ((s.drop i).head?) λb=>some (.int .u8 (.ofNat b.toNat))
   |_=>none⟩
 |_=>⟨λ_ _=>none⟩
def hbound(d:Nat):Option V->Option Nat
 |none=>some d
 |some (.int _ (.ofNat n))=>some n
 |some _=>none
def jl(size:Nat) (x:V) (lo hi:Option V) (h:Hp):Option V:=match x with
 | .slice lc off len=>gG h lc λ_ sz _ _ cs=>bB (Nat.beq size sz) (oB (hbound 0 lo) λl=>oB (hbound len hi) λu=>
   bB (Nat.ble l u) (bB (Nat.ble u len ||Nat.ble (Nat.add off (Nat.mul u size)) cs.length) (some (.slice lc (Nat.add off (Nat.mul l size)) (Nat.sub u l)))))
 | .cQ=>oB (hbound 0 lo) λl=>oB (hbound 0 hi) λu=>bB (Nat.beq l 0) (bB (Nat.beq u 0) (some .cQ))
 |_=>none
def I5(x:V) (lo hi:Option V):Option V:=match x with
 | .str s=>oB (hbound 0 lo) λl=>oB (hbound s.length hi) λu=>bB (Nat.ble l u) (bB (Nat.ble u s.length) (some (.str ((s.drop l).take (Nat.sub u l)))))
 |_=>none
def CI(x:Option Operand) (t:Tm) (h:Hp):Option (Option V):=match x with
 |none=>some none
 |some x=>oB ((nK x).f t h) λv=>some (some v)
def Ed(t:Nat) (x:PF) (lo hi:Option Operand):PF:=match P0.underlying t with
 |some .string=>⟨λt h=>oB (x.f t h) λx=>oB (CI lo t h) λl=>oB (CI hi t h) λu=>I5 x l u⟩
 | some (.slice elem)=>match tu elem with
   |some (n+1)=>⟨λt h=>oB (x.f t h) λx=>oB (CI lo t h) λl=>oB (CI hi t h) λu=>jl (Nat.succ n) x l u h⟩
   |_=>⟨λ_ _=>none⟩
 |_=>⟨λ_ _=>none⟩
def Dx:V->Bool
 | .int _ _| .str _| .bool _=>true
 |_=>false
def Eo:V->Bool
 | .agg cs=>cs.all Dx
 |v=>Dx v
def D9(t:Nat) (a b:V):Option Bool:=match P0.underlying t with
 | some (.int _)=>match a,b with
   | .int k a,.int k' b=>bB (JU k k') (some (a == b))
   |_,_=>none
 | some .string=>match a,b with
   | .str a,.str b=>some (a == b)
   |_,_=>none
 | some .bool=>match a,b with
   | .bool a,.bool b=>some (a == b)
   |_,_=>none
 |_=>none
def zk(t:Nat):Bool:=match P0.underlying t with
 |some (.int _)|some .string|some .bool=>true
 |_=>false
def K0:List Field->List V->List V->Option Bool
 |[],_,_=>some true
 |f::fs,x,y=>oB (yx x f.offset) λa=>oB (yx y f.offset) λb=>oB (D9 f.type a b) λe=>Bool.rec (motive:=λ_=>Option Bool) (some false) (K0 fs x y) e
def CO(t:Nat):Option (Option (List Field)):=match P0.underlying t with
 |some (.int _)|some .string|some .bool=>some none
 | some (.struct fs)=>match !P0.stoodInHeld t&&fs.toList.all (λf=>zk f.type&&f.name != "_")with
   |true=>some (some fs.toList)
   |false=>none
 |_=>none
def Lj(t:Nat) (d:Option (List Field)) (a b:V):Option Bool:=match d with
 |none=>D9 t a b
 | some fs=>match a,b with
   | .agg x,.agg y=>K0 fs x y
   |_,_=>none
def Eg(d:Option (List Field)) (k:V):Bool:=match d with
 |none=>true
 | some fs=>match k with
   | .agg x=>fs.all λf=>(yx x f.offset).isSome
   |_=>false
def rG(t:Nat) (d:Option (List Field)) (k:V):List (V×V×Nat)->Nat->Option (Option (Nat×V))
 |[],_=>some none
 |e::es,i=>oB (Lj t d k e.1) λb=>Bool.rec (motive:=λ_=>Option (Option (Nat×V))) (rG t d k es (Nat.succ i)) (some (some (i,e.2.1))) b
def found(z:V) (ok:Bool) (r:Option (Nat×V)):V:=match r,ok with
 |some (_,v),true=> .tuple [v,.bool true]
 |some (_,v),false=>v
 |none,true=> .tuple [z,.bool false]
 |none,false=>z
def A9(a:Nat) (m k:PF) (ok:Bool):PF:=match P0.underlying a with
 | some (.map kt et)=>match CO kt,zeroV et with
   |some d,some z=>⟨λt h=>oB (m.f t h) λm=>oB (k.f t h) λk=>bB (Eg d k) (match m with
      | .iL=>some (found z ok none)
      | .map l=>zs h l λb _=>oB (rG kt d k b 0) λr=>some (found z ok r)
      |_=>none)⟩
   |_,_=>⟨λ_ _=>none⟩
 |_=>⟨λ_ _=>none⟩
def hlen(t:Nat) (x:PF):PF:=match P0.underlying t with
 | some .string=>⟨λt h=>oB (x.f t h) λx=>match x with
   | .str s=>some (.int .i64 (.ofNat s.length))
   |_=>none⟩
 | some (.slice _)=>⟨λt h=>oB (x.f t h) λx=>match x with
   | .slice _ _ n=>some (.int .i64 (.ofNat n))
   | .cQ=>some (.int .i64 (.ofNat 0))
   |_=>none⟩
 |some (.array n _)=>⟨λt h=>oB (x.f t h) λ_=>some (.int .i64 (.ofNat n))⟩
 | some (.map _ _)=>⟨λt h=>oB (x.f t h) λx=>match x with
   | .iL=>some (.int .i64 (.ofNat 0))
   | .map l=>zs h l λa _=>some (.int .i64 (.ofNat a.length))
   |_=>none⟩
 |_=>⟨λ_ _=>none⟩
def KZ(c:Bool):V->List V->Option V
 |x,[]=>some x
 | .int k a,.int _ b::r=>KZ c (.int k (if c then(if b>a then b else a) else(if b<a then b else a))) r
 |_,_=>none
def isIface(t:Nat):Option Bool:=match P0.underlying t with
 |some (.interface _)=>some true
 |some _=>some false
 |none=>none
def AR(x:PF) (a:Nat) (ok:Bool):PF:=match isIface a,zeroV a with
 | some false,some z=>⟨λt h=>oB (x.f t h) λx=>match x,ok with
   | .iface t v,true=>some (Bool.rec (motive:=λ_=>V) (.tuple [z,.bool false]) (.tuple [v,.bool true]) (Nat.beq t a))
   | .iface t v,false=>bB (Nat.beq t a) (some v)
   | .nilIface,true=>some (.tuple [z,.bool false])
   |_,_=>none⟩
 |_,_=>⟨λ_ _=>none⟩
def EX(c a b:PF):PF:=⟨λt h=>oB (c.f t h) λc=>match c with
 | .bool x=>Bool.rec (motive:=λ_=>Option V) (b.f t h) (a.f t h) x
 |_=>none⟩
def uk(x:PF):PF:=⟨λt h=>oB (x.f t h) λx=>match x with
 | .ptr l off=>some (.ptr l off)
 | .func f a c=>some (.func f a c)
 | .iface u v=>some (.iface u v)
 |_=>none⟩
def Al(x:PF) (i:Nat):PF:=⟨λt h=>oB (x.f t h) λx=>match x with
 | .tuple vs=>yx vs i
 |_=>none⟩
def Tn:PF:=⟨λ_ _=>none⟩
def fh(o:Oper):PF:=match o.op with
 | .move x=>nK x
 | .assign x=>nK x
 | .pick c a b=>EX (nK c) (nK a) (nK b)
 | .load ty a=>EM ty (nK a)
 | .nilCheck x=>uk (nK x)
 | .binOp op e x y _=>⟨λt h=>oB ((nK x).f t h) λa=>oB ((nK y).f t h) λb=>cX op e a b⟩
 | .unOp op _ x=>⟨λt h=>oB ((nK x).f t h) λa=>lB op a⟩
 | .convert src dst x=>EU src dst (nK x)
 | .build ty parts=>Cd ty parts.toList
 | .makeFunc (.func f) first caps=>⟨λt _=>oB (CW t first.toList) λa=>oB (CW t caps.toList) λc=>some (.func f a c)⟩
 | .slice ty x lo hi none=>Ed ty (nK x) lo hi
 | .fieldAddr s x f=>ma s (nK x) f
 | .field s x f=>BV s (nK x) f
 | .indexAddr ty x i=>l0 ty (nK x) (nK i)
 | .index ty x i=>BR ty (nK x) (nK i)
 | .lookup ty m k ok=>A9 ty (nK m) (nK k) ok
 | .extract x i=>Al (nK x) i
 | .makeInterface ty x=>match isIface ty with
   |some false=>⟨λt h=>oB ((nK x).f t h) λv=>some (.iface ty v)⟩
   |_=>Tn
 | .typeAssert x _ d ok=>AR (nK x) d ok
 | .call c=>match c.callee with
   | .builtin .len=>match c.args.toList,c.argTypes.toList with
     |[x],ty::_=>hlen ty (nK x)
     |_,_=>Tn
   | .builtin .min=>⟨λt _=>oB (CW t c.args.toList) λl=>match l with
     |x::r=>KZ false x r
     |[]=>none⟩
   | .builtin .max=>⟨λt _=>oB (CW t c.args.toList) λl=>match l with
     |x::r=>KZ true x r
     |[]=>none⟩
   |_=>Tn
 |_=>Tn
def qd(e:Nat)(v:V):Option (O×(Nat->V)):=bB (dU v.cells) (some (.cells e 1 true false v.cells,λl=> .ptr l 0))
def Ap(a size len:Nat) (z:V) (parts:List (Nat×Operand)) (t:Tm):Option (O×(Nat->V)):=oB (oT t parts) λb=>oB (wB (λi=>some (Nat.mul i size,size)) (vP len z.cells) b) λcs=>bB (dU cs) (some (.cells a size true false cs,λl=> .slice l 0 len))
def fc(a size ic:Nat) (z:V) (n c:V):Option (O×(Nat->V)):=match n,c with
 | .int .i64 (.ofNat n),.int .i64 (.ofNat c)=>bB (Nat.ble n c) (bB (Nat.ble (Nat.mul c ic) 281474976710656) (bB (Nat.ble c 1099511627776)
   (some (.cells a size true false (vP c z.cells),λl=> .slice l 0 n))))
 |_,_=>none
def elemOf(a:Nat):Option (Nat×Nat×V):=oB (tu a) λsize=>oB (Ti a) λic=>oB (zeroV a) λz=>bB (Nat.blt 0 size) (bB (Nat.beq z.cells.length size) (bB (dU z.cells) (some (size,ic,z))))
def Ba(t:Nat):Option Nat:=match P0.underlying t with
 |some (.slice e)=>some e
 |_=>none
def Lh:AF:=⟨λ_=>none⟩
def lK(o:Oper):AF:=match o.op with
 | .alloc e=>match zeroV e with
   |some z=>⟨λ_=>qd e z⟩
   |none=>Lh
 | .box e x=>⟨λt=>oB ((Hs x).f t) λv=>qd e v⟩
 | .buildSlice ty len parts=>match Ba ty with
   | some a=>match elemOf a with
     | some (size,_,z)=>match Nat.ble (Nat.mul len size) 16777216 with
       |true=>⟨λt=>Ap a size len z parts.toList t⟩
       |false=>Lh
     |none=>Lh
   |none=>Lh
 | .makeSlice ty n c=>match Ba ty with
   | some a=>match elemOf a with
     |some (size,ic,z)=>⟨λt=>oB ((Hs n).f t) λn=>oB ((Hs c).f t) λc=>fc a size ic z n c⟩
     |none=>Lh
   |none=>Lh
 | .makeMap ty none=>match P0.underlying ty with
   |some (.map _ _)=>⟨λ_=>some (.map [] 0,λl=> .map l)⟩
   |_=>Lh
 |_=>Lh
inductive R where
 |val (v:V) (h:Hp)
 |call (f:Nat) (args:List V)
structure WF where
 f:Tm->Hp->Option R
def uO(s:List UInt8):List V:=s.map λb=> .int .u8 (.ofNat b.toNat)
def ri(h:Hp) (size:Nat):V->Option (Nat×List V)
 | .cQ=>some (0,[])
 | .slice _ _ 0=>some (0,[])
 | .slice l off (n+1)=>oB (Bg h l off (Nat.mul (Nat.succ n) size)) λcs=>some (Nat.succ n,cs)
 | .str s=>bB (Nat.beq size 1) (some (s.length,uO s))
 |_=>none
def c9(a size ic:Nat) (s x:V) (h:Hp):Option R:=oB (ri h size x) λnx=>
 Bool.rec (motive:=λ_=>Option R)
   (bB (dU nx.2) (match s with
     | .cQ=>bB (Nat.ble (Nat.mul nx.1 ic) 70368744177664) (bB (Nat.ble nx.1 70368744177664)
         (some (.val (.slice h.next 0 nx.1) (h.new (.cells a size true false nx.2)))))
     | .slice l off len=>gG h l λe sz live ro cs=>bB live (bB (!ro) (bB (Nat.beq sz size)
         (Bool.rec (motive:=λ_=>Option R)
           (oB (sub cs off (Nat.mul len size)) λC8=>bB (dU C8) (bB (Nat.ble (Nat.mul (Nat.add len nx.1) ic) 70368744177664) (bB (Nat.ble (Nat.add len nx.1) 70368744177664)
             (some (.val (.slice h.next 0 (Nat.add len nx.1)) ((h.put l (.cells e sz false false cs)).new (.cells a size true false (C8++nx.2))))))))
           (oB (kV (Nat.add off (Nat.mul len size)) cs nx.2) λb=>some (.val (.slice l off (Nat.add len nx.1)) (h.put l (.cells e sz true false b))))
           (Nat.ble (Nat.add off (Nat.mul (Nat.add len nx.1) size)) cs.length))))
     |_=>none))
   (match s with
     | .cQ=>some (.val .cQ h)
     | .slice l off len=>some (.val (.slice l off len) h)
     |_=>none)
   (Nat.beq nx.1 0)
def Rm(size:Nat) (d s:V) (h:Hp):Option R:=match d with
 | .cQ=>match s with
   | .cQ| .slice _ _ _| .str _=>some (.val (.int .i64 (.ofNat 0)) h)
   |_=>none
 | .slice l off len=>match s with
   | .cQ=>some (.val (.int .i64 (.ofNat 0)) h)
   | .slice c a yF=>Bool.rec (motive:=λ_=>Option R)
       (oB (Bg h c a (Nat.mul (min yF len) size)) λcs=>oB (zB h l off cs) λh=>some (.val (.int .i64 (.ofNat (min yF len))) h))
       (some (.val (.int .i64 (.ofNat 0)) h)) (Nat.beq (min yF len) 0)
   | .str b=>bB (Nat.beq size 1) (Bool.rec (motive:=λ_=>Option R)
       (oB (zB h l off (uO (b.take (min b.length len)))) λh=>some (.val (.int .i64 (.ofNat (min b.length len))) h))
       (some (.val (.int .i64 (.ofNat 0)) h)) (Nat.beq (min b.length len) 0))
   |_=>none
 |_=>none
def J2(t:Nat) (d:Option (List Field)) (b:List (V×V×Nat)) (a:Nat) (k v:V):Option O:=oB (rG t d k b 0) λr=>match r with
 |some (i,_)=>oB b[i]? λe=>bB (V.beq e.1 k) (bB (Eo k) (some (.map (b.set i (k,v,e.2.2)) a)))
 |none=>some (.map (b++[(k,v,a)]) (Nat.succ a))
def Hu(t:Nat) (d:Option (List Field)) (m k v:V) (h:Hp):Option R:=bB (Eg d k) (match m with
 | .map l=>zs h l λa c=>oB (J2 t d a c k v) λo=>some (.val .undef (h.put l o))
 |_=>none)
def JK(t:Nat) (d:Option (List Field)) (m k:V) (h:Hp):Option R:=bB (Eg d k) (match m with
 | .iL=>some (.val (.tuple []) h)
 | .map l=>zs h l λa c=>oB (rG t d k a 0) λr=>match r with
   |some (i,_)=>some (.val (.tuple []) (h.put l (.map (a.eraseIdx i) c)))
   |none=>some (.val (.tuple []) h)
 |_=>none)
def RD(x:V) (h:Hp):Option R:=match x with
 | .slice l off n=>gG h l λe sz live ro cs=>bB live (bB (!ro) (some (.val (.slice l off n) (h.put l (.cells e sz true false cs)))))
 |_=>none
def wD(f:V) (args:List V):Option R:=match f with
 | .func f first a=>some (.call f (first++(args++a)))
 |_=>none
def methodOf(t:Nat) (a:String):Option (Nat×Option Nat):=oB (P0.info? t) λi=>match i.methods.toList.find? (λm=>m.name == a)with
 | some m=>match m.path.toList,m.func,P0.underlying t with
   |[],some (f,true),some (.pointer _)=>some (f,none)
   |[],some (f,false),some (.pointer e)=>some (f,some e)
   |[],some (f,false),some _=>some (f,none)
   |_,_,_=>none
 |none=>none
def J1(a:String) (r:V) (args:List V) (h:Hp):Option R:=match r with
 | .iface t v=>match methodOf t a with
   |some (f,none)=>some (.call f (v::args))
   |some (f,some e)=>oB ((EM e ⟨λ_ _=>some v⟩).f (.tree .leaf []) h) λx=>some (.call f (x::args))
   |none=>none
 |_=>none
def Hi(m:V) (h:Hp):Option R:=match m with
 | .iL=>some (.val (.ptr h.next 0) (h.new (.iter none 0 [] 0)))
 | .map l=>zs h l λ_ c=>some (.val (.ptr h.next 0) (h.new (.iter (some l) c [] c)))
 |_=>none
def xV(it:V) (h:Hp):Option R:=tQ it λr off=>bB (Nat.beq off 0) (oB (h.get r) λo=>match o with
 | .iter none _ _ _=>some (.val (.tuple [.bool false]) h)
 | .iter (some m) since seen last=>zs h m λb a=>
   bB (!(!seen.isEmpty&&!b.isEmpty&&b.all (λe=>Nat.ble last e.2.2)))
     (match b.filter (λe=>!seen.contains e.2.2)with
       |[]=>some (.val (.tuple [.bool false]) h)
       |[e]=>bB (Nat.blt e.2.2 since) (some (.val (.tuple [.bool true,e.1,e.2.1]) (h.put r (.iter (some m) since (seen++[e.2.2]) a))))
       |_=>none)
 |_=>none)
def Ml(it:V) (h:Hp):Option R:=tQ it λr off=>bB (Nat.beq off 0) (oB (h.get r) λo=>match o with
 | .iter (some m) _ seen last=>zs h m λb a=>bB (Nat.beq a last) (oB seen.getLast? λst=>oB (b.find? λe=>Nat.beq e.2.2 st) λe=>some (.val (.tuple [e.1,e.2.1]) h))
 |_=>none)
def xj:WF:=⟨λ_ _=>none⟩
def gK(o:Oper):WF:=match o.op with
 | .store ty a x=>match tu ty with
   |some n=>⟨λt h=>oB ((nK a).f t h) λa=>oB ((nK x).f t h) λv=>tQ a λl off=>
      bB (Nat.beq v.cells.length n) (oB (zB h l off v.cells) λh=>some (.val .undef h))⟩
   |none=>xj
 | .mapUpdate ty m k x=>match P0.underlying ty with
   | some (.map kt _)=>match CO kt with
     |some d=>⟨λt h=>oB ((nK m).f t h) λm=>oB ((nK k).f t h) λk=>oB ((nK x).f t h) λv=>Hu kt d m k v h⟩
     |none=>xj
   |_=>xj
 | .insert ty m k x=>match P0.underlying ty with
   | some (.map kt _)=>match CO kt with
     |some d=>⟨λt h=>oB ((nK m).f t h) λm=>oB ((nK k).f t h) λk=>oB ((nK x).f t h) λv=>Hu kt d m k v h⟩
     |none=>xj
   |_=>xj
 | .range ty x=>match P0.underlying ty with
   |some (.map _ _)=>⟨λt h=>oB ((nK x).f t h) λm=>Hi m h⟩
   |_=>xj
 | .next x false=>⟨λt h=>oB ((nK x).f t h) λm=>xV m h⟩
 | .entry x=>⟨λt h=>oB ((nK x).f t h) λm=>Ml m h⟩
 | .convert src dst x=>match P0.underlying src,P0.underlying dst with
   | some .string,some (.slice e)=>match P0.underlying e,tu e with
     | some (.int .u8),some 1=>⟨λt h=>oB ((nK x).f t h) λx=>match x with
       | .str s=>some (.val (.slice h.next 0 s.length) (h.new (.cells e 1 true false (uO s))))
       |_=>none⟩
     |_,_=>xj
   | some (.slice _),some (.slice e)=>match P0.underlying e,Nat.beq src dst with
     |some (.int .u8),true=>⟨λt h=>oB ((nK x).f t h) λx=>RD x h⟩
     |_,_=>xj
   |_,_=>xj
 | .call c=>match c.callee with
   | .builtin .append=>match c.args.toList,c.argTypes.toList with
     | [s,x],[sT,xT]=>match Ba sT,P0.underlying xT with
       | some b,some (.slice _)=>match elemOf b with
         |some (size,ic,_)=>⟨λt h=>oB ((nK s).f t h) λs=>oB ((nK x).f t h) λx=>c9 b size ic s x h⟩
         |none=>xj
       | some b,some .string=>match elemOf b with
         |some (size,ic,_)=>⟨λt h=>oB ((nK s).f t h) λs=>oB ((nK x).f t h) λx=>c9 b size ic s x h⟩
         |none=>xj
       |_,_=>xj
     |_,_=>xj
   | .builtin .copy=>match c.args.toList,c.argTypes.toList with
     | [d,s],dT::_=>match Ba dT with
       | some b=>match tu b with
         |some size=>⟨λt h=>oB ((nK d).f t h) λd=>oB ((nK s).f t h) λs=>Rm size d s h⟩
         |none=>xj
       |none=>xj
     |_,_=>xj
   | .builtin .delete=>match c.args.toList,c.argTypes.toList with
     | [m,k],mT::_=>match P0.underlying mT with
       | some (.map kt _)=>match CO kt with
         |some d=>⟨λt h=>oB ((nK m).f t h) λm=>oB ((nK k).f t h) λk=>JK kt d m k h⟩
         |none=>xj
       |_=>xj
     |_,_=>xj
   | .value f=>⟨λt h=>oB ((nK f).f t h) λf=>oB (CW t c.args.toList) λargs=>wD f args⟩
   | .invoke r g=>⟨λt h=>oB ((nK r).f t h) λr=>oB (CW t c.args.toList) λargs=>J1 g r args h⟩
   |_=>xj
 |_=>xj
def cls(o:Oper):Nat:=match o.op with
 | .alloc _| .box _ _| .buildSlice _ _ _| .makeSlice _ _ _| .makeMap _ _=>1
 | .move _| .assign _| .pick _ _ _| .load _ _| .nilCheck _| .binOp _ _ _ _ _| .unOp _ _ _| .build _ _| .makeFunc _ _ _| .slice _ _ _ _ _
 | .fieldAddr _ _ _| .field _ _ _| .indexAddr _ _ _| .index _ _ _| .lookup _ _ _ _| .extract _ _| .makeInterface _ _| .typeAssert _ _ _ _=>0
 | .call c=>match c.callee with
   | .builtin .len| .builtin .min| .builtin .max=>0
   |_=>2
 | .convert src dst _=>match P0.underlying src,P0.underlying dst with
   |some (.int _),some (.int _)=>0
   |some .string,some .string=>0
   |some (.slice _),some .string=>0
   |_,_=>2
 |_=>2
abbrev Call:=Nat->List V->Hp->Option (V×Hp)
structure RF where
 f:Call->Tm->Hp->Option (V×Hp)
def Ct(o:Oper):RF:=match cls o with
 |0=>⟨λ_ t h=>oB ((fh o).f t h) λv=>some (v,h)⟩
 |1=>⟨λ_ t h=>oB ((lK o).f t) λr=>some (r.2 h.next,h.new r.1)⟩
 | _=>⟨λcall t h=>oB ((gK o).f t h) λr=>match r with
   | .val v h=>some (v,h)
   | .call f args=>call f args h⟩
structure GF where
 f:Tm->Option Bool
def hO(n:Nat) (ops:List Oper) (o:Oper):Option GF:=match o.guard with
 |none=>none
 | some (j,w)=>match ops[j]? with
   | some a=>match a.dst with
     | some d=>match Nat.blt d n with
       | true=>some ⟨λt=>match gg t d with
         | .bool b=>some (Bool.rec (motive:=λ_=>Bool) (!w) w b)
         | .tuple []=>some false
         |_=>none⟩
       |false=>some ⟨λ_=>none⟩
     |none=>some ⟨λ_=>some false⟩
   |none=>some ⟨λ_=>some false⟩
structure DF where
 f:Tm->V->Tm
def tz(n:Nat) (o:Oper):Option DF:=match o.dst with
 |none=>some ⟨λt _=>t⟩
 | some d=>match Nat.blt d n with
   |true=>some ⟨λt v=>t.set d v⟩
   |false=>none
structure SF where
 f:Call->Tm->Hp->Option (Tm×Hp)
def W4:SF:=⟨λ_ _ _=>none⟩
structure QF where
 f:Tm->Hp->Option Tm
def Rj(b:V) (args:List V) (t:Tm):Option Tm:=match b with
 | .func g first a=>some (t.push (g,first++(args++a)))
 |_=>none
def uA(o:Oper):Option QF:=match o.op with
 | .defer c=>match c.callee with
   | .value f=>some ⟨λt h=>oB ((nK f).f t h) λa=>oB (CW t c.args.toList) λargs=>Rj a args t⟩
   |_=>none
 |_=>none
def Dp(n:Nat) (all:List Oper) (o:Oper) (a:SF):SF:=match tz n o with
 |none=>W4
 | some d=>match hO n all o with
   | none=>match uA o with
     |some q=>⟨λcall t h=>oB (q.f t h) λt=>a.f call (d.f t .undef) h⟩
     |none=>⟨λcall t h=>oB ((Ct o).f call t h) λr=>a.f call (d.f t r.1) r.2⟩
   |some g=>⟨λcall t h=>oB (g.f t) λb=>Bool.rec (motive:=λ_=>Option (Tm×Hp)) (a.f call (d.f t .undef) h)
      (oB ((Ct o).f call t h) λr=>a.f call (d.f t r.1) r.2) b⟩
def oS(n:Nat) (all:List Oper):List Oper->SF
 |[]=>⟨λ_ t h=>some (t,h)⟩
 |o::os=>Dp n all o (oS n all os)
structure It where
 i:Nat
 o:Oper
 b:Nat
def G3(e:Edge):Bool:=match e.ground with
 | .textOnly _| .gcOnly _=>false
 |_=>true
def GA(a:List Nat):List Edge->Nat->Nat
 |[],m=>m
 | e::es,m=>match G3 e with
   |true=>GA a es (m |||(2 ^ e.on |||a[e.on]?.getD 0))
   |false=>GA a es m
def items:List Oper->Nat->List Nat->List It
 |[],_,_=>[]
 |o::os,i,acc=>{i,o,b:=GA acc o.after.toList 0}::items os (i+1) (acc++[GA acc o.after.toList 0])
def xe:List Operand->List Nat
 |[]=>[]
 | .tmp t::xs=>t::xe xs
 |_::xs=>xe xs
def lC(o:Oper):List Nat:=o.dst.toList++xe o.op.operands.toList
def writes(o:Oper) (l:List Nat):Bool:=match o.dst with
 |some d=>l.contains d
 |none=>false
def IZ(a b:It):Bool:=(!(writes a.o (lC b.o))&&!(writes b.o (lC a.o))) ||b.b.testBit a.i
def mr:List It->Bool
 |[]=>true
 |a::l=>l.all (IZ a)&&mr l
def zd(gM:List It) (a:It):Bool:=match a.o.guard with
 |none=>true
 | some (j,_)=>match gM[j]? with
   | some g=>match g.o.dst with
     |some d=>a.b.testBit j&&gM.all (λx=>x.i == j || !(x.o.dst == some d))
     |none=>false
   |none=>false
def wK(a:It):Bool:=a.o.after.toList.all λe=>!G3 e ||Nat.blt e.on a.i
def AY:List It->Bool
 |a::b::l=>b.b.testBit a.i&&AY (b::l)
 |_=>true
def I0(gM ws:List It):Bool:=mr gM&&gM.all (zd gM)&&gM.all wK&&AY ws
def early(ws:List It)(a:It):Nat:=(ws.filter λw=>a.b.testBit w.i).length
def late:List It->It->Nat
 |[],_=>0
 | w::ws,a=>match w.b.testBit a.i with
   |true=>0
   |false=>late ws a+1
def O.beq:O->O->Bool
 | .cells e s a r cs,.cells e' s' a' r' cs'=>e == e'&&s == s'&&a == a'&&r == r'&&V.Hg cs cs'
 | .map [] c,.map [] c'=>c == c'
 |_,_=>false
structure Rec where
 it:It
 t:Tm
 v:V
 made:Option (Nat×O)
 last:Nat
def uh(h:Hp) (r:Rec):Bool:=match r.made with
 | none=>match (fh r.it.o).f r.t h with
   |some v=>V.beq v r.v
   |none=>false
 | some (l,ob)=>match h.get l with
   |some a=>O.beq a ob
   |none=>false
def lg(n:Nat) (all:List Oper) (o:Oper) (t:Tm):Option Bool:=match hO n all o with
 |none=>some true
 |some g=>g.f t
def wR(k:Nat)(h:Hp)(rs:List Rec):Bool:=rs.all λr=>Nat.blt r.last k ||uh h r
def NS(gM ws:List It)(k:Nat):List It:=gM.filter λa=>!(Nat.beq (cls a.o) 2)&&Nat.beq (early ws a) k
def order(gM ws:List It):List It->Nat->List It
 |[],k=>NS gM ws k
 |w::todo,k=>NS gM ws k++w::order gM ws todo (Nat.succ k)
def Ff(ws:List It) (a:It):Nat->Bool
 |0=>true
 | k+1=>match ws[k]? with
   |some w=>a.b.testBit w.i
   |none=>false
def Uh(ws:List It) (a:It) (k:Nat):Bool:=match ws[k]? with
 |some w=>Nat.beq w.i a.i
 |none=>false
def qF(gM ws:List It):List It->Nat->Nat->Bool
 |[],m,k=>gM.all (λa=>m.testBit a.i)&&Nat.beq k ws.length
 | a::l,m,k=>!m.testBit a.i&&(gM.all (λx=>!a.b.testBit x.i ||m.testBit x.i)&&(match Nat.beq (cls a.o) 2 with
   |true=>Uh ws a k&&qF gM ws l (m |||2 ^ a.i) (Nat.succ k)
   |false=>Ff ws a k&&qF gM ws l (m |||2 ^ a.i) k))
structure LF where
 f:Call->Tm->Hp->List Rec->Option (Tm×Hp)
def Bv(n:Nat) (all:List Oper) (ws:List It) (a:It) (d:DF) (c:LF):LF:=⟨λcall t h rs=>oB (lg n all a.o t) λb=>Bool.rec (motive:=λ_=>Option (Tm×Hp)) (c.f call (d.f t .undef) h rs) (oB ((fh a.o).f t h) λv=>c.f call (d.f t v) h ({it:=a,t,v,made:=none,last:=late ws a}::rs)) b⟩
def z7(n:Nat) (all:List Oper) (ws:List It) (a:It) (d:DF) (c:LF):LF:=⟨λcall t h rs=>oB (lg n all a.o t) λb=>Bool.rec (motive:=λ_=>Option (Tm×Hp)) (c.f call (d.f t .undef) h rs) (oB ((lK a.o).f t) λr=>c.f call (d.f t (r.2 h.next)) (h.new r.1) ({it:=a,t,v:=r.2 h.next,made:=some (h.next,r.1),last:=late ws a}::rs)) b⟩
def wW(n:Nat) (all:List Oper) (k:Nat) (a:It) (d:DF) (c:LF):LF:=⟨λcall t h rs=>bB (wR k h rs) (oB (lg n all a.o t) λb=>Bool.rec (motive:=λ_=>Option (Tm×Hp)) (c.f call (d.f t .undef) h rs) (oB ((Ct a.o).f call t h) λx=>bB (Nat.ble h.next x.2.next) (c.f call (d.f t x.1) x.2 rs)) b)⟩
def sg(n:Nat) (all:List Oper) (ws:List It):List It->Nat->LF
 |[],k=>⟨λ_ t h rs=>bB (wR k h rs) (some (t,h))⟩
 | a ::l,k=>match tz n a.o with
   |none=>⟨λ_ _ _ _=>none⟩
   | some d=>match cls a.o with
     |0=>Bv n all ws a d (sg n all ws l k)
     |1=>z7 n all ws a d (sg n all ws l k)
     |_=>wW n all k a d (sg n all ws l (Nat.succ k))
def ej(gM:List It):List It:=gM.filter λa=>Nat.beq (cls a.o) 2
def Jl:Operand->Bool
 | .global _=>false
 |_=>true
def storeAt(o:Oper):Option Nat:=match o.op with
 | .store _ (.tmp d) x=>match o.guard,o.dst,Jl x with
   |none,none,true=>some d
   |_,_,_=>none
 |_=>none
def Ah(o:Oper):Bool:=match o.op with
 | .move x| .nilCheck x| .fieldAddr _ x _=>Jl x
 | .indexAddr _ x i=>Jl x&&Jl i
 |_=>false
def FB:List It->Option (It×It)
 |[]=>none
 |[_]=>none
 |[a,b]=>some (a,b)
 |_::b::c::l=>FB (b::c::l)
def Cf:List It->Bool
 | a::b::c::l=>b.b.testBit a.i&&(match l with
   |[]=>c.b.testBit a.i
   |_=>true)&&Cf (b::c::l)
 |_=>true
def fixed(gM:List It)(a:It):Bool:=(xe a.o.op.operands.toList).all λd=>gM.all λx=>!(writes x.o [d]) ||a.b.testBit x.i
def Jb(gM:List It) (a b:It):Bool:=gM.all λx=>Nat.beq x.i a.i ||Nat.beq x.i b.i ||(a.b.testBit x.i&&b.b.testBit x.i) || (Nat.beq (cls x.o) 0&&Ah x.o&&x.o.guard.isNone&&!x.b.testBit a.i&&!x.b.testBit b.i)
def Dc(gM ws:List It):Option (It×It×Nat×Nat):=match FB ws with
 | some (a,b)=>match storeAt a.o,storeAt b.o with
   | some da,some db=>match fixed gM a&&fixed gM b&&Jb gM a b&&Cf ws with
     |true=>some (a,b,da,db)
     |false=>none
   |_,_=>none
 |none=>none
def Rb:V->V->Bool
 | .ptr l _,.ptr l' _=>!(Nat.beq l l')
 |_,_=>false
def I2(gM:List It):Bool:=mr gM&&gM.all (zd gM)&&gM.all wK
def Gl(n:Nat) (all:List Oper):SF:=
 match I0 (items all 0 []) (ej (items all 0 []))&&qF (items all 0 []) (ej (items all 0 [])) (order (items all 0 []) (ej (items all 0 [])) (ej (items all 0 [])) 0) 0 0 with
 |true=>⟨λcall t h=>(sg n all (ej (items all 0 [])) (order (items all 0 []) (ej (items all 0 [])) (ej (items all 0 [])) 0) 0).f call t h []⟩
 | false=>match Dc (items all 0 []) (ej (items all 0 [])),I2 (items all 0 [])&&qF (items all 0 []) (ej (items all 0 [])) (order (items all 0 []) (ej (items all 0 [])) (ej (items all 0 [])) 0) 0 0 with
   |some p,true=>⟨λcall t h=>oB ((sg n all (ej (items all 0 [])) (order (items all 0 []) (ej (items all 0 [])) (ej (items all 0 [])) 0) 0).f call t h []) λr=>
      bB (Rb (gg r.1 p.2.2.1) (gg r.1 p.2.2.2)) (some r)⟩
   |_,_=>W4
inductive X where
 |normal
 |exit (id:Nat)
 |ret
structure CF where
 f:Call->Nat->Tm->Hp->Option (X×Tm×Hp)
def zP(r:Option (X×Tm×Hp)) (k:Tm->Hp->Option (X×Tm×Hp)):Option (X×Tm×Hp):=match r with
 |some (.normal,t,h)=>k t h
 |r=>r
def DN(id:Nat) (r:Option (X×Tm×Hp)):Option (X×Tm×Hp):=match r with
 |some (.exit id',t,h)=>Bool.rec (motive:=λ_=>Option (X×Tm×Hp)) (some (.exit id',t,h)) (some (.normal,t,h)) (Nat.beq id' id)
 |r=>r
def AH(body:Tm->Hp->Option (X×Tm×Hp)) (m:Nat):Tm->Hp->Option (X×Tm×Hp):=Nat.rec (motive:=λ_=>Tm->Hp->Option (X×Tm×Hp)) (λ_ _=>none) (λ_ a t h=>zP (body t h) a) m
def YD:CF:=⟨λ_ _ _ _=>none⟩
def eY(n:Nat):Code->CF
 | .skip=>⟨λ_ _ t h=>some (.normal,t,h)⟩
 | .seq a b=>⟨λcall m t h=>zP ((eY n a).f call m t h) λt h=>(eY n b).f call m t h⟩
 | .cond c a b=>⟨λcall m t h=>oB ((nK c).f t h) λv=>match v with
   | .bool x=>Bool.rec (motive:=λ_=>Option (X×Tm×Hp)) ((eY n b).f call m t h) ((eY n a).f call m t h) x
   |_=>none⟩
 | .block id c=>⟨λcall m t h=>DN id ((eY n c).f call m t h)⟩
 | .loop c=>⟨λcall m t h=>AH (λt h=>(eY n c).f call m t h) m t h⟩
 | .exit id=>⟨λ_ _ t h=>some (.exit id,t,h)⟩
 | .ret=>⟨λ_ _ t h=>some (.ret,t,h)⟩
 | .region _ ops false=>⟨λcall _ t h=>oB ((oS n ops.toList ops.toList).f call t h) λr=>some (.normal,r.1,r.2)⟩
 | .region _ ops true=>⟨λcall _ t h=>oB ((Gl n ops.toList).f call t h) λr=>some (.normal,r.1,r.2)⟩
 |_=>YD
inductive Ext where
 |none
 |countByte
 |indexByte
def FZ(c:Nat):List UInt8->Nat->Nat
 |[],n=>n
 |b::l,n=>FZ c l (Bool.rec (motive:=λ_=>Nat) n (Nat.succ n) (Nat.beq b.toNat c))
def J4(c:Nat):List UInt8->Nat->Option Nat
 |[],_=>none
 |b::l,n=>Bool.rec (motive:=λ_=>Option Nat) (J4 c l (Nat.succ n)) (some n) (Nat.beq b.toNat c)
def MT:Ext->List V->Option V
 | .countByte,[.str s,.int .u8 (.ofNat c)]=>bB (Nat.blt c 256) (some (.int .i64 (.ofNat (FZ c s 0))))
 | .indexByte,[.str s,.int .u8 (.ofNat c)]=>bB (Nat.blt c 256) (match J4 c s 0 with
   |some i=>some (.int .i64 (.ofNat i))
   |none=>some (.int .i64 (-1)))
 |_,_=>none
def O4:ResultVar->PF
 | .tmp i=>⟨λt _=>some (gg t i)⟩
 | .cell a ty=>EM ty ⟨λt _=>some (gg t a)⟩
def uF(t:Tm) (h:Hp):List ResultVar->Option (List V)
 |[]=>some []
 |r::rs=>oB ((O4 r).f t h) λv=>oB (uF t h rs) λvs=>some (v::vs)
def tZ(vs:List V):V:=match vs with
 |[v]=>v
 |vs=> .tuple vs
structure FF where
 f:Call->Nat->List V->Hp->Option (V×Hp)
structure dc where
 start:List V->Tm
 ext:Nat->Ext
 K:Nat->List V->Hp->Option V
def V.flat:V->Bool
 | .bool _| .int _ _| .str _| .nilPtr| .cQ| .iL| .nilFunc| .nilIface=>true
 |_=>false
def Kr(l:List V):Bool:=l.all V.flat
def Sb{α β:Type}(x:Option α)(k:α->Option β)(e:Option β):Option β:=Option.rec (motive:=λ_=>Option β) e k x
def N9(c:Code):Option (Nat×Code):=match c with
 | .seq (.region _ ops false) rest=>match ops.toList with
   | [o]=>match o.op with
     | .call a=>match a.callee,o.guard,o.dst with
       | .builtin .recover,none,some d=>some (d,rest)
       |_,_,_=>none
     |_=>none
   |_=>none
 |_=>none
def Q1(fn:Func) (r:X×Tm×Hp):Option (V×Hp):=match r.1 with
 | .exit _=>none
 | _=>match r.2.1.ds with
   |[]=>oB (uF r.2.1 r.2.2 fn.results.toList) λvs=>some (tZ vs,r.2.2)
   |_::_=>none
def Ec(C:dc) (f:Nat):FF:=match P0.funcs[f]? with
 | some fn=>match fn.body with
   | some c=>match N9 c with
     |some (d,rest)=>⟨λcall m args h=>bB (Nat.ble args.length fn.ntmps) (bB (Nat.blt d fn.ntmps) (oB ((eY fn.ntmps rest).f call m ((C.start args).set d .nilIface) h) λr=>Q1 fn r))⟩
     |none=>⟨λcall m args h=>bB (Nat.ble args.length fn.ntmps) (oB ((eY fn.ntmps c).f call m (C.start args) h) λr=>Q1 fn r)⟩
   |none=>⟨λ_ _ _ _=>none⟩
 |none=>⟨λ_ _ _ _=>none⟩
def Ib(C:dc) (call:Call) (m:Nat):List (Nat×List V)->Hp->Option Hp
 |[],h=>some h
 |x::l,h=>oB ((Ec C x.1).f call m x.2 h) λr=>Ib C call m l r.2
def zu(C:dc) (f:Nat):FF:=match P0.funcs[f]? with
 | some fn=>match fn.body with
   | some c=>⟨λcall m args h=>Sb (C.K f args h) (λv=>bB (Kr args&&v.flat) (some (v,h))) (bB (Nat.ble args.length fn.ntmps) (oB ((eY fn.ntmps c).f call m (C.start args) h) λr=>match r.1 with
     | .exit _=>none
     |_=>oB (Ib C call m r.2.1.ds r.2.2) λh=>oB (uF r.2.1 h fn.results.toList) λvs=>some (tZ vs,h)))⟩
   |none=>⟨λ_ _ args h=>oB (MT (C.ext f) args) λv=>some (v,h)⟩
 |none=>⟨λ_ _ _ _=>none⟩
def gQ(C:dc) (m:Nat) (d:Nat):Call:=Nat.rec (motive:=λ_=>Call) (λ_ _ _=>none) (λ_ call f args h=>(zu C f).f call m args h) d
end ops
theorem c7{α β:Type} {x:Option α} {k:α->Option β} {y:β}:oB x k=some y↔∃v,x=some v/\k v=some y:=by
 cases x with
 |none=>grind[oB]
 |some v=>exact⟨λh=>⟨v,rfl,h⟩,λ⟨_,h,h'⟩=>by grind[oB]⟩
theorem ek{β:Type} {c:Bool} {k:Option β} {y:β}:bB c k=some y↔c=true/\k=some y:=by
 cases c with
 |false=>grind[bB]
 |true=>exact⟨λh=>⟨rfl,h⟩,λ⟨_,h⟩=>h⟩
theorem qV{β:Type} {v:V} {k:Nat->Nat->Option β} {y:β}:tQ v k=some y↔∃l o,v = .ptr l o/\k l o=some y:=by
 constructor
 ·intro h;unfold tQ at h
  grind
 ·rintro⟨l,o,rfl,h⟩;exact h
theorem CX{β:Type} {v:V} {k:Nat->Option β} {y:β}:asNat v k=some y↔∃kd n,v = .int kd (.ofNat n)/\k n=some y:=by
 constructor
 ·intro h;unfold asNat at h;split at h
  ·grind
  ·cases h
 ·rintro⟨kd,n,rfl,h⟩;exact h
theorem hY{β:Type} {h:Hp} {l:Nat} {k:Nat->Nat->Bool->Bool->List V->Option β} {y:β} :
  gG h l k=some y↔∃e sz live ro cs,h.get l=some (.cells e sz live ro cs)/\k e sz live ro cs=some y:=by
 grind[gG,c7]
theorem uJ{β:Type} {h:Hp} {l:Nat} {k:List (V×V×Nat)->Nat->Option β} {y:β} :
  zs h l k=some y↔∃a c,h.get l=some (.map a c)/\k a c=some y:=by
 grind[zs,c7]
theorem Ol{β:Type}(c:Bool)(x y:β):Bool.rec (motive:=λ_=>β) x y c=if c=true then y else x:=by cases c <;> rfl
theorem Qa{n:Nat} {cs l:List V} (h:takeN n cs=some l):l.length=n/\∀i,i<n->l[i]? =cs[i]?:=by
 induction n generalizing cs l with
 |zero=>simp[takeN]at h;simp_all
 | succ n a=>
   cases cs <;> grind[takeN,c7]
theorem sub_eq{cs l:List V} {off n:Nat} (h:sub cs off n=some l):l.length=n/\∀i,i<n->l[i]? =cs[off+i]?:=by
 grind[Qa,sub]
theorem Hk{cs:List V} {off:Nat} {v:V} (h:yx cs off=some v):cs[off]? =some v:=by
 grind[yx,List.head?_drop]
theorem Th{new cs l:List V} (h:over new cs=some l):l.length=cs.length/\new.length<=cs.length/\∀i,l[i]? =if i<new.length then new[i]? else cs[i]?:=by
 induction new generalizing cs l with
 |nil=>simp[over]at h;simp_all
 | cons n ns a=>
   cases cs <;> grind[over,c7]
theorem Ek{k:Nat} {cs new l:List V} (h:kV k cs new=some l):l.length=cs.length/\k+new.length<=cs.length/\
  ∀i,l[i]? =if k<=i/\i<k+new.length then new[i-k]? else cs[i]?:=by
 induction k generalizing cs l with
 | zero=>
   grind[Th,kV]
 | succ k a=>
   cases cs with
   |nil=>grind[kV]
   | cons c cs=>
     simp only[kV,c7]at h
     grind
theorem OF{l:List V} (h:dU l=true):∀v∈l,v.one=true:=by
 induction l <;> grind[dU,Ol]
structure D where
 b:Nat
 base:Nat
 sz:Nat
 n:Nat
 Pq:Nat
 ro:Bool
 kind:Nat
abbrev Env:=Nat->Option D
def Env.le(Δ a:Env):Prop:=∀l d,Δ l=some d->a l=some d
theorem Env.le_refl(Δ:Env):Δ.le Δ:=λ_ _ h=>h
theorem Env.le_trans{Δ b a:Env}(h:Δ.le b)(h':b.le a):Δ.le a:=λl d c=>h' l d (h l d c)
mutual
inductive dj (Δ:Env):V->Value->Prop
 |bool (b:Bool):dj Δ (.bool b) (.bool b)
 |int (k:IntKind) (n:Int):dj Δ (.int k n) (.int k n)
 |str (s:ByteArray):dj Δ (.str s.data.toList) (.string s)
 |nilPtr:dj Δ .nilPtr (.pointer none)
 |ptr (l off:Nat) (d:D) (h:Δ l=some d):dj Δ (.ptr l off) (.pointer (some ⟨d.b,d.base+off,none⟩))
 |cQ:dj Δ .cQ (.slice none 0 0)
 | slice (l off len cap o:Nat) (d:D) (h:Δ l=some d) (hk:d.kind=0) (j:len<=cap)
   (m:(o=d.base+off/\d.n<=off+cap*d.sz/\d.base+off+cap*d.sz<=d.Pq)\/(cap=0/\d.n<=off)) :
   dj Δ (.slice l off len) (.slice (some ⟨d.b,o,none⟩) len cap)
 |iL:dj Δ .iL (.map none)
 |map (l:Nat) (d:D) (h:Δ l=some d):dj Δ (.map l) (.map (some d.b))
 |nilFunc:dj Δ .nilFunc .nilFunc
 |func (f:Nat) (a c:List V) (a' c':Array Value) (p:dS Δ a a'.toList) (hc:dS Δ c c'.toList):dj Δ (.func f a c) (.func (.func f) a' c')
 |nilIface:dj Δ .nilIface .nilIface
 |iface (t:Nat) (v:V) (g:Value) (h:dj Δ v g):dj Δ (.iface t v) (.iface t g)
 |agg (cs:List V) (e:Array Value) (h:dS Δ cs e.toList):dj Δ (.agg cs) (.agg e)
 |tuple (cs:List V) (e:Array Value) (h:dS Δ cs e.toList):dj Δ (.tuple cs) (.tuple e)
inductive dS (Δ:Env):List V->List Value->Prop
 |nil:dS Δ [] []
 |cons (v:V) (g:Value) (vs:List V) (i:List Value) (h:dj Δ v g) (hs:dS Δ vs i):dS Δ (v::vs) (g::i)
end
mutual
theorem dj.mono {Δ i:Env} (e:Δ.le i):∀{v:V} {g:Value},dj Δ v g->dj i v g
 |_,_,.bool b=> .bool b
 |_,_,.int k n=> .int k n
 |_,_,.str s=> .str s
 |_,_,.nilPtr=> .nilPtr
 |_,_,.ptr l off d h=> .ptr l off d (e _ _ h)
 |_,_,.cQ=> .cQ
 |_,_,.slice l off len cap o d h hk hl ho=> .slice l off len cap o d (e _ _ h) hk hl ho
 |_,_,.iL=> .iL
 |_,_,.map l d h=> .map l d (e _ _ h)
 |_,_,.nilFunc=> .nilFunc
 |_,_,.func f a c a' c' ha hc=> .func f a c a' c' (dS.mono e ha) (dS.mono e hc)
 |_,_,.nilIface=> .nilIface
 |_,_,.iface t v g h=> .iface t v g (dj.mono e h)
 |_,_,.agg cs cs' h=> .agg cs cs' (dS.mono e h)
 |_,_,.tuple cs cs' h=> .tuple cs cs' (dS.mono e h)
theorem dS.mono {Δ i:Env} (e:Δ.le i):∀{v:List V} {g:List Value},dS Δ v g->dS i v g
 |_,_,.nil=> .nil
 |_,_,.cons v g vs vs' h hs=> .cons v g vs vs' (dj.mono e h) (dS.mono e hs)
end
theorem dS.length{Δ:Env} {vs:List V} {a:List Value} (h:dS Δ vs a):vs.length=a.length:=by
 induction vs generalizing a with
 |nil=>cases h;rfl
 |cons v vs b=>cases h <;> grind
theorem dS.get{Δ:Env} {vs:List V} {b:List Value} (h:dS Δ vs b) (i:Nat) (v:V) (hi:vs[i]? =some v):∃c,b[i]? =some c/\dj Δ v c:=by
 induction vs generalizing b i with
 |nil=>simp_all
 | cons a vs d=>
   cases h <;> grind
theorem dS.Jf{Δ:Env} {vs:List V} {b:List Value} (g:vs.length=b.length) (h:∀(i:Nat) (v:V),vs[i]? =some v->∃c,b[i]? =some c/\dj Δ v c):dS Δ vs b:=by
 induction vs generalizing b with
 | nil=>cases b with
   |nil=>exact .nil
   |cons _ _=>simp_all
 | cons a vs e=>cases b with
   |nil=>simp_all
   | cons a' b=>
     obtain⟨x,d,f⟩:=h 0 a rfl;simp at d;subst d;exact .cons _ _ _ _ f (e (by simp_all) λi v hi=>by simpa using h (i+1) v (by simp_all))
theorem dS.append{Δ:Env} {a b:List V} {a' b':List Value} (h:dS Δ a a') (h':dS Δ b b'):dS Δ (a++b) (a'++b'):=by
 induction a generalizing a' with
 |nil=>cases h;exact h'
 |cons x a c=>cases h with|cons _ _ _ _ hx hs=>exact .cons _ _ _ _ hx (c hs)
theorem dS.one{Δ:Env}{v:V}{a:Value}(h:dj Δ v a):dS Δ [v] [a]:= .cons _ _ _ _ h .nil
theorem dj.undef(Δ:Env):dj Δ V.undef undef:= .tuple [] #[] .nil
theorem dj.cells{Δ:Env} {v:V} {g:Value} (h:dj Δ v g):dS Δ v.cells g.cells.toList:=by
 cases h with
 |agg cs e h=>exact h
 |bool b=>exact .one (.bool b)
 |int k n=>exact .one (.int k n)
 |str s=>exact .one (.str s)
 |nilPtr=>exact .one .nilPtr
 |ptr l off d h=>exact .one (.ptr l off d h)
 |cQ=>exact .one .cQ
 |slice l off len cap o d h hk i j=>exact .one (.slice l off len cap o d h hk i j)
 |iL=>exact .one .iL
 |map l d h=>exact .one (.map l d h)
 |nilFunc=>exact .one .nilFunc
 |func f a c a' c' m hc=>exact .one (.func f a c a' c' m hc)
 |nilIface=>exact .one .nilIface
 |iface t v g h=>exact .one (.iface t v g h)
 |tuple cs e h=>exact .one (.tuple cs e h)
theorem dj.Oz{Δ:Env} {v:V} {a:Value} (h:dj Δ v a) (b:v.one=true):a.oneCell' = true:=by
 cases h <;> first|rfl|grind[V.one]
theorem dS.XX{Δ:Env} {vs:List V} {a:List Value} (h:dS Δ vs a) (e:dU vs=true):∀x∈a,x.oneCell' = true:=by
 intro x b;obtain⟨i,hi,rfl⟩:=List.mem_iff_getElem.1 b;have c:i<vs.length:=by rw[h.length];exact hi
 obtain⟨x,b,d⟩:=h.get i vs[i] (by simp_all);rw[fg hi]at b;cases b;exact d.Oz (by grind[OF,ym])
mutual
theorem A8 (Δ:Env):∀(n:Nat) (v:Value) (x:V),jb n v=some x->dj Δ x v
 |_,.bool b,x,h=>by simp[jb]at h;subst h;exact .bool b
 |_,.int k n,x,h=>by simp[jb]at h;subst h;exact .int k n
 |_,.string s,x,h=>by simp[jb]at h;subst h;exact .str s
 |_,.pointer none,x,h=>by simp[jb]at h;subst h;exact .nilPtr
 |_,.pointer (some _),x,h=>by grind[jb]
 |_,.slice none 0 0,x,h=>by simp[jb]at h;subst h;exact .cQ
 |_,.slice none 0 (_+1),x,h=>by grind[jb]
 |_,.slice none (_+1) _,x,h=>by grind[jb]
 |_,.slice (some _) _ _,x,h=>by grind[jb]
 |_,.map none,x,h=>by simp[jb]at h;subst h;exact .iL
 |_,.map (some _),x,h=>by grind[jb]
 |_,.nilFunc,x,h=>by simp[jb]at h;subst h;exact .nilFunc
 |_,.nilIface,x,h=>by simp[jb]at h;subst h;exact .nilIface
 |0,.iface _ _,x,h=>by simp_all[jb]
 |0,.agg _,x,h=>by simp_all[jb]
 |0,.tuple _,x,h=>by simp_all[jb]
 | n+1,.iface t v,x,h=>by
   simp only[jb]at h;split at h
   ·rename_i y a;cases h;exact .iface t _ _ (A8 Δ n v _ a)
   ·cases h
 | n+1,.agg cs,x,h=>by
   simp only[jb]at h;split at h
   ·rename_i y a;cases h;exact .agg _ _ (Cm Δ n _ _ a)
   ·cases h
 | n+1,.tuple cs,x,h=>by
   simp only[jb]at h;split at h
   ·rename_i y a;cases h;exact .tuple _ _ (Cm Δ n _ _ a)
   ·cases h
 |_,.float _ _,x,h=>by grind[jb]
 |_,.complex _ _ _,x,h=>by grind[jb]
 |_,.chan _,x,h=>by grind[jb]
 |_,.func _ _ _,x,h=>by grind[jb]
theorem Cm (Δ:Env):∀(n:Nat) (v:List Value) (x:List V),v.mapM (jb n)=some x->dS Δ x v
 |_,[],x,h=>by simp at h;subst h;exact .nil
 | n,v::vs,x,h=>by
   simp only[List.mapM_cons,Option.bind_eq_bind,Yu,Option.pure_def,Option.some.injEq]at h;obtain⟨y,a,ys,c,rfl⟩:=h;exact .cons _ _ _ _ (A8 Δ n v y a) (Cm Δ n vs ys c)
end
@[match_pattern] abbrev _root_.Go.Proofs.YtpfjdlicdljhaaaDoor.Hx.V.I (n:Int):Go.Proofs.YtpfjdlicdljhaaaDoor.Hx.V:=.int .i64 n
